import Derived.Test.YtfnlfpcfkbdcmaaGreatDoorL21
import Derived.Test.YtfnlfpcfkbdcmaaGreatDoorL22
import Derived.Test.YtfnlfpcfkbdcmaaGreatDoorL23
set_option linter.unusedSimpArgs false
set_option linter.unusedVariables false
set_option maxRecDepth 100000
set_option maxHeartbeats 0
open Go.Proofs.Tryz
namespace Go.Proofs.YtfnlfpcfkbdcmaaGreatDoor
variable {base:Nat}{w:World}
section
section
open Go.RowKit
theorem nu (b:qn) (a:Nat):(∀t∈(dt b a).2,t.1<256)/\(dt b a).2.length<=a:=by
 unfold dt;split
 ·exact⟨λt ht=>(by cases ht),qp _⟩
 ·rename_i h1;split
  ·exact⟨λt ht=>(by cases ht),qp _⟩
  ·have c:=(Ue (by simpa using h1)).1;refine⟨λt ht=>gY c _ _ _ _ (λt ht=>by cases ht) t ht, ?_⟩;have:=UR (ls:=(YM b 265 0).2.1) (lf:=(YM b 12 (YM b 265 0).2.2).2.1) (b:=b) (a+1) a (YM b 12 (YM b 265 0).2.2).2.2 [] uK;simp only [zF] at this;dsimp only;omega
def VJ (W:World) (r:Int×qn) (e:Ending) (a:World):Prop:=
 ∃b c,e= .returned (.tuple #[.slice b r.2 c, .int .i64 r.1])/\Reads a a 1 b r.2 (r.2.map B8)/\Below W W a
theorem Er (W:World) (gf gc way n p:Nat) (x:q') (c1:Nat) (j:qn) (A:q') (N cap:Nat) (b:qn) (c:Cu) (h:Fr W gf gc way n p (.slice x j c1) A N cap b c) (hr:Reads W W.heap.size 1 x j (j.map B8)) (hn:n<=32768) (hy:j.length<=100000000):
  Calls prog 225 #[.pointer gf] W (VJ W (dT way n p j)):=by
 have H:=qj h;have HR:=qj hr;obtain⟨R,a⟩:=j1 (dT way n p j);rw [<-a];unfold dT at a;obtain⟨q0,q1,q2,q3,m⟩:=h.cells;clear h hr;by_cases L:way=0
 ·rw [qk L] at a;subst L;by_cases Z:n=p
  ·subst Z;have o:=qj (a.trans (qJ s8));have hd:((n:Int) !=(n:Int))=false:=s8;clear a;go_enter func225,JO;go_wp2;go_quiet (fail);have G':(W.drewN nq).cell? ⟨gf,4,none⟩=some (.slice x j c1):=m;go_wp2;go_ret2;unfold VJ;rw [o.out];exact⟨x,c1,rfl,HR.drewN _,((Dr.refl W).drewN nq).below _⟩
  ·have o:=qj (a.trans (qk Z));have hd:((n:Int) !=(p:Int))=true:=SZ;have I': ¬(n:Int)=(p:Int):=uK;clear a Z;go_enter func225,JO;go_wp2;go_quiet (fail);go_wp2;go_ret2;unfold VJ;rw [o.out];exact⟨none,0,rfl,Reads.none_,((Dr.refl W).drewN nq).below _⟩
 ·rw [qJ L] at a;have J':((way:Int)==0)=false:=SZ;have D': ¬(way:Int)=0:=uK;have u:=qj (Tx x j c1 W.heap.size n j W.drew (HR.drew) (qx _) hy uK);obtain⟨O,u'⟩:=nu j n;generalize dt j n=T at*;obtain⟨Q,l⟩:=T;dsimp only at a O u';unfold po at u;dsimp only at u;clear L;replace O:=qj O;by_cases S:Q=0
  focus
   subst S;rw [qJ s8] at a;have F:=qj (λA c B w h hB=>MU A c B (n:Int) l w h hB uK O uK);generalize Yc (n:Int) l=P at*;obtain⟨M,U⟩:=P;dsimp only at a F;by_cases V:M=0
   focus
    subst V;rw [qJ s8] at a;by_cases d':U.length<n
    focus
     have o:=qj (a.trans (qk d'));have z':(U.length:Int)<(n:Int):=uK
    rotate_left
    focus
     have o:=qj (a.trans (qJ d'));have z': ¬(U.length:Int)<(n:Int):=uK
    rotate_left
   rotate_left 2
   focus
    have o:=qj (a.trans (qk V));have p':((M)==0)=false:=by simpa using V
    have m':((M) !=0)=true:=by simpa using V
   rotate_left
  rotate_left 3
  focus
   have o:=qj (a.trans (qk S));have p':((Q)==0)=false:=by simpa using S
   have m':((Q) !=0)=true:=by simpa using S
  rotate_left
  all_goals
   clear a;go_enter func225,JO;go_wp2_with fail;refine zv 14 (λW=>W.cell? ⟨gf,4,none⟩=some (.slice x j c1)/\W.cell? ⟨gf,2,none⟩=some (n:Value)) AL ⟨m,q2⟩ (λq=> ?_);refine zq [0,1,2,3,4,5] (a':= ?_) ?_;refine zq [6,7] (a':= ?_) ?_;refine carried 8 rfl AL SQ (λK r=> ?_);go_simp
   (go_at_call 249;((with_reducible refine(u.out).mono ?_);rintro e f ⟨G,c2,rfl,t,k⟩);have d: ∀(i:Nat) {v:Value},W.cell? ⟨gf,i,none⟩=some v->f.cell? ⟨gf,i,none⟩=some v:=λi v E=>(k.cell (p:=⟨gf,i,none⟩) (H.out.blk.lt)).trans E)
   refine r _ _ (⟨d 4 m,d 2 q2⟩) (λq=>xg ?_);clear r K;refine zq [9,10,11,12,13] (a':= ?_) ?_;refine zV AL ?_ _;have g:Hid (Below W.heap.size W f):=(qZ W.heap.size W).drew.trans k;have y:=qj (Reads.zY t);have z:=d 2 q2;clear u t k d q q0 q1 q2 q3 m
  rotate_left;rotate_left;rotate_left
  ·go_wp2;go_ret2;unfold VJ;rw [o.out];exact⟨none,0,rfl,Reads.none_,g⟩
  all_goals
   have C:=qj (F G c2 f f y (qx _));go_wp2_with fail;refine C.mono ?_;rintro e I ⟨A3,Y,rfl,D,s⟩;have J:=qj (g.trans (s.mono g.size));have X:=qj (Reads.zY D);have iL:I.cell? ⟨gf,2,none⟩=some (n:Value):=(s.cell (p:=⟨gf,2,none⟩) (qB H.blk.lt g.size)).trans z;clear D s z;go_wp2;go_ret2;unfold VJ;rw [o.out]
  ·exact⟨none,0,rfl,Reads.none_,J⟩
  ·exact⟨A3,Y,rfl,X,J⟩
  ·exact⟨none,0,rfl,Reads.none_,J⟩
end
end
section
section
open Go.RowKit
theorem Tv (b:qn):(kE b).1.length<=32768:=by
 have a:=(gV b).2;show(jW b (Vl b).1 (gP b)).1.length<=_;unfold jW;dsimp only;split
 ·exact qp _
 ·rw [qh,show(((Vl b).1:Nat):Int).toNat=(Vl b).1 from rfl];omega
def Ct (W:World) (b:qn) (e:Ending) (a:World):Prop:=
 Below W W a/\(((UZ b).err≠0/\e= .returned (.tuple #[.pointer none,zn, .int .i64 (UZ b).err]))\/
  ((UZ b).err=0/\ ∃gf g c d f c1 A N cap,e= .returned (.tuple #[.pointer (some ⟨gf,0,none⟩), .slice c (dT (kF b).1.toNat (ki b).1 (Vl b).1 (kE b).1).2.length d, .int .i64 (dT (kF b).1.toNat (ki b).1 (Vl b).1 (kE b).1).1])/\
   Reads a a 1 c (dT (kF b).1.toNat (ki b).1 (Vl b).1 (kE b).1).2.length ((dT (kF b).1.toNat (ki b).1 (Vl b).1 (kE b).1).2.map B8)/\
   Fr a gf g (kF b).1.toNat (ki b).1 (Vl b).1 (.slice f (kE b).1.length c1) A N cap b (UZ b)))
theorem Et (m:Option Addr) (j B:Nat) (b:List UInt8) (W:World) (ht:Tab W) (h:Reads W B 1 m b.length (b.map B8)) (r:B<=W.heap.size) (hn:b.length<=100000000) (D':b.length<=j) (p':j<=maxLen):
  Calls prog 191 #[.slice m b.length j] W (Ct W b):=by
 have Y:=qj (Qk m b.length j B b W h r uK);have HR:=qj (h.more r);have D:=qj ht;have OX:=Tv b;have u':=(gV b).1;have w:=qj (λq gf a way n u A N cap ht h C r hg M'=>Tz q gf a way n u A N cap b m j W.heap.size ht h C r hg D' p' M');unfold Ce at w;have H:=qj (λW gf a u A N cap h=>Tq W gf a u A N cap b h);unfold Ca at H;have z:=qj (λq gf a A1 c1 A N cap (h:Fr q gf a _ _ _ _ A N cap b _) C=>Er q gf a (kF b).1.toNat (ki b).1 (Vl b).1 A1 c1 (kE b).1 A N cap b (UZ b) h C u' uK);unfold Ct;generalize dT (kF b).1.toNat (ki b).1 (Vl b).1 (kE b).1=R at*
 generalize (kF b).1.toNat=way at*
 generalize (ki b).1=n3 at*
 generalize (Vl b).1=p4 at*
 generalize (kE b).1=ys at*
 generalize gP b=c5 at*
 generalize UZ b=i at*
 clear ht h;go_enter func191,ntmps191
 go_wp2_with fail;refine Y.mono ?_;rintro e d ⟨a,A,cap,rfl,t,T,m',p⟩;have X:Hid (Fr (d.alloc (.cells #[.pointer a,(),(),(), .slice none 0 0] 291)) d a 0 0 0 (.slice none 0 0) A b.length cap b ⟨0,0⟩):=
  ⟨Blk.new _ _ _,t.fresh ((qZ _ _).alloc (qx _) _),λe=>by have:=t.blk.lt;omega⟩
 have x:Hid (Below W.heap.size W (d.alloc (.cells #[.pointer a,(),(),(), .slice none 0 0] 291))):=p.alloc p.size _;have l:Hid (W.heap.size<=d.heap.size/\W.heap.size<=a):=⟨p.size,T⟩;clear Y t T m' p;have K:=qj (H.out _ _ _ _ _ _ _ X);clear H
 go_wp2_with fail;generalize d.alloc (.cells #[.pointer a,(),(),(), .slice none 0 0] 291)=w2 at*
 generalize d.heap.size=gf at*
 have y:Hid (∀k∈[gf,a],W.heap.size<=k):=λk V=>by
  simp only [qL,xj,Ze] at V;rcases V with rfl|rfl
  ·exact l.out.1
  ·exact l.out.2
 refine K.mono ?_;rintro e w3 ⟨rfl,J,P⟩;have S:=qj J;have f:=qj (x.trans (P.below y x.size));clear K J P X x;have d':=qj (w.out w3 gf a _ _ _ A b.length cap (D.below f D.pos) S (HR.below f) f.size l D.pos);clear w
 go_wp2_with fail;refine d'.mono ?_;rintro e I ⟨rfl,O,M,L,Z,Q⟩;have g:=qj Z;have s:=qj (f.trans (O.below y f.size));have G':=qj (Reads.zY Q);have o:=qj (jg I a A b.length cap b i g.cur);obtain⟨q0,-,-,-,-⟩:=g.cells;clear d' Z O Q S f y l;by_cases c:i.err=0
 ·have v:=qj (z.out I gf a M L A b.length cap g G')
  unfold VJ at v;rw [c] at o;clear z
  go_wp2_with fail;refine o.mono ?_;rintro e w' ⟨rfl,rfl⟩
  go_wp2_with fail;refine v.mono ?_;rintro e w5 ⟨A5,J',rfl,U,F⟩;have iL:=qj (g.fresh F);have z':=qj (s.trans (F.mono s.size));have I':=qj U;replace c:=qj c;clear v o U F g s q0
  go_wp2_with fail
  go_ret3;exact⟨z'.out, .inr ⟨c.out,gf,a,A5,J',M,L,A,b.length,cap,rfl,I'.out,iL.out⟩⟩
 ·have N':(i.err==0)=false:=by simpa using c
  have N9:(i.err !=0)=true:=by simpa using c
  have N6:=qj c;clear z;generalize G:i.err=E at*
  replace G:=qj G
  go_wp2_with fail;refine o.mono ?_;rintro e w' ⟨rfl,rfl⟩
  go_wp2_with fail
  go_ret3;refine⟨s.out, .inl ?_⟩;rw [G.out];exact⟨N6.out,rfl⟩
theorem gK (d:Nat): ∀(n:Nat) (a:qn),(PI d n a).length=a.length+n
 |0,a=>rfl
 |n+1,a=>by
  unfold PI;rw [gK d n,qK,zJ];omega
theorem ua (a:Int): ∀(l:List (Nat×Int×Int)) (b:qn),(b.length:Int)<=a->((Vk a l b).2.length:Int)<=a
 |[],b,h=>h
 |t::r,b,h=>by
  have c:0<=a:=uK;rw [pY];split
  ·exact c
  ·rename_i h1
   split
   ·exact c
   ·split
    ·exact c
    ·rename_i h3
     split
     ·refine ua a r _ ?_
      rw [qK,zJ];omega
     ·rename_i h4
      refine ua a r _ ?_;rw [gK];rcases H4 (by simpa using h1) with h5|h5
      ·exact absurd h5.1 h4
      ·omega
theorem Bd {way n p m:Nat} {a:qn} (c:n<=m) (b:a.length<=m):(dT way n p a).2.length<=m:=by
 unfold dT;split
 ·split
  ·exact qp _
  ·exact b
 ·split
  ·exact qp _
  ·split
   ·exact qp _
   ·split
    ·exact qp _
    ·have:=ua (n:Int) (dt a n).2 [] (by show((0:Nat):Int)<=_;omega);have e:Yc (n:Int) (dt a n).2=Vk n (dt a n).2 []:=by unfold Yc;rw [qJ uK]
     rw [e];dsimp only;omega
def Bf (W:World) (r:Int×qn×Nat) (e:Ending) (c:World):Prop:=
 ∃b a,e= .returned (.tuple #[.slice b r.2.1.length a, .int .i64 r.2.2, .int .i64 r.1])/\yG W c 5 b r.2.1.length a (r.2.1.map B8)
theorem DK (w:Option Addr) (s B:Nat) (b:List UInt8) (W:World) (ht:Tab W) (h:Reads W B 1 w b (b.map B8)) (hB:B<=W.heap.size) (hn:b.length<=100000000) (Y:b.length<=s) (T:s<=maxLen):
  Calls prog 154 #[.slice w b s] W (Bf W (Ft b)):=by
 have q:=qj (Et w s B b W ht h hB hn Y T);have a:Ft b=if fc b≠0 then(fc b,[],0) else(0,H9 b,(UZ b).at_):=rfl
 have g:fc b=if(UZ b).err≠0 then(UZ b).err else(dT (kF b).1.toNat (ki b).1 (Vl b).1 (kE b).1).1:=rfl
 have i:H9 b=if(UZ b).err≠0 then [] else(dT (kF b).1.toNat (ki b).1 (Vl b).1 (kE b).1).2:=rfl
 have O:(dT (kF b).1.toNat (ki b).1 (Vl b).1 (kE b).1).2.length<=100000000:=qv (Bd (m:=32768) (gV b).1 (Tv b)) uK;unfold Ct at q;generalize dT (kF b).1.toNat (ki b).1 (Vl b).1 (kE b).1=R at*
 generalize (kF b).1.toNat=way at*
 generalize (ki b).1=n3 at*
 generalize (Vl b).1=p4 at*
 generalize (kE b).1=ys at*
 generalize UZ b=f at*
 generalize fc b=V at*
 generalize H9 b=X at*
 generalize Ft b=y at*
 obtain⟨E,j⟩:=R;dsimp only at q g i O;replace a:=qj a;replace g:=qj g;replace i:=qj i;clear ht h;go_enter func154,ntmps154
 go_wp2_with fail;refine q.mono ?_;rintro e r ⟨I,Z⟩;have l:=qj I;clear q I;rcases Z with⟨c,rfl⟩|⟨c,gf,H,S,P,A1,c1,A,N,cap,rfl,C,t⟩
 ·have n:Hid (y=(f.err,[],0)):=by rw [Hid,a.out,g.out,qk c,qk c]
  have U:(f.err==0)=false:=by simpa using c
  have Q:(f.err !=0)=true:=by simpa using c
  generalize f.err=e8 at*
  clear a g i
  go_wp2_with fail
  go_ret3;unfold Bf;rw [n.out];exact⟨none,0,rfl,qP _ _ _ _,l.out⟩
 ·have d:V=E:=by rw [g.out,qJ (by simpa using c)]
  have M:X=j:=by rw [i.out,qJ (by simpa using c)]
  rw [d,M] at a;clear d M g i c;by_cases d:E=0
  ·have n:Hid (y=(0,j,f.at_)):=by rw [Hid,a.out,qJ (by simpa using d)]
   subst d;have v:=qj t;have x:=qj (yV S j P r j r.drew (C.drew) (qx _) uK);obtain⟨q0,-,-,-,-⟩:=t.cells;unfold jQ at x;clear a C t;generalize F:f.at_=k at*
   replace F:=qj F
   go_wp2_with fail;refine zv 10 (λW=>W.cell? gf=some (.pointer H)) AL q0 (λz=> ?_)
   refine zq [0,2,3,4,5] (a':= ?_) ?_;refine carried 1 rfl AL SQ (λK J=> ?_);go_simp
   (go_at_call 55;((with_reducible refine(x.out).mono ?_);rintro e D ⟨L,c2,rfl,o⟩);have u:D.cell? gf=some (.pointer H):=(o.2.cell (p:= gf) v.out.blk.lt).trans q0;have G:=qj (JJ D H A N cap b f ((v.out.drew.fresh o.2).cur));rw [F.out] at G)
   refine J _ _ (u) (λz=> ?_);clear J K;try simp only [Act.put,qQ,qY,qV]
   refine vf 6 G ?_;rintro e w' ⟨rfl,rfl⟩;refine⟨_,rfl,(u),λz=> ?_⟩;refine zq [7,8,9] (a':= ?_) ?_;refine zV AL ?_ _;have d':Hid (yG W D 5 L j c2 (j.map B8)):=⟨qi o.1 (show W.heap.size<=r.drew.heap.size from l.size),l.drew.trans (o.2.mono (show W.heap.size<=r.drew.heap.size from l.size))⟩
   clear x o G u z q0 v
   go_wp2_with fail
   go_ret3;unfold Bf;rw [n.out];exact⟨L,c2,rfl,d'.out⟩
  ·have n:Hid (y=(E,[],0)):=by rw [Hid,a.out,qk d]
   have U:(E==0)=false:=by simpa using d
   have Q:(E !=0)=true:=by simpa using d
   clear a C t
   go_wp2_with fail
   go_ret3;unfold Bf;rw [n.out];exact⟨none,0,rfl,qP _ _ _ _,l.out⟩
end
end
section
variable {W:World}{d:Nat}
section
open Go.RowKit
theorem kT (b:qn) (f:Nat) (c:Cu) (a:List Nat):Q5 b (f+1) c a=if c.err≠0 then(a,c) else Q5 b f (jU b 2000 c).2 (a++[(jU b 2000 c).1]):=rfl
theorem EI (b:qn) (f:Nat) (c:Cu) (a:List Nat) (h:c.err≠0):Q5 b f c a=(a,c):=by cases f with|zero=>rfl|succ f=>rw [kT,qk h]
theorem UW (b:qn) (size n:Nat) (zs:List Nat) (i:Nat) (hi:i<zs.length) (c:Cu) (a:List qn):yr b size n (zs.drop i) c a=
  if(jW b zs[i] c).2.err≠0 then((jW b zs[i] c).2.err,[],0)
  else if(QV (jW b zs[i] c).1 (min size n) true ⟨0,0⟩ a).1≠0 then((QV (jW b zs[i] c).1 (min size n) true ⟨0,0⟩ a).1,[],0)
  else yr b size (n-size) (zs.drop (i+1)) (jW b zs[i] c).2 (QV (jW b zs[i] c).1 (min size n) true ⟨0,0⟩ a).2:=by
 rw [zK hi];rfl
theorem YF (b:qn) (size n:Nat) (c:Cu) (a:List qn):yr b size n [] c a=if c.err≠0 then(c.err,[],0) else(0,a,c.at_):=by
 unfold yr;rfl
theorem kW (b:qn): ∀(n:Nat) (first:Bool) (c:Cu) (a:List qn),(QV b n first c a).2.length<=a.length+n
 |0,first,c,a=>qx _
 |n+1,first,c,a=>by
  rw [ue];split
  ·dsimp only;omega
  ·have:=kW b n false (JE b (a.getLastD []) first c).2 (a++[(JE b (a.getLastD []) first c).1])
   rw [qK,zJ] at this;omega
theorem kS (b:qn): ∀(n:Nat) (first:Bool) (c:Cu) (d:List qn),px d->px (QV b n first c d).2
 |0,first,c,d,h=>h
 |n+1,first,c,d,h=>by
  rw [ue];split
  ·exact h
  ·rename_i e
   refine kS b n false _ _ (λs a=> ?_);rcases zt.1 a with a|a
   ·exact h s a
   ·rw [qy] at a
    subst a;have:=Dp b (d.getLastD []) _ c (by simpa using e)
    omega
theorem Ba:Hid (px []):=λs a=>by cases a
theorem BA (a b k:Nat) (h:k=min a b):(if(b:Int)<(a:Int) then(b:Int) else(a:Int))=(k:Int):=by rw [h];split<;>omega
theorem gR (a b k:Nat) (h:k=min a b):(if b<a then(b:Int) else(a:Int))=(k:Int):=by rw [h];split<;>omega
theorem Be (b:qn) (k:Nat) (c:Cu):(jW b k c).1.length<=b.length:=by
 unfold jW;dsimp only;split
 ·exact qp _
 ·rw [qh,qI];omega
theorem Cur.low {e:World} {B N cap:Nat} {A:q'} {b:qn} {c:Cu} (h:Cur W d A N cap b c) (f:Below B W e) (j:d<B) (g: ∀k∈fpS A,k<B):Cur e d A N cap b c:=
 ⟨h.blk.below f j,zI h.own λa i=>f.block _ (g _ (ZO.2 (by rw [i];rfl))),h.le,h.lim⟩
theorem qE.low {l:List Nat} {V w':World} (h:qE l V w) (a:Below V w w'):qE l V w':=⟨a.os.trans h.os,a.tape.trans h.tape,a.output.trans h.output,qv h.size a.size,λk b c=>(a.block k b).trans (h.block k b c)⟩
def Wm (W:World) (size:Int) (r:Int×List qn×Nat) (e:Ending) (a:World):Prop:=
 Below W W a/\((r.1≠0/\e= .returned (.tuple #[.pointer none,(), .int .i64 r.1]))\/(r.1=0/\ ∃g b,e= .returned (.tuple #[.pointer (some ⟨g,0,none⟩),(r.2.2:Int),()])/\W.heap.size<=g/\DtI a W g size r.2.1 b/\r.2.1.length<=2000000/\px r.2.1))
theorem DtI.Vg {b g:Nat} {size:Int} {e:List qn} (h:DtI W base g size e d) (c:b<=base):DtI W b g size e d:=by
 obtain⟨j,i,f,ch,k,a⟩:=h;exact⟨j,i,f,_,k,a.blk,qi a.ot c,qi a.oh c,a.ap,qv c a.bs,qv c a.gb⟩
theorem Co (size:Int) (e:q') (N c:Nat) (b:qn) (W:World) (a:size<1\/64<size):
  Calls prog 197 #[size, .slice e N c] W (Wm W size (D0 size b)):=by
 have d:D0 size b=(13,[],0):=qk a;rw [d];rcases a with h|h
 ·go_wp2;go_ret3;exact⟨qZ _ _, .inl ⟨FV,rfl⟩⟩
 ·have h0: ¬size<1:=uK;go_wp2;go_ret3;exact⟨qZ _ _, .inl ⟨FV,rfl⟩⟩
theorem El (size:Nat) (Ab:q') (N c B:Nat) (b:qn) (W:World) (hr:Reads W B 1 Ab N (b.map B8)) (hB:B<=W.heap.size) (hN:N<=1000000000) (hs1:1<=size) (hs2:size<=64):
  Calls prog 197 #[size, .slice Ab N c] W (Wm W size (D0 size b)):=by
 obtain⟨i0,hi,hz0,hz1,hz2⟩:=xt XM;have KN:=qj (Qk Ab N c B b W hr hB hN);obtain⟨R,U⟩:=j1 (D0 size b);rw [<-U];unfold D0 at U;rw [qJ uK] at U;dsimp only at U;rw [zc] at U;have hm:=vX b 1048576 ⟨0,0⟩ uK;have Q:=λW' g A cap (h:Cur W' g A N cap b ⟨0,0⟩)=>qj (yK W' g A N cap b ⟨0,0⟩ 1048576 h uK);replace Q:=qj Q;generalize jU b 1048576 ⟨0,0⟩=ic at*;obtain⟨n,c0⟩:=ic;dsimp only at U hm;have hn:n<=1048576:=uK;clear hm;obtain⟨q,hq⟩:=j1 ((n+size-1)/size);rw [<-hq] at U;have N6: ∀j,j*size<n↔j<q:=λj=>by
  rw [hq];constructor
  ·intro h;have:(j+1)*size<=n+size-1:=by rw [ql];omega
   exact(yJ uK).2 this
  ·intro h;have:(j+1)*size<=n+size-1:=(yJ uK).1 h;rw [ql] at this;omega
 have hqn:q<=n:=by
  rw [hq];rcases zA n with h|h
  ·subst h;rw [jL,xW uK];omega
  ·apply Nat.div_le_of_le_mul;obtain⟨e,rfl⟩: ∃e,size=e+1:=⟨size-1,uK⟩;obtain⟨f,rfl⟩: ∃f,n=f+1:=⟨n-1,uK⟩;rw [Nat.add_mul,Nat.mul_add];omega
 replace N6:=qj N6;have hR0:Hid (yr b size n (Q5 b q c0 []).1 (Q5 b q c0 []).2 []=R):=U.symm;have hs1': ¬(size:Int)<1:=uK;have hs2': ¬(64:Int)<(size:Int):=uK;clear hq U;go_in;go_wp2_with fail;refine KN.mono ?_;rintro e w1 ⟨v,A,cap,rfl,hc,hgc,hfA,hB1⟩;have r:=qj hc;have HB1:=qj hB1;have Y:=qj hgc;have HFA:=qj hfA;have KI1:=Q w1 v A cap hc;unfold jS at KI1;clear hc hgc hfA hB1;go_wp2_with fail;refine zC KI1 ?_;rintro w2 ⟨hc2,N9⟩;have Z:=qj hc2;have d':=qj (HB1.trans (N9.below (B:=W.heap.size) (λk a=>by rw [qy.1 a];exact Y) HB1.size));clear KI1 hc2 N9;go_wp2;go_loopw [9,10] (λv9 v10 wr=> ∃(j p c3:Nat) (A3:q') (F:Cu) (s:List Nat),v9= .slice A3 j c3/\v10=(p:Value)/\j<=q/\Hid (p=j*size)/\p<=n+64/\Hid (s.length=j)/\Hid (Q5 b (q-j) F s=Q5 b q c0 [])/\Hid (Cur wr v A N cap b F)/\Hid (wr.ownsRow W 3 1 (.slice A3 j c3) j (s.map NV))/\Hid (Below W W wr)) (λ_ v10 _=>(n+64)-(intOf v10).toNat)
 ·exact⟨0,0,0,none,c0,[],rfl,rfl,qp _,V3,uK,rfl,rfl,Z,qP _ _ _ _,d'⟩
 ·obtain⟨j,p,c3,A3,F,s,rfl,rfl,hj,HP,hp,HL,HG,r,P,w⟩:=hrel;have t:=qj (jg wr v A N cap b F r);by_cases hlt:p<n
  focus
   have hlt':=j' p n;have hjq:j<q:=(N6 j).1 (HP.out▸hlt);obtain⟨f,hf⟩: ∃f,q-j=f+1:=⟨q-j-1,uK⟩;have hf2:q-(j+1)=f:=uK;have N':=HG.out;rw [hf,kT] at N';by_cases m:F.err=0
   ·rw [qJ (by simpa using m)] at N';rw [m] at t;have Q:=qj (yK wr v A N cap b F 2000 r uK);generalize jU b 2000 F=ic at*;obtain⟨x,o⟩:=ic;dsimp only at N';unfold jS at Q;dsimp only at Q;have HG3:Hid (Q5 b (q-(j+1)) o (s++[x])=Q5 b q c0 []):=by rw [hf2];exact N'
    have hb1:j+1<=maxLen:=SJ;have hb2:(j+1)*8<=140737488355328:=uK;have hps:(p:Int)+(size:Int)<9223372036854775808:=uK;have hol:Hid ((s++[x]).length=j+1):=by rw [Hid,qK,HL.out];rfl
    have X:Hid (p+size=(j+1)*size):=by rw [Hid,ql,HP.out]
    clear HG N' hf hf2;go_wp2_with fail;refine Ω t ?_;go_wp2_with fail;refine zC Q ?_;rintro w2 ⟨hc2,N9⟩;have Z:=qj hc2;have HO2:=qj (N9.own P (λk a O'=>qT P r.blk FV k a (qy.1 O')));have d':=qj (w.trans (N9.below (B:=W.heap.size) (λk a=>by rw [qy.1 a];exact Y) w.size));clear hc2 N9 r P w;go_wp2_with (at_builtin;refine qF _ rfl (.tmp 39) (.tmp 42) 62 rfl W 3 i0 () 1 8 jj hi hz0 hz1 hz2 rfl uK A3 j c3 _ rfl (HO2.alloc _) (w2.heap.size+1) w2 1 1 [.int .i64 (x:Int)] rfl (zU _ _ _) (one_one rfl) hb1 hb2 (qv d'.size s8) ?_;intro A4 c4 G M hg4 _;have k4:jO [3] W w2 G:=((jO.refl _ _ _).alloc d'.size (.cells #[x] 3)).grown (HO2.alloc (.cells #[x] 3)) s8 (qx _) (qv d'.size s8) hg4;have J':Hid (Cur G v A N cap b o):=⟨k4.blk Z.blk FV,k4.own Z.own FV,Z.le,Z.lim⟩;have HB4:=qj (d'.trans k4.below);replace M:=qj M;clear hg4 k4);have z':Hid (G.ownsRow W 3 1 (.slice A4 (j+1) c4) (j+1) ((s++[x]).map NV)):=by rw [Hid,qg];exact M.out
    refine xk ?_;exact⟨j+1,p+size,c4,A4,o,s++[x],xb,xb,uK,X,uK,hol,HG3,J',z',HB4⟩
   focus
    have OX:Hid (yr b size n s F []=R):=by rw [Hid,<-hR0.out,<-HG.out,hf,EI _ _ _ _ (by simpa using m)]
    have he2:(F.err==0)=false:=by simpa using m
    generalize I:F.err=E at*;replace I:=qj I;clear hf hf2 N' m;go_wp2_with fail;refine Ω t ?_
  rotate_left
  focus
   have hge:=vv p n;have hjq:j=q:=by
    have: ¬j<q:=λh=>hlt (HP.out▸(N6 j).2 h);omega
   have OX:Hid (yr b size n s F []=R):=by
    have h:=HG.out;rw [hjq,xO] at h;rw [Hid,<-hR0.out,<-h];rfl
  all_goals
   go_wp2_with fail;obtain⟨V,hV⟩:=j1 wr;subst hV;have hgd:Hid (v<V.heap.size):=r.blk.lt;have hfd:Hid (∀k∈fpS A,k<V.heap.size):=λk a=>(zj r.own k a).2;have HOV:=P;have hne:=qj (qT P r.blk FV);have HD0:Hid (DtI (V.alloc (.cells #[zn,size,zn] 343)) V V (size:Int) [] 0):=⟨none,0,none,0,[],Blk.new _ _ _,qP _ _ _ _,qP _ _ _ _,by simp [fpS],s8,qx _⟩;have HC0:Hid (Cur (V.alloc (.cells #[zn,size,zn] 343)) v A N cap b F):=r.fresh (z8 _);have U':Hid (qE [v] V (V.alloc (.cells #[zn,size,zn] 343))):=(qE.refl _ _).alloc _;clear r P HG HP;generalize V.alloc (.cells #[zn,size,zn] 343)=w3 at*;go_loopw [49] (λG' wq=> ∃(i C p:Nat) (o:Cu) (ts:List qn),G'=(i:Value)/\i<=j/\C<=i/\Hid (p=i*size)/\ts.length<=p/\p<=n+64/\Hid (px ts)/\Hid (yr b size (n-p) (s.drop i) o ts=R)/\Hid (Cur wq v A N cap b o)/\Hid (DtI wq V V (size:Int) ts C)/\Hid (qE [v] V wq)) (λG' _=>j-(intOf G').toNat)
   ·exact⟨0,0,0,F,[],rfl,qp _,qp _,(jd _).symm,qp _,qp _,Ba,OX,HC0,HD0,U'⟩
   ·obtain⟨i,C,l,o,ts,rfl,hi,hnh,X,hts,hp2,u',T,r,HD,O⟩:=hrel;have S':Hid (Below W W wr):=w.trans (O.below (λk a=>by rw [qy.1 a];exact Y) w.size);by_cases S:i<j
    focus
     have hlt3:=j' i j;have hi0:=xi i;have P':i<s.length:=by rw [HL.out];exact S
     obtain⟨ad,u,rfl,-,hu,hcell⟩:=(Reads.zY (O.own HOV (λk a O'=>hne.out k a (qy.1 O')))).at_ S;rw [qD,qX P'] at hu;have d:=T.out;rw [UW b size _ s i P'] at d;have hpn:l<n:=by rw [X.out];exact(N6 i).2 (qB S hj)
     have KT:=qj (Qs wr v A N cap b o (s[i]:Nat) r);have Y':=Be b s[i] o;generalize s[i]=z at*;have hu2:u=(z:Value):=(zy hu).symm;subst hu2;generalize jW b (z:Int) o=tc at*;obtain⟨K,H⟩:=tc;dsimp only at d Y';unfold X1 at KT;have hys:K.length<=1000000000:=by rw [r.len] at Y';omega
     obtain⟨k,a⟩:=j1 (min size (n-l));rw [<-a] at d;have hk64:k<=64:=by rw [a];exact qv (xK _ _) hs2
     have hbt:ts.length<=2000000:=qv hts (qv (zr hpn) (qv hn FV));have hbn:C<=2000000:=qv hnh (qv (zr S) (qv hj (qv hqn (qv hn FV))));have hks:k<=size:=by rw [a];exact xK _ _
     have hprod:(i:Int)*(size:Int)=(l:Int):=by rw [X.out,zB]
     have hsub:(n:Int)-(l:Int)=((n-l:Nat):Int):=(Int.ofNat_sub (zr hpn)).symm;have hnp1:n-l<=1048576:=qv (Qd _ _) hn;have hmn:min (size:Int) ((n-l:Nat):Int)=(k:Int):=uK;have hnp:Hid (n-l-size=n-(l+size)):=Nat.sub_sub _ _ _;generalize n-l=np at*;replace a:=qj a;replace d:=qj d;clear hu T;go_wp2_with fail;refine KT.mono ?_;rintro e G ⟨A1,c1,rfl,D',iL,M⟩;have J':=qj D';have Q':Hid (DtI G V V (size:Int) ts C):=by
      obtain⟨At,ct,Ah,ch,hs,hd⟩:=HD.out;exact⟨At,ct,Ah,ch,hs,hd.cur r iL⟩
     have m':=qj (O.then iL);have z':=qj (Reads.zY M);have t:=qj (jg G v A N cap b H D');clear D' iL M r HD O;by_cases m:H.err=0
     ·have y:=d.out;rw [qJ (by simpa using m)] at y;rw [m] at t;have KF:=qj (Uw G V V G k C c1 (size:Int) A1 K K ts Q' z' (qx _) hys (qv hk64 FV) hbt hbn u');have hfl:=kW K k true ⟨0,0⟩ ts;have hfs:=qj (kS K k true ⟨0,0⟩ ts u');generalize QV K k true ⟨0,0⟩ ts=fg at*;obtain⟨er,ts2⟩:=fg;dsimp only at y hfl;dsimp only at KF;replace y:=qj y;go_wp2_with fail;refine Ω t ?_;go_wp2_with fail;refine KF.mono ?_;rintro e w5 ⟨rfl,⟨nh5,Z',hnh5⟩,I'⟩;have HC5:=qj (J'.low I' hgd hfd);have HD5:=qj Z';have X':=qj (m'.low I');clear Z' I' hprod hsub hmn;by_cases J:er=0
      ·have p':=y.out;rw [qJ (by simpa using J)] at p';have HR5:Hid (yr b size (n-(l+size)) (s.drop (i+1)) H ts2=R):=by rw [Hid,<-hnp.out];exact p'
       have HP3:Hid (l+size=(i+1)*size):=by rw [Hid,X.out,ql]
       subst J;clear p';go_wp2_with fail;refine xk ?_;exact⟨i+1,nh5,l+size,H,ts2,xb,uK,uK,HP3,uK,uK,hfs,HR5,HC5,HD5,X'⟩
      ·have D:Hid (R=(er,[],0)):=by rw [Hid,<-y.out,qk J]
       have her2:(er==0)=false:=by simpa using J
       have M':Hid (Below W W w5):=w.trans (X'.below (λk a=>by rw [qy.1 a];exact Y) w.size);have L:=qj J;clear J;go_wp2;go_ret3;rw [D.out];exact⟨M', .inl ⟨L,rfl⟩⟩
     focus
      have D:Hid (R=(H.err,[],0)):=by rw [Hid,<-d.out,qk m]
      have he2:(H.err==0)=false:=by simpa using m
      have L:=qj m;have M':Hid (Below W W G):=w.trans (m'.below (λk a=>by rw [qy.1 a];exact Y) w.size);generalize I:H.err=E at*
     rotate_left
    rotate_left
    focus
     obtain rfl:i=j:=uK;have hge3:=vv i i;have t:=qj (jg wr v A N cap b o r);have KA:=qj (JJ wr v A N cap b o r);have d:=T.out;rw [zD (by rw [HL.out];exact qx _),YF] at d;replace d:=qj d;clear T;by_cases m:o.err=0
     ·have D:Hid (R=(0,ts,o.at_)):=by rw [Hid,<-d.out,qJ (by simpa using m)]
      rw [m] at t;have hqq:ts.length<=2000000:=uK;go_wp2_with fail;refine Ω t ?_;go_wp2_with fail;refine Ω KA ?_;go_wp2;go_ret3;rw [D.out];exact⟨S', .inr ⟨rfl,V,C,rfl,w.size,HD.out.Vg w.size,hqq,u'⟩⟩
     focus
      have D:Hid (R=(o.err,[],0)):=by rw [Hid,<-d.out,qk m]
      have he2:(o.err==0)=false:=by simpa using m
      have L:=qj m;generalize I:o.err=E at*
     rotate_left
    rotate_left
    all_goals
     replace I:=qj I;clear m;go_wp2_with fail;refine Ω t ?_;go_wp2;go_ret3;rw [D.out]
    ·exact⟨M', .inl ⟨L,rfl⟩⟩
    ·exact⟨S', .inl ⟨L,rfl⟩⟩
end
end
section
variable {b:qn}{e:Int}{n:Nat}
section
section
def hZ (b:qn) (c a:Cu):Prop:=c.at_<=a.at_/\(c.at_<=b.length->a.at_<=b.length)
theorem hZ.refl (b:qn) (c:Cu):hZ b c c:=⟨qx _,id⟩
theorem hZ.trans {c a d:Cu} (h:hZ b c a) (e:hZ b a d):hZ b c d:=⟨qv h.1 e.1,λx=>e.2 (h.2 x)⟩
theorem ax (b:qn):(vR b).length<=b.length:=by
 unfold vR;split
 ·exact qp _
 ·split
  ·rw [qh];omega
  ·exact qp _
theorem M_ (b:List UInt8):(pg b).2.1.length<=b.length:=by
 unfold pg;repeat' (first|exact qp _|split)
 dsimp only;rw [qh];omega
end
end
end
section
variable {P:List (qn×Nat)}{t:qn}
section
open Go.RowKit Go.Maps Go.ChangeShapes
def jl:Nat->List Rec->List (qn×Nat)
 |_,[]=>[]
 |i,r::l=>(kp r).map (λt=>(t,i))++jl (i+1) l
def yd (t:qn) (P:List (qn×Nat)):List Nat:=(P.filter λp=>decide (p.1=t)).map (·.2)
def uj (l:List Nat):List Int:=l.map λn:Nat=>(n:Int)
theorem gI: ∀(i:Nat) (l:List Rec) (r:Rec),jl i (l++[r])=jl i l++(kp r).map λt=>(t,i+l.length)
 |i,[],r=>by simp [jl]
 |i,a::l,r=>by
  show(kp a).map (λt=>(t,i))++jl (i+1) (l++[r])=_
  rw [gI (i+1) l r,qf,<-jY,show i+1+l.length=i+(l.length+1) by omega]
  rfl
theorem Pe: ∀(i:Nat) (l:List Rec) (t:qn),t∈(jl i l).map (·.1)↔t∈(l.map kp).flatten
 |i,[],t=>by simp [jl]
 |i,r::l,t=>by
  have a:=Pe (i+1) l t;unfold jl;rw [qg,zt,a,jy,xI,zt];simp
theorem uE (t:qn) (P Q:List (qn×Nat)):yd t (P++Q)=yd t P++yd t Q:=by simp [yd]
theorem WI (t:qn) (i:Nat): ∀T:List qn,T.Nodup->yd t (T.map λs=>(s,i))=if t∈T then [i] else []
 |[],_=>rfl
 |s::T,h=>by
  rw [List.nodup_cons] at h;have a:=WI t i T h.2;unfold yd at a⊢;rw [jy,QQ];by_cases b:s=t
  ·subst b
   rw [qJ h.1] at a;simp only [decide_true,if_true,jy,a];rw [qk (qo ..)]
  ·simp only [b,decide_false,Bool.false_eq_true,if_false,a,qL]
   by_cases ht:t∈T
   ·rw [qk ht,qk (.inr ht)]
   ·rw [qJ ht,qJ (λh=>h.elim (λe=>b e.symm) ht)]
theorem E6 (r:Rec):(kp r).Nodup:=by
 have h:SS (kp r):=Cv _;exact h.imp λ{a b} c e=>by subst e;rw [kZ] at c;cases c
theorem Br (t:qn): ∀(i:Nat) (l:List Rec),yd t (jl i l)=pF t i l
 |i,[]=>rfl
 |i,r::l=>by
  unfold jl;rw [uE,WI t i _ (E6 r),Br t (i+1) l];rw [show pF t i (r::l)=if t∈kp r then i::pF t (i+1) l else pF t (i+1) l from rfl]
  by_cases h:t∈kp r
  ·rw [qk h,qk h];rfl
  ·rw [qJ h,qJ h];rfl
theorem E7 (s:qn): ∀l,(Pn s l).length<=l.length+1
 |[]=>qx _
 |x::t=>by
  unfold Pn;split
  ·exact jv _
  ·split
   ·exact qx _
   ·rw [qf,qf];have:=E7 s t;omega
theorem PE: ∀(l o:List qn),(l.foldl (λo s=>Pn s o) o).length<=o.length+l.length
 |[],o=>qx _
 |s::l,o=>by
  rw [List.foldl_cons];have h1:=PE l (Pn s o);have h2:=E7 s o;rw [qf];omega
theorem ko: ∀(s row:qn) (a:List qn),(fo s row a).length<=a.length+s.length+1
 |[],row,a=>by
  unfold fo PS;split
  ·show a.length<=_;omega
  ·rw [qK];simp
 |c::t,row,a=>by
  unfold fo;cases fI c with
  |some x=>
   have:=ko t (row++[x]) a;rw [qf];dsimp only;omega
  |none=>
   have:=ko t [] (PS row a);have h2:(PS row a).length<=a.length+1:=by
    unfold PS;split
    ·exact jv _
    ·rw [qK];simp
   rw [qf];dsimp only;omega
theorem BR (r:Rec) (h1:r.src.length<=4000) (h2:r.txt.length<=4000):(kp r).length<=10000:=by
 have h:=PE (hH r.txt++(hH r.src).map (64:: ·)) [];have a:=ko r.txt [] [];have b:=ko r.src [] [];rw [qK,zH] at h;unfold kp Fb;unfold hH at h⊢;simp only [zF] at h a b;omega
theorem Ku: ∀(i:Nat) (l:List Rec),(∀r∈l,r.src.length<=4000/\r.txt.length<=4000)->(jl i l).length<=10000*l.length
 |i,[],_=>qx _
 |i,r::l,h=>by
  unfold jl;rw [qK,zH,qf];have h1:=Ku (i+1) l (λx a=>h x (qM _ a));have h2:=h r (qo ..);have h3:=BR r h2.1 h2.2;omega
theorem MW {a b:List Int} (h:lits (H:=Unit) .i64 a=lits .i64 b):a=b:=by
 unfold lits at h;have:=List.map_inj_right (f:=λn:Int=>(DataW.lit (Lit.int .i64 n):DataW Unit)) (λx y e=>by injection e with e;injection e)|>.1 h;exact this
structure GD (D:DataW Unit) (P:List (qn×Nat)):Prop where
 im:Maps.IsMap D
 has_: ∀t:qn,Maps.has D (.string t)=decide (t∈P.map (·.1))
 at_: ∀t:qn,t∈P.map (·.1)->D.atKey (.string t) .nil= .slice (lits .i64 (uj (yd t P))) []
theorem GD.nil:GD (.map []) []:=⟨Maps.isMap_empty,λt=>rfl,λt h=>by cases h⟩
theorem MS (h:t∉P.map (·.1)):yd t P=[]:=by
 unfold yd;rw [List.filter_eq_nil_iff.2 (λp a=>by
  rw [jo];rintro rfl;exact h (jB.2 ⟨p,a,rfl⟩))]
 rfl
theorem GD.look {D:DataW Unit} (h:GD D P) {e:TypeId} {v:Value} {zs:List Int} (a:D.atKey (.string t) .nil=rowDatum .i64 v zs) (c:w.ownsInts base e .i64 v zs):zs=uj (yd t P):=by
 by_cases b:t∈P.map (·.1)
 ·rw [h.at_ t b] at a;rcases c.datum (H:=Unit) with⟨h1,-⟩|h1
  ·rw [h1] at a;cases a
  ·rw [h1] at a;injection a with a;exact(MW a).symm
 ·rw [MS b];have d:=h.has_ t;rw [qc b] at d;rw [Maps.atKey_of_not_has d] at a;rcases c.datum (H:=Unit) with⟨-,h1⟩|h1
  ·exact h1
  ·rw [h1] at a;cases a
theorem GD.snoc {D:DataW Unit} (h:GD D P) (t:qn) (i:Nat):GD (D.put (.string t) (.slice (lits .i64 (uj (yd t P)++[(i:Int)])) [])) (P++[(t,i)]):=by
 refine⟨h.im.put _ _,λs=> ?_,λs b=> ?_⟩
 ·by_cases a:s=t
  ·subst a;rw [Maps.has_put_same h.im (show WideAt.IsKeyLit (.string s) from trivial)];exact(qw s8).symm
  ·rw [Maps.has_put_other (by simpa using a),h.has_ s];simp [a]
 ·by_cases a:s=t
  ·subst a;rw [Maps.atKey_put_same h.im (show WideAt.IsKeyLit (.string s) from trivial),uE];simp [yd,uj]
  ·rw [Maps.atKey_put_other (by simpa using a),h.at_ s (by
    rw [qg,zt] at b;exact b.resolve_right (by simp [a]))]
   rw [uE];have:yd s [(t,i)]=[]:=by simp [yd];exact λe=>a e.symm
   rw [this,jx]
theorem GD.keys {D:DataW Unit} (h:GD D P) (ht:Maps.Tidy D) (k: ∀c,D= .map c-> ∀p∈c,∃x,p.1= .string x) {ss:List qn} (i:ss.Perm (strKeys D)) (m:List qn) (n: ∀t,t∈m↔t∈P.map (·.1)):(ss.mergeSort λx y=>decide (x<=y))=Fb m:=by
 obtain⟨c,rfl,r⟩:=ht;have g:=k c rfl;have l:(strKeys (.map c)).Nodup:=by
  show(c.map λp=>strOf p.1).Nodup;refine List.pairwise_map.2 (r.imp_of_mem λ{p q} d u s e=>s ?_);obtain⟨a,f⟩:=g p d;obtain⟨b,j⟩:=g q u;rw [f,j] at e⊢;exact zo _ e
 refine mK ss m (i.nodup_iff.2 l) λx=> ?_;rw [i.mem_iff,n x,<-jo (p:=x∈P.map (·.1)),<-h.has_ x,Maps.has_eq,ZQ];show x∈c.map (λp=>strOf p.1)↔_;rw [jB];constructor
 ·rintro⟨p,d,rfl⟩;obtain⟨a,f⟩:=g p d;refine⟨p,d, ?_⟩;rw [f];simp [strOf,Lit.sameKey]
 ·rintro⟨p,d,o⟩;exact⟨p,d,by rw [WideAt.sameKey_eq o];rfl⟩
end
end
section
section
open Go.RowKit Go.Shelf
attribute [local go_sem] J4
def Ym (A:q') (ch N x:Nat):Value:= .slice (A.map (·.add (x*ch))) (min ch (N-x*ch)) (min ch (N-x*ch))
theorem NZ (A:q') (n c i s ch:Nat) (g:s=i+ch) (h1:1<=ch) (e:s<=c) (W:World):
  (Instr.slice 99 (.slice A n c) (some (i:Value)) (some (s:Value)) (some (s:Value))).run prog W= .ok (.slice (A.map (·.add i)) ch ch) W:=by
 have ht:prog.underlying 99=some (.slice (prog.elem 99)):=AL;rw [run_slice_lhm W _ A n c ht .i64 .i64 .i64 (i:Int) _ (s:Int) uK uK (Int.le_refl _) uK];have b:(sizeOf (prog.elem 99)).run prog W= .ok 1 W:=by
  obtain⟨j,hi,f,a,h⟩:=qA XJ;have d:prog.elem 99=9:=AL;rw [d];simp [sizeOf,typeInfo,hi,a]
 rw [b];simp only [Result.andThen,zc,sliced];rw [qJ uK,z_,show s-i=ch by omega]
theorem G9 (F:Fence) (n:Nat) (hf:F.fn 178) (D:F.round=none) (hn:1<=n) (l z y:Nat) (A:Option Addr) (N c ch q:Nat) (S: ∀k,k<q↔k*ch<N) (h1:1<=ch) (P':ch<=1000) (hc:N<=c) (O':N<=100000000) (J X:List (Fin q)->World->Prop) (V: ∀s W m,J s W->J s (W.drewN m))
  (U: ∀d x W,J d W->d.length<q->YieldAt F (n-1) prog l #[Ym A ch N x.val] W λe g=>
   (e= .returned (.bool true)/\J (d++[x]) g/\QP z y W g)\/(e= .returned (.bool false)/\X (d++[x]) g))
  (W:World) (G':W.cell? z=some (.slice A N c)) (OX:W.cell? y=some (ch:Value)) (h0:J [] W):
  CallsIn F n prog 178 #[.func (.yield l) #[] #[], .pointer z, .pointer y] W λe g=>(∃v,e= .returned v)/\
   ((∃R,R=List.finRange q/\J R g)\/(∃d,(∃k,k<=q/\d=(List.finRange q).take k)/\X d g)):=by
 obtain⟨i0,hi,N6,O,N'⟩:=qA XJ;have w:=qj (λ(i:Nat) (h:i<=N)=>jI (P:=prog) 99 9 i0 1 jD hi O A N c i .i64 h);have u:=qj (λ(i s L:Nat) (h2:s=i+L) (h1:1<=L) (h3:s<=c)=>NZ A N c i s L h2 h1 h3);clear hi N6 O N';have T:=qj S;clear S;refine callsIn_of_wp func178 rfl hf ?_ D;simp only [ntmps178,xd,qf,zF,Nat.reduceAdd,Nat.reduceSub,ya,yA,QI,yI,xY,Qy]
 gi_wp2
 gi_loopw [4] (λG wr=> ∃k i:Nat,k<=q/\G=(i:Value)/\i<=100001000/\Hid (i=k*ch)/\J ((List.finRange q).take k) wr/\QP z y W wr)
  (λG _=>N-(intOf G).toNat)
 case atStart=>exact⟨0,0,qp _,rfl,qp _,by show 0=0*ch;rw [jd],h0,QP.refl _ _ _⟩
 case round=>
  obtain⟨k,i,hk,rfl,S',f,r,t⟩:=hrel;have c1:=(t _).1 G';have c2:=(t _).2 OX;by_cases a:k<q
  ·have U':i<N:=by rw [f.out];exact(T.out k).1 a
   by_cases Q:N-i<ch
   focus
    have B:i+(N-i)<=N:=uK
    have I':(i:Int)<(N:Int):=uK;obtain⟨s,b⟩: ∃s,s=i+(N-i):=⟨_,rfl⟩;have d':s<=1000000000:=uK;have J':i<s:=uK;have M':(s:Int)<=(c:Int):=uK;have hcut:=w.out i uK;have N9:=u.out i s (N-i) b uK uK;have iL:N-i<ch:=Q;have m':min (ch:Int) ((N-i:Nat):Int)=((N-i:Nat):Int):=uK;have o:Ym A ch N (⟨k,a⟩:Fin q).val= .slice (A.map (·.add i)) (N-i) (N-i):=by
     unfold Ym;dsimp only;rw [<-f.out];rw [show min ch (N-i)=(N-i) by omega]
    have u':(0:Int)<=((N-i:Nat):Int):=uK;generalize A.map (·.add i)=Ai at*
    have z':1<=(N-i):=uK;have Z:(i:Int)+(((N-i):Nat):Int)=(s:Int):=uK
   rotate_left
   focus
    have B:i+ch<=N:=uK
    have I':(i:Int)<(N:Int):=uK;obtain⟨s,b⟩: ∃s,s=i+ch:=⟨_,rfl⟩;have d':s<=1000000000:=uK;have J':i<s:=uK;have M':(s:Int)<=(c:Int):=uK;have hcut:=w.out i uK;have N9:=u.out i s ch b uK uK;have iL: ¬N-i<ch:=Q;have m':min (ch:Int) ((N-i:Nat):Int)=(ch:Int):=uK;have o:Ym A ch N (⟨k,a⟩:Fin q).val= .slice (A.map (·.add i)) ch ch:=by
     unfold Ym;dsimp only;rw [<-f.out];rw [show min ch (N-i)=ch by omega]
    have u':(0:Int)<=((N-i:Nat):Int):=uK;generalize A.map (·.add i)=Ai at*
    have z':1<=ch:=uK;have Z:(i:Int)+((ch:Nat):Int)=(s:Int):=uK
   all_goals
    generalize p:N-i=ni at*
    replace p:=qj p;clear w u B;replace b:=qj b
    gi_wp2
    refine wpIn_region_quiet_lit D AL AL ?_;repeat (gi_big_quiet_step (fail))
    refine wpQuietIn_nil ?_;intro _ C;obtain⟨nq,I⟩:=C;subst I;obtain⟨fn,tmps,p',D',M,K⟩:=U _ ⟨k,a⟩ (wr.drewN nq) (V _ _ _ r) (by rw [qh,ye];omega)
    rw [o] at M;clear o hcut
    gi_wp2
    refine K.mono ?_;rintro e W3 (⟨rfl,H,j⟩|⟨rfl,E⟩)
    ·have Y:=(j _).2 c2
     gi_wp2
     go_roundw
     case rel=>exact⟨k+1,i+ch,uK,by first|rfl|(simp;done)|(simp;omega),uK,by show i+ch=(k+1)*ch;rw [ql,<-f.out],by rw [Vv q k a];exact H,t.trans (λv=>j v)⟩
     case measure=>simp [intOf];omega
    ·gi_wp2
     refine qW (results_none rfl _ _ _) rfl ?_;exact⟨⟨_,rfl⟩, .inr ⟨_,⟨k+1,uK,(Vv q k a).symm⟩,E⟩⟩
  ·obtain rfl:k=q:=uK
   have Q':(N:Int)<=(i:Int):=by have h:=λe=>(T.out k).2 e;have:=f.out;have: ¬k*ch<N:=λe=>Nat.lt_irrefl _ (h e);omega
   rw [qH s8] at r
   gi_wp2
   go_end0
   exact⟨⟨_,rfl⟩, .inl ⟨_,rfl,r⟩⟩
theorem G_ (F:Fence) (n:Nat) (B:F.fn 178) (o:F.round=none) (C:1<=n) (b a:Nat) (A:q') (N c ch q:Nat) (u: ∀k,k<q↔k*ch<N) (h1:1<=ch) (v:ch<=1000) (D:N<=c) (j:N<=100000000) (w:World)
  (H:w.cell? b=some (.slice A N c)) (G:w.cell? a=some (ch:Value)) (d:b<w.heap.size) (i:a<w.heap.size):
  SeqStopsK F n prog 178 #[.pointer b, .pointer a] (λx:Fin q=> #[Ym A ch N x.val]) (QP b a) (λt=>t=List.finRange q) (λh=> ∃k,k<=q/\h=(List.finRange q).take k) q w:=λl J E W g y _ z h0=>
 G9 F n B o C l b a A N c _ q u h1 v D j J E (λs f m d=>y s f _ none d ⟨rfl,rfl,rfl,qx _,λ_ _ _=>rfl⟩ (λr e=>by cases e)) z W ((g.cell (p:= b) d).trans H) ((g.cell (p:= a) i).trans G) h0
def fP (a b:Nat):Value:= .func (.func 178) #[] #[.pointer a, .pointer b]
theorem Ti (A:q') (N c ch:Nat) (w:World) (h1:1<=ch):
  Calls prog 127 #[.slice A N c,ch] w λe w'=>e= .returned (fP w (w.heap.size+1))/\(w.alloc (.cells #[.slice A N c] 99)).alloc (.cells #[ch] 3)=w':=by
 unfold fP;have a: ¬((ch:Int)<1):=uK;go_wp2;go_ret;exact⟨rfl,rfl⟩
end
end
section
section
open Go.RowKit
theorem Ur (A:q') (n c B:Nat) (bs:qn) (P':Bool) (w:World) (ht:Tab w) (h:Reads w B 1 A n (bs.map B8)) (hB:B<=w.heap.size) (hn:n<=32768) (hq:P'=false->Sq (P9 bs)):
  Calls prog 33 #[.slice A n c,P'] w (Qr 5 w (Fx bs P') 0):=by
 have H:=qj h;have t:=qj ht;have HB:=qj hB;have Z':bs.length=n:=by have:=h.len;simpa using this
 have Y':=qj Z';have hn1: ¬(32768:Int)<(n:Int):=uK;obtain⟨R,hR⟩:=j1 (Fx bs P');rw [<-hR];have hE:(if 32768<bs.length then(6:Int) else 0)=0:=qJ uK;have E:R=HU (g8 P' bs) n (uX P' bs):=by
  rw [hR];unfold Fx ck;rw [qk hE,Z']
 clear hR h ht hB Z' hE;cases P'
 focus
  have KS:=qj (EC A n c B _ w H HB hn (hq rfl));unfold iY at KS;have X':g8 false bs=decide ((Kh bs).length<n):=by unfold g8;rw [Y'.out];rfl
  rw [X'] at E;unfold uX at E;rw [X'] at E;generalize Kh bs=sq at*;by_cases U':sq.length<n
  ·rw [qw U',qk rfl] at E;have O':Hid (R=VY ([1]++xv n++xv sq.length++sq)):=E;rw [qw U'] at KS;have hsn:sq.length<=32768:=uK;clear E hq X' U';go_in;go_wp2_with fail;refine KS.mono ?_;rintro e a ⟨A1,c1,rfl,G'⟩;have HY:=qj (Reads.zY G'.1);have I:=qj G'.2;clear G';generalize hm:sq.length=m at*;have wn:IntKind.u64.wrap (n:Int)=(n:Int):=by rw [qS];omega
   have wm:IntKind.u64.wrap (m:Int)=(m:Int):=by rw [qS];omega
   have X:Reads (a.alloc (.cells #[.int .u8 1] 5)) (a.heap.size+1) 1 a 1 ([(1:UInt8)].map B8):=zU _ _ _;have OX:Below a a (a.alloc (.cells #[.int .u8 1] 5)):=z8 _;have N':=qj (HY.below (OX.mono (qx _)));have u:=qj (I.alloc I.size (.cells #[.int .u8 1] 5));have d':=qj X;have F:Hid (a.heap.size<=(a.alloc (.cells #[.int .u8 1] 5)).heap.size):=qv (qx _) s8;have v:Hid (a.heap.size+1<=(a.alloc (.cells #[.int .u8 1] 5)).heap.size):=by rw [Hid];simp
   have P:=qj (vW n (a.alloc (.cells #[.int .u8 1] 5)) uK);have y:=λW=>qj (vW m W uK);have hl1:=(jn n).2;have hl2:=(jn m).2;unfold jQ at P y;clear X OX;go_wp2_with fail;refine P.mono ?_;rintro e x ⟨l,c2,rfl,f⟩;generalize xv n=b,a.alloc (.cells #[.int .u8 1] 5)=wa at*;have N6:=qj (N'.below (f.2.mono F));have V:=qj (d'.below (f.2.mono v));have S:=qj (u.trans (f.2.mono u.size));have u':=qj f.reads;have T:=qj (qv F f.2.size);have G:=qj (qv v f.2.size);clear f;go_wp2_with fail;refine(y _).out.mono ?_;rintro e g ⟨o,k,rfl,d⟩;generalize xv m=xm at*;have I':=qj (N6.below (d.2.mono T));have N9:=qj (V.below (d.2.mono G));have m':=qj (u'.below d.2);have iL:=qj d.reads;have N:=qj (S.trans (d.2.mono S.size));have K:=qj (qv T d.2.size);have D':=qj (qv G d.2.size);have J':=qj d.2.size;have O:=qj (Xe g a l o 1 b _ 1 c2 k _ b _ (N9.more D') (m'.more J') iL uK);have D:=qj (N.alloc N.size (.cells #[.slice a 1 1, .slice l b c2, .slice o xm k] 30));have Z:=qj (I'.below (((qZ _ g).alloc (qx _) (.cells #[.slice a 1 1, .slice l b c2, .slice o xm k] 30)).mono K));have J:Hid (a.heap.size<=(g.alloc (.cells #[.slice a 1 1, .slice l b c2, .slice o xm k] 30)).heap.size):=qv K s8;unfold jQ at O;clear y;go_wp2_with fail;refine O.mono ?_;rintro e w4 ⟨A4,c4,rfl,j⟩;have hhl:([(1:UInt8)]++b++xm).length<=100:=SZ;generalize g.alloc (.cells #[.slice a 1 1, .slice l b c2, .slice o xm k] 30)=wb,[(1:UInt8)]++b++xm=i at*;have L:=qj (Z.below (j.2.mono J));have z':=qj j.reads;have z:=qj (D.trans (j.2.mono D.size));have Y:=qj (qv J j.2.size);clear j;have M:=qj (Yz _ _ _ i m c4 c1 i _ z' (L.more Y) uK);have r:=qj (z.alloc z.size (.cells #[.slice A4 i c4, .slice A1 m c1] 30));unfold jQ at M;go_wp2_with fail;refine M.mono ?_;rintro e w5 ⟨A5,c5,rfl,q⟩;have Q:=jC q.1;have p:=qj (r.trans (q.2.mono r.size));have p':=qj (t.below p t.pos);have S':sq.length=m:=by have:=L.len;simpa using this
   have s:=qj (XI _ _ _ _ _ _ p' q.reads (qx _) Q.1 Q.2 (by rw [qK];omega));have M':Hid (R.length=(i++sq).length+4):=by
    rw [Hid,O'.out,ve]
   clear q Q S';unfold jQ at s;rw [<-M'.out] at s;generalize i++sq=fb at*;go_wp2_with fail;refine s.mono ?_;rintro e w6 ⟨A6,c6,rfl,C⟩;have U:=C.1;rw [<-O'.out] at U;have HF:Hid (yG w w6 5 A6 R c6 (R.map B8)):=⟨qi U p.size,p.trans (C.2.mono p.size)⟩;clear C U;go_wp2;go_ret2;exact⟨_,_,rfl,HF⟩
  focus
   rw [qc U'] at E KS;have O':Hid (R=VY ([0]++xv n++xv n++bs)):=by rw [Hid,E];unfold HU;simp only [Bool.false_eq_true,if_false,Y'.out]
   clear E hq X' U';go_in;go_wp2_with fail;refine KS.mono ?_;rintro e a ⟨A1,c1,rfl,G'⟩;have HY:=qj (H.below (G'.2.mono HB));have I:=qj G'.2;have hBw:=qj (qv HB G'.2.size);clear G';have wn:IntKind.u64.wrap (n:Int)=(n:Int):=by rw [qS];omega
   have X:Reads (a.alloc (.cells #[.int .u8 0] 5)) (a.heap.size+1) 1 a 1 ([(0:UInt8)].map B8):=zU _ _ _;have OX:Below a a (a.alloc (.cells #[.int .u8 0] 5)):=z8 _;have N':=qj (HY.below (OX.mono hBw));have u:=qj (I.alloc I.size (.cells #[.int .u8 0] 5));have d':=qj X;have F:Hid (B<=(a.alloc (.cells #[.int .u8 0] 5)).heap.size):=qv hBw s8;have v:Hid (a.heap.size+1<=(a.alloc (.cells #[.int .u8 0] 5)).heap.size):=by rw [Hid];simp
   have P:=qj (vW n (a.alloc (.cells #[.int .u8 0] 5)) uK);have y:=λW=>qj (vW n W uK);have hl1:=(jn n).2;unfold jQ at P y;clear X OX;go_wp2_with fail;refine P.mono ?_;rintro e x ⟨l,c2,rfl,f⟩;generalize xv n=b,a.alloc (.cells #[.int .u8 0] 5)=wa at*;have N6:=qj (N'.below (f.2.mono F));have V:=qj (d'.below (f.2.mono v));have S:=qj (u.trans (f.2.mono u.size));have u':=qj f.reads;have T:=qj (qv F f.2.size);have G:=qj (qv v f.2.size);clear f;go_wp2_with fail;refine(y _).out.mono ?_;rintro e g ⟨o,k,rfl,d⟩;have I':=qj (N6.below (d.2.mono T));have N9:=qj (V.below (d.2.mono G));have m':=qj (u'.below d.2);have iL:=qj d.reads;have N:=qj (S.trans (d.2.mono S.size));have K:=qj (qv T d.2.size);have D':=qj (qv G d.2.size);have J':=qj d.2.size;have O:=qj (Xe g a l o 1 b b 1 c2 k _ b b (N9.more D') (m'.more J') iL uK);have D:=qj (N.alloc N.size (.cells #[.slice a 1 1, .slice l b c2, .slice o b k] 30));have Z:=qj (I'.below (((qZ _ g).alloc (qx _) (.cells #[.slice a 1 1, .slice l b c2, .slice o b k] 30)).mono K));have J:Hid (B<=(g.alloc (.cells #[.slice a 1 1, .slice l b c2, .slice o b k] 30)).heap.size):=qv K s8;unfold jQ at O;clear y;go_wp2_with fail;refine O.mono ?_;rintro e w4 ⟨A4,c4,rfl,j⟩;have hhl:([(0:UInt8)]++b++b).length<=100:=SZ;generalize g.alloc (.cells #[.slice a 1 1, .slice l b c2, .slice o b k] 30)=wb at*
 rotate_left
 focus
  have hw:g8 true bs=false:=by unfold g8;simp
  have O':Hid (R=VY ([0]++xv n++xv n++bs)):=by
   rw [Hid,E,hw];unfold HU uX;simp only [hw,Bool.false_eq_true,if_false,Y'.out]
  clear E hq hw;have HY:=H;have I:Hid (Below w w w):=qZ _ _;go_in;have wn:IntKind.u64.wrap (n:Int)=(n:Int):=by rw [qS];omega
  have wm:IntKind.u64.wrap (n:Int)=(n:Int):=by rw [qS];omega
  have X:Reads (w.alloc (.cells #[.int .u8 0] 5)) (w.heap.size+1) 1 w 1 ([(0:UInt8)].map B8):=zU _ _ _;have OX:Below w w (w.alloc (.cells #[.int .u8 0] 5)):=z8 _;have N':=qj (HY.below (OX.mono HB));have u:=qj (I.alloc I.size (.cells #[.int .u8 0] 5));have d':=qj X;have F:Hid (B<=(w.alloc (.cells #[.int .u8 0] 5)).heap.size):=qv HB s8;have v:Hid (w.heap.size+1<=(w.alloc (.cells #[.int .u8 0] 5)).heap.size):=by rw [Hid];simp
  have P:=qj (vW n (w.alloc (.cells #[.int .u8 0] 5)) uK);have y:=λW=>qj (vW n W uK);have hl1:=(jn n).2;have hl2:=(jn n).2;unfold jQ at P y;clear X OX HY;go_wp2_with fail;refine P.mono ?_;rintro e x ⟨l,c2,rfl,f⟩;generalize xv n=b,w.alloc (.cells #[.int .u8 0] 5)=wa at*;have N6:=qj (N'.below (f.2.mono F));have V:=qj (d'.below (f.2.mono v));have S:=qj (u.trans (f.2.mono u.size));have u':=qj f.reads;have T:Hid (B<=x.heap.size):=qv F f.2.size;have G:Hid (w.heap.size+1<=x.heap.size):=qv v f.2.size;clear f;go_wp2_with fail;refine(y _).out.mono ?_;rintro e g ⟨o,k,rfl,d⟩;have I':=qj (N6.below (d.2.mono T));have N9:=qj (V.below (d.2.mono G));have m':=qj (u'.below d.2);have iL:=qj d.reads;have N:=qj (S.trans (d.2.mono S.size));have K:Hid (B<=g.heap.size):=qv T d.2.size;have D':Hid (w.heap.size+1<=g.heap.size):=qv G d.2.size;have J':Hid (x.heap.size<=g.heap.size):=d.2.size;have O:=qj (Xe g w l o 1 b b 1 c2 k [(0:UInt8)] b b (N9.more D') (m'.more J') iL uK);have D:=qj (N.alloc N.size (.cells #[.slice w 1 1, .slice l b c2, .slice o b k] 30));have Z:=qj (I'.below (((qZ _ g).alloc (qx _) (.cells #[.slice w 1 1, .slice l b c2, .slice o b k] 30)).mono K));have J:Hid (B<=(g.alloc (.cells #[.slice w 1 1, .slice l b c2, .slice o b k] 30)).heap.size):=qv K s8;unfold jQ at O;clear y;go_wp2_with fail;refine O.mono ?_;rintro e w4 ⟨A4,c4,rfl,j⟩;have hhl:([(0:UInt8)]++b++b).length<=100:=SZ;generalize g.alloc (.cells #[.slice w 1 1, .slice l b c2, .slice o b k] 30)=wb at*
 all_goals
  generalize [(0:UInt8)]++b++b=i at*;have L:=qj (Z.below (j.2.mono J));have z':=qj j.reads;have z:=qj (D.trans (j.2.mono D.size));have Y:=qj (qv J j.2.size);clear j;have M:=qj (Yz _ _ A i n c4 c i _ z' (L.more Y) uK);have r:=qj (z.alloc z.size (.cells #[.slice A4 i c4, .slice A n c] 30));unfold jQ at M;go_wp2_with fail;refine M.mono ?_;rintro e w5 ⟨A5,c5,rfl,q⟩;have Q:=jC q.1;have p:=qj (r.trans (q.2.mono r.size));have p':=qj (t.below p t.pos);have S':bs.length=n:=by have:=L.len;simpa using this
  have s:=qj (XI _ _ _ _ _ _ p' q.reads (qx _) Q.1 Q.2 (by rw [qK];omega));have M':Hid (R.length=(i++bs).length+4):=by
   rw [Hid,O'.out,ve]
  clear q Q S';unfold jQ at s;rw [<-M'.out] at s;generalize i++bs=fb at*;go_wp2_with fail;refine s.mono ?_;rintro e w6 ⟨A6,c6,rfl,C⟩;have U:=C.1;rw [<-O'.out] at U;have HF:Hid (yG w w6 5 A6 R c6 (R.map B8)):=⟨qi U p.size,p.trans (C.2.mono p.size)⟩;clear C U;go_wp2;go_ret2;exact⟨_,_,rfl,HF⟩
end
end
end Go.Proofs.YtfnlfpcfkbdcmaaGreatDoor
