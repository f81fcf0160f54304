import Derived.Test.YtfnlfpcfkbdcmaaGreatDoorL34
import Derived.Test.YtfnlfpcfkbdcmaaGreatDoorL36
import Derived.Test.YtfnlfpcfkbdcmaaGreatDoorL37
set_option linter.unusedSimpArgs false
set_option linter.unusedVariables false
set_option maxRecDepth 100000
set_option maxHeartbeats 0
open Go.Proofs.Tryz
namespace Go.Proofs.YtfnlfpcfkbdcmaaGreatDoor
open Go.RowKit
variable {T:TypeId}{g:Nat}
theorem UI: ∀(l:List Nat) (b:qn),∀f∈dW l b,f.length<=b.length
 |[],_,f,h=>by cases h
 |n::t,b,f,h=>by
  rcases qL.1 h with rfl|h
  ·rw [qh];omega
  ·have:=UI t (b.drop n) f h
   rw [qI] at this;omega
theorem rH (o:Opt) (b:qn): ∀f∈(Zo o b).2.JB,f.length<=b.length:=by
 have c:(pg b).2.1.length<=b.length:=by
  unfold pg;split
  ·exact qp _
  ·split
   ·exact qp _
   ·show(b.take _).length<=_;rw [qh];omega
 unfold Zo;dsimp only;have a: ∀f∈([]:List qn),f.length<=b.length:=λf h=>by cases h
 split
 ·exact a
 ·split
  ·exact a
  ·split
   ·exact a
   ·split
    ·exact a
    ·split
     ·exact a
     ·split
      ·exact a
      ·intro f h;exact qv (UI _ _ f h) c
theorem Ul (o:Opt) (b:qn) (W:World) (base g:Nat) (ht:Tab W) (h:Bdy W base g (Zo o b).2) (d:(Zo o b).1=0) (c:b.length<=100000000):
  Calls prog 80 #[.pointer g] W (Bi W (F2 (Zo o b).2)):=
 rF W base g _ ht h (aP o b d) (λf a=>qv (rH o b f a) c) (rU o b).1 (rU o b).2
theorem Ts (b:qn) (h:(Vh b).1=0): ∃o a,(Vh b).2.2=(Zo o a).2/\(Zo o a).1=0/\a.length<=b.length:=by
 unfold Vh at h⊢;dsimp only at h⊢;split at h
 ·rename_i h1;exact absurd h h1
 ·rename_i h1;split at h
  ·cases h
  ·rename_i h2;split at h
   ·rename_i h3;exact absurd h h3
   ·rename_i h3;split at h
    ·rename_i h4;exact absurd h h4
    ·rename_i h4;rw [qJ h1,qJ h2,qJ h3,qJ h4];exact⟨_,_,rfl,ym.1 h4,by rw [qI];omega⟩
theorem G0 (A:q') (n c:Nat) (b:qn) (W:World) (ht:Tab W) (h:Reads W W 1 A n (b.map B8)) (hc:n<=c) (hm:c<=maxLen) (hn:n<=100000000):
  Calls prog 45 #[.slice A n c] W (P_ W (Zk (Vh b))):=by
 obtain⟨R,j⟩:=j1 (Zk (Vh b));rw [<-j];unfold Zk at j;dsimp only at j;rw [show(⟨0,false,0,0,0,0⟩:Opt)=opZ from rfl] at j;have D:Below W W (W.alloc (.cells #[(),false,(),(),(),()] 23)):=z8 _;have y:Hid (Blk (W.alloc (.cells #[(),false,(),(),(),()] 23)) W 23 (opA opZ)):=Blk.new _ _ _;have HT:=qj ht;have B:=qj D;have hbn:b.length=n:=h.len;have G:=rh A n c b (W.alloc (.cells #[(),false,(),(),(),()] 23)) (ht.below D ht.pos) ((h.below D).more D.size) hc hm hn;have d':=Ts b;unfold Gj at G;generalize Vh b=ob at*;obtain⟨E,o,x⟩:=ob;dsimp only at j G d';have hoz:opA o= #[.int .i64 o.blk, .bool o.plain, .int .i64 o.bkt, .int .i64 o.data, .int .i64 o.par, .int .i64 o.chunk]:=rfl;have hzz:opA opZ= #[.int .i64 0, .bool false, .int .i64 0, .int .i64 0, .int .i64 0, .int .i64 0]:=rfl;by_cases X:E=0
 focus
  subst X;rw [qJ s8] at j;obtain⟨o',b',S',N9,Z'⟩:=d' rfl;have p':=aP o' b' N9;have N:Hid (Calls prog 79 #[.slice A n c] (W.alloc (.cells #[(),false,(),(),(),()] 23)) λe w'=> ∃g base,e= .returned (.tuple #[.agg #[o.blk, .bool o.plain,o.bkt,o.data,o.par,o.chunk], .pointer (some ⟨g,0,none⟩),()])/\(W.alloc (.cells #[(),false,(),(),(),()] 23)).heap.size<=base/\Bdy w' base g x/\Below (W.alloc (.cells #[(),false,(),(),(),()] 23)).heap.size (W.alloc (.cells #[(),false,(),(),(),()] 23)) w'):=qj (G.mono (by
   rintro e w' ⟨k,⟨h0,_⟩|⟨_,g,base,he,V,hy⟩⟩
   ·exact absurd rfl h0
   ·exact⟨g,base,he,V,hy,k⟩))
  have S:=qj (λw base g h1 h2=>Ul o' b' w base g h1 h2 N9 uK);rw [<-S'] at S p';unfold Bi at S;generalize F2 x=lg at*;obtain⟨Q,l⟩:=lg;dsimp only at j S;replace j:=qj j;have hwf1:=p'.few;have hwf2:=p'.small;clear G ht h D d' S' N9 Z' p';go_in;go_wp2_with fail;generalize W.alloc (.cells #[(),false,(),(),(),()] 23)=w0 at*;refine N.mono ?_;rintro e f ⟨F,base,rfl,Q',hY,k⟩
 rotate_left
 focus
  have I:=qj (j.trans (qk X));have hEz:(E==0)=false:=by simpa using X
  have Y':(E !=0)=true:=by simpa using X
  have N:Hid (Calls prog 79 #[.slice A n c] (W.alloc (.cells #[(),false,(),(),(),()] 23)) λe w'=>e= .returned (.tuple #[.agg #[(),false,(),(),(),()], .pointer none,E])/\Below (W.alloc (.cells #[(),false,(),(),(),()] 23)).heap.size (W.alloc (.cells #[(),false,(),(),(),()] 23)) w'):=qj (G.mono (by
   rintro e w' ⟨k,⟨_,he⟩|⟨h0,_⟩⟩
   ·exact⟨he,k⟩
   ·exact absurd h0 X))
  clear G ht h D d';go_in;go_wp2_with fail;generalize W.alloc (.cells #[(),false,(),(),(),()] 23)=w0 at*;refine zC N ?_;intro f k
 rotate_left
 all_goals
  have u:=y.below k y.lt;have q:=B.trans (k.mono B.size);have m:Blk (f.alloc (.cells #[(),false,(),(),(),()] 23)) f 23 (opA opZ):=Blk.new _ _ _;have iL:W.heap.size≠f.heap.size:=by have:=u.lt;omega
 ·have M:=qj ((u.alloc (.cells #[(),false,(),(),(),()] 23)).cQ iL #[o.blk, .bool o.plain,o.bkt,o.data,o.par,o.chunk]);have z:=qj (zu (q.alloc q.size (.cells #[(),false,(),(),(),()] 23)) q.size #[o.blk, .bool o.plain,o.bkt,o.data,o.par,o.chunk]);have G':=qj (m.row #[o.blk, .bool o.plain,o.bkt,o.data,o.par,o.chunk]);have OX:Below f f ((f.alloc (.cells #[(),false,(),(),(),()] 23)).setRow f #[o.blk, .bool o.plain,o.bkt,o.data,o.par,o.chunk]):=zu (z8 (.cells #[(),false,(),(),(),()] 23)) (qx _) #[o.blk, .bool o.plain,o.bkt,o.data,o.par,o.chunk];have N6:=qj (hY.below OX);have hbs2:Hid (W.heap.size<base):=qB (y.lt) Q';obtain⟨a,I'⟩:=j1 f.heap.size;have P':=qj (S _ base F (HT.below z HT.pos) N6);replace m:=qj m;clear k u q hY Q' OX;go_wp2_with (first|(refine qC rfl 23 _ _ rfl f #[o.blk, .bool o.plain,o.bkt,o.data,o.par,o.chunk] rfl rfl 23 (opA opZ) m.out jh rfl (yy o) ?_));clear m;generalize (f.alloc (.cells #[(),false,(),(),(),()] 23)).setRow f #[.int .i64 o.blk, .bool o.plain, .int .i64 o.bkt, .int .i64 o.data, .int .i64 o.par, .int .i64 o.chunk]=w2 at*;have hne2:Hid (W.heap.size≠a):=by rw [Hid,I'];exact iL
  rw [<-I'] at*;clear I';refine P'.mono ?_;rintro e t ⟨A3,n3,c3,hn3,rfl,O',P⟩;have T:=qj (M.below P M.lt);have D':=qj (G'.below P G'.lt);have m':=qj (z.trans (P.mono z.size));have M':=qj (N6.below P);have N':=qj (qi O' z.size);subst hn3;clear O' P;by_cases z':Q=0
  case neg=>
   have I:=qj (j.out.trans (qk z'));have hEz:(Q==0)=false:=by simpa using z'
   have Y':(Q !=0)=true:=by simpa using z'
   go_wp2_with (first|(refine qC rfl 23 _ _ rfl W (opA opZ) rfl rfl 23 (opA opZ) T.out jh rfl (yy _) ?_));refine qW (vg rfl _ _ W (opA opZ) zn () Q rfl rfl rfl rfl (qN _ W 23 _ (opA opZ) (0,0) _ (T.row _) jK rfl jh)) rfl ?_;unfold P_;rw [I.out];exact⟨none,0,rfl,qP _ _ _ _,zu m' (qx _) _⟩
  subst z';have I:=qj (j.out.trans (qJ s8));obtain⟨A0,C,c0,A1,n1,c1,At,nt,ct,Al,nl,cl,Ax,nx,cx,Ay,ny,cy,Af,nf,cf,v9,⟨e0,-⟩,V,h1,-⟩:=M'.out;have J:Hid (∀d,Below t t d->d.cell? a=some (o.blk:Value)/\d.cell? ⟨a,1,none⟩=some (.bool o.plain)/\d.cell? ⟨a,2,none⟩=some (o.bkt:Value)/\d.cell? ⟨a,3,none⟩=some (o.data:Value)/\d.cell? ⟨a,4,none⟩=some (o.par:Value)/\d.cell? ⟨a,5,none⟩=some (o.chunk:Value)/\d.cell? F=some (.slice A0 C c0)):=λd hW=>by
   have Z:=D'.below hW D'.lt;have Y:=V.below hW V.lt;exact⟨Z.cell 0,Z.cell 1,Z.cell 2,Z.cell 3,Z.cell 4,Z.cell 5,Y.cell 0⟩
  have H:=Pq t.drew F t C c0 A0 x.dir.counts ((J _ (qZ _ _).drew).2.2.2.2.2.2) (Reads.zY h1).drew (qx _) uK;unfold BO at H;have HRn:Hid (R=(0,o,l,C)):=by rw [Hid,I.out,e0]
  rw [<-e0] at H;replace H:=qj H;have s:Hid (W.heap.size≠F/\W.heap.size≠a):=by
   obtain⟨A0,C,c0,A1,n1,c1,At,nt,ct,Al,nl,cl,Ax,nx,cx,Ay,ny,cy,Af,nf,cf,v9,-,-,-,-,-,-,-,-,h7⟩:=M'.out;exact⟨by have:=hbs2.out;omega,hne2⟩
  clear h1 V e0;obtain⟨z0,z1,z2,z3,z4,z5,z6⟩:=J _ (qZ _ _);go_wp2_with fail;refine zv 9 (λd=>d.cell? a=some (o.blk:Value)/\d.cell? ⟨a,1,none⟩=some (.bool o.plain)/\d.cell? ⟨a,2,none⟩=some (o.bkt:Value)/\d.cell? ⟨a,3,none⟩=some (o.data:Value)/\d.cell? ⟨a,4,none⟩=some (o.par:Value)/\d.cell? ⟨a,5,none⟩=some (o.chunk:Value)/\d.cell? F=some (.slice A0 C c0)) AL (J _ (qZ _ _).drew) (λJ'=> ?_);refine zq [0] (a':= ?_) ?_;refine Z6 [1,2] (a':= ?_) ?_;refine carried 3 rfl AL SQ (λK O=> ?_);go_simp
  (go_at_call 81;((with_reducible refine(H.out).mono ?_);rintro e U ⟨A4,c4,rfl,-,U'⟩);have L:Below t t U:=(qZ _ t).drew.trans U')
  refine O _ _ ((J _ L)) (λJ'=> ?_);clear O K;try simp only [Act.put,qQ,qY,qV]
  refine Z6 [4] (a':= ?_) ?_;have u':=qj (T.below L T.lt);refine carried 5 rfl AL SQ (λK O=> ?_);refine wp_store_row 23 _ _ rfl W (opA o) rfl rfl 23 (opA opZ) (u'.out) jh rfl (yy _) ?_;have r: ∀(g i:Nat) {v:Value},W.heap.size≠g->U.cell? ⟨g,i,none⟩=some v->(U.setRow W (opA o)).cell? ⟨g,i,none⟩=some v:=λg i v hg hv=>(Js U W _).cell (p:=⟨g,i,none⟩) (by rw [qy];exact λe=>hg e.symm) hv;obtain⟨y0,y1,y2,y3,y4,y5,y6⟩:=J _ L;refine O _ _ ⟨r a 0 s.out.2 y0,r a 1 s.out.2 y1,r a 2 s.out.2 y2,r a 3 s.out.2 y3,r a 4 s.out.2 y4,r a 5 s.out.2 y5,r F 0 s.out.1 y6⟩ (λJ'=> ?_);clear O K;try simp only [Act.put,qQ,qY,qV]
  refine Z6 [6,7,8] (a':= ?_) ?_;refine zV AL ?_ _;have X':=qG N' L;have HLF:=qj (pI (w:=U) X' u' (opA o));have HBF:=qj (zu (m'.trans (L.mono m'.size)) (qx _) (opA o));have HGF:=qj (u'.row (opA o));clear J' r z0 z1 z2 z3 z4 z5 z6 y0 y1 y2 y3 y4 y5 y6 X' L U' J H T;go_wp2_with fail;refine qW (vg rfl _ _ W (opA o) (.slice A3 l c3) C () rfl rfl rfl rfl (qN _ W 23 _ (opA o) (0,0) _ HGF jK rfl jh)) rfl ?_;unfold P_;rw [HRn.out];exact⟨A3,c3,rfl,HLF,HBF⟩
 ·have M:=qj ((u.alloc (.cells #[(),false,(),(),(),()] 23)).cQ iL #[(),false,(),(),(),()]);have z:=qj (zu (q.alloc q.size (.cells #[(),false,(),(),(),()] 23)) q.size #[(),false,(),(),(),()]);replace m:=qj m;clear k u q;go_wp2_with (first|(refine qC rfl 23 _ _ rfl f #[(),false,(),(),(),()] rfl rfl 23 (opA opZ) m.out jh rfl (yy opZ) ?_)|(refine qC rfl 23 _ _ rfl W (opA opZ) rfl rfl 23 (opA opZ) M.out jh rfl (yy _) ?_));refine qW (vg rfl _ _ W (opA opZ) zn () E rfl rfl rfl rfl (qN _ W 23 _ (opA opZ) (0,0) _ (M.row _) jK rfl jh)) rfl ?_;unfold P_;rw [I.out];exact⟨none,0,rfl,qP _ _ _ _,zu z (qx _) _⟩
def re (W:World) (r:Int×Opt×ks×Nat) (e:Ending) (a:World):Prop:=
 Below W W a/\((r.1≠0/\e= .returned (.tuple #[.agg (opA opZ), .pointer none,(), .int .i64 r.1]))\/(r.1=0/\ ∃g base,e= .returned (.tuple #[.agg (opA r.2.1), .pointer (some ⟨g,0,none⟩), .int .i64 (r.2.2.2:Nat),()])/\W.heap.size<=base/\Bdy a base g r.2.2.1))
theorem ur (b:qn):(V7 b).2.2.1.length<=100000000:=by
 unfold V7;dsimp only;split
 ·exact qp _
 ·split
  ·exact qp _
  ·split
   ·exact qp _
   ·rename_i h1;generalize YX (UN b).2=o,dM (UN b).2=n,(b.drop 21).take (b.length-42)=s at*;show(srV o.data o.par o.chunk n s).length<=_;by_cases h2:ZM o.data o.par o.chunk n=0
    case neg=>unfold srE at h1;rw [qk h2] at h1;exact absurd h2 (by simpa using h1)
    obtain⟨a,e,g,h3,h4,h5,d,c⟩:=k_ h2;rw [h3,h4,h5];have h6:srV a e g n s=rdV a e g n (YA (a*g) n) s:=rfl;rw [h6];unfold rdV;split
    ·rw [qh];have:=c.n2;omega
    ·exact qp _
theorem G8 (A:q') (n c:Nat) (b:qn) (W:World) (ht:Tab W) (h:Reads W W 1 A n (b.map B8)) (hc:n<=c) (hm:c<=maxLen) (G:n<=100000000) (hu:LR\/gp b=true):
  Calls prog 82 #[.slice A n c] W (re W (ZX b)):=by
 obtain⟨R,f⟩:=j1 (ZX b);rw [<-f];unfold ZX at f;dsimp only at f;rw [show(⟨⟨[],[],0,0⟩,[],[],[],[],[]⟩:ks)=J_ from rfl,show(⟨0,false,0,0,0,0⟩:Opt)=opZ from rfl] at f;have D:Below W W (W.alloc (.cells #[(),false,(),(),(),()] 23)):=z8 _;have B:Hid (Blk (W.alloc (.cells #[(),false,(),(),(),()] 23)) W 23 (opA opZ)):=Blk.new _ _ _;have HT:=qj ht;have v:=qj D;have y:=TN A n c b (W.alloc (.cells #[(),false,(),(),(),()] 23)) (ht.below D ht.pos) ((h.below D).more D.size) hc hm G hu;have X:=ur b;unfold Dc at y;generalize V7 b=mb at*;obtain⟨E,o,vs,U⟩:=mb;dsimp only at f y X;replace f:=qj f;clear ht h D;by_cases r:E=0
 focus
  subst r;have m:=f.out;rw [qJ s8] at m;have C:Hid (Calls prog 118 #[.slice A n c] (W.alloc (.cells #[(),false,(),(),(),()] 23)) λe w'=> ∃g A n c G Y,e= .returned (.tuple #[.pointer (some ⟨g,0,none⟩), .slice A n c,U,()])/\n=vs.length/\Blk w' g 76 (h3A o G Y)/\Reads w' w'.heap.size 1 A n (vs.map B8)/\n<=c/\c<=maxLen/\Below (W.alloc (.cells #[(),false,(),(),(),()] 23)).heap.size (W.alloc (.cells #[(),false,(),(),(),()] 23)) w'):=qj (y.mono (by
   rintro e w' ⟨d,⟨h0,_⟩|⟨_,g,A,n,c,G,Y,u,h1,h2,h3,h4,h5⟩⟩
   ·exact absurd rfl h0
   ·exact⟨g,A,n,c,G,Y,u,h1,h2,h3,h4,h5,d⟩))
  have L:=qj (λw A n c (h1:n=vs.length) h2 h3 h4 h5=>UO o A n c w.heap.size vs w h2 h3 (qx _) h4 h5 uK);unfold ov opA at L;generalize Zo o vs=ob at*;obtain⟨z,x⟩:=ob;dsimp only at m L;replace m:=qj m;replace X:=qj X
 rotate_left
 focus
  have H:=qj (f.out.trans (qk r));have D':(E==0)=false:=by simpa using r
  have u':(E !=0)=true:=by simpa using r
  have C:Hid (Calls prog 118 #[.slice A n c] (W.alloc (.cells #[(),false,(),(),(),()] 23)) λe w'=>e= .returned (.tuple #[.pointer none,zn,(),E])/\Below (W.alloc (.cells #[(),false,(),(),(),()] 23)).heap.size (W.alloc (.cells #[(),false,(),(),(),()] 23)) w'):=qj (y.mono (by
   rintro e w' ⟨d,⟨_,u⟩|⟨h0,_⟩⟩
   ·exact⟨u,d⟩
   ·exact absurd h0 r))
  replace r:=qj r
 rotate_left
 all_goals
  clear y;go_in;go_wp2_with fail;generalize W.alloc (.cells #[(),false,(),(),(),()] 23)=w0 at*;refine C.mono ?_
 ·rintro e a ⟨g,M,S,c1,I',J',rfl,p',q,m',d',iL,d⟩;have i:=qj (B.below d B.lt);have l:=qj (v.trans (d.mono v.size));have K:=qj q;have J:=L a M S c1 p' (HT.below l HT.pos) m' d' iL;have T:a.cell? g=some (o.blk:Value):=q.cell 0;have N:a.cell? ⟨g,1,none⟩=some (.bool o.plain):=q.cell 1;have P:a.cell? ⟨g,2,none⟩=some (o.bkt:Value):=q.cell 2;have O:a.cell? ⟨g,3,none⟩=some (o.data:Value):=q.cell 3;have V:a.cell? ⟨g,4,none⟩=some (o.par:Value):=q.cell 4;have z5:a.cell? ⟨g,5,none⟩=some (o.chunk:Value):=q.cell 5;clear d q m' p' d' iL;by_cases p:z=0
  case neg=>
   have H:=qj (m.out.trans (qk p));have D':(z==0)=false:=by simpa using p
   have u':(z !=0)=true:=by simpa using p
   have F:Hid (Calls prog 114 #[.agg #[o.blk, .bool o.plain,o.bkt,o.data,o.par,o.chunk], .slice M S c1] a λe w'=>e= .returned (.tuple #[.pointer none,z])/\Below a a w'):=qj (J.mono (by
    rintro e w' ⟨d,⟨_,u⟩|⟨h0,_⟩⟩
    ·exact⟨u,d⟩
    ·exact absurd h0 p))
   replace p:=qj p;clear J;go_wp2_with fail;refine zC F ?_;intro j s;have I:=qj (i.below s i.lt);have Q:=qj (l.trans (s.mono l.size));clear s T N P O V z5;go_wp2_with (first|(refine qC rfl 23 _ _ rfl W (opA opZ) rfl rfl 23 (opA opZ) I.out jh rfl (yy _) ?_));refine qW (vg rfl _ _ W (opA opZ) (.pointer none) () z rfl rfl rfl rfl (qN _ W 23 _ (opA opZ) (0,0) _ (I.row _) jK rfl jh)) rfl ?_;unfold re;rw [H.out];exact⟨zu Q (qx _) _, .inl ⟨p,rfl⟩⟩
  subst p;have H:=qj (m.out.trans (qJ s8));have F:Hid (Calls prog 114 #[.agg #[o.blk, .bool o.plain,o.bkt,o.data,o.par,o.chunk], .slice M S c1] a λe w'=> ∃g,e= .returned (.tuple #[.pointer (some ⟨g,0,none⟩),()])/\Bdy w' a g x/\Below a a w'):=qj (J.mono (by
   rintro e w' ⟨d,⟨h0,_⟩|⟨_,g,u,hy⟩⟩
   ·exact absurd rfl h0
   ·exact⟨g,u,hy,d⟩))
  clear J;go_wp2_with fail;refine F.mono ?_;rintro e j ⟨Z,rfl,hY,s⟩;have I:=qj (i.below s i.lt);have Q:=qj (l.trans (s.mono l.size));have t:=K.below s K.lt;have z':Hid (Bdy j a Z x):=hY;have G':Hid (W.heap.size<a.heap.size):=i.lt;clear T N P O V z5;have T:j.cell? g=some (o.blk:Value):=t.cell 0;have N:j.cell? ⟨g,1,none⟩=some (.bool o.plain):=t.cell 1;have P:j.cell? ⟨g,2,none⟩=some (o.bkt:Value):=t.cell 2;have O:j.cell? ⟨g,3,none⟩=some (o.data:Value):=t.cell 3;have V:j.cell? ⟨g,4,none⟩=some (o.par:Value):=t.cell 4;have z5:j.cell? ⟨g,5,none⟩=some (o.chunk:Value):=t.cell 5;clear s t hY;go_wp2_with (first|(refine qC rfl 23 _ _ rfl W (opA o) rfl rfl 23 (opA opZ) I.out jh rfl (yy _) ?_));refine qW (vg rfl _ _ W (opA o) (.pointer Z) U () rfl rfl rfl rfl (qN _ W 23 _ (opA o) (0,0) _ (I.row _) jK rfl jh)) rfl ?_;unfold re;rw [H.out];exact⟨zu Q (qx _) _, .inr ⟨rfl,Z,a,rfl,l.size,z'.jZ (Js j W _) (λk hk=>by rw [qy.1 hk];exact G')⟩⟩
 ·rintro e a ⟨rfl,d⟩;have i:=qj (B.below d B.lt);have l:=qj (v.trans (d.mono v.size));clear d;go_wp2_with (first|(refine qC rfl 23 _ _ rfl W (opA opZ) rfl rfl 23 (opA opZ) i.out jh rfl (yy _) ?_));refine qW (vg rfl _ _ W (opA opZ) (.pointer none) () E rfl rfl rfl rfl (qN _ W 23 _ (opA opZ) (0,0) _ (i.row _) jK rfl jh)) rfl ?_;unfold re;rw [H.out];exact⟨zu l (qx _) _, .inl ⟨r,rfl⟩⟩
theorem Tm (b:qn) (h:(ZX b).1=0): ∃o a,(ZX b).2.2.1=(Zo o a).2/\(Zo o a).1=0/\a.length<=100000000:=by
 have c:=ur b;unfold ZX at h⊢;dsimp only at h⊢;split at h
 ·rename_i h1;exact absurd h h1
 ·rename_i h1;split at h
  ·rename_i h4;exact absurd h h4
  ·rename_i h4;rw [qJ h1,qJ h4];exact⟨_,_,rfl,ym.1 h4,c⟩
theorem YZ {a:Func} {p s r q y:Tmp} {b:TypeId} (h:a.results= #[.cell p b, .tmp s, .tmp r, .tmp q, .tmp y]) (tmps:Array Value) (w:World) (g:Nat) (c:Array Value) (v u x z:Value)
  (m:tmps.getD p undef= .pointer g) (k:tmps.getD s undef=v) (d:tmps.getD r undef=u) (j:tmps.getD q undef=x) (n:tmps.getD y undef=z) (e:(loadVar b g).run prog w= .ok (.agg c) w):
  (results a tmps).run prog w= .ok (.tuple #[.agg c,v,u,x,z]) w:=by
 have o:tmps[p]?.getD undef= .pointer g:=by simpa using m
 have l:tmps[s]?.getD undef=v:=by simpa using k
 have i:tmps[r]?.getD undef=u:=by simpa using d
 have t:tmps[q]?.getD undef=x:=by simpa using j
 have f:tmps[y]?.getD undef=z:=by simpa using n
 simp [results,h,o,l,i,t,f,asAddr,e]
def rE (W:World) (r:Int×Opt×List Rec×Nat×Nat) (e:Ending) (b:World):Prop:=
 ∃c a,e= .returned (.tuple #[.agg (opA r.2.1), .slice c r.2.2.1.length a, .int .i64 (r.2.2.2.1:Nat), .int .i64 (r.2.2.2.2:Nat), .int .i64 r.1])/\b.ownsRow W 45 4 (.slice c r.2.2.1.length a) r.2.2.1.length (ji r.2.2.1)/\Below W W b
theorem TM (b:qn):X0 b=if(ZX b).1≠0 then((ZX b).1,opZ,[],0,0) else if(F2 (ZX b).2.2.1).1≠0 then((F2 (ZX b).2.2.1).1,opZ,[],0,0) else(0,(ZX b).2.1,(F2 (ZX b).2.2.1).2,(ZX b).2.2.1.dir.counts.length,(ZX b).2.2.2):=by
 unfold X0 Zk;dsimp only;by_cases h1:(ZX b).1≠0
 ·rw [qk h1,qk h1];dsimp only;rw [qJ h1];rfl
 ·rw [qJ h1,qJ h1];by_cases h2:(F2 (ZX b).2.2.1).1≠0
  ·rw [qk h2,qk h2];dsimp only;rw [qJ h2];rfl
  ·rw [qJ h2,qJ h2];dsimp only;rw [qk rfl]
theorem Dl (A:q') (n c:Nat) (b:qn) (W:World) (ht:Tab W) (h:Reads W W 1 A n (b.map B8)) (hc:n<=c) (hm:c<=maxLen) (hn:n<=100000000) (hu:LR\/gp b=true):
  Calls prog 46 #[.slice A n c] W (rE W (X0 b)):=by
 obtain⟨R,j⟩:=j1 (X0 b);rw [<-j];rw [TM] at j;have D:Below W W (W.alloc (.cells #[(),false,(),(),(),()] 23)):=z8 _;have y:Hid (Blk (W.alloc (.cells #[(),false,(),(),(),()] 23)) W 23 (opA opZ)):=Blk.new _ _ _;have HT:=qj ht;have B:=qj D;have hbn:b.length=n:=h.len;have G:=G8 A n c b (W.alloc (.cells #[(),false,(),(),(),()] 23)) (ht.below D ht.pos) ((h.below D).more D.size) hc hm hn hu;have d':=Tm b;unfold re at G;generalize ZX b=ob at*;obtain⟨E,o,x,iL⟩:=ob;dsimp only at j G d';have hoz:opA o= #[.int .i64 o.blk, .bool o.plain, .int .i64 o.bkt, .int .i64 o.data, .int .i64 o.par, .int .i64 o.chunk]:=rfl;have hzz:opA opZ= #[.int .i64 0, .bool false, .int .i64 0, .int .i64 0, .int .i64 0, .int .i64 0]:=rfl;by_cases X:E=0
 focus
  subst X;rw [qJ s8] at j;obtain⟨o',b',X',N',O'⟩:=d' rfl;have u':=aP o' b' N';have N:Hid (Calls prog 82 #[.slice A n c] (W.alloc (.cells #[(),false,(),(),(),()] 23)) λe w'=> ∃g base,e= .returned (.tuple #[.agg #[o.blk, .bool o.plain,o.bkt,o.data,o.par,o.chunk], .pointer (some ⟨g,0,none⟩),iL,()])/\(W.alloc (.cells #[(),false,(),(),(),()] 23)).heap.size<=base/\Bdy w' base g x/\Below (W.alloc (.cells #[(),false,(),(),(),()] 23)).heap.size (W.alloc (.cells #[(),false,(),(),(),()] 23)) w'):=qj (G.mono (by
   rintro e w' ⟨k,⟨h0,_⟩|⟨_,g,base,he,V,hy⟩⟩
   ·exact absurd rfl h0
   ·exact⟨g,base,he,V,hy,k⟩))
  have S:=qj (λw base g h1 h2=>Ul o' b' w base g h1 h2 N' O');rw [<-X'] at S u';unfold Bi at S;generalize F2 x=lg at*;obtain⟨Q,l⟩:=lg;dsimp only at j S;replace j:=qj j;have hwf1:=u'.few;have hwf2:=u'.small;clear G ht h D d' X' N' O' u';go_in;go_wp2_with fail;generalize W.alloc (.cells #[(),false,(),(),(),()] 23)=w0 at*;refine N.mono ?_;rintro e f ⟨F,base,rfl,U',hY,k⟩
 rotate_left
 focus
  have I:=qj (j.trans (qk X));have hEz:(E==0)=false:=by simpa using X
  have hEn:(E !=0)=true:=by simpa using X
  have N:Hid (Calls prog 82 #[.slice A n c] (W.alloc (.cells #[(),false,(),(),(),()] 23)) λe w'=>e= .returned (.tuple #[.agg #[(),false,(),(),(),()], .pointer none,(),E])/\Below (W.alloc (.cells #[(),false,(),(),(),()] 23)).heap.size (W.alloc (.cells #[(),false,(),(),(),()] 23)) w'):=qj (G.mono (by
   rintro e w' ⟨k,⟨_,he⟩|⟨h0,_⟩⟩
   ·exact⟨he,k⟩
   ·exact absurd h0 X))
  clear G ht h D d';go_in;go_wp2_with fail;generalize W.alloc (.cells #[(),false,(),(),(),()] 23)=w0 at*;refine zC N ?_;intro f k
 rotate_left
 all_goals
  have u:=y.below k y.lt;have q:=B.trans (k.mono B.size);have m:Blk (f.alloc (.cells #[(),false,(),(),(),()] 23)) f 23 (opA opZ):=Blk.new _ _ _;have m':W.heap.size≠f.heap.size:=by have:=u.lt;omega
 ·have M:=qj ((u.alloc (.cells #[(),false,(),(),(),()] 23)).cQ m' #[o.blk, .bool o.plain,o.bkt,o.data,o.par,o.chunk]);have z:=qj (zu (q.alloc q.size (.cells #[(),false,(),(),(),()] 23)) q.size #[o.blk, .bool o.plain,o.bkt,o.data,o.par,o.chunk]);have I':=qj (m.row #[o.blk, .bool o.plain,o.bkt,o.data,o.par,o.chunk]);have P':Below f f ((f.alloc (.cells #[(),false,(),(),(),()] 23)).setRow f #[o.blk, .bool o.plain,o.bkt,o.data,o.par,o.chunk]):=zu (z8 (.cells #[(),false,(),(),(),()] 23)) (qx _) #[o.blk, .bool o.plain,o.bkt,o.data,o.par,o.chunk];have N9:=qj (hY.below P');have hbs2:Hid (W.heap.size<base):=qB (y.lt) U';obtain⟨a,J'⟩:=j1 f.heap.size;have S':=qj (S _ base F (HT.below z HT.pos) N9);replace m:=qj m;clear k u q hY U' P';go_wp2_with (first|(refine qC rfl 23 _ _ rfl f #[o.blk, .bool o.plain,o.bkt,o.data,o.par,o.chunk] rfl rfl 23 (opA opZ) m.out jh rfl (yy o) ?_));clear m;generalize (f.alloc (.cells #[(),false,(),(),(),()] 23)).setRow f #[.int .i64 o.blk, .bool o.plain, .int .i64 o.bkt, .int .i64 o.data, .int .i64 o.par, .int .i64 o.chunk]=w2 at*;have hne2:Hid (W.heap.size≠a):=by rw [Hid,J'];exact m'
  rw [<-J'] at*;clear J';refine S'.mono ?_;rintro e t ⟨A3,n3,c3,hn3,rfl,Q',P⟩;have T:=qj (M.below P M.lt);have G':=qj (I'.below P I'.lt);have p':=qj (z.trans (P.mono z.size));have N6:=qj (N9.below P);have OX:=qj (qi Q' z.size);subst hn3;clear Q' P;by_cases D':Q=0
  case neg=>
   have I:=qj (j.out.trans (qk D'));have hEz:(Q==0)=false:=by simpa using D'
   have hEn:(Q !=0)=true:=by simpa using D'
   go_wp2_with (first|(refine qC rfl 23 _ _ rfl W (opA opZ) rfl rfl 23 (opA opZ) T.out jh rfl (yy _) ?_));refine qW (YZ rfl _ _ W (opA opZ) zn () () Q rfl rfl rfl rfl rfl (qN _ W 23 _ (opA opZ) (0,0) _ (T.row _) jK rfl jh)) rfl ?_;unfold rE;rw [I.out];exact⟨none,0,rfl,qP _ _ _ _,zu p' (qx _) _⟩
  subst D';have I:=qj (j.out.trans (qJ s8));obtain⟨A0,C,c0,A1,n1,c1,At,nt,ct,Al,nl,cl,Ax,nx,cx,Ay,ny,cy,Af,nf,cf,v9,⟨e0,-⟩,V,h1,-⟩:=N6.out;have J:Hid (∀d,Below t t d->d.cell? a=some (o.blk:Value)/\d.cell? ⟨a,1,none⟩=some (.bool o.plain)/\d.cell? ⟨a,2,none⟩=some (o.bkt:Value)/\d.cell? ⟨a,3,none⟩=some (o.data:Value)/\d.cell? ⟨a,4,none⟩=some (o.par:Value)/\d.cell? ⟨a,5,none⟩=some (o.chunk:Value)/\d.cell? F=some (.slice A0 C c0)):=λd hW=>by
   have Z:=G'.below hW G'.lt;have Y:=V.below hW V.lt;exact⟨Z.cell 0,Z.cell 1,Z.cell 2,Z.cell 3,Z.cell 4,Z.cell 5,Y.cell 0⟩
  have H:=Pq t.drew F t C c0 A0 x.dir.counts ((J _ (qZ _ _).drew).2.2.2.2.2.2) (Reads.zY h1).drew (qx _) uK;unfold BO at H;have HRn:Hid (R=(0,o,l,C,iL)):=by rw [Hid,I.out,e0]
  rw [<-e0] at H;replace H:=qj H;have s:Hid (W.heap.size≠F/\W.heap.size≠a):=by
   obtain⟨A0,C,c0,A1,n1,c1,At,nt,ct,Al,nl,cl,Ax,nx,cx,Ay,ny,cy,Af,nf,cf,v9,-,-,-,-,-,-,-,-,h7⟩:=N6.out;exact⟨by have:=hbs2.out;omega,hne2⟩
  clear h1 V e0;obtain⟨z0,z1,z2,z3,z4,z5,z6⟩:=J _ (qZ _ _);go_wp2_with fail;refine zv 11 (λd=>d.cell? a=some (o.blk:Value)/\d.cell? ⟨a,1,none⟩=some (.bool o.plain)/\d.cell? ⟨a,2,none⟩=some (o.bkt:Value)/\d.cell? ⟨a,3,none⟩=some (o.data:Value)/\d.cell? ⟨a,4,none⟩=some (o.par:Value)/\d.cell? ⟨a,5,none⟩=some (o.chunk:Value)/\d.cell? F=some (.slice A0 C c0)) AL (J _ (qZ _ _).drew) (λM'=> ?_);refine zq [0] (a':= ?_) ?_;refine Z6 [1,2,5] (a':= ?_) ?_;refine carried 3 rfl AL SQ (λK O=> ?_);go_simp
  (go_at_call 81;((with_reducible refine(H.out).mono ?_);rintro e U ⟨A4,c4,rfl,-,Y'⟩);have L:Below t t U:=(qZ _ t).drew.trans Y')
  refine O _ _ ((J _ L)) (λM'=> ?_);clear O K;try simp only [Act.put,qQ,qY,qV]
  refine Z6 [4] (a':= ?_) ?_;have z':=qj (T.below L T.lt);refine carried 6 rfl AL SQ (λK O=> ?_);refine wp_store_row 23 _ _ rfl W (opA o) rfl rfl 23 (opA opZ) (z'.out) jh rfl (yy _) ?_;have r: ∀(g i:Nat) {v:Value},W.heap.size≠g->U.cell? ⟨g,i,none⟩=some v->(U.setRow W (opA o)).cell? ⟨g,i,none⟩=some v:=λg i v hg hv=>(Js U W _).cell (p:=⟨g,i,none⟩) (by rw [qy];exact λe=>hg e.symm) hv;obtain⟨y0,y1,y2,y3,y4,y5,y6⟩:=J _ L;refine O _ _ ⟨r a 0 s.out.2 y0,r a 1 s.out.2 y1,r a 2 s.out.2 y2,r a 3 s.out.2 y3,r a 4 s.out.2 y4,r a 5 s.out.2 y5,r F 0 s.out.1 y6⟩ (λM'=> ?_);clear O K;try simp only [Act.put,qQ,qY,qV]
  refine Z6 [7,8,9,10] (a':= ?_) ?_;refine zV AL ?_ _;have Z':=qG OX L;have HLF:=qj (pI (w:=U) Z' z' (opA o));have HBF:=qj (zu (p'.trans (L.mono p'.size)) (qx _) (opA o));have HGF:=qj (z'.row (opA o));clear M' r z0 z1 z2 z3 z4 z5 z6 y0 y1 y2 y3 y4 y5 y6 Z' L Y' J H T;go_wp2_with fail;refine qW (YZ rfl _ _ W (opA o) (.slice A3 l c3) C iL () rfl rfl rfl rfl rfl (qN _ W 23 _ (opA o) (0,0) _ HGF jK rfl jh)) rfl ?_;unfold rE;rw [HRn.out];exact⟨A3,c3,rfl,HLF,HBF⟩
 ·have M:=qj ((u.alloc (.cells #[(),false,(),(),(),()] 23)).cQ m' #[(),false,(),(),(),()]);have z:=qj (zu (q.alloc q.size (.cells #[(),false,(),(),(),()] 23)) q.size #[(),false,(),(),(),()]);replace m:=qj m;clear k u q;go_wp2_with (first|(refine qC rfl 23 _ _ rfl f #[(),false,(),(),(),()] rfl rfl 23 (opA opZ) m.out jh rfl (yy opZ) ?_)|(refine qC rfl 23 _ _ rfl W (opA opZ) rfl rfl 23 (opA opZ) M.out jh rfl (yy _) ?_));refine qW (YZ rfl _ _ W (opA opZ) zn () () E rfl rfl rfl rfl rfl (qN _ W 23 _ (opA opZ) (0,0) _ (M.row _) jK rfl jh)) rfl ?_;unfold rE;rw [I.out];exact⟨none,0,rfl,qP _ _ _ _,zu z (qx _) _⟩
def UL (w:World) (g:Nat):List (Nat×Value)->World
 |[]=>w
 |(i,u)::t=>UL (w.setCell ⟨g,i,none⟩ u) g t
def og:Array Value->List (Nat×Value)->Array Value
 |a,[]=>a
 |a,(i,u)::t=>og (a.setIfInBounds i u) t
theorem rR: ∀{w:World} {cs:Array Value},Blk w g T cs-> ∀l,Blk (UL w g l) g T (og cs l)
 |_,_,h,[]=>h
 |_,_,h,(i,u)::t=>rR (h.zh i u) t
theorem ah {w:World} {b a:Array Value} (h:Blk w g T b) (l:List (Nat×Value)) (e:og b l=a:=by kernel_rfl):Blk (UL w g l) g T a:=e▸rR h l
theorem dA (w:World) (g:Nat) (l:List (Nat×Value)):qE [g] w (UL w g l):=by
 have key: ∀(l:List (Nat×Value)) (w':World),qE [g] w w'->qE [g] w (UL w' g l):=by
  intro l;induction l with
  |nil=>exact λw' h=>h
  |cons x t a=>exact λw' h=>a _ (h.zh (p:=⟨g,x.1,none⟩) (qy.2 rfl) x.2)
 exact key l w (qE.refl _ _)
theorem World.To (g:Nat) (V:World) (i j:Nat) (u:Value) (h:i≠j):(V.setCell ⟨g,i,none⟩ u).cell? ⟨g,j,none⟩=V.cell? ⟨g,j,none⟩:=World.cell?_setCell_other _ _ _ _ (λe=>h (by have:=zo Addr.off e;first|exact this|exact this.symm))
theorem World.TO (g:Nat) (V:World) (i j:Nat) (u:Value):(V.setCell ⟨g,i,none⟩ u).frozen? ⟨g,j,none⟩=V.frozen? ⟨g,j,none⟩:=s8
def unA (v:Int) (e c a:Int) (b:Bool) (o:Opt) (d:Value):Array Value:= #[v,e,c,a,b,o.blk, .bool o.plain,o.bkt,o.data,o.par,o.chunk,d]
def sK (W:World) (b:qn) (e:Ending) (a:World):Prop:=
 Below W W a/\((QW b≠0/\e= .returned (.tuple #[.pointer none, .int .i64 (QW b)]))\/(QW b=0/\ ∃g A n c,e= .returned (.tuple #[.pointer (some ⟨g,0,none⟩),()])/\n=(xX b).l.length/\W.heap.size<=g/\Blk a g 58 (unA (xX b).v (n:Nat) (xX b).blocks (xX b).bad false (xX b).o (.slice A n c))/\a.ownsRow W 45 4 (.slice A n c) n (ji (xX b).l)))
theorem GZ (b:qn):Z7 b=1\/Z7 b=2\/Z7 b=3\/(Z7 b=0/\YU b≠0):=by
 unfold Z7 YU;by_cases h:XQ b=1\/XQ b=2
 ·rw [qk h];rcases h with h|h
  ·exact .inl h
  ·exact .inr (.inl h)
 ·rw [qJ h,qJ h];by_cases h2:dp b=true
  ·rw [qk h2];exact .inr (.inr (.inl rfl))
  ·rw [qJ h2,qJ h2];refine .inr (.inr (.inr ⟨rfl, ?_⟩));by_cases h3:XQ b=3
   ·rw [qk h3];decide
   ·rw [qJ h3];unfold XQ at h h3;unfold V6;split
    ·decide
    ·rename_i h4;rw [qJ h4] at h h3;split
     ·decide
     ·rename_i h5;rw [qJ h5] at h h3;split
      ·rename_i h6;rw [qk h6] at h h3;omega
      ·decide
theorem GJ (A:Option Addr) (n c:Nat) (b:List UInt8) (W:World) (ht:Tab W) (h:Reads W W.heap.size 1 A n (b.map B8)) (hc:n<=c) (hm:c<=maxLen) (hn:n<=100000000) (hu:LR\/gp b=true):
  Calls prog 23 #[.slice A n c] W (sK W b):=by
 have HT:=qj ht;have H:=qj h;have KV:=rB A n c W.heap.size b W ht h (qx _) hc hm uK;have T:=GZ b;have U:=qj (λV (D:Below W.heap.size W V)=>Gn A n c b V (ht.below D ht.pos) ((h.below D).more D.size) hc hm hn);have Q:=qj (λV (D:Below W.heap.size W V)=>G0 A n c b V (ht.below D ht.pos) ((h.below D).more D.size) hc hm hn);have S:=qj (λV (D:Below W.heap.size W V)=>Dl A n c b V (ht.below D ht.pos) ((h.below D).more D.size) hc hm hn hu);obtain⟨RE,z⟩: ∃E,E=QW b:=⟨_,rfl⟩;obtain⟨RU,y⟩: ∃E,E=xX b:=⟨_,rfl⟩;unfold sK;rw [<-z,<-y];unfold QW at z;unfold xX at y;generalize Z7 b=V at*
 generalize YU b=VE at*
 unfold P_ at U Q;unfold rE at S;generalize JZ b=r1 at*
 generalize Zk (Vh b)=r2 at*
 generalize X0 b=r3 at*
 obtain⟨E1,o1,P,n1⟩:=r1;obtain⟨E2,o2,l2,n2⟩:=r2;obtain⟨E3,o3,N,n3,b3⟩:=r3;dsimp only at z y U Q S;replace KV:=qj KV;replace z:=qj z;replace y:=qj y;replace T:=qj T;clear ht h;go_enter func23,ntmps23
 go_wp2_with fail;refine KV.mono ?_;rintro e t ⟨rfl,G'⟩;have u:=qj G';clear KV G';by_cases m':V=1
 ·subst m'
  have M:=qj (z.trans (qk rfl));have Y:=qj (y.trans (qk rfl));have j:=qj (u.alloc u.size (.cells #[.int .i64 1,(),(),(), .bool false,(), .bool false,(),(),(),(), .slice none 0 0] 58));have v:=qj (Blk.new t 58 #[.int .i64 1,(),(),(), .bool false,(), .bool false,(),(),(),(), .slice none 0 0]);have J:Hid (W.heap.size<=t.heap.size):=u.size;have F:=qj (U.out _ j);clear U Q S z y T;dsimp only [opA] at F
  go_wp2_with fail;generalize t.alloc (.cells #[.int .i64 1,(),(),(), .bool false,(), .bool false,(),(),(),(), .slice none 0 0] 58)=w2 at*
  generalize t.heap.size=g at*
  refine F.mono ?_;rintro e d ⟨o,m,rfl,L,x⟩;have a:=qj (v.below x v.lt);have C:=qj (j.trans (x.mono j.size));have G:=qj (qi L j.size);have S':d.cell? ⟨g,5,none⟩=some (.int .i64 0):=a.cell 5;have N':d.cell? ⟨g,6,none⟩=some (.bool false):=a.cell 6;have J':d.cell? ⟨g,7,none⟩=some (.int .i64 0):=a.cell 7;have z':d.cell? ⟨g,8,none⟩=some (.int .i64 0):=a.cell 8;have OX:d.cell? ⟨g,9,none⟩=some (.int .i64 0):=a.cell 9;have O':d.cell? ⟨g,10,none⟩=some (.int .i64 0):=a.cell 10;have I':d.cell? ⟨g,11,none⟩=some (.slice none 0 0):=a.cell 11;have P':d.cell? ⟨g,2,none⟩=some (.int .i64 0):=a.cell 2;have ff:=a.frozen;have N6:=World.To g;have Q':=World.TO g;have s:Hid (Blk (UL d g [(5, .int .i64 o1.blk),(6, .bool o1.plain),(7, .int .i64 o1.bkt),(8, .int .i64 o1.data),(9, .int .i64 o1.par),(10, .int .i64 o1.chunk),(11, .slice o P m),(2, .int .i64 (n1:Int))]) g 58 #[.int .i64 1,(),n1,(), .bool false,o1.blk, .bool o1.plain,o1.bkt,o1.data,o1.par,o1.chunk, .slice o P m]):=ah a _;have B:=qj (dA d g [(5, .int .i64 o1.blk),(6, .bool o1.plain),(7, .int .i64 o1.bkt),(8, .int .i64 o1.data),(9, .int .i64 o1.par),(10, .int .i64 o1.chunk),(11, .slice o P m),(2, .int .i64 (n1:Int))]);generalize l:UL d g [(5, .int .i64 o1.blk),(6, .bool o1.plain),(7, .int .i64 o1.bkt),(8, .int .i64 o1.data),(9, .int .i64 o1.par),(10, .int .i64 o1.chunk),(11, .slice o P m),(2, .int .i64 (n1:Int))]=Z at*
  simp only [UL] at l;have q:=qj (C.trans (B.below (λk f=>by rw [qy.1 f];exact J) C.size))
  have r:=qj (B.own G (λk f w=>qT G a FV k f (qy.1 w)));replace l:=qj l;clear B G C F L x v j;by_cases i:E1=0
  case neg=>
   have D':(E1==0)=false:=by simpa using i
   have U':(E1 !=0)=true:=by simpa using i
   replace i:=qj i;clear s r
   go_wp2_with fail;rw [l.out]
   go_ret2;rw [M.out];exact⟨q.out, .inl ⟨i.out,rfl⟩⟩
  subst i;have N9:d.cell? ⟨g,1,none⟩=some (.int .i64 0):=a.cell 1;have X:=qj (s.zh 1 P);have I:=(qE.refl [g] Z).zh (p:=⟨g,1,none⟩) (qy.2 rfl) P;have iL:=qj (q.trans (I.below (λk f=>by rw [qy.1 f];exact J) q.size))
  have d':=qj (I.own r (λk f w=>qT r s FV k f (qy.1 w)));clear s r I q a
  go_wp2_with fail;rw [l.out]
  go_ret2;rw [M.out,Y.out];exact⟨iL.out, .inr ⟨rfl,g,o,P,m,rfl,rfl,J.out,X.out,d'.out⟩⟩
 have z1:(V==1)=false:=by simpa using m'
 have K:=z.out;have R:=y.out;rw [qJ m'] at K R;by_cases p':V=2
 ·subst p'
  have M:=qj (K.trans (qk rfl));have Y:=qj (R.trans (qk rfl));clear K R;have j:=qj (u.alloc u.size (.cells #[.int .i64 2,(),(),(), .bool false,(), .bool false,(),(),(),(), .slice none 0 0] 58));have v:=qj (Blk.new t 58 #[.int .i64 2,(),(),(), .bool false,(), .bool false,(),(),(),(), .slice none 0 0]);have J:Hid (W.heap.size<=t.heap.size):=u.size;have F:=qj (Q.out _ j);clear U Q S z y T;dsimp only [opA] at F
  go_wp2_with fail;generalize t.alloc (.cells #[.int .i64 2,(),(),(), .bool false,(), .bool false,(),(),(),(), .slice none 0 0] 58)=w2 at*
  generalize t.heap.size=g at*
  refine F.mono ?_;rintro e d ⟨o,m,rfl,L,x⟩;have a:=qj (v.below x v.lt);have C:=qj (j.trans (x.mono j.size));have G:=qj (qi L j.size);have S':d.cell? ⟨g,5,none⟩=some (.int .i64 0):=a.cell 5;have N':d.cell? ⟨g,6,none⟩=some (.bool false):=a.cell 6;have J':d.cell? ⟨g,7,none⟩=some (.int .i64 0):=a.cell 7;have z':d.cell? ⟨g,8,none⟩=some (.int .i64 0):=a.cell 8;have OX:d.cell? ⟨g,9,none⟩=some (.int .i64 0):=a.cell 9;have O':d.cell? ⟨g,10,none⟩=some (.int .i64 0):=a.cell 10;have I':d.cell? ⟨g,11,none⟩=some (.slice none 0 0):=a.cell 11;have P':d.cell? ⟨g,2,none⟩=some (.int .i64 0):=a.cell 2;have ff:=a.frozen;have N6:=World.To g;have Q':=World.TO g;have s:Hid (Blk (UL d g [(5, .int .i64 o2.blk),(6, .bool o2.plain),(7, .int .i64 o2.bkt),(8, .int .i64 o2.data),(9, .int .i64 o2.par),(10, .int .i64 o2.chunk),(11, .slice o l2 m),(2, .int .i64 (n2:Int))]) g 58 #[.int .i64 2,(),n2,(), .bool false,o2.blk, .bool o2.plain,o2.bkt,o2.data,o2.par,o2.chunk, .slice o l2 m]):=ah a _;have B:=qj (dA d g [(5, .int .i64 o2.blk),(6, .bool o2.plain),(7, .int .i64 o2.bkt),(8, .int .i64 o2.data),(9, .int .i64 o2.par),(10, .int .i64 o2.chunk),(11, .slice o l2 m),(2, .int .i64 (n2:Int))]);generalize l:UL d g [(5, .int .i64 o2.blk),(6, .bool o2.plain),(7, .int .i64 o2.bkt),(8, .int .i64 o2.data),(9, .int .i64 o2.par),(10, .int .i64 o2.chunk),(11, .slice o l2 m),(2, .int .i64 (n2:Int))]=Z at*
  simp only [UL] at l;have q:=qj (C.trans (B.below (λk f=>by rw [qy.1 f];exact J) C.size))
  have r:=qj (B.own G (λk f w=>qT G a FV k f (qy.1 w)));replace l:=qj l;clear B G C F L x v j;by_cases i:E2=0
  case neg=>
   have D':(E2==0)=false:=by simpa using i
   have U':(E2 !=0)=true:=by simpa using i
   replace i:=qj i;clear s r
   go_wp2_with fail;rw [l.out]
   go_ret2;rw [M.out];exact⟨q.out, .inl ⟨i.out,rfl⟩⟩
  subst i;have N9:d.cell? ⟨g,1,none⟩=some (.int .i64 0):=a.cell 1;have X:=qj (s.zh 1 l2);have I:=(qE.refl [g] Z).zh (p:=⟨g,1,none⟩) (qy.2 rfl) l2;have iL:=qj (q.trans (I.below (λk f=>by rw [qy.1 f];exact J) q.size))
  have d':=qj (I.own r (λk f w=>qT r s FV k f (qy.1 w)));clear s r I q a
  go_wp2_with fail;rw [l.out]
  go_ret2;rw [M.out,Y.out];exact⟨iL.out, .inr ⟨rfl,g,o,l2,m,rfl,rfl,J.out,X.out,d'.out⟩⟩
 have z2:(V==2)=false:=by simpa using p'
 rw [qJ p'] at K R;by_cases u':V=3
 ·subst u'
  have M:=qj (K.trans (qk rfl));have Y:=qj R;clear K R;have j:=qj (u.alloc u.size (.cells #[.int .i64 3,(),(),(), .bool false,(), .bool false,(),(),(),(), .slice none 0 0] 58));have v:=qj (Blk.new t 58 #[.int .i64 3,(),(),(), .bool false,(), .bool false,(),(),(),(), .slice none 0 0]);have J:Hid (W.heap.size<=t.heap.size):=u.size;have F:=qj (S.out _ j);clear U Q S z y T;dsimp only [opA] at F
  go_wp2_with fail;generalize t.alloc (.cells #[.int .i64 3,(),(),(), .bool false,(), .bool false,(),(),(),(), .slice none 0 0] 58)=w2 at*
  generalize t.heap.size=g at*
  refine F.mono ?_;rintro e d ⟨o,m,rfl,L,x⟩;have a:=qj (v.below x v.lt);have C:=qj (j.trans (x.mono j.size));have G:=qj (qi L j.size);have S':d.cell? ⟨g,5,none⟩=some (.int .i64 0):=a.cell 5;have N':d.cell? ⟨g,6,none⟩=some (.bool false):=a.cell 6;have J':d.cell? ⟨g,7,none⟩=some (.int .i64 0):=a.cell 7;have z':d.cell? ⟨g,8,none⟩=some (.int .i64 0):=a.cell 8;have OX:d.cell? ⟨g,9,none⟩=some (.int .i64 0):=a.cell 9;have O':d.cell? ⟨g,10,none⟩=some (.int .i64 0):=a.cell 10;have I':d.cell? ⟨g,11,none⟩=some (.slice none 0 0):=a.cell 11;have P':d.cell? ⟨g,2,none⟩=some (.int .i64 0):=a.cell 2;have Y':d.cell? ⟨g,3,none⟩=some (.int .i64 0):=a.cell 3;have ff:=a.frozen;have N6:=World.To g;have Q':=World.TO g;have s:Hid (Blk (UL d g [(5, .int .i64 o3.blk),(6, .bool o3.plain),(7, .int .i64 o3.bkt),(8, .int .i64 o3.data),(9, .int .i64 o3.par),(10, .int .i64 o3.chunk),(11, .slice o N m),(2, .int .i64 (n3:Int)),(3, .int .i64 (b3:Int))]) g 58 #[.int .i64 3,(),n3,b3, .bool false,o3.blk, .bool o3.plain,o3.bkt,o3.data,o3.par,o3.chunk, .slice o N m]):=ah a _;have B:=qj (dA d g [(5, .int .i64 o3.blk),(6, .bool o3.plain),(7, .int .i64 o3.bkt),(8, .int .i64 o3.data),(9, .int .i64 o3.par),(10, .int .i64 o3.chunk),(11, .slice o N m),(2, .int .i64 (n3:Int)),(3, .int .i64 (b3:Int))]);generalize l:UL d g [(5, .int .i64 o3.blk),(6, .bool o3.plain),(7, .int .i64 o3.bkt),(8, .int .i64 o3.data),(9, .int .i64 o3.par),(10, .int .i64 o3.chunk),(11, .slice o N m),(2, .int .i64 (n3:Int)),(3, .int .i64 (b3:Int))]=Z at*
  simp only [UL] at l;have q:=qj (C.trans (B.below (λk f=>by rw [qy.1 f];exact J) C.size))
  have r:=qj (B.own G (λk f w=>qT G a FV k f (qy.1 w)));replace l:=qj l;clear B G C F L x v j;by_cases i:E3=0
  case neg=>
   have D':(E3==0)=false:=by simpa using i
   have U':(E3 !=0)=true:=by simpa using i
   replace i:=qj i;clear s r
   go_wp2_with fail;rw [l.out]
   go_ret2;rw [M.out];exact⟨q.out, .inl ⟨i.out,rfl⟩⟩
  subst i;have N9:d.cell? ⟨g,1,none⟩=some (.int .i64 0):=a.cell 1;have X:=qj (s.zh 1 N);have I:=(qE.refl [g] Z).zh (p:=⟨g,1,none⟩) (qy.2 rfl) N;have iL:=qj (q.trans (I.below (λk f=>by rw [qy.1 f];exact J) q.size))
  have d':=qj (I.own r (λk f w=>qT r s FV k f (qy.1 w)));clear s r I q a
  go_wp2_with fail;rw [l.out]
  go_ret2;rw [M.out,Y.out];exact⟨iL.out, .inr ⟨rfl,g,o,N,m,rfl,rfl,J.out,X.out,d'.out⟩⟩
 have z3:(V==3)=false:=by simpa using u'
 rw [qJ u'] at K;have O:V=0/\VE≠0:=by
  rcases T.out with h|h|h|h
  ·exact absurd h m'
  ·exact absurd h p'
  ·exact absurd h u'
  ·exact h
 obtain⟨M',O⟩:=O;have i:(VE==0)=false:=by simpa using O
 have X':(VE !=0)=true:=by simpa using O
 have j:Hid (Below W.heap.size W (t.alloc (.cells #[V,(),(),(), .bool false,(), .bool false,(),(),(),(), .slice none 0 0] 58))):=u.alloc u.size _;replace K:=qj K;replace O:=qj O;replace M':=qj M';clear U Q S z y T R
 go_wp2_with fail
 go_ret2;rw [K.out];exact⟨j.out, .inl ⟨O.out,rfl⟩⟩
end Go.Proofs.YtfnlfpcfkbdcmaaGreatDoor
