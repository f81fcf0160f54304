import Derived.Test.YtfnlfpcfkbdcmaaGreatDoorL06
import Derived.Test.YtfnlfpcfkbdcmaaGreatDoorL08
import Derived.RangeFuncBox
import Derived.RangeFuncLeaves
import Derived.Shelf.Abstract
import Derived.OwnWalkIn
import Derived.TacticsInMore
import Derived.LoopNIn
import Derived.LoopIn
import Derived.BigRegionIn
import Derived.Sort.QuietTacIn
import Derived.Sort.BigQuietIn
set_option linter.unusedSimpArgs false
set_option linter.unusedVariables false
set_option maxRecDepth 100000
set_option maxHeartbeats 0
open Go.Proofs.Tryz
namespace Go.Proofs.YtfnlfpcfkbdcmaaGreatDoor
variable {B k:Nat}
section
variable {A:q'}{e:List qn}{w:World}
section
open Go.RowKit
def AA (w:World) (n:Nat) (a:List qn) (e:Ending) (w':World):Prop:= ∃A c,e= .returned (.slice A n c)/\zM w' 0 w A n c a/\Below w w w'
theorem vm.I0 {n:Nat} (h:vm w B A n e) (g:k<n): ∃c a Ai b,A=some c/\e[k]? =some a/\w.cell? (c.add k)=some (.slice Ai a b)/\a.length<=b/\b<=maxLen/\Reads w B 1 Ai a (a.map B8):=by
 obtain⟨c,a,Ai,m,b,j,_,l,f,h1,h2,d⟩:=h.row g;have i:=d.len;subst i;exact⟨c,a,_,b,j,l,f,h1,h2,d⟩
theorem Zz:(prog.info? 30).map (λi=>(i.zero,i.size,i.bytes))=some (some (.slice none 0 0),1,24):=AL
structure L7 (w W:World) (R C L:Nat) (f:Nat->Nat->UInt8) (Am:q') (A:q') (xss:List qn):Prop where
 cell: ∀i j,i<R->j<C-> ∃ad,Am=some ad/\W.cell? (ad.add (i*C+j))=some (.int .u8 ((f i j).toNat:Int))
 row: ∀j,j<C-> ∃ad b Aj cj,A=some ad/\xss[j]? =some b/\b.length=L/\W.cell? (ad.add j)=some (.slice Aj L cj)/\Reads W w 1 Aj L (b.map B8)
theorem NM {R C L:Nat} {f:Nat->Nat->UInt8} {o:q'} (q:Reads w w 1 o (R*C) ((zP C f (R*C)).map B8)) (r:vm w w A C e) (s: ∀x∈e,x.length=L) (W:World) (n:Below w w W):L7 w W R C L f o A e:=by
 refine⟨λi j hi c=> ?_,λj c=> ?_⟩
 ·obtain⟨h,b,g,_,a,d⟩:=(q.below n).byte (dQ hi c);rw [Qt _ _ _ _ (dQ hi c),(Jl c).1,(Jl c).2] at a;injection a with a;exact⟨h,g,by rw [a];exact d⟩
 ·obtain⟨h,b,p,t,g,a,d,_,_,l⟩:=(r.below n).I0 c;have m:=s b (zQ a);rw [m] at d l;exact⟨h,b,p,t,g,a,m,d,l⟩
theorem s_ (L:Nat) (f:Nat->UInt8) (a:List qn) (m:L<=1000000) (W:World) (d c:q') (e i j:Nat) (b:qn) (h7:Reads W W 1 d L ((Vu j L f a).map B8)) (h8:Reads W W 1 c L (b.map B8)) (k:a[j]? =some b) (g:b.length=L):
  Calls prog 145 #[.slice d L e, .int .u8 ((f j).toNat:Int), .slice c L i] W (U8 5 W L (Vu (j+1) L f a) 0):=by
 have h:=wR d c L L e i _ b (f j) W h7 h8 uK uK;rw [Nm _ _ _ _ _ k g] at h;have l:NT (Vu j L f a) b=0:=qk (by rw [Vj,g]);rw [l] at h;rw [<-Hz (Vj _ L f a)];exact h
theorem bQ (R C L:Nat) (f:Nat->Nat->UInt8) (c A:q') (k cl:Nat) (d:List qn) (w:World) (hR:R<=255) (hC:C<=255) (hC1:1<=C) (hk:R*C<=k) (hLm:L<=1000000)
  (hm:Reads w w 1 c (R*C) ((zP C f (R*C)).map B8)) (hx:vm w w A C d) (hL: ∀x∈d,x.length=L):
  Calls prog 103 #[.agg #[R,C, .slice c (R*C) k], .slice A C cl] w (AA w R (yH R C L f d)):=by
 have S:=qj (λW hB=>NM hm hx hL W hB);have O':=qj (λi=>s_ L (f i) d hLm);obtain⟨i0,hi,M,N,u'⟩:=xt xR;obtain⟨i1,iL,m',Y,O⟩:=xt Zz;have LT:=qj (λ(i j:Nat) (hi:i<R) (hj:j<C)=>dQ hi hj);have hRC:=fN hR hC;generalize R*C=q at*;clear hm hx hL;go_in;go_wp2_with (at_make;refine xP _ rfl _ _ 87 rfl w 30 i1 zn 1 jr iL m' Y .i64 .i64 _ _ R rfl rfl rfl rfl ?_ ?_ ?_ ?_;rotate_left 3;intro U B s;replace B:=qj B;replace s:=qj s);rotate_left 1
 ·rw [O.out];omega
 ·unfold maxLen;omega
 ·exact(zi (qZ _ w) _).size
 have V:=Blk.new w 154 #[R,C, .slice c q k];have T:=zi (qZ w w) (.cells #[R,C, .slice c q k] 154);have D':=qj (V.grown s s8);have K:=qj (T.grown s T.size s8);have Z':=V.lt;have Z:Hid (zM U 0 w (some ⟨(w.alloc (.cells #[R,C, .slice c q k] 154)).heap.size,0,none⟩) R R (List.replicate R [])):=by
  have h:=B.out;rw [z_] at h;refine zM.AH h s8 (λi xs hi=> ?_) (qp _) K.size;rw [jF] at hi;split at hi
  ·injection hi with hi;subst hi;refine⟨none,0, ?_,qx _,qp _, .inl Reads.none_⟩;rename_i hi';show(madeCells #[zn] R).toList[i]? =some (.slice none 0 0);rw [xf];simp [jF,hi']
  ·cases hi
 clear V T;have G:(w.alloc (.cells #[R,C, .slice c q k] 154)).heap.size=w.heap.size+1:=s8;rw [G] at Z Z';clear G;generalize w.heap.size+1=g at*;have Q':Hid (∀a (W:World),W.ownsRow w 5 1 (.slice (some ⟨a,0,none⟩) L L) L (madeCells #[Value.int .u8 0] L).toList-> ∀i,W.ownsRow w 5 1 (.slice (some ⟨a,0,none⟩) L L) L ((Vu 0 L (f i) d).map B8)):=λa W h i=>by
  rw [si,yP,show B8 0= .int .u8 0 from rfl,<-xf];exact h
 have SK:=qj (λ(i j:Nat) (h:f i j=0)=>sI j L _ d h);go_loopw [16] (λP wr=> ∃i:Nat,P=(i:Value)/\i<=R/\Hid (Below w w wr)/\Hid (Blk wr w 154 #[R,C, .slice c q k])/\Hid (zM wr 0 w g R R (yH i C L f d++List.replicate (R-i) []))) (λP _=>R-(intOf P).toNat)
 ·exact⟨0,rfl,uK,K,D',Z⟩
 ·clear K;obtain⟨i,rfl,hiR,u,E,r⟩:=hrel;by_cases y:i<R
  ·have hlt':=j' i R;have hC0:=yn C;obtain⟨ad,b0,A0,c0,H,-,-,e0,-⟩:=(S _ u).row 0 uK;subst H;have e0':wr.cell? ad=some (.slice A0 L c0):=by simpa [Addr.add] using e0
   clear e0;go_wp2_with (at_make;refine xP _ rfl _ _ 30 rfl w 5 i0 (.int .u8 0) 1 qu hi M N .i64 .i64 _ _ L rfl rfl rfl rfl ?_ ?_ ?_ ?_;rotate_left 3;intro w4 F D;replace F:=qj F;replace D:=qj D);rotate_left 1
   ·rw [u'.out];omega
   ·unfold maxLen;omega
   ·exact u.size
   have M':=qj ((qZ _ _).grown D (qx _) s8);have z':=qj (Q' _ _ (by have h:=F.out;rw [z_] at h;exact h) i);clear e0';generalize I':wr=wA at*;go_loopw [26,7] (λp' v7 wr=> ∃(j a:Nat) (n:q'),p'=(j:Value)/\v7= .slice n L a/\j<=C/\Hid (Below wA wA wr)/\Hid (wr.ownsRow w 5 1 (.slice n L a) L ((Vu j L (f i) d).map B8))) (λp' _ _=>C-(intOf p').toNat)
   ·exact⟨0,L,_,rfl,rfl,uK,M',z'⟩
   ·obtain⟨j,a,n,rfl,rfl,hjC,l,o⟩:=hrel;have z:=qj (zX u l);by_cases J:j<C
    ·have hjl':=j' j C;obtain⟨am,X',em⟩:=(S _ z).cell i j y J;obtain⟨OX,b,Aj,cj,H,hb,hl,ej,hr⟩:=(S _ z).row j J;obtain rfl:ad=OX:=by injection H
     subst X';have I:=E.below l E.lt;have x1:wr.cell? ⟨w,1,none⟩=some (C:Value):=I.cell 1;have x2:wr.cell? ⟨w,2,none⟩=some (.slice (some am) q k):=I.cell 2;have hq:=LT i j y J;have hmul1:=(zB i C).symm;have d':=qj (O' i _ n _ a cj j b (Reads.zY o) (hr.more z.size) hb hl);have X:=qj (SK i j);clear H hb hl hr I;by_cases m:f i j=0
     focus
      have Q:=X m;rw [m] at em;rw [<-Q] at o
     rotate_left
     focus
      have hne:((f i j).toNat:Int)≠0:=λe=>m (Xf (by simpa using e));generalize (f i j).toNat=cn at*
     rotate_left
     all_goals
      generalize i*C=q1 at*;have hsum1:(q1:Int)+(j:Int)=((q1+j:Nat):Int):=uK;generalize q1+j=t at*;have N':=j' t q;have hs10:=xi t;go_wp2_with fail
     ·refine xk ?_;exact⟨j+1,a,n,xh,rfl,uK,l,o⟩
     ·refine d'.mono ?_;rintro e w6 ⟨A6,c6,rfl,N6,G'⟩;have HO6:=qj (qi N6 (qv u.size l.size));have S':=qj (zX l G');clear N6 G' x1 x2 em ej;go_wp2_with fail;refine xk ?_;exact⟨j+1,c6,A6,xh,rfl,uK,S',HO6⟩
    ·have G:=vc C j;obtain rfl:j=C:=uK;obtain⟨⟨v,hv⟩,hfr⟩:=(r.below l).slot y;have J':=qj ((r.below l).LJ y (j8.own (b0:=0) o).1 (j8.own o).2);rw [sL _ _ _ _ _ _ y] at J';have P':=(r.ex.choose_spec.1.lt g rfl).1;have Y':w.heap.size≠g:=uK;have N9:=qj (z.setCell (p:=⟨g,i,none⟩) P' (.slice n L a));have U':Hid (Blk (wr.setCell ⟨g,i,none⟩ (.slice n L a)) w 154 #[R,j, .slice c q k]):=(E.below l E.lt).far Y' _;clear o l r;go_wp2_with fail;clear hv hfr;refine xk ?_;exact⟨i+1,xh,uK,N9,U',J'⟩
  ·have G:=vc R i;obtain rfl:i=R:=uK;rw [xO,List.replicate_zero,jx] at r;go_wp2;go_ret;exact⟨_,_,rfl,r,u⟩
end
end
section
section
open Go.RowKit
def pcC (a b c d:Nat):Array Value:= #[a,b,c,d]
theorem WC (a b c d:Nat):(pcC a b c d).all (·.oneCell')=true:=by simp [pcC,Value.oneCell']
def pcT (p:Nat×Nat×Nat×Nat):Array Value:=pcC p.1 p.2.1 p.2.2.1 p.2.2.2
theorem fy:(prog.info? 254).map (·.size)=some 4:=AL
def Bp (t:Nat×Nat×Nat):Prop:=t.1<256/\YB (t.1:Int) (t.2.1:Int) (t.2.2:Int)=true
theorem BP (t:Nat×Nat×Nat) (w:World) (ht:Bp t):
  Calls prog 170 #[.agg #[.int .u8 (t.1:Int),(t.2.1:Int),(t.2.2:Int)]] w λe w'=>e= .returned (.tuple #[.agg (pcT (Qo t)),()])/\Below w w w':=by
 obtain⟨lt,a,c⟩:=t;obtain⟨B,j⟩:=ht;dsimp only at B j⊢;have M:=λW=>qj (F6 (lt:Int) (a:Int) (c:Int) W);rw [j] at M;unfold pcT Qo;dsimp only;by_cases h0:a=0
 focus
  subst h0;rw [qk rfl];rw [show((0:Nat):Int)=0 from rfl] at M⊢;have G:IntKind.i64.wrap (lt:Int)=(lt:Int):=SX;clear j
 rotate_left
 focus
  rw [qJ h0];have s:lt=0/\3<=a/\a<=257/\1<=c/\c<=4095:=by
   unfold YB at j;rw [qJ uK] at j;have:=xD j;omega
  obtain⟨rfl,h3,I,h1,C⟩:=s;have v:=λW=>qj (Bk (a-2) W uK uK);have z:=λW=>qj (Bk c W uK uK);have N:=PB (x:=a-2) uK uK;have H:=PB (x:=c) uK uK;have L:(a:Int)-2=((a-2:Nat):Int):=uK;have F:a-2<256:=uK;generalize Nat.log2 (a-2)=f,Nat.log2 c=k at*;generalize r:a-2-2^f=m,u:c-2^k=n at*;generalize a-2=l2 at*;have E:wrap64 (257+(f:Int))=257+(f:Int):=by rw [wrap64];omega
  have y:Hid (pcC (257+f) m k n= #[.int .i64 (257+(f:Int)), .int .i64 (m:Int), .int .i64 (k:Int), .int .i64 (n:Int)]):=by rw [Hid];unfold pcC;rw [xe];rfl
  have K:((a:Int)==0)=false:=SZ;rw [show((0:Nat):Int)=0 from rfl] at M⊢;clear j r u h0
 rotate_left
 all_goals
  go_in;go_wp2_with fail;refine zC (M _).out ?_;intro g d
 ·have b:Blk g (w.heap.size+1) 254 (pcC 0 0 0 0):=by
   refine Blk.below ?_ d s8;have h:=Blk.new (w.alloc (.cells #[.int .u8 (lt:Int),(),c] 193)) 254 (pcC 0 0 0 0);simpa [pcC] using h
  have ht:Blk g w 193 #[.int .u8 (lt:Int),(),c]:=by
   refine Blk.below ?_ d SZ;exact(Blk.new w _ _).alloc _
  have i:=qj (((qZ w w).alloc (qx _) (.cells #[.int .u8 (lt:Int),(),c] 193)).alloc s8 (.cells #[(),(),(),()] 254)|>.trans (d.mono SZ));have J:g.cell? w.heap.size=some (.int .u8 (lt:Int)):=ht.cell 0;have p:g.cell? ⟨w,1,none⟩=some (.int .i64 0):=ht.cell 1;replace b:=qj b;clear d ht;go_wp2_with (first|(refine qC rfl 254 _ _ rfl (w.heap.size+1) (pcC lt 0 0 0) rfl rfl 254 (pcC 0 0 0 0) b.out fy rfl (WC _ _ _ _) ?_));exact qW (zN rfl _ _ _ _ _ rfl rfl (qN _ _ _ _ _ _ _ (b.row _) underlying254 rfl fy)) rfl ⟨rfl,zu i (jv _) _⟩
 ·have b:Blk g (w.heap.size+1) 254 (pcC 0 0 0 0):=by
   refine Blk.below ?_ d s8;have h:=Blk.new (w.alloc (.cells #[.int .u8 0,a,c] 193)) 254 (pcC 0 0 0 0);simpa [pcC] using h
  have ht:Blk g w 193 #[.int .u8 0,a,c]:=by
   refine Blk.below ?_ d SZ;exact(Blk.new w _ _).alloc _
  have i:=qj (((qZ w w).alloc (qx _) (.cells #[.int .u8 0,a,c] 193)).alloc s8 (.cells #[(),(),(),()] 254)|>.trans (d.mono SZ));have p:g.cell? ⟨w,1,none⟩=some (a:Value):=ht.cell 1;replace b:=qj b;replace ht:=qj ht;clear d;go_wp2_with fail;refine zC (v _).out ?_;intro A l;have q:A.cell? ⟨w,2,none⟩=some (c:Value):=(ht.below (l.below _) ht.lt).cell 2;replace b:=qj (b.below (l.below _) b.lt);replace i:=qj (i.trans (l.below _));clear l p;go_wp2_with fail;refine zC (z _).out ?_;intro D o;replace b:=qj (b.below (o.below _) b.lt);replace i:=qj (i.trans (o.below _));clear o q;go_wp2_with (first|(rw [<-y.out];refine qC rfl 254 _ _ rfl (w.heap.size+1) (pcC (257+f) m k n) rfl rfl 254 (pcC 0 0 0 0) b.out fy rfl (WC _ _ _ _) ?_));exact qW (zN rfl _ _ _ _ _ rfl rfl (qN _ _ _ _ _ _ _ (b.row _) underlying254 rfl fy)) rfl ⟨rfl,zu i (jv _) _⟩
end
end
section
variable {a:List (List Value)}{j:Nat}{vs:List Value}
section
open Go.RowKit
theorem XC (z:Value) (n:Nat) (h:z.cells.size=1):(Builtin.zeroCells z.cells n).size=n:=by unfold Builtin.zeroCells;rw [Array.size_map,Array.size_range,h,z_]
structure UX (W:World) (B:Nat) (A:q') (m:Nat) (vss:List (List Value)):Prop where
 len:vss.length=m
 at_: ∀j,j<m-> ∃ad Aj nj cj vs,A=some ad/\vss[j]? =some vs/\W.cell? (ad.add j)=some (.slice Aj nj cj)/\Reads W B 1 Aj nj vs/\ ∀u∈vs,u.oneCell'=true
theorem UX.below {W a:World} {m:Nat} {A:q'} {d:List (List Value)} (h:UX W B A m d) (b:Below W W a):UX a a A m d:=by
 refine⟨h.len,λj t=> ?_⟩;obtain⟨g,y,n,v,vs,r,s,i,c,q⟩:=h.at_ j t;refine⟨g,y,n,v,vs,r,s,(b.cell (yM i)).trans i, ?_,q⟩;refine⟨c.1,λw=> ?_⟩;obtain⟨k,e,z,l⟩:=c.2 w;have f:k.block<W.heap.size:=by
  have x:0<vs.length:=by have:=c.1;omega
  have h0:=l 0 _ (qX x);have:=yM h0;rwa [xF] at this
 exact⟨k,e,qB f b.size,λj u o=>(b.cell (by rw [xF];exact f)).trans (l j u o)⟩
def total (a:List (List Value)):Nat:=a.flatten.length
theorem dX (h:a[j]? =some vs):(a.take (j+1)).flatten=(a.take j).flatten++vs:=by
 rw [qs,h];simp
theorem K9 (h:a[j]? =some vs):total (a.take (j+1))=total (a.take j)+vs.length:=by
 unfold total;rw [dX h,qK]
theorem FK (a:List (List Value)) (j:Nat):total (a.take j)<=total a:=by
 unfold total;have h:a.flatten=(a.take j).flatten++(a.drop j).flatten:=by rw [<-xM,QG]
 rw [h,qK];omega
theorem Su (n:Nat) (w:World) (k:n<=1000000000):Calls prog 281 #[zn,n] w λe w'=> ∃A c,e= .returned (.slice A 0 c)/\w'.ownsRow w 30 1 (.slice A 0 c) 0 []/\Below w w w':=by
 obtain⟨j,hi,f,h,g⟩:=qA Zz;by_cases h0:n=0
 ·subst h0;go_wp2;go_ret;exact⟨none,0,rfl,qP _ _ _ 1,qZ _ _⟩
 ·have l:=yn n;have o:=grownCap_ge w n 0 30;have a:=grownCap_le_maxLen w n 0 30 SJ;have i: ∀d,(Builtin.append_ #[87,3] d #[zn,n]).run prog w=
   .ok (.slice w n (grownCap w n 0 30)) (w.drew.alloc (.cells (Builtin.zeroCells (Value.slice none 0 0).cells n++Builtin.zeroCells (Value.slice none 0 0).cells (grownCap w n 0 30-n)) 30)):=λd=>Lib.run_append_nil_zeros w _ _ d _ j (Value.slice none 0 0) .i64 .i64 jr yu hi f n uK uK uK (by rw [g];omega)
  generalize grownCap w n 0 30=G at*;have b:(Builtin.zeroCells (Value.slice none 0 0).cells n++Builtin.zeroCells (Value.slice none 0 0).cells (G-n)).size=G*1:=by rw [Array.size_append,XC _ _ rfl,XC _ _ rfl];omega
  generalize Builtin.zeroCells (Value.slice none 0 0).cells n++Builtin.zeroCells (Value.slice none 0 0).cells (G-n)=C at*;replace b:=qj b;replace a:=qj a;go_in;go_wp2_with (at_builtin;refine Lib.wpList_append_run _ rfl _ _ _ _ rfl _ _ rfl rfl _ _ (i _) ?_)
  all_goals
   go_ret;exact⟨_,_,rfl,World.ownsRow_made w.drew C G (qx _) a b,(qZ _ _).drew.alloc (qx _) _⟩
theorem ev (A:q') (m c:Nat) (a:List (List Value)) (w:World) (hm:m<=100000) (ht:total a<=1000000000) (h:UX w w.heap.size A m a):
  Calls prog 262 #[.slice A m c] w λe w'=> ∃O N,e= .returned (.slice O (total a) N)/\w'.ownsRow w.heap.size 30 1 (.slice O (total a) N) (total a) a.flatten/\Below w.heap.size w w':=by
 have H:=qj (λW (hW:Below w.heap.size w W)=>h.below hW);obtain⟨i0,hi,I,v,K⟩:=xt Zz;have J:=qj (λj=>FK a j);have D:Hid (∀j,m<=j->a.take j=a):=λj hj=>qH (by rw [h.len];exact hj);have P:=qj (λn W hn=>Su n W hn);clear h;obtain⟨T,p⟩: ∃T,total a=T:=⟨_,rfl⟩;rw [p] at J ht⊢;replace p:=qj p;go_wp2;go_loop [11,3] (λB v3=> ∃j s:Nat,B=(j:Value)/\v3=(s:Value)/\j<=m/\s<=1000000000/\Hid (s=total (a.take j))) (λB _=>m-(intOf B).toNat)
 ·exact⟨0,0,rfl,rfl,uK,uK,by show 0=total (a.take 0);simp [total]⟩
 ·obtain⟨j,s,rfl,rfl,D',hs,HS⟩:=hrel;by_cases z:j<m
  ·have z':=j' j m;obtain⟨ad,V,d,U,vs,G,g,hc,f,-⟩:=(H w (qZ _ _)).at_ j z;subst G;have o:Hid (s+d=total (a.take (j+1))):=by unfold Hid;rw [K9 g,<-HS.out];have:=f.1;omega
   have L:=J (j+1);rw [<-o.out] at L;clear g f;have G':(s:Int)+(d:Int)=((s+d:Nat):Int):=uK;generalize s+d=Y at*;go_wp2;go_round
   case rel=>exact⟨j+1,Y,xh,rfl,uK,uK,o⟩
   case measure=>simp [intOf];omega
  ·have r:Hid (s=T):=by unfold Hid;rw [HS.out,D.out j uK];exact p.out
   have u:=r.out;subst u;clear HS;go_wp2_with fail;refine(P _ _ hs).mono ?_;rintro e w1 ⟨Q,c1,rfl,M,q⟩;have S:Hid (w1.ownsRow w.heap.size 30 1 (.slice Q 0 c1) 0 (a.take 0).flatten):=by unfold Hid;rw [vG];exact M
   replace q:=qj q;clear M;go_wp2;go_loopw [27,6] (λy v6 wr=> ∃(j b l:Nat) (i:q'),y=(j:Value)/\v6= .slice i b l/\j<=m/\b<=1000000000/\Hid (b=total (a.take j))/\Hid (Below w.heap.size w wr)/\Hid (wr.ownsRow w.heap.size 30 1 (.slice i b l) b (a.take j).flatten)) (λy _ _=>m-(intOf y).toNat)
   ·exact⟨0,0,c1,Q,rfl,rfl,uK,uK,by show 0=total (a.take 0);simp [total],q,S⟩
   ·obtain⟨j,b,l,i,rfl,rfl,D',I',HS,k,t⟩:=hrel;by_cases z:j<m
    ·have z':=j' j m;obtain⟨ad,V,d,U,vs,G,g,hc,f,F⟩:=(H _ k).at_ j z;subst G;have o:Hid (b+d=total (a.take (j+1))):=by unfold Hid;rw [K9 g,<-HS.out];have:=f.1;omega
     have L:=J (j+1);rw [<-o.out] at L;have u':=qj (dX g);have p':b+d<=maxLen:=SJ;have m':(b+d)*24<=140737488355328:=uK;replace f:=qj f;replace F:=qj F;clear g;go_wp2_with (at_builtin;refine qF _ rfl (.tmp 31) (.tmp 32) 87 rfl w.heap.size 30 i0 (Value.slice none 0 0) 1 24 jr hi I v K rfl uK i b l _ rfl t wr.heap.size V d U _ rfl f F p' m' k.size ?_;intro A3 Z X C R d';have E:=zG k R t k.size;replace C:=qj C;replace E:=qj E;clear R d');refine xk ?_;exact⟨j+1,b+d,Z,A3,xh,rfl,uK,uK,o,E,by rw [u'.out];exact C⟩
    ·have r:Hid (b=s):=by unfold Hid;rw [HS.out,D.out j uK];exact p.out
     have u:=r.out;subst u;have x:=D j uK;rw [x] at t;go_wp2;go_ret;exact⟨i,l,rfl,t,k⟩
end
end
section
section
open Go.RowKit Go.Shelf
attribute [local go_sem] J4
def Qc (A:q') (ch x:Nat):Value:= .slice (A.map (·.add (x*ch))) ch ch
theorem eX (A:q') (n c i s ch:Nat) (g:s=i+ch) (h1:1<=ch) (e:s<=c) (W:World):
  (Instr.slice 30 (.slice A n c) (some (i:Value)) (some (s:Value)) (some (s:Value))).run prog W= .ok (.slice (A.map (·.add i)) ch ch) W:=by
 have ht:prog.underlying 30=some (.slice (prog.elem 30)):=AL;rw [run_slice_lhm W _ A n c ht .i64 .i64 .i64 (i:Int) _ (s:Int) uK uK (Int.le_refl _) uK];have b:(sizeOf (prog.elem 30)).run prog W= .ok 1 W:=by
  obtain⟨j,hi,f,a,h⟩:=qA xR;have d:prog.elem 30=5:=AL;rw [d];simp [sizeOf,typeInfo,hi,a]
 rw [b];simp only [Result.andThen,zc,sliced];rw [qJ uK,z_,show s-i=ch by omega]
theorem Vv (q k:Nat) (h:k<q):(List.finRange q).take (k+1)=(List.finRange q).take k++[⟨k,h⟩]:=by
 rw [qs,qX (by simpa using h)];simp
theorem SU (F:Fence) (n:Nat) (hf:F.fn 99) (G:F.round=none) (hn:1<=n) (l t g r:Nat) (A:q') (N c ch q:Nat) (D:N=q*ch) (h1:1<=ch) (hc:N<=c) (D':N<=1000000000) (J L:List (Fin q)->World->Prop) (T: ∀s W m,J s W->J s (W.drewN m))
  (Q: ∀a x W,J a W->a.length<q->YieldAt F (n-1) prog l #[Qc A ch x.val] W λe d=>
   (e= .returned true/\J (a++[x]) d/\Below r W d)\/(e= .returned false/\L (a++[x]) d))
  (W:World) (U:W.cell? t=some (.slice A N c)) (m':W.cell? g=some (ch:Value)) (hs:t<r) (E:g<r) (h0:J [] W):
  CallsIn F n prog 99 #[.func (.yield l) #[] #[], .pointer t, .pointer g] W λe d=>(∃v,e= .returned v)/\
   ((∃I,I=List.finRange q/\J I d)\/(∃a,(∃k,k<=q/\a=(List.finRange q).take k)/\L a d)):=by
 obtain⟨R,hi,d',C,iL⟩:=qA xR;have K:=qj (λ(i:Nat) (h:i<=N)=>jI _ 5 R 1 qu hi C A N c i .i64 h);have H:=qj (λ(i s:Nat) (h2:s=i+ch) (h3:s<=c)=>eX A N c i s _ h2 h1 h3);clear hi d' C iL;have B:=qj D;clear D;refine callsIn_of_wp func99 rfl hf ?_ G;simp only [ntmps99,xd,qf,zF,Nat.reduceAdd,Nat.reduceSub,ya,yA,QI,yI,xY,Qy];gi_wp2;gi_loopw [4] (λz wr=> ∃k i:Nat,k<=q/\z=(i:Value)/\i<=N/\Hid (i=k*ch)/\J ((List.finRange q).take k) wr/\Below r W wr)
  (λz _=>N-(intOf z).toNat)
 ·exact⟨0,0,qp _,rfl,qp _,by show 0=0*ch;rw [jd],h0,qZ _ _⟩
 ·obtain⟨k,i,hk,rfl,S,o,u,y⟩:=hrel;have c1:=(y.cell (p:= t) hs).trans U;have c2:=(y.cell (p:= g) E).trans m';by_cases f:k<q
  ·have p':i+ch<=N:=by
    rw [o.out,B.out,<-ql];exact zk _ f
   have N':=j' i N;obtain⟨s,j⟩:=j1 (i+ch);have u':(i:Int)+(ch:Int)=(s:Int):=uK;have z':s<=1000000000:=uK;have O':=vc s c;have hcut:=K i S;have P':=H i s j uK;have G': ¬N-i<ch:=uK;generalize M:N-i=ni at*;have w:Qc A ch (⟨k,f⟩:Fin q).val= .slice (A.map (·.add i)) ch ch:=by unfold Qc;rw [o.out]
   rw [show A.map (·.add i)=A.map (·.add i) from rfl] at w;generalize A.map (·.add i)=Ai at*;replace j:=qj j;gi_wp2;refine wpIn_region_quiet_lit G AL AL ?_;repeat (gi_big_quiet_step (fail))
   refine wpQuietIn_nil ?_;intro _ O;obtain⟨nq,Y⟩:=O;subst Y;obtain⟨fn,tmps,M',N9,hy,Z⟩:=Q _ ⟨k,f⟩ (wr.drewN nq) (T _ _ _ u) (by rw [qh,ye];omega);rw [w] at hy;clear w hcut;gi_wp2;refine Z.mono ?_;rintro e W3 (⟨rfl,X,b⟩|⟨rfl,V⟩)
   ·have c3:=(b.cell (p:= g) E).trans c2;gi_wp2;refine xk ?_;exact⟨k+1,s,uK,rfl,uK,by show s=(k+1)*ch;rw [ql,<-o.out];exact j,by rw [Vv q k f];exact X,y.trans ⟨b.os,b.tape,b.output,b.size,b.block⟩⟩
   ·gi_wp2;refine qW (results_none rfl _ _ _) rfl ?_;exact⟨⟨_,rfl⟩, .inr ⟨_,⟨k+1,uK,(Vv q k f).symm⟩,V⟩⟩
  ·obtain rfl:k=q:=uK;have J':(N:Int)<=(i:Int):=by have:=o.out;have:=B.out;omega
   rw [qH s8] at u;gi_wp2;go_end0;exact⟨⟨_,rfl⟩, .inl ⟨_,rfl,u⟩⟩
theorem eV (F:Fence) (n:Nat) (B:F.fn 99) (u:F.round=none) (C:1<=n) (b a d:Nat) (A:q') (N c ch q:Nat) (j:N=q*ch) (h1:1<=ch) (D:N<=c) (t:N<=1000000000) (w:World)
  (H:w.cell? b=some (.slice A N c)) (G:w.cell? a=some (ch:Value)) (f:b<d) (o:a<d) (I:d<=w.heap.size):
  SeqStopsK F n prog 99 #[.pointer b, .pointer a] (λx:Fin q=> #[Qc A ch x.val]) (Below d) (λv=>v=List.finRange q) (λi=> ∃k,k<=q/\i=(List.finRange q).take k) q w:=λl J E W h y _ z h0=>
 SU F n B u C l b a d A N c _ q j h1 D t J E (λs g m f=>y s g _ none f ⟨rfl,rfl,rfl,qx _,λ_ _ _=>rfl⟩ (λr e=>by cases e)) z W ((h.cell (p:= b) (by show b<_;omega)).trans H) ((h.cell (p:= a) (by show a<_;omega)).trans G) f o h0
theorem appendSeq_in (F:Fence) (n:Nat) (Z:F.fn 98) (u:F.fn 99) (s:F.round=none) (hn:3<=n) (d b:Nat) (A:q') (N c ch q:Nat) (I:N=q*ch) (h1:1<=ch) (t:N<=c) (L:N<=1000000000) (hq:q<=100000) (w:World)
  (Y:w.cell? d=some (.slice A N c)) (X:w.cell? b=some (ch:Value)) (o:d<w.heap.size) (y:b<w.heap.size):
  CallsIn F n prog 98 #[zn, .func (.func 99) #[] #[.pointer d, .pointer b]] w λe z=> ∃v,e= .returned v/\z.ownsRow w 30 1 v q ((List.finRange q).map λx=>Qc A ch x.val)/\Below w w z:=by
 have T:1<=n:=uK;obtain⟨P,hi,U,H,V⟩:=qA Zz;have R:=Boxed.new w 87 zn;have r:Below w w (w.alloc (.cells #[zn] 87)):=(qZ _ w).alloc (qx _) _;have c1:=(r.cell (p:= d) o).trans Y;have c2:=(r.cell (p:= b) y).trans X;have J:=eV F (n-1) u s uK d b w A N c _ q I h1 t L _ c1 c2 o y r.size;refine callsIn_of_wp_marks func98 rfl Z ?_ s;simp only [ntmps98,xd,qf,zF,Nat.reduceAdd,Nat.reduceSub,ya,yA,QI,yI,xY,Qy];gi_wp2;refine wpIn_rangeFunc_ownG s T (gf:=99) (lb:= #[.pointer d, .pointer b]) rfl u (enters_of func99 AL rfl)
  J belowK_t (belowK_b s8) (qZ _ _) (λ_=>rfl)
  (λ(a:List (Fin q)) W=>(∃v,Boxed W w 87 v/\W.ownsRow w 30 1 v a.length (a.map λx=>Qc A ch x.val)/\True)/\Below w w W)
  (λ_ _ _=>False)
  (OwnFrom.and (Own.from (holdsRow_own w w _ _ 1 _ _ _) _) (ownFrom_below (qx _) s8))
  (λ_ _ _ _ _ o _ _=>o)
  ⟨⟨_,R,qP _ _ _ _,trivial⟩,r⟩
  (λx=>{tmps:= #[zn, .func (.func 99) #[] #[.pointer d, .pointer b], .pointer w,undef,zn,Qc A ch x.val, .func (.func 99) #[] #[.pointer d, .pointer b],Qc A ch x.val,undef,undef,undef,undef,undef],defers:=[]}) ?assign ?body ?done ?stop
 case assign=>
  intro l x W K g;gi_wp2;exact g
 case body=>
  rintro l a x W ⟨⟨v,j,f,-⟩,i⟩ p';have t:=j.cell;obtain⟨m,B⟩: ∃m,A.map (·.add (x.val*ch))=m:=⟨_,rfl⟩;have k:Qc A ch x.val= .slice m ch ch:=by unfold Qc;rw [B]
  simp only [k];replace k:=qj k;clear B;gi_wp2_with (gi_at_builtin;refine wpListIn_append_own _ rfl _ _ 87 rfl w 30 P zn 1 24 jr hi U H V rfl FV _ _ _ rfl (f.alloc _) W.heap.size 1 1 [.slice m ch ch] rfl rfl (cell_one_new _ _ _) (by simp [Value.oneCell']) SJ uK (by have:=i.size;simp;omega) ?_;intro v' w1 C Q _;obtain⟨g',u',rfl⟩:=ownsRow_succ C;obtain⟨E,O,d',S,G⟩:=j.appended FV f i.size (qx _) C Q;have iL:=E.cell;have m':=E.frozen);exact⟨S.from _,G,⟨_,O,by simpa [k.out] using d',trivial⟩,i.trans G⟩
 case done=>
  rintro D ys W M rfl ⟨⟨v,j,f,-⟩,i⟩ g;have t:=j.cell;gi_wp2;refine⟨s8, .inl ⟨_,_,rfl,run_takeDeferred g, ?_⟩⟩;refine⟨_,results_tmp rfl _ _ _,v,rfl, ?_,i.trans (belowK_b (qx _) W D _ _ (by simp at M;omega) g rfl rfl)⟩;rw [ye] at f;exact ownsRow_putObj f _ g rfl
 case stop=>
  rintro D c a W _ _ h _;exact h.elim
def dY (a b:Nat):Value:= .func (.func 99) #[] #[.pointer a, .pointer b]
theorem bH (A:q') (N c ch:Nat) (w:World) (h1:1<=ch):
  Calls prog 68 #[.slice A N c,ch] w λe w'=>e= .returned (dY w (w.heap.size+1))/\(w.alloc (.cells #[.slice A N c] 30)).alloc (.cells #[ch] 3)=w':=by
 unfold dY;have a: ¬((ch:Int)<1):=uK;go_wp2;go_ret;exact⟨rfl,rfl⟩
theorem eY (a b:Nat) (A:q') (N c ch q:Nat) (g:N=q*ch) (h1:1<=ch) (i:N<=c) (n:N<=1000000000) (j:q<=100000) (w:World)
  (f:w.cell? a=some (.slice A N c)) (d:w.cell? b=some (ch:Value)) (k:a<w.heap.size) (l:b<w.heap.size):
  Calls prog 67 #[dY a b] w λe w'=> ∃v,e= .returned v/\w'.ownsRow w 30 1 v q ((List.finRange q).map λx=>Qc A ch x.val)/\Below w w w':=by
 have K:=qj (Qz.1 (appendSeq_in _ 5 trivial trivial rfl uK a b A N c _ q g h1 i n j w f d k l));unfold dY;clear g f d;go_in;go_wp2_with fail;refine K.mono ?_;rintro e w' ⟨v,rfl,h,m⟩;go_wp2;go_ret;exact⟨v,rfl,h,m⟩
end
end
section
section
open Go.RowKit
theorem dG (h:k<12):1<=2^k/\2^k<=2048:=⟨Nat.one_le_two_pow,by have:=zZ (show 0<2 by omega) (show k<=11 by omega);simpa using this⟩
theorem Ea (x b:Nat) (w:World) (f:b<12) (h:x<2^b):
  Calls prog 303 #[x,b] w λe w'=>e= .returned true/\w=w':=by
 obtain⟨d,g⟩:=dG f;obtain⟨a,c⟩:=j1 (2^b);have l:(2:Int)^b=(a:Int):=by rw [c,j6];rfl
 rw [<-c] at h d g;have m:IntKind.i64.wrap (a:Int)=(a:Int):=SX;have k:wrap64 (a:Int)=(a:Int):=by rw [wrap64];omega
 have i:=xi x;have q:=j' x a;clear c;go_wp2;go_ret;exact⟨rfl,rfl⟩
def tkC (a:Nat) (b c:Int):Array Value:= #[.int .u8 (a:Int),b,c]
theorem X5 (a:Nat) (b c:Int):(tkC a b c).all (·.oneCell')=true:=by simp [tkC,Value.oneCell']
theorem vq:(prog.info? 193).map (·.size)=some 3:=AL
theorem MV (sym len c far:Nat) (w:World) (h1:257<=sym) (h2:sym<265) (d:len<2^(sym-257)) (x:c<12) (l:far<2^c):
  Calls prog 301 #[.agg #[sym,len,c,far]] w λe w'=>e= .returned (.tuple #[.agg (tkC 0 ((2+2^(sym-257)+len:Nat):Int) ((2^c+far:Nat):Int)),()])/\Below w w w':=by
 have k:=λW=>qj (Ea _ _ W uK d);have r:=λW=>qj (Ea _ c W x l);obtain⟨m,s⟩:=dG (show sym-257<12 by omega);obtain⟨q1,q2⟩:=dG x;obtain⟨b,y⟩:=j1 (sym-257);rw [<-y] at k d m s⊢;have G:(sym:Int)-257=(b:Int):=uK;obtain⟨P,g⟩:=j1 (2^b);obtain⟨D,i⟩:=j1 (2^c);have L:(2:Int)^b=(P:Int):=by rw [g,j6];rfl
 have M:(2:Int)^c=(D:Int):=by rw [i,j6];rfl
 rw [<-g] at d m s⊢;rw [<-i] at l q1 q2⊢;have A:((2+P+len:Nat):Int)=2+(P:Int)+(len:Int):=uK;have z:((D+far:Nat):Int)=(D:Int)+(far:Int):=uK;rw [A,z];have E:IntKind.i64.wrap (b:Int)=(b:Int):=SX;have O:IntKind.i64.wrap (P:Int)=(P:Int):=SX;have j:IntKind.i64.wrap (2+(P:Int))=2+(P:Int):=SX;have B:IntKind.i64.wrap (2+(P:Int)+(len:Int))=2+(P:Int)+(len:Int):=SX;have F:IntKind.i64.wrap (D:Int)=(D:Int):=SX;have I:IntKind.i64.wrap ((D:Int)+(far:Int))=(D:Int)+(far:Int):=SX;have T:=xi sym;have R: ¬(sym:Int)<256:=uK;have H:(257:Int)<=(sym:Int):=uK;have J:(sym:Int)<265:=uK;have c0:=xi c;have c1:(c:Int)<12:=uK;clear y g i A z d l;go_in;go_wp2_with fail;have a:Hid (Blk ((w.alloc (.cells #[sym,len,c,far] 254)).alloc (.cells #[.int .u8 0,(),()] 193)) w 254 #[sym,len,c,far]):=(Blk.new w _ _).alloc _;have u:Hid (Blk ((w.alloc (.cells #[sym,len,c,far] 254)).alloc (.cells #[.int .u8 0,(),()] 193)) (w.heap.size+1) 193 (tkC 0 0 0)):=by
  have h:=Blk.new (w.alloc (.cells #[sym,len,c,far] 254)) 193 (tkC 0 0 0);rw [Hid];simpa [tkC] using h
 have p:Hid (Below w w ((w.alloc (.cells #[sym,len,c,far] 254)).alloc (.cells #[.int .u8 0,(),()] 193))):=((qZ _ w).alloc (qx _) _).alloc s8 _;generalize ((w.alloc (.cells #[sym,len,c,far] 254)).alloc (.cells #[.int .u8 0,(),()] 193))=j at*;refine Ω (k _).out ?_;have t:=a.cell 0;have v:=a.cell 1;have n:=a.cell 2;have o:=a.cell 3;simp only [qR,qt,yN] at t v n o;go_wp2_with fail;refine Ω (r _).out ?_;go_wp2_with fail;go_still_tail 13,AL;change wpList _ _ _ _ _ j.drew;have q:=qj (u.drew);have C:=qj p.drew;clear t v n o k r;generalize j.drew=B at*;go_wp2_with (first|(refine qC rfl 193 _ _ rfl (w.heap.size+1) (tkC 0 (2+(P:Int)+(len:Int)) ((D:Int)+(far:Int))) rfl rfl 193 (tkC 0 0 0) q.out vq rfl (X5 _ _ _) ?_));exact qW (zN rfl _ _ _ _ _ rfl rfl (qN _ _ _ _ _ _ _ (q.row _) jc rfl vq)) rfl ⟨rfl,zu C (jv _) _⟩
end
end
section
section
open Go.RowKit
def STR (s:qn):Value:= .string ⟨s.toArray⟩
def txt (a:qn) (b:Int):qn:=if Xy a b≠0 then [] else(a.drop (Q0 a b).2.1).take (Q0 a b).1
def DM (a:qn) (b:Int):Nat:=if Xy a b≠0 then 0 else(Q0 a b).2.1+(Q0 a b).1
theorem CZ (R:q') (m j B bm h:Nat) (a:qn) (b:Int) (W:World) (l:Reads W B 1 R m (a.map B8)) (E:m<=1000000000) (u:m<=j) (H:b<=9223372036854775807) (o:Blk W bm 3 #[b]) (r:Blk W h 9 #[STR []]):
  Calls prog 252 #[.slice R m j, .pointer bm, .pointer h] W λe q=>e= .returned (.tuple #[.int .i64 (DM a b:Nat), .int .i64 (Xy a b)])/\qE [h] W q/\Blk q h 9 #[STR (txt a b)]:=by
 have t:=qj (d_ R m j B a b W l E H);have c1:=o.cell 0;have i:=qj r;have y:=cX a b;have J:(Q0 a b).1<9223372036854775808:=by
  by_cases h0:b<0
  ·have:(Q0 a b).1=0:=by unfold Q0;split<;>first|rfl|(rw [qk (.inl h0)])
   omega
  ·have:=Yi a b uK;omega
 have n:=l.len;have F:=qj l;obtain⟨C,z⟩:=j1 ((Q0 a b).2.2);obtain⟨K,hi,L,A,M⟩:=qA xR;by_cases h0:(Q0 a b).2.2=0
 focus
  by_cases h1:m<(Q0 a b).2.1+(Q0 a b).1
  focus
   have d:Xy a b=1:=by unfold Xy;rw [qJ (by simp [h0]),n,qk h1]
   have f:DM a b=0:=by unfold DM;rw [qk (by rw [d];decide)]
   have g:txt a b=[]:=by unfold txt;rw [qk (by rw [d];decide)]
   rw [d,f,g];rw [n] at y;generalize Q0 a b=s at*;obtain⟨x,k,v⟩:=s;dsimp only at*;subst h0;have V:(m:Int)-(k:Int)<(x:Int):=uK;clear l r o h1 z d f g
  rotate_left
  focus
   have d:Xy a b=0:=by unfold Xy;rw [qJ (by simp [h0]),n,qJ h1]
   have f:DM a b=(Q0 a b).2.1+(Q0 a b).1:=by unfold DM;rw [qJ (by rw [d];decide)]
   have g:txt a b=(a.drop (Q0 a b).2.1).take (Q0 a b).1:=by unfold txt;rw [qJ (by rw [d];decide)]
   rw [d,f,g];rw [n] at y;generalize Q0 a b=s at*;obtain⟨x,k,v⟩:=s;dsimp only at*;subst h0;have S: ¬(m:Int)-(k:Int)<(x:Int):=uK;have T:wrap64 ((m:Int)-(k:Int))=(m:Int)-(k:Int):=by unfold wrap64;omega
   have G:wrap64 ((k:Int)+(x:Int))=(k:Int)+(x:Int):=by unfold wrap64;omega
   have hcut:=Vo _ 5 K 1 qu hi A R m j k _ .i64 .i64 (Jk _ _) (qv (Nat.le_of_not_lt h1) u) W;rw [show k+x-k=x by omega,xe] at hcut;have D:Reads W B 1 (xo R j k 1) x (((a.drop k).take x).map B8):=(F.out.VC uK u).takeN uK;have O:=Kf (c:=j-k) _ 9 5 qu xS ju D;have c0:=i.cell 0;have N:=i.frozen 0;rw [xe];show Calls _ _ _ _ λe q=>_/\_/\Blk q h 9 #[STR ((a.drop k).take x)];generalize (a.drop k).take x=Q at*;have I:=qj i.out;clear l r o h1 z d f g D n y J E u hi L A M
  rotate_left
 rotate_left 2
 focus
  have d:Xy a b=(Q0 a b).2.2:=by unfold Xy;rw [qk h0]
  have f:DM a b=0:=by unfold DM;rw [qk (by rw [d];exact h0)]
  have g:txt a b=[]:=by unfold txt;rw [qk (by rw [d];exact h0)]
  rw [d,f,g];generalize Q0 a b=s at*;obtain⟨x,k,v⟩:=s;dsimp only at*;have U:(v !=(0:Int))=true:=by simp [h0]
  clear l r o z d f g h0
 rotate_left
 all_goals
  go_in;go_wp2_with fail;refine Ω t ?_;go_wp2;go_ret2
 ·exact⟨rfl,qE.refl _ _,i⟩
 ·rw [G];exact⟨rfl,(qE.refl [h] _).zh (p:= h) s8 _,I.zh 0 _⟩
 ·exact⟨rfl,qE.refl _ _,i⟩
end
end
section
section
open Go.RowKit
theorem Se (a:qn) (b:Int) (h:Xy a b=0):(Q0 a b).2.1+(Q0 a b).1<=a.length:=by
 unfold Xy at h;split at h
 ·rename_i h2;exact absurd h h2
 ·split at h
  ·cases h
  ·rename_i h3;exact Nat.le_of_not_lt h3
theorem eR (b:qn) (c:Cu) (d:Int):xa b d c=(if c.err≠0 then [] else txt (b.drop c.at_) d,yO c (DM (b.drop c.at_) d) (Xy (b.drop c.at_) d)):=by
 unfold xa yO txt DM;by_cases h0:c.err≠0
 ·rw [qk (.inl h0),qk h0,qk h0,qk h0]
 ·by_cases a:Xy (b.drop c.at_) d≠0
  ·rw [qk (.inr a),qJ h0,qk a,qJ h0,qk a,qJ h0,qk a]
  ·rw [qJ (λh=>h.elim h0 a),qJ h0,qJ a,qJ h0,qJ a,qJ h0,qJ a,qJ a]
theorem pB (W:World) (g:Nat) (A:q') (n cap:Nat) (b:qn) (c:Cu) (a:Int) (h:Cur W g A n cap b c) (w:a<=9223372036854775807):
  Calls prog 227 #[.pointer g,a] W (jS W g A n cap b (STR (xa b a c).1) (xa b a c).2):=by
 obtain⟨k,i,r⟩:=dP W 3 9 a (STR []) (.inr trivial);have h1:=h.fresh r;have l:W.heap.size+1≠g:=λe=>by have:=h.blk.lt;omega
 have B:W.heap.size+1∉fpS A:=λe=>by have:=(zj h.own _ e).2;omega
 have y:=h.len;have z:(b.drop c.at_).length=n-c.at_:=by rw [qI,y]
 have I:=h.le;have o:=h.lim;have G:=(jC h.own).1;have F:n-c.at_<=cap-c.at_:=Nat.sub_le_sub_right G _;have f:=qj (mU _ g _ A n cap _ c h1 _ _ _ l B
  (λJ q=>CZ _ _ _ _ _ _ _ a J ((h1.dr q).rest) (qv (Qd _ _) o) F w ((q.below _).block _ k.lt|>.trans k) ((q.below _).block _ i.lt|>.trans i)) (λC j u M=>M.far l u)
  (λh0=>by have h2:=Se _ _ h0;rw [z] at h2;unfold DM;rw [qJ (λN=>N h0)];clear w o;omega))
 unfold jS;rw [eR];clear z;generalize txt (b.drop c.at_) a=O,DM (b.drop c.at_) a=kk,Xy (b.drop c.at_) a=K at*;have H:=qj h1;have E:=qj r;clear h h1 r B y l I o G F;have c0:=i.cell 0;unfold yt at f;by_cases d:c.err=0
 ·simp only [qk d] at f;simp only [qJ (show¬c.err≠0 from λh=>h d)];clear d c0;obtain⟨m,x⟩:=j1 (decide (K=0));rw [<-x] at f;clear x;cases m<;>
  ·go_in;go_wp2_with fail;refine zC f ?_;rintro L ⟨t,s,v⟩;have c0:=v.cell 0;replace t:=qj t;replace s:=qj s;clear v;go_wp2;go_ret;exact⟨rfl,t,UD E s (jv _)⟩
 ·simp only [qJ d] at f;simp only [qk d];have D:=qj d;clear d;go_in;go_wp2_with fail;refine Ω f ?_;go_wp2;go_ret;unfold yO;rw [qk D.out];exact⟨rfl,H,qE.jq E⟩
end
end
section
section
open Go.RowKit
structure Fr (W:World) (gf gc way n p:Nat) (bd:Value) (A:q') (N cap:Nat) (b:qn) (c:Cu):Prop where
 blk:Blk W gf 291 #[.pointer gc,way,n,p,bd]
 cur:Cur W gc A N cap b c
 ne:gf≠gc
section
variable {W W' : World} {gf gc way n p N cap : Nat} {bd : Value} {A : q'} {b : qn} {c c' : Cu}
theorem Fr.step (h:Fr W gf gc way n p bd A N cap b c) (a:Cur W' gc A N cap b c') (d:qE [gc] W W'):Fr W' gf gc way n p bd A N cap b c':=
 ⟨d.blk h.blk (by simpa using h.ne),a,h.ne⟩
theorem Fr.fresh (h:Fr W gf gc way n p bd A N cap b c) (a:Below W W W'):Fr W' gf gc way n p bd A N cap b c:=h.step (h.cur.fresh a) (qE.jq a)
theorem Fr.drew (h:Fr W gf gc way n p bd A N cap b c):Fr W.drew gf gc way n p bd A N cap b c:=h.fresh ((Dr.refl W|>.drewN 1).below _)
theorem Fr.fp (h:Fr W gf gc way n p bd A N cap b c): ∀k∈fpS A,k≠gf:=qT h.cur.own h.blk FV
theorem Fr.Xm (h:Fr W gf gc way n p bd A N cap b c) (i:Nat) (u:Value):Cur (W.setCell ⟨gf,i,none⟩ u) gc A N cap b c:=
 h.cur.jZ ((qE.refl [gf] W).zh (qy.2 rfl) u) (by simpa using λe=>h.ne e.symm) (λk a=>by simpa using h.fp k a)
theorem Fr.Ik (h:Fr W gf gc way n p bd A N cap b c) (v:Nat):Fr (W.setCell ⟨gf,1,none⟩ v) gf gc v n p bd A N cap b c:=⟨by simpa using h.blk.zh 1 v,h.Xm 1 _,h.ne⟩
theorem Fr.GS (h:Fr W gf gc way n p bd A N cap b c) (v:Nat):Fr (W.setCell ⟨gf,2,none⟩ v) gf gc way v p bd A N cap b c:=⟨by simpa using h.blk.zh 2 v,h.Xm 2 _,h.ne⟩
theorem Fr.gJ (h:Fr W gf gc way n p bd A N cap b c) (v:Nat):Fr (W.setCell ⟨gf,3,none⟩ v) gf gc way n v bd A N cap b c:=⟨by simpa using h.blk.zh 3 v,h.Xm 3 _,h.ne⟩
theorem Fr.Lu (h:Fr W gf gc way n p bd A N cap b c) (v:Value):Fr (W.setCell ⟨gf,4,none⟩ v) gf gc way n p v A N cap b c:=⟨by simpa using h.blk.zh 4 v,h.Xm 4 _,h.ne⟩
theorem Fr.cells (h:Fr W gf gc way n p bd A N cap b c):W.cell? gf=some (.pointer gc)/\W.cell? ⟨gf,1,none⟩=some (way:Value)/\W.cell? ⟨gf,2,none⟩=some (n:Value)/\W.cell? ⟨gf,3,none⟩=some (p:Value)/\W.cell? ⟨gf,4,none⟩=some bd:=
 ⟨h.blk.cell 0,h.blk.cell 1,h.blk.cell 2,h.blk.cell 3,h.blk.cell 4⟩
theorem Fr.frz (h:Fr W gf gc way n p bd A N cap b c) (i:Nat):W.frozen? ⟨gf,i,none⟩=false:=h.blk.frozen i
theorem Qf (a:qE [gf,gc] W W') (i:Nat) (u:Value):qE [gf,gc] W (W'.setCell ⟨gf,i,none⟩ u):=a.zh (qo ..) u
theorem yv {a:World} (b:qE [gf,gc] W W') (h:qE [gc] W' a):qE [gf,gc] W a:=b.then (h.mono λk c=>by rw [qy.1 c];simp)
end
def Ca (W:World) (gf a:Nat) (d:Value) (A:q') (N cap:Nat) (b:qn) (e:Ending) (c:World):Prop:=
 e= .returned (.tuple #[])/\Fr c gf a (kF b).1.toNat (ki b).1 (Vl b).1 d A N cap b (gP b)/\qE [gf,a] W c
theorem gV (b:qn):(ki b).1<=32768/\(Vl b).1<=32768:=by
 have key: ∀(c:Cu),(jU b 32768 c).1<=32768:=λc=>by
  unfold jU;dsimp only;split
  ·omega
  ·have:=Yi (b.drop c.at_) 32768 uK;omega
 exact⟨key _,key _⟩
theorem Tq (W:World) (gf g:Nat) (bd:Value) (A:q') (N cap:Nat) (b:qn) (h:Fr W gf g 0 0 0 bd A N cap b ⟨0,0⟩):
  Calls prog 223 #[.pointer gf] W (Ca W gf g bd A N cap b):=by
 have H:=qj h;have G:=qj (QS W g A N cap b ⟨0,0⟩ h.cur);obtain⟨x1,x2⟩:=gV b;unfold Ca;have e1:Hid (j_ b ⟨0,0⟩=kF b):=rfl;rw [e1.out] at G;have q:Hv b=if 1<(kF b).1.toNat then vP (kF b).2 2 else(kF b).2:=rfl
 have e3:Hid (jU b 32768 (Hv b)=ki b):=rfl;have e4:Hid (jU b 32768 (ki b).2=Vl b):=rfl;have d:gP b=if 1032*(Vl b).1+64<(ki b).1 then vP (Vl b).2 6 else(Vl b).2:=rfl
 have w:=qj (λW (h:Cur W g A N cap b (Hv b))=>yK W g A N cap b _ 32768 h uK);have v:=qj (λW (h:Cur W g A N cap b (ki b).2)=>yK W g A N cap b _ 32768 h uK);rw [e3.out] at w;rw [e4.out] at v;generalize Hv b=c2,gP b=c5 at*;have hy:=(kF b).1.toNat_lt;have z':B8 (kF b).1= .int .u8 ((kF b).1.toNat:Int):=rfl;rw [z'] at G;generalize (kF b).1.toNat=y,(kF b).2=c1,(ki b).1=n3,(ki b).2=c3,(Vl b).1=a,(Vl b).2=c4 at*;replace q:=qj q;replace d:=qj d;unfold jS at G w v;obtain⟨q0,-,-,-,-⟩:=h.cells;have wy:IntKind.i64.wrap (y:Int)=(y:Int):=SX;clear h z';go_in;go_wp2_with fail;refine zC G ?_;rintro w1 ⟨p',iL⟩;have P:=H.step p' iL;have g1:=P.cells.2.1;have f1:=P.frz 1;have u:=qj (P.Ik y);have O:=qj (Qf (gf:=gf) (iL.mono (l':=[gf,g]) λk hk=>by rw [qy.1 hk];simp) 1 y);obtain⟨u',D',-,-,-⟩:=u.cells;clear p' iL P q0;by_cases I':1<y
 focus
  have N6:(1:Int)<(y:Int):=uK;have Q:=qj (yB _ g A N cap b c1 2 u.cur);rw [qk I'] at q;rw [<-q.out] at Q;unfold jS at Q;go_wp2_with fail;refine zC Q ?_;rintro Z ⟨G',X⟩;have m:=qj (u.step G' X);have J:=qj (yv O X);clear G' X u' D' g1 f1;have I:=qj (w Z m.cur);obtain⟨q0,-,-,-,-⟩:=m.cells;go_wp2_with fail
 rotate_left
 focus
  have N6: ¬(1:Int)<(y:Int):=uK;rw [qJ I'] at q;rw [<-q.out] at u;have m:=u;have J:=O;go_wp2_with fail;generalize w1.setCell ⟨gf,1,none⟩ y=Z at*;clear u' D' g1 f1;have I:=qj (w Z m.cur);obtain⟨q0,-,-,-,-⟩:=m.cells
 all_goals
  refine zC I ?_;rintro w3 ⟨D,t⟩;have n:=m.step D t;have g2:=n.cells.2.2.1;have f2:=n.frz 2;have i:=qj (n.GS n3);have F:=qj (Qf (yv J t) 2 n3);have E:=qj (v _ i.cur);obtain⟨S,-,-,-,-⟩:=i.cells;clear D t n m J q0;go_wp2_with fail;refine zC E ?_;rintro R ⟨K,s⟩;have o:=i.step K s;have T:=o.cells.2.2.2.1;have U:=o.frz 3;have f:=qj (o.gJ a);have j:=qj (Qf (yv F s) 3 a);obtain⟨M,-,z,C,-⟩:=f.cells;have M':IntKind.i64.wrap (1032*(a:Int))=1032*(a:Int):=SX;have J':IntKind.i64.wrap (1032*(a:Int)+64)=1032*(a:Int)+64:=SX;clear K s o S g2 f2;go_wp2_with fail;generalize R.setCell ⟨gf,3,none⟩ a=B at*;clear T U;by_cases L:1032*a+64<n3
  focus
   have m':1032*(a:Int)+64<(n3:Int):=uK;rw [qk L] at d
  rotate_left
  focus
   have m': ¬1032*(a:Int)+64<(n3:Int):=uK;rw [qJ L] at d
  rotate_left
  all_goals
   go_quiet (fail);have c:=qj (f.fresh ((Dr.refl B|>.drewN nq).below _));have p:=qj (j.drewN nq)
  ·have l:=qj (yB _ g A N cap b c4 6 c.cur);rw [<-d.out] at l;unfold jS at l;obtain⟨Y,-,-,-,-⟩:=c.cells;go_wp2_with fail;refine zC l ?_;rintro w6 ⟨x,r⟩;have d':=qj (c.step x r);have V:=qj (yv p r);clear x r M z C Y;go_wp2;go_end0;exact⟨rfl,d',V⟩
  ·rw [<-d.out] at c;clear M z C;go_wp2;go_end0;exact⟨rfl,c,p⟩
end
end
end Go.Proofs.YtfnlfpcfkbdcmaaGreatDoor
