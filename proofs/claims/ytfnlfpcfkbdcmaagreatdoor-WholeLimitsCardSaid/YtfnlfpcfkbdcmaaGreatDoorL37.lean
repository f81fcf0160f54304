import Derived.Test.YtfnlfpcfkbdcmaaGreatDoorL33
set_option linter.unusedSimpArgs false
set_option linter.unusedVariables false
set_option maxRecDepth 100000
set_option maxHeartbeats 0
open Go.Proofs.Tryz
namespace Go.Proofs.YtfnlfpcfkbdcmaaGreatDoor
open Go.RowKit
theorem Bdy.jZ {W f:World} {base g:Nat} {x:ks} {l:List Nat} (h:Bdy W base g x) (j:qE l W f) (o: ∀k∈l,k<base):Bdy f base g x:=by
 obtain⟨s,r,c0,v,H,c1,F,J,w,K,N,q,C,P,Q,O,p,D,I,M,u,B,G,L,h1,h2,h3,h4,h5,h6,h7⟩:=h;have key: ∀(E:TypeId) (size n c:Nat) (A:q') (e:List Value),W.ownsRow base E size (.slice A n c) n e->f.ownsRow base E size (.slice A n c) n e:=λE size n c A e d=>j.own d (λk m y=>by have:=(zj d k m).1;have:=o k y;omega);refine⟨s,r,c0,v,H,c1,F,J,w,K,N,q,C,P,Q,O,p,D,I,M,u,B,G,j.blk L (λm=>by have:=o g m;omega),key _ _ _ _ _ _ h1,key _ _ _ _ _ _ h2,key _ _ _ _ _ _ h3,key _ _ _ _ _ _ h4, ?_,h6.kept j.size λE _ _ _ _ _ _ d=>key _ _ _ _ _ _ d,h7⟩;obtain⟨vs,d,R,t⟩:=h5;exact⟨vs,key _ _ _ _ _ _ d,R,λi l hi=>by
  obtain⟨Ai,z,a,b⟩:=t i l hi;exact⟨Ai,z,a,key _ _ _ _ _ _ b⟩⟩
def Gj (W:World) (r:Int×Opt×ks) (e:Ending) (a:World):Prop:=
 Below W W a/\((r.1≠0/\e= .returned (.tuple #[.agg (opA opZ), .pointer none, .int .i64 r.1]))\/(r.1=0/\ ∃g base,e= .returned (.tuple #[.agg (opA r.2.1), .pointer (some ⟨g,0,none⟩),()])/\W.heap.size<=base/\Bdy a base g r.2.2))
theorem Nv (b:qn):(Y7 b).2.1=⟨(Y7 b).2.1.blk,(Y7 b).2.1.plain,(Y7 b).2.1.bkt,0,0,0⟩/\(Y7 b).2.2<=b.length:=by
 have h5: ∀c:Cu,c.at_<=b.length->(j_ b c).2.at_<=b.length:=λc h=>Pa b 1 c h;have a: ∀(c:Cu) (e:Int),c.at_<=b.length->(vP c e).at_<=b.length:=λc e h=>by
  unfold vP;split
  ·exact h
  ·exact h
 unfold Y7;dsimp only;have h6:(j_ b (jU b 32768 (jW b 5 ⟨0,0⟩).2).2).2.at_<=b.length:=h5 _ (Us b _ _ (Pa b 5 ⟨0,0⟩ (qp _)));have h7:(if 1<(j_ b (jU b 32768 (jW b 5 ⟨0,0⟩).2).2).1.toNat then vP (j_ b (jU b 32768 (jW b 5 ⟨0,0⟩).2).2).2 2 else(j_ b (jU b 32768 (jW b 5 ⟨0,0⟩).2).2).2).at_<=b.length:=by
  split
  ·exact a _ _ h6
  ·exact h6
 generalize (if 1<(j_ b (jU b 32768 (jW b 5 ⟨0,0⟩).2).2).1.toNat then vP (j_ b (jU b 32768 (jW b 5 ⟨0,0⟩).2).2).2 2 else(j_ b (jU b 32768 (jW b 5 ⟨0,0⟩).2).2).2)=q at*;have h8:=Pa b 4 _ (Us b 64 q h7);generalize (jW b 4 (jU b 64 q).2).2=e at*;constructor
 ·split
  ·rfl
  ·split<;>rfl
 ·split
  ·exact qp _
  ·split
   ·exact qp _
   ·exact h8
theorem rh (A:q') (n c:Nat) (b:qn) (W:World) (ht:Tab W) (h:Reads W W.heap.size 1 A n (b.map B8)) (hc:n<=c) (hm:c<=maxLen) (hn:n<=100000000):
  Calls prog 79 #[.slice A n c] W (Gj W (Vh b)):=by
 obtain⟨R,m⟩:=j1 (Vh b);rw [<-m];unfold Vh at m;dsimp only at m;rw [show(⟨⟨[],[],0,0⟩,[],[],[],[],[]⟩:ks)=J_ from rfl,show(⟨0,false,0,0,0,0⟩:Opt)=opZ from rfl] at m;have iL:Below W.heap.size W (W.alloc (.cells #[(),false,(),(),(),()] 23)):=z8 _;have I:Hid (Blk (W.alloc (.cells #[(),false,(),(),(),()] 23)) W.heap.size 23 (opA opZ)):=Blk.new _ _ _;have N:=qj ht;have p':=qj h;have o:=qj iL;have hbn:b.length=n:=h.len;have KM:=qj (kt A n c W.heap.size b (W.alloc (.cells #[(),false,(),(),(),()] 23)) hc hm (h.below iL));rw [(Vf b).1,(Vf b).2] at KM;generalize V6 b=E,XQ b=V at*;replace m:=qj m;clear ht h iL;go_in;go_wp2_with fail;generalize W.alloc (.cells #[(),false,(),(),(),()] 23)=D at*;refine Ω KM ?_;by_cases F:E=0
 case neg=>
  have r:=qj (m.out.trans (qk F));have M':(E==0)=false:=by simpa using F
  have G':(E !=0)=true:=by simpa using F
  replace F:=qj F;go_wp2_with (first|(refine qC rfl 23 _ _ rfl W.heap.size (opA opZ) rfl rfl 23 (opA opZ) I.out jh rfl (yy _) ?_));refine qW (vI rfl _ _ W.heap.size (opA opZ) (.pointer none) E rfl rfl rfl (qN _ W.heap.size 23 _ (opA opZ) (0,0) _ (I.row _) jK rfl jh)) rfl ?_;unfold Gj;rw [r.out];exact⟨zu o (qx _) _, .inl ⟨F,rfl⟩⟩
 subst F;have l:=m.out;rw [qJ s8] at l;by_cases J:V=2
 case neg=>
  have r:=qj (l.trans (qk J));have hVz:(V==2)=false:=by simpa using J
  have hVn:(V !=2)=true:=by simpa using J
  replace J:=qj J;clear l;go_wp2_with (first|(refine qC rfl 23 _ _ rfl W.heap.size (opA opZ) rfl rfl 23 (opA opZ) I.out jh rfl (yy _) ?_));refine qW (vI rfl _ _ W.heap.size (opA opZ) (.pointer none) (.int .i64 4) rfl rfl rfl (qN _ W.heap.size 23 _ (opA opZ) (0,0) _ (I.row _) jK rfl jh)) rfl ?_;unfold Gj;rw [r.out];exact⟨zu o (qx _) _, .inl ⟨FV,rfl⟩⟩
 subst J;rw [qJ s8] at l;have N6:=Nv b;have KN:=qj (Qk A n c W.heap.size b D (p'.below o) o.size uK);have O:=qj (λW1 d s A' Z' h1 h2 h3 h4 h5 h6=>rG W1 d s W.heap.size A' A n Z' c b h1 h2 h3 h4 h5 h6 hc hm uK);generalize Y7 b=rd at*;obtain⟨S,⟨f,j,kk,d0,q0',ch0⟩,k⟩:=rd;dsimp only at l O N6;obtain⟨hop,hkn⟩:=N6;injection hop with _ _ _ Y' hq0 U';subst Y';subst hq0;subst U';unfold Db at O;dsimp only at O;replace l:=qj l;go_wp2_with fail;refine KN.mono ?_;rintro e w ⟨s,Ac,N',rfl,u',I',-,Y⟩;have OX:Hid (R2 (w.alloc (.cells #[.pointer s,(),false,(),(),(),()] 166)) w s 0 false 0 Ac n N' b ⟨0,0⟩):=⟨Blk.new _ _ _,u'.fresh (z8 _),λe=>by have:=u'.blk.lt;omega⟩;have d':Hid (Below D D (w.alloc (.cells #[.pointer s,(),false,(),(),(),()] 166))):=Y.alloc Y.size _;have X:Hid (D.heap.size<=w.heap.size/\D.heap.size<=s):=⟨Y.size,I'⟩;have m':=o.trans (d'.mono o.size);have N9:=qj (O _ w s Ac N' (N.below m' N.pos) OX (qv o.size X.out.1) (qv o.size X.out.2) (p'.below m') N.pos);clear u' I' Y m';go_wp2_with fail;generalize w.alloc (.cells #[.pointer s,(),false,(),(),(),()] 166)=w3,w.heap.size=d at*;refine zC N9 ?_;rintro a ⟨O',P'⟩;have C:=qj O';have M:Hid (Below D D a):=d'.trans (P'.below (λk hk=>by
  simp only [qL,xj,Ze] at hk;rcases hk with rfl|rfl
  ·exact X.out.1
  ·exact X.out.2) d'.size)
 have p:=qj (I.below M I.lt);have q:=qj (o.trans (M.mono o.size));clear O' P';by_cases G:S=0
 case neg=>
  have r:=qj (l.out.trans (qk G));have M':(S==0)=false:=by simpa using G
  have G':(S !=0)=true:=by simpa using G
  replace G:=qj G;go_wp2_with (first|(refine qC rfl 23 _ _ rfl W.heap.size (opA opZ) rfl rfl 23 (opA opZ) p.out jh rfl (yy _) ?_));refine qW (vI rfl _ _ W.heap.size (opA opZ) (.pointer none) S rfl rfl rfl (qN _ W.heap.size 23 _ (opA opZ) (0,0) _ (p.row _) jK rfl jh)) rfl ?_;unfold Gj;rw [r.out];exact⟨zu q (qx _) _, .inl ⟨G,rfl⟩⟩
 subst G;have v:=l.out;rw [qJ s8] at v;have z: ∀i,a.cell? ⟨d,i,none⟩=(r2A s f j kk)[i]? :=λi=>C.cell i;have z1:a.cell? ⟨d,1,none⟩=some (f:Value):=z 1;have z2:a.cell? ⟨d,2,none⟩=some (.bool j):=z 2;have z3:a.cell? ⟨d,3,none⟩=some (kk:Value):=z 3;have z4:a.cell? ⟨d,4,none⟩=some (.int .i64 0):=z 4;have z5:a.cell? ⟨d,5,none⟩=some (.int .i64 0):=z 5;have z6:a.cell? ⟨d,6,none⟩=some (.int .i64 0):=z 6;obtain⟨i0,hi,Q',J',hz2⟩:=qA QB;have hcut:=jI (P:=prog) 30 5 i0 1 qu hi J' A n c k .i64 uK;have X':Below a a a.drew:=(qZ _ _).drew;have z':Below W.heap.size W a.drew:=q.drew;have B:=UO ⟨f,j,kk,0,0,0⟩ (xo A c k 1) (n-k) (c-k) a (b.drop k) a.drew (N.below z' N.pos) (((p'.below z').more q.size).VC uK hc) (qx _) uK uK uK;unfold ov opA at B;dsimp only at B;generalize Zo ⟨f,j,kk,0,0,0⟩ (b.drop k)=ob at*;obtain⟨K,x⟩:=ob;dsimp only at v B;replace v:=qj v;have hk0:=xi k;have hkN:=vc k n;have hkc:=vc k c;have hgo4:=qj C.lt;have HS:Hid (∀w',Below a a w'->w'.cell? ⟨d,1,none⟩=some (f:Value)/\w'.cell? ⟨d,2,none⟩=some (.bool j)/\w'.cell? ⟨d,3,none⟩=some (kk:Value)/\w'.cell? ⟨d,4,none⟩=some (.int .i64 0)/\w'.cell? ⟨d,5,none⟩=some (.int .i64 0)/\w'.cell? ⟨d,6,none⟩=some (.int .i64 0)):=λw' U=>by
  have Z:=C.below U C.lt;exact⟨Z.cell 1,Z.cell 2,Z.cell 3,Z.cell 4,Z.cell 5,Z.cell 6⟩
 clear hi Q' J' hz2 z X' z';by_cases t:K=0
 focus
  subst t;have r:=qj (v.out.trans (qJ s8));have L:Hid (Calls prog 114 #[.agg #[f,j,kk,(),(),()], .slice (xo A c k 1) (n-k) (c-k)] a.drew λe w'=> ∃g,e= .returned (.tuple #[.pointer (some ⟨g,0,none⟩),()])/\Bdy w' a.drew.heap.size g x/\Below a.drew.heap.size a.drew w'):=qj (B.mono (by
   rintro e w' ⟨U,⟨h0,_⟩|⟨_,g,he,hy⟩⟩
   ·exact absurd rfl h0
   ·exact⟨g,he,hy,U⟩))
 rotate_left
 focus
  have r:=qj (v.out.trans (qk t));have M':(K==0)=false:=by simpa using t
  have G':(K !=0)=true:=by simpa using t
  have L:Hid (Calls prog 114 #[.agg #[f,j,kk,(),(),()], .slice (xo A c k 1) (n-k) (c-k)] a.drew λe w'=>e= .returned (.tuple #[.pointer none,K])/\Below a.drew.heap.size a.drew w'):=qj (B.mono (by
   rintro e w' ⟨U,⟨_,he⟩|⟨h0,_⟩⟩
   ·exact⟨he,U⟩
   ·exact absurd h0 t))
  replace t:=qj t
 rotate_left
 all_goals
  clear B;go_wp2_with fail;refine zv 13 (λW=>W.cell? ⟨d,1,none⟩=some (f:Value)/\W.cell? ⟨d,2,none⟩=some (.bool j)/\W.cell? ⟨d,3,none⟩=some (kk:Value)/\W.cell? ⟨d,4,none⟩=some (.int .i64 0)/\W.cell? ⟨d,5,none⟩=some (.int .i64 0)/\W.cell? ⟨d,6,none⟩=some (.int .i64 0)) AL (HS _ (qZ _ _).drew) (λT=> ?_);refine zq [0,1,2,3,4,5,6] (a':= ?_) ?_;refine vf 7 L ?_
 focus rintro e H ⟨gB,rfl,hY,y⟩
 rotate_left
 focus rintro e H ⟨rfl,y⟩
 rotate_left
 all_goals
  refine⟨_,rfl,((HS _ ((qZ _ a).drew.trans y))),λT=> ?_⟩;refine zq [8,9,10,11,12] (a':= ?_) ?_;refine zV AL ?_ _;have u:Below a a H:=(qZ _ a).drew.trans y;have Q:=qj (p.below u p.lt);have D':=qj (q.trans (u.mono q.size))
 ·have S':Hid (Bdy H a gB x):=hY;have hlt5:Hid (W.heap.size<a.heap.size):=p.lt;obtain⟨y1,y2,y3,y4,y5,y6⟩:=HS H u;clear y u HS p T hcut hY z1 z2 z3 z4 z5 z6;go_wp2_with (first|(refine qC rfl 23 _ _ rfl W.heap.size (opA ⟨f,j,kk,0,0,0⟩) rfl rfl 23 (opA opZ) Q.out jh rfl (yy _) ?_));refine qW (vI rfl _ _ W.heap.size (opA ⟨f,j,kk,0,0,0⟩) (.pointer gB) () rfl rfl rfl (qN _ W.heap.size 23 _ (opA ⟨f,j,kk,0,0,0⟩) (0,0) _ (Q.row _) jK rfl jh)) rfl ?_;unfold Gj;rw [r.out];exact⟨zu D' (qx _) _, .inr ⟨rfl,gB,a,rfl,q.size,S'.jZ (Js H W.heap.size _) (λk hk=>by rw [qy.1 hk];exact hlt5)⟩⟩
 ·clear y u HS p T hcut z1 z2 z3 z4 z5 z6;go_wp2_with (first|(refine qC rfl 23 _ _ rfl W.heap.size (opA opZ) rfl rfl 23 (opA opZ) Q.out jh rfl (yy _) ?_));refine qW (vI rfl _ _ W.heap.size (opA opZ) (.pointer none) K rfl rfl rfl (qN _ W.heap.size 23 _ (opA opZ) (0,0) _ (Q.row _) jK rfl jh)) rfl ?_;unfold Gj;rw [r.out];exact⟨zu D' (qx _) _, .inl ⟨t,rfl⟩⟩
end Go.Proofs.YtfnlfpcfkbdcmaaGreatDoor
