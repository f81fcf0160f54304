import Derived.Test.YtfnlfpcfkbdcmaaGreatDoorT30
set_option linter.unusedSimpArgs false
set_option linter.unusedVariables false
set_option maxRecDepth 100000
set_option maxHeartbeats 0
open Go.Proofs.Tryz
namespace Go.Proofs.YtfnlfpcfkbdcmaaGreatDoor
section
open Go.RowKit
variable {qj:TypeId}{g:O}
theorem Bdy.jZ {W f:I} {base g:O} {x:Ft} {l:S O} (h:Bdy W base g x) (j:qE l W f) (o: ∀k∈l,k<base):Bdy f base g x:=by
 obtain⟨s,r,c0,v,H,c1,F,hh,w,K,N,q,C,P,Q,X,p,D,ih,uK,u,B,ln,L,h1,h2,h3,h4,h5,h6,h7⟩:=h;have key: ∀(E:TypeId) (size n c:O) (A:q') (e:S la),xp W base E size (Z A n c) n e->xp f base E size (Z A n c) n e:=λE size n c A e d=>j.own d (λk m y=>by have:=(zj d k m).1;have:=o k y;omega);refine⟨s,r,c0,v,H,c1,F,hh,w,K,N,q,C,P,Q,X,p,D,ih,uK,u,B,ln,j.blk L (λm=>by have:=o g m;omega),key _ _ _ _ _ _ h1,key _ _ _ _ _ _ h2,key _ _ _ _ _ _ h3,key _ _ _ _ _ _ h4, ?_,h6.kept j.size λE _ _ _ _ _ _ d=>key _ _ _ _ _ _ d,h7⟩;obtain⟨vs,d,R,t⟩:=h5;exact⟨vs,key _ _ _ _ _ _ d,R,λi l hi=>by
  obtain⟨Ai,z,a,b⟩:=t i l hi;exact⟨Ai,z,a,key _ _ _ _ _ _ b⟩⟩
def Gj (W:I) (r:V×Lx×Ft) (e:Ending) (a:I):Prop:=
 r' W W a/\((r.1≠0/\e=t' (BA #[.agg (Ld LO),mJ none,e' r.1]))\/(r.1=0/\ ∃g base,e=t' (BA #[.agg (Ld r.2.1),mJ (some ⟨g,0,none⟩),()])/\(W:O)<=base/\Bdy a base g r.2.2))
theorem Nv (b:qn):(Y7 b).2.1=⟨(Y7 b).2.1.blk,(Y7 b).2.1.plain,(Y7 b).2.1.bkt,0,0,0⟩/\(Y7 b).2.2<=U b:=by
 have h5: ∀c:Cu,c.at_<=U b->(j_ b c).2.at_<=U b:=λc h=>Pa b 1 c h;have a: ∀(c:Cu) (e:V),c.at_<=U b->(vP c e).at_<=U b:=λc e h=>by
  unfold vP;split
  ·exact h
  ·exact h
 unfold Y7;dsimp only;have h6:(j_ b (jU b 32768 (jW b 5 ⟨0,0⟩).2).2).2.at_<=U b:=h5 _ (Us b _ _ (Pa b 5 ⟨0,0⟩ (qp _)));have h7:(if 1<(j_ b (jU b 32768 (jW b 5 ⟨0,0⟩).2).2).1.toNat then vP (j_ b (jU b 32768 (jW b 5 ⟨0,0⟩).2).2).2 2 else(j_ b (jU b 32768 (jW b 5 ⟨0,0⟩).2).2).2).at_<=U b:=by
  split
  ·exact a _ _ h6
  ·exact h6
 generalize (if 1<(j_ b (jU b 32768 (jW b 5 ⟨0,0⟩).2).2).1.toNat then vP (j_ b (jU b 32768 (jW b 5 ⟨0,0⟩).2).2).2 2 else(j_ b (jU b 32768 (jW b 5 ⟨0,0⟩).2).2).2)=q at*;have h8:=Pa b 4 _ (Us b 64 q h7);generalize (jW b 4 (jU b 64 q).2).2=e at*;constructor
 ·split
  ·rfl
  ·split<;>rfl
 ·split
  ·exact qp _
  ·split
   ·exact qp _
   ·exact h8
theorem rh (A:q') (n c:O) (b:qn) (W:I) (ht:Pl W) (h:E' W (W:O) 1 A n (b.map B8)) (hc:n<=c) (hm:c<=maxLen) (hn:n<=100000000):
  xG 79 #[Z A n c] W (Gj W (Vh b)):=by
 obtain⟨R,m⟩:=zn (Vh b);rw [<-m];unfold Vh at m;dsimp only at m;rw [show(⟨⟨[],[],0,0⟩,[],[],[],[],[]⟩:Ft)=J_ from rfl,show(⟨0,false,0,0,0,0⟩:Lx)=LO from rfl] at m;have iL:r' (W:O) W (W (Y #[(),false,(),(),(),()] 23)):=j1 _;have ih:G (F' (W (Y #[(),false,(),(),(),()] 23)) (W:O) 23 (Ld LO)):=F'.new _ _ _;have N:=T ht;have p':=T h;have o:=T iL;have hbn:U b=n:=h.len;have KM:=T (kt A n c (W:O) b (W (Y #[(),false,(),(),(),()] 23)) hc hm (h.below iL));rw [(Vf b).1,(Vf b).2] at KM;generalize V6 b=E,XQ b=cY at*;replace m:=T m;clear ht h iL;go_in;go_wp2_with fail;generalize W (Y #[(),false,(),(),(),()] 23)=D at*;refine Ω KM ?_;by_cases F:E=0
 case neg=>
  have r:=T (m.out.trans (qk F));have M':(E==0)=false:=by simpa using F
  have G':(E !=0)=true:=by simpa using F
  replace F:=T F;go_wp2_with (first|(refine qC rfl 23 _ _ rfl (W:O) (Ld LO) rfl rfl 23 (Ld LO) ih.out jh rfl (yy _) ?_));refine qW (vI rfl _ _ (W:O) (Ld LO) (mJ none) E rfl rfl rfl (qN _ (W:O) 23 _ (Ld LO) (0,0) _ (ih.row _) jK rfl jh)) rfl ?_;unfold Gj;rw [r.out];exact⟨zu o (qx _) _, .inl ⟨F,rfl⟩⟩
 subst F;have l:=m.out;rw [qJ s8] at l;by_cases hh:cY=2
 case neg=>
  have r:=T (l.trans (qk hh));have hVz:(cY==2)=false:=by simpa using hh
  have hVn:(cY !=2)=true:=by simpa using hh
  replace hh:=T hh;clear l;go_wp2_with (first|(refine qC rfl 23 _ _ rfl (W:O) (Ld LO) rfl rfl 23 (Ld LO) ih.out jh rfl (yy _) ?_));refine qW (vI rfl _ _ (W:O) (Ld LO) (mJ none) (e' 4) rfl rfl rfl (qN _ (W:O) 23 _ (Ld LO) (0,0) _ (ih.row _) jK rfl jh)) rfl ?_;unfold Gj;rw [r.out];exact⟨zu o (qx _) _, .inl ⟨FV,rfl⟩⟩
 subst hh;rw [qJ s8] at l;have N6:=Nv b;have KN:=T (Qk A n c (W:O) b D (p'.below o) o.size M);have cL:=T (λW1 d s A' Z' h1 h2 h3 h4 h5 h6=>rG W1 d s (W:O) A' A n Z' c b h1 h2 h3 h4 h5 h6 hc hm M);generalize Y7 b=rd at*;obtain⟨iv,⟨f,j,kk,d0,q0',ch0⟩,k⟩:=rd;dsimp only at l cL N6;obtain⟨hop,hkn⟩:=N6;injection hop with _ _ _ Y' hq0 U';subst Y';subst hq0;subst U';unfold Db at cL;dsimp only at cL;replace l:=T l;go_wp2_with fail;refine KN.mono ?_;rintro e w ⟨s,Ac,N',rfl,u',I',-,ck⟩;have OX:G (R2 (w (Y #[mJ s,(),false,(),(),(),()] 166)) w s 0 false 0 Ac n N' b ⟨0,0⟩):=⟨F'.new _ _ _,u'.fresh (j1 _),λe=>by have:=u'.blk.lt;omega⟩;have d':G (r' D D (w (Y #[mJ s,(),false,(),(),(),()] 166))):=ck.alloc ck.size _;have X:G ((D:O)<=(w:O)/\(D:O)<=s):=⟨ck.size,I'⟩;have m':=o.trans (d'.mono o.size);have N9:=T (cL _ w s Ac N' (N.below m' N.pos) OX (qv o.size X.out.1) (qv o.size X.out.2) (p'.below m') N.pos);clear u' I' ck m';go_wp2_with fail;generalize w (Y #[mJ s,(),false,(),(),(),()] 166)=w3,(w:O)=d at*;refine zC N9 ?_;rintro a ⟨O',P'⟩;have C:=T O';have uK:G (r' D D a):=d'.trans (P'.below (λk hk=>by
  simp only [qL,xj,Ze] at hk;rcases hk with rfl|rfl
  ·exact X.out.1
  ·exact X.out.2) d'.size)
 have p:=T (ih.below uK ih.lt);have q:=T (o.trans (uK.mono o.size));clear O' P';by_cases ln:iv=0
 case neg=>
  have r:=T (l.out.trans (qk ln));have M':(iv==0)=false:=by simpa using ln
  have G':(iv !=0)=true:=by simpa using ln
  replace ln:=T ln;go_wp2_with (first|(refine qC rfl 23 _ _ rfl (W:O) (Ld LO) rfl rfl 23 (Ld LO) p.out jh rfl (yy _) ?_));refine qW (vI rfl _ _ (W:O) (Ld LO) (mJ none) iv rfl rfl rfl (qN _ (W:O) 23 _ (Ld LO) (0,0) _ (p.row _) jK rfl jh)) rfl ?_;unfold Gj;rw [r.out];exact⟨zu q (qx _) _, .inl ⟨ln,rfl⟩⟩
 subst ln;have v:=l.out;rw [qJ s8] at v;have z: ∀i,i' a ⟨d,i,none⟩=(r2A s f j kk)[i]? :=λi=>C.cell i;have z1:i' a ⟨d,1,none⟩=J (f:la):=z 1;have z2:i' a ⟨d,2,none⟩=J (.bool j):=z 2;have z3:i' a ⟨d,3,none⟩=J (kk:la):=z 3;have z4:i' a ⟨d,4,none⟩=J (e' 0):=z 4;have z5:i' a ⟨d,5,none⟩=J (e' 0):=z 5;have z6:i' a ⟨d,6,none⟩=J (e' 0):=z 6;obtain⟨i0,hi,Q',J',hz2⟩:=qA QB;have hcut:=jI (P:=prog) 30 5 i0 1 qu hi J' A n c k .i64 M;have X':r' a a a.drew:=(qZ _ _).drew;have z':r' (W:O) W a.drew:=q.drew;have B:=UO ⟨f,j,kk,0,0,0⟩ (xo A c k 1) (n-k) (c-k) a (b.drop k) a.drew (N.below z' N.pos) (((p'.below z').more q.size).VC M hc) (qx _) M M M;unfold ov Ld at B;dsimp only at B;generalize Zo ⟨f,j,kk,0,0,0⟩ (b.drop k)=ob at*;obtain⟨K,x⟩:=ob;dsimp only at v B;replace v:=T v;have hk0:=xi k;have hkN:=vv k n;have hkc:=vv k c;have hgo4:=T C.lt;have HS:G (∀w',r' a a w'->i' w' ⟨d,1,none⟩=J (f:la)/\i' w' ⟨d,2,none⟩=J (.bool j)/\i' w' ⟨d,3,none⟩=J (kk:la)/\i' w' ⟨d,4,none⟩=J (e' 0)/\i' w' ⟨d,5,none⟩=J (e' 0)/\i' w' ⟨d,6,none⟩=J (e' 0)):=λw' cK=>by
  have cB:=C.below cK C.lt;exact⟨cB.cell 1,cB.cell 2,cB.cell 3,cB.cell 4,cB.cell 5,cB.cell 6⟩
 clear hi Q' J' hz2 z X' z';by_cases t:K=0
 focus
  subst t;have r:=T (v.out.trans (qJ s8));have L:G (xG 114 #[.agg #[f,j,kk,(),(),()],Z (xo A c k 1) (n-k) (c-k)] a.drew λe w'=> ∃g,e=t' (BA #[mJ (some ⟨g,0,none⟩),()])/\Bdy w' (a.drew:O) g x/\r' (a.drew:O) a.drew w'):=T (B.mono (by
   rintro e w' ⟨cK,⟨h0,_⟩|⟨_,g,he,hy⟩⟩
   ·exact absurd rfl h0
   ·exact⟨g,he,hy,cK⟩))
 rotate_left
 focus
  have r:=T (v.out.trans (qk t));have M':(K==0)=false:=by simpa using t
  have G':(K !=0)=true:=by simpa using t
  have L:G (xG 114 #[.agg #[f,j,kk,(),(),()],Z (xo A c k 1) (n-k) (c-k)] a.drew λe w'=>e=t' (BA #[mJ none,K])/\r' (a.drew:O) a.drew w'):=T (B.mono (by
   rintro e w' ⟨cK,⟨_,he⟩|⟨h0,_⟩⟩
   ·exact⟨he,cK⟩
   ·exact absurd h0 t))
  replace t:=T t
 rotate_left
 all_goals
  clear B;go_wp2_with fail;refine zv 13 (λW=>i' W ⟨d,1,none⟩=J (f:la)/\i' W ⟨d,2,none⟩=J (.bool j)/\i' W ⟨d,3,none⟩=J (kk:la)/\i' W ⟨d,4,none⟩=J (e' 0)/\i' W ⟨d,5,none⟩=J (e' 0)/\i' W ⟨d,6,none⟩=J (e' 0)) AL (HS _ (qZ _ _).drew) (λqj=> ?_);refine zq [0,1,2,3,4,5,6] (a':= ?_) ?_;refine vf 7 L ?_
 focus rintro e H ⟨gB,rfl,hY,y⟩
 rotate_left
 focus rintro e H ⟨rfl,y⟩
 rotate_left
 all_goals
  refine⟨_,rfl,((HS _ ((qZ _ a).drew.trans y))),λqj=> ?_⟩;refine zq [8,9,10,11,12] (a':= ?_) ?_;refine zV AL ?_ _;have u:r' a a H:=(qZ _ a).drew.trans y;have Q:=T (p.below u p.lt);have D':=T (q.trans (u.mono q.size))
 ·have S':G (Bdy H a gB x):=hY;have hlt5:G ((W:O)<(a:O)):=p.lt;obtain⟨y1,y2,y3,y4,y5,y6⟩:=HS H u;clear y u HS p qj hcut hY z1 z2 z3 z4 z5 z6;go_wp2_with (first|(refine qC rfl 23 _ _ rfl (W:O) (Ld ⟨f,j,kk,0,0,0⟩) rfl rfl 23 (Ld LO) Q.out jh rfl (yy _) ?_));refine qW (vI rfl _ _ (W:O) (Ld ⟨f,j,kk,0,0,0⟩) (mJ gB) () rfl rfl rfl (qN _ (W:O) 23 _ (Ld ⟨f,j,kk,0,0,0⟩) (0,0) _ (Q.row _) jK rfl jh)) rfl ?_;unfold Gj;rw [r.out];exact⟨zu D' (qx _) _, .inr ⟨rfl,gB,a,rfl,q.size,S'.jZ (Js H (W:O) _) (λk hk=>by rw [qy.1 hk];exact hlt5)⟩⟩
 ·clear y u HS p qj hcut z1 z2 z3 z4 z5 z6;go_wp2_with (first|(refine qC rfl 23 _ _ rfl (W:O) (Ld LO) rfl rfl 23 (Ld LO) Q.out jh rfl (yy _) ?_));refine qW (vI rfl _ _ (W:O) (Ld LO) (mJ none) K rfl rfl rfl (qN _ (W:O) 23 _ (Ld LO) (0,0) _ (Q.row _) jK rfl jh)) rfl ?_;unfold Gj;rw [r.out];exact⟨zu D' (qx _) _, .inl ⟨t,rfl⟩⟩
theorem UI: ∀(l:S O) (b:qn),∀f∈CJ l b,U f<=U b
 |[],_,f,h=>by cases h
 |n::t,b,f,h=>by
  rcases qL.1 h with rfl|h
  ·rw [qh];omega
  ·have:=UI t (b.drop n) f h
   rw [qI] at this;omega
theorem rH (o:Lx) (b:qn): ∀f∈(Zo o b).2.JB,U f<=U b:=by
 have c:(pg b).2.1.length<=U b:=by
  unfold pg;split
  ·exact qp _
  ·split
   ·exact qp _
   ·show(b.take _).length<=_;rw [qh];omega
 unfold Zo;dsimp only;have a: ∀f∈([]:S qn),U f<=U b:=λf h=>by cases h
 split
 ·exact a
 ·split
  ·exact a
  ·split
   ·exact a
   ·split
    ·exact a
    ·split
     ·exact a
     ·split
      ·exact a
      ·intro f h;exact qv (UI _ _ f h) c
theorem Ul (o:Lx) (b:qn) (W:I) (base g:O) (ht:Pl W) (h:Bdy W base g (Zo o b).2) (d:(Zo o b).1=0) (c:U b<=100000000):
  xG 80 #[mJ g] W (Bi W (th (Zo o b).2)):=
 rF W base g _ ht h (aP o b d) (λf a=>qv (rH o b f a) c) (rU o b).1 (rU o b).2
theorem Ts (b:qn) (h:(Vh b).1=0): ∃o a,(Vh b).2.2=(Zo o a).2/\(Zo o a).1=0/\U a<=U b:=by
 unfold Vh at h⊢;dsimp only at h⊢;split at h
 ·rename_i h1;exact absurd h h1
 ·rename_i h1;split at h
  ·cases h
  ·rename_i h2;split at h
   ·rename_i h3;exact absurd h h3
   ·rename_i h3;split at h
    ·rename_i h4;exact absurd h h4
    ·rename_i h4;rw [qJ h1,qJ h2,qJ h3,qJ h4];exact⟨_,_,rfl,ym.1 h4,by rw [qI];omega⟩
theorem G0 (A:q') (n c:O) (b:qn) (W:I) (ht:Pl W) (h:E' W W 1 A n (b.map B8)) (hc:n<=c) (hm:c<=maxLen) (hn:n<=100000000):
  xG 45 #[Z A n c] W (P_ W (Zk (Vh b))):=by
 obtain⟨R,j⟩:=zn (Zk (Vh b));rw [<-j];unfold Zk at j;dsimp only at j;rw [show(⟨0,false,0,0,0,0⟩:Lx)=LO from rfl] at j;have D:r' W W (W (Y #[(),false,(),(),(),()] 23)):=j1 _;have y:G (F' (W (Y #[(),false,(),(),(),()] 23)) W 23 (Ld LO)):=F'.new _ _ _;have HT:=T ht;have B:=T D;have hbn:U b=n:=h.len;have ln:=rh A n c b (W (Y #[(),false,(),(),(),()] 23)) (ht.below D ht.pos) ((h.below D).more D.size) hc hm hn;have d':=Ts b;unfold Gj at ln;generalize Vh b=ob at*;obtain⟨E,o,x⟩:=ob;dsimp only at j ln d';have hoz:Ld o= #[e' o.blk, .bool o.plain,e' o.bkt,e' o.data,e' o.par,e' o.chunk]:=rfl;have hzz:Ld LO= #[e' 0, .bool false,e' 0,e' 0,e' 0,e' 0]:=rfl;by_cases X:E=0
 focus
  subst X;rw [qJ s8] at j;obtain⟨o',b',S',N9,Z'⟩:=d' rfl;have p':=aP o' b' N9;have N:G (xG 79 #[Z A n c] (W (Y #[(),false,(),(),(),()] 23)) λe w'=> ∃g base,e=t' (BA #[.agg #[o.blk, .bool o.plain,o.bkt,o.data,o.par,o.chunk],mJ (some ⟨g,0,none⟩),()])/\(W (Y #[(),false,(),(),(),()] 23):O)<=base/\Bdy w' base g x/\r' (W (Y #[(),false,(),(),(),()] 23):O) (W (Y #[(),false,(),(),(),()] 23)) w'):=T (ln.mono (by
   rintro e w' ⟨k,⟨h0,_⟩|⟨_,g,base,he,cY,hy⟩⟩
   ·exact absurd rfl h0
   ·exact⟨g,base,he,cY,hy,k⟩))
  have iv:=T (λw base g h1 h2=>Ul o' b' w base g h1 h2 N9 M);rw [<-S'] at iv p';unfold Bi at iv;generalize th x=lg at*;obtain⟨Q,l⟩:=lg;dsimp only at j iv;replace j:=T j;have hwf1:=p'.few;have hwf2:=p'.small;clear ln ht h D d' S' N9 Z' p';go_in;go_wp2_with fail;generalize W (Y #[(),false,(),(),(),()] 23)=w0 at*;refine N.mono ?_;rintro e f ⟨F,base,rfl,Q',hY,k⟩
 rotate_left
 focus
  have ih:=T (j.trans (qk X));have hEz:(E==0)=false:=by simpa using X
  have Y':(E !=0)=true:=by simpa using X
  have N:G (xG 79 #[Z A n c] (W (Y #[(),false,(),(),(),()] 23)) λe w'=>e=t' (BA #[.agg #[(),false,(),(),(),()],mJ none,E])/\r' (W (Y #[(),false,(),(),(),()] 23):O) (W (Y #[(),false,(),(),(),()] 23)) w'):=T (ln.mono (by
   rintro e w' ⟨k,⟨_,he⟩|⟨h0,_⟩⟩
   ·exact⟨he,k⟩
   ·exact absurd h0 X))
  clear ln ht h D d';go_in;go_wp2_with fail;generalize W (Y #[(),false,(),(),(),()] 23)=w0 at*;refine zC N ?_;intro f k
 rotate_left
 all_goals
  have u:=y.below k y.lt;have q:=B.trans (k.mono B.size);have m:F' (f (Y #[(),false,(),(),(),()] 23)) f 23 (Ld LO):=F'.new _ _ _;have iL:(W:O)≠(f:O):=by have:=u.lt;omega
 ·have uK:=T ((u.alloc (Y #[(),false,(),(),(),()] 23)).cQ iL #[o.blk, .bool o.plain,o.bkt,o.data,o.par,o.chunk]);have z:=T (zu (q.alloc q.size (Y #[(),false,(),(),(),()] 23)) q.size #[o.blk, .bool o.plain,o.bkt,o.data,o.par,o.chunk]);have G':=T (m.row #[o.blk, .bool o.plain,o.bkt,o.data,o.par,o.chunk]);have OX:r' f f ((f (Y #[(),false,(),(),(),()] 23)).setRow f #[o.blk, .bool o.plain,o.bkt,o.data,o.par,o.chunk]):=zu (j1 (Y #[(),false,(),(),(),()] 23)) (qx _) #[o.blk, .bool o.plain,o.bkt,o.data,o.par,o.chunk];have N6:=T (hY.below OX);have hbs2:G ((W:O)<base):=qB (y.lt) Q';obtain⟨a,I'⟩:=zn (f:O);have P':=T (iv _ base F (HT.below z HT.pos) N6);replace m:=T m;clear k u q hY Q' OX;go_wp2_with (first|(refine qC rfl 23 _ _ rfl f #[o.blk, .bool o.plain,o.bkt,o.data,o.par,o.chunk] rfl rfl 23 (Ld LO) m.out jh rfl (yy o) ?_));clear m;generalize (f (Y #[(),false,(),(),(),()] 23)).setRow f #[e' o.blk, .bool o.plain,e' o.bkt,e' o.data,e' o.par,e' o.chunk]=w2 at*;have hne2:G ((W:O)≠a):=by rw [Hid,I'];exact iL
  rw [<-I'] at*;clear I';refine P'.mono ?_;rintro e t ⟨A3,n3,c3,hn3,rfl,O',P⟩;have qj:=T (uK.below P uK.lt);have D':=T (G'.below P G'.lt);have m':=T (z.trans (P.mono z.size));have M':=T (N6.below P);have N':=T (qi O' z.size);subst hn3;clear O' P;by_cases z':Q=0
  case neg=>
   have ih:=T (j.out.trans (qk z'));have hEz:(Q==0)=false:=by simpa using z'
   have Y':(Q !=0)=true:=by simpa using z'
   go_wp2_with (first|(refine qC rfl 23 _ _ rfl W (Ld LO) rfl rfl 23 (Ld LO) qj.out jh rfl (yy _) ?_));refine qW (vg rfl _ _ W (Ld LO) z8 () Q rfl rfl rfl rfl (qN _ W 23 _ (Ld LO) (0,0) _ (qj.row _) jK rfl jh)) rfl ?_;unfold P_;rw [ih.out];exact⟨none,0,rfl,qP _ _ _ _,zu m' (qx _) _⟩
  subst z';have ih:=T (j.out.trans (qJ s8));obtain⟨A0,C,c0,A1,n1,c1,At,nt,ct,Al,nl,cl,Ax,nx,cx,Ay,ny,cy,Af,nf,cf,v9,⟨e0,-⟩,cY,h1,-⟩:=M'.out;have hh:G (∀d,r' t t d->i' d a=J (o.blk:la)/\i' d ⟨a,1,none⟩=J (.bool o.plain)/\i' d ⟨a,2,none⟩=J (o.bkt:la)/\i' d ⟨a,3,none⟩=J (o.data:la)/\i' d ⟨a,4,none⟩=J (o.par:la)/\i' d ⟨a,5,none⟩=J (o.chunk:la)/\i' d F=J (Z A0 C c0)):=λd hW=>by
   have cB:=D'.below hW D'.lt;have ck:=cY.below hW cY.lt;exact⟨cB.cell 0,cB.cell 1,cB.cell 2,cB.cell 3,cB.cell 4,cB.cell 5,ck.cell 0⟩
  have H:=Pq t.drew F t C c0 A0 x.dir.counts ((hh _ (qZ _ _).drew).2.2.2.2.2.2) (E'.zY h1).drew (qx _) M;unfold BO at H;have HRn:G (R=(0,o,l,C)):=by rw [Hid,ih.out,e0]
  rw [<-e0] at H;replace H:=T H;have s:G ((W:O)≠F/\(W:O)≠a):=by
   obtain⟨A0,C,c0,A1,n1,c1,At,nt,ct,Al,nl,cl,Ax,nx,cx,Ay,ny,cy,Af,nf,cf,v9,-,-,-,-,-,-,-,-,h7⟩:=M'.out;exact⟨by have:=hbs2.out;omega,hne2⟩
  clear h1 cY e0;obtain⟨z0,z1,z2,z3,z4,z5,z6⟩:=hh _ (qZ _ _);go_wp2_with fail;refine zv 9 (λd=>i' d a=J (o.blk:la)/\i' d ⟨a,1,none⟩=J (.bool o.plain)/\i' d ⟨a,2,none⟩=J (o.bkt:la)/\i' d ⟨a,3,none⟩=J (o.data:la)/\i' d ⟨a,4,none⟩=J (o.par:la)/\i' d ⟨a,5,none⟩=J (o.chunk:la)/\i' d F=J (Z A0 C c0)) AL (hh _ (qZ _ _).drew) (λJ'=> ?_);refine zq [0] (a':= ?_) ?_;refine Z6 [1,2] (a':= ?_) ?_;refine IA 3 rfl AL SQ (λK cL=> ?_);go_simp
  (go_at_call 81;((with_reducible refine(H.out).mono ?_);rintro e cK ⟨A4,c4,rfl,-,U'⟩);have L:r' t t cK:=(qZ _ t).drew.trans U')
  refine cL _ _ ((hh _ L)) (λJ'=> ?_);clear cL K;try simp only [Act.put,qQ,qY,qV]
  refine Z6 [4] (a':= ?_) ?_;have u':=T (qj.below L qj.lt);refine IA 5 rfl AL SQ (λK cL=> ?_);refine wp_store_row 23 _ _ rfl W (Ld o) rfl rfl 23 (Ld LO) (u'.out) jh rfl (yy _) ?_;have r: ∀(g i:O) {v:la},(W:O)≠g->i' cK ⟨g,i,none⟩=some v->i' (cK.setRow W (Ld o)) ⟨g,i,none⟩=some v:=λg i v hg hv=>(Js cK W _).cell (p:=⟨g,i,none⟩) (by rw [qy];exact λe=>hg e.symm) hv;obtain⟨y0,y1,y2,y3,y4,y5,y6⟩:=hh _ L;refine cL _ _ ⟨r a 0 s.out.2 y0,r a 1 s.out.2 y1,r a 2 s.out.2 y2,r a 3 s.out.2 y3,r a 4 s.out.2 y4,r a 5 s.out.2 y5,r F 0 s.out.1 y6⟩ (λJ'=> ?_);clear cL K;try simp only [Act.put,qQ,qY,qV]
  refine Z6 [6,7,8] (a':= ?_) ?_;refine zV AL ?_ _;have X':=qG N' L;have HLF:=T (pI (w:=cK) X' u' (Ld o));have HBF:=T (zu (m'.trans (L.mono m'.size)) (qx _) (Ld o));have HGF:=T (u'.row (Ld o));clear J' r z0 z1 z2 z3 z4 z5 z6 y0 y1 y2 y3 y4 y5 y6 X' L U' hh H qj;go_wp2_with fail;refine qW (vg rfl _ _ W (Ld o) (Z A3 l c3) C () rfl rfl rfl rfl (qN _ W 23 _ (Ld o) (0,0) _ HGF jK rfl jh)) rfl ?_;unfold P_;rw [HRn.out];exact⟨A3,c3,rfl,HLF,HBF⟩
 ·have uK:=T ((u.alloc (Y #[(),false,(),(),(),()] 23)).cQ iL #[(),false,(),(),(),()]);have z:=T (zu (q.alloc q.size (Y #[(),false,(),(),(),()] 23)) q.size #[(),false,(),(),(),()]);replace m:=T m;clear k u q;go_wp2_with (first|(refine qC rfl 23 _ _ rfl f #[(),false,(),(),(),()] rfl rfl 23 (Ld LO) m.out jh rfl (yy LO) ?_)|(refine qC rfl 23 _ _ rfl W (Ld LO) rfl rfl 23 (Ld LO) uK.out jh rfl (yy _) ?_));refine qW (vg rfl _ _ W (Ld LO) z8 () E rfl rfl rfl rfl (qN _ W 23 _ (Ld LO) (0,0) _ (uK.row _) jK rfl jh)) rfl ?_;unfold P_;rw [ih.out];exact⟨none,0,rfl,qP _ _ _ _,zu z (qx _) _⟩
def re (W:I) (r:V×Lx×Ft×O) (e:Ending) (a:I):Prop:=
 r' W W a/\((r.1≠0/\e=t' (BA #[.agg (Ld LO),mJ none,(),e' r.1]))\/(r.1=0/\ ∃g base,e=t' (BA #[.agg (Ld r.2.1),mJ (some ⟨g,0,none⟩),e' (r.2.2.2:O),()])/\(W:O)<=base/\Bdy a base g r.2.2.1))
theorem ur (b:qn):(V7 b).2.2.1.length<=100000000:=by
 unfold V7;dsimp only;split
 ·exact qp _
 ·split
  ·exact qp _
  ·split
   ·exact qp _
   ·rename_i h1;generalize YX (Hb b).2=o,Aq (Hb b).2=n,(b.drop 21).take (U b-42)=s at*;show(srV o.data o.par o.chunk n s).length<=_;by_cases h2:ZM o.data o.par o.chunk n=0
    case neg=>unfold _m at h1;rw [qk h2] at h1;exact absurd h2 (by simpa using h1)
    obtain⟨a,e,g,h3,h4,h5,d,c⟩:=k_ h2;rw [h3,h4,h5];have h6:srV a e g n s=rdV a e g n (Fa (a*g) n) s:=rfl;rw [h6];unfold rdV;split
    ·rw [qh];have:=c.n2;omega
    ·exact qp _
theorem G8 (A:q') (n c:O) (b:qn) (W:I) (ht:Pl W) (h:E' W W 1 A n (b.map B8)) (hc:n<=c) (hm:c<=maxLen) (ln:n<=100000000) (hu:LR\/TA b=true):
  xG 82 #[Z A n c] W (re W (ZX b)):=by
 obtain⟨R,f⟩:=zn (ZX b);rw [<-f];unfold ZX at f;dsimp only at f;rw [show(⟨⟨[],[],0,0⟩,[],[],[],[],[]⟩:Ft)=J_ from rfl,show(⟨0,false,0,0,0,0⟩:Lx)=LO from rfl] at f;have D:r' W W (W (Y #[(),false,(),(),(),()] 23)):=j1 _;have B:G (F' (W (Y #[(),false,(),(),(),()] 23)) W 23 (Ld LO)):=F'.new _ _ _;have HT:=T ht;have v:=T D;have y:=TN A n c b (W (Y #[(),false,(),(),(),()] 23)) (ht.below D ht.pos) ((h.below D).more D.size) hc hm ln hu;have X:=ur b;unfold Dc at y;generalize V7 b=mb at*;obtain⟨E,o,vs,cK⟩:=mb;dsimp only at f y X;replace f:=T f;clear ht h D;by_cases r:E=0
 focus
  subst r;have m:=f.out;rw [qJ s8] at m;have C:G (xG 118 #[Z A n c] (W (Y #[(),false,(),(),(),()] 23)) λe w'=> ∃g A n c ln ck,e=t' (BA #[mJ (some ⟨g,0,none⟩),Z A n c,cK,()])/\n=U vs/\F' w' g 76 (h3A o ln ck)/\E' w' (w':O) 1 A n (vs.map B8)/\n<=c/\c<=maxLen/\r' (W (Y #[(),false,(),(),(),()] 23):O) (W (Y #[(),false,(),(),(),()] 23)) w'):=T (y.mono (by
   rintro e w' ⟨d,⟨h0,_⟩|⟨_,g,A,n,c,ln,ck,u,h1,h2,h3,h4,h5⟩⟩
   ·exact absurd rfl h0
   ·exact⟨g,A,n,c,ln,ck,u,h1,h2,h3,h4,h5,d⟩))
  have L:=T (λ(w:I)A n c (h1:n=U vs) h2 h3 h4 h5=>UO o A n c (w:O) vs w h2 h3 (qx _) h4 h5 M);unfold ov Ld at L;generalize Zo o vs=ob at*;obtain⟨z,x⟩:=ob;dsimp only at m L;replace m:=T m;replace X:=T X
 rotate_left
 focus
  have H:=T (f.out.trans (qk r));have D':(E==0)=false:=by simpa using r
  have u':(E !=0)=true:=by simpa using r
  have C:G (xG 118 #[Z A n c] (W (Y #[(),false,(),(),(),()] 23)) λe w'=>e=t' (BA #[mJ none,z8,(),E])/\r' (W (Y #[(),false,(),(),(),()] 23):O) (W (Y #[(),false,(),(),(),()] 23)) w'):=T (y.mono (by
   rintro e w' ⟨d,⟨_,u⟩|⟨h0,_⟩⟩
   ·exact⟨u,d⟩
   ·exact absurd h0 r))
  replace r:=T r
 rotate_left
 all_goals
  clear y;go_in;go_wp2_with fail;generalize W (Y #[(),false,(),(),(),()] 23)=w0 at*;refine C.mono ?_
 ·rintro e a ⟨g,uK,iv,c1,I',J',rfl,p',q,m',d',iL,d⟩;have i:=T (B.below d B.lt);have l:=T (v.trans (d.mono v.size));have K:=T q;have hh:=L a uK iv c1 p' (HT.below l HT.pos) m' d' iL;have qj:i' a g=J (o.blk:la):=q.cell 0;have N:i' a ⟨g,1,none⟩=J (.bool o.plain):=q.cell 1;have P:i' a ⟨g,2,none⟩=J (o.bkt:la):=q.cell 2;have cL:i' a ⟨g,3,none⟩=J (o.data:la):=q.cell 3;have cY:i' a ⟨g,4,none⟩=J (o.par:la):=q.cell 4;have z5:i' a ⟨g,5,none⟩=J (o.chunk:la):=q.cell 5;clear d q m' p' d' iL;by_cases p:z=0
  case neg=>
   have H:=T (m.out.trans (qk p));have D':(z==0)=false:=by simpa using p
   have u':(z !=0)=true:=by simpa using p
   have F:G (xG 114 #[.agg #[o.blk, .bool o.plain,o.bkt,o.data,o.par,o.chunk],Z uK iv c1] a λe w'=>e=t' (BA #[mJ none,z])/\r' a a w'):=T (hh.mono (by
    rintro e w' ⟨d,⟨_,u⟩|⟨h0,_⟩⟩
    ·exact⟨u,d⟩
    ·exact absurd h0 p))
   replace p:=T p;clear hh;go_wp2_with fail;refine zC F ?_;intro j s;have ih:=T (i.below s i.lt);have Q:=T (l.trans (s.mono l.size));clear s qj N P cL cY z5;go_wp2_with (first|(refine qC rfl 23 _ _ rfl W (Ld LO) rfl rfl 23 (Ld LO) ih.out jh rfl (yy _) ?_));refine qW (vg rfl _ _ W (Ld LO) (mJ none) () z rfl rfl rfl rfl (qN _ W 23 _ (Ld LO) (0,0) _ (ih.row _) jK rfl jh)) rfl ?_;unfold re;rw [H.out];exact⟨zu Q (qx _) _, .inl ⟨p,rfl⟩⟩
  subst p;have H:=T (m.out.trans (qJ s8));have F:G (xG 114 #[.agg #[o.blk, .bool o.plain,o.bkt,o.data,o.par,o.chunk],Z uK iv c1] a λe w'=> ∃g,e=t' (BA #[mJ (some ⟨g,0,none⟩),()])/\Bdy w' a g x/\r' a a w'):=T (hh.mono (by
   rintro e w' ⟨d,⟨h0,_⟩|⟨_,g,u,hy⟩⟩
   ·exact absurd rfl h0
   ·exact⟨g,u,hy,d⟩))
  clear hh;go_wp2_with fail;refine F.mono ?_;rintro e j ⟨cB,rfl,hY,s⟩;have ih:=T (i.below s i.lt);have Q:=T (l.trans (s.mono l.size));have t:=K.below s K.lt;have z':G (Bdy j a cB x):=hY;have G':G ((W:O)<(a:O)):=i.lt;clear qj N P cL cY z5;have qj:i' j g=J (o.blk:la):=t.cell 0;have N:i' j ⟨g,1,none⟩=J (.bool o.plain):=t.cell 1;have P:i' j ⟨g,2,none⟩=J (o.bkt:la):=t.cell 2;have cL:i' j ⟨g,3,none⟩=J (o.data:la):=t.cell 3;have cY:i' j ⟨g,4,none⟩=J (o.par:la):=t.cell 4;have z5:i' j ⟨g,5,none⟩=J (o.chunk:la):=t.cell 5;clear s t hY;go_wp2_with (first|(refine qC rfl 23 _ _ rfl W (Ld o) rfl rfl 23 (Ld LO) ih.out jh rfl (yy _) ?_));refine qW (vg rfl _ _ W (Ld o) (mJ cB) cK () rfl rfl rfl rfl (qN _ W 23 _ (Ld o) (0,0) _ (ih.row _) jK rfl jh)) rfl ?_;unfold re;rw [H.out];exact⟨zu Q (qx _) _, .inr ⟨rfl,cB,a,rfl,l.size,z'.jZ (Js j W _) (λk hk=>by rw [qy.1 hk];exact G')⟩⟩
 ·rintro e a ⟨rfl,d⟩;have i:=T (B.below d B.lt);have l:=T (v.trans (d.mono v.size));clear d;go_wp2_with (first|(refine qC rfl 23 _ _ rfl W (Ld LO) rfl rfl 23 (Ld LO) i.out jh rfl (yy _) ?_));refine qW (vg rfl _ _ W (Ld LO) (mJ none) () E rfl rfl rfl rfl (qN _ W 23 _ (Ld LO) (0,0) _ (i.row _) jK rfl jh)) rfl ?_;unfold re;rw [H.out];exact⟨zu l (qx _) _, .inl ⟨r,rfl⟩⟩
theorem Tm (b:qn) (h:(ZX b).1=0): ∃o a,(ZX b).2.2.1=(Zo o a).2/\(Zo o a).1=0/\U a<=100000000:=by
 have c:=ur b;unfold ZX at h⊢;dsimp only at h⊢;split at h
 ·rename_i h1;exact absurd h h1
 ·rename_i h1;split at h
  ·rename_i h4;exact absurd h h4
  ·rename_i h4;rw [qJ h1,qJ h4];exact⟨_,_,rfl,ym.1 h4,c⟩
theorem YZ {a:Func} {p s r q y:Tmp} {b:TypeId} (h:a.results= #[.cell p b, .tmp s, .tmp r, .tmp q, .tmp y]) (tmps:Array la) (w:I) (g:O) (c:Array la) (v u x z:la)
  (m:tmps.getD p undef=mJ g) (k:tmps.getD s undef=v) (d:tmps.getD r undef=u) (j:tmps.getD q undef=x) (n:tmps.getD y undef=z) (e:(loadVar b g).run prog w= .ok (.agg c) w):
  (results a tmps).run prog w= .ok (BA #[.agg c,v,u,x,z]) w:=by
 have o:tmps[p]?.getD undef=mJ g:=by simpa using m
 have l:tmps[s]?.getD undef=v:=by simpa using k
 have i:tmps[r]?.getD undef=u:=by simpa using d
 have t:tmps[q]?.getD undef=x:=by simpa using j
 have f:tmps[y]?.getD undef=z:=by simpa using n
 simp [results,h,o,l,i,t,f,asAddr,e]
def rE (W:I) (r:V×Lx×S JH×O×O) (e:Ending) (b:I):Prop:=
 ∃c a,e=t' (BA #[.agg (Ld r.2.1),Z c (U r.2.2.1) a,e' (r.2.2.2.1:O),e' (r.2.2.2.2:O),e' r.1])/\xp b W 45 4 (Z c (U r.2.2.1) a) (U r.2.2.1) (ji r.2.2.1)/\r' W W b
theorem TM (b:qn):X0 b=if(ZX b).1≠0 then((ZX b).1,LO,[],0,0) else if(th (ZX b).2.2.1).1≠0 then((th (ZX b).2.2.1).1,LO,[],0,0) else(0,(ZX b).2.1,(th (ZX b).2.2.1).2,(ZX b).2.2.1.dir.counts.length,(ZX b).2.2.2):=by
 unfold X0 Zk;dsimp only;by_cases h1:(ZX b).1≠0
 ·rw [qk h1,qk h1];dsimp only;rw [qJ h1];rfl
 ·rw [qJ h1,qJ h1];by_cases h2:(th (ZX b).2.2.1).1≠0
  ·rw [qk h2,qk h2];dsimp only;rw [qJ h2];rfl
  ·rw [qJ h2,qJ h2];dsimp only;rw [qk rfl]
theorem Dl (A:q') (n c:O) (b:qn) (W:I) (ht:Pl W) (h:E' W W 1 A n (b.map B8)) (hc:n<=c) (hm:c<=maxLen) (hn:n<=100000000) (hu:LR\/TA b=true):
  xG 46 #[Z A n c] W (rE W (X0 b)):=by
 obtain⟨R,j⟩:=zn (X0 b);rw [<-j];rw [TM] at j;have D:r' W W (W (Y #[(),false,(),(),(),()] 23)):=j1 _;have y:G (F' (W (Y #[(),false,(),(),(),()] 23)) W 23 (Ld LO)):=F'.new _ _ _;have HT:=T ht;have B:=T D;have hbn:U b=n:=h.len;have ln:=G8 A n c b (W (Y #[(),false,(),(),(),()] 23)) (ht.below D ht.pos) ((h.below D).more D.size) hc hm hn hu;have d':=Tm b;unfold re at ln;generalize ZX b=ob at*;obtain⟨E,o,x,iL⟩:=ob;dsimp only at j ln d';have hoz:Ld o= #[e' o.blk, .bool o.plain,e' o.bkt,e' o.data,e' o.par,e' o.chunk]:=rfl;have hzz:Ld LO= #[e' 0, .bool false,e' 0,e' 0,e' 0,e' 0]:=rfl;by_cases X:E=0
 focus
  subst X;rw [qJ s8] at j;obtain⟨o',b',X',N',O'⟩:=d' rfl;have u':=aP o' b' N';have N:G (xG 82 #[Z A n c] (W (Y #[(),false,(),(),(),()] 23)) λe w'=> ∃g base,e=t' (BA #[.agg #[o.blk, .bool o.plain,o.bkt,o.data,o.par,o.chunk],mJ (some ⟨g,0,none⟩),iL,()])/\(W (Y #[(),false,(),(),(),()] 23):O)<=base/\Bdy w' base g x/\r' (W (Y #[(),false,(),(),(),()] 23):O) (W (Y #[(),false,(),(),(),()] 23)) w'):=T (ln.mono (by
   rintro e w' ⟨k,⟨h0,_⟩|⟨_,g,base,he,cY,hy⟩⟩
   ·exact absurd rfl h0
   ·exact⟨g,base,he,cY,hy,k⟩))
  have iv:=T (λw base g h1 h2=>Ul o' b' w base g h1 h2 N' O');rw [<-X'] at iv u';unfold Bi at iv;generalize th x=lg at*;obtain⟨Q,l⟩:=lg;dsimp only at j iv;replace j:=T j;have hwf1:=u'.few;have hwf2:=u'.small;clear ln ht h D d' X' N' O' u';go_in;go_wp2_with fail;generalize W (Y #[(),false,(),(),(),()] 23)=w0 at*;refine N.mono ?_;rintro e f ⟨F,base,rfl,U',hY,k⟩
 rotate_left
 focus
  have ih:=T (j.trans (qk X));have hEz:(E==0)=false:=by simpa using X
  have hEn:(E !=0)=true:=by simpa using X
  have N:G (xG 82 #[Z A n c] (W (Y #[(),false,(),(),(),()] 23)) λe w'=>e=t' (BA #[.agg #[(),false,(),(),(),()],mJ none,(),E])/\r' (W (Y #[(),false,(),(),(),()] 23):O) (W (Y #[(),false,(),(),(),()] 23)) w'):=T (ln.mono (by
   rintro e w' ⟨k,⟨_,he⟩|⟨h0,_⟩⟩
   ·exact⟨he,k⟩
   ·exact absurd h0 X))
  clear ln ht h D d';go_in;go_wp2_with fail;generalize W (Y #[(),false,(),(),(),()] 23)=w0 at*;refine zC N ?_;intro f k
 rotate_left
 all_goals
  have u:=y.below k y.lt;have q:=B.trans (k.mono B.size);have m:F' (f (Y #[(),false,(),(),(),()] 23)) f 23 (Ld LO):=F'.new _ _ _;have m':(W:O)≠(f:O):=by have:=u.lt;omega
 ·have uK:=T ((u.alloc (Y #[(),false,(),(),(),()] 23)).cQ m' #[o.blk, .bool o.plain,o.bkt,o.data,o.par,o.chunk]);have z:=T (zu (q.alloc q.size (Y #[(),false,(),(),(),()] 23)) q.size #[o.blk, .bool o.plain,o.bkt,o.data,o.par,o.chunk]);have I':=T (m.row #[o.blk, .bool o.plain,o.bkt,o.data,o.par,o.chunk]);have P':r' f f ((f (Y #[(),false,(),(),(),()] 23)).setRow f #[o.blk, .bool o.plain,o.bkt,o.data,o.par,o.chunk]):=zu (j1 (Y #[(),false,(),(),(),()] 23)) (qx _) #[o.blk, .bool o.plain,o.bkt,o.data,o.par,o.chunk];have N9:=T (hY.below P');have hbs2:G ((W:O)<base):=qB (y.lt) U';obtain⟨a,J'⟩:=zn (f:O);have S':=T (iv _ base F (HT.below z HT.pos) N9);replace m:=T m;clear k u q hY U' P';go_wp2_with (first|(refine qC rfl 23 _ _ rfl f #[o.blk, .bool o.plain,o.bkt,o.data,o.par,o.chunk] rfl rfl 23 (Ld LO) m.out jh rfl (yy o) ?_));clear m;generalize (f (Y #[(),false,(),(),(),()] 23)).setRow f #[e' o.blk, .bool o.plain,e' o.bkt,e' o.data,e' o.par,e' o.chunk]=w2 at*;have hne2:G ((W:O)≠a):=by rw [Hid,J'];exact m'
  rw [<-J'] at*;clear J';refine S'.mono ?_;rintro e t ⟨A3,n3,c3,hn3,rfl,Q',P⟩;have qj:=T (uK.below P uK.lt);have G':=T (I'.below P I'.lt);have p':=T (z.trans (P.mono z.size));have N6:=T (N9.below P);have OX:=T (qi Q' z.size);subst hn3;clear Q' P;by_cases D':Q=0
  case neg=>
   have ih:=T (j.out.trans (qk D'));have hEz:(Q==0)=false:=by simpa using D'
   have hEn:(Q !=0)=true:=by simpa using D'
   go_wp2_with (first|(refine qC rfl 23 _ _ rfl W (Ld LO) rfl rfl 23 (Ld LO) qj.out jh rfl (yy _) ?_));refine qW (YZ rfl _ _ W (Ld LO) z8 () () Q rfl rfl rfl rfl rfl (qN _ W 23 _ (Ld LO) (0,0) _ (qj.row _) jK rfl jh)) rfl ?_;unfold rE;rw [ih.out];exact⟨none,0,rfl,qP _ _ _ _,zu p' (qx _) _⟩
  subst D';have ih:=T (j.out.trans (qJ s8));obtain⟨A0,C,c0,A1,n1,c1,At,nt,ct,Al,nl,cl,Ax,nx,cx,Ay,ny,cy,Af,nf,cf,v9,⟨e0,-⟩,cY,h1,-⟩:=N6.out;have hh:G (∀d,r' t t d->i' d a=J (o.blk:la)/\i' d ⟨a,1,none⟩=J (.bool o.plain)/\i' d ⟨a,2,none⟩=J (o.bkt:la)/\i' d ⟨a,3,none⟩=J (o.data:la)/\i' d ⟨a,4,none⟩=J (o.par:la)/\i' d ⟨a,5,none⟩=J (o.chunk:la)/\i' d F=J (Z A0 C c0)):=λd hW=>by
   have cB:=G'.below hW G'.lt;have ck:=cY.below hW cY.lt;exact⟨cB.cell 0,cB.cell 1,cB.cell 2,cB.cell 3,cB.cell 4,cB.cell 5,ck.cell 0⟩
  have H:=Pq t.drew F t C c0 A0 x.dir.counts ((hh _ (qZ _ _).drew).2.2.2.2.2.2) (E'.zY h1).drew (qx _) M;unfold BO at H;have HRn:G (R=(0,o,l,C,iL)):=by rw [Hid,ih.out,e0]
  rw [<-e0] at H;replace H:=T H;have s:G ((W:O)≠F/\(W:O)≠a):=by
   obtain⟨A0,C,c0,A1,n1,c1,At,nt,ct,Al,nl,cl,Ax,nx,cx,Ay,ny,cy,Af,nf,cf,v9,-,-,-,-,-,-,-,-,h7⟩:=N6.out;exact⟨by have:=hbs2.out;omega,hne2⟩
  clear h1 cY e0;obtain⟨z0,z1,z2,z3,z4,z5,z6⟩:=hh _ (qZ _ _);go_wp2_with fail;refine zv 11 (λd=>i' d a=J (o.blk:la)/\i' d ⟨a,1,none⟩=J (.bool o.plain)/\i' d ⟨a,2,none⟩=J (o.bkt:la)/\i' d ⟨a,3,none⟩=J (o.data:la)/\i' d ⟨a,4,none⟩=J (o.par:la)/\i' d ⟨a,5,none⟩=J (o.chunk:la)/\i' d F=J (Z A0 C c0)) AL (hh _ (qZ _ _).drew) (λM'=> ?_);refine zq [0] (a':= ?_) ?_;refine Z6 [1,2,5] (a':= ?_) ?_;refine IA 3 rfl AL SQ (λK cL=> ?_);go_simp
  (go_at_call 81;((with_reducible refine(H.out).mono ?_);rintro e cK ⟨A4,c4,rfl,-,Y'⟩);have L:r' t t cK:=(qZ _ t).drew.trans Y')
  refine cL _ _ ((hh _ L)) (λM'=> ?_);clear cL K;try simp only [Act.put,qQ,qY,qV]
  refine Z6 [4] (a':= ?_) ?_;have z':=T (qj.below L qj.lt);refine IA 6 rfl AL SQ (λK cL=> ?_);refine wp_store_row 23 _ _ rfl W (Ld o) rfl rfl 23 (Ld LO) (z'.out) jh rfl (yy _) ?_;have r: ∀(g i:O) {v:la},(W:O)≠g->i' cK ⟨g,i,none⟩=some v->i' (cK.setRow W (Ld o)) ⟨g,i,none⟩=some v:=λg i v hg hv=>(Js cK W _).cell (p:=⟨g,i,none⟩) (by rw [qy];exact λe=>hg e.symm) hv;obtain⟨y0,y1,y2,y3,y4,y5,y6⟩:=hh _ L;refine cL _ _ ⟨r a 0 s.out.2 y0,r a 1 s.out.2 y1,r a 2 s.out.2 y2,r a 3 s.out.2 y3,r a 4 s.out.2 y4,r a 5 s.out.2 y5,r F 0 s.out.1 y6⟩ (λM'=> ?_);clear cL K;try simp only [Act.put,qQ,qY,qV]
  refine Z6 [7,8,9,10] (a':= ?_) ?_;refine zV AL ?_ _;have Z':=qG OX L;have HLF:=T (pI (w:=cK) Z' z' (Ld o));have HBF:=T (zu (p'.trans (L.mono p'.size)) (qx _) (Ld o));have HGF:=T (z'.row (Ld o));clear M' r z0 z1 z2 z3 z4 z5 z6 y0 y1 y2 y3 y4 y5 y6 Z' L Y' hh H qj;go_wp2_with fail;refine qW (YZ rfl _ _ W (Ld o) (Z A3 l c3) C iL () rfl rfl rfl rfl rfl (qN _ W 23 _ (Ld o) (0,0) _ HGF jK rfl jh)) rfl ?_;unfold rE;rw [HRn.out];exact⟨A3,c3,rfl,HLF,HBF⟩
 ·have uK:=T ((u.alloc (Y #[(),false,(),(),(),()] 23)).cQ m' #[(),false,(),(),(),()]);have z:=T (zu (q.alloc q.size (Y #[(),false,(),(),(),()] 23)) q.size #[(),false,(),(),(),()]);replace m:=T m;clear k u q;go_wp2_with (first|(refine qC rfl 23 _ _ rfl f #[(),false,(),(),(),()] rfl rfl 23 (Ld LO) m.out jh rfl (yy LO) ?_)|(refine qC rfl 23 _ _ rfl W (Ld LO) rfl rfl 23 (Ld LO) uK.out jh rfl (yy _) ?_));refine qW (YZ rfl _ _ W (Ld LO) z8 () () E rfl rfl rfl rfl rfl (qN _ W 23 _ (Ld LO) (0,0) _ (uK.row _) jK rfl jh)) rfl ?_;unfold rE;rw [ih.out];exact⟨none,0,rfl,qP _ _ _ _,zu z (qx _) _⟩
def UL (w:I) (g:O):S (O×la)->I
 |[]=>w
 |(i,u)::t=>UL (w.setCell ⟨g,i,none⟩ u) g t
def og:Array la->S (O×la)->Array la
 |a,[]=>a
 |a,(i,u)::t=>og (a.setIfInBounds i u) t
theorem rR: ∀{w:I} {cs:Array la},F' w g qj cs-> ∀l,F' (UL w g l) g qj (og cs l)
 |_,_,h,[]=>h
 |_,_,h,(i,u)::t=>rR (h.zh i u) t
theorem ah {w:I} {b a:Array la} (h:F' w g qj b) (l:S (O×la)) (e:og b l=a:=by kernel_rfl):F' (UL w g l) g qj a:=e▸rR h l
theorem dA (w:I) (g:O) (l:S (O×la)):qE [g] w (UL w g l):=by
 have key: ∀(l:S (O×la)) (w':I),qE [g] w w'->qE [g] w (UL w' g l):=by
  intro l;induction l with
  |nil=>exact λw' h=>h
  |cons x t a=>exact λw' h=>a _ (h.zh (p:=⟨g,x.1,none⟩) (qy.2 rfl) x.2)
 exact key l w (qE.refl _ _)
theorem World.To (g:O) (cY:I) (i j:O) (u:la) (h:i≠j):i' (cY.setCell ⟨g,i,none⟩ u) ⟨g,j,none⟩=i' cY ⟨g,j,none⟩:=World.cell?_setCell_other _ _ _ _ (λe=>h (by have:=zo Addr.off e;first|exact this|exact this.symm))
theorem World.TO (g:O) (cY:I) (i j:O) (u:la):(cY.setCell ⟨g,i,none⟩ u).frozen? ⟨g,j,none⟩=cY.frozen? ⟨g,j,none⟩:=s8
def unA (v:V) (e c a:V) (b:Bool) (o:Lx) (d:la):Array Value:= #[v,e,c,a,b,o.blk, .bool o.plain,o.bkt,o.data,o.par,o.chunk,d]
def sK (W:I) (b:qn) (e:Ending) (a:I):Prop:=
 r' W W a/\((QW b≠0/\e=t' (BA #[mJ none,e' (QW b)]))\/(QW b=0/\ ∃g A n c,e=t' (BA #[mJ (some ⟨g,0,none⟩),()])/\n=(xX b).l.length/\(W:O)<=g/\F' a g 58 (unA (xX b).v (n:O) (xX b).blocks (xX b).bad false (xX b).o (Z A n c))/\xp a W 45 4 (Z A n c) n (ji (xX b).l)))
theorem GZ (b:qn):Z7 b=1\/Z7 b=2\/Z7 b=3\/(Z7 b=0/\YU b≠0):=by
 unfold Z7 YU;by_cases h:XQ b=1\/XQ b=2
 ·rw [qk h];rcases h with h|h
  ·exact .inl h
  ·exact .inr (.inl h)
 ·rw [qJ h,qJ h];by_cases h2:dp b=true
  ·rw [qk h2];exact .inr (.inr (.inl rfl))
  ·rw [qJ h2,qJ h2];refine .inr (.inr (.inr ⟨rfl, ?_⟩));by_cases h3:XQ b=3
   ·rw [qk h3];decide
   ·rw [qJ h3];unfold XQ at h h3;unfold V6;split
    ·decide
    ·rename_i h4;rw [qJ h4] at h h3;split
     ·decide
     ·rename_i h5;rw [qJ h5] at h h3;split
      ·rename_i h6;rw [qk h6] at h h3;omega
      ·decide
theorem GJ (A:Option Addr) (n c:O) (b:S AB) (W:I) (ht:Pl W) (h:E' W (W:O) 1 A n (b.map B8)) (hc:n<=c) (hm:c<=maxLen) (hn:n<=100000000) (hu:LR\/TA b=true):
  xG 23 #[Z A n c] W (sK W b):=by
 have HT:=T ht;have H:=T h;have KV:=rB A n c (W:O) b W ht h (qx _) hc hm M;have qj:=GZ b;have cK:=T (λcY (D:r' (W:O) W cY)=>Gn A n c b cY (ht.below D ht.pos) ((h.below D).more D.size) hc hm hn);have Q:=T (λcY (D:r' (W:O) W cY)=>G0 A n c b cY (ht.below D ht.pos) ((h.below D).more D.size) hc hm hn);have iv:=T (λcY (D:r' (W:O) W cY)=>Dl A n c b cY (ht.below D ht.pos) ((h.below D).more D.size) hc hm hn hu);obtain⟨RE,z⟩: ∃E,E=QW b:=⟨_,rfl⟩;obtain⟨RU,y⟩: ∃E,E=xX b:=⟨_,rfl⟩;unfold sK;rw [<-z,<-y];unfold QW at z;unfold xX at y;generalize Z7 b=cY at*
 generalize YU b=VE at*
 unfold P_ at cK Q;unfold rE at iv;generalize JZ b=r1 at*
 generalize Zk (Vh b)=r2 at*
 generalize X0 b=r3 at*
 obtain⟨E1,o1,P,n1⟩:=r1;obtain⟨E2,o2,l2,n2⟩:=r2;obtain⟨E3,o3,N,n3,b3⟩:=r3;dsimp only at z y cK Q iv;replace KV:=T KV;replace z:=T z;replace y:=T y;replace qj:=T qj;clear ht h;go_enter func23,ntmps23
 go_wp2_with fail;refine KV.mono ?_;rintro e t ⟨rfl,G'⟩;have u:=T G';clear KV G';by_cases m':cY=1
 ·subst m'
  have uK:=T (z.trans (qk rfl));have ck:=T (y.trans (qk rfl));have j:=T (u.alloc u.size (Y #[e' 1,(),(),(), .bool false,(), .bool false,(),(),(),(),Z none 0 0] 58));have v:=T (F'.new t 58 #[e' 1,(),(),(), .bool false,(), .bool false,(),(),(),(),Z none 0 0]);have hh:G ((W:O)<=(t:O)):=u.size;have F:=T (cK.out _ j);clear cK Q iv z y qj;dsimp only [Ld] at F
  go_wp2_with fail;generalize t (Y #[e' 1,(),(),(), .bool false,(), .bool false,(),(),(),(),Z none 0 0] 58)=w2 at*
  generalize (t:O)=g at*
  refine F.mono ?_;rintro e d ⟨o,m,rfl,L,x⟩;have a:=T (v.below x v.lt);have C:=T (j.trans (x.mono j.size));have ln:=T (qi L j.size);have S':i' d ⟨g,5,none⟩=J (e' 0):=a.cell 5;have N':i' d ⟨g,6,none⟩=J (.bool false):=a.cell 6;have J':i' d ⟨g,7,none⟩=J (e' 0):=a.cell 7;have z':i' d ⟨g,8,none⟩=J (e' 0):=a.cell 8;have OX:i' d ⟨g,9,none⟩=J (e' 0):=a.cell 9;have O':i' d ⟨g,10,none⟩=J (e' 0):=a.cell 10;have I':i' d ⟨g,11,none⟩=J (Z none 0 0):=a.cell 11;have P':i' d ⟨g,2,none⟩=J (e' 0):=a.cell 2;have ff:=a.frozen;have N6:=World.To g;have Q':=World.TO g;have s:G (F' (UL d g [(5,e' o1.blk),(6, .bool o1.plain),(7,e' o1.bkt),(8,e' o1.data),(9,e' o1.par),(10,e' o1.chunk),(11,Z o P m),(2,e' (n1:V))]) g 58 #[e' 1,(),n1,(), .bool false,o1.blk, .bool o1.plain,o1.bkt,o1.data,o1.par,o1.chunk,Z o P m]):=ah a _;have B:=T (dA d g [(5,e' o1.blk),(6, .bool o1.plain),(7,e' o1.bkt),(8,e' o1.data),(9,e' o1.par),(10,e' o1.chunk),(11,Z o P m),(2,e' (n1:V))]);generalize l:UL d g [(5,e' o1.blk),(6, .bool o1.plain),(7,e' o1.bkt),(8,e' o1.data),(9,e' o1.par),(10,e' o1.chunk),(11,Z o P m),(2,e' (n1:V))]=cB at*
  simp only [UL] at l;have q:=T (C.trans (B.below (λk f=>by rw [qy.1 f];exact hh) C.size))
  have r:=T (B.own ln (λk f w=>qT ln a FV k f (qy.1 w)));replace l:=T l;clear B ln C F L x v j;by_cases i:E1=0
  case neg=>
   have D':(E1==0)=false:=by simpa using i
   have U':(E1 !=0)=true:=by simpa using i
   replace i:=T i;clear s r
   go_wp2_with fail;rw [l.out]
   go_ret2;rw [uK.out];exact⟨q.out, .inl ⟨i.out,rfl⟩⟩
  subst i;have N9:i' d ⟨g,1,none⟩=J (e' 0):=a.cell 1;have X:=T (s.zh 1 P);have ih:=(qE.refl [g] cB).zh (p:=⟨g,1,none⟩) (qy.2 rfl) P;have iL:=T (q.trans (ih.below (λk f=>by rw [qy.1 f];exact hh) q.size))
  have d':=T (ih.own r (λk f w=>qT r s FV k f (qy.1 w)));clear s r ih q a
  go_wp2_with fail;rw [l.out]
  go_ret2;rw [uK.out,ck.out];exact⟨iL.out, .inr ⟨rfl,g,o,P,m,rfl,rfl,hh.out,X.out,d'.out⟩⟩
 have z1:(cY==1)=false:=by simpa using m'
 have K:=z.out;have R:=y.out;rw [qJ m'] at K R;by_cases p':cY=2
 ·subst p'
  have uK:=T (K.trans (qk rfl));have ck:=T (R.trans (qk rfl));clear K R;have j:=T (u.alloc u.size (Y #[e' 2,(),(),(), .bool false,(), .bool false,(),(),(),(),Z none 0 0] 58));have v:=T (F'.new t 58 #[e' 2,(),(),(), .bool false,(), .bool false,(),(),(),(),Z none 0 0]);have hh:G ((W:O)<=(t:O)):=u.size;have F:=T (Q.out _ j);clear cK Q iv z y qj;dsimp only [Ld] at F
  go_wp2_with fail;generalize t (Y #[e' 2,(),(),(), .bool false,(), .bool false,(),(),(),(),Z none 0 0] 58)=w2 at*
  generalize (t:O)=g at*
  refine F.mono ?_;rintro e d ⟨o,m,rfl,L,x⟩;have a:=T (v.below x v.lt);have C:=T (j.trans (x.mono j.size));have ln:=T (qi L j.size);have S':i' d ⟨g,5,none⟩=J (e' 0):=a.cell 5;have N':i' d ⟨g,6,none⟩=J (.bool false):=a.cell 6;have J':i' d ⟨g,7,none⟩=J (e' 0):=a.cell 7;have z':i' d ⟨g,8,none⟩=J (e' 0):=a.cell 8;have OX:i' d ⟨g,9,none⟩=J (e' 0):=a.cell 9;have O':i' d ⟨g,10,none⟩=J (e' 0):=a.cell 10;have I':i' d ⟨g,11,none⟩=J (Z none 0 0):=a.cell 11;have P':i' d ⟨g,2,none⟩=J (e' 0):=a.cell 2;have ff:=a.frozen;have N6:=World.To g;have Q':=World.TO g;have s:G (F' (UL d g [(5,e' o2.blk),(6, .bool o2.plain),(7,e' o2.bkt),(8,e' o2.data),(9,e' o2.par),(10,e' o2.chunk),(11,Z o l2 m),(2,e' (n2:V))]) g 58 #[e' 2,(),n2,(), .bool false,o2.blk, .bool o2.plain,o2.bkt,o2.data,o2.par,o2.chunk,Z o l2 m]):=ah a _;have B:=T (dA d g [(5,e' o2.blk),(6, .bool o2.plain),(7,e' o2.bkt),(8,e' o2.data),(9,e' o2.par),(10,e' o2.chunk),(11,Z o l2 m),(2,e' (n2:V))]);generalize l:UL d g [(5,e' o2.blk),(6, .bool o2.plain),(7,e' o2.bkt),(8,e' o2.data),(9,e' o2.par),(10,e' o2.chunk),(11,Z o l2 m),(2,e' (n2:V))]=cB at*
  simp only [UL] at l;have q:=T (C.trans (B.below (λk f=>by rw [qy.1 f];exact hh) C.size))
  have r:=T (B.own ln (λk f w=>qT ln a FV k f (qy.1 w)));replace l:=T l;clear B ln C F L x v j;by_cases i:E2=0
  case neg=>
   have D':(E2==0)=false:=by simpa using i
   have U':(E2 !=0)=true:=by simpa using i
   replace i:=T i;clear s r
   go_wp2_with fail;rw [l.out]
   go_ret2;rw [uK.out];exact⟨q.out, .inl ⟨i.out,rfl⟩⟩
  subst i;have N9:i' d ⟨g,1,none⟩=J (e' 0):=a.cell 1;have X:=T (s.zh 1 l2);have ih:=(qE.refl [g] cB).zh (p:=⟨g,1,none⟩) (qy.2 rfl) l2;have iL:=T (q.trans (ih.below (λk f=>by rw [qy.1 f];exact hh) q.size))
  have d':=T (ih.own r (λk f w=>qT r s FV k f (qy.1 w)));clear s r ih q a
  go_wp2_with fail;rw [l.out]
  go_ret2;rw [uK.out,ck.out];exact⟨iL.out, .inr ⟨rfl,g,o,l2,m,rfl,rfl,hh.out,X.out,d'.out⟩⟩
 have z2:(cY==2)=false:=by simpa using p'
 rw [qJ p'] at K R;by_cases u':cY=3
 ·subst u'
  have uK:=T (K.trans (qk rfl));have ck:=T R;clear K R;have j:=T (u.alloc u.size (Y #[e' 3,(),(),(), .bool false,(), .bool false,(),(),(),(),Z none 0 0] 58));have v:=T (F'.new t 58 #[e' 3,(),(),(), .bool false,(), .bool false,(),(),(),(),Z none 0 0]);have hh:G ((W:O)<=(t:O)):=u.size;have F:=T (iv.out _ j);clear cK Q iv z y qj;dsimp only [Ld] at F
  go_wp2_with fail;generalize t (Y #[e' 3,(),(),(), .bool false,(), .bool false,(),(),(),(),Z none 0 0] 58)=w2 at*
  generalize (t:O)=g at*
  refine F.mono ?_;rintro e d ⟨o,m,rfl,L,x⟩;have a:=T (v.below x v.lt);have C:=T (j.trans (x.mono j.size));have ln:=T (qi L j.size);have S':i' d ⟨g,5,none⟩=J (e' 0):=a.cell 5;have N':i' d ⟨g,6,none⟩=J (.bool false):=a.cell 6;have J':i' d ⟨g,7,none⟩=J (e' 0):=a.cell 7;have z':i' d ⟨g,8,none⟩=J (e' 0):=a.cell 8;have OX:i' d ⟨g,9,none⟩=J (e' 0):=a.cell 9;have O':i' d ⟨g,10,none⟩=J (e' 0):=a.cell 10;have I':i' d ⟨g,11,none⟩=J (Z none 0 0):=a.cell 11;have P':i' d ⟨g,2,none⟩=J (e' 0):=a.cell 2;have Y':i' d ⟨g,3,none⟩=J (e' 0):=a.cell 3;have ff:=a.frozen;have N6:=World.To g;have Q':=World.TO g;have s:G (F' (UL d g [(5,e' o3.blk),(6, .bool o3.plain),(7,e' o3.bkt),(8,e' o3.data),(9,e' o3.par),(10,e' o3.chunk),(11,Z o N m),(2,e' (n3:V)),(3,e' (b3:V))]) g 58 #[e' 3,(),n3,b3, .bool false,o3.blk, .bool o3.plain,o3.bkt,o3.data,o3.par,o3.chunk,Z o N m]):=ah a _;have B:=T (dA d g [(5,e' o3.blk),(6, .bool o3.plain),(7,e' o3.bkt),(8,e' o3.data),(9,e' o3.par),(10,e' o3.chunk),(11,Z o N m),(2,e' (n3:V)),(3,e' (b3:V))]);generalize l:UL d g [(5,e' o3.blk),(6, .bool o3.plain),(7,e' o3.bkt),(8,e' o3.data),(9,e' o3.par),(10,e' o3.chunk),(11,Z o N m),(2,e' (n3:V)),(3,e' (b3:V))]=cB at*
  simp only [UL] at l;have q:=T (C.trans (B.below (λk f=>by rw [qy.1 f];exact hh) C.size))
  have r:=T (B.own ln (λk f w=>qT ln a FV k f (qy.1 w)));replace l:=T l;clear B ln C F L x v j;by_cases i:E3=0
  case neg=>
   have D':(E3==0)=false:=by simpa using i
   have U':(E3 !=0)=true:=by simpa using i
   replace i:=T i;clear s r
   go_wp2_with fail;rw [l.out]
   go_ret2;rw [uK.out];exact⟨q.out, .inl ⟨i.out,rfl⟩⟩
  subst i;have N9:i' d ⟨g,1,none⟩=J (e' 0):=a.cell 1;have X:=T (s.zh 1 N);have ih:=(qE.refl [g] cB).zh (p:=⟨g,1,none⟩) (qy.2 rfl) N;have iL:=T (q.trans (ih.below (λk f=>by rw [qy.1 f];exact hh) q.size))
  have d':=T (ih.own r (λk f w=>qT r s FV k f (qy.1 w)));clear s r ih q a
  go_wp2_with fail;rw [l.out]
  go_ret2;rw [uK.out,ck.out];exact⟨iL.out, .inr ⟨rfl,g,o,N,m,rfl,rfl,hh.out,X.out,d'.out⟩⟩
 have z3:(cY==3)=false:=by simpa using u'
 rw [qJ u'] at K;have cL:cY=0/\VE≠0:=by
  rcases qj.out with h|h|h|h
  ·exact absurd h m'
  ·exact absurd h p'
  ·exact absurd h u'
  ·exact h
 obtain⟨M',cL⟩:=cL;have i:(VE==0)=false:=by simpa using cL
 have X':(VE !=0)=true:=by simpa using cL
 have j:G (r' (W:O) W (t (Y #[cY,(),(),(), .bool false,(), .bool false,(),(),(),(),Z none 0 0] 58))):=u.alloc u.size _;replace K:=T K;replace cL:=T cL;replace M':=T M';clear cK Q iv z y qj R
 go_wp2_with fail
 go_ret2;rw [K.out];exact⟨j.out, .inl ⟨cL.out,rfl⟩⟩
end
section
variable {b:qn}
theorem r_ (b:qn) (d:O): ∀(f:O) (c:Cu) (a:S JH),(PN b d f c a).1=0->kF (PN b d f c a).2=0
 |0,c,a,h=>by
  unfold PN at h⊢;split at h
  ·exact absurd h FV
  ·rename_i h1
   rw [qJ h1];split at h
   ·exact absurd h FV
   ·rename_i h2
    rw [qJ h2];exact ym.1 h2
 |f+1,c,a,h=>by
  unfold PN at h⊢;split at h
  ·rename_i h1
   exact absurd h h1
  ·rename_i h1
   rw [qJ h1];exact r_ b d f _ _ h
theorem Rq (h:(JZ b).1=0):kF (JZ b).2.2.1=0:=by
 unfold JZ at h⊢;dsimp only at h⊢;split at h
 ·rename_i h1;exact absurd h h1
 ·rename_i h1;rw [qJ h1];split at h
  ·rename_i h2;exact absurd h h2
  ·rename_i h2;rw [qJ h2];split at h
   ·rename_i h3;exact absurd h h3
   ·rename_i h3;rw [qJ h3];exact r_ _ _ _ _ _ (ym.1 h3)
theorem B9 (x:Ft): ∀(f k:O) (a:S JH),(C0 x f k a).1=0->kF (C0 x f k a).2=0
 |0,k,a,h=>by
  unfold C0 at h⊢;split at h
  ·exact absurd h FV
  ·rename_i h1
   rw [qJ h1];split at h
   ·exact absurd h FV
   ·rename_i h2
    rw [qJ h2];exact ym.1 h1
 |f+1,k,a,h=>by
  unfold C0 at h⊢;split at h
  ·rename_i h1
   exact absurd h h1
  ·rename_i h1
   rw [qJ h1];exact B9 x f _ _ h
theorem Da {x:V×Lx×Ft} (h:(Zk x).1=0):kF (Zk x).2.2.1=0:=by
 unfold Zk at h⊢;dsimp only at h⊢;split at h
 ·rename_i h1;exact absurd h h1
 ·rename_i h1;rw [qJ h1];split at h
  ·rename_i h2;exact absurd h h2
  ·rename_i h2;rw [qJ h2];exact B9 _ _ _ _ (ym.1 h2)
theorem T7 (h:QW b=0):kF (xX b).l=0/\1<=(xX b).v/\(xX b).v<=3:=by
 unfold QW at h;unfold xX;by_cases h1:Z7 b=1
 ·rw [qk h1] at h⊢;exact⟨Rq h,(by show(1:V)<=1;decide),(by show(1:V)<=3;decide)⟩
 ·rw [qJ h1] at h⊢;by_cases h2:Z7 b=2
  ·rw [qk h2] at h⊢;exact⟨Da h,(by show(1:V)<=2;decide),(by show(2:V)<=3;decide)⟩
  ·rw [qJ h2] at h⊢;by_cases h3:Z7 b=3
   ·rw [qk h3] at h;exact⟨Da (x:=((ZX b).1,(ZX b).2.1,(ZX b).2.2.1)) h,(by show(1:V)<=3;decide),(by show(3:V)<=3;decide)⟩
   ·rw [qJ h3] at h;rcases GZ b with h4|h4|h4|⟨_,h4⟩
    ·exact absurd h4 h1
    ·exact absurd h4 h2
    ·exact absurd h4 h3
    ·exact absurd h h4
theorem T8 {l:S JH} (h:kF l=0):U l<=20000/\l.any X8=false/\hX l<=1048576:=by
 unfold kF at h;split at h
 ·exact absurd h FV
 ·rename_i h1;refine⟨M, ?_,M⟩;cases h2:l.any X8 with
  |false=>rfl
  |true=>exact absurd (.inr (.inl h2)) h1
end
section
open Go.RowKit
def unR (b:qn):V×S JH×Int:=if QW b≠0 then(QW b,[],0) else(0,(xX b).l,(xX b).v)
def ie (W:I) (r:V×S JH×V) (e:Ending) (a:I):Prop:=
 ∃A n c,n=U r.2.1/\e=t' (BA #[Z A n c,e' r.2.2,e' r.1])/\xp a W 45 4 (Z A n c) n (ji r.2.1)/\r' W W a
theorem GX (A:q') (n c:O) (b:qn) (W:I) (ht:Pl W) (h:E' W (W:O) 1 A n (b.map B8)) (D:n<=c) (z:c<=maxLen) (F:n<=100000000):
  xG 13 #[Z A n c] W (ie W (unR b)):=by
 have j:=GJ A n c b W ht h D z F (.inl L_);obtain⟨R,d⟩:=zn (unR b);rw [<-d];unfold unR at d;unfold sK at j;generalize QW b=E,xX b=K at*;clear ht h;by_cases a:E=0
 case neg=>
  have w:=T (d.trans (qk a));have i:G (xG 23 #[Z A n c] W λe w'=>e=t' (BA #[mJ none,E])/\r' (W:O) W w'):=T (j.mono (by
   rintro e w' ⟨t,⟨_,q⟩|⟨h0,_⟩⟩
   ·exact⟨q,t⟩
   ·exact absurd h0 a))
  have H:(E==0)=false:=by simpa using a
  have N:(E !=0)=true:=by simpa using a
  replace a:=T a;clear j d;go_in;go_wp2_with fail;refine zC i ?_;intro r f;have k:=T f;clear f;go_wp2;go_ret3;rw [w.out];exact⟨none,0,0,rfl,rfl,qP _ _ _ _,k⟩
 subst a;have w:=T (d.trans (qJ s8));have i:G (xG 23 #[Z A n c] W λe w'=> ∃g A n c,e=t' (BA #[mJ (some ⟨g,0,none⟩),()])/\n=U K.l/\F' w' g 58 (unA K.v (n:O) K.blocks K.bad false K.o (Z A n c))/\xp w' (W:O) 45 4 (Z A n c) n (ji K.l)/\r' (W:O) W w'):=T (j.mono (by
  rintro e w' ⟨t,⟨h0,_⟩|⟨_,g,A,n,c,q,h1,h2,h3,h4⟩⟩
  ·exact absurd rfl h0
  ·exact⟨g,A,n,c,q,h1,h3,h4,t⟩))
 clear j d;go_in;go_wp2_with fail;refine i.mono ?_;rintro e r ⟨g,p,s,c1,rfl,u,m,x,f⟩;have k:=T f;have y:=T x;have C:i' r g=J (K.v:la):=m.cell 0;have B:i' r ⟨g,11,none⟩=J (Z p s c1):=m.cell 11;replace u:=T u;clear f x m;go_wp2_with fail;refine zv 12 (λW=>i' W g=J (K.v:la)/\i' W ⟨g,11,none⟩=J (Z p s c1)) AL ⟨C,B⟩ (λL=> ?_);refine zq [0,1,2,3,4,5] (a':= ?_) ?_;refine zq [6,7,8,9,10,11] (a':= ?_) ?_;refine zV AL ?_ _;go_wp2;go_ret3;rw [w.out];exact⟨p,s,c1,u,rfl,y,k.drew⟩
end
end Go.Proofs.YtfnlfpcfkbdcmaaGreatDoor
