import Derived.Test.YtfnlfpcfkbdcmaaGreatDoorT21
import Derived.Test.YtfnlfpcfkbdcmaaGreatDoorT23
set_option linter.unusedSimpArgs false
set_option linter.unusedVariables false
set_option maxRecDepth 100000
set_option maxHeartbeats 0
open Go.Proofs.Tryz
namespace Go.Proofs.YtfnlfpcfkbdcmaaGreatDoor
section
variable {B b f i j q:O}{C:Obj}{d w w':I}{l:Array la}{vs:S la}
section
open Go.RowKit Go.Shelf
attribute [local go_sem] J4
section
def DI (a:O) (l:S Bool):S Nat:=((List.range l).filter λi=> !(l.getD i false)).map (a+ ·)
theorem BW (a:O) (l:S Bool) (g:Bool):DI a (l++[g])=DI a l++(if g=true then [] else [a+U l]):=by
 unfold DI;rw [qK,zJ,jA,vx,qg];congr 1
 ·congr 1;apply List.filter_congr;intro i hi;have hi:=js.1 hi;rw [qd,q_ hi,<-qd]
 ·have h:(l++[g]).getD l false=g:=by rw [qd,qm (qx _),xO];rfl
  cases g with
  |false=>rw [yW (by rw [h];rfl)];rfl
  |true=>rw [yw (by rw [h];decide)];rfl
theorem BS (b:O) (s:qn) (a:O): ∀j,Yu b s (a+j)=Yu b s a++DI a ((List.range j).map λi=>Jd (yY s b (a+i)))
 |0=>by simp [DI]
 |j+1=>by
  rw [<-vo,tZ,BS b s a j,jA,qg,jY];congr 1;rw [jy,xB,BW,zH,yS]
theorem aZ {a:Type} (q:O) (f:O->a):((List.finRange q).map λx=>f x.val)=(List.range q).map f:=by
 apply zm;intro i;by_cases h:i<q
 ·rw [qD,qD,jJ h,qX (by simpa using h)];simp
 ·rw [qO SZ,qO SZ]
end
def J0 (w w':I):Prop:= ∀(k:O) (t:TypeId) (cs:Array la) (a:O×O),w.heap[k]? =J (Y cs t a)->w'.heap[k]? =J (Y cs t a)
theorem J0.Gq {row:Option O} (f:w.grownBy w' row) (d: ∀r,row=some r-> ∃o:Obj,w.heap[r]? =some o/\o.isCells=false):J0 w w':=λk t cs g b=>by
 refine(f.block k (jz b) λe=> ?_).trans b;obtain⟨o,a,c⟩:=d k e.symm;rw [b] at a;injection a with a
 rw [<-a] at c;exact absurd c (by simp [Obj.isCells])
theorem J0.own {base size n c:O} {A:q'} {E:TypeId} {d:S la} (f:J0 w w') (h:xp w base E size (Z A n c) n d):xp w' base E size (Z A n c) n d:=
 zI h λa e=>by
  obtain⟨cs,g,b⟩:=jV h _ (by rw [e];rfl)
  rw [b];exact f _ _ _ _ b
theorem J0.blk {g:O} {t:TypeId} {a:Array la} (b:J0 w w') (h:F' w g t a):F' w' g t a:=b _ _ _ _ h
theorem zM.kept {W:I} {base n c:O} {A:q'} {g:S qn} (h:zM W 0 base A n c g) (r:(W:O)<=(d:O)) (f: ∀(E:TypeId) (size b e:O) (k:q') (j:S la),(E=30\/E=5)->xp W base E size (Z k b e) b j->xp d base E size (Z k b e) b j):zM d 0 base A n c g:=by
 obtain⟨⟨vs,h1,h2,h3⟩,l,h0⟩:=h;refine⟨⟨vs,f _ _ _ _ _ _ (.inl rfl) h1,h2,λi xs hi=> ?_⟩,qv l r,h0⟩;obtain⟨Ai,q,t,o,m,a⟩:=h3 i _ hi;refine⟨Ai,q,t,o,m, ?_⟩;rcases a with a|a
 ·exact .inl (a.keep λp s=>absurd s (Nat.not_lt_zero _))
 ·exact .inr (f _ _ _ _ _ _ (.inr rfl) a)
section
variable {W W' : I} {g : O} {t E : TypeId} {cs : Array la} {base size n c : O} {A : q'} {xs : S la}
theorem jw (h:xp W base E size (Z A n c) n xs) (f:F' W g t cs) (k:E≠t) (j:O) (u:la):xp (W.setCell ⟨g,j,none⟩ u) base E size (Z A n c) n xs:=
 zI h λa d=>by
  refine jT W ⟨g,j,none⟩ u a.block (λe=> ?_);obtain⟨m,l,b⟩:=jV h g (by rw [d];exact zo _ e)
  have i:W.heap[g]? =J (Y cs t):=f;rw [i] at b;injection b with b
  injection b with _ b
  exact k b.symm
theorem xQ (b:F' W g t cs) (h:xp W base E size (Z A n c) n xs) (f:E≠t) (i:W.grownBy W' (A.map (·.block))):F' W' g t cs:=
 b.grown i λe=>by
  obtain⟨j,k,a⟩:=jV h g e.symm;have d:W.heap[g]? =J (Y cs t):=b;rw [d] at a;injection a with a
  injection a with _ a
  exact f a.symm
theorem Qu {c:O} {a:TypeId} {b:Array la} (h:F' W c a b) (d:F' W g t cs) (e:a≠t) (j:O) (u:la):F' (W.setCell ⟨g,j,none⟩ u) c a b:=h.far (h.ne_ d e) u
end
structure _d (w0:I) (base b0 g b2 b5 b6 bS bN k m ch no co:O) (Ao:q') (out:qn) (vS vN:la) (W:I) (n5 n6:O) (L5:S qn) (L6:S Bool) (at_:O) (bd:S O):Prop where
 r2:F' W b2 307 #[mJ g]
 r5: ∃A5 c5,F' W b5 87 #[Z A5 n5 c5]/\zM W 0 b0 A5 n5 c5 L5
 r6: ∃A6 c6,F' W b6 172 #[Z A6 n6 c6]/\xp W b0 4 1 (Z A6 n6 c6) n6 (L6.map Value.bool)
 rd: ∃Ab nb cb,nb<=at_/\Ab.map (·.block)≠some bN/\Rdr W base g k m ch Ao no co Ab nb cb at_ out bd
 below:r' base w0 W
 g5:base<=b5
 g6:base<=b6
 rS:F' W bS 30 #[vS]
 rN:F' W bN 3 #[vN]
 gS:bS<b0
 gN:bN<b0
 b00:base<=b0
section
variable {w0 W W' : I} {base b0 g b2 b5 b6 bS bN k m ch no co at_ n5 n6 : O} {Ao : q'} {out : qn} {vS vN : la} {bd : S O} {L5 : S qn} {L6 : S Bool}
theorem _d.aJ {row:Option O} (h:_d w0 base b0 g b2 b5 b6 bS bN k m ch no co Ao out vS vN W n5 n6 L5 L6 at_ bd) (ln:base<=B) (c:W.grownBy W' row) (d: ∀r,row=some r->B<=r/\ ∃o:Obj,W.heap[r]? =some o/\o.isCells=false):_d w0 base b0 g b2 b5 b6 bS bN k m ch no co Ao out vS vN W' n5 n6 L5 L6 at_ bd:=by
 have a:=J0.Gq c λr e=>(d r e).2;obtain⟨h2,⟨D,v,h5,i⟩,⟨p,w,h6,x⟩,⟨l,y,C,E,q,b⟩,F,f,t,n,z,s,j,A⟩:=h;exact⟨a.blk h2,⟨D,v,a.blk h5,i.kept c.size λ_ _ _ _ _ _ _ u=>a.own u⟩,⟨p,w,a.blk h6,a.own x⟩,⟨l,y,C,E,q,a.blk b.blk,b.ge,a.own b.oo,a.own b.ob⟩,F.grown c (qv b.ge (zr b.blk.lt)) (λr e=>by have:=(d r e).1;omega),f,t,a.blk n,a.blk z,s,j,A⟩
theorem _d.size (h:_d w0 base b0 g b2 b5 b6 bS bN k m ch no co Ao out vS vN W n5 n6 L5 L6 at_ bd):base<=(W:O):=by
 obtain⟨d,c,e,b,_,a⟩:=h.rd;exact qv a.ge (zr a.blk.lt)
theorem _d.BN (h:_d w0 base b0 g b2 b5 b6 bS bN k m ch no co Ao out vS vN W n5 n6 L5 L6 at_ bd):b0<=(W:O):=by
 obtain⟨c,d,b,a⟩:=h.r5;exact a.bs
theorem Vc.keep {d m:q'} {j:Array la} (h:Vc W W' g d m) (p:F' W g 309 j) (n:xp W b 3 1 (Z d f q) f vs) {t:TypeId} {i:O×O} {k:O} (a:W.heap[k]? =J (Y l t i)) (h1:t≠309) (h2:t≠3\/d.map (·.block)≠some k):W'.heap[k]? =J (Y l t i):=by
 refine(h.heap k (jz a) ?_ ?_).trans a
 ·rintro rfl;have o:W.heap[k]? =J (Y j 309):=p;rw [o] at a;injection a with a;injection a with _ a;exact h1 a.symm
 ·rcases h2 with h2|h2
  ·intro e;obtain⟨s,r,c⟩:=jV n k e;rw [a] at c;injection c with c;injection c with _ c;exact h2 c
  ·exact h2
theorem _d.part {n N Q:O} {A:S O} {l p:q'} {y:O} (h:_d w0 base b0 g b2 b5 b6 bS bN k m ch no co Ao out vS vN W n5 n6 L5 L6 at_ bd) (v:Rdr W base g k m ch Ao no co l N Q at_ out bd) (u:l.map (·.block)≠some bN) (cY:Rdr W' base g k m ch Ao no co p q y n out A) (iv:q<=n) (x:r' base W W') (i:Vc W W' g l p):_d w0 base b0 g b2 b5 b6 bS bN k m ch no co Ao out vS vN W' n5 n6 L5 L6 n A:=by
 have j:=v.blk;have o:=v.ob;have X:=h.BN;obtain⟨h2,⟨R,K,h5,C⟩,⟨ln,L,h6,uK⟩,-,qj,B,ih,F,cL,H,D,P⟩:=h;have f: ∀{b:O} {t:TypeId} {cs:Array la},F' W b t cs->t≠309->t≠3->F' W' b t cs:=λhh c r=>i.keep j o hh c (.inl r);have s: ∀{E:TypeId} {size n' c':O} {A':q'} {ys:S la},E≠309->E≠3->xp W b0 E size (Z A' n' c') n' ys->xp W' b0 E size (Z A' n' c') n' ys:=λc r d=>zI d λa cK=>by
  obtain⟨cB,ck,z⟩:=jV d _ (by rw [cK];rfl);rw [z];exact i.keep j o z c (.inl r)
 refine⟨f h2 FV FV,⟨R,K,f h5 FV FV,C.kept x.size λE _ _ _ _ _ w d=>s (by rcases w with rfl|rfl<;>decide) (by rcases w with rfl|rfl<;>decide) d⟩,⟨ln,L,f h6 FV FV,s FV FV uK⟩,⟨p,q,y,iv,λe=> ?_,cY⟩,qj.trans x,B,ih,f F FV FV,i.keep j o cL FV (.inr u),H,D,P⟩;rcases i.row _ e with c|c
 ·exact u c
 ·omega
theorem kI {a n c:O} {t E:TypeId} {d:Array la} {A:q'} {size:O} {g:S la} (f:F' W b t d) (h:xp W a E size (Z A n c) n g) (j:b<a) (i:W.grownBy W' (A.map (·.block))):F' W' b t d:=
 f.grown i λe=>by
  have:=(h.lt b (by rw [jH];exact e.symm)).1
  omega
theorem _d.LD {e s z:q'} {w n:O} {x:qn} (h:_d w0 base b0 g b2 b5 b6 bS bN k m ch no co Ao out vS vN W n5 n6 L5 L6 at_ bd) (h5:F' W b5 87 #[Z e n5 j]) (h1:xp W b0 30 1 (Z e n5 j) n5 vs) (h2:U L5=n5) (h3: ∀(i:O) (xs:qn),L5[i]? =some xs-> ∃(Ai:q') (l:O),vs[i]? =J (Z Ai (U xs) l)/\j8 W 0 b0 Ai l xs) (cK:U x=n) (R:xp W b0 5 1 (Z z n w) n (x.map B8)) (r:xp W' b0 30 1 (Z s (n5+1) q) (n5+1) (vs++[Z z n w])) (a:(W.alloc C).grownBy W' (e.map (·.block))):
  F' W' b5 87 #[Z e n5 j]/\_d w0 base b0 g b2 b5 b6 bS bN k m ch no co Ao out vS vN (W'.setCell b5 (Z s (n5+1) q)) (n5+1) n6 (L5++[x]) L6 at_ bd:=by
 have A:=h.size;have o:=h.BN;obtain⟨ln,-,⟨F,K,h6,L⟩,⟨B,uK,iv,cY,H,f⟩,qj,t,ih,D,P,v,u,y⟩:=h;have d:r' W W (W.alloc C):=j1 _;have c:=h1.alloc C;have b:=xQ (h5.alloc C) c FV a;have X:=zM.Fv cK ((j8.own (b0:=0) R).2.below (qp _) o d) c h2 (λi xs hi=>by
  obtain⟨Ai,l,hh,p⟩:=h3 i _ hi;exact⟨_,l,hh,p.below (qp _) o d⟩) (qp _) (qv o d.size) r a
 have Q:=zG (qj.trans (d.mono A)) a (qi c y) (qv A d.size);refine⟨b,Qu (xQ (ln.alloc C) c FV a) b FV _ _,⟨s,q, ?_, ?_⟩,⟨F,K, ?_, ?_⟩,⟨B,uK,iv,cY,H, ?_,f.ge, ?_, ?_⟩,Q.setCell t _,t,ih, ?_, ?_,v,u,y⟩
 ·exact b.zh 0 _
 ·exact X.kept (by rw [zO];exact qx _) λE _ _ _ _ _ N r=>jw r b (by rcases N with rfl|rfl<;>decide) _ _
 ·exact Qu (xQ (h6.alloc C) c FV a) b FV _ _
 ·exact jw (Zt (L.alloc C) c FV a) b FV _ _
 ·exact Qu (xQ (f.blk.alloc C) c FV a) b FV _ _
 ·exact jw (Zt (f.oo.alloc C) c FV a) b FV _ _
 ·exact jw (Zt (f.ob.alloc C) c FV a) b FV _ _
 ·exact Qu (kI (D.alloc C) c v a) b FV _ _
 ·exact Qu (kI (P.alloc C) c u a) b FV _ _
theorem _d.Ia {d o:q'} {f:Bool} (h:_d w0 base b0 g b2 b5 b6 bS bN k m ch no co Ao out vS vN W n5 n6 L5 L6 at_ bd) (h6:F' W b6 172 #[Z d n6 i]) (h1:xp W b0 4 1 (Z d n6 i) n6 (L6.map Value.bool)) (l:xp W' b0 4 1 (Z o (n6+1) j) (n6+1) (L6.map Value.bool++[.bool f])) (b:(W.alloc C).grownBy W' (d.map (·.block))):
  F' W' b6 172 #[Z d n6 i]/\_d w0 base b0 g b2 b5 b6 bS bN k m ch no co Ao out vS vN (W'.setCell b6 (Z o (n6+1) j)) n5 (n6+1) L5 (L6++[f]) at_ bd:=by
 have u:=h.size;obtain⟨z,⟨p,B,h5,w⟩,-,⟨x,D,N,L,A,e⟩,K,v,s,y,P,r,q,t⟩:=h;have n:r' W W (W.alloc C):=j1 _;have c:=h1.alloc C;have a:=xQ (h6.alloc C) c FV b;have Q:=(w.below n).apart c FV FV (qx _) b;have H:=zG (K.trans (n.mono u)) b (qi c t) (qv u n.size);refine⟨a,Qu (xQ (z.alloc C) c FV b) a FV _ _,⟨p,B, ?_, ?_⟩,⟨o,j, ?_, ?_⟩,⟨x,D,N,L,A, ?_,e.ge, ?_, ?_⟩,H.setCell s _,v,s, ?_, ?_,r,q,t⟩
 ·exact Qu (xQ (h5.alloc C) c FV b) a FV _ _
 ·exact Q.kept (by rw [zO];exact qx _) λE _ _ _ _ _ F l=>jw l a (by rcases F with rfl|rfl<;>decide) _ _
 ·exact a.zh 0 _
 ·rw [qg];exact jw l a FV _ _
 ·exact Qu (xQ (e.blk.alloc C) c FV b) a FV _ _
 ·exact jw (Zt (e.oo.alloc C) c FV b) a FV _ _
 ·exact jw (Zt (e.ob.alloc C) c FV b) a FV _ _
 ·exact Qu (kI (y.alloc C) c r b) a FV _ _
 ·exact Qu (kI (P.alloc C) c q b) a FV _ _
theorem _d.aX {c:O} {b:S qn} {d:S Bool} {j:S O} (h:_d w0 base b0 g b2 b5 b6 bS bN k m ch no co Ao out vS vN W n5 n6 L5 L6 at_ bd) (a:_d w0 base b0 g b2 b5 b6 bS bN k m ch no co Ao out vS vN W' i f b d c j):QP bS bN W W':=λv=>
 ⟨λe=>by rw [h.rS.cell 0] at e;exact(a.rS.cell 0).trans e,λe=>by rw [h.rN.cell 0] at e;exact(a.rN.cell 0).trans e⟩
end
theorem KeepsFrom.part {W i:I} {g r:O} {j m:q'} (h:Vc W i g j m) (p:F' W g 309 l) (n:xp W b 3 1 (Z j f r) f vs):KeepsFrom B W i:=
 ⟨h.size,λk o _ a c=>by
  refine(h.heap k (jz a) ?_ ?_).trans a
  ·rintro rfl
   have q:W.heap[k]? =J (Y l 309):=p;rw [q] at a;injection a with a
   rw [<-a] at c;exact absurd c (by simp [Obj.isCells])
  ·intro e
   obtain⟨t,s,d⟩:=jV n k e;rw [a] at d;injection d with d
   rw [d] at c;exact absurd c (by simp [Obj.isCells])⟩
theorem KeepsFrom.app {W:I} {n c:O} {A:q'} {E:TypeId} (f:xp W b E 1 (Z A n c) n vs) (g:(W.alloc C).grownBy d (A.map (·.block))) (p:Addr) (u:la):KeepsFrom B W (d.setCell p u):=
 (((KeepsOthers.alloc W C).trans (KeepsOthers.of_grownBy g λj o h a=>by
  obtain⟨cs,i,e⟩:=jV (f.alloc C) j h;rw [e] at a;injection a with a
  rw [<-a];rfl)).trans (KeepsOthers.setCell d p u)).from B
theorem uT {W:I} {n k:O} {A:q'} {b:S qn} (h:vm W B A n b) (p:k<=n) (l:B<=(W:O)):UX W W A k ((b.take k).map (List.map B8)):=by
 have o:=h.len;refine⟨by rw [zH,qh];omega,λj i=> ?_⟩;obtain⟨g,xs,Ai,f,e,d,_,m,c,_,_,a⟩:=h.row (show j<n by omega);exact⟨g,_,f,e,_,d,by rw [qD,xZ,qk i,m];rfl,c,a.more l,PY a⟩
theorem uw (a:S qn) (k:O):((a.take k).map (List.map B8)).flatten=((a.take k).flatten).map B8:=by rw [List.map_flatten]
theorem rV {L:O} (a:S qn) (h: ∀x∈a,U x=L):La (a.map (List.map B8))=U a*L:=by
 unfold La;rw [<-List.map_flatten,zH,FP _ h]
theorem TH:(prog.info? 4).map (λi=>(i.zero,i.size,i.bytes))=J (some (.bool false),1,1):=AL
def aV (Q:Exit->Act->I->Prop):Exit->Act->I->Prop
 | .panic _,_,_=>False
 |e,a,w=>Q e a w
theorem DU {Q:Exit->Act->I->Prop} {e:Exit} {a:Act} (h:aV Q e a w):Q e a w:=by
 cases e<;>first|exact h|exact h.elim
def Bm (w:I) (base g k m ch q a at_:O) (i b:qn) (d:S O) (e:Ending) (w':I):Prop:=
 e=t' (e' (_i k m (vr q a b)))/\r' base w w'/\(_i k m (vr q a b)=0-> ∃Ao no co f c h,c<=at_+q/\Rdr w' base g k m ch Ao no co f c h (at_+q) (i++csV k m (vr q a b)) (d++DI at_ (xL (vr q a b))))
theorem Nz (base g k m ch q b L no co nb cb at_:O) (Ao Ab A:Option Addr) (c:O) (N6 v:S AB) (bd:S O) (w:I) (ht:Pl w) (htb:0<base) (hR:Rdr w base g k m ch Ao no co Ab nb cb at_ N6 bd) (hb:base<=(w:O)) (hr:E' w base 1 A L (v.map B8)) (hLc:L<=c) (hcm:c<=maxLen)
  (hq:k+m=q) (hce:ch+4=b) (hL:L=q*b) (k1:1<=k) (km:q<=255) (c1':1<=ch) (c2':ch<=4096) (ha:at_<=16777216) (hnb:nb<=at_) (hno:no+k*ch<=16777216) (hU:G (LR\/ ∀c∈vr q b v,Jd c=true)):
  xG 201 #[mJ g,Z A L c] w (Bm w base g k m ch q b at_ N6 v bd):=by
 have hL2:L<=1045500:=by
  have:=cN (show k+m<=255 by omega) c2'
  rw [hq,hce,<-hL] at this;exact this
 have hxl:=hr.len;have hc4:(ch:V)+4=(b:V):=M;have hce1:b<=4100:=M;have hce2:1<=b:=M;have hb1:=hR.blk;have hbA:=((hb1.alloc (Y #[mJ g] 307)).alloc (Y #[Z none 0 0] 87)).alloc (Y #[Z none 0 0] 172);have c2:=hbA.cell 2;have n2:F' (((w.alloc (Y #[mJ g] 307)).alloc (Y #[Z none 0 0] 87)).alloc (Y #[Z none 0 0] 172)) (w:O) 307 #[mJ g]:=((F'.new w _ _).alloc _).alloc _;have n5:F' (((w.alloc (Y #[mJ g] 307)).alloc (Y #[Z none 0 0] 87)).alloc (Y #[Z none 0 0] 172)) ((w:O)+1) 87 #[Z none 0 0]:=by
  have h:=(F'.new (w.alloc (Y #[mJ g] 307)) 87 #[Z none 0 0]).alloc (Y #[Z none 0 0] 172);rwa [vY] at h
 have n6:F' (((w.alloc (Y #[mJ g] 307)).alloc (Y #[Z none 0 0] 87)).alloc (Y #[Z none 0 0] 172)) ((w:O)+1+1) 172 #[Z none 0 0]:=by
  have h:=F'.new ((w (Y #[mJ g] 307)) (Y #[Z none 0 0] 87)) 172 #[Z none 0 0];rwa [vY,vY] at h
 have hBA:r' (w:O) w (((w.alloc (Y #[mJ g] 307)).alloc (Y #[Z none 0 0] 87)).alloc (Y #[Z none 0 0] 172)):=(((qZ _ _).alloc (qx _) _).alloc s8 _).alloc SZ _;replace hbA:=T hbA;replace n2:=T n2;replace n5:=T n5;replace n6:=T n6;replace hBA:=T hBA;have KChk:=T (λW=>bH A L c b W hce2);have HQ:=T hq;have HCE:=T hce;have HL:=T hL;have HR:=T hR;have HRD:=T hr;have HT:=T ht;have HB:=T hb;clear hq hce hL hR hr ht hxl;refine(Qz (n:=5)).1 (callsIn_of_wp_marks func201 rfl trivial ?_ rfl);simp only [ntmps201,xd,qf,zF,Nat.reduceAdd,Nat.reduceSub,ya,yA,QI,yI,xY,Qy];refine wpIn_wide.2 ?_;refine Code.wp_mono (Q:=aV (bodyPostM Fence.wide 5 prog f201 (Bm w base g k m ch q b at_ N6 v bd))) (λe a w h=>DU h) ?_
 go_wp2_with fail;generalize hw3:((w.alloc (Y #[mJ g] 307)).alloc (Y #[Z none 0 0] 87)).alloc (Y #[Z none 0 0] 172)=t at*
 replace hw3:=T hw3;refine(KChk.out _).mono ?_;rintro e w4 ⟨rfl,rfl⟩;clear c2 KChk
 go_wp2_with fail;have hw3s:(w:O)<=(t:O):=hBA.size;obtain⟨z,G'⟩: ∃z,(t (Y #[Z A L c] 30)) (Y #[b] 3)=z:=⟨_,rfl⟩;have O':r' t t z:=by rw [<-G'];exact((qZ _ _).alloc (qx _) _).alloc s8 _
 have hB4w:r' (w:O) w z:=zX hBA O';have hs4:(t:O)+2=(z:O):=by rw [<-G'];simp
 have rS4:F' z t 30 #[Z A L c]:=by
  rw [<-G'];exact(F'.new t 30 #[Z A L c]).alloc (Y #[b] 3)
 have rN4:F' z ((t:O)+1) 3 #[b]:=by
  have h:=F'.new (t (Y #[Z A L c] 30)) 3 #[b];rw [vY,G'] at h;exact h
 have q1:=rS4.cell 0;have q2:=rN4.cell 0;have hI0:_d w base z g (w:O) ((w:O)+1) ((w:O)+1+1) t ((t:O)+1) k m ch no co Ao N6 (Z A L c) b z 0 0 [] [] (at_+0) (bd++DI at_ []):=by
  refine⟨n2.below O' n2.lt,⟨none,0,n5.below O' n5.lt,zM.nil _ _ _ (qp _) (qx _)⟩,⟨none,0,n6.below O' n6.lt,qP _ _ _ _⟩,⟨Ab,nb,cb,hnb,λe=>by have:=Fp HR.ob _ e;omega, ?_⟩,hB4w.mono HB,M,M,rS4,rN4,M,M,M⟩
  have:bd++DI at_ []=bd:=by simp [DI]
  rw [this];exact HR.below hB4w
 rw [G'];have hW4s:(w:O)<=(z:O):=hB4w.size;replace hI0:=T hI0;replace G':=T G';replace O':=T O';replace hB4w:=T hB4w;clear n2 n5 n6 hbA hBA rS4 rN4;obtain⟨i1,hi_,hy0,hy1,hy2⟩:=qA Zz;replace hi_:=T hi_;replace hy0:=T hy0;replace hy1:=T hy1;replace hy2:=T hy2;obtain⟨i3,hk,hw0,hw1,hw2⟩:=qA TH;replace hk:=T hk;replace hw0:=T hw0;replace hw1:=T hw1;replace hw2:=T hw2;refine(wpIn_wide (n:=4)).1 ?_;refine wpIn_rangeFunc_ownG (F:=Fence.wide) (n:=4) rfl M (gf:=99) (lb:= #[mJ t,mJ ↑((t:O)+1)]) rfl trivial (enters_of func99 AL rfl)
  (aQ Fence.wide 3 trivial rfl M t ((t:O)+1) A L c b q HL hce2 hLc M z q1 q2 M M) (λh k=>QP.trans h k) (λW l o o' h1 h2 h3 h4=>QP.put _ _ W l o o' h1 h2 h3 h4) (qZ _ _) (λ_=>rfl)
  (λ(s:S (Fin q)) W=>_d w base z g (w:O) ((w:O)+1) ((w:O)+1+1) t ((t:O)+1) k m ch no co Ao N6 (Z A L c) b W (U s) (U s) (s.map λx=>vR (yY v b x.val)) (s.map λx=>Jd (yY v b x.val)) (at_+U s) (bd++DI at_ (s.map λx=>Jd (yY v b x.val))))
  (λ_ _ _=>False)
  (λs W W' row h hh hr=>h.aJ (qv HB hW4s) hh hr)
  (λ_ _ _ _ _ hs _ _=>hs)
  hI0.out
  (λx=>{tmps:= #[mJ g,Z A L c,mJ (w:O),undef,e' 0,mJ ↑((w:O)+1),mJ ↑((w:O)+1+1),Qc A b x.val,undef,undef,undef,undef,undef,undef,Z A L c,mJ g,mJ g,mJ g,mJ (some ⟨g,2,none⟩),e' ch,e' b,dY t ((t:O)+1),Qc A b x.val,undef,undef,undef,undef,undef,undef,undef,undef,undef,undef,undef,undef,undef,undef,undef,undef,undef,undef,undef,undef,undef,undef,undef,undef,undef,undef,undef,undef,undef,undef,undef,undef,undef,undef,undef,undef,undef,undef,undef,undef,undef,undef,undef,undef,undef,undef,undef,undef,undef,undef,undef,undef,undef,undef,undef,undef,undef,undef,undef,undef,undef,undef,undef,undef,undef,undef,undef,undef,undef,undef],defers:=[]}) ?assign ?body ?done ?stop
 case assign=>
  intro l x W K d
  gi_wp2
  exact d
 case body=>
  rintro l s x W hI ck;have hJ:=T hI;obtain⟨E,⟨P,c5,h5,R⟩,⟨cL,cB,h6,d'⟩,⟨Ab,nb,cb,hnb,hne,H⟩,cK,q5,q6,-,-,-,-,-⟩:=hI;have hs0:=hJ.out.BN;have hsz:=hJ.size;obtain⟨Ax,hAx⟩: ∃Ax,A.map (·.add (x.val*b))=Ax:=⟨_,rfl⟩;have hx:Qc A b x.val=Z Ax b b:=by unfold Qc;rw [hAx]
  have hxq:(x.val+1)*b<=L:=by rw [HL.out];exact zk _ x.isLt
  have hRx:E' W (W:O) 1 Ax b ((yY v b x.val).map B8):=by
   rw [<-hAx];exact((HRD.below cK).more hsz).chunk hxq
  have hBl:U (yY v b x.val)=b:=hRx.len;have KP:=O4 base g k m ch no co nb cb (at_+U s) Ao Ab Ax b b N6 (yY v b x.val) _ W (HT.below cK htb) H hsz hRx (qx _) SJ M M hnb;simp only [hx];generalize hBx:yY v b x.val=B at*
  have hvl:U (vR B)<=ch:=Cq (by rw [hBl];exact HCE.symm)
  unfold av at KP;generalize ih:vR B=cY at*
  generalize hG:Jd B=ln at*
  obtain⟨lv,hlv⟩: ∃lv,U cY=lv:=⟨_,rfl⟩;rw [hlv] at KP hvl;have c2:=E.cell 0;replace E:=T E;replace h5:=T h5;replace R:=T R;replace h6:=T h6;replace d':=T d';replace H:=T H;replace cK:=T cK;replace KP:=T KP;replace hRx:=T hRx;replace ih:=T ih;replace hG:=T hG;replace hBx:=T hBx;replace hlv:=T hlv;clear hx hAx
  gi_wp2
  refine⟨trivial,(CallsIn.inRound l (Qz.2 KP)).mono ?_⟩;rintro e W1 ⟨Ap,cp,Ab',nb',cb',rfl,hp,hd1,hn1,hB1,hK1⟩;have J':=_d.part hJ H hne hd1 hn1 hB1 hK1;have hKF:=KeepsFrom.part (B:=(z:O)) hK1 H.blk H.ob;have hp1:=qi hp hs0;have hCK:QP t ((t:O)+1) W W1:=_d.aX hJ J';clear hd1 hp hB1 hK1 KP E h5 R h6 d' H c2;obtain⟨P,c5,k5,k5'⟩:=J'.r5;obtain⟨⟨vs,v1,v2,v3⟩,-,-⟩:=k5';obtain⟨cL,cB,k6,k6'⟩:=J'.r6;have hs1:=J'.BN;have c5':=k5.cell 0;replace k5:=T k5;replace v1:=T v1;replace v2:=T v2;replace v3:=T v3;replace k6:=T k6;replace k6':=T k6';replace J':=T J';replace hKF:=T hKF;replace hp1:=T hp1;replace hCK:=T hCK;have hpl:U s+1<=256:=M;have hc1:U s+1<=maxLen:=SJ;have hc2:(U s+1)*24<=140737488355328:=M;have hc3:(U s+1)*1<=140737488355328:=M;have hbs:(z:O)<=(W1.alloc (Y #[Z Ap lv cp] 30):O):=qv hs1 s8
  gi_wp2_with (first|(gi_at_builtin;refine wpListIn_append_own _ rfl _ _ 87 rfl z 30 i1 (Z none 0 0) 1 24 jr hi_.out hy0.out hy1.out hy2.out rfl FV _ _ _ rfl (v1.out.alloc _) W1 1 1 [Z Ap lv cp] rfl rfl (cell_one_new _ _ _) (by simp [Value.oneCell']) hc1 hc2 hbs ?_;intro v' w2 ho2 z' _;obtain⟨I',N9,rfl⟩:=ownsRow_succ ho2;have hg2':(W1.alloc (Y #[Z Ap lv cp] 30)).grownBy w2 (P.map (·.block)):=(jH P (U s) c5)▸z';replace z':=hg2';have N':=_d.LD J'.out k5.out v1.out v2.out v3.out hlv.out hp1.out ho2 z';have hKF2:=T (hKF.out.trans (KeepsFrom.app (B:=(z:O)) v1.out z' ↑((w:O)+1) (Z I' (U s+1) N9)));have cc5:=N'.1.cell 0;have ff5:=N'.1.frozen 0;have hJ2:=T N'.2;have k6w:=xQ (k6.out.alloc (Y #[Z Ap lv cp] 30)) (v1.out.alloc _) FV z';have c6c:=k6w.cell 0;have k6s:=T (Qu k6w N'.1 FV 0 (Z I' (U s+1) N9));have v6s:=T (jw (Zt (k6'.out.alloc (Y #[Z Ap lv cp] 30)) (v1.out.alloc _) FV z') N'.1 FV 0 (Z I' (U s+1) N9));have c6d:=k6s.out.cell 0;have hbs2:(z:O)<=((w2.setCell ↑(w.heap.size+1) (Z I' (U s+1) N9)) (Y #[.bool ln] 4):O):=qv hJ2.out.BN s8;replace hbs2:=T hbs2;have hcn:G (∀(j:O) (u:la),[Value.bool ln][j]? =some u->i' ((w2.setCell ↑((w:O)+1) (Z I' (U s+1) N9)) (Y #[.bool ln] 4)) (((w2:O):Addr).add j)=some u):=(λj u hu=>by have h:=cell_one_new (w2.setCell ↑((w:O)+1) (Z I' (U s+1) N9)) (.bool ln) 4 j u hu;rwa [zO] at h);clear N' ho2 z' hg2' v1 v2 v3 k5 k6 k6' k6w)|(gi_at_builtin;refine wpListIn_append_own _ rfl _ _ 172 rfl z 4 i3 (.bool false) 1 1 underlying172 hk.out hw0.out hw1.out hw2.out rfl FV _ _ _ rfl (v6s.out.alloc _) w2 1 1 [.bool ln] rfl rfl hcn.out (by simp [Value.oneCell']) hc1 hc3 hbs2.out ?_;intro v'' C ho5 hg5 _;obtain⟨g6',cap6,rfl⟩:=ownsRow_succ ho5;have hg5':((w2.setCell ↑((w:O)+1) (Z I' (U s+1) N9)) (Y #[.bool ln] 4)).grownBy C (cL.map (·.block)):=(jH cL (U s) cB)▸hg5;have hA6:=_d.Ia hJ2.out k6s.out v6s.out ho5 hg5';have hKF3:=T (hKF2.out.trans (KeepsFrom.app (B:=(z:O)) v6s.out hg5' ↑((w:O)+1+1) (Z g6' (U s+1) cap6)));have cc6:=hA6.1.cell 0;have ff6:=hA6.1.frozen 0;have hJ3:=T hA6.2;clear hA6 ho5 hg5 hg5' hcn hbs2 c6c c6d))
  refine⟨hKF3.out,_d.aX hJ hJ3, ?_⟩;have h3:=hJ3.out;simp only [qK,zJ,qg,jy,xB];rw [hBx.out,ih.out,hG.out,BW,zH,<-jY,<-vo at_];exact h3
 case done=>
  rintro D ys W hD rfl hI d;rw [ye,aZ q (λi=>vR (yY v b i)),aZ q (λi=>Jd (yY v b i))] at hI;have OX:G (U (vr q b v)=q):=V4 ..;have hcL:G (∀x∈vr q b v,U x=ch+4):=by
   rw [Hid,HCE.out];exact uk (by rw [HRD.len];exact HL)
  have e1:(List.range q).map (λi=>vR (yY v b i))=ZY (vr q b v):=by unfold ZY vr;rw [vC];rfl
  have e2:(List.range q).map (λi=>Jd (yY v b i))=xL (vr q b v):=by unfold xL vr;rw [vC];rfl
  rw [e1,e2] at hI;clear e1 e2;generalize hcs:vr q b v=cs at*
  replace hcs:=T hcs;have hJ:=T hI;obtain⟨E,⟨P,c5,h5,R⟩,⟨cL,cB,h6,d'⟩,⟨Ab,nb,cb,hnb,hne,H⟩,cK,q5,q6,-,-,-,-,-⟩:=hI;have hDlt:D<(W:O):=jz d;have hDw:(w:O)<=D:=qv hW4s hD;have SB:G (∀cY,r' (W:O) W cY->i' cY (w:O)=J (mJ g)/\i' cY g=J (k:la)/\i' cY ⟨g,1,none⟩=J (m:la)/\cY.cell? ↑((w:O)+1)=J (Z P q c5)/\cY.cell? ↑((w:O)+1+1)=J (Z cL q cB)):=λcY ih=>
   ⟨(E.below ih E.lt).cell 0,(H.blk.below ih H.blk.lt).cell 0,(H.blk.below ih H.blk.lt).cell 1,(h5.below ih h5.lt).cell 0,(h6.below ih h6.lt).cell 0⟩
  have hS0:=SB.out W.drew (qZ _ _).drew;have p':r' (W:O) W W.drew:=(qZ _ _).drew;have hxL: ∀x∈ZY cs,U x<=1000000:=λx hx=>by
   unfold ZY at hx;obtain⟨y,hy,rfl⟩:=jB.1 hx;have:=Cq (hcL.out y hy);omega
  have KM:xG 237 #[k,m,Z P q c5,Z cL q cB] W.drew (wI W.drew (U (VG k m (ZY cs) (xL cs))) (VG k m (ZY cs) (xL cs)) (Zm k m (ZY cs) (xL cs))):=by
   rcases hU.out with hM|hU
   ·exact hM k m q P cL c5 cB _ _ W.drew HQ k1 km (R.below p').XB (E'.zY (qG d' p')) hxL
   ·have hh:=qqf hU
    rw [OX.out] at hh;exact Lm k m q P cL c5 cB _ _ W.drew HQ k1 km (R.below p').XB (E'.zY (qG d' p')) hxL (by unfold kB;rw [hh];exact qqx (by have:=HQ.out;omega)) (by have h:=bT hcL.out;rwa [OX.out] at h) (by rw [hh,yS];have:=HQ.out;omega)
  clear hxL;have hme:=UP k1 HQ km OX hcL.out;have hmv:=T (λh0=>eD k1 HQ km OX hcL h0);have M':_i k m cs=if Zm k m (ZY cs) (xL cs)=0 then(if Ff (k+m) (xL cs) (ZY cs) (VG k m (ZY cs) (xL cs))=true then 2 else 0) else Zm k m (ZY cs) (xL cs):=rfl
  have hcV:csV k m cs=((VG k m (ZY cs) (xL cs)).take k).flatten:=rfl;have hgl:G (U (xL cs)=q):=by rw [Hid,Pu];exact OX.out
  have hpl:G (U (ZY cs)=q):=by rw [Hid,Up];exact OX.out
  have hpL:G (∀x∈ZY cs,U x<=4096):=λx hx=>by
   unfold ZY at hx;obtain⟨y,hy,rfl⟩:=jB.1 hx;have:=Cq (hcL.out y hy);omega
  generalize VG k m (ZY cs) (xL cs)=cY at*
  generalize Zm k m (ZY cs) (xL cs)=er at*
  unfold wI at KM;replace M':=T M';replace hcV:=T hcV;replace KM:=T KM;replace E:=T E;replace h5:=T h5;replace R:=T R;replace h6:=T h6;replace d':=T d';replace H:=T H;replace cK:=T cK;replace p':=T p';replace d:=T d;by_cases he:er=0
  focus
   subst he
   have hmv0:=hmv.out rfl;obtain⟨hVn,hVl⟩:=hmv0;rw [hVn] at KM;rw [qk rfl] at M';have VN:=T hVn;have VL:=T hVl;clear hme hmv hVn hVl;generalize ZY cs=PA at*
   generalize hGO:xL cs=GO at*
   replace hGO:=T hGO
  rotate_left
  focus
   have e1:(er==(0:V))=false:=by simp [he]
   have e2:(er !=(0:V))=true:=by simp [he]
   have hcE2:G (_i k m cs=er):=by rw [Hid,M'.out,qJ he]
   clear hme hmv M' hcV
  rotate_left
  all_goals
   go_wp2_with fail;refine zv 18 (λcY=>i' cY (w:O)=J (mJ g)/\i' cY g=J (k:la)/\i' cY ⟨g,1,none⟩=J (m:la)/\cY.cell? ↑((w:O)+1)=J (Z P q c5)/\cY.cell? ↑((w:O)+1+1)=J (Z cL q cB)) AL hS0 (λm'=> ?_)
   refine zq [0,1,2,3,4,5] (a':= ?_) ?_;refine zq [6,7,8,9,10,11] (a':= ?_) ?_;refine IA 12 rfl AL SQ (λK d=> ?_);go_simp
  focus (go_at_call 237;((with_reducible refine KM.out.mono ?_);rintro e C ⟨Ay,cy,rfl,hl5,hB5⟩);have N:=T (zX p'.out hB5);have HY5:=T hl5;clear hB5 hl5)
  rotate_left
  focus (go_at_call 237;((with_reducible refine KM.out.mono ?_);rintro e C ⟨Ay,cy,rfl,hl5,hB5⟩);have N:=T (zX p'.out hB5);clear hB5 hl5)
  rotate_left
  all_goals
   refine d _ _ ((SB.out _ N)) (λm'=> ?_);clear d K;try simp only [Act.put,qQ,qY,qV]
   refine zq [13,14,15,16,17] (a':= ?_) ?_;refine zV AL ?_ _
  ·have SB5:G (∀cY,r' C C cY->i' cY (w:O)=J (mJ g)/\i' cY g=J (k:la)/\i' cY ⟨g,1,none⟩=J (m:la)/\cY.cell? ↑((w:O)+1)=J (Z P q c5)/\cY.cell? ↑((w:O)+1+1)=J (Z cL q cB)):=λcY ih=>SB.out cY (zX N ih);have HL5:=T (R.below N);have HF5:=T (qG d' N);have U':=T (H.below N);have HBw5:=T (cK.trans (N.mono (qv HB (qv hDw (zr hDlt)))));have hK5:G (C.heap[D]? =J (.deferred (some []))):=(N.block D hDlt).trans d.out;have R5:=T (E.below N E.lt);clear m' SB hS0 R d' H cK d KM N h5 h6 E
   go_wp2_with fail;go_loopw [58] (λv58 wr=> ∃(x:O),v58=(x:la)/\x<=q/\G (∀y,y<x->GO.getD y false=true->cY.getD y []=PA.getD y [])/\G (Dr C wr)) (λv58 _=>q-(intOf v58).toNat)
   case atStart=>exact⟨0,rfl,qp _,λy hy=>M,Dr.refl _⟩
   case round=>
    obtain⟨x,rfl,hxq,HX,iL⟩:=hrel;by_cases ck:x<q
    ·have hlt':(x:V)<(q:V):=M
     have hx0:(0:V)<=(x:V):=M;have qj:r' C C wr:=iL.below _;obtain⟨ad1,ys,A1,n1,c1,hA1,-,hys,hc1,-,-,hr1⟩:=(iL.out.XB HY5.out.XB).row ck;obtain⟨ad2,zs,A2,n2,c2,hA2,-,hzs,hc2,-,-,E⟩:=(iL.out.XB HL5.out.XB).row ck;obtain⟨ad3,u,hA3,-,hu,hc3⟩:=(E'.zY (iL.own HF5)).at_ ck;rw [qD,qX (by rw [hgl.out];exact ck)] at hu
     have hu':Value.bool (GO[x]'(by rw [hgl.out];exact ck))=u:=by simpa using hu
     have hGx:GO.getD x false=GO[x]'(by rw [hgl.out];exact ck):=by rw [qd,qX (by rw [hgl.out];exact ck)];rfl
     obtain⟨f,hf⟩: ∃f,GO[x]'(by rw [hgl.out];exact ck)=f:=⟨_,rfl⟩
     rw [hf] at hu' hGx;subst hu';subst hA1 hA2 hA3;obtain⟨k0,k1',k2,k3,k4⟩:=SB5.out wr qj;have hV1:cY.getD x []=ys:=by rw [qd,hys];rfl
     have hP1:PA.getD x []=zs:=by rw [qd,hzs];rfl
     have hn1:n1<=1000000000000:=by
      have:=hr1.len;have:=VL.out ys (zQ hys);omega
     have hn2:n2<=1000000000000:=by
      have h1:=E.len;have h2:=hpL.out zs (zQ hzs);omega
     have KE:=T (bG A1 A2 n1 n2 c1 c2 _ _ ys zs wr hr1 E hn1 hn2);replace hys:=T hys;replace hzs:=T hzs;replace hGx:=T hGx;replace hV1:=T hV1;replace hP1:=T hP1;clear hu hf hr1 E qj;cases f
     ·clear KE
      go_wp2_with fail;go_roundw
      case rel=>
       refine⟨x+1,by go_num,M,λy hy hh=> ?_,iL⟩
       by_cases h:y<x
       ·exact HX y h hh
       ·have:y=x:=M
        subst this;rw [hGx.out] at hh;cases hh
      case measure=>simp [intOf];omega
     ·by_cases hyz:ys=zs
      ·rw [qw hyz] at KE
       go_wp2_with fail;refine KE.mono ?_;rintro e w6 ⟨rfl,hD6⟩;have HD6:=T (iL.trans hD6);clear KE hD6
       go_wp2_with fail;go_roundw
       case rel=>
        refine⟨x+1,by go_num,M,λy hy hh=> ?_,HD6⟩
        by_cases h:y<x
        ·exact HX y h hh
        ·have:y=x:=M
         subst this;rw [hV1.out,hP1.out];exact hyz
       case measure=>simp [intOf];omega
      ·rw [qc hyz] at KE
       have h2:=M'.out;rw [qk (Sg (by rw [HQ.out];exact ck) hGx.out (by rw [hV1.out,hP1.out];exact hyz))] at h2
       replace h2:=T h2
       go_wp2_with fail;refine KE.mono ?_;rintro e w6 ⟨rfl,hD6⟩;have HD6:=iL.trans hD6;have S':r' C C w6:=HD6.below _;have D':w6.heap[D]? =J (.deferred (some [])):=(S'.block D (jz hK5)).trans hK5.out;have hb5:base<=(C:O):=qv U'.ge (zr U'.blk.lt);have hBW6:=T (HBw5.trans (S'.mono hb5));replace D':=T D';clear KE hD6 HD6 S'
       go_wp2_with fail;refine⟨s8, .inl ⟨_,_,rfl,run_takeDeferred D', ?_⟩⟩
       refine⟨_,results_tmp rfl _ _ _, ?_⟩;unfold Bm;rw [hcs.out,h2.out];refine⟨rfl, ?_,λh=>absurd h FV⟩;exact hBW6.trans (belowK_b (w:=w) HB w6 D _ _ hDw D' rfl rfl)
    ·have hge: ¬(x:V)<(q:V):=M
     obtain rfl:x=q:=M;have hE0:G (_i k m cs=0):=by
      have h2:=M'.out;rw [mY (λy hy hh=>HX.out y (by rw [<-HQ.out];exact hy) hh)] at h2
      exact h2
     have qj:r' C C wr:=iL.below _;have hb5:base<=(C:O):=qv U'.ge (zr U'.blk.lt);obtain⟨iv,hW7⟩: ∃iv,iv=wr:=⟨_,rfl⟩;subst hW7;have HD7:=T (U'.below qj);have R7:=T (R5.below qj R5.lt);have HY7:=HY5.below qj;have HBw7:=T (HBw5.trans (qj.mono hb5));have hK7:G (iv.heap[D]? =J (.deferred (some []))):=(qj.block D (jz hK5)).trans hK5.out;have hb7:base<=(iv:O):=qv hb5 qj.size;have SB7:G (∀cY,r' iv iv cY->i' cY (w:O)=J (mJ g)/\i' cY ⟨g,3,none⟩=J (Z Ao no co)/\i' cY g=J (k:la)):=λcY ih=>⟨(R7.below ih R7.lt).cell 0,(HD7.blk.below ih HD7.blk.lt).cell 3,(HD7.blk.below ih HD7.blk.lt).cell 0⟩;have Y':r' iv iv iv.drew:=(qZ _ _).drew;have hS7:=SB7.out _ Y';have hkx:k<=x:=by have:=HQ.out;omega
     have hcap:=HY7.cap.1;have hkc:(k:V)<=(cy:V):=M;have hk0:(0:V)<=(k:V):=M;have hVk: ∀y∈cY.take k,U y=ch:=λy hy=>VL.out y (j2 hy);have htl:U (cY.take k)=k:=by rw [qh,VN.out];omega
     have htot:La ((cY.take k).map (List.map B8))=k*ch:=by rw [rV _ hVk,htl]
     have KC:=Dq Ay k cy ((cY.take k).map (List.map B8)) iv.drew M (by rw [htot];omega) (uT (HY7.below Y').XB hkx (qx _))
     rw [htot,uw] at KC;rw [<-hcV.out] at KC;generalize hM:k*ch=uK at*
     replace hM:=T hM;replace KC:=T KC;obtain⟨i0,hi,hz0,hz1,hz2⟩:=qA xR;replace hi:=T hi;replace hz0:=T hz0;replace hz1:=T hz1;replace hz2:=T hz2;have hm1:no+uK<=maxLen:=SJ;have hm2:(no+uK)*1<=140737488355328:=M;replace Y':=T Y';clear HX iL hVk htl htot HY7 qj U' R5 HY5 HBw5 hK5 SB5 HL5 HF5
     go_wp2_with fail;refine zv 14 (λcY=>i' cY (w:O)=J (mJ g)/\i' cY ⟨g,3,none⟩=J (Z Ao no co)/\i' cY g=J (k:la)) AL hS7 (λm'=> ?_)
     refine zq [0,1,2,3,4,5] (a':= ?_) ?_;refine zq [6,7,8,9,10,11] (a':= ?_) ?_;refine IA 12 rfl AL SQ (λK d=> ?_);go_simp
     (go_at_call 53;((with_reducible refine KC.out.mono ?_);rintro e w8 ⟨Ac,cc,rfl,ho8,hB8⟩);have P':=T (zX Y'.out hB8);have HO8:=T ho8;have X:=T (HD7.out.below P'.out);have R8:=T (R7.out.below P'.out R7.out.lt);have hb8:base<=(w8:O):=qv hb7 P'.out.size;clear ho8 hB8)
     refine d _ _ ((SB7.out _ P')) (λm'=> ?_);clear d K;try simp only [Act.put,qQ,qY,qV]
     refine QY 13 rfl AL (λK d=> ?_)
     (refine jm _ SQ _ _ _ SQ base 5 i0 (gR 0) 1 1 qu hi hz0 hz1 hz2 rfl M Ao no co _ SQ X.oo w8 Ac uK cc _ SQ (E'.zY HO8) (PY (E'.zY HO8)) hm1 hm2 hb8 ?_;intro A3 c3 w9 ho9 X' _hs9;have u':F' w9 g 309 _:=g_ X.blk X.oo FV X';have k9:=xQ R8 X.oo FV X')
     refine d _ _ (⟨k9.cell 0,u'.cell 3,u'.cell 0⟩) (λm'=> ?_);clear d K;try simp only [Act.put,qQ,qY,qV]
     have kf9:=u'.frozen 3;refine j4 14 rfl AL FV SQ (λK d=> ?_);go_simp;refine d _ _ ?_;clear d K;try simp only [Act.put,qQ,qY,qV]
     refine j4 15 rfl AL FV SQ (λK d=> ?_);go_simp;refine d _ _ ?_;clear d K;try simp only [Act.put,qQ,qY,qV]
     refine j4 16 rfl AL FV SQ (λK d=> ?_);go_simp;refine d _ _ ?_;clear d K;try simp only [Act.put,qQ,qY,qV]
     refine zV AL ?_ _;have hK8:w8.heap[D]? =J (.deferred (some [])):=(P'.block D (jz hK7)).trans hK7.out;have hK9:w9.heap[D]? =J (.deferred (some [])):=(X'.block D (jz hK8) (λe=>by
      obtain⟨cs',fr,hc⟩:=jV X.oo D e.symm;rw [hK8] at hc;cases hc)).trans hK8
     have Z':(w9.setCell ⟨g,3,none⟩ (Z A3 (no+uK) c3)).heap[D]? =J (.deferred (some [])):=(jT w9 ⟨g,3,none⟩ _ D (λe=>by
      have hb':w9.heap[g]? =J (Y _ _ _):=u';rw [show D=g from e,hb'] at hK9;cases hK9)).trans hK9
     have hB9:r' base w w9:=zG (HBw7.trans (P'.mono hb7)) X' X.oo hb8;have hB10:=T (hB9.setCell (p:=⟨g,3,none⟩) X.ge (Z A3 (no+uK) c3));have Q':Rdr (w9.setCell ⟨g,3,none⟩ (Z A3 (no+uK) c3)) base g k m ch A3 (no+uK) c3 Ab nb cb (at_+x) (N6++csV k m cs) (bd++DI at_ GO):=by
      refine⟨u'.zh 3 _,X.ge, ?_,Xr (uR X.ob X.oo FV X') u' FV _⟩;rw [qg];exact Xr ho9 u' FV _
     replace Z':=T Z';replace Q':=T Q';clear m' hS7 hK8 hK9 hB9 ho9 X' _hs9 u' k9 kf9 KC SB7
     go_wp2_with fail;refine⟨s8, .inl ⟨_,_,rfl,run_takeDeferred Z', ?_⟩⟩
     refine⟨_,results_tmp rfl _ _ _, ?_⟩;unfold Bm;rw [hcs.out,hE0.out,hGO.out];have hKA:J0 (w9.setCell ⟨g,3,none⟩ (Z A3 (no+uK) c3)) ((w9.setCell ⟨g,3,none⟩ (Z A3 (no+uK) c3)).putObj D (.deferred none)):=J0.Gq (grownBy_putObj' _ D _) (λr e=>by cases e;exact⟨_,Z'.out,rfl⟩)
     refine⟨rfl,hB10.trans (belowK_b (w:=w) HB _ D _ _ hDw Z' rfl rfl),λ_=>⟨A3,no+uK,c3,Ab,nb,cb,hnb,hKA.blk Q'.blk,Q'.ge,hKA.own Q'.oo,hKA.own Q'.ob⟩⟩
  ·clear m' SB hS0
   go_wp2_with fail;have S':=N.out;have D':C.heap[D]? =J (.deferred (some [])):=(S'.block D hDlt).trans d.out;refine⟨s8, .inl ⟨_,_,rfl,run_takeDeferred D', ?_⟩⟩
   refine⟨_,results_tmp rfl _ _ _, ?_⟩;unfold Bm;rw [hcs.out,hcE2.out];refine⟨rfl, ?_,λh=>absurd h he⟩;exact(cK.trans (S'.mono (qv HB (qv hDw (zr hDlt))))).trans (belowK_b (w:=w) HB C D _ _ hDw D' rfl rfl)
 case stop=>
  rintro D c s W _ _ h _;exact h.elim
end
end
section
section
open Go.RowKit
def byC (e c:la) (k i:O) (h d a b f g:la):Array Value:= #[e,c,k,i,h,d,a,b,f,g]
def iC (W:I) (g:O) (o n:la) (k i:O) (l m p q:la) (r:V×S O×qn) (e:Ending) (c:I):Prop:=
 e=t' (e' r.1)/\qE [g] W c/\(r.1=0-> ∃j a h d b f,a=U r.2.1/\b=U r.2.2/\F' c g 174 (byC o n k i (Z j a h) (Z d b f) l m p q)/\xp c W 43 1 (Z j a h) a (r.2.1.map V64)/\xp c W 5 1 (Z d b f) b (r.2.2.map B8))
theorem aY (g n:O) (v0 X v4 cL v6 v7 cB v9:la) (k i:O) (C:q') (N z:O) (b:qn) (W:I) (ht:Pl W) (hk:F' W g 174 (byC v0 X k i v4 cL v6 v7 cB v9)) (L:E' W W 1 C N (b.map B8)) (hN:N<=100000000) (I':N<=z) (D':z<=maxLen) (hn:n<=20000):
  xG 161 #[mJ (some ⟨g,4,none⟩),n,Z C N z] W (iC W g v0 X k i v6 v7 cB v9 (Zh n b)):=by
 have H:=T (Vr C N z b W ht L I' D' M);unfold Qr at H;obtain⟨R,f⟩:=zn (Zh n b);rw [<-f];unfold Zh at f;dsimp only at f;have M':U (vR b)<=N:=by have h:=ax b;rw [L.len] at h;exact h
 have F:=T (λA c B cY hh (hV:U cY<=100000000) h uK=>CN A n (U cY) c B cY hh h uK hV hn);unfold fV at F;have w:=T (λA c B hh h uK=>F.out A c B (vR b) hh M h uK);generalize ZG n (vR b)=rc at*;obtain⟨x,ts,ls,tk⟩:=rc;dsimp only at f w;generalize vR b=cY,QH b=E at*;have D:=T hk;replace f:=T f;clear ht hk L;go_in;go_wp2_with fail;refine H.mono ?_;rintro e w1 ⟨A1,c1,rfl,qj⟩;have t:=T qj.2;have iL:=T qj.1;clear qj;by_cases a:E=0
 case neg=>
  have m:=T (f.out.trans (qk a));have G':(E==0)=false:=by simpa using a
  have z':(E !=0)=true:=by simpa using a
  replace a:=T a;go_wp2;go_ret;rw [m.out];exact⟨rfl,qE.jq t,λh=>absurd h a⟩
 subst a;have d:=f.out;rw [qJ s8] at d;replace d:=T d;have p':=T (w A1 c1 w1 w1 (E'.zY iL) (qx _));go_wp2_with fail;refine p'.mono ?_;rintro e y ⟨q,o,u,s,rfl,cK,m',d'⟩;have v:=T (t.trans (d'.mono t.size));have HT:=T (qi cK t.size);have ck:=T (qi m' t.size);clear cK m' d';by_cases a:x=0
 case neg=>
  have m:=T (d.out.trans (qk a));have G':(x==0)=false:=by simpa using a
  have z':(x !=0)=true:=by simpa using a
  replace a:=T a;go_wp2;go_ret;rw [m.out];exact⟨rfl,qE.jq v,λh=>absurd h a⟩
 subst a;have d:=d.out;rw [qJ s8] at d;by_cases u':tk<U cY
 ·have m:=T (d.trans (qk u'));have J':(tk:V)<(U cY:V):=M;clear d;go_wp2;go_ret;rw [m.out];exact⟨rfl,qE.jq v,λh=>absurd h FV⟩
 ·have m:=T (d.trans (qJ u'));have J': ¬(tk:V)<(U cY:V):=M;have j:=T (D.below v D.lt);have x4:i' y ⟨g,4,none⟩=some v4:=j.cell 4;have x5:i' y ⟨g,5,none⟩=some cL:=j.cell 5;have f4:=j.frozen 4;have f5:=j.frozen 5;have r:=j.zh 4 (Z q ts o);have y5:i' (y.setCell ⟨g,4,none⟩ (Z q ts o)) ⟨g,5,none⟩=some cL:=r.cell 5;have yf:=r.frozen 5;have P:=r.zh 5 (Z u ls s);have Q:qE [g] W ((y.setCell ⟨g,4,none⟩ (Z q ts o)).setCell ⟨g,5,none⟩ (Z u ls s)):=((qE.jq (l:=[g]) v).zh (p:=⟨g,4,none⟩) (qy.2 rfl) _).zh (p:=⟨g,5,none⟩) (qy.2 rfl) _;have ih:=jw (jw HT j FV 4 (Z q ts o)) r FV 5 (Z u ls s);have K:=jw (jw ck j FV 4 (Z q ts o)) r FV 5 (Z u ls s);revert P Q ih K;refine yb ?_;intro P Q ih K;clear d r;generalize ln:U ts=nt,iv:U ls=nl at*;replace ln:=T ln;replace iv:=T iv;go_wp2;go_ret;rw [m.out];exact⟨rfl,Q,λ_=>⟨q,nt,o,u,nl,s,ln.symm,iv.symm,P,ih,K⟩⟩
end
end
end Go.Proofs.YtfnlfpcfkbdcmaaGreatDoor
