import Derived.Test.YtfnlfpcfkbdcmaaGreatDoorL14
import Derived.Test.YtfnlfpcfkbdcmaaGreatDoorL20
set_option linter.unusedSimpArgs false
set_option linter.unusedVariables false
set_option maxRecDepth 100000
set_option maxHeartbeats 0
open Go.Proofs.Tryz
namespace Go.Proofs.YtfnlfpcfkbdcmaaGreatDoor
variable {B b f i j q:Nat}{C:Obj}{d w w':World}{l:Array Value}{vs:List Value}
section
open Go.RowKit Go.Shelf
attribute [local go_sem] J4
section
def DI (a:Nat) (l:List Bool):List Nat:=((List.range l).filter λi=> !(l.getD i false)).map (a+ ·)
theorem BW (a:Nat) (l:List Bool) (g:Bool):DI a (l++[g])=DI a l++(if g=true then [] else [a+l.length]):=by
 unfold DI;rw [qK,zJ,jA,vx,qg];congr 1
 ·congr 1;apply List.filter_congr;intro i hi;have hi:=js.1 hi;rw [qd,q_ hi,<-qd]
 ·have h:(l++[g]).getD l false=g:=by rw [qd,qm (qx _),xO];rfl
  cases g with
  |false=>rw [yW (by rw [h];rfl)];rfl
  |true=>rw [yw (by rw [h];decide)];rfl
theorem BS (b:Nat) (s:qn) (a:Nat): ∀j,Yu b s (a+j)=Yu b s a++DI a ((List.range j).map λi=>Jd (yY s b (a+i)))
 |0=>by simp [DI]
 |j+1=>by
  rw [<-vo,tZ,BS b s a j,jA,qg,jY];congr 1;rw [jy,xB,BW,zH,yS]
theorem aZ {a:Type} (q:Nat) (f:Nat->a):((List.finRange q).map λx=>f x.val)=(List.range q).map f:=by
 apply zm;intro i;by_cases h:i<q
 ·rw [qD,qD,jJ h,qX (by simpa using h)];simp
 ·rw [qO SZ,qO SZ]
end
def J0 (w w':World):Prop:= ∀(k:Nat) (t:TypeId) (cs:Array Value) (a:Nat×Nat),w.heap[k]? =some (.cells cs t a)->w'.heap[k]? =some (.cells cs t a)
theorem J0.Gq {row:Option Nat} (f:w.grownBy w' row) (d: ∀r,row=some r-> ∃o:Obj,w.heap[r]? =some o/\o.isCells=false):J0 w w':=λk t cs g b=>by
 refine(f.block k (jz b) λe=> ?_).trans b;obtain⟨o,a,c⟩:=d k e.symm;rw [b] at a;injection a with a
 rw [<-a] at c;exact absurd c (by simp [Obj.isCells])
theorem J0.own {base size n c:Nat} {A:q'} {E:TypeId} {d:List Value} (f:J0 w w') (h:w.ownsRow base E size (.slice A n c) n d):w'.ownsRow base E size (.slice A n c) n d:=
 zI h λa e=>by
  obtain⟨cs,g,b⟩:=jV h _ (by rw [e];rfl)
  rw [b];exact f _ _ _ _ b
theorem J0.blk {g:Nat} {t:TypeId} {a:Array Value} (b:J0 w w') (h:Blk w g t a):Blk w' g t a:=b _ _ _ _ h
theorem zM.kept {W:World} {base n c:Nat} {A:q'} {g:List qn} (h:zM W 0 base A n c g) (r:W.heap.size<=d.heap.size) (f: ∀(E:TypeId) (size b e:Nat) (k:q') (j:List Value),(E=30\/E=5)->W.ownsRow base E size (.slice k b e) b j->d.ownsRow base E size (.slice k b e) b j):zM d 0 base A n c g:=by
 obtain⟨⟨vs,h1,h2,h3⟩,l,h0⟩:=h;refine⟨⟨vs,f _ _ _ _ _ _ (.inl rfl) h1,h2,λi xs hi=> ?_⟩,qv l r,h0⟩;obtain⟨Ai,q,t,o,m,a⟩:=h3 i _ hi;refine⟨Ai,q,t,o,m, ?_⟩;rcases a with a|a
 ·exact .inl (a.keep λp s=>absurd s (Nat.not_lt_zero _))
 ·exact .inr (f _ _ _ _ _ _ (.inr rfl) a)
section
variable {W W' : World} {g : Nat} {t E : TypeId} {cs : Array Value} {base size n c : Nat} {A : q'} {xs : List Value}
theorem jw (h:W.ownsRow base E size (.slice A n c) n xs) (f:Blk W g t cs) (k:E≠t) (j:Nat) (u:Value):(W.setCell ⟨g,j,none⟩ u).ownsRow base E size (.slice A n c) n xs:=
 zI h λa d=>by
  refine jT W ⟨g,j,none⟩ u a.block (λe=> ?_);obtain⟨m,l,b⟩:=jV h g (by rw [d];exact zo _ e)
  have i:W.heap[g]? =some (.cells cs t):=f;rw [i] at b;injection b with b
  injection b with _ b
  exact k b.symm
theorem xQ (b:Blk W g t cs) (h:W.ownsRow base E size (.slice A n c) n xs) (f:E≠t) (i:W.grownBy W' (A.map (·.block))):Blk W' g t cs:=
 b.grown i λe=>by
  obtain⟨j,k,a⟩:=jV h g e.symm;have d:W.heap[g]? =some (.cells cs t):=b;rw [d] at a;injection a with a
  injection a with _ a
  exact f a.symm
theorem Qu {c:Nat} {a:TypeId} {b:Array Value} (h:Blk W c a b) (d:Blk W g t cs) (e:a≠t) (j:Nat) (u:Value):Blk (W.setCell ⟨g,j,none⟩ u) c a b:=h.far (h.ne_ d e) u
end
structure StJ (w0:World) (base b0 g b2 b5 b6 bS bN k m ch no co:Nat) (Ao:q') (out:qn) (vS vN:Value) (W:World) (n5 n6:Nat) (L5:List qn) (L6:List Bool) (at_:Nat) (bd:List Nat):Prop where
 r2:Blk W b2 307 #[.pointer g]
 r5: ∃A5 c5,Blk W b5 87 #[.slice A5 n5 c5]/\zM W 0 b0 A5 n5 c5 L5
 r6: ∃A6 c6,Blk W b6 172 #[.slice A6 n6 c6]/\W.ownsRow b0 4 1 (.slice A6 n6 c6) n6 (L6.map Value.bool)
 rd: ∃Ab nb cb,nb<=at_/\Ab.map (·.block)≠some bN/\Rdr W base g k m ch Ao no co Ab nb cb at_ out bd
 below:Below base w0 W
 g5:base<=b5
 g6:base<=b6
 rS:Blk W bS 30 #[vS]
 rN:Blk W bN 3 #[vN]
 gS:bS<b0
 gN:bN<b0
 b00:base<=b0
section
variable {w0 W W' : World} {base b0 g b2 b5 b6 bS bN k m ch no co at_ n5 n6 : Nat} {Ao : q'} {out : qn} {vS vN : Value} {bd : List Nat} {L5 : List qn} {L6 : List Bool}
theorem StJ.aJ {row:Option Nat} (h:StJ w0 base b0 g b2 b5 b6 bS bN k m ch no co Ao out vS vN W n5 n6 L5 L6 at_ bd) (G:base<=B) (c:W.grownBy W' row) (d: ∀r,row=some r->B<=r/\ ∃o:Obj,W.heap[r]? =some o/\o.isCells=false):StJ w0 base b0 g b2 b5 b6 bS bN k m ch no co Ao out vS vN W' n5 n6 L5 L6 at_ bd:=by
 have a:=J0.Gq c λr e=>(d r e).2;obtain⟨h2,⟨D,v,h5,i⟩,⟨p,w,h6,x⟩,⟨l,y,C,E,q,b⟩,F,f,t,n,z,s,j,A⟩:=h;exact⟨a.blk h2,⟨D,v,a.blk h5,i.kept c.size λ_ _ _ _ _ _ _ u=>a.own u⟩,⟨p,w,a.blk h6,a.own x⟩,⟨l,y,C,E,q,a.blk b.blk,b.ge,a.own b.oo,a.own b.ob⟩,F.grown c (qv b.ge (zr b.blk.lt)) (λr e=>by have:=(d r e).1;omega),f,t,a.blk n,a.blk z,s,j,A⟩
theorem StJ.size (h:StJ w0 base b0 g b2 b5 b6 bS bN k m ch no co Ao out vS vN W n5 n6 L5 L6 at_ bd):base<=W.heap.size:=by
 obtain⟨d,c,e,b,_,a⟩:=h.rd;exact qv a.ge (zr a.blk.lt)
theorem StJ.BN (h:StJ w0 base b0 g b2 b5 b6 bS bN k m ch no co Ao out vS vN W n5 n6 L5 L6 at_ bd):b0<=W.heap.size:=by
 obtain⟨c,d,b,a⟩:=h.r5;exact a.bs
theorem Vc.keep {d m:q'} {j:Array Value} (h:Vc W W' g d m) (p:Blk W g 309 j) (n:W.ownsRow b 3 1 (.slice d f q) f vs) {t:TypeId} {i:Nat×Nat} {k:Nat} (a:W.heap[k]? =some (.cells l t i)) (h1:t≠309) (h2:t≠3\/d.map (·.block)≠some k):W'.heap[k]? =some (.cells l t i):=by
 refine(h.heap k (jz a) ?_ ?_).trans a
 ·rintro rfl;have o:W.heap[k]? =some (.cells j 309):=p;rw [o] at a;injection a with a;injection a with _ a;exact h1 a.symm
 ·rcases h2 with h2|h2
  ·intro e;obtain⟨s,r,c⟩:=jV n k e;rw [a] at c;injection c with c;injection c with _ c;exact h2 c
  ·exact h2
theorem StJ.part {n N Q:Nat} {A:List Nat} {l p:q'} {y:Nat} (h:StJ w0 base b0 g b2 b5 b6 bS bN k m ch no co Ao out vS vN W n5 n6 L5 L6 at_ bd) (v:Rdr W base g k m ch Ao no co l N Q at_ out bd) (u:l.map (·.block)≠some bN) (V:Rdr W' base g k m ch Ao no co p q y n out A) (S:q<=n) (x:Below base W W') (i:Vc W W' g l p):StJ w0 base b0 g b2 b5 b6 bS bN k m ch no co Ao out vS vN W' n5 n6 L5 L6 n A:=by
 have j:=v.blk;have o:=v.ob;have X:=h.BN;obtain⟨h2,⟨R,K,h5,C⟩,⟨G,L,h6,M⟩,-,T,B,I,F,O,H,D,P⟩:=h;have f: ∀{b:Nat} {t:TypeId} {cs:Array Value},Blk W b t cs->t≠309->t≠3->Blk W' b t cs:=λJ c r=>i.keep j o J c (.inl r);have s: ∀{E:TypeId} {size n' c':Nat} {A':q'} {ys:List Value},E≠309->E≠3->W.ownsRow b0 E size (.slice A' n' c') n' ys->W'.ownsRow b0 E size (.slice A' n' c') n' ys:=λc r d=>zI d λa U=>by
  obtain⟨Z,Y,z⟩:=jV d _ (by rw [U];rfl);rw [z];exact i.keep j o z c (.inl r)
 refine⟨f h2 FV FV,⟨R,K,f h5 FV FV,C.kept x.size λE _ _ _ _ _ w d=>s (by rcases w with rfl|rfl<;>decide) (by rcases w with rfl|rfl<;>decide) d⟩,⟨G,L,f h6 FV FV,s FV FV M⟩,⟨p,q,y,S,λe=> ?_,V⟩,T.trans x,B,I,f F FV FV,i.keep j o O FV (.inr u),H,D,P⟩;rcases i.row _ e with c|c
 ·exact u c
 ·omega
theorem StJ.fresh (h:StJ w0 base b0 g b2 b5 b6 bS bN k m ch no co Ao out vS vN W n5 n6 L5 L6 at_ bd) (a:Below W W W'):StJ w0 base b0 g b2 b5 b6 bS bN k m ch no co Ao out vS vN W' n5 n6 L5 L6 at_ bd:=by
 have z:=h.size;obtain⟨h2,⟨w,q,h5,e⟩,⟨j,r,h6,s⟩,⟨i,t,v,y,l,p⟩,x,d,o,b,c,n,f,u⟩:=h;exact⟨h2.below a h2.lt,⟨w,q,h5.below a h5.lt,e.below a⟩,⟨j,r,h6.below a h6.lt,qG s a⟩,⟨i,t,v,y,l,p.below a⟩,x.trans (a.mono z),d,o,b.below a b.lt,c.below a c.lt,n,f,u⟩
theorem kI {a n c:Nat} {t E:TypeId} {d:Array Value} {A:q'} {size:Nat} {g:List Value} (f:Blk W b t d) (h:W.ownsRow a E size (.slice A n c) n g) (j:b<a) (i:W.grownBy W' (A.map (·.block))):Blk W' b t d:=
 f.grown i λe=>by
  have:=(h.lt b (by rw [jH];exact e.symm)).1
  omega
theorem StJ.LD {e s z:q'} {w n:Nat} {x:qn} (h:StJ w0 base b0 g b2 b5 b6 bS bN k m ch no co Ao out vS vN W n5 n6 L5 L6 at_ bd) (h5:Blk W b5 87 #[.slice e n5 j]) (h1:W.ownsRow b0 30 1 (.slice e n5 j) n5 vs) (h2:L5.length=n5) (h3: ∀(i:Nat) (xs:qn),L5[i]? =some xs-> ∃(Ai:q') (l:Nat),vs[i]? =some (.slice Ai xs.length l)/\j8 W 0 b0 Ai l xs) (U:x.length=n) (R:W.ownsRow b0 5 1 (.slice z n w) n (x.map B8)) (r:W'.ownsRow b0 30 1 (.slice s (n5+1) q) (n5+1) (vs++[.slice z n w])) (a:(W.alloc C).grownBy W' (e.map (·.block))):
  Blk W' b5 87 #[.slice e n5 j]/\StJ w0 base b0 g b2 b5 b6 bS bN k m ch no co Ao out vS vN (W'.setCell b5 (.slice s (n5+1) q)) (n5+1) n6 (L5++[x]) L6 at_ bd:=by
 have A:=h.size;have o:=h.BN;obtain⟨G,-,⟨F,K,h6,L⟩,⟨B,M,S,V,H,f⟩,T,t,I,D,P,v,u,y⟩:=h;have d:Below W W (W.alloc C):=z8 _;have c:=h1.alloc C;have b:=xQ (h5.alloc C) c FV a;have X:=zM.Fv U ((j8.own (b0:=0) R).2.below (qp _) o d) c h2 (λi xs hi=>by
  obtain⟨Ai,l,J,O⟩:=h3 i _ hi;exact⟨_,l,J,O.below (qp _) o d⟩) (qp _) (qv o d.size) r a
 have Q:=zG (T.trans (d.mono A)) a (qi c y) (qv A d.size);refine⟨b,Qu (xQ (G.alloc C) c FV a) b FV _ _,⟨s,q, ?_, ?_⟩,⟨F,K, ?_, ?_⟩,⟨B,M,S,V,H, ?_,f.ge, ?_, ?_⟩,Q.setCell t _,t,I, ?_, ?_,v,u,y⟩
 ·exact b.zh 0 _
 ·exact X.kept (by rw [zO];exact qx _) λE _ _ _ _ _ N r=>jw r b (by rcases N with rfl|rfl<;>decide) _ _
 ·exact Qu (xQ (h6.alloc C) c FV a) b FV _ _
 ·exact jw (Zt (L.alloc C) c FV a) b FV _ _
 ·exact Qu (xQ (f.blk.alloc C) c FV a) b FV _ _
 ·exact jw (Zt (f.oo.alloc C) c FV a) b FV _ _
 ·exact jw (Zt (f.ob.alloc C) c FV a) b FV _ _
 ·exact Qu (kI (D.alloc C) c v a) b FV _ _
 ·exact Qu (kI (P.alloc C) c u a) b FV _ _
theorem StJ.Ia {d o:q'} {f:Bool} (h:StJ w0 base b0 g b2 b5 b6 bS bN k m ch no co Ao out vS vN W n5 n6 L5 L6 at_ bd) (h6:Blk W b6 172 #[.slice d n6 i]) (h1:W.ownsRow b0 4 1 (.slice d n6 i) n6 (L6.map Value.bool)) (l:W'.ownsRow b0 4 1 (.slice o (n6+1) j) (n6+1) (L6.map Value.bool++[.bool f])) (b:(W.alloc C).grownBy W' (d.map (·.block))):
  Blk W' b6 172 #[.slice d n6 i]/\StJ w0 base b0 g b2 b5 b6 bS bN k m ch no co Ao out vS vN (W'.setCell b6 (.slice o (n6+1) j)) n5 (n6+1) L5 (L6++[f]) at_ bd:=by
 have u:=h.size;obtain⟨z,⟨J,B,h5,w⟩,-,⟨x,D,I,L,A,e⟩,K,v,s,y,G,r,q,t⟩:=h;have n:Below W W (W.alloc C):=z8 _;have c:=h1.alloc C;have a:=xQ (h6.alloc C) c FV b;have M:=(w.below n).apart c FV FV (qx _) b;have H:=zG (K.trans (n.mono u)) b (qi c t) (qv u n.size);refine⟨a,Qu (xQ (z.alloc C) c FV b) a FV _ _,⟨J,B, ?_, ?_⟩,⟨o,j, ?_, ?_⟩,⟨x,D,I,L,A, ?_,e.ge, ?_, ?_⟩,H.setCell s _,v,s, ?_, ?_,r,q,t⟩
 ·exact Qu (xQ (h5.alloc C) c FV b) a FV _ _
 ·exact M.kept (by rw [zO];exact qx _) λE _ _ _ _ _ F l=>jw l a (by rcases F with rfl|rfl<;>decide) _ _
 ·exact a.zh 0 _
 ·rw [qg];exact jw l a FV _ _
 ·exact Qu (xQ (e.blk.alloc C) c FV b) a FV _ _
 ·exact jw (Zt (e.oo.alloc C) c FV b) a FV _ _
 ·exact jw (Zt (e.ob.alloc C) c FV b) a FV _ _
 ·exact Qu (kI (y.alloc C) c r b) a FV _ _
 ·exact Qu (kI (G.alloc C) c q b) a FV _ _
theorem StJ.aX {c:Nat} {b:List qn} {d:List Bool} {j:List Nat} (h:StJ w0 base b0 g b2 b5 b6 bS bN k m ch no co Ao out vS vN W n5 n6 L5 L6 at_ bd) (a:StJ w0 base b0 g b2 b5 b6 bS bN k m ch no co Ao out vS vN W' i f b d c j):QP bS bN W W':=λv=>
 ⟨λe=>by rw [h.rS.cell 0] at e;exact(a.rS.cell 0).trans e,λe=>by rw [h.rN.cell 0] at e;exact(a.rN.cell 0).trans e⟩
end
theorem KeepsFrom.part {W i:World} {g r:Nat} {j m:q'} (h:Vc W i g j m) (p:Blk W g 309 l) (n:W.ownsRow b 3 1 (.slice j f r) f vs):KeepsFrom B W i:=
 ⟨h.size,λk o _ a c=>by
  refine(h.heap k (jz a) ?_ ?_).trans a
  ·rintro rfl
   have q:W.heap[k]? =some (.cells l 309):=p;rw [q] at a;injection a with a
   rw [<-a] at c;exact absurd c (by simp [Obj.isCells])
  ·intro e
   obtain⟨t,s,d⟩:=jV n k e;rw [a] at d;injection d with d
   rw [d] at c;exact absurd c (by simp [Obj.isCells])⟩
theorem KeepsFrom.app {W:World} {n c:Nat} {A:q'} {E:TypeId} (f:W.ownsRow b E 1 (.slice A n c) n vs) (g:(W.alloc C).grownBy d (A.map (·.block))) (p:Addr) (u:Value):KeepsFrom B W (d.setCell p u):=
 (((KeepsOthers.alloc W C).trans (KeepsOthers.of_grownBy g λj o h a=>by
  obtain⟨cs,i,e⟩:=jV (f.alloc C) j h;rw [e] at a;injection a with a
  rw [<-a];rfl)).trans (KeepsOthers.setCell d p u)).from B
theorem uT {W:World} {n k:Nat} {A:q'} {b:List qn} (h:vm W B A n b) (p:k<=n) (l:B<=W.heap.size):UX W W A k ((b.take k).map (List.map B8)):=by
 have o:=h.len;refine⟨by rw [zH,qh];omega,λj i=> ?_⟩;obtain⟨g,xs,Ai,f,e,d,_,m,c,_,_,a⟩:=h.row (show j<n by omega);exact⟨g,_,f,e,_,d,by rw [qD,xZ,qk i,m];rfl,c,a.more l,row_one a⟩
theorem uw (a:List qn) (k:Nat):((a.take k).map (List.map B8)).flatten=((a.take k).flatten).map B8:=by rw [List.map_flatten]
theorem rV {L:Nat} (a:List qn) (h: ∀x∈a,x.length=L):total (a.map (List.map B8))=a.length*L:=by
 unfold total;rw [<-List.map_flatten,zH,FP _ h]
theorem TH:(prog.info? 4).map (λi=>(i.zero,i.size,i.bytes))=some (some (.bool false),1,1):=AL
def aV (Q:Exit->Act->World->Prop):Exit->Act->World->Prop
 | .panic _,_,_=>False
 |e,a,w=>Q e a w
theorem DU {Q:Exit->Act->World->Prop} {e:Exit} {a:Act} (h:aV Q e a w):Q e a w:=by
 cases e<;>first|exact h|exact h.elim
def Bm (w:World) (base g k m ch q a at_:Nat) (i b:qn) (d:List Nat) (e:Ending) (w':World):Prop:=
 e= .returned (.int .i64 (csE k m (vr q a b)))/\Below base w w'/\(csE k m (vr q a b)=0-> ∃Ao no co f c h,c<=at_+q/\Rdr w' base g k m ch Ao no co f c h (at_+q) (i++csV k m (vr q a b)) (d++DI at_ (xL (vr q a b))))
theorem Nz (base g k m ch q b L no co nb cb at_:Nat) (Ao Ab A:Option Addr) (c:Nat) (N6 v:List UInt8) (bd:List Nat) (w:World) (ht:Tab w) (htb:0<base) (hR:Rdr w base g k m ch Ao no co Ab nb cb at_ N6 bd) (hb:base<=w.heap.size) (hr:Reads w base 1 A L (v.map B8)) (hLc:L<=c) (hcm:c<=maxLen)
  (hq:k+m=q) (hce:ch+4=b) (hL:L=q*b) (k1:1<=k) (km:q<=255) (c1':1<=ch) (c2':ch<=4096) (ha:at_<=16777216) (hnb:nb<=at_) (hno:no+k*ch<=16777216) (hU:Hid (LR\/ ∀c∈vr q b v,Jd c=true)):
  Calls prog 201 #[.pointer g, .slice A L c] w (Bm w base g k m ch q b at_ N6 v bd):=by
 have hL2:L<=1045500:=by
  have:=cN (show k+m<=255 by omega) c2'
  rw [hq,hce,<-hL] at this;exact this
 have hxl:=hr.len;have hc4:(ch:Int)+4=(b:Int):=uK;have hce1:b<=4100:=uK;have hce2:1<=b:=uK;have hb1:=hR.blk;have hbA:=((hb1.alloc (.cells #[.pointer g] 307)).alloc (.cells #[.slice none 0 0] 87)).alloc (.cells #[.slice none 0 0] 172);have c2:=hbA.cell 2;have n2:Blk (((w.alloc (.cells #[.pointer g] 307)).alloc (.cells #[.slice none 0 0] 87)).alloc (.cells #[.slice none 0 0] 172)) w.heap.size 307 #[.pointer g]:=((Blk.new w _ _).alloc _).alloc _;have n5:Blk (((w.alloc (.cells #[.pointer g] 307)).alloc (.cells #[.slice none 0 0] 87)).alloc (.cells #[.slice none 0 0] 172)) (w.heap.size+1) 87 #[.slice none 0 0]:=by
  have h:=(Blk.new (w.alloc (.cells #[.pointer g] 307)) 87 #[.slice none 0 0]).alloc (.cells #[.slice none 0 0] 172);rwa [vY] at h
 have n6:Blk (((w.alloc (.cells #[.pointer g] 307)).alloc (.cells #[.slice none 0 0] 87)).alloc (.cells #[.slice none 0 0] 172)) (w.heap.size+1+1) 172 #[.slice none 0 0]:=by
  have h:=Blk.new ((w.alloc (.cells #[.pointer g] 307)).alloc (.cells #[.slice none 0 0] 87)) 172 #[.slice none 0 0];rwa [vY,vY] at h
 have hBA:Below w.heap.size w (((w.alloc (.cells #[.pointer g] 307)).alloc (.cells #[.slice none 0 0] 87)).alloc (.cells #[.slice none 0 0] 172)):=(((qZ _ _).alloc (qx _) _).alloc s8 _).alloc SZ _;replace hbA:=qj hbA;replace n2:=qj n2;replace n5:=qj n5;replace n6:=qj n6;replace hBA:=qj hBA;have KChk:=qj (λW=>bH A L c b W hce2);have HQ:=qj hq;have HCE:=qj hce;have HL:=qj hL;have HR:=qj hR;have HRD:=qj hr;have HT:=qj ht;have HB:=qj hb;clear hq hce hL hR hr ht hxl;refine(Qz (n:=5)).1 (callsIn_of_wp_marks func201 rfl trivial ?_ rfl);simp only [ntmps201,xd,qf,zF,Nat.reduceAdd,Nat.reduceSub,ya,yA,QI,yI,xY,Qy];refine wpIn_wide.2 ?_;refine Code.wp_mono (Q:=aV (bodyPostM Fence.wide 5 prog f201 (Bm w base g k m ch q b at_ N6 v bd))) (λe a w h=>DU h) ?_
 go_wp2_with fail;generalize hw3:((w.alloc (.cells #[.pointer g] 307)).alloc (.cells #[.slice none 0 0] 87)).alloc (.cells #[.slice none 0 0] 172)=t at*
 replace hw3:=qj hw3;refine(KChk.out _).mono ?_;rintro e w4 ⟨rfl,rfl⟩;clear c2 KChk
 go_wp2_with fail;have hw3s:w.heap.size<=t.heap.size:=hBA.size;obtain⟨z,G'⟩: ∃z,(t.alloc (.cells #[.slice A L c] 30)).alloc (.cells #[b] 3)=z:=⟨_,rfl⟩;have O':Below t t z:=by rw [<-G'];exact((qZ _ _).alloc (qx _) _).alloc s8 _
 have hB4w:Below w.heap.size w z:=zX hBA O';have hs4:t.heap.size+2=z.heap.size:=by rw [<-G'];simp
 have rS4:Blk z t 30 #[.slice A L c]:=by
  rw [<-G'];exact(Blk.new t 30 #[.slice A L c]).alloc (.cells #[b] 3)
 have rN4:Blk z (t.heap.size+1) 3 #[b]:=by
  have h:=Blk.new (t.alloc (.cells #[.slice A L c] 30)) 3 #[b];rw [vY,G'] at h;exact h
 have q1:=rS4.cell 0;have q2:=rN4.cell 0;have hI0:StJ w base z g w.heap.size (w.heap.size+1) (w.heap.size+1+1) t (t.heap.size+1) k m ch no co Ao N6 (.slice A L c) b z 0 0 [] [] (at_+0) (bd++DI at_ []):=by
  refine⟨n2.below O' n2.lt,⟨none,0,n5.below O' n5.lt,zM.nil _ _ _ (qp _) (qx _)⟩,⟨none,0,n6.below O' n6.lt,qP _ _ _ _⟩,⟨Ab,nb,cb,hnb,λe=>by have:=Fp HR.ob _ e;omega, ?_⟩,hB4w.mono HB,uK,uK,rS4,rN4,uK,uK,uK⟩
  have:bd++DI at_ []=bd:=by simp [DI]
  rw [this];exact HR.below hB4w
 rw [G'];have hW4s:w.heap.size<=z.heap.size:=hB4w.size;replace hI0:=qj hI0;replace G':=qj G';replace O':=qj O';replace hB4w:=qj hB4w;clear n2 n5 n6 hbA hBA rS4 rN4;obtain⟨i1,hi_,hy0,hy1,hy2⟩:=qA Zz;replace hi_:=qj hi_;replace hy0:=qj hy0;replace hy1:=qj hy1;replace hy2:=qj hy2;obtain⟨i3,hk,hw0,hw1,hw2⟩:=qA TH;replace hk:=qj hk;replace hw0:=qj hw0;replace hw1:=qj hw1;replace hw2:=qj hw2;refine(wpIn_wide (n:=4)).1 ?_;refine wpIn_rangeFunc_ownG (F:=Fence.wide) (n:=4) rfl uK (gf:=99) (lb:= #[.pointer t, .pointer ↑(t.heap.size+1)]) rfl trivial (enters_of func99 AL rfl)
  (aQ Fence.wide 3 trivial rfl uK t (t.heap.size+1) A L c b q HL hce2 hLc uK z q1 q2 uK uK) (λh k=>QP.trans h k) (λW l o o' h1 h2 h3 h4=>QP.put _ _ W l o o' h1 h2 h3 h4) (qZ _ _) (λ_=>rfl)
  (λ(s:List (Fin q)) W=>StJ w base z g w.heap.size (w.heap.size+1) (w.heap.size+1+1) t (t.heap.size+1) k m ch no co Ao N6 (.slice A L c) b W s.length s.length (s.map λx=>vR (yY v b x.val)) (s.map λx=>Jd (yY v b x.val)) (at_+s.length) (bd++DI at_ (s.map λx=>Jd (yY v b x.val))))
  (λ_ _ _=>False)
  (λs W W' row h J hr=>h.aJ (qv HB hW4s) J hr)
  (λ_ _ _ _ _ hs _ _=>hs)
  hI0.out
  (λx=>{tmps:= #[.pointer g, .slice A L c, .pointer w.heap.size,undef, .int .i64 0, .pointer ↑(w.heap.size+1), .pointer ↑(w.heap.size+1+1),Qc A b x.val,undef,undef,undef,undef,undef,undef, .slice A L c, .pointer g, .pointer g, .pointer g, .pointer (some ⟨g,2,none⟩), .int .i64 ch, .int .i64 b,dY t (t.heap.size+1),Qc A b x.val,undef,undef,undef,undef,undef,undef,undef,undef,undef,undef,undef,undef,undef,undef,undef,undef,undef,undef,undef,undef,undef,undef,undef,undef,undef,undef,undef,undef,undef,undef,undef,undef,undef,undef,undef,undef,undef,undef,undef,undef,undef,undef,undef,undef,undef,undef,undef,undef,undef,undef,undef,undef,undef,undef,undef,undef,undef,undef,undef,undef,undef,undef,undef,undef,undef,undef,undef,undef,undef,undef],defers:=[]}) ?assign ?body ?done ?stop
 case assign=>
  intro l x W K d
  gi_wp2
  exact d
 case body=>
  rintro l s x W hI Y;have hJ:=qj hI;obtain⟨E,⟨P,c5,h5,R⟩,⟨O,Z,h6,d'⟩,⟨Ab,nb,cb,hnb,hne,H⟩,U,q5,q6,-,-,-,-,-⟩:=hI;have hs0:=hJ.out.BN;have hsz:=hJ.size;obtain⟨Ax,hAx⟩: ∃Ax,A.map (·.add (x.val*b))=Ax:=⟨_,rfl⟩;have hx:Qc A b x.val= .slice Ax b b:=by unfold Qc;rw [hAx]
  have hxq:(x.val+1)*b<=L:=by rw [HL.out];exact zk _ x.isLt
  have hRx:Reads W W.heap.size 1 Ax b ((yY v b x.val).map B8):=by
   rw [<-hAx];exact((HRD.below U).more hsz).chunk hxq
  have hBl:(yY v b x.val).length=b:=hRx.len;have KP:=O4 base g k m ch no co nb cb (at_+s.length) Ao Ab Ax b b N6 (yY v b x.val) _ W (HT.below U htb) H hsz hRx (qx _) SJ uK uK hnb;simp only [hx];generalize hBx:yY v b x.val=B at*
  have hvl:(vR B).length<=ch:=Cq (by rw [hBl];exact HCE.symm)
  unfold av at KP;generalize I:vR B=V at*
  generalize hG:Jd B=G at*
  obtain⟨lv,hlv⟩: ∃lv,V.length=lv:=⟨_,rfl⟩;rw [hlv] at KP hvl;have c2:=E.cell 0;replace E:=qj E;replace h5:=qj h5;replace R:=qj R;replace h6:=qj h6;replace d':=qj d';replace H:=qj H;replace U:=qj U;replace KP:=qj KP;replace hRx:=qj hRx;replace I:=qj I;replace hG:=qj hG;replace hBx:=qj hBx;replace hlv:=qj hlv;clear hx hAx
  gi_wp2
  refine⟨trivial,(CallsIn.inRound l (Qz.2 KP)).mono ?_⟩;rintro e W1 ⟨Ap,cp,Ab',nb',cb',rfl,hp,hd1,hn1,hB1,hK1⟩;have J':=StJ.part hJ H hne hd1 hn1 hB1 hK1;have hKF:=KeepsFrom.part (B:=z.heap.size) hK1 H.blk H.ob;have hp1:=qi hp hs0;have hCK:QP t (t.heap.size+1) W W1:=StJ.aX hJ J';clear hd1 hp hB1 hK1 KP E h5 R h6 d' H c2;obtain⟨P,c5,k5,k5'⟩:=J'.r5;obtain⟨⟨vs,v1,v2,v3⟩,-,-⟩:=k5';obtain⟨O,Z,k6,k6'⟩:=J'.r6;have hs1:=J'.BN;have c5':=k5.cell 0;replace k5:=qj k5;replace v1:=qj v1;replace v2:=qj v2;replace v3:=qj v3;replace k6:=qj k6;replace k6':=qj k6';replace J':=qj J';replace hKF:=qj hKF;replace hp1:=qj hp1;replace hCK:=qj hCK;have hpl:s.length+1<=256:=uK;have hc1:s.length+1<=maxLen:=SJ;have hc2:(s.length+1)*24<=140737488355328:=uK;have hc3:(s.length+1)*1<=140737488355328:=uK;have hbs:z.heap.size<=(W1.alloc (.cells #[.slice Ap lv cp] 30)).heap.size:=qv hs1 s8
  gi_wp2_with (first|(gi_at_builtin;refine wpListIn_append_own _ rfl _ _ 87 rfl z 30 i1 (.slice none 0 0) 1 24 jr hi_.out hy0.out hy1.out hy2.out rfl FV _ _ _ rfl (v1.out.alloc _) W1 1 1 [.slice Ap lv cp] rfl rfl (cell_one_new _ _ _) (by simp [Value.oneCell']) hc1 hc2 hbs ?_;intro v' w2 ho2 z' _;obtain⟨I',N9,rfl⟩:=ownsRow_succ ho2;have hg2':(W1.alloc (.cells #[.slice Ap lv cp] 30)).grownBy w2 (P.map (·.block)):=(jH P s.length c5)▸z';replace z':=hg2';have N':=StJ.LD J'.out k5.out v1.out v2.out v3.out hlv.out hp1.out ho2 z';have hKF2:=qj (hKF.out.trans (KeepsFrom.app (B:=z.heap.size) v1.out z' ↑(w.heap.size+1) (.slice I' (s.length+1) N9)));have cc5:=N'.1.cell 0;have ff5:=N'.1.frozen 0;have hJ2:=qj N'.2;have k6w:=xQ (k6.out.alloc (.cells #[.slice Ap lv cp] 30)) (v1.out.alloc _) FV z';have c6c:=k6w.cell 0;have k6s:=qj (Qu k6w N'.1 FV 0 (.slice I' (s.length+1) N9));have v6s:=qj (jw (Zt (k6'.out.alloc (.cells #[.slice Ap lv cp] 30)) (v1.out.alloc _) FV z') N'.1 FV 0 (.slice I' (s.length+1) N9));have c6d:=k6s.out.cell 0;have hbs2:z.heap.size<=((w2.setCell ↑(w.heap.size+1) (.slice I' (s.length+1) N9)).alloc (.cells #[.bool G] 4)).heap.size:=qv hJ2.out.BN s8;replace hbs2:=qj hbs2;have hcn:Hid (∀(j:Nat) (u:Value),[Value.bool G][j]? =some u->((w2.setCell ↑(w.heap.size+1) (.slice I' (s.length+1) N9)).alloc (.cells #[.bool G] 4)).cell? ((w2.heap.size:Addr).add j)=some u):=(λj u hu=>by have h:=cell_one_new (w2.setCell ↑(w.heap.size+1) (.slice I' (s.length+1) N9)) (.bool G) 4 j u hu;rwa [zO] at h);clear N' ho2 z' hg2' v1 v2 v3 k5 k6 k6' k6w)|(gi_at_builtin;refine wpListIn_append_own _ rfl _ _ 172 rfl z 4 i3 (.bool false) 1 1 underlying172 hk.out hw0.out hw1.out hw2.out rfl FV _ _ _ rfl (v6s.out.alloc _) w2 1 1 [.bool G] rfl rfl hcn.out (by simp [Value.oneCell']) hc1 hc3 hbs2.out ?_;intro v'' C ho5 hg5 _;obtain⟨g6',cap6,rfl⟩:=ownsRow_succ ho5;have hg5':((w2.setCell ↑(w.heap.size+1) (.slice I' (s.length+1) N9)).alloc (.cells #[.bool G] 4)).grownBy C (O.map (·.block)):=(jH O s.length Z)▸hg5;have hA6:=StJ.Ia hJ2.out k6s.out v6s.out ho5 hg5';have hKF3:=qj (hKF2.out.trans (KeepsFrom.app (B:=z.heap.size) v6s.out hg5' ↑(w.heap.size+1+1) (.slice g6' (s.length+1) cap6)));have cc6:=hA6.1.cell 0;have ff6:=hA6.1.frozen 0;have hJ3:=qj hA6.2;clear hA6 ho5 hg5 hg5' hcn hbs2 c6c c6d))
  refine⟨hKF3.out,StJ.aX hJ hJ3, ?_⟩;have h3:=hJ3.out;simp only [qK,zJ,qg,jy,xB];rw [hBx.out,I.out,hG.out,BW,zH,<-jY,<-vo at_];exact h3
 case done=>
  rintro D ys W hD rfl hI d;rw [ye,aZ q (λi=>vR (yY v b i)),aZ q (λi=>Jd (yY v b i))] at hI;have OX:Hid ((vr q b v).length=q):=V4 ..;have hcL:Hid (∀x∈vr q b v,x.length=ch+4):=by
   rw [Hid,HCE.out];exact uk (by rw [HRD.len];exact HL)
  have e1:(List.range q).map (λi=>vR (yY v b i))=ZY (vr q b v):=by unfold ZY vr;rw [vC];rfl
  have e2:(List.range q).map (λi=>Jd (yY v b i))=xL (vr q b v):=by unfold xL vr;rw [vC];rfl
  rw [e1,e2] at hI;clear e1 e2;generalize hcs:vr q b v=cs at*
  replace hcs:=qj hcs;have hJ:=qj hI;obtain⟨E,⟨P,c5,h5,R⟩,⟨O,Z,h6,d'⟩,⟨Ab,nb,cb,hnb,hne,H⟩,U,q5,q6,-,-,-,-,-⟩:=hI;have hDlt:D<W.heap.size:=jz d;have hDw:w.heap.size<=D:=qv hW4s hD;have SB:Hid (∀V,Below W.heap.size W V->V.cell? w.heap.size=some (.pointer g)/\V.cell? g=some (k:Value)/\V.cell? ⟨g,1,none⟩=some (m:Value)/\V.cell? ↑(w.heap.size+1)=some (.slice P q c5)/\V.cell? ↑(w.heap.size+1+1)=some (.slice O q Z)):=λV I=>
   ⟨(E.below I E.lt).cell 0,(H.blk.below I H.blk.lt).cell 0,(H.blk.below I H.blk.lt).cell 1,(h5.below I h5.lt).cell 0,(h6.below I h6.lt).cell 0⟩
  have hS0:=SB.out W.drew (qZ _ _).drew;have p':Below W.heap.size W W.drew:=(qZ _ _).drew;have hxL: ∀x∈ZY cs,x.length<=1000000:=λx hx=>by
   unfold ZY at hx;obtain⟨y,hy,rfl⟩:=jB.1 hx;have:=Cq (hcL.out y hy);omega
  have KM:Calls prog 237 #[k,m, .slice P q c5, .slice O q Z] W.drew (wI W.drew (VG k m (ZY cs) (xL cs)).length (VG k m (ZY cs) (xL cs)) (Zm k m (ZY cs) (xL cs))):=by
   rcases hU.out with hM|hU
   ·exact hM k m q P O c5 Z _ _ W.drew HQ k1 km (R.below p').XB (Reads.zY (qG d' p')) hxL
   ·have J:=qqf hU
    rw [OX.out] at J;exact Lm k m q P O c5 Z _ _ W.drew HQ k1 km (R.below p').XB (Reads.zY (qG d' p')) hxL (by unfold vu;rw [J];exact qqx (by have:=HQ.out;omega)) (by have h:=bT hcL.out;rwa [OX.out] at h) (by rw [J,yS];have:=HQ.out;omega)
  clear hxL;have hme:=UP k1 HQ km OX hcL.out;have hmv:=qj (λh0=>eD k1 HQ km OX hcL h0);have M':csE k m cs=if Zm k m (ZY cs) (xL cs)=0 then(if Ff (k+m) (xL cs) (ZY cs) (VG k m (ZY cs) (xL cs))=true then 2 else 0) else Zm k m (ZY cs) (xL cs):=rfl
  have hcV:csV k m cs=((VG k m (ZY cs) (xL cs)).take k).flatten:=rfl;have hgl:Hid ((xL cs).length=q):=by rw [Hid,Pu];exact OX.out
  have hpl:Hid ((ZY cs).length=q):=by rw [Hid,Up];exact OX.out
  have hpL:Hid (∀x∈ZY cs,x.length<=4096):=λx hx=>by
   unfold ZY at hx;obtain⟨y,hy,rfl⟩:=jB.1 hx;have:=Cq (hcL.out y hy);omega
  generalize VG k m (ZY cs) (xL cs)=V at*
  generalize Zm k m (ZY cs) (xL cs)=er at*
  unfold wI at KM;replace M':=qj M';replace hcV:=qj hcV;replace KM:=qj KM;replace E:=qj E;replace h5:=qj h5;replace R:=qj R;replace h6:=qj h6;replace d':=qj d';replace H:=qj H;replace U:=qj U;replace p':=qj p';replace d:=qj d;by_cases he:er=0
  focus
   subst he
   have hmv0:=hmv.out rfl;obtain⟨hVn,hVl⟩:=hmv0;rw [hVn] at KM;rw [qk rfl] at M';have VN:=qj hVn;have VL:=qj hVl;clear hme hmv hVn hVl;generalize ZY cs=PA at*
   generalize hGO:xL cs=GO at*
   replace hGO:=qj hGO
  rotate_left
  focus
   have e1:(er==(0:Int))=false:=by simp [he]
   have e2:(er !=(0:Int))=true:=by simp [he]
   have hcE2:Hid (csE k m cs=er):=by rw [Hid,M'.out,qJ he]
   clear hme hmv M' hcV
  rotate_left
  all_goals
   go_wp2_with fail;refine zv 18 (λV=>V.cell? w.heap.size=some (.pointer g)/\V.cell? g=some (k:Value)/\V.cell? ⟨g,1,none⟩=some (m:Value)/\V.cell? ↑(w.heap.size+1)=some (.slice P q c5)/\V.cell? ↑(w.heap.size+1+1)=some (.slice O q Z)) AL hS0 (λm'=> ?_)
   refine zq [0,1,2,3,4,5] (a':= ?_) ?_;refine zq [6,7,8,9,10,11] (a':= ?_) ?_;refine carried 12 rfl AL SQ (λK d=> ?_);go_simp
  focus (go_at_call 237;((with_reducible refine KM.out.mono ?_);rintro e C ⟨Ay,cy,rfl,hl5,hB5⟩);have N:=qj (zX p'.out hB5);have HY5:=qj hl5;clear hB5 hl5)
  rotate_left
  focus (go_at_call 237;((with_reducible refine KM.out.mono ?_);rintro e C ⟨Ay,cy,rfl,hl5,hB5⟩);have N:=qj (zX p'.out hB5);clear hB5 hl5)
  rotate_left
  all_goals
   refine d _ _ ((SB.out _ N)) (λm'=> ?_);clear d K;try simp only [Act.put,qQ,qY,qV]
   refine zq [13,14,15,16,17] (a':= ?_) ?_;refine zV AL ?_ _
  ·have SB5:Hid (∀V,Below C C V->V.cell? w.heap.size=some (.pointer g)/\V.cell? g=some (k:Value)/\V.cell? ⟨g,1,none⟩=some (m:Value)/\V.cell? ↑(w.heap.size+1)=some (.slice P q c5)/\V.cell? ↑(w.heap.size+1+1)=some (.slice O q Z)):=λV I=>SB.out V (zX N I);have HL5:=qj (R.below N);have HF5:=qj (qG d' N);have U':=qj (H.below N);have HBw5:=qj (U.trans (N.mono (qv HB (qv hDw (zr hDlt)))));have hK5:Hid (C.heap[D]? =some (.deferred (some []))):=(N.block D hDlt).trans d.out;have R5:=qj (E.below N E.lt);clear m' SB hS0 R d' H U d KM N h5 h6 E
   go_wp2_with fail;go_loopw [58] (λv58 wr=> ∃(x:Nat),v58=(x:Value)/\x<=q/\Hid (∀y,y<x->GO.getD y false=true->V.getD y []=PA.getD y [])/\Hid (Dr C wr)) (λv58 _=>q-(intOf v58).toNat)
   case atStart=>exact⟨0,rfl,qp _,λy hy=>uK,Dr.refl _⟩
   case round=>
    obtain⟨x,rfl,hxq,HX,iL⟩:=hrel;by_cases Y:x<q
    ·have hlt':(x:Int)<(q:Int):=uK
     have hx0:(0:Int)<=(x:Int):=uK;have T:Below C C wr:=iL.below _;obtain⟨ad1,ys,A1,n1,c1,hA1,-,hys,hc1,-,-,hr1⟩:=(iL.out.XB HY5.out.XB).row Y;obtain⟨ad2,zs,A2,n2,c2,hA2,-,hzs,hc2,-,-,E⟩:=(iL.out.XB HL5.out.XB).row Y;obtain⟨ad3,u,hA3,-,hu,hc3⟩:=(Reads.zY (iL.own HF5)).at_ Y;rw [qD,qX (by rw [hgl.out];exact Y)] at hu
     have hu':Value.bool (GO[x]'(by rw [hgl.out];exact Y))=u:=by simpa using hu
     have hGx:GO.getD x false=GO[x]'(by rw [hgl.out];exact Y):=by rw [qd,qX (by rw [hgl.out];exact Y)];rfl
     obtain⟨f,hf⟩: ∃f,GO[x]'(by rw [hgl.out];exact Y)=f:=⟨_,rfl⟩
     rw [hf] at hu' hGx;subst hu';subst hA1 hA2 hA3;obtain⟨k0,k1',k2,k3,k4⟩:=SB5.out wr T;have hV1:V.getD x []=ys:=by rw [qd,hys];rfl
     have hP1:PA.getD x []=zs:=by rw [qd,hzs];rfl
     have hn1:n1<=1000000000000:=by
      have:=hr1.len;have:=VL.out ys (zQ hys);omega
     have hn2:n2<=1000000000000:=by
      have h1:=E.len;have h2:=hpL.out zs (zQ hzs);omega
     have KE:=qj (bG A1 A2 n1 n2 c1 c2 _ _ ys zs wr hr1 E hn1 hn2);replace hys:=qj hys;replace hzs:=qj hzs;replace hGx:=qj hGx;replace hV1:=qj hV1;replace hP1:=qj hP1;clear hu hf hr1 E T;cases f
     ·clear KE
      go_wp2_with fail;go_roundw
      case rel=>
       refine⟨x+1,by go_num,uK,λy hy J=> ?_,iL⟩
       by_cases h:y<x
       ·exact HX y h J
       ·have:y=x:=uK
        subst this;rw [hGx.out] at J;cases J
      case measure=>simp [intOf];omega
     ·by_cases hyz:ys=zs
      ·rw [qw hyz] at KE
       go_wp2_with fail;refine KE.mono ?_;rintro e w6 ⟨rfl,hD6⟩;have HD6:=qj (iL.trans hD6);clear KE hD6
       go_wp2_with fail;go_roundw
       case rel=>
        refine⟨x+1,by go_num,uK,λy hy J=> ?_,HD6⟩
        by_cases h:y<x
        ·exact HX y h J
        ·have:y=x:=uK
         subst this;rw [hV1.out,hP1.out];exact hyz
       case measure=>simp [intOf];omega
      ·rw [qc hyz] at KE
       have h2:=M'.out;rw [qk (Sg (by rw [HQ.out];exact Y) hGx.out (by rw [hV1.out,hP1.out];exact hyz))] at h2
       replace h2:=qj h2
       go_wp2_with fail;refine KE.mono ?_;rintro e w6 ⟨rfl,hD6⟩;have HD6:=iL.trans hD6;have S':Below C C w6:=HD6.below _;have D':w6.heap[D]? =some (.deferred (some [])):=(S'.block D (jz hK5)).trans hK5.out;have hb5:base<=C.heap.size:=qv U'.ge (zr U'.blk.lt);have hBW6:=qj (HBw5.trans (S'.mono hb5));replace D':=qj D';clear KE hD6 HD6 S'
       go_wp2_with fail;refine⟨s8, .inl ⟨_,_,rfl,run_takeDeferred D', ?_⟩⟩
       refine⟨_,results_tmp rfl _ _ _, ?_⟩;unfold Bm;rw [hcs.out,h2.out];refine⟨rfl, ?_,λh=>absurd h FV⟩;exact hBW6.trans (belowK_b (w:=w) HB w6 D _ _ hDw D' rfl rfl)
    ·have hge: ¬(x:Int)<(q:Int):=uK
     obtain rfl:x=q:=uK;have hE0:Hid (csE k m cs=0):=by
      have h2:=M'.out;rw [mY (λy hy J=>HX.out y (by rw [<-HQ.out];exact hy) J)] at h2
      exact h2
     have T:Below C C wr:=iL.below _;have hb5:base<=C.heap.size:=qv U'.ge (zr U'.blk.lt);obtain⟨S,hW7⟩: ∃S,S=wr:=⟨_,rfl⟩;subst hW7;have HD7:=qj (U'.below T);have R7:=qj (R5.below T R5.lt);have HY7:=HY5.below T;have HBw7:=qj (HBw5.trans (T.mono hb5));have hK7:Hid (S.heap[D]? =some (.deferred (some []))):=(T.block D (jz hK5)).trans hK5.out;have hb7:base<=S.heap.size:=qv hb5 T.size;have SB7:Hid (∀V,Below S S V->V.cell? w.heap.size=some (.pointer g)/\V.cell? ⟨g,3,none⟩=some (.slice Ao no co)/\V.cell? g=some (k:Value)):=λV I=>⟨(R7.below I R7.lt).cell 0,(HD7.blk.below I HD7.blk.lt).cell 3,(HD7.blk.below I HD7.blk.lt).cell 0⟩;have Y':Below S S S.drew:=(qZ _ _).drew;have hS7:=SB7.out _ Y';have hkx:k<=x:=by have:=HQ.out;omega
     have hcap:=HY7.cap.1;have hkc:(k:Int)<=(cy:Int):=uK;have hk0:(0:Int)<=(k:Int):=uK;have hVk: ∀y∈V.take k,y.length=ch:=λy hy=>VL.out y (j2 hy);have htl:(V.take k).length=k:=by rw [qh,VN.out];omega
     have htot:total ((V.take k).map (List.map B8))=k*ch:=by rw [rV _ hVk,htl]
     have KC:=Dq Ay k cy ((V.take k).map (List.map B8)) S.drew uK (by rw [htot];omega) (uT (HY7.below Y').XB hkx (qx _))
     rw [htot,uw] at KC;rw [<-hcV.out] at KC;generalize hM:k*ch=M at*
     replace hM:=qj hM;replace KC:=qj KC;obtain⟨i0,hi,hz0,hz1,hz2⟩:=qA xR;replace hi:=qj hi;replace hz0:=qj hz0;replace hz1:=qj hz1;replace hz2:=qj hz2;have hm1:no+M<=maxLen:=SJ;have hm2:(no+M)*1<=140737488355328:=uK;replace Y':=qj Y';clear HX iL hVk htl htot HY7 T U' R5 HY5 HBw5 hK5 SB5 HL5 HF5
     go_wp2_with fail;refine zv 14 (λV=>V.cell? w.heap.size=some (.pointer g)/\V.cell? ⟨g,3,none⟩=some (.slice Ao no co)/\V.cell? g=some (k:Value)) AL hS7 (λm'=> ?_)
     refine zq [0,1,2,3,4,5] (a':= ?_) ?_;refine zq [6,7,8,9,10,11] (a':= ?_) ?_;refine carried 12 rfl AL SQ (λK d=> ?_);go_simp
     (go_at_call 53;((with_reducible refine KC.out.mono ?_);rintro e w8 ⟨Ac,cc,rfl,ho8,hB8⟩);have P':=qj (zX Y'.out hB8);have HO8:=qj ho8;have X:=qj (HD7.out.below P'.out);have R8:=qj (R7.out.below P'.out R7.out.lt);have hb8:base<=w8.heap.size:=qv hb7 P'.out.size;clear ho8 hB8)
     refine d _ _ ((SB7.out _ P')) (λm'=> ?_);clear d K;try simp only [Act.put,qQ,qY,qV]
     refine QY 13 rfl AL (λK d=> ?_)
     (refine jm _ SQ _ _ _ SQ base 5 i0 (.int .u8 0) 1 1 qu hi hz0 hz1 hz2 rfl uK Ao no co _ SQ X.oo w8 Ac M cc _ SQ (Reads.zY HO8) (row_one (Reads.zY HO8)) hm1 hm2 hb8 ?_;intro A3 c3 w9 ho9 X' _hs9;have u':Blk w9 g 309 _:=g_ X.blk X.oo FV X';have k9:=xQ R8 X.oo FV X')
     refine d _ _ (⟨k9.cell 0,u'.cell 3,u'.cell 0⟩) (λm'=> ?_);clear d K;try simp only [Act.put,qQ,qY,qV]
     have kf9:=u'.frozen 3;refine j4 14 rfl AL FV SQ (λK d=> ?_);go_simp;refine d _ _ ?_;clear d K;try simp only [Act.put,qQ,qY,qV]
     refine j4 15 rfl AL FV SQ (λK d=> ?_);go_simp;refine d _ _ ?_;clear d K;try simp only [Act.put,qQ,qY,qV]
     refine j4 16 rfl AL FV SQ (λK d=> ?_);go_simp;refine d _ _ ?_;clear d K;try simp only [Act.put,qQ,qY,qV]
     refine zV AL ?_ _;have hK8:w8.heap[D]? =some (.deferred (some [])):=(P'.block D (jz hK7)).trans hK7.out;have hK9:w9.heap[D]? =some (.deferred (some [])):=(X'.block D (jz hK8) (λe=>by
      obtain⟨cs',fr,hc⟩:=jV X.oo D e.symm;rw [hK8] at hc;cases hc)).trans hK8
     have Z':(w9.setCell ⟨g,3,none⟩ (.slice A3 (no+M) c3)).heap[D]? =some (.deferred (some [])):=(jT w9 ⟨g,3,none⟩ _ D (λe=>by
      have hb':w9.heap[g]? =some (.cells _ _ _):=u';rw [show D=g from e,hb'] at hK9;cases hK9)).trans hK9
     have hB9:Below base w w9:=zG (HBw7.trans (P'.mono hb7)) X' X.oo hb8;have hB10:=qj (hB9.setCell (p:=⟨g,3,none⟩) X.ge (.slice A3 (no+M) c3));have Q':Rdr (w9.setCell ⟨g,3,none⟩ (.slice A3 (no+M) c3)) base g k m ch A3 (no+M) c3 Ab nb cb (at_+x) (N6++csV k m cs) (bd++DI at_ GO):=by
      refine⟨u'.zh 3 _,X.ge, ?_,Xr (uR X.ob X.oo FV X') u' FV _⟩;rw [qg];exact Xr ho9 u' FV _
     replace Z':=qj Z';replace Q':=qj Q';clear m' hS7 hK8 hK9 hB9 ho9 X' _hs9 u' k9 kf9 KC SB7
     go_wp2_with fail;refine⟨s8, .inl ⟨_,_,rfl,run_takeDeferred Z', ?_⟩⟩
     refine⟨_,results_tmp rfl _ _ _, ?_⟩;unfold Bm;rw [hcs.out,hE0.out,hGO.out];have hKA:J0 (w9.setCell ⟨g,3,none⟩ (.slice A3 (no+M) c3)) ((w9.setCell ⟨g,3,none⟩ (.slice A3 (no+M) c3)).putObj D (.deferred none)):=J0.Gq (grownBy_putObj' _ D _) (λr e=>by cases e;exact⟨_,Z'.out,rfl⟩)
     refine⟨rfl,hB10.trans (belowK_b (w:=w) HB _ D _ _ hDw Z' rfl rfl),λ_=>⟨A3,no+M,c3,Ab,nb,cb,hnb,hKA.blk Q'.blk,Q'.ge,hKA.own Q'.oo,hKA.own Q'.ob⟩⟩
  ·clear m' SB hS0
   go_wp2_with fail;have S':=N.out;have D':C.heap[D]? =some (.deferred (some [])):=(S'.block D hDlt).trans d.out;refine⟨s8, .inl ⟨_,_,rfl,run_takeDeferred D', ?_⟩⟩
   refine⟨_,results_tmp rfl _ _ _, ?_⟩;unfold Bm;rw [hcs.out,hcE2.out];refine⟨rfl, ?_,λh=>absurd h he⟩;exact(U.trans (S'.mono (qv HB (qv hDw (zr hDlt))))).trans (belowK_b (w:=w) HB C D _ _ hDw D' rfl rfl)
 case stop=>
  rintro D c s W _ _ h _;exact h.elim
end
end Go.Proofs.YtfnlfpcfkbdcmaaGreatDoor
