import Derived.Test.YtfnlfpcfkbdcmaaGreatDoorT24
import Derived.Test.YtfnlfpcfkbdcmaaGreatDoorT25
import Derived.Test.YtfnlfpcfkbdcmaaGreatDoorT26
set_option linter.unusedSimpArgs false
set_option linter.unusedVariables false
set_option maxRecDepth 100000
set_option maxHeartbeats 0
open Go.Proofs.Tryz
namespace Go.Proofs.YtfnlfpcfkbdcmaaGreatDoor
variable {E:TypeId}{base c n:O}
section
section
open Go.RowKit
def Bdy (W:I) (base g:O) (x:Ft):Prop:=
 ∃i a c0 t o c1 n b k q c h l d s r e m p f j u,(a=U x.dir.counts/\o=U x.dir.sizes/\b=U x.times/\c=U x.levels/\d=U x.vO/\e=U x.lists/\f=U x.JB)/\
  F' W g 174 (byC (Z i a c0) (Z t o c1) x.dir.cols x.dir.index (Z n b k) (Z q c h) (Z l d s) (Z r e m) (Z p f j) u)/\
  W.ownsRow base 3 1 (Z i a c0) a (x.dir.counts.map NV)/\xp W base 43 1 (Z n b k) b (x.times.map V64)/\xp W base 5 1 (Z q c h) c (x.levels.map B8)/\
  W.ownsRow base 9 1 (Z l d s) d (x.vO.map Lj)/\Jc W base r e m x.lists/\zM W 0 base p f j x.JB/\base<=g
theorem Bdy.below {W b:I} {g:O} {x:Ft} (h:Bdy W base g x) (a:r' W W b):Bdy b base g x:=by
 obtain⟨i,f,c0,k,r,c1,p,t,l,u,w,e,n,z,A,y,d,o,s,v,j,m,q,c,h1,h2,h3,h4,h5,h6,h7⟩:=h;exact⟨i,f,_,k,r,_,p,t,l,u,w,e,n,z,A,y,d,o,s,v,j,m,q,c.below a c.lt,qG h1 a,qG h2 a,qG h3 a,qG h4 a,h5.below a,h6.below a,h7⟩
theorem Dg (W:I) (g B d c0:O) (f:q') (b:S O) (h:i' W g=J (Z f d c0)) (c:E' W B 1 f d (b.map NV)) (l:d<=100000) (j: ∀x∈b,x<=10000000):
  xG 162 #[mJ g] W λe k=>e=t' b.sum/\W=k:=by
 have i:=c.len;have a:=Z8 f c0 B b W (by rw [i];exact c) M j;rw [i] at a;replace a:=T a;generalize b.sum=s at*;clear c j i;go_in;go_wp2_with fail;refine Ω a ?_;go_wp2;go_ret;exact⟨rfl,rfl⟩
theorem Gi (W:I) (g B a c0 k:O) (d:q') (b:S O) (h:i' W g=J (Z d a c0)) (f:E' W B 1 d a (b.map NV)) (z:a<=100000) (q:k<=a) (y:a<=c0) (l: ∀x∈b,x<=10000000):
  xG 164 #[mJ g,k] W λe n=>e=t' (e' ((b.take k).sum:O))/\W=n:=by
 have p:=f.len;have i:U (b.take k)=k:=by rw [qh];omega
 have c:=Z8 d c0 B _ W (by rw [i];exact f.takeN q) M (λx m=>l x (j2 m));rw [i] at c;replace c:=T c;obtain⟨o,hi,r,j,t⟩:=qA XM;have v:=Qm _ 3 o 1 jj hi j d a c0 k .i64 M;generalize (b.take k).sum=s at*;clear f l p i hi r j t;go_in;go_wp2_with fail;refine Ω c ?_;go_wp2;go_ret;exact⟨rfl,rfl⟩
def BO (W:I) (l:S O) (e:Ending) (a:I):Prop:= ∃A c,e=t' (Z A l c)/\xp a W 3 1 (Z A l c) l (l.map NV)/\r' W W a
theorem Ie (l:S O): ∀u∈l.map NV,u.oneCell'=true:=by
 intro u a;obtain⟨s,_,rfl⟩:=jB.1 a;rfl
theorem TC (A:q') (n c B:O) (i:S O) (W:I) (h:E' W B 1 A n (i.map NV)) (k:B<=(W:O)) (m:n<=10000000):
  xG 117 #[Z A n c] W (BO W i):=by
 have b:=λW=>Lib.run_eql_slice_nil W _ 3 A n c 0 0 jj;obtain⟨r,hi,f,e,g⟩:=xt XM;have a:=h.len;unfold BO;rw [a];replace a:=T a;have H:=T h;cases A with
 |none=>
  have h0:n=0:=by
   rcases zA n with h0|h0
   ·exact h0
   ·obtain⟨j,b,_⟩:=h.2 h0;cases b
  subst h0;simp only [Option.isNone] at b;clear h k m;go_wp2;go_ret;have:=xq.1 a.out;subst this;exact⟨_,0,rfl,qP _ _ _ _,qZ _ _⟩
 |some j=>
  simp only [Option.isNone] at b;clear h;go_in;go_wp2_with (at_builtin;refine qF _ rfl (.tmp 5) (.tmp 6) 62 rfl (W:O) 3 r () 1 8 jj hi f e g rfl M (W:O) 0 0 [] rfl (ZR W _ _ (qx _)) B (some j) n c _ rfl (H.alloc k _) (Ie _) ?_ ?_ ?_ ?_;rotate_left 3;intro o c1 s d l q;have p:=T (zG (zi (qZ _ _) _) l (ZR W _ _ (qx _)) (zi (qZ _ W) _).size);replace d:=T d;clear l q);rotate_left 1
  ·unfold maxLen;omega
  ·omega
  ·exact(zi (qZ _ W) _).size
  go_ret;refine⟨o,c1,s8, ?_,p⟩;have h:=d.out;simpa using h
theorem Pq (W:I) (g B b c0:O) (i:q') (a:S O) (h:i' W g=J (Z i b c0)) (j:E' W B 1 i b (a.map NV)) (d:B<=(W:O)) (o:b<=100000):
  xG 81 #[mJ g] W (BO W a):=by
 have f:=T (TC i b c0 B a W j d M);unfold BO at f⊢;generalize U a=n at*;clear j;go_in;go_wp2_with fail;refine f.mono ?_;rintro e p ⟨A,c,rfl,k,d⟩;have l:=T k;have m:=T d;clear k d;go_wp2;go_ret;exact⟨A,c,rfl,l,m⟩
end
end
section
variable {a e i:q'}{b f g j k:O}{x:qn}
section
open Go.RowKit Go.Shelf
theorem U0: ∀(a:qn) (l:S qn),(∀s∈l,U s<=25)->U (Je a l)<=45*U l
 |_,[],_=>qx _
 |a,s::t,h=>by
  have h1:=U0 s t (λx b=>h x (qM _ b));have h2:=h s (qo ..);have h3:=(jn (G4 a s)).2;have h4:=UT (s.drop (G4 a s));rw [qI] at h4;unfold Je;rw [qK,qK,qf];omega
theorem GY (l:S qn) (h: ∀s∈l,U s<=25):U (e9 l)<=35+45*U l:=by
 unfold e9;have h4:=UT (l.headD []);have h5:U (l.headD [])<=25:=by
  cases l with
  |nil=>exact qp _
  |cons a t=>exact h a (qo ..)
 have h6:=U0 (l.headD []) _ (λs b=>h s (List.mem_of_mem_tail b));rw [qK,List.length_tail] at*;omega
theorem uv: ∀(b:qn) (l:S qn),XO b l=true-> ∀s∈l,U s<=25
 |_,[],_,s,a=>by cases a
 |b,x::t,h,s,a=>by
  unfold XO at h;rw [zR] at h;rcases qL.1 a with rfl|a
  ·have h1:=h.1
   unfold al at h1;simp only [zR,zd] at h1;exact h1.2.1
  ·exact uv x t h.2 s a
theorem rW {l:S qn} (h:T5 l=true):(∀s∈l,U s<=25)/\U l<=1048576:=by
 unfold T5 at h;rw [zR,jo] at h;exact⟨uv _ l h.1,h.2⟩
def QC (size:O) (l:S qn) (k:O):S qn:=(l.drop (k*size)).take size
theorem U1 (size:O) (c:1<=size): ∀(f:O) (l:S qn) (q:O),(∀k,k<q↔k*size<U l)->q<=f->N1 size f l=(List.range q).map (QC size l)
 |0,l,q,a,d=>by
  obtain rfl:q=0:=M;rfl
 |f+1,l,q,a,d=>by
  unfold N1;by_cases b:l=[]
  ·subst b
   have: ¬0<q:=λh=>by have:=(a 0).1 h;simp at this
   obtain rfl:q=0:=M;rfl
  ·rw [qJ b]
   have h0:=(a 0).2 (by rw [jd];exact JA.2 b)
   obtain⟨p,rfl⟩: ∃p,q=p+1:=⟨q-1,M⟩;rw [U1 _ c f (l.drop size) p (λk=>by
    have:=a (k+1);rw [ql] at this;rw [qI];omega) M,List.range_succ_eq_map,jy,vC]
   congr 1
   ·unfold QC;rw [jd,Zy]
   ·apply jX
    intro k _;unfold QC;simp only [Function.comp_apply,vh];rw [show size+k*size=(k+1)*size by rw [ql];omega]
theorem oH (size n:O) (a:1<=size): ∃q,(∀k,k<q↔k*size<n)/\q<=n:=by
 refine⟨(n+size-1)/size,λj=> ?_, ?_⟩
 ·constructor
  ·intro h;have:(j+1)*size<=n+size-1:=(yJ M).1 h;rw [ql] at this;omega
  ·intro h;have:(j+1)*size<=n+size-1:=by rw [ql];omega
   exact(yJ M).2 this
 ·rcases zA n with h|h
  ·subst h;rw [jL,xW M];omega
  ·apply Nat.div_le_of_le_mul;obtain⟨e,rfl⟩: ∃e,size=e+1:=⟨size-1,M⟩;obtain⟨f,rfl⟩: ∃f,n=f+1:=⟨n-1,M⟩;rw [Nat.add_mul,Nat.mul_add];omega
structure DwJ (w0:I) (b6 b7 bS bN:O) (vS vN:la) (W:I) (m6 m7:O) (hd bd:qn):Prop where
 ex: ∃A6 c6 A7 c7,F' W b6 30 #[Z A6 m6 c6]/\F' W b7 30 #[Z A7 m7 c7]/\xp W w0 5 1 (Z A6 m6 c6) m6 (hd.map B8)/\xp W w0 5 1 (Z A7 m7 c7) m7 (bd.map B8)/\Vy A6 A7
 rS:F' W bS 99 #[vS]
 rN:F' W bN 3 #[vN]
 below:r' w0 w0 W
 g6:(w0:O)<=b6
 g7:(w0:O)<=b7
 ne:b6≠b7
section
variable {w0 W W' W4 : I} {b6 b7 bS bN m6 m7 : O} {vS vN : la} {hd bd : qn}
theorem DwJ.aJ {B:O} {row:Option O} (h:DwJ w0 b6 b7 bS bN vS vN W m6 m7 hd bd) (u:(w0:O)<=B) (d:W.grownBy W' row) (b: ∀r,row=some r->B<=r/\ ∃o:Obj,W.heap[r]? =some o/\o.isCells=false):DwJ w0 b6 b7 bS bN vS vN W' m6 m7 hd bd:=by
 have a:=J0.Gq d λr e=>(b r e).2;obtain⟨⟨q,t,p,k,h6,h7,f,m,i⟩,n,l,c,j,g,s⟩:=h;exact⟨⟨q,t,p,k,a.blk h6,a.blk h7,a.own f,a.own m,i⟩,a.blk n,a.blk l,c.grown d c.size (λr e=>by have:=(b r e).1;omega),j,g,s⟩
theorem DwJ.fresh (h:DwJ w0 b6 b7 bS bN vS vN W m6 m7 hd bd) (a:r' W W W'):DwJ w0 b6 b7 bS bN vS vN W' m6 m7 hd bd:=by
 have l:=h.below.size;obtain⟨⟨n,p,m,j,h6,h7,d,k,g⟩,c,b,i,f,e,o⟩:=h;exact⟨⟨n,p,m,j,h6.below a h6.lt,h7.below a h7.lt,qG d a,qG k a,g⟩,c.below a c.lt,b.below a b.lt,i.trans (a.mono l),f,e,o⟩
theorem DwJ.aX {d:O} {c f:qn} (h:DwJ w0 b6 b7 bS bN vS vN W m6 m7 hd bd) (a:DwJ w0 b6 b7 bS bN vS vN W' b d c f):QP bS bN W W':=λv=>
 ⟨λe=>by rw [h.rS.cell 0] at e;exact(a.rS.cell 0).trans e,λe=>by rw [h.rN.cell 0] at e;exact(a.rN.cell 0).trans e⟩
theorem uS {i:O} {A d:q'} {r:TypeId} {size q:O} {f l:S la} (h:xp W b E size (Z A n c) n f) (s:xp W k r q (Z d g i) g l) (j:Vy A d) (o:W.grownBy W' (d.map (·.block))):xp W' b E size (Z A n c) n f:=
 zI h λa e=>by
  obtain⟨u,t,p⟩:=jV h _ (by rw [e];rfl)
  exact o.block _ (jz p) λm=>j _ (by rw [e];rfl) m.symm
theorem DwJ.Ia (h:DwJ w0 b6 b7 bS bN vS vN W m6 m7 hd bd) (h6:F' W b6 30 #[Z a m6 g]) (h7:F' W b7 30 #[Z e m7 f]) (c:xp W w0 5 1 (Z a m6 g) m6 (hd.map B8)) (l:xp W w0 5 1 (Z e m7 f) m7 (bd.map B8)) (o:Vy a e) (u:xp W' w0 5 1 (Z i (m6+k) j) (m6+k) ((hd++x).map B8)) (b:W.grownBy W' (a.map (·.block))) (z:JU W a i):
  F' W' b6 30 #[Z a m6 g]/\DwJ w0 b6 b7 bS bN vS vN (W'.setCell b6 (Z i (m6+k) j)) (m6+k) m7 (hd++x) bd:=by
 have q:=h.below.size;obtain⟨-,r,v,y,m,t,n⟩:=h;have d:=xQ h6 c FV b;have s:=xQ h7 c FV b;have w:=zG y b c q;refine⟨d,⟨i,j,e,f,d.zh 0 _,s.far (p:= b6) (Zi n) _,jw u d FV _ _,jw (uS l c o.sym b) d FV _ _,o.grow (Fp l) z⟩,Qu (xQ r c FV b) d FV _ _,Qu (xQ v c FV b) d FV _ _,w.setCell m _,m,t,n⟩
theorem DwJ.Lf (h:DwJ w0 b6 b7 bS bN vS vN W m6 m7 hd bd) (h6:F' W b6 30 #[Z e m6 g]) (h7:F' W b7 30 #[Z a m7 f]) (n:xp W w0 5 1 (Z e m6 g) m6 (hd.map B8)) (b:xp W w0 5 1 (Z a m7 f) m7 (bd.map B8)) (o:Vy e a) (s:xp W' w0 5 1 (Z i (m7+k) j) (m7+k) ((bd++x).map B8)) (c:W.grownBy W' (a.map (·.block))) (z:JU W a i):
  F' W' b7 30 #[Z a m7 f]/\DwJ w0 b6 b7 bS bN vS vN (W'.setCell b7 (Z i (m7+k) j)) m6 (m7+k) hd (bd++x):=by
 have q:=h.below.size;obtain⟨-,r,u,w,t,l,m⟩:=h;have y:=xQ h6 b FV c;have d:=xQ h7 b FV c;have v:=zG w c b q;refine⟨d,⟨e,g,i,j,y.far (p:= b7) m _,d.zh 0 _,jw (uS n b o c) d FV _ _,jw s d FV _ _,(o.sym.grow (Fp n) z).sym⟩,Qu (xQ r b FV c) d FV _ _,Qu (xQ u b FV c) d FV _ _,v.setCell l _,t,l,m⟩
end
end
end
section
variable {W:I}
section
open Go.RowKit Go.Shelf
attribute [local go_sem] J4
def _o (size:O) (l:S qn) (a:S O):qn:=kD (U l)++(a.map λk=>kD (U (e9 (QC size l k)))).flatten
def _r (size:O) (l:S qn) (a:S O):qn:=(a.map λk=>e9 (QC size l k)).flatten
theorem aH (size:O) (l:S qn): ∀a:S O,U (_o size l a)<=10+10*U a
 |[]=>by
  have:=(jn l).2;unfold _o;simp;omega
 |k::t=>by
  have h:=aH size l t;have h2:=(jn (U (e9 (QC size l k)))).2;unfold _o at h⊢;rw [qK] at h⊢;rw [jy,xI,qK,qf];omega
theorem aB (size:O) (l:S qn) (b: ∀s∈l,U s<=25) (h1:1<=size): ∀a:S O,U (_r size l a)<=80*size*U a
 |[]=>by simp [_r]
 |k::t=>by
  have h:=aB size l b h1 t;have h2:=GY (QC size l k) (λs h=>b s (Q1 (j2 h)));have h3:U (QC size l k)<=size:=by unfold QC;rw [qh];exact xK _ _
  unfold _r at h⊢;rw [jy,xI,qK,qf,Nat.mul_succ];have h4:35+45*U (QC size l k)<=80*size:=M;omega
theorem U2 {a:I} (h:r' W W a):KeepsOthers W a:=⟨h.size,λk o b _=>(h.block k (jz b)).trans b⟩
theorem GK {d:I} {b:O} {A:q'} {vs:S la} (f:xp W b E 1 (Z A n c) n vs) (g:W.grownBy d (A.map (·.block))) (p:Addr) (u:la):KeepsOthers W (d.setCell p u):=
 (KeepsOthers.of_grownBy g λj o h a=>by
  obtain⟨k,i,e⟩:=jV f j h;rw [e] at a;injection a with a
  rw [<-a];rfl).trans (KeepsOthers.setCell d p u)
theorem oB (size:O) (l:S qn) (q:O) (b:1<=size) (a: ∀k,k<q↔k*size<U l) (c:q<=U l):we size l=_o size l (List.range q)++_r size l (List.range q):=by
 unfold we mx _o _r;rw [U1 size b l l q a c];simp only [vC];rfl
theorem aC (size:O) (A:Option Addr) (c B:O) (l:S (S AB)) (W:I) (h:E' W B 1 A (U l) (l.map Lj)) (hB:B<=(W:O)) (hc:U l<=c) (s1:1<=size) (s2:size<=64) (hr:T5 l=true):
  xG 90 #[size,Z A (U l) c] W (Qr 5 W (we size l) 0):=by
 obtain⟨hsh,hln⟩:=rW hr;have KR:=T (GC A c B l W h M);rw [hr] at KR;obtain⟨q,hq,hqn⟩:=oH size (U l) s1;have HR:G (we size l=_o size l (List.range q)++_r size l (List.range q)):=oB size l q s1 hq hqn;generalize we size l=R at*
 have KN:=T (vW (U l) W M);have nl0:=(jn (U l)).2;have HQ:=T hq;have HSH:=T hsh;have H:=T h;have h1': ¬(size:V)<1:=M;have h2': ¬(64:V)<(size:V):=M;obtain⟨n,v⟩: ∃n,n=U l:=⟨_,rfl⟩;obtain⟨xn,u'⟩: ∃xn,xn=kD (U l):=⟨_,rfl⟩;rw [<-v] at KR KN hln hc hqn⊢;rw [<-u'] at nl0;rw [v,<-u',<-v] at KN;replace v:=T v;replace u':=T u';have wn:IntKind.u64.wrap (n:V)=(n:V):=by rw [qS];omega
 have KCh:=T (λW=>Ti A n c size W s1);unfold jQ at KN;generalize hm0:U xn=m0 at*
 replace hm0:=T hm0;clear hq hsh h hr;refine(Qz (n:=5)).1 (callsIn_of_wp_marks func90 rfl trivial ?_ rfl);simp only [ntmps90,xd,qf,zF,Nat.reduceAdd,Nat.reduceSub,ya,yA,QI,yI,xY,Qy];refine wpIn_wide.2 ?_;refine Code.wp_mono (Q:=aV (bodyPostM Fence.wide 5 prog f90 (Qr 5 W R 0))) (λe a w h=>DU h) ?_
 go_wp2_with fail;refine KR.mono ?_;rintro e w' ⟨rfl,rfl⟩;clear KR
 go_wp2_with fail;refine KN.mono ?_;rintro e d ⟨A1,c1,rfl,hf1⟩;have D':=T hf1;clear KN hf1
 go_wp2_with fail;obtain⟨b,iL⟩: ∃b,b=(d (Y #[Z A1 m0 c1] 30)) (Y #[Z none 0 0] 30):=⟨_,rfl⟩;have n6:F' b d 30 #[Z A1 m0 c1]:=by rw [iL];exact(F'.new d _ _).alloc _
 have n7:F' b ((d:O)+1) 30 #[Z none 0 0]:=by
  rw [iL];have h:=F'.new (d (Y #[Z A1 m0 c1] 30)) 30 #[Z none 0 0];rwa [vY] at h
 have hB12:r' d d b:=by rw [iL];exact((qZ _ _).alloc (qx _) _).alloc s8 _
 have hs2:G ((b:O)=(d:O)+2):=by rw [iL];simp [Hid]
 have m:=qG D'.out.1 hB12;have U':r' (W:O) W b:=D'.out.2.trans (hB12.mono D'.out.2.size);have hsz1:(W:O)<=(d:O):=D'.out.2.size;rw [<-iL];clear D' hB12 iL;refine(KCh.out _).mono ?_;rintro e w3 ⟨rfl,rfl⟩;clear KCh;unfold fP
 go_wp2_with fail;obtain⟨C,cB⟩: ∃C,(b (Y #[Z A n c] 99)) (Y #[size] 3)=C:=⟨_,rfl⟩;have G':r' b b C:=by rw [<-cB];exact((qZ _ _).alloc (qx _) _).alloc s8 _
 have hs4:G ((C:O)=(b:O)+2):=by rw [<-cB];simp [Hid]
 have hl1:(b:O)<(C:O):=by have:=hs4.out;omega
 have hl2:(b:O)+1<(C:O):=by have:=hs4.out;omega
 have hl3:(W:O)<=(C:O):=by have:=hs4.out;have:=hs2.out;omega
 have Q':F' C b 99 #[Z A n c]:=by
  rw [<-cB];exact(F'.new b 99 #[Z A n c]).alloc (Y #[size] 3)
 have rN4:F' C ((b:O)+1) 3 #[size]:=by
  have h:=F'.new (b (Y #[Z A n c] 99)) 3 #[size];rw [vY,cB] at h;exact h
 have q1:=Q'.cell 0;have q2:=rN4.cell 0;have hp0:_o size l []=xn:=by unfold _o;rw [<-u'.out];simp
 have hI0:DwJ W d ((d:O)+1) b ((b:O)+1) (Z A n c) size C (U (_o size l [])) (U (_r size l [])) (_o size l []) (_r size l []):=by
  rw [hp0,hm0.out];exact⟨⟨A1,c1,none,0,n6.below G' n6.lt,n7.below G' n7.lt,qG m G',qP _ _ _ _,λg h1 h2=>by cases h2⟩,Q',rN4,U'.trans (G'.mono U'.size),hsz1,M,M⟩
 rw [cB];replace hI0:=T hI0;replace cB:=T cB;clear n6 n7 U' m Q' rN4 G' hp0;obtain⟨i0,hi,M',N9,O'⟩:=qA QB;replace hi:=T hi;replace M':=T M';replace N9:=T N9;replace O':=T O';refine(wpIn_wide (n:=4)).1 ?_;refine wpIn_rangeFunc_ownG (F:=Fence.wide) (n:=4) rfl M (gf:=178) (lb:= #[mJ b,mJ ↑((b:O)+1)]) rfl trivial (enters_of func178 AL rfl)
  (G_ Fence.wide 3 trivial rfl M b ((b:O)+1) A n c size q (λk=>by rw [v.out];exact HQ k) s1 M hc M C q1 q2 hl1 hl2) (λh k=>QP.trans h k) (λW l o o' h1 h2 h3 h4=>QP.put _ _ W l o o' h1 h2 h3 h4) (qZ _ _) (λ_=>rfl)
  (λ(i:S (Fin q)) f=>DwJ W d ((d:O)+1) b ((b:O)+1) (Z A n c) size f (U (_o size l (i.map λy:Fin q=>y.val))) (U (_r size l (i.map λy:Fin q=>y.val))) (_o size l (i.map λy:Fin q=>y.val)) (_r size l (i.map λy:Fin q=>y.val)))
  (λ_ _ _=>False)
  (λi f W'' row h hg hr=>h.aJ hl3 hg hr)
  (λ_ _ _ _ _ hs _ _=>hs)
  hI0.out
  (λx=>{tmps:= #[e' (size:V),Z A n c,undef,undef,Z none 0 0,e' 0,mJ d,mJ ↑((d:O)+1),Ym A size n x.val,undef,e' (size:V), .bool false, .bool false,e' (size:V), .bool false, .bool false, .bool false,Z A n c, .bool true, .bool false, .bool false,Z A n c,e' (n:V), .int .u64 (n:V),Z A1 m0 c1,Z A n c,e' (size:V),fP b ((b:O)+1),Ym A size n x.val,undef,undef,undef,undef,undef,undef,undef,undef,undef,undef,undef,undef,undef,undef,undef],defers:=[]}) ?assign ?body ?done ?stop
 case assign=>
  intro l x W K E
  gi_wp2
  exact E
 case body=>
  rintro lp i x f N hlt;have hxn2:x.val*size<U l:=(HQ.out x.val).1 x.isLt;obtain⟨hh,N'⟩: ∃hh,hh=min size (n-x.val*size):=⟨_,rfl⟩;have hL1:1<=hh:=by have:=v.out;omega
  have hL64:hh<=64:=M;have hcv:Ym A size n x.val=Z (A.map (·.add (x.val*size))) hh hh:=by unfold Ym;rw [<-N']
  have J':QC size l x.val=(l.drop (x.val*size)).take hh:=by
   unfold QC;rw [List.take_eq_take_iff,qI,N',v.out];omega
  have hRx:E' f (f:O) 1 (A.map (·.add (x.val*size))) hh ((QC size l x.val).map Lj):=by
   rw [J'];have h1:=((H.below (N.below.mono hB)).more (qv hB N.below.size)).VC (k:=x.val*size) M (by rw [<-v.out];exact hc)
   have h2:=h1.takeN (k:=hh) (by have:=v.out;omega)
   have e:xo A c (x.val*size) 1=A.map (·.add (x.val*size)):=by
    unfold xo;rw [qJ (by have:=v.out;omega),z_]
   rwa [e] at h2
  have hsh2: ∀s∈QC size l x.val,U s<=25:=λs hs=>HSH.out s (by
   rw [J'] at hs;exact Q1 (j2 hs))
  have hcl:U (QC size l x.val)<=size:=by unfold QC;rw [qh];exact xK _ _
  have hbl:=GY _ hsh2;have KB:=T (gC (A.map (·.add (x.val*size))) hh hh (f:O) (QC size l x.val) f hRx (qx _) M hL1 (qx _) hsh2);have hbk1:1<=U (e9 (QC size l x.val)):=by
   unfold e9 B1;have:=(jn (U ((QC size l x.val).headD []))).1;rw [qK,qK];omega
  have hqs:q*size<n+size:=by
   obtain⟨p,hp⟩: ∃p,q=p+1:=⟨q-1,by have:=x.isLt;omega⟩
   have h1:=(HQ.out p).1 M;have:=v.out;rw [hp,ql];omega
  have hps:U i*size<=q*size:=zk _ M;have p':=aH size l (i.map λy:Fin q=>y.val);have X:=aB size l HSH s1 (i.map λy:Fin q=>y.val);rw [zH] at p' X;have hm6':U (_o size l (i.map λy:Fin q=>y.val))<=10485800:=M;have hm7':U (_r size l (i.map λy:Fin q=>y.val))<=83891200:=by
   refine qv X ?_;rw [Nat.mul_assoc,xH size];omega
  have HH:G (_o size l ((i++[x]).map λy:Fin q=>y.val)=_o size l (i.map λy:Fin q=>y.val)++kD (U (e9 (QC size l x.val)))):=by
   rw [Hid,qg];unfold _o;simp
  have HD:G (_r size l ((i++[x]).map λy:Fin q=>y.val)=_r size l (i.map λy:Fin q=>y.val)++e9 (QC size l x.val)):=by
   rw [Hid,qg];unfold _r;simp
  simp only [hcv];have hJ:=T N;generalize _o size l (i.map λy:Fin q=>y.val)=hd at*
  generalize _r size l (i.map λy:Fin q=>y.val)=bd at*
  generalize e9 (QC size l x.val)=ih at*
  have hbk2:U ih<=2915:=M;have KM:=λW''=>T (vW ih W'' M);have hnm:=(jn ih).2;have wbk:IntKind.u64.wrap (U ih:V)=(U ih:V):=by rw [qS];omega
  generalize kD (U ih)=nm at*
  generalize A.map (·.add (x.val*size))=Ax at*
  unfold jQ at KB KM;generalize hlb:U ih=lb at*
  generalize P':U hd=L at*
  generalize S':U bd=qj at*
  generalize Y':U nm=iv at*
  replace hlb:=T hlb;replace P':=T P';replace S':=T S';replace Y':=T Y';replace J':=T J';replace N':=T N';clear N hcv hRx hsh2 hcl hbl hps p' X hqs
  gi_wp2
  refine⟨trivial,(CallsIn.inRound lp (Qz.2 KB)).mono ?_⟩;rintro e ln ⟨A3,c3,rfl,d'⟩;obtain⟨uK,P,ck,cK,k60,k70,o60,o70,z⟩:=hJ.ex;have z':r' (f:O) f ln.drew:=d'.2.drew;have j:=k60.below z' k60.lt;have t:=k70.below z' k70.lt;have m:=qG o60 z';have r:=qG o70 z';have hap3:G (Vy A3 uK):=Vy.I3 (g:=(f:O)) (λk hk=>(d'.1.lt k (by rw [jH];exact hk)).1) (Fp o60)
  replace j:=T j;replace t:=T t;replace m:=T m;replace r:=T r;replace z:=T z;clear k60 k70 o60 o70 z';have hJ1:=T (hJ.fresh d'.2);have HK1:G (KeepsOthers f ln):=U2 d'.2;have HO3:=T d'.1;clear KB d'
  gi_wp2
  replace j:=j.out;replace t:=t.out;replace m:=m.out;replace r:=r.out;replace z:=z.out;have z6:i' ln.drew (d:O)=J (Z uK L P):=j.cell 0;have hJd:=hJ1.fresh (qZ _ ln).drew;have HKd:KeepsOthers f ln.drew:=HK1.trans (KeepsOthers.drew ln);have hszd:(W:O)<=(ln.drew:O):=hJd.below.size;have hb1:L+iv<=maxLen:=SJ;have hb2:(L+iv)*1<=140737488355328:=M;have hO3d:xp ln.drew (f:O) 5 1 (Z A3 lb c3) lb (ih.map B8):=HO3.out;have hRb:E' ln.drew (ln.drew:O) 1 A3 lb (ih.map B8):=(E'.zY HO3).drew;replace KM:=T KM;refine oG 6 (λcY=>i' cY (d:O)=J (Z uK L P)) AL (λ_ _ h=>h) AL z6 (λhHeld=> ?_);generalize ln.drew=wd at*
  refine zq [0,1,2,3] (a':= ?_) ?_;refine vf 4 (T ((KM.out _).out)) ?_;rintro e W2 ⟨A5,c5,rfl,u⟩;refine⟨_,rfl,(((j.below u.2 j.lt).cell 0)),λhHeld=> ?_⟩;have hJ2:=hJd.fresh u.2;have k62:=j.below u.2 j.lt;have k72:=t.below u.2 t.lt;have m':=qG m u.2;have o72:=qG r u.2;refine QY 5 rfl AL (λK E=> ?_)
  (refine jm _ rfl (.tmp 31) (.tmp 35) 30 rfl (W:O) 5 i0 (gR 0) 1 1 qu hi M' N9 O' rfl M uK L P _ rfl m' W2 A5 iv c5 _ rfl u.reads (PY u.reads) hb1 hb2 (qv hszd u.2.size) ?_;intro A8 c8 cL ho6 N6 hs6;rw [<-qg] at ho6;obtain⟨OX,hJ3⟩:=hJ2.Ia k62 k72 m' o72 z ho6 N6 hs6;have kf6:=OX.frozen 0)
  refine E _ _ ((OX.cell 0)) (λhHeld=> ?_);clear E K;try simp only [Act.put,qQ,qY,qV]
  refine j4 6 rfl AL FV SQ (λK E=> ?_);go_simp;refine E _ _ ?_;clear E K;try simp only [Act.put,qQ,qY,qV]
  refine zV AL ?_ _;have Z':=T hJ3;have HK3:G (KeepsOthers f (cL.setCell d (Z A8 (L+iv) c8))):=(HKd.trans (U2 u.2)).trans (GK m' N6 _ _);have hB3:r' wd wd W2:=u.2;have hRb2:G (E' (cL.setCell d (Z A8 (L+iv) c8)) (cL.setCell d (Z A8 (L+iv) c8):O) 1 A3 lb (ih.map B8)):=by
   have hx:xp wd (f:O) 5 1 (Z A3 lb c3) lb (ih.map B8):=hO3d;exact E'.zY (jw (uS (qG hx u.2) m' hap3 N6) OX FV _ _)
  clear hJ2 k62 k72 m' o72 ho6 N6 hs6 OX hJ3 u hHeld j t m r z z6 hJd HKd hszd kf6;generalize cL.setCell d (Z A8 (L+iv) c8)=W5 at*
  obtain⟨uK,P,ck,cK,j,t,m,r,z⟩:=Z'.ex;have z7:W5.cell? ↑((d:O)+1)=J (Z ck qj cK):=t.cell 0;have hb3:qj+lb<=maxLen:=SJ;have hb4:(qj+lb)*1<=140737488355328:=M;replace j:=T j;replace t:=T t;replace m:=T m;replace r:=T r;replace z:=T z
  gi_wp2_with (gi_at_builtin;refine PM _ rfl (.tmp 37) (.tmp 38) 30 rfl (W:O) 5 i0 (gR 0) 1 1 qu hi M' N9 O' rfl M ck qj cK _ rfl r W5 A3 lb c3 _ rfl hRb2 (PY hRb2) hb3 hb4 Z'.below.size ?_;intro A9 c9 w7 ho7 hg7 hs7;rw [<-qg] at ho7;obtain⟨X',I'⟩:=Z'.out.Lf j t m r z ho7 hg7 hs7;have kc7:=X'.cell 0;have kf7:=X'.frozen 0;have HK4:=T (HK3.trans (GK r hg7 ↑((d:O)+1) (Z A9 (qj+lb) c9)));replace I':=T I';clear ho7 hg7 hs7 X')
  refine⟨HK4.from _,DwJ.aX hJ I', ?_⟩
  dsimp only;rw [HH.out,HD.out,qK,qK,P'.out,S'.out,Y'.out,hlb.out];exact I'.out
 case done=>
  rintro D ys f hD rfl N E;have e1:(List.finRange q).map (λy:Fin q=>y.val)=List.range q:=by
   have h:=aZ q (λy=>y);simpa using h
  rw [e1] at N;have hDlt:D<(f:O):=jz E;have hJ:=T N;obtain⟨uK,P,ck,cK,j,t,m,r,z⟩:=N.ex;have z6:i' f (d:O)=J (Z uK (U (_o size l (List.range q))) P):=j.cell 0;have z7:f.cell? ↑((d:O)+1)=J (Z ck (U (_r size l (List.range q))) cK):=t.cell 0;have p':=aH size l (List.range q);have X:=aB size l HSH s1 (List.range q);rw [yS] at p' X;have hqs:q*size<=n+size:=by
   rcases zA q with h|h
   ·rw [h];omega
   ·obtain⟨p,hp⟩: ∃p,q=p+1:=⟨q-1,M⟩
    have h1:=(HQ.out p).1 M;have:=v.out;rw [hp,ql];omega
  have hm7':U (_r size l (List.range q))<=83891200:=by
   refine qv X ?_;rw [Nat.mul_assoc,xH size];omega
  have KA:=Yz f uK ck (U (_o size l (List.range q))) (U (_r size l (List.range q))) P cK _ _ (E'.zY m) (E'.zY r) M;rw [<-HR.out] at KA;unfold jQ at KA;generalize U (_o size l (List.range q))=L at*
  generalize U (_r size l (List.range q))=qj at*
  have hBW:=T hJ.below;have hKK:=T E;replace KA:=T KA;clear N j t m r z p' X hm7' hqs E e1 hJ
  go_wp2_with fail;refine KA.mono ?_;rintro e cL ⟨A8,c8,rfl,hf6⟩;have hBa:r' (f:O) f cL:=((qZ _ _).alloc (qx _) (Y #[Z uK L P,Z ck qj cK] 30)).trans (hf6.2.mono s8)
  have hK6:G (cL.heap[D]? =J (.deferred (some []))):=(hBa.block D hDlt).trans hKK.out;have hO6:=T (qi hf6.1 (qv hBW.size (show (f:O)<=_ by simp)))
  have hB6:=T (hBW.trans (hBa.mono hBW.size));clear KA hf6 hBa
  go_wp2_with fail;refine⟨s8, .inl ⟨_,_,rfl,run_takeDeferred hK6, ?_⟩⟩
  refine⟨_,results_tmp2 rfl _ _ _, ?_⟩;exact⟨A8,c8,rfl,ownsRow_putObj hO6 _ hK6 rfl,hB6.trans (belowK_b (w:=W) (qx _) cL D _ _ (qv hl3 hD) hK6 rfl rfl)⟩
 case stop=>
  rintro D c i W _ _ h _;exact h.elim
end
end
section
section
open Go.RowKit
theorem zM.single {W:I} {b:O} {a:q'} {c:qn} (h:xp W base 5 1 (Z a n b) n (c.map B8)) (d:base<=(W:O)):
  zM (W (Y #[Z a n b] 30)) 0 base W 1 1 [c]:=by
 have e:r' W W (W (Y #[Z a n b] 30)):=j1 _;have g:=(j8.own (b0:=0) h).1;have f:=(j8.own (b0:=0) h).2;subst g;exact zM.AH (vs:=[Z a c b]) (⟨s8, .inr ⟨W,1, #[Z a c b],rfl,d,heap_alloc_new W _,qx _,SJ,s8,s8⟩⟩) rfl (λi j hi=>by
  match i with
  |0=>
   injection hi with hi;subst hi;exact⟨a,b,rfl,f.below (qp _) d e⟩
  |i+1=>simp at hi) (qp _) (qv d e.size)
def Tl (size a:O) (qj:S qn) (L:S (S O)):S qn:=we size qj::L.map (Re a)
theorem aA (size b:O) (f h:Option Addr) (d g a i:O) (qj:S (S AB)) (L:S (S O)) (W:I) (h1:E' W W 1 f d (qj.map Lj)) (h2:Yv W W h a L) (hct:d<=g) (s1:1<=size) (s2:size<=64) (hr:T5 qj=true) (hbd:b<=20000) (R:d=a) (hfew:a<=50000)
  (hL: ∀l∈L,B5 b (-1) (J9 l)=true/\1<=U l) (cL:U (Fh size b (qj,L))<=1000000000):
  xG 60 #[size,b, .agg (_j f d g h a i)] W (Qr 5 W (Fh size b (qj,L)) 0):=by
 have iL:=h1.len;have N9:=h2.len;obtain⟨i1,z',M',u',d'⟩:=qA Zz;replace z':=T z';replace M':=T M';replace u':=T u';replace d':=T d';unfold _j;have t:G (r' W W (W (Y #[Z f d g,Z h a i] 102))):=(qZ _ _).alloc (qx _) _;have v:G (F' (W (Y #[Z f d g,Z h a i] 102)) W 102 #[Z f d g,Z h a i]):=F'.new _ _ _;have c0:i' (W (Y #[Z f d g,Z h a i] 102)) (W:O)=J (Z f d g):=v.cell 0;have c1:i' (W (Y #[Z f d g,Z h a i] 102)) ⟨W,1,none⟩=J (Z h a i):=v.cell 1;have s:=aC size f g W qj (W (Y #[Z f d g,Z h a i] 102)) (by rw [iL];exact h1.below t) t.size M s1 s2 hr
 rw [iL] at s;unfold Qr at s;have X':Fh size b (qj,L)=(Tl size b qj L).flatten:=rfl;rw [X'] at cL⊢;have hpl:G (Tl size b qj L=we size qj::L.map (Re b)):=rfl;generalize Tl size b qj L=P at*
 generalize we size qj=D at*
 replace s:=T s;have H2:=T h2;have HL:=T hL;replace cL:=T cL;replace N9:=T N9;have b1: ¬(b:V)<0:=M;have b2: ¬(20000:V)<(b:V):=M;have b3:((d:V) !=(a:V))=false:=by rw [R];simp
 have b4:(d:V)=(a:V):=by rw [R]
 clear h1 h2 hL hr iL X' hct;replace R:=T R;go_enter func60,ntmps60
 go_wp2_with fail;generalize W (Y #[Z f d g,Z h a i] 102)=w0 at*
 refine s.mono ?_;rintro e n ⟨A1,d1,rfl,Q⟩;have B:=T (t.trans (Q.2.mono t.size));have J':=v.below Q.2 v.lt;have w:=zM.single (qi Q.1 t.size) B.size;obtain⟨u,D'⟩: ∃u,u=U D:=⟨_,rfl⟩;rw [<-D'] at w⊢;have X:r' n n (n (Y #[Z A1 u d1] 30)):=(qZ _ _).alloc (qx _) _;have Y':=T (B.trans (X.mono B.size));have Z':i' (n (Y #[Z A1 u d1] 30)) ⟨W,1,none⟩=J (Z h a i):=(J'.below X J'.lt).cell 1;replace w:=T w;replace D':=T D';clear s Q J' X v t c0 c1
 go_wp2_with fail;generalize n (Y #[Z A1 u d1] 30)=w2 at*
 generalize (n:O)=g1 at*
 go_loopw [10,45] (λv10 p' wr=> ∃(k m c:O) (A:Option Addr),v10=Z A m c/\p'=(k:la)/\k<=a/\m<=k+1/\G (zM wr 0 W A m c (D::(L.take k).map (Re b)))/\G (r' W W wr)) (λ_ p' _=>a-(intOf p').toNat)
 case atStart=>exact⟨0,1,1,some ⟨g1,0,none⟩,rfl,rfl,qp _,qx _,w.out,Y'.out⟩
 case round=>
  clear w Y' Z' B;obtain⟨k,m,c,A,rfl,rfl,hk,hm,uK,j⟩:=hrel;by_cases hlt:k<a
  ·have hlt':(k:V)<(a:V):=M
   obtain⟨ad,l,Ai,ci,hAl,ih,hcell,Q'⟩:=(H2.below j).row hlt;subst hAl;obtain⟨P',E⟩:=HL.out l (zQ ih);have y:=rO b Ai l ci (wr:O) l wr (Q'.more j.size) (qx _) hbd P' E;unfold oC at y;have htk:G ((L.take (k+1)).map (Re b)=(L.take k).map (Re b)++[Re b l]):=by
    rw [Hid,qs,ih,qg];rfl
   generalize Re b l=x at*
   have hl0:((U l:V)==0)=false:=by simp;intro e;rw [e] at E;exact absurd E FV
   have hl1: ¬(U l:V)=0:=M;generalize U l=ll at*
   replace y:=T y;replace ih:=T ih;clear Q' P' E
   go_wp2_with fail;refine y.mono ?_;rintro e N ⟨m',ck,rfl,iv⟩;have S':=T (j.trans (iv.2.mono j.size));have G':=T (qi iv.1 j.size);have z:=T (uK.below iv.2);obtain⟨q,hh⟩: ∃q,q=U x:=⟨_,rfl⟩;rw [<-hh] at G'⊢;have hln:G (U x=q):=hh.symm;replace hh:=T hh;have hc1:m+1<=maxLen:=SJ
   have hc2:(m+1)*24<=140737488355328:=M;clear y iv uK j;have hLa:=z.below ((qZ _ N).alloc (qx _) (Y #[Z m' q ck] 30));have cY:=j8.below ((j8.own G').2) z.b0s z.bs ((qZ _ N).alloc (qx _) (Y #[Z m' q ck] 30));obtain⟨⟨vs,o,C,K⟩,p,ln⟩:=hLa;replace o:=T o;replace C:=T C;replace K:=T K;replace p:=T p;replace ln:=T ln;replace cY:=T cY;clear z G'
   go_wp2_with (at_builtin;refine qF _ rfl (.tmp 62) (.tmp 64) 87 rfl W 30 i1 (Z none 0 0) 1 24 jr z' M' u' d' rfl M A m c _ rfl o ((N:O)+1) _ 1 1 _ rfl (zU N _ _) (IB rfl) hc1 hc2 p ?_;intro A3 c3 w4 O' cB _hsq;have I':r' W W w4:=zG (S'.alloc S'.size (Y #[Z m' q ck] 30)) cB o p.out;have N6:=zM.Fv hln cY o C K ln p O' cB;skip;replace I':=T I';replace N6:=T N6;clear cB _hsq O' o C K p ln cY)
   go_roundw
   case rel=>exact⟨k+1,m+1,c3,A3,by first|rfl|simp,by first|rfl|simp,M,M,by rw [Hid,htk.out];exact N6,I'.out⟩
   case measure=>simp [intOf];omega
  ·obtain rfl:k=a:=M
   have hge: ¬(k:V)<(k:V):=M;have U':G (zM wr 0 W A m c P):=by
    have:=uK.out;rw [qH (by rw [N9.out];exact qx _),<-hpl.out] at this
    exact this
   have hPl:=U'.len;have cK:=uw P m;rw [qH M] at cK;have hs:=uT (k:=m) U'.out.XB (qx _) (qx _);rw [qH M] at hs;have ht:La (P.map (List.map B8))=U P.flatten:=by unfold La;rw [cK,zH]
   have r:=uU A m c _ wr M (by rw [ht];exact cL) hs
   rw [ht,cK] at r;obtain⟨F,H⟩: ∃F,F=P.flatten:=⟨_,rfl⟩;rw [<-H] at r;replace r:=T r;replace H:=T H;clear uK hPl cK hs ht
   go_wp2_with fail;refine r.mono ?_;rintro e w9 ⟨A9,c9,rfl,N',OX⟩;have HF:G (yG W w9 5 A9 F c9 (F.map B8)):=⟨qi N' j.size,j.trans (OX.mono j.size)⟩;clear r N' OX
   go_wp2_with fail
   go_ret2;rw [<-H.out];exact⟨A9,c9,rfl,HF.out⟩
end
end
end Go.Proofs.YtfnlfpcfkbdcmaaGreatDoor
