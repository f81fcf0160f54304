import Derived.Test.YtfnlfpcfkbdcmaaGreatDoorL28
import Derived.Test.YtfnlfpcfkbdcmaaGreatDoorL29
set_option linter.unusedSimpArgs false
set_option linter.unusedVariables false
set_option maxRecDepth 100000
set_option maxHeartbeats 0
open Go.Proofs.Tryz
namespace Go.Proofs.YtfnlfpcfkbdcmaaGreatDoor
variable {E:TypeId}{n:Nat}
section
variable {a e i:q'}{b f g j k:Nat}{x:qn}
section
open Go.RowKit Go.Shelf
theorem U0: ∀(a:qn) (l:List qn),(∀s∈l,s.length<=25)->(Je a l).length<=45*l.length
 |_,[],_=>qx _
 |a,s::t,h=>by
  have h1:=U0 s t (λx b=>h x (qM _ b));have h2:=h s (qo ..);have h3:=(jn (kB a s)).2;have h4:=UT (s.drop (kB a s));rw [qI] at h4;unfold Je;rw [qK,qK,qf];omega
theorem GY (l:List qn) (h: ∀s∈l,s.length<=25):(D1 l).length<=35+45*l.length:=by
 unfold D1;have h4:=UT (l.headD []);have h5:(l.headD []).length<=25:=by
  cases l with
  |nil=>exact qp _
  |cons a t=>exact h a (qo ..)
 have h6:=U0 (l.headD []) _ (λs b=>h s (List.mem_of_mem_tail b));rw [qK,List.length_tail] at*;omega
theorem uv: ∀(b:qn) (l:List qn),XO b l=true-> ∀s∈l,s.length<=25
 |_,[],_,s,a=>by cases a
 |b,x::t,h,s,a=>by
  unfold XO at h;rw [zR] at h;rcases qL.1 a with rfl|a
  ·have h1:=h.1
   unfold dm at h1;simp only [zR,zd] at h1;exact h1.2.1
  ·exact uv x t h.2 s a
theorem rW {l:List qn} (h:Gf l=true):(∀s∈l,s.length<=25)/\l.length<=1048576:=by
 unfold Gf at h;rw [zR,jo] at h;exact⟨uv _ l h.1,h.2⟩
def QC (size:Nat) (l:List qn) (k:Nat):List qn:=(l.drop (k*size)).take size
theorem U1 (size:Nat) (c:1<=size): ∀(f:Nat) (l:List qn) (q:Nat),(∀k,k<q↔k*size<l.length)->q<=f->Hr size f l=(List.range q).map (QC size l)
 |0,l,q,a,d=>by
  obtain rfl:q=0:=uK;rfl
 |f+1,l,q,a,d=>by
  unfold Hr;by_cases b:l=[]
  ·subst b
   have: ¬0<q:=λh=>by have:=(a 0).1 h;simp at this
   obtain rfl:q=0:=uK;rfl
  ·rw [qJ b]
   have h0:=(a 0).2 (by rw [jd];exact JA.2 b)
   obtain⟨p,rfl⟩: ∃p,q=p+1:=⟨q-1,uK⟩;rw [U1 _ c f (l.drop size) p (λk=>by
    have:=a (k+1);rw [ql] at this;rw [qI];omega) uK,List.range_succ_eq_map,jy,vC]
   congr 1
   ·unfold QC;rw [jd,Zy]
   ·apply jX
    intro k _;unfold QC;simp only [Function.comp_apply,vh];rw [show size+k*size=(k+1)*size by rw [ql];omega]
theorem oH (size n:Nat) (a:1<=size): ∃q,(∀k,k<q↔k*size<n)/\q<=n:=by
 refine⟨(n+size-1)/size,λj=> ?_, ?_⟩
 ·constructor
  ·intro h;have:(j+1)*size<=n+size-1:=(yJ uK).1 h;rw [ql] at this;omega
  ·intro h;have:(j+1)*size<=n+size-1:=by rw [ql];omega
   exact(yJ uK).2 this
 ·rcases zA n with h|h
  ·subst h;rw [jL,xW uK];omega
  ·apply Nat.div_le_of_le_mul;obtain⟨e,rfl⟩: ∃e,size=e+1:=⟨size-1,uK⟩;obtain⟨f,rfl⟩: ∃f,n=f+1:=⟨n-1,uK⟩;rw [Nat.add_mul,Nat.mul_add];omega
structure DwJ (w0:World) (b6 b7 bS bN:Nat) (vS vN:Value) (W:World) (m6 m7:Nat) (hd bd:qn):Prop where
 ex: ∃A6 c6 A7 c7,Blk W b6 30 #[.slice A6 m6 c6]/\Blk W b7 30 #[.slice A7 m7 c7]/\W.ownsRow w0 5 1 (.slice A6 m6 c6) m6 (hd.map B8)/\W.ownsRow w0 5 1 (.slice A7 m7 c7) m7 (bd.map B8)/\Vy A6 A7
 rS:Blk W bS 99 #[vS]
 rN:Blk W bN 3 #[vN]
 below:Below w0 w0 W
 g6:w0.heap.size<=b6
 g7:w0.heap.size<=b7
 ne:b6≠b7
section
variable {w0 W W' W4 : World} {b6 b7 bS bN m6 m7 : Nat} {vS vN : Value} {hd bd : qn}
theorem DwJ.aJ {B:Nat} {row:Option Nat} (h:DwJ w0 b6 b7 bS bN vS vN W m6 m7 hd bd) (u:w0.heap.size<=B) (d:W.grownBy W' row) (b: ∀r,row=some r->B<=r/\ ∃o:Obj,W.heap[r]? =some o/\o.isCells=false):DwJ w0 b6 b7 bS bN vS vN W' m6 m7 hd bd:=by
 have a:=J0.Gq d λr e=>(b r e).2;obtain⟨⟨q,t,p,k,h6,h7,f,m,i⟩,n,l,c,j,g,s⟩:=h;exact⟨⟨q,t,p,k,a.blk h6,a.blk h7,a.own f,a.own m,i⟩,a.blk n,a.blk l,c.grown d c.size (λr e=>by have:=(b r e).1;omega),j,g,s⟩
theorem DwJ.fresh (h:DwJ w0 b6 b7 bS bN vS vN W m6 m7 hd bd) (a:Below W W W'):DwJ w0 b6 b7 bS bN vS vN W' m6 m7 hd bd:=by
 have l:=h.below.size;obtain⟨⟨n,p,m,j,h6,h7,d,k,g⟩,c,b,i,f,e,o⟩:=h;exact⟨⟨n,p,m,j,h6.below a h6.lt,h7.below a h7.lt,qG d a,qG k a,g⟩,c.below a c.lt,b.below a b.lt,i.trans (a.mono l),f,e,o⟩
theorem DwJ.aX {d:Nat} {c f:qn} (h:DwJ w0 b6 b7 bS bN vS vN W m6 m7 hd bd) (a:DwJ w0 b6 b7 bS bN vS vN W' b d c f):QP bS bN W W':=λv=>
 ⟨λe=>by rw [h.rS.cell 0] at e;exact(a.rS.cell 0).trans e,λe=>by rw [h.rN.cell 0] at e;exact(a.rN.cell 0).trans e⟩
theorem uS {c i:Nat} {A d:q'} {r:TypeId} {size q:Nat} {f l:List Value} (h:W.ownsRow b E size (.slice A n c) n f) (s:W.ownsRow k r q (.slice d g i) g l) (j:Vy A d) (o:W.grownBy W' (d.map (·.block))):W'.ownsRow b E size (.slice A n c) n f:=
 zI h λa e=>by
  obtain⟨u,t,p⟩:=jV h _ (by rw [e];rfl)
  exact o.block _ (jz p) λm=>j _ (by rw [e];rfl) m.symm
theorem DwJ.Ia (h:DwJ w0 b6 b7 bS bN vS vN W m6 m7 hd bd) (h6:Blk W b6 30 #[.slice a m6 g]) (h7:Blk W b7 30 #[.slice e m7 f]) (c:W.ownsRow w0 5 1 (.slice a m6 g) m6 (hd.map B8)) (l:W.ownsRow w0 5 1 (.slice e m7 f) m7 (bd.map B8)) (o:Vy a e) (u:W'.ownsRow w0 5 1 (.slice i (m6+k) j) (m6+k) ((hd++x).map B8)) (b:W.grownBy W' (a.map (·.block))) (z:JU W a i):
  Blk W' b6 30 #[.slice a m6 g]/\DwJ w0 b6 b7 bS bN vS vN (W'.setCell b6 (.slice i (m6+k) j)) (m6+k) m7 (hd++x) bd:=by
 have q:=h.below.size;obtain⟨-,r,v,y,m,t,n⟩:=h;have d:=xQ h6 c FV b;have s:=xQ h7 c FV b;have w:=zG y b c q;refine⟨d,⟨i,j,e,f,d.zh 0 _,s.far (p:= b6) (Zi n) _,jw u d FV _ _,jw (uS l c o.sym b) d FV _ _,o.grow (Fp l) z⟩,Qu (xQ r c FV b) d FV _ _,Qu (xQ v c FV b) d FV _ _,w.setCell m _,m,t,n⟩
theorem DwJ.Lf (h:DwJ w0 b6 b7 bS bN vS vN W m6 m7 hd bd) (h6:Blk W b6 30 #[.slice e m6 g]) (h7:Blk W b7 30 #[.slice a m7 f]) (n:W.ownsRow w0 5 1 (.slice e m6 g) m6 (hd.map B8)) (b:W.ownsRow w0 5 1 (.slice a m7 f) m7 (bd.map B8)) (o:Vy e a) (s:W'.ownsRow w0 5 1 (.slice i (m7+k) j) (m7+k) ((bd++x).map B8)) (c:W.grownBy W' (a.map (·.block))) (z:JU W a i):
  Blk W' b7 30 #[.slice a m7 f]/\DwJ w0 b6 b7 bS bN vS vN (W'.setCell b7 (.slice i (m7+k) j)) m6 (m7+k) hd (bd++x):=by
 have q:=h.below.size;obtain⟨-,r,u,w,t,l,m⟩:=h;have y:=xQ h6 b FV c;have d:=xQ h7 b FV c;have v:=zG w c b q;refine⟨d,⟨e,g,i,j,y.far (p:= b7) m _,d.zh 0 _,jw (uS n b o c) d FV _ _,jw s d FV _ _,(o.sym.grow (Fp n) z).sym⟩,Qu (xQ r b FV c) d FV _ _,Qu (xQ u b FV c) d FV _ _,v.setCell l _,t,l,m⟩
end
end
end
section
section
open Go.RowKit Go.Shelf
attribute [local go_sem] J4
def hdP (size:Nat) (l:List qn) (a:List Nat):qn:=xv l.length++(a.map λk=>xv (D1 (QC size l k)).length).flatten
def bdP (size:Nat) (l:List qn) (a:List Nat):qn:=(a.map λk=>D1 (QC size l k)).flatten
theorem aH (size:Nat) (l:List (List UInt8)): ∀a:List Nat,(hdP size l a).length<=10+10*a.length
 |[]=>by
  have:=(jn l).2;unfold hdP;simp;omega
 |k::t=>by
  have h:=aH size l t;have h2:=(jn (D1 (QC size l k)).length).2;unfold hdP at h⊢;rw [qK] at h⊢;rw [jy,xI,qK,qf];omega
theorem aB (size:Nat) (l:List (List UInt8)) (b: ∀s∈l,s.length<=25) (h1:1<=size): ∀a:List Nat,(bdP size l a).length<=80*size*a.length
 |[]=>by simp [bdP]
 |k::t=>by
  have h:=aB size l b h1 t;have h2:=GY (QC size l k) (λs h=>b s (Q1 (j2 h)));have h3:(QC size l k).length<=size:=by unfold QC;rw [qh];exact xK _ _
  unfold bdP at h⊢;rw [jy,xI,qK,qf,Nat.mul_succ];have h4:35+45*(QC size l k).length<=80*size:=uK;omega
theorem U2 {W a:World} (h:Below W W a):KeepsOthers W a:=⟨h.size,λk o b _=>(h.block k (jz b)).trans b⟩
theorem GK {W d:World} {b c:Nat} {A:Option Addr} {vs:List Value} (f:W.ownsRow b E 1 (.slice A n c) n vs) (g:W.grownBy d (A.map (·.block))) (p:Addr) (u:Value):KeepsOthers W (d.setCell p u):=
 (KeepsOthers.of_grownBy g λj o h a=>by
  obtain⟨k,i,e⟩:=jV f j h;rw [e] at a;injection a with a
  rw [<-a];rfl).trans (KeepsOthers.setCell d p u)
theorem oB (size:Nat) (l:List (List UInt8)) (q:Nat) (b:1<=size) (a: ∀k,k<q↔k*size<l.length) (c:q<=l.length):gO size l=hdP size l (List.range q)++bdP size l (List.range q):=by
 unfold gO Hs hdP bdP;rw [U1 size b l l q a c];simp only [vC];rfl
theorem aC (size:Nat) (A:Option Addr) (c B:Nat) (l:List (List UInt8)) (W:World) (h:Reads W B 1 A l.length (l.map STR)) (hB:B<=W.heap.size) (hc:l.length<=c) (s1:1<=size) (s2:size<=64) (hr:Gf l=true):
  Calls prog 90 #[size, .slice A l.length c] W (Qr 5 W (gO size l) 0):=by
 obtain⟨hsh,hln⟩:=rW hr;have KR:=qj (GC A c B l W h uK);rw [hr] at KR;obtain⟨q,hq,hqn⟩:=oH size l.length s1;have HR:Hid (gO size l=hdP size l (List.range q)++bdP size l (List.range q)):=oB size l q s1 hq hqn;generalize gO size l=R at*
 have KN:=qj (vW l.length W uK);have nl0:=(jn l.length).2;have HQ:=qj hq;have HSH:=qj hsh;have H:=qj h;have h1': ¬(size:Int)<1:=uK;have h2': ¬(64:Int)<(size:Int):=uK;obtain⟨n,v⟩: ∃n,n=l.length:=⟨_,rfl⟩;obtain⟨xn,u'⟩: ∃xn,xn=xv l.length:=⟨_,rfl⟩;rw [<-v] at KR KN hln hc hqn⊢;rw [<-u'] at nl0;rw [v,<-u',<-v] at KN;replace v:=qj v;replace u':=qj u';have wn:IntKind.u64.wrap (n:Int)=(n:Int):=by rw [qS];omega
 have KCh:=qj (λW=>Ti A n c size W s1);unfold jQ at KN;generalize hm0:xn.length=m0 at*
 replace hm0:=qj hm0;clear hq hsh h hr;refine(Qz (n:=5)).1 (callsIn_of_wp_marks func90 rfl trivial ?_ rfl);simp only [ntmps90,xd,qf,zF,Nat.reduceAdd,Nat.reduceSub,ya,yA,QI,yI,xY,Qy];refine wpIn_wide.2 ?_;refine Code.wp_mono (Q:=aV (bodyPostM Fence.wide 5 prog f90 (Qr 5 W R 0))) (λe a w h=>DU h) ?_
 go_wp2_with fail;refine KR.mono ?_;rintro e w' ⟨rfl,rfl⟩;clear KR
 go_wp2_with fail;refine KN.mono ?_;rintro e d ⟨A1,c1,rfl,hf1⟩;have D':=qj hf1;clear KN hf1
 go_wp2_with fail;obtain⟨b,iL⟩: ∃b,b=(d.alloc (.cells #[.slice A1 m0 c1] 30)).alloc (.cells #[.slice none 0 0] 30):=⟨_,rfl⟩;have n6:Blk b d 30 #[.slice A1 m0 c1]:=by rw [iL];exact(Blk.new d _ _).alloc _
 have n7:Blk b (d.heap.size+1) 30 #[.slice none 0 0]:=by
  rw [iL];have h:=Blk.new (d.alloc (.cells #[.slice A1 m0 c1] 30)) 30 #[.slice none 0 0];rwa [vY] at h
 have hB12:Below d d b:=by rw [iL];exact((qZ _ _).alloc (qx _) _).alloc s8 _
 have hs2:Hid (b.heap.size=d.heap.size+2):=by rw [iL];simp [Hid]
 have m:=qG D'.out.1 hB12;have U':Below W.heap.size W b:=D'.out.2.trans (hB12.mono D'.out.2.size);have hsz1:W.heap.size<=d.heap.size:=D'.out.2.size;rw [<-iL];clear D' hB12 iL;refine(KCh.out _).mono ?_;rintro e w3 ⟨rfl,rfl⟩;clear KCh;unfold fP
 go_wp2_with fail;obtain⟨C,Z⟩: ∃C,(b.alloc (.cells #[.slice A n c] 99)).alloc (.cells #[size] 3)=C:=⟨_,rfl⟩;have G':Below b b C:=by rw [<-Z];exact((qZ _ _).alloc (qx _) _).alloc s8 _
 have hs4:Hid (C.heap.size=b.heap.size+2):=by rw [<-Z];simp [Hid]
 have hl1:b.heap.size<C.heap.size:=by have:=hs4.out;omega
 have hl2:b.heap.size+1<C.heap.size:=by have:=hs4.out;omega
 have hl3:W.heap.size<=C.heap.size:=by have:=hs4.out;have:=hs2.out;omega
 have Q':Blk C b 99 #[.slice A n c]:=by
  rw [<-Z];exact(Blk.new b 99 #[.slice A n c]).alloc (.cells #[size] 3)
 have rN4:Blk C (b.heap.size+1) 3 #[size]:=by
  have h:=Blk.new (b.alloc (.cells #[.slice A n c] 99)) 3 #[size];rw [vY,Z] at h;exact h
 have q1:=Q'.cell 0;have q2:=rN4.cell 0;have hp0:hdP size l []=xn:=by unfold hdP;rw [<-u'.out];simp
 have hI0:DwJ W d (d.heap.size+1) b (b.heap.size+1) (.slice A n c) size C (hdP size l []).length (bdP size l []).length (hdP size l []) (bdP size l []):=by
  rw [hp0,hm0.out];exact⟨⟨A1,c1,none,0,n6.below G' n6.lt,n7.below G' n7.lt,qG m G',qP _ _ _ _,λg h1 h2=>by cases h2⟩,Q',rN4,U'.trans (G'.mono U'.size),hsz1,uK,uK⟩
 rw [Z];replace hI0:=qj hI0;replace Z:=qj Z;clear n6 n7 U' m Q' rN4 G' hp0;obtain⟨i0,hi,M',N9,O'⟩:=qA QB;replace hi:=qj hi;replace M':=qj M';replace N9:=qj N9;replace O':=qj O';refine(wpIn_wide (n:=4)).1 ?_;refine wpIn_rangeFunc_ownG (F:=Fence.wide) (n:=4) rfl uK (gf:=178) (lb:= #[.pointer b, .pointer ↑(b.heap.size+1)]) rfl trivial (enters_of func178 AL rfl)
  (G_ Fence.wide 3 trivial rfl uK b (b.heap.size+1) A n c size q (λk=>by rw [v.out];exact HQ k) s1 uK hc uK C q1 q2 hl1 hl2) (λh k=>QP.trans h k) (λW l o o' h1 h2 h3 h4=>QP.put _ _ W l o o' h1 h2 h3 h4) (qZ _ _) (λ_=>rfl)
  (λ(i:List (Fin q)) f=>DwJ W d (d.heap.size+1) b (b.heap.size+1) (.slice A n c) size f (hdP size l (i.map λy:Fin q=>y.val)).length (bdP size l (i.map λy:Fin q=>y.val)).length (hdP size l (i.map λy:Fin q=>y.val)) (bdP size l (i.map λy:Fin q=>y.val)))
  (λ_ _ _=>False)
  (λi f W'' row h hg hr=>h.aJ hl3 hg hr)
  (λ_ _ _ _ _ hs _ _=>hs)
  hI0.out
  (λx=>{tmps:= #[.int .i64 (size:Int), .slice A n c,undef,undef, .slice none 0 0, .int .i64 0, .pointer d, .pointer ↑(d.heap.size+1),Ym A size n x.val,undef, .int .i64 (size:Int), .bool false, .bool false, .int .i64 (size:Int), .bool false, .bool false, .bool false, .slice A n c, .bool true, .bool false, .bool false, .slice A n c, .int .i64 (n:Int), .int .u64 (n:Int), .slice A1 m0 c1, .slice A n c, .int .i64 (size:Int),fP b (b.heap.size+1),Ym A size n x.val,undef,undef,undef,undef,undef,undef,undef,undef,undef,undef,undef,undef,undef,undef,undef],defers:=[]}) ?assign ?body ?done ?stop
 case assign=>
  intro l x W K E
  gi_wp2
  exact E
 case body=>
  rintro lp i x f N hlt;have hxn2:x.val*size<l.length:=(HQ.out x.val).1 x.isLt;obtain⟨J,N'⟩: ∃J,J=min size (n-x.val*size):=⟨_,rfl⟩;have hL1:1<=J:=by have:=v.out;omega
  have hL64:J<=64:=uK;have hcv:Ym A size n x.val= .slice (A.map (·.add (x.val*size))) J J:=by unfold Ym;rw [<-N']
  have J':QC size l x.val=(l.drop (x.val*size)).take J:=by
   unfold QC;rw [List.take_eq_take_iff,qI,N',v.out];omega
  have hRx:Reads f f.heap.size 1 (A.map (·.add (x.val*size))) J ((QC size l x.val).map STR):=by
   rw [J'];have h1:=((H.below (N.below.mono hB)).more (qv hB N.below.size)).VC (k:=x.val*size) uK (by rw [<-v.out];exact hc)
   have h2:=h1.takeN (k:=J) (by have:=v.out;omega)
   have e:xo A c (x.val*size) 1=A.map (·.add (x.val*size)):=by
    unfold xo;rw [qJ (by have:=v.out;omega),z_]
   rwa [e] at h2
  have hsh2: ∀s∈QC size l x.val,s.length<=25:=λs hs=>HSH.out s (by
   rw [J'] at hs;exact Q1 (j2 hs))
  have hcl:(QC size l x.val).length<=size:=by unfold QC;rw [qh];exact xK _ _
  have hbl:=GY _ hsh2;have KB:=qj (gC (A.map (·.add (x.val*size))) J J f.heap.size (QC size l x.val) f hRx (qx _) uK hL1 (qx _) hsh2);have hbk1:1<=(D1 (QC size l x.val)).length:=by
   unfold D1 UQ;have:=(jn ((QC size l x.val).headD []).length).1;rw [qK,qK];omega
  have hqs:q*size<n+size:=by
   obtain⟨p,hp⟩: ∃p,q=p+1:=⟨q-1,by have:=x.isLt;omega⟩
   have h1:=(HQ.out p).1 uK;have:=v.out;rw [hp,ql];omega
  have hps:i.length*size<=q*size:=zk _ uK;have p':=aH size l (i.map λy:Fin q=>y.val);have X:=aB size l HSH s1 (i.map λy:Fin q=>y.val);rw [zH] at p' X;have hm6':(hdP size l (i.map λy:Fin q=>y.val)).length<=10485800:=uK;have hm7':(bdP size l (i.map λy:Fin q=>y.val)).length<=83891200:=by
   refine qv X ?_;rw [Nat.mul_assoc,xH size];omega
  have HH:Hid (hdP size l ((i++[x]).map λy:Fin q=>y.val)=hdP size l (i.map λy:Fin q=>y.val)++xv (D1 (QC size l x.val)).length):=by
   rw [Hid,qg];unfold hdP;simp
  have HD:Hid (bdP size l ((i++[x]).map λy:Fin q=>y.val)=bdP size l (i.map λy:Fin q=>y.val)++D1 (QC size l x.val)):=by
   rw [Hid,qg];unfold bdP;simp
  simp only [hcv];have hJ:=qj N;generalize hdP size l (i.map λy:Fin q=>y.val)=hd at*
  generalize bdP size l (i.map λy:Fin q=>y.val)=bd at*
  generalize D1 (QC size l x.val)=I at*
  have hbk2:I.length<=2915:=uK;have KM:=λW''=>qj (vW I W'' uK);have hnm:=(jn I).2;have wbk:IntKind.u64.wrap (I.length:Int)=(I.length:Int):=by rw [qS];omega
  generalize xv I.length=nm at*
  generalize A.map (·.add (x.val*size))=Ax at*
  unfold jQ at KB KM;generalize hlb:I.length=lb at*
  generalize P':hd.length=L at*
  generalize S':bd.length=T at*
  generalize Y':nm.length=S at*
  replace hlb:=qj hlb;replace P':=qj P';replace S':=qj S';replace Y':=qj Y';replace J':=qj J';replace N':=qj N';clear N hcv hRx hsh2 hcl hbl hps p' X hqs
  gi_wp2
  refine⟨trivial,(CallsIn.inRound lp (Qz.2 KB)).mono ?_⟩;rintro e G ⟨A3,c3,rfl,d'⟩;obtain⟨M,P,Y,U,k60,k70,o60,o70,z⟩:=hJ.ex;have z':Below f.heap.size f G.drew:=d'.2.drew;have j:=k60.below z' k60.lt;have t:=k70.below z' k70.lt;have m:=qG o60 z';have r:=qG o70 z';have hap3:Hid (Vy A3 M):=Vy.I3 (g:=f.heap.size) (λk hk=>(d'.1.lt k (by rw [jH];exact hk)).1) (Fp o60)
  replace j:=qj j;replace t:=qj t;replace m:=qj m;replace r:=qj r;replace z:=qj z;clear k60 k70 o60 o70 z';have hJ1:=qj (hJ.fresh d'.2);have HK1:Hid (KeepsOthers f G):=U2 d'.2;have HO3:=qj d'.1;clear KB d'
  gi_wp2
  replace j:=j.out;replace t:=t.out;replace m:=m.out;replace r:=r.out;replace z:=z.out;have z6:G.drew.cell? d.heap.size=some (.slice M L P):=j.cell 0;have hJd:=hJ1.fresh (qZ _ G).drew;have HKd:KeepsOthers f G.drew:=HK1.trans (KeepsOthers.drew G);have hszd:W.heap.size<=G.drew.heap.size:=hJd.below.size;have hb1:L+S<=maxLen:=SJ;have hb2:(L+S)*1<=140737488355328:=uK;have hO3d:G.drew.ownsRow f.heap.size 5 1 (.slice A3 lb c3) lb (I.map B8):=HO3.out;have hRb:Reads G.drew G.drew.heap.size 1 A3 lb (I.map B8):=(Reads.zY HO3).drew;replace KM:=qj KM;refine oG 6 (λV=>V.cell? d.heap.size=some (.slice M L P)) AL (λ_ _ h=>h) AL z6 (λhHeld=> ?_);generalize G.drew=wd at*
  refine zq [0,1,2,3] (a':= ?_) ?_;refine vf 4 (qj ((KM.out _).out)) ?_;rintro e W2 ⟨A5,c5,rfl,u⟩;refine⟨_,rfl,(((j.below u.2 j.lt).cell 0)),λhHeld=> ?_⟩;have hJ2:=hJd.fresh u.2;have k62:=j.below u.2 j.lt;have k72:=t.below u.2 t.lt;have m':=qG m u.2;have o72:=qG r u.2;refine QY 5 rfl AL (λK E=> ?_)
  (refine jm _ rfl (.tmp 31) (.tmp 35) 30 rfl W.heap.size 5 i0 (.int .u8 0) 1 1 qu hi M' N9 O' rfl uK M L P _ rfl m' W2 A5 S c5 _ rfl u.reads (row_one u.reads) hb1 hb2 (qv hszd u.2.size) ?_;intro A8 c8 O ho6 N6 hs6;rw [<-qg] at ho6;obtain⟨OX,hJ3⟩:=hJ2.Ia k62 k72 m' o72 z ho6 N6 hs6;have kf6:=OX.frozen 0)
  refine E _ _ ((OX.cell 0)) (λhHeld=> ?_);clear E K;try simp only [Act.put,qQ,qY,qV]
  refine j4 6 rfl AL FV SQ (λK E=> ?_);go_simp;refine E _ _ ?_;clear E K;try simp only [Act.put,qQ,qY,qV]
  refine zV AL ?_ _;have Z':=qj hJ3;have HK3:Hid (KeepsOthers f (O.setCell d (.slice A8 (L+S) c8))):=(HKd.trans (U2 u.2)).trans (GK m' N6 _ _);have hB3:Below wd wd W2:=u.2;have hRb2:Hid (Reads (O.setCell d (.slice A8 (L+S) c8)) (O.setCell d (.slice A8 (L+S) c8)).heap.size 1 A3 lb (I.map B8)):=by
   have hx:wd.ownsRow f.heap.size 5 1 (.slice A3 lb c3) lb (I.map B8):=hO3d;exact Reads.zY (jw (uS (qG hx u.2) m' hap3 N6) OX FV _ _)
  clear hJ2 k62 k72 m' o72 ho6 N6 hs6 OX hJ3 u hHeld j t m r z z6 hJd HKd hszd kf6;generalize O.setCell d (.slice A8 (L+S) c8)=W5 at*
  obtain⟨M,P,Y,U,j,t,m,r,z⟩:=Z'.ex;have z7:W5.cell? ↑(d.heap.size+1)=some (.slice Y T U):=t.cell 0;have hb3:T+lb<=maxLen:=SJ;have hb4:(T+lb)*1<=140737488355328:=uK;replace j:=qj j;replace t:=qj t;replace m:=qj m;replace r:=qj r;replace z:=qj z
  gi_wp2_with (gi_at_builtin;refine PM _ rfl (.tmp 37) (.tmp 38) 30 rfl W.heap.size 5 i0 (.int .u8 0) 1 1 qu hi M' N9 O' rfl uK Y T U _ rfl r W5 A3 lb c3 _ rfl hRb2 (row_one hRb2) hb3 hb4 Z'.below.size ?_;intro A9 c9 w7 ho7 hg7 hs7;rw [<-qg] at ho7;obtain⟨X',I'⟩:=Z'.out.Lf j t m r z ho7 hg7 hs7;have kc7:=X'.cell 0;have kf7:=X'.frozen 0;have HK4:=qj (HK3.trans (GK r hg7 ↑(d.heap.size+1) (.slice A9 (T+lb) c9)));replace I':=qj I';clear ho7 hg7 hs7 X')
  refine⟨HK4.from _,DwJ.aX hJ I', ?_⟩
  dsimp only;rw [HH.out,HD.out,qK,qK,P'.out,S'.out,Y'.out,hlb.out];exact I'.out
 case done=>
  rintro D ys f hD rfl N E;have e1:(List.finRange q).map (λy:Fin q=>y.val)=List.range q:=by
   have h:=aZ q (λy=>y);simpa using h
  rw [e1] at N;have hDlt:D<f.heap.size:=jz E;have hJ:=qj N;obtain⟨M,P,Y,U,j,t,m,r,z⟩:=N.ex;have z6:f.cell? d.heap.size=some (.slice M (hdP size l (List.range q)).length P):=j.cell 0;have z7:f.cell? ↑(d.heap.size+1)=some (.slice Y (bdP size l (List.range q)).length U):=t.cell 0;have p':=aH size l (List.range q);have X:=aB size l HSH s1 (List.range q);rw [yS] at p' X;have hqs:q*size<=n+size:=by
   rcases zA q with h|h
   ·rw [h];omega
   ·obtain⟨p,hp⟩: ∃p,q=p+1:=⟨q-1,uK⟩
    have h1:=(HQ.out p).1 uK;have:=v.out;rw [hp,ql];omega
  have hm7':(bdP size l (List.range q)).length<=83891200:=by
   refine qv X ?_;rw [Nat.mul_assoc,xH size];omega
  have KA:=Yz f M Y (hdP size l (List.range q)).length (bdP size l (List.range q)).length P U _ _ (Reads.zY m) (Reads.zY r) uK;rw [<-HR.out] at KA;unfold jQ at KA;generalize (hdP size l (List.range q)).length=L at*
  generalize (bdP size l (List.range q)).length=T at*
  have hBW:=qj hJ.below;have hKK:=qj E;replace KA:=qj KA;clear N j t m r z p' X hm7' hqs E e1 hJ
  go_wp2_with fail;refine KA.mono ?_;rintro e O ⟨A8,c8,rfl,hf6⟩;have hBa:Below f.heap.size f O:=((qZ _ _).alloc (qx _) (.cells #[.slice M L P, .slice Y T U] 30)).trans (hf6.2.mono s8)
  have hK6:Hid (O.heap[D]? =some (.deferred (some []))):=(hBa.block D hDlt).trans hKK.out;have hO6:=qj (qi hf6.1 (qv hBW.size (show f.heap.size<=_ by simp)))
  have hB6:=qj (hBW.trans (hBa.mono hBW.size));clear KA hf6 hBa
  go_wp2_with fail;refine⟨s8, .inl ⟨_,_,rfl,run_takeDeferred hK6, ?_⟩⟩
  refine⟨_,results_tmp2 rfl _ _ _, ?_⟩;exact⟨A8,c8,rfl,ownsRow_putObj hO6 _ hK6 rfl,hB6.trans (belowK_b (w:=W) (qx _) O D _ _ (qv hl3 hD) hK6 rfl rfl)⟩
 case stop=>
  rintro D c i W _ _ h _;exact h.elim
end
end
section
section
open Go.RowKit
theorem zM.single {W:World} {base b:Nat} {a:q'} {c:qn} (h:W.ownsRow base 5 1 (.slice a n b) n (c.map B8)) (d:base<=W.heap.size):
  zM (W.alloc (.cells #[.slice a n b] 30)) 0 base W 1 1 [c]:=by
 have e:Below W W (W.alloc (.cells #[.slice a n b] 30)):=z8 _;have g:=(j8.own (b0:=0) h).1;have f:=(j8.own (b0:=0) h).2;subst g;exact zM.AH (vs:=[.slice a c b]) (⟨s8, .inr ⟨W,1, #[.slice a c b],rfl,d,heap_alloc_new W _,qx _,SJ,s8,s8⟩⟩) rfl (λi j hi=>by
  match i with
  |0=>
   injection hi with hi;subst hi;exact⟨a,b,rfl,f.below (qp _) d e⟩
  |i+1=>simp at hi) (qp _) (qv d e.size)
def Tl (size a:Nat) (T:List qn) (L:List (List Nat)):List qn:=gO size T::L.map (FZ a)
theorem aA (size b:Nat) (f h:Option Addr) (d g a i:Nat) (T:List (List UInt8)) (L:List (List Nat)) (W:World) (h1:Reads W W 1 f d (T.map STR)) (h2:Yv W W h a L) (hct:d<=g) (s1:1<=size) (s2:size<=64) (hr:Gf T=true) (hbd:b<=20000) (R:d=a) (hfew:a<=50000)
  (hL: ∀l∈L,dy b (-1) (J9 l)=true/\1<=l.length) (O:(Fh size b (T,L)).length<=1000000000):
  Calls prog 60 #[size,b, .agg (ixV f d g h a i)] W (Qr 5 W (Fh size b (T,L)) 0):=by
 have iL:=h1.len;have N9:=h2.len;obtain⟨i1,z',M',u',d'⟩:=qA Zz;replace z':=qj z';replace M':=qj M';replace u':=qj u';replace d':=qj d';unfold ixV;have t:Hid (Below W W (W.alloc (.cells #[.slice f d g, .slice h a i] 102))):=(qZ _ _).alloc (qx _) _;have v:Hid (Blk (W.alloc (.cells #[.slice f d g, .slice h a i] 102)) W 102 #[.slice f d g, .slice h a i]):=Blk.new _ _ _;have c0:(W.alloc (.cells #[.slice f d g, .slice h a i] 102)).cell? W.heap.size=some (.slice f d g):=v.cell 0;have c1:(W.alloc (.cells #[.slice f d g, .slice h a i] 102)).cell? ⟨W,1,none⟩=some (.slice h a i):=v.cell 1;have s:=aC size f g W T (W.alloc (.cells #[.slice f d g, .slice h a i] 102)) (by rw [iL];exact h1.below t) t.size uK s1 s2 hr
 rw [iL] at s;unfold Qr at s;have X':Fh size b (T,L)=(Tl size b T L).flatten:=rfl;rw [X'] at O⊢;have hpl:Hid (Tl size b T L=gO size T::L.map (FZ b)):=rfl;generalize Tl size b T L=P at*
 generalize gO size T=D at*
 replace s:=qj s;have H2:=qj h2;have HL:=qj hL;replace O:=qj O;replace N9:=qj N9;have b1: ¬(b:Int)<0:=uK;have b2: ¬(20000:Int)<(b:Int):=uK;have b3:((d:Int) !=(a:Int))=false:=by rw [R];simp
 have b4:(d:Int)=(a:Int):=by rw [R]
 clear h1 h2 hL hr iL X' hct;replace R:=qj R;go_enter func60,ntmps60
 go_wp2_with fail;generalize W.alloc (.cells #[.slice f d g, .slice h a i] 102)=w0 at*
 refine s.mono ?_;rintro e n ⟨A1,d1,rfl,Q⟩;have B:=qj (t.trans (Q.2.mono t.size));have J':=v.below Q.2 v.lt;have w:=zM.single (qi Q.1 t.size) B.size;obtain⟨u,D'⟩: ∃u,u=D.length:=⟨_,rfl⟩;rw [<-D'] at w⊢;have X:Below n n (n.alloc (.cells #[.slice A1 u d1] 30)):=(qZ _ _).alloc (qx _) _;have Y':=qj (B.trans (X.mono B.size));have Z':(n.alloc (.cells #[.slice A1 u d1] 30)).cell? ⟨W,1,none⟩=some (.slice h a i):=(J'.below X J'.lt).cell 1;replace w:=qj w;replace D':=qj D';clear s Q J' X v t c0 c1
 go_wp2_with fail;generalize n.alloc (.cells #[.slice A1 u d1] 30)=w2 at*
 generalize n.heap.size=g1 at*
 go_loopw [10,45] (λv10 p' wr=> ∃(k m c:Nat) (A:Option Addr),v10= .slice A m c/\p'=(k:Value)/\k<=a/\m<=k+1/\Hid (zM wr 0 W A m c (D::(L.take k).map (FZ b)))/\Hid (Below W W wr)) (λ_ p' _=>a-(intOf p').toNat)
 case atStart=>exact⟨0,1,1,some ⟨g1,0,none⟩,rfl,rfl,qp _,qx _,w.out,Y'.out⟩
 case round=>
  clear w Y' Z' B;obtain⟨k,m,c,A,rfl,rfl,hk,hm,M,j⟩:=hrel;by_cases hlt:k<a
  ·have hlt':(k:Int)<(a:Int):=uK
   obtain⟨ad,l,Ai,ci,hAl,I,hcell,Q'⟩:=(H2.below j).row hlt;subst hAl;obtain⟨P',E⟩:=HL.out l (zQ I);have y:=rO b Ai l ci wr.heap.size l wr (Q'.more j.size) (qx _) hbd P' E;unfold oC at y;have htk:Hid ((L.take (k+1)).map (FZ b)=(L.take k).map (FZ b)++[FZ b l]):=by
    rw [Hid,qs,I,qg];rfl
   generalize FZ b l=x at*
   have hl0:((l.length:Int)==0)=false:=by simp;intro e;rw [e] at E;exact absurd E FV
   have hl1: ¬(l.length:Int)=0:=uK;generalize l.length=ll at*
   replace y:=qj y;replace I:=qj I;clear Q' P' E
   go_wp2_with fail;refine y.mono ?_;rintro e N ⟨m',Y,rfl,S⟩;have S':=qj (j.trans (S.2.mono j.size));have G':=qj (qi S.1 j.size);have z:=qj (M.below S.2);obtain⟨q,J⟩: ∃q,q=x.length:=⟨_,rfl⟩;rw [<-J] at G'⊢;have hln:Hid (x.length=q):=J.symm;replace J:=qj J;have hc1:m+1<=maxLen:=SJ
   have hc2:(m+1)*24<=140737488355328:=uK;clear y S M j;have hLa:=z.below ((qZ _ N).alloc (qx _) (.cells #[.slice m' q Y] 30));have V:=j8.below ((j8.own G').2) z.b0s z.bs ((qZ _ N).alloc (qx _) (.cells #[.slice m' q Y] 30));obtain⟨⟨vs,o,C,K⟩,p,G⟩:=hLa;replace o:=qj o;replace C:=qj C;replace K:=qj K;replace p:=qj p;replace G:=qj G;replace V:=qj V;clear z G'
   go_wp2_with (at_builtin;refine qF _ rfl (.tmp 62) (.tmp 64) 87 rfl W 30 i1 (.slice none 0 0) 1 24 jr z' M' u' d' rfl uK A m c _ rfl o (N.heap.size+1) _ 1 1 _ rfl (zU N _ _) (one_one rfl) hc1 hc2 p ?_;intro A3 c3 w4 O' Z _hsq;have I':Below W W w4:=zG (S'.alloc S'.size (.cells #[.slice m' q Y] 30)) Z o p.out;have N6:=zM.Fv hln V o C K G p O' Z;skip;replace I':=qj I';replace N6:=qj N6;clear Z _hsq O' o C K p G V)
   go_roundw
   case rel=>exact⟨k+1,m+1,c3,A3,by first|rfl|simp,by first|rfl|simp,uK,uK,by rw [Hid,htk.out];exact N6,I'.out⟩
   case measure=>simp [intOf];omega
  ·obtain rfl:k=a:=uK
   have hge: ¬(k:Int)<(k:Int):=uK;have U':Hid (zM wr 0 W A m c P):=by
    have:=M.out;rw [qH (by rw [N9.out];exact qx _),<-hpl.out] at this
    exact this
   have hPl:=U'.len;have U:=uw P m;rw [qH uK] at U;have hs:=uT (k:=m) U'.out.XB (qx _) (qx _);rw [qH uK] at hs;have ht:total (P.map (List.map B8))=P.flatten.length:=by unfold total;rw [U,zH]
   have r:=uU A m c _ wr uK (by rw [ht];exact O) hs
   rw [ht,U] at r;obtain⟨F,H⟩: ∃F,F=P.flatten:=⟨_,rfl⟩;rw [<-H] at r;replace r:=qj r;replace H:=qj H;clear M hPl U hs ht
   go_wp2_with fail;refine r.mono ?_;rintro e w9 ⟨A9,c9,rfl,N',OX⟩;have HF:Hid (yG W w9 5 A9 F c9 (F.map B8)):=⟨qi N' j.size,j.trans (OX.mono j.size)⟩;clear r N' OX
   go_wp2_with fail
   go_ret2;rw [<-H.out];exact⟨A9,c9,rfl,HF.out⟩
end
end
section
section
open Go.RowKit
def h3A (o:Opt) (n:Int) (p:Int):Array Value:= #[o.blk, .bool o.plain,o.bkt,o.data,o.par,o.chunk,n, .int .u8 p]
structure H3 (W:World) (g gc:Nat) (cs:Array Value) (A:q') (N cap:Nat) (b:qn) (c:Cu):Prop where
 blk:Blk W g 76 cs
 cur:Cur W gc A N cap b c
 ne:g≠gc
section
variable {W W' : World} {g gc N cap : Nat} {cs : Array Value} {A : q'} {b : qn} {c c' : Cu}
theorem H3.step (h:H3 W g gc cs A N cap b c) (a:Cur W' gc A N cap b c') (d:qE [gc] W W'):H3 W' g gc cs A N cap b c':=
 ⟨d.blk h.blk (by simpa using h.ne),a,h.ne⟩
theorem H3.fresh (h:H3 W g gc cs A N cap b c) (a:Below W W W'):H3 W' g gc cs A N cap b c:=h.step (h.cur.fresh a) (qE.jq a)
theorem H3.fp (h:H3 W g gc cs A N cap b c): ∀k∈fpS A,k≠g:=qT h.cur.own h.blk FV
theorem H3.set (h:H3 W g gc cs A N cap b c) (i:Nat) (u:Value):H3 (W.setCell ⟨g,i,none⟩ u) g gc (cs.setIfInBounds i u) A N cap b c:=
 ⟨h.blk.zh i u,h.cur.jZ ((qE.refl [g] W).zh (qy.2 rfl) u) (by simpa using λe=>h.ne e.symm) (λk a=>by simpa using h.fp k a),h.ne⟩
end
def oP (W:World) (a:qn) (e:Ending) (b:World):Prop:=
 Below W W b/\((1<(a.getD 5 0).toNat/\e= .returned (.tuple #[.pointer none, .int .i64 2]))\/(¬1<(a.getD 5 0).toNat/\ ∃g,e= .returned (.tuple #[.pointer (some ⟨g,0,none⟩), .int .i64 (vM 3 (YX a))])/\W.heap.size<=g/\Blk b g 76 (h3A (YX a) (dM a:Nat) ((a.getD 5 0).toNat:Int))))
theorem ou (a b:UInt8):vk [a,b]<65536:=by
 have h:=Yy [a,b];rw [show [a,b].length=2 from rfl,show 256^2=65536 from by decide] at h;exact h
theorem It (a b c d:UInt8):vk [a,b,c,d]<4294967296:=by
 have h:=Yy [a,b,c,d];rw [show [a,b,c,d].length=4 from rfl,show 256^4=4294967296 from by decide] at h;exact h
theorem Ny (A:Option Addr) (c B:Nat) (xs:List UInt8) (W:World) (h:Reads W B 1 A 21 (xs.map B8)) (hB:B<=W.heap.size) (hc:21<=c) (hm:c<=maxLen):
  Calls prog 168 #[.slice A 21 c] W (oP W xs):=by
 have hl:xs.length=21:=h.len
 match xs,hl with
 |[b0,b1,b2,b3,b4,a,b,i,f,q,j,n,r,o,l,m,s,t,v,w,u],_=>
 obtain⟨i0,hi,hz0,hz1,hz2⟩:=qA QB;have hcut:=jI (P:=prog) 30 5 i0 1 qu hi hz1 A 21 c 5 .i64 uK;rw [show((5:Nat):Int)=5 from rfl,show 21-5=16 from rfl] at hcut
 have KN:=qj (Qk (xo A c 5 1) 16 (c-5) B [a,b,i,f,q,j,n,r,o,l,m,s,t,v,w,u] W (h.VC (k:=5) uK hc) hB uK);have T:=qj (λW gc d cap h=>QS W gc d 16 cap [a,b,i,f,q,j,n,r,o,l,m,s,t,v,w,u] ⟨0,0⟩ h);have O:=qj (λW gc d cap h=>QS W gc d 16 cap [a,b,i,f,q,j,n,r,o,l,m,s,t,v,w,u] ⟨1,0⟩ h);have Q:=qj (λW gc d cap h=>QS W gc d 16 cap [a,b,i,f,q,j,n,r,o,l,m,s,t,v,w,u] ⟨2,0⟩ h);have R:=qj (λW gc d cap h=>QS W gc d 16 cap [a,b,i,f,q,j,n,r,o,l,m,s,t,v,w,u] ⟨3,0⟩ h);have K5:=qj (λW gc d cap h=>VW W gc d 16 cap [a,b,i,f,q,j,n,r,o,l,m,s,t,v,w,u] ⟨4,0⟩ 2 h uK uK);have V:=qj (λW gc d cap h=>VW W gc d 16 cap [a,b,i,f,q,j,n,r,o,l,m,s,t,v,w,u] ⟨6,0⟩ 2 h uK uK);have X:=qj (λW gc d cap h=>VW W gc d 16 cap [a,b,i,f,q,j,n,r,o,l,m,s,t,v,w,u] ⟨8,0⟩ 4 h uK uK);rw [show j_ [a,b,i,f,q,j,n,r,o,l,m,s,t,v,w,u] ⟨0,0⟩=(a,⟨1,0⟩) from rfl] at T
 rw [show j_ [a,b,i,f,q,j,n,r,o,l,m,s,t,v,w,u] ⟨1,0⟩=(b,⟨2,0⟩) from rfl] at O
 rw [show j_ [a,b,i,f,q,j,n,r,o,l,m,s,t,v,w,u] ⟨2,0⟩=(i,⟨3,0⟩) from rfl] at Q
 rw [show j_ [a,b,i,f,q,j,n,r,o,l,m,s,t,v,w,u] ⟨3,0⟩=(f,⟨4,0⟩) from rfl] at R
 rw [show Yb [a,b,i,f,q,j,n,r,o,l,m,s,t,v,w,u] ((2:Nat):Int) ⟨4,0⟩=(vk [q,j],⟨6,0⟩) from rfl,show((2:Nat):Int)=2 from rfl] at K5
 rw [show Yb [a,b,i,f,q,j,n,r,o,l,m,s,t,v,w,u] ((2:Nat):Int) ⟨6,0⟩=(vk [n,r],⟨8,0⟩) from rfl,show((2:Nat):Int)=2 from rfl] at V
 rw [show Yb [a,b,i,f,q,j,n,r,o,l,m,s,t,v,w,u] ((4:Nat):Int) ⟨8,0⟩=(vk [o,l,m,s],⟨12,0⟩) from rfl,show((4:Nat):Int)=4 from rfl] at X
 dsimp only at T O Q R K5 V X;unfold oP;rw [show [b0,b1,b2,b3,b4,a,b,i,f,q,j,n,r,o,l,m,s,t,v,w,u].getD 5 0=a from rfl]
 have hop:YX [b0,b1,b2,b3,b4,a,b,i,f,q,j,n,r,o,l,m,s,t,v,w,u]=⟨(vk [n,r]:Nat),decide (a=1),(b.toNat:Int),(i.toNat:Int),(f.toNat:Int),(vk [q,j]:Nat)⟩:=rfl;have hn3:dM [b0,b1,b2,b3,b4,a,b,i,f,q,j,n,r,o,l,m,s,t,v,w,u]=vk [o,l,m,s]:=rfl;rw [hop,hn3];generalize [a,b,i,f,q,j,n,r,o,l,m,s,t,v,w,u]=bs at*
 have u1:=ou n r;have u2:=ou q j;have u3:=It o l m s;generalize vk [n,r]=G at*
 generalize vk [q,j]=F at*
 generalize vk [o,l,m,s]=J at*
 have hp1:decide (a=1)=decide (a.toNat=1):=by
  by_cases h:a=1
  ·subst h;rfl
  ·have:a.toNat≠1:=λe=>h (jG.1 e)
   rw [qc h,qc this]
 rw [hp1];have hy:=a.toNat_lt;have h6:=b.toNat_lt;have h7:=i.toNat_lt;have h8:=f.toNat_lt;rw [show B8 a= .int .u8 (a.toNat:Int) from rfl] at T
 rw [show B8 b= .int .u8 (b.toNat:Int) from rfl] at O
 rw [show B8 i= .int .u8 (i.toNat:Int) from rfl] at Q
 rw [show B8 f= .int .u8 (f.toNat:Int) from rfl] at R
 generalize a.toNat=y at*
 generalize b.toNat=D at*
 generalize i.toNat=C at*
 generalize f.toNat=x at*
 have hd:((y:Int)==1)=decide (y=1):=by
  by_cases h:y=1
  ·subst h;rfl
  ·rw [qc h];simp;omega
 generalize hpl:decide (y=1)=H at*
 replace hpl:=qj hpl;have e6:IntKind.i64.wrap (D:Int)=(D:Int):=SX;have e7:IntKind.i64.wrap (C:Int)=(C:Int):=SX;have e8:IntKind.i64.wrap (x:Int)=(x:Int):=SX;have eb:IntKind.i64.wrap (G:Int)=(G:Int):=SX;have ec:IntKind.i64.wrap (F:Int)=(F:Int):=SX;have en:IntKind.i64.wrap (J:Int)=(J:Int):=SX;unfold jS at T O Q R K5 V X;clear h hl hi hz0 hz1 hz2 hop hn3 hp1;go_enter func168,ntmps168
 go_wp2_with fail;refine KN.mono ?_;rintro e w1 ⟨gc,d,cap,rfl,hcr,d',-,hB1⟩;have K1a:=qj (T.out w1 gc d cap hcr);have u':=qj hB1;replace d':=qj d';clear KN T hcr hB1 hcut
 go_wp2_with fail;refine K1a.mono ?_;rintro e K ⟨rfl,U',hm2⟩;have p':Hid (Below W.heap.size W K):=u'.trans (hm2.below (λk hk=>by rw [qy.1 hk];exact d') u'.size)
 have HH:Hid (H3 (K.alloc (.cells #[(), .bool H,(),(),(),(),(), .int .u8 (y:Int)] 76)) K gc #[(), .bool H,(),(),(),(),(), .int .u8 (y:Int)] d 16 cap bs ⟨1,0⟩):=⟨Blk.new _ _ _,U'.fresh ((qZ _ _).alloc (qx _) _),λe=>by have:=U'.blk.lt;omega⟩
 have J':Hid (Below W.heap.size W (K.alloc (.cells #[(), .bool H,(),(),(),(),(), .int .u8 (y:Int)] 76))):=p'.alloc p'.size _;have L:Hid (W.heap.size<=K.heap.size):=p'.size;have K2a:=qj (O.out _ gc d cap HH.cur);clear K1a U' hm2 u' p' O
 go_wp2_with fail;generalize K.alloc (.cells #[(), .bool H,(),(),(),(),(), .int .u8 (y:Int)] 76)=w3 at*
 generalize K.heap.size=g at*
 have N:Hid (∀k∈[gc],W.heap.size<=k):=λk hk=>by rw [qy.1 hk];exact d'.out
 refine K2a.mono ?_;rintro e w4 ⟨rfl,OX,D'⟩;have HH4:=qj (HH.step OX D');have G':=qj (J'.trans (D'.below N J'.size));have K3a:=qj (Q.out _ gc d cap OX);clear K2a OX D' HH J' Q
 go_wp2_with fail;refine K3a.mono ?_;rintro e w5 ⟨rfl,Q',N9⟩;have HH5:=qj (HH4.step Q' N9);have Y':=qj (G'.trans (N9.below N G'.size));have K4a:=qj (R.out _ gc d cap Q');clear K3a Q' N9 HH4 G' R
 go_wp2_with fail;refine K4a.mono ?_;rintro e M ⟨rfl,hc6,I'⟩;have I:=qj (HH5.step hc6 I');have HB6:=qj (Y'.trans (I'.below N Y'.size));clear K4a hc6 I' HH5 Y';have f2:=I.blk.frozen 2;have f3:=I.blk.frozen 3;have f4:=I.blk.frozen 4;have g2:M.cell? ⟨g,2,none⟩=some (.int .i64 0):=I.blk.cell 2;have g3:M.cell? ⟨g,3,none⟩=some (.int .i64 0):=I.blk.cell 3;have g4:M.cell? ⟨g,4,none⟩=some (.int .i64 0):=I.blk.cell 4;have O':Hid (H3 (((M.setCell ⟨g,2,none⟩ D).setCell ⟨g,3,none⟩ C).setCell ⟨g,4,none⟩ x) g gc #[(), .bool H,D,C,x,(),(), .int .u8 (y:Int)] d 16 cap bs ⟨4,0⟩):=((I.set 2 _).set 3 _).set 4 _;have z':Hid (Below W.heap.size W (((M.setCell ⟨g,2,none⟩ D).setCell ⟨g,3,none⟩ C).setCell ⟨g,4,none⟩ x)):=((HB6.setCell (p:=⟨g,2,none⟩) L _).setCell (p:=⟨g,3,none⟩) L _).setCell (p:=⟨g,4,none⟩) L _;have K5a:=qj (K5.out _ gc d cap O'.cur);clear K5
 go_wp2_with fail;clear I HB6 f2 f3 f4 g2 g3 g4;generalize ((M.setCell ⟨g,2,none⟩ D).setCell ⟨g,3,none⟩ C).setCell ⟨g,4,none⟩ x=w7 at*
 refine K5a.mono ?_;rintro e w8 ⟨rfl,Z',S'⟩;have HH8:=qj (O'.step Z' S');have M':=qj (z'.trans (S'.below N z'.size));have K6a:=qj (V.out _ gc d cap Z');clear K5a Z' S' O' z' V
 go_wp2_with fail;refine K6a.mono ?_;rintro e U ⟨rfl,hc9,X'⟩;have S:=qj (HH8.step hc9 X');have HB9:=qj (M'.trans (X'.below N M'.size));clear K6a hc9 X' HH8 M';have f5:=S.blk.frozen 5;have f0:=S.blk.frozen 0;have g5:U.cell? ⟨g,5,none⟩=some (.int .i64 0):=S.blk.cell 5;have g0:U.cell? g=some (.int .i64 0):=S.blk.cell 0;have HH10:Hid (H3 ((U.setCell ⟨g,5,none⟩ F).setCell g G) g gc #[G, .bool H,D,C,x,F,(), .int .u8 (y:Int)] d 16 cap bs ⟨8,0⟩):=(S.set 5 _).set 0 _;have HB10:Hid (Below W.heap.size W ((U.setCell ⟨g,5,none⟩ F).setCell g G)):=(HB9.setCell (p:=⟨g,5,none⟩) L _).setCell (p:= g) L _;have K7a:=qj (X.out _ gc d cap HH10.cur);clear X
 go_wp2_with fail;clear S HB9 f5 f0 g5 g0;generalize (U.setCell ⟨g,5,none⟩ F).setCell g G=w10 at*
 refine K7a.mono ?_;rintro e z ⟨rfl,hc11,N6⟩;have E:=qj (HH10.step hc11 N6);have P':=qj (HB10.trans (N6.below N HB10.size));clear K7a hc11 N6 HH10 HB10;have f6:=E.blk.frozen 6;have g6:z.cell? ⟨g,6,none⟩=some (.int .i64 0):=E.blk.cell 6;have Y:Hid (H3 (z.setCell ⟨g,6,none⟩ J) g gc (h3A ⟨(G:Int),H,(D:Int),(C:Int),(x:Int),(F:Int)⟩ (J:Int) (y:Int)) d 16 cap bs ⟨12,0⟩):=E.set 6 _;have m':Hid (Below W.heap.size W (z.setCell ⟨g,6,none⟩ J)):=P'.setCell (p:=⟨g,6,none⟩) L _;have g7:(z.setCell ⟨g,6,none⟩ J).cell? ⟨g,7,none⟩=some (.int .u8 (y:Int)):=Y.blk.cell 7;have g7':z.cell? ⟨g,7,none⟩=some (.int .u8 (y:Int)):=E.blk.cell 7;have Z:=qj (JX 3 (G:Int) (D:Int) (C:Int) (x:Int) (F:Int) H (z.setCell ⟨g,6,none⟩ J) ⟨uK,uK⟩);rw [VT 3 (G:Int) (D:Int) (C:Int) (x:Int) (F:Int) H] at Z;obtain⟨CE,iL⟩: ∃CE,CE=vM 3 ⟨(G:Int),H,(D:Int),(C:Int),(x:Int),(F:Int)⟩:=⟨_,rfl⟩;rw [<-iL] at Z;replace iL:=qj iL;have z0:z.cell? g=some (G:Value):=E.blk.cell 0;have z1:z.cell? ⟨g,1,none⟩=some (.bool H):=E.blk.cell 1;have z2:z.cell? ⟨g,2,none⟩=some (D:Value):=E.blk.cell 2;have z3:z.cell? ⟨g,3,none⟩=some (C:Value):=E.blk.cell 3;have z4:z.cell? ⟨g,4,none⟩=some (x:Value):=E.blk.cell 4;have z5:z.cell? ⟨g,5,none⟩=some (F:Value):=E.blk.cell 5;by_cases hy1:1<y
 ·have hy1':(1:Int)<(y:Int):=uK
  clear Y E P' Z
  go_wp2_with fail
  go_ret2;exact⟨m'.out, .inl ⟨hy1,rfl⟩⟩
 ·have hy1': ¬(1:Int)<(y:Int):=uK
  clear E P'
  go_wp2_with fail;refine Z.mono ?_;rintro e w13 ⟨rfl,N'⟩;have HB13:=qj (m'.trans (N'.mono m'.size));have HZ:=qj (Y.blk.below N' Y.blk.lt);clear Z N' m' Y z0 z1 z2 z3 z4 z5 g7 g7' f6 g6
  go_wp2_with fail
  go_ret2;rw [<-iL.out];exact⟨HB13.out, .inr ⟨hy1,g,rfl,L.out,HZ.out⟩⟩
end
end
end Go.Proofs.YtfnlfpcfkbdcmaaGreatDoor
