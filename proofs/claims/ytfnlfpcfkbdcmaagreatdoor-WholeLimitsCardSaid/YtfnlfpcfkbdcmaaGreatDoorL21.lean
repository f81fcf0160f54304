import Derived.Test.YtfnlfpcfkbdcmaaGreatDoorL18
set_option linter.unusedSimpArgs false
set_option linter.unusedVariables false
set_option maxRecDepth 100000
set_option maxHeartbeats 0
open Go.Proofs.Tryz
namespace Go.Proofs.YtfnlfpcfkbdcmaaGreatDoor
open Go.RowKit
variable {A:q'}{N a at2 at_ cap e gc gf gr gs gt hif his lof los n x:Nat}{W W' W0:World}{b bs lf ls:qn}{c c':Cu}{cs:Array Value}{v1 v2:Value}
theorem MY {l s:Nat} (h:G5 bs x l=some s):s<bs.length:=by
 unfold G5 at h;split at h
 ·cases h
 ·rename_i h2;have h3:x-Pk bs l<(YQ bs l).length:=by
   have:Pp bs l=(YQ bs l).length:=rfl;omega
  rw [qd,qX h3] at h;have h4:(YQ bs l)[x-Pk bs l]=s:=zy h;have h5:=zx h3;rw [h4] at h5;unfold YQ at h5;split at h5
  ·cases h5
  ·have:=uh l _ 0 s h5;omega
theorem gy {there:Nat}: ∀(f l s k:Nat),Kg bs x there f l=some (s,k)->s<bs.length
 |0,_,_,_,h=>by simp [Kg] at h
 |f+1,l,s,k,h=>by
  unfold Kg at h;split at h
  ·cases h
  ·cases a:G5 bs (x/2^(15-l)) l with
   |none=>rw [a] at h;exact gy f _ s k h
   |some b=>
    rw [a] at h;have:b=s:=by injection h with h;exact zo Prod.fst h
    rw [<-this];exact MY a
theorem gQ {b:qn} {at_:Nat} (h:kC bs b at_=0): ∃s:Nat,s<bs.length/\P4 bs b at_=(s:Int):=by
 unfold kC at h;unfold P4;cases a:DR bs b at_ with
 |none=>rw [a] at h;dsimp only at h;split at h<;>cases h
 |some p=>exact⟨_,gy _ 1 _ _ a,rfl⟩
theorem uc (b:qn) (n:Nat): ∀(f at_:Nat) (a:qn) (c:Bool),a.length<=n->n-a.length<=f->(F3 b n f at_ a c).1=0->(F3 b n f at_ a c).2.1.length=n/\Y2 (F3 b n f at_ a c).2.1=0
 |0,at_,a,c,h1,h2,h=>by
  unfold F3 at h⊢;dsimp only at h⊢;split at h
  ·cases h
  ·rename_i d
   rw [qJ d];exact⟨uK,by simpa using d⟩
 |f+1,at_,a,c,h1,h2,h=>by
  rw [F3.eq_2] at h⊢;by_cases e:n<=a.length
  ·rw [qk e] at h⊢
   dsimp only at h⊢;split at h
   ·cases h
   ·rename_i d
    rw [qJ d];exact⟨uK,by simpa using d⟩
  ·rw [qJ e] at h⊢
   by_cases h4:q7 b at_<4
   ·rw [qk h4] at h;cases h
   ·rw [qJ h4] at h⊢
    by_cases h5:QF b at_ 4≠0
    ·rw [qk h5] at h⊢
     exact uc b n f _ _ _ (by rw [qK];show _+1<=n;omega) (by rw [qK];show n-(_+1)<=f;omega) h
    ·rw [qJ h5] at h⊢
     by_cases h6:q7 b (at_+4)<6
     ·rw [qk h6] at h;cases h
     ·rw [qJ h6] at h⊢
      by_cases h7:c=true\/n-a.length<=QF b (at_+4) 6
      ·rw [qk h7] at h;cases h
      ·rw [qJ h7] at h⊢
       exact uc b n f _ _ _ (by rw [qK,zT];omega) (by rw [qK,zT];omega) h
theorem Ue {b:qn} {at_:Nat} (h:(YM b n at_).1=0):(YM b n at_).2.1.length=n/\Y2 (YM b n at_).2.1=0:=
 uc b n n _ _ _ (qp _) s8 h
structure TR0 (W:World) (gt gr:Nat) (v1 v2:Value) (A:q') (N cap:Nat) (b:qn) (at_:Nat):Prop where
 blk:Blk W gt 382 #[PT gr,v1,v2]
 rd:Rd W gr A N cap b at_
 ne:gt≠gr
theorem TR0.step (h:TR0 W gt gr v1 v2 A N cap b at_) (a:Rd W' gr A N cap b at2) (c:qE [gr] W W'):TR0 W' gt gr v1 v2 A N cap b at2:=
 ⟨c.blk h.blk (by simpa using h.ne),a,h.ne⟩
theorem TR0.fresh (h:TR0 W gt gr v1 v2 A N cap b at_) (a:Below W W W'):TR0 W' gt gr v1 v2 A N cap b at_:=h.step (h.rd.fresh a) (qE.jq a)
theorem TR0.cell (h:TR0 W gt gr v1 v2 A N cap b at_):W.cell? gt=some (.pointer gr)/\W.cell? ⟨gt,1,none⟩=some v1/\W.cell? ⟨gt,2,none⟩=some v2:=⟨h.blk.cell 0,h.blk.cell 1,h.blk.cell 2⟩
def EA (W:World) (c:Nat) (A:q') (N cap:Nat) (b:qn) (r:Int×qn×Nat) (e:Ending) (a:World):Prop:=
 Rd a c A N cap b r.2.2/\qE [c] W a/\((r.1≠0/\e= .returned (.tuple #[.pointer none, .int .i64 r.1]))\/
  (r.1=0/\ ∃d lo hi,e= .returned (.tuple #[PT d,()])/\Cdr a d lo hi r.2.1/\W.heap.size<=lo/\hi<=a.heap.size))
theorem DY (W:World) (t c:Nat) (B C:Value) (A:q') (N cap at_ n:Nat) (b:qn) (F:n<=300) (h:TR0 W t c B C A N cap b at_):
  Calls prog 267 #[PT t,n] W (EA W c A N cap b (YM b n at_)):=by
 have a:=qj (EK W c A N _ _ n b F h.rd);have c0:=h.cell.1;have k:= Ue (b:=b) (n:=n) (at_:=at_);unfold uG at a;unfold PT;generalize YM b n at_=r at*;obtain⟨f,j,w⟩:=r;dsimp only at a k;clear h;by_cases h0:f=0
 focus
  obtain⟨-,x⟩:=k h0;have E:=qj x;subst h0;clear k x
 rotate_left
 focus
  have I:((f:Int)==0)=false:=by simp;exact h0
  have G:((f:Int) !=0)=true:=by simp;exact h0
  have s:=qj h0;clear k
 rotate_left
 all_goals
  go_in;go_wp2_with fail;refine a.mono ?_;rintro e l ⟨v,c1,rfl,i,d,g⟩
 ·have y:=qj (BZ v j c1 l j l (Reads.zY i) (qx _) E);have u:=qj d;have o:=qj g;clear i d g c0;go_wp2_with fail;refine y.mono ?_;rintro e D ⟨z,rfl,q,m⟩;have p:Hid (EA W c A N cap b (0,j,w) (.returned (.tuple #[.pointer z,()])) D):=
   ⟨u.fresh m,o.fresh m, .inr ⟨rfl,z,_,_,rfl,q,o.size,qx _⟩⟩
  clear q m;go_wp2;go_ret2;exact p.out
 ·have p:Hid (EA W c A N cap b (f,j,w) (.returned (.tuple #[.pointer none,f])) l):=⟨d,g, .inl ⟨s,rfl⟩⟩;clear i d g c0;go_wp2;go_ret2;exact p.out
theorem Js (w:World) (g:Nat) (a:Array Value):qE [g] w (w.setRow g a):=
 ⟨rfl,rfl,rfl,by rw [Xk];exact qx _,λk c b=>QO w g k a (λe=>b (by rw [e];exact qy.2 rfl))⟩
structure TR (W:World) (gt gr:Nat) (A:q') (N cap:Nat) (b:qn) (at_:Nat) (gs los his:Nat) (ls:qn) (gf lof hif:Nat) (lf:qn):Prop where
 t0:TR0 W gt gr (PT gs) (PT gf) A N cap b at_
 cs:Cdr W gs los his ls
 cf:Cdr W gf lof hif lf
 s1:gr<los\/his<=gr
 s2:gr<lof\/hif<=gr
 lS:ls.length=265
 lF:lf.length=12
theorem TR.step (h:TR W gt gr A N cap b at_ gs los his ls gf lof hif lf) (d:Rd W' gr A N cap b at2) (a:qE [gr] W W'):TR W' gt gr A N cap b at2 gs los his ls gf lof hif lf:=
 ⟨h.t0.step d a,h.cs.jZ a (λk c=>by rw [qy.1 c];exact h.s1),h.cf.jZ a (λk c=>by rw [qy.1 c];exact h.s2),h.s1,h.s2,h.lS,h.lF⟩
theorem TR.fresh (h:TR W gt gr A N cap b at_ gs los his ls gf lof hif lf) (a:Below W W W'):TR W' gt gr A N cap b at_ gs los his ls gf lof hif lf:=h.step (h.t0.rd.fresh a) (qE.jq a)
theorem TR.drew (h:TR W gt gr A N cap b at_ gs los his ls gf lof hif lf):TR W.drew gt gr A N cap b at_ gs los his ls gf lof hif lf:=h.fresh ((Dr.refl W|>.drewN 1).below _)
theorem TR.DR (h:TR W gt gr A N cap b at_ gs los his ls gf lof hif lf):Calls prog 285 #[.pointer gf, .pointer gr] W (nz W gr A N cap b lf at_):=By W gf lof hif lf gr A N cap at_ b h.cf h.t0.rd
theorem TR.LP (h:TR W gt gr A N cap b at_ gs los his ls gf lof hif lf):Calls prog 285 #[.pointer gs, .pointer gr] W (nz W gr A N cap b ls at_):=By W gs los his ls gr A N cap at_ b h.cs h.t0.rd
def Bu (W:World) (a:Nat) (A:q') (N cap:Nat) (b:qn) (r:Int×(Nat×Int×Int)×Nat) (e:Ending) (c:World):Prop:=
 e= .returned (.tuple #[.agg (tkC r.2.1.1 r.2.1.2.1 r.2.1.2.2), .int .i64 r.1])/\Rd c a A N cap b r.2.2/\qE [a] W c
theorem JS {W w:World} {N cap:Nat} {A:q'} {b:qn} (f:Rd w a A N cap b e) (h:qE [a] W w) (i:a<W.heap.size) (g: ∀k∈fpS A,k<W.heap.size) (d:Array Value):
  Rd (w.setRow W d) a A N cap b e/\qE [a] W (w.setRow W d):=
 ⟨f.jZ (Js _ _ _) (by rw [qy];omega) (λk c=>by rw [qy];have:=g k c;omega),
  h.trans (Js _ _ _) (λk c=> .inr (by rw [qy.1 c];exact qx _))⟩
theorem Ee (W:World) (d i:Nat) (A:Option Addr) (N cap:Nat) (b:List UInt8) (at_ gs Q' P':Nat) (ls:List UInt8) (gf O' S':Nat) (lf:List UInt8) (sym:Nat) (h:TR W d i A N cap b at_ gs Q' P' ls gf O' S' lf) (h1:257<=sym) (h2:sym<265):
  Calls prog 286 #[PT d,sym] W (Bu W i A N cap b (YC lf b sym at_)):=by
 have H:=qj h;obtain⟨R,v⟩: ∃R,R=YC lf b sym at_:=⟨_,rfl⟩;rw [<-v];unfold YC at v;replace v:=qj v;have Z:Hid (i<W.heap.size):=h.t0.rd.blk.lt;have u':Hid (∀k∈fpS A,k<W.heap.size):=λk x=>(zj h.t0.rd.own k x).2;have p':=h.lF;have n:=qj (h.fresh ((qZ _ _).alloc (qx _) (.cells #[.int .u8 0,(),()] 193)));have y:Hid (qE [i] W (W.alloc (.cells #[.int .u8 0,(),()] 193))):=(qE.refl _ W).alloc _;have L:Hid (Blk (W.alloc (.cells #[.int .u8 0,(),()] 193)) W.heap.size 193 (tkC 0 0 0)):=by
  have h:=Blk.new W 193 (tkC 0 0 0);rw [Hid];simpa [tkC] using h
 have u:Hid (W.heap.size≠i):=by have:=Z.out;rw [Hid];omega
 unfold PT;obtain⟨k,x⟩: ∃k,k=sym-257:=⟨_,rfl⟩;rw [<-x] at v;have Z':(sym:Int)-257=(k:Int):=uK;have hk8:k<8:=uK;have wk:IntKind.i64.wrap (k:Int)=(k:Int):=SX;clear h;by_cases U:q7 b at_<k
 ·have S:Hid (R=(1,(0,0,0),at_)):=by rw [Hid,v.out,qk U]
  have m:=qj (D_ n.t0.rd (k:=k) uK U);have c0:=n.t0.cell.1;unfold JD at m;replace x:=qj x;clear v U p';go_enter func286,ntmps286
  go_wp2_with fail;refine m.mono ?_;rintro e t ⟨rfl,j,a⟩;have r:=qj (a.blk L (by simpa using u.out))
  have O:=qj j;have Q:=qj (y.then a);clear m j a L y c0 n H
  go_wp2_with (first|(refine qC rfl 193 _ _ rfl W.heap.size (tkC 0 0 0) rfl rfl 193 (tkC 0 0 0) r.out vq rfl (X5 _ _ _) ?_))
  refine qW (zN rfl _ _ W.heap.size (tkC 0 0 0) (.int .i64 1) rfl rfl (qN _ W.heap.size 193 _ (tkC 0 0 0) (0,0) _ (r.row _) jc rfl vq)) rfl ?_;unfold Bu;rw [S.out];exact⟨rfl,JS O Q Z u' _⟩
 have iL:=Zr b at_ k;have m:=qj (Uc n.t0.rd (k:=k) uK U);have c0:=n.t0.cell.1;unfold JD at m;have o:=v.out;rw [qJ U] at o;generalize D':QF b at_ k=X at*
 obtain⟨l,N'⟩: ∃l,l=at_+k:=⟨_,rfl⟩;rw [<-N'] at o m;have q:=λt (h:Rd t i A N cap b l) (hm:qE [i] (W.alloc (.cells #[.int .u8 0,(),()] 193)) t)=>qj (n.step h hm).drew.DR;unfold nz JD at q;replace q:=qj q;replace x:=qj x;clear v N' U;by_cases s:kC lf b l=0
 focus
  obtain⟨c,hc,I'⟩:=gQ s
  rw [p'] at hc;rw [qJ (by simpa using s),I',show((c:Nat):Int).toNat=c from rfl] at o
  rw [s,I'] at q;generalize pD lf b l=P at*
  have wc:IntKind.i64.wrap (c:Int)=(c:Int):=SX;clear s I' p';by_cases Y:q7 b P<c
  focus
   have S:Hid (R=(1,(0,0,0),P)):=by rw [Hid,o,qk Y]
   have B:=qj (λw (h:Rd w i A N cap b P)=>D_ h (k:=c) uK Y);unfold JD at B;clear o Y iL D'
  rotate_left
  focus
   rw [qJ Y] at o
   have G':=Zr b P c;have B:=qj (λw (h:Rd w i A N cap b P)=>Uc h (k:=c) uK Y);unfold JD at B;generalize OX:QF b P c=T at*
   obtain⟨a4,M'⟩: ∃a4,a4=P+c:=⟨_,rfl⟩;rw [<-M'] at o B;have S:Hid (R=(0,(0,((2+2^(sym-257)+X:Nat):Int),((2^c+T:Nat):Int)),a4)):=by rw [Hid,o,<-x.out]
   have KJ:=λw=>qj (MV sym X c T w h1 h2 (by rw [<-x.out];exact iL) hc G')
   have Y':X<256:=qB iL (by have:=zZ (show 0<2 by omega) (show k<=8 by omega);simpa using this)
   have hyb:T<4096:=qB G' (by have:=zZ (show 0<2 by omega) (show c<=12 by omega);simpa using this)
   have wx:IntKind.i64.wrap (X:Int)=(X:Int):=SX;have wy:IntKind.i64.wrap (T:Int)=(T:Int):=SX;generalize ((2+2^(sym-257)+X:Nat):Int)=LL at*
   generalize ((2^c+T:Nat):Int)=DD at*
   clear o Y M' iL D' G' OX
  rotate_left
 rotate_left 2
 focus
  have S:Hid (R=(kC lf b l,(0,0,0),l)):=by rw [Hid,o,qk s]
  have N9:pD lf b l=l:=by
   unfold kC at s;unfold pD;cases hf:DR lf b l with
   |none=>rfl
   |some p=>rw [hf] at s;exact absurd rfl s
  rw [N9] at q;have X':((kC lf b l)==0)=false:=by simpa using s
  have U':((kC lf b l) !=0)=true:=by simpa using s
  generalize kC lf b l=E at*
  generalize P4 lf b l=V at*
  clear N9 o p' iL D'
 rotate_left
 all_goals
  go_enter func286,ntmps286
  go_wp2_with fail;refine m.mono ?_;rintro e t ⟨rfl,j,a⟩;have g:=qj (n.step j a);have F:=qj (y.then a);have J:=qj (a.blk L (by simpa using u.out))
  have D:=qj (q.out t j a).out;obtain⟨q0,q1,q2⟩:=g.t0.cell;clear m j a y L c0 n q;unfold PT at q1 q2
  go_wp2_with fail;refine zv 14 (λW=>W.cell? d=some (.pointer i)/\W.cell? ⟨d,2,none⟩=some (.pointer gf)) AL ⟨q0,q2⟩ (λI=> ?_)
  refine zq [0,1,2,3,4,5] (a':= ?_) ?_;refine zq [6,7] (a':= ?_) ?_;refine vf 8 D ?_;rintro e w3 ⟨rfl,K,f⟩;refine⟨_,rfl,(⟨f.cell (p:= d) (by simpa using g.t0.ne) q0,f.cell (p:=⟨d,2,none⟩) (by simpa using g.t0.ne) q2⟩),λI=> ?_⟩
  refine zq [9,10,11,12,13] (a':= ?_) ?_;refine zV AL ?_ _;have z:=qj K;have C:=qj (F.drew.then f);have G:=qj (f.blk J.drew (by simpa using u.out))
  have c3:w3.cell? d=some (.pointer i):=f.cell (p:= d) (by simpa using g.t0.ne) q0
  clear D K f F J q0 q1 q2 I g
 focus
  go_wp2_with fail;refine(B.out _ z).mono ?_;rintro e w4 ⟨rfl,d',M⟩;have r:=qj (M.blk G (by simpa using u.out))
  have O:=qj d';have Q:=qj (C.then M);clear B d' M G C c3 z H
 rotate_left
 ·go_wp2_with fail;refine(B.out _ z).mono ?_;rintro e w4 ⟨rfl,d',M⟩;have z':=qj (M.blk G (by simpa using u.out))
  have N6:=qj d';have J':=qj (C.then M);clear B d' M G C c3 z H
  go_wp2_with fail;refine(KJ _).out.mono ?_;rintro e w5 ⟨rfl,m'⟩;have r:=qj (z'.below m' z'.lt);have O:=qj (N6.fresh m');have Q:=qj (J'.fresh m');clear KJ m' z' J' N6
  go_wp2_with (first|(refine qC rfl 193 _ _ rfl W.heap.size (tkC 0 LL DD) rfl rfl 193 (tkC 0 0 0) r.out vq rfl (X5 _ _ _) ?_))
  refine qW (zN rfl _ _ W.heap.size (tkC 0 LL DD) () rfl rfl (qN _ W.heap.size 193 _ (tkC 0 LL DD) (0,0) _ (r.row _) jc rfl vq)) rfl ?_;unfold Bu;rw [S.out];exact⟨rfl,JS O Q Z u' _⟩
 focus have r:=G;have O:=z;have Q:=C;clear G z C c3 H
 rotate_left
 all_goals
  go_wp2_with (first|(refine qC rfl 193 _ _ rfl W.heap.size (tkC 0 0 0) rfl rfl 193 (tkC 0 0 0) r.out vq rfl (X5 _ _ _) ?_))
 ·refine qW (zN rfl _ _ W.heap.size (tkC 0 0 0) (.int .i64 1) rfl rfl (qN _ W.heap.size 193 _ (tkC 0 0 0) (0,0) _ (r.row _) jc rfl vq)) rfl ?_;unfold Bu;rw [S.out];exact⟨rfl,JS O Q Z u' _⟩
 ·refine qW (zN rfl _ _ W.heap.size (tkC 0 0 0) E rfl rfl (qN _ W.heap.size 193 _ (tkC 0 0 0) (0,0) _ (r.row _) jc rfl vq)) rfl ?_;unfold Bu;rw [S.out];exact⟨rfl,JS O Q Z u' _⟩
theorem vI {a:Func} {p s r:Tmp} {b:TypeId} (h:a.results= #[.cell p b, .tmp s, .tmp r]) (tmps:Array Value) (w:World) (g:Nat) (c:Array Value) (v u:Value)
  (k:tmps.getD p undef= .pointer g) (i:tmps.getD s undef=v) (d:tmps.getD r undef=u) (e:(loadVar b g).run prog w= .ok (.agg c) w):
  (results a tmps).run prog w= .ok (.tuple #[.agg c,v,u]) w:=by
 have l:tmps[p]?.getD undef= .pointer g:=by simpa using k
 have j:tmps[s]?.getD undef=v:=by simpa using i
 have f:tmps[r]?.getD undef=u:=by simpa using d
 simp [results,h,l,j,f,asAddr,e]
def dh (W:World) (a:Nat) (A:q') (N cap:Nat) (b:qn) (r:Int×Bool×(Nat×Int×Int)×Nat) (e:Ending) (c:World):Prop:=
 e= .returned (.tuple #[.agg (tkC r.2.2.1.1 r.2.2.1.2.1 r.2.2.1.2.2), .bool r.2.1, .int .i64 r.1])/\Rd c a A N cap b r.2.2.2/\qE [a] W c
theorem EE (W:World) (c l:Nat) (A:Option Addr) (N cap:Nat) (b:List UInt8) (at_ z J S:Nat) (ls:List UInt8) (gf P T:Nat) (lf:List UInt8) (h:TR W c l A N cap b at_ z J S ls gf P T lf):
  Calls prog 268 #[PT c] W (dh W l A N cap b (XR ls lf b at_)):=by
 have H:=qj h;obtain⟨R,g⟩: ∃R,R=XR ls lf b at_:=⟨_,rfl⟩;rw [<-g];unfold XR at g;have v:Hid (l<W.heap.size):=h.t0.rd.blk.lt;have B:Hid (∀k∈fpS A,k<W.heap.size):=λk hk=>(zj h.t0.rd.own k hk).2;have Q:=h.lS;have d:=qj (h.fresh ((qZ _ _).alloc (qx _) (.cells #[.int .u8 0,(),()] 193)));have r:Hid (qE [l] W (W.alloc (.cells #[.int .u8 0,(),()] 193))):=(qE.refl _ W).alloc _;have u:Hid (Blk (W.alloc (.cells #[.int .u8 0,(),()] 193)) W.heap.size 193 (tkC 0 0 0)):=by
  have h:=Blk.new W 193 (tkC 0 0 0);rw [Hid];simpa [tkC] using h
 have C:Hid (W.heap.size≠l):=by have:=v.out;rw [Hid];omega
 obtain⟨q0,q1,q2⟩:=d.t0.cell;have j:=qj d.drew.LP;unfold nz JD at j;unfold PT at q1 q2⊢;clear h q2;by_cases n:kC ls b at_=0
 focus
  obtain⟨s,I,O⟩:=gQ n
  rw [Q] at I;rw [qJ (by simpa using n),O,show((s:Nat):Int).toNat=s from rfl] at g
  rw [n,O] at j;generalize pD ls b at_=F at*
  clear n O Q;by_cases U:s=256
  focus
   subst U
   have y:Hid (R=(0,false,(0,0,0),F)):=by rw [Hid,g,qk (show((256:Nat):Int)=256 from rfl)]
   clear g;rw [show(((256:Nat):Nat):Int)=256 from rfl] at j
  rotate_left
  focus
   rw [qJ uK] at g
   have J':((s:Int)==256)=false:=SZ;have I': ¬(s:Int)=256:=uK;by_cases u':s<256
   focus
    have y:Hid (R=(0,true,(s,0,0),F)):=by rw [Hid,g,qk uK]
    have z':(s:Int)<256:=uK;have ws:IntKind.u8.wrap (s:Int)=(s:Int):=by rw [va];omega
    clear g I U
   rotate_left
   focus
    rw [qJ uK] at g
    have z': ¬(s:Int)<256:=uK;obtain⟨M,L⟩: ∃M,M=YC lf b s F:=⟨_,rfl⟩;rw [<-L] at g;have D:=qj (λw (h:TR w c l A N cap b F z J S ls gf P T lf)=>Ee w c l A N cap b F z J S ls gf P T lf s h uK I);rw [<-L] at D;unfold Bu PT at D;obtain⟨E,⟨o,q,l2⟩,a4⟩:=M;have y:Hid (R=(E,decide (E=0),(o,q,l2),a4)):=g;dsimp only at D;clear g I U L u'
   rotate_left
  rotate_left 2
 rotate_left 3
 focus
  have Y:pD ls b at_=at_:=by
   unfold kC at n;unfold pD;cases hf:DR ls b at_ with
   |none=>rfl
   |some p=>rw [hf] at n;exact absurd rfl n
  have y:Hid (R=(kC ls b at_,false,(0,0,0),at_)):=by rw [Hid,g,qk n,Y]
  rw [Y] at j;have G':((kC ls b at_)==0)=false:=by simpa using n
  have D':((kC ls b at_) !=0)=true:=by simpa using n
  generalize kC ls b at_=E at*
  generalize P4 ls b at_=V at*
  clear Y g Q
 rotate_left
 all_goals
  go_enter func268,ntmps268
  go_wp2_with fail;refine zv 14 (λW=>W.cell? c=some (.pointer l)/\W.cell? ⟨c,1,none⟩=some (.pointer z)) AL ⟨q0,q1⟩ (λm=> ?_)
  refine zq [0,1,2,3,4,5] (a':= ?_) ?_;refine zq [6,7] (a':= ?_) ?_;refine vf 8 j ?_;rintro e G ⟨rfl,f,a⟩;refine⟨_,rfl,(⟨a.cell (p:= c) (by simpa using d.t0.ne) q0,a.cell (p:=⟨c,1,none⟩) (by simpa using d.t0.ne) q1⟩),λm=> ?_⟩
  refine zq [9,10,11,12,13] (a':= ?_) ?_;refine zV AL ?_ _;have H3:=qj (d.drew.step f a);have x:=qj f;have t:=qj (r.drew.then a);have i:=qj (a.blk u.drew (by simpa using C.out))
  clear j f a r u d q0 q1 m H
 rotate_left
 ·go_wp2_with (first|(refine qC rfl 193 _ _ rfl W.heap.size (tkC s 0 0) rfl rfl 193 (tkC 0 0 0) i.out vq rfl (X5 _ _ _) ?_))
  refine qW (vI rfl _ _ W.heap.size (tkC s 0 0) (.bool true) () rfl rfl rfl (qN _ W.heap.size 193 _ (tkC s 0 0) (0,0) _ (i.row _) jc rfl vq)) rfl ?_;unfold dh;rw [y.out];exact⟨rfl,JS x t v B _⟩
 ·have m':=qj (D.out G H3);clear D H3 x
  go_wp2_with fail;refine m'.mono ?_;rintro e w4 ⟨rfl,iL,K⟩;have p':=qj iL;have d':=qj (t.then K);have Z:=qj (K.blk i (by simpa using C.out))
  clear m' iL K t i;have X:=qj (Z.row (tkC o q l2))
  go_wp2_with (first|(refine qC rfl 193 _ _ rfl W.heap.size (tkC o q l2) rfl rfl 193 (tkC 0 0 0) Z.out vq rfl (X5 _ _ _) ?_)|(refine ja rfl 193 _ rfl W.heap.size rfl 193 (tkC o q l2) (0,0) _ X.out jc rfl vq ?_)|(refine qC rfl 193 _ _ rfl W.heap.size (tkC o q l2) rfl rfl 193 (tkC o q l2) X.out vq rfl (X5 _ _ _) ?_))
  refine qW (vI rfl _ _ W.heap.size (tkC o q l2) (.bool (decide (E=0))) E rfl ?_ rfl (qN _ W.heap.size 193 _ (tkC o q l2) (0,0) _ (X.row _) jc rfl vq)) rfl ?_
  ·first|rfl|simp
  unfold dh;rw [y.out];exact⟨rfl,JS (JS p' d' v B _).1 (JS p' d' v B _).2 v B _⟩
 rotate_left
 all_goals
  go_wp2_with (first|(refine ja rfl 193 _ rfl W.heap.size rfl 193 (tkC 0 0 0) (0,0) _ i.out jc rfl vq ?_)|(refine qC rfl 193 _ _ rfl W.heap.size (tkC 0 0 0) rfl rfl 193 (tkC 0 0 0) i.out vq rfl (X5 _ _ _) ?_))
 ·refine qW (vI rfl _ _ W.heap.size (tkC 0 0 0) (.bool false) () rfl rfl rfl (qN _ W.heap.size 193 _ (tkC 0 0 0) (0,0) _ (i.row _) jc rfl vq)) rfl ?_;unfold dh;rw [y.out];exact⟨rfl,JS x t v B _⟩
 ·refine qW (vI rfl _ _ W.heap.size (tkC 0 0 0) (.bool false) E rfl rfl rfl (qN _ W.heap.size 193 _ (tkC 0 0 0) (0,0) _ (i.row _) jc rfl vq)) rfl ?_;unfold dh;rw [y.out];exact⟨rfl,JS x t v B _⟩
theorem WA {at_:Nat} (h:ls.length=265) (h1:(XR ls lf b at_).1=0) (h2:(XR ls lf b at_).2.1=true):
  (XR ls lf b at_).2.2.1.1<256/\0<=(XR ls lf b at_).2.2.1.2.1/\(XR ls lf b at_).2.2.1.2.1<=1000:=by
 obtain⟨R,c⟩:=j1 (XR ls lf b at_);rw [<-c] at h1 h2⊢;unfold XR at c;by_cases d:kC ls b at_≠0
 ·rw [qk d] at c;rw [c] at h1;exact absurd h1 d
 ·rw [qJ d] at c;obtain⟨s,k,g⟩:=gQ (by simpa using d);rw [g] at c;by_cases e:(s:Int)=256
  ·rw [qk e] at c;rw [c] at h2;cases h2
  ·rw [qJ e] at c;by_cases f:(s:Int)<256
   ·rw [qk f] at c;rw [c];refine⟨?_,by show(0:Int)<=0;omega,by show(0:Int)<=1000;omega⟩;show s<256;omega
   ·rw [qJ f,show((s:Nat):Int).toNat=s from rfl] at c;rw [c];dsimp only;generalize pD ls b at_=a at*;unfold YC;split
    ·exact⟨by show 0<256;omega,by show(0:Int)<=0;omega,by show(0:Int)<=1000;omega⟩
    ·split
     ·exact⟨by show 0<256;omega,by show(0:Int)<=0;omega,by show(0:Int)<=1000;omega⟩
     ·split
      ·exact⟨by show 0<256;omega,by show(0:Int)<=0;omega,by show(0:Int)<=1000;omega⟩
      ·have j:=Zr b a (s-257);have i:=zZ (show 0<2 by omega) (show s-257<=8 by omega);refine⟨by show 0<256;omega, ?_, ?_⟩
       ·show(0:Int)<=((2+2^(s-257)+QF b a (s-257):Nat):Int);omega
       ·show((2+2^(s-257)+QF b a (s-257):Nat):Int)<=1000;have h8:2^8=256:=rfl;rw [h8] at i;generalize 2^(s-257)=P at*;omega
theorem gY (h:ls.length=265): ∀(f:Nat) (c:Int) (at_:Nat) (a:List (Nat×Int×Int)),(∀t∈a,t.1<256)-> ∀t∈(Fq ls lf b f c at_ a).2.1,t.1<256
 |0,c,at_,a,_,t,ht=>by simp [Fq] at ht
 |f+1,c,at_,a,d,t,ht=>by
  unfold Fq at ht;split at ht
  ·cases ht
  ·rename_i h1
   split at ht
   ·split at ht
    ·cases ht
    ·exact d t ht
   ·rename_i h2
    split at ht
    ·cases ht
    ·refine gY h f _ _ _ (λe g=> ?_) t ht
     rcases zt.1 g with h3|h3
     ·exact d e h3
     ·rw [qy.1 h3];exact(WA h (by simpa using h1) (by simpa using h2)).1
theorem UR {ls lf b:List UInt8}: ∀(f:Nat) (c:Int) (at_:Nat) (a:List (Nat×Int×Int)),0<=c->((Fq ls lf b f c at_ a).2.1.length:Int)<=a.length+c
 |0,c,at_,a,d=>by unfold Fq;show((0:Nat):Int)<=_;omega
 |f+1,c,at_,a,d=>by
  unfold Fq;split
  ·show((0:Nat):Int)<=_;omega
  ·split
   ·split
    ·show((0:Nat):Int)<=_;omega
    ·show((a.length:Nat):Int)<=_;omega
   ·split
    ·show((0:Nat):Int)<=_;omega
    ·rename_i h3
     have:=UR (ls:=ls) (lf:=lf) (b:=b) f (c-max 1 (XR ls lf b at_).2.2.1.2.1) (XR ls lf b at_).2.2.2 (a++[(XR ls lf b at_).2.2.1]) uK;rw [qK,zJ] at this;omega
theorem TR.beside {m:World} {i g cap at_ o j gf f b0:Nat} {l:List Nat} (h:TR W i g A N cap b at_ o j e ls gf n f lf) (d:qE l W m) (c: ∀k∈l,b0<=k) (h1:i<b0) (h2:g<b0) (h3: ∀k∈fpS A,k<b0) (h4:e<=b0) (h5:f<=b0):
  TR m i g A N cap b at_ o j e ls gf n f lf:=
 ⟨⟨d.blk h.t0.blk (λa=>by have:=c _ a;omega),h.t0.rd.jZ d (λa=>by have:=c _ a;omega) (λk a p=>by have:=c _ p;have:=h3 k a;omega),h.t0.ne⟩,
  h.cs.jZ d (λk a=> .inr (qv h4 (c k a))),h.cf.jZ d (λk a=> .inr (qv h5 (c k a))),h.s1,h.s2,h.lS,h.lF⟩
theorem nP (l:List (Nat×Int×Int)) (t:Nat×Int×Int):kR (l++[t])=kR l++itC t:=by simp [kR]
theorem Ip (t:Nat×Int×Int): ∀u∈itC t,u.oneCell'=true:=by
 intro u a;simp only [itC,qL,xj,Ze] at a;rcases a with rfl|rfl|rfl<;>rfl
theorem Md (w:World) (t:Nat×Int×Int) (a:TypeId):Reads (w.alloc (.cells (itC t).toArray a)) (w.heap.size+1) 3 w 1 (itC t):=by
 refine⟨rfl,λ_=>⟨_,rfl,ze _,λj u b=> ?_⟩⟩;have e:(w.heap.size:Addr).add j=⟨w,j,none⟩:=by unfold Addr.add;split<;>simp_all
 rw [e,(Blk.new w a (itC t).toArray).cell j];simpa using b
def po (w:World) (r:Int×List (Nat×Int×Int)) (e:Ending) (w':World):Prop:=
 ∃b a,e= .returned (.tuple #[.slice b r.2 a, .int .i64 r.1])/\w'.ownsRow w 193 3 (.slice b r.2 a) r.2 (kR r.2)/\Below w w w'
theorem We {d cap at_:Nat} {f i:Value} (h:TR0 W a d f i A N cap b at_) (u:Value) (g:a∉fpS A):
  TR0 (W.setCell ⟨a,1,none⟩ u) a d u i A N cap b at_/\TR0 (W.setCell ⟨a,2,none⟩ u) a d f u A N cap b at_:=by
 have j:=h.ne;refine⟨⟨?_,h.rd.jZ ((qE.refl [a] W).zh (qy.2 rfl) u) (by simpa using λe=>j e.symm) (λk c=>by rw [qy];rintro rfl;exact g c),h.ne⟩,
  ⟨?_,h.rd.jZ ((qE.refl [a] W).zh (qy.2 rfl) u) (by simpa using λe=>j e.symm) (λk c=>by rw [qy];rintro rfl;exact g c),h.ne⟩⟩
 ·simpa using h.blk.zh 1 u
 ·simpa using h.blk.zh 2 u
theorem Tx (Ab:Option Addr) (n c B s:Nat) (b:List UInt8) (w:World) (h:Reads w B 1 Ab n (b.map B8)) (hB:B<=w.heap.size) (hn:n<=100000000) (hmost:s<=1000000):
  Calls prog 249 #[.slice Ab n c,s] w (po w (dt b s)):=by
 have KN:=qj (P7 Ab n c B b w h hB uK);obtain⟨R,r⟩: ∃R,R=dt b s:=⟨_,rfl⟩;rw [<-r];unfold dt at r;obtain⟨O,Y'⟩: ∃O,O=YM b 265 0:=⟨_,rfl⟩;rw [<-Y'] at r;obtain⟨r2,U'⟩: ∃r2,r2=YM b 12 O.2.2:=⟨_,rfl⟩;rw [<-U'] at r;have hL1:Hid (O.1=0->O.2.1.length=265):=λh=>by rw [Y'] at h⊢;exact(Ue h).1
 have hL2:Hid (r2.1=0->r2.2.1.length=12):=λh=>by rw [U'] at h⊢;exact(Ue h).1
 have K1:=qj (λW a j J v2 A N cap (h:TR0 W a j J v2 A N cap b 0)=>DY W a j J v2 A N cap 0 265 b uK h);have K2:=qj (λW a j J v2 A N cap (h:TR0 W a j J v2 A N cap b O.2.2)=>DY W a j J v2 A N cap O.2.2 12 b uK h);rw [<-Y'] at K1;rw [<-U'] at K2;obtain⟨E1,ls,a1⟩:=O;obtain⟨E2,lf,a2⟩:=r2;dsimp only at r K1 K2 hL1 hL2;replace r:=qj r;have hm0: ¬(s:Int)<0:=uK;obtain⟨i0,hi,iz0,iz1,iz2⟩:=qA Ed;replace hi:=qj hi;replace iz0:=qj iz0;replace iz1:=qj iz1;replace iz2:=qj iz2;clear h hB Y' U';go_enter func249,ntmps249
 go_wp2_with fail;refine KN.mono ?_;rintro e F ⟨j,A,cap,rfl,OX,hgr,hAl,hB1⟩;have HT2:Hid (TR0 (F.alloc (.cells #[.pointer j, .pointer none, .pointer none] 382)) F j (.pointer none) (.pointer none) A n cap b 0):=
  ⟨Blk.new _ _ _,OX.fresh ((qZ _ _).alloc (qx _) _),λe=>by have:=OX.blk.lt;omega⟩
 have HB2:Hid (Below w w (F.alloc (.cells #[.pointer j, .pointer none, .pointer none] 382))):=hB1.alloc hB1.size _;have HAl:=qj hAl;have HAg:Hid (∀k∈fpS A,k<F.heap.size):=λk g=>(zj OX.own k g).2;have u:Hid (w.heap.size<=j/\j<F.heap.size):=⟨hgr,OX.blk.lt⟩;have HS:Hid (F.heap.size<(F.alloc (.cells #[.pointer j, .pointer none, .pointer none] 382)).heap.size):=by rw [Hid];simp
 clear KN OX hgr hAl hB1
 go_wp2_with fail;generalize F.alloc (.cells #[.pointer j, .pointer none, .pointer none] 382)=w2 at*
 generalize F.heap.size=a at*
 have HgA:Hid (a∉fpS A):=λg=>by have:=HAg.out _ g;omega
 have K1a:=qj (K1.out w2 a j _ _ A n cap HT2);unfold EA PT at K1a;clear K1;refine K1a.mono ?_;rintro e t ⟨hrd3,Q',J'⟩;have N6:=qj (HT2.step hrd3 Q');have HB3:=qj (HB2.trans (Q'.below (λk g=>by rw [qy.1 g];exact u.out.1) HB2.size))
 have HS3:Hid (a<t.heap.size):=qB HS Q'.size;have fc1:t.cell? ⟨a,1,none⟩=some (.pointer none):=N6.cell.2.1;have ff1:t.frozen? ⟨a,1,none⟩=false:=N6.blk.frozen 1;have m':Hid (w.heap.size<=a):=by have:=u.out;rw [Hid];omega
 clear K1a hrd3 HT2 HB2;rcases J' with⟨G',rfl⟩|⟨G',z,P',u',rfl,hcs,X,I'⟩
 ·have Q:Hid (R=(E1,[])):=by rw [Hid,r.out,qk G']
  have hEz:((E1:Int)==0)=false:=by simpa using G'
  have hEn:((E1:Int) !=0)=true:=by simpa using G'
  have M':Hid (Below w w (t.setCell ⟨a,1,none⟩ (.pointer none))):=HB3.setCell (p:=⟨a,1,none⟩) m' _;clear Q' K2 r N6 HB3
  go_wp2_with fail
  go_ret2;unfold po;rw [Q.out];exact⟨none,0,rfl,qP _ _ _ _,M'.out⟩
 ·subst G'
  have HT4:=qj (We N6 (.pointer z) HgA).1;have hm4:qE [a] t (t.setCell ⟨a,1,none⟩ (.pointer z)):=(qE.refl [a] _).zh (p:=⟨a,1,none⟩) (qy.2 rfl) _;have D':a<P'/\j<P':=by have:=u.out;have:=HS.out;omega
  have HC4:=qj (hcs.jZ hm4 (λk g=>by rw [qy.1 g];exact .inl D'.1))
  have hsz4:(t.setCell ⟨a,1,none⟩ (.pointer z)).heap.size=t.heap.size:=s8;have M':Hid (Below w w (t.setCell ⟨a,1,none⟩ (.pointer z))):=HB3.setCell (p:=⟨a,1,none⟩) m' _;have hS4:Hid (a<(t.setCell ⟨a,1,none⟩ (.pointer z)).heap.size/\u'<=(t.setCell ⟨a,1,none⟩ (.pointer z)).heap.size):=by rw [Hid,hsz4];exact⟨HS3.out,I'⟩
  have HL1:Hid (ls.length=265):=hL1.out rfl;clear Q' hm4 hsz4 N6 HB3 hcs X I' HS3 hL1
  go_wp2_with fail;generalize t.setCell ⟨a,1,none⟩ (.pointer z)=w4 at*
  clear fc1 ff1;have K2a:=qj (K2.out w4 a j _ _ A n cap HT4);unfold EA PT at K2a;clear K2;refine K2a.mono ?_;rintro e o ⟨hrd5,d',J'⟩;have N':=qj (HT4.step hrd5 d');have HB5:=qj (M'.trans (d'.below (λk g=>by rw [qy.1 g];exact u.out.1) M'.size))
  have HC5:=qj (HC4.jZ d' (λk g=>by rw [qy.1 g];exact .inl D'.2))
  have hS5:Hid (a<o.heap.size/\u'<=o.heap.size):=⟨qB hS4.out.1 d'.size,qv hS4.out.2 d'.size⟩;have fc2:o.cell? ⟨a,2,none⟩=some (.pointer none):=N'.cell.2.2;have ff2:o.frozen? ⟨a,2,none⟩=false:=N'.blk.frozen 2;clear K2a hrd5 HT4 M' HC4;rcases J' with⟨S',rfl⟩|⟨S',gf,N9,hif,rfl,hcf,X,I'⟩
  ·have Q:Hid (R=(E2,[])):=by rw [Hid,r.out,qJ s8,qk S']
   have hEz:((E2:Int)==0)=false:=by simpa using S'
   have hEn:((E2:Int) !=0)=true:=by simpa using S'
   have Z':Hid (Below w w (o.setCell ⟨a,2,none⟩ (.pointer none))):=HB5.setCell (p:=⟨a,2,none⟩) m' _;clear d' r N' HB5 HC5 D'
   go_wp2_with fail
   go_ret2;unfold po;rw [Q.out];exact⟨none,0,rfl,qP _ _ _ _,Z'.out⟩
  ·subst S'
   have hgf:a<N9/\j<N9:=by have:=u.out;have:=hS4.out.1;omega
   have hm6:qE [a] o (o.setCell ⟨a,2,none⟩ (.pointer gf)):=(qE.refl [a] _).zh (p:=⟨a,2,none⟩) (qy.2 rfl) _;have hsz6:(o.setCell ⟨a,2,none⟩ (.pointer gf)).heap.size=o.heap.size:=s8;have HT6:Hid (TR (o.setCell ⟨a,2,none⟩ (.pointer gf)) a j A n cap b a2 z P' u' ls gf N9 hif lf):=
    ⟨(We N' (.pointer gf) HgA).2,HC5.jZ hm6 (λk g=>by rw [qy.1 g];exact .inl D'.1),hcf.jZ hm6 (λk g=>by rw [qy.1 g];exact .inl hgf.1), .inl D'.2, .inl hgf.2,HL1.out,hL2.out rfl⟩
   have Z':Hid (Below w w (o.setCell ⟨a,2,none⟩ (.pointer gf))):=HB5.setCell (p:=⟨a,2,none⟩) m' _;have G:Hid (a<(o.setCell ⟨a,2,none⟩ (.pointer gf)).heap.size/\u'<=(o.setCell ⟨a,2,none⟩ (.pointer gf)).heap.size/\hif<=(o.setCell ⟨a,2,none⟩ (.pointer gf)).heap.size):=by rw [Hid,hsz6];exact⟨hS5.out.1,hS5.out.2,I'⟩
   obtain⟨x,O'⟩: ∃x,x=Fq ls lf b (s+1) s a2 []:=⟨_,rfl⟩;have Q:Hid (R=(x.1,x.2.1)):=by rw [Hid,r.out,qJ s8,qJ s8,O']
   replace O':Hid (Fq ls lf b (s+1) s a2 []=x):=O'.symm;clear d' hm6 hsz6 N' HB5 HC5 hcf X I' hL2 r hS4 hS5 D' hgf
   go_wp2_with fail;generalize o.setCell ⟨a,2,none⟩ (.pointer gf)=K at*
   clear fc2 ff2;go_loopw [1,4] (λJ v4 wr=> ∃(f z' m c3:Nat) (M:Int) (H:List (Nat×Int×Int)) (U:Option Addr),J=(M:Value)/\v4= .slice U m c3/\0<=M/\M<=1000000/\m<=1000000/\Hid (m=H.length)/\Hid ((H.length:Int)+M<=s)/\Hid (M+1<=(f:Int))/\Hid (Fq ls lf b f M z' H=x)/\Hid (TR wr a j A n cap b z' z P' u' ls gf N9 hif lf)/\Hid (wr.ownsRow K 193 3 (.slice U m c3) m (kR H))/\Hid (Below w w wr)/\Hid (K.heap.size<=wr.heap.size)) (λJ _ _=>(intOf J).toNat)
   case atStart=>exact⟨s+1,a2,0,0,s,[],none,rfl,rfl,uK,uK,uK,rfl,by rw [Hid];show((0:Nat):Int)+_<=_;omega,by rw [Hid];omega,O',HT6,qP _ _ _ _,Z',qx _⟩
   case round=>
    clear HT6 Z' O';obtain⟨f,z',m,c3,M,H,U,rfl,rfl,hM0,hM1,hmm,HM,HMS,HF,HG2,HT,HO,I,HSZ⟩:=hrel;obtain⟨f,rfl⟩: ∃f',f=f'+1:=⟨f-1,by have:=HF.out;omega⟩
    have P:=qj (EE wr a j A n cap b z' z P' u' ls gf N9 hif lf HT);have C:=HG2.out;unfold Fq at C;have Y:= WA (ls:=ls) (lf:=lf) (b:=b) (at_:=z') HL1.out;generalize XR ls lf b z'=T at*
    unfold dh PT tkC at P;obtain⟨E,more,⟨i,d,l2⟩,y⟩:=T;dsimp only at P C Y;replace C:=qj C;replace Y:=qj Y;clear HG2;have hpre: ∀(hE:E≠0\/E=0),True:=λ_=>trivial;clear hpre;by_cases hE:E=0
    focus
     subst hE;cases more
     focus
      have L:Hid (x=if cJ b y≠0 then(2,[],y) else(0,H,y)):=by rw [Hid,<-C.out,qJ s8,qk rfl]
      go_wp2_with fail;refine P.mono ?_;rintro e l ⟨rfl,Z,q⟩;have V:=qj ((HT.step Z q).fresh ((qZ _ _).alloc (qx _) (.cells #[.int .u8 (i:Int),d,l2] 193)));have S:=qj ((q.own HO (λk g hk'=>by have:=(zj HO k g).1;rw [qy.1 hk'] at this;have:=u.out;have:=G.out.1;omega)).alloc (.cells #[.int .u8 (i:Int),d,l2] 193))
     rotate_left
     ·obtain⟨hl0,hl1,hl1b⟩:=Y.out rfl rfl;obtain⟨v,hmx⟩: ∃v,v=max 1 d:=⟨_,rfl⟩;have hmx':max 1 d=v:=hmx.symm;have hmx1:1<=v/\v<=1000:=uK;have iL:=C.out;rw [qJ s8,qJ s8,hmx'] at iL;have wm:IntKind.i64.wrap (M-v)=M-v:=SX;clear hmx
      all_goals
       go_wp2_with fail;refine P.mono ?_;rintro e l ⟨rfl,Z,q⟩;have V:=qj ((HT.step Z q).fresh ((qZ _ _).alloc (qx _) (.cells #[.int .u8 (i:Int),d,l2] 193)));have S:=qj ((q.own HO (λk g hk'=>by have:=(zj HO k g).1;rw [qy.1 hk'] at this;have:=u.out;have:=G.out.1;omega)).alloc (.cells #[.int .u8 (i:Int),d,l2] 193))
       have D:Hid (Below w w (l.alloc (.cells #[.int .u8 (i:Int),d,l2] 193))):=by
        have h:=I.trans (q.below (λk g=>by rw [qy.1 g];exact u.out.1) I.size)
        exact h.alloc h.size _
       have HSZ9:Hid (K.heap.size<=(l.alloc (.cells #[.int .u8 (i:Int),d,l2] 193)).heap.size):=by have:=HSZ.out;have:=q.size;rw [Hid];simp;omega
       have q1:(l.alloc (.cells #[.int .u8 (i:Int),d,l2] 193)).cell? ⟨l,1,none⟩=some (d:Value):=(Blk.new l 193 #[.int .u8 (i:Int),d,l2]).cell 1;clear P Z q HT HO I C Y HSZ;by_cases hlt:M<v
       ·have L:Hid (x=(6,[],y)):=by rw [Hid,<-iL,qk hlt]
        have hlt':M-v<0:=uK;clear iL V S hlt
        go_wp2_with fail
        go_ret2;unfold po;rw [Q.out,L.out];exact⟨none,0,rfl,qP _ _ _ _,D.out⟩
       ·rw [qJ hlt] at iL
        replace iL:=qj iL;have hlt': ¬M-v<0:=uK;have HSZn:=qv HSZ9 (show(l.alloc (.cells #[.int .u8 (i:Int),d,l2] 193)).heap.size<=((l.alloc (.cells #[.int .u8 (i:Int),d,l2] 193)).alloc (.cells #[.int .u8 (i:Int),d,l2] 193)).heap.size by simp)
        have hm1:m+1<=maxLen:=SJ;have hm2:(m+1)*24<=140737488355328:=uK;have hsz9:(l.alloc (.cells #[.int .u8 (i:Int),d,l2] 193)).heap.size=l.heap.size+1:=s8
        go_wp2_with (first
         |(refine ja rfl 193 _ rfl l rfl 193 #[.int .u8 (i:Int), .int .i64 d, .int .i64 l2] (0,0) _ (Blk.new l _ _) jc rfl vq ?_)
         |(at_builtin;refine qF _ rfl (.tmp 57) (.tmp 59) 135 rfl K 193 i0 (.agg #[.int .u8 0, .int .i64 0, .int .i64 0]) 3 24 underlying135 hi iz0 iz1 iz2 rfl uK U m c3 _ rfl (S.alloc _) ((l.alloc (.cells #[.int .u8 (i:Int), .int .i64 d, .int .i64 l2] 193)).heap.size+1) (some ⟨(l.alloc (.cells #[.int .u8 (i:Int), .int .i64 d, .int .i64 l2] 193)).heap.size,0,none⟩) 1 1 (itC (i,d,l2)) (by first|rfl|(rw [hsz9];rfl)) (Md _ (i,d,l2) _) (Ip _) hm1 hm2 HSZn ?_;intro A11 c11 X' ho11 hg11 _hs11;have p':qE (fpS U) ((l.alloc (.cells #[.int .u8 (i:Int), .int .i64 d, .int .i64 l2] 193)).alloc (.cells #[.int .u8 (i:Int), .int .i64 d, .int .i64 l2] 193)) X':=(qE.refl _ _).grown hg11 (λk g=> .inl g);replace ho11:=qj ho11;replace p':=qj p';clear hg11 _hs11))
        have hHO10:=S.alloc (.cells #[.int .u8 (i:Int),d,l2] 193);have X: ∀k∈fpS U,K.heap.size<=k:=λk g=>(zj S k g).1;have HT11:=qj ((V.fresh ((qZ _ _).alloc (qx _) (.cells #[.int .u8 (i:Int),d,l2] 193))).beside p' X G.out.1 (by have:=u.out;have:=G.out.1;omega) (λk g=>by have:=HAg.out k g;have:=G.out.1;omega) G.out.2.1 G.out.2.2)
        have HB11:Hid (Below w w X'):=(D.alloc D.size (.cells #[.int .u8 (i:Int),d,l2] 193)).trans (p'.below (λk g=>by have:=X k g;have:=G.out.1;have:=m'.out;omega) (qv D.size s8))
        have HO11:Hid (X'.ownsRow K 193 3 (.slice A11 (m+1) c11) (m+1) (kR (H++[(i,d,l2)]))):=by rw [Hid,nP];exact ho11.out
        have HSZ11:Hid (K.heap.size<=X'.heap.size):=qv HSZn p'.size;have hMS:=HMS.out;have hM:=HM.out;have hF:=HF.out;clear hHO10 X V S D p' ho11 HSZn HSZ9;go_roundw
        case rel=>exact⟨f,y,m+1,c11,M-v,H++[(i,d,l2)],A11,by first|rfl|simp,by first|rfl|simp,uK,uK,uK,by rw [Hid,qK,zJ,hM],by rw [Hid,qK,zJ];omega,by rw [Hid];omega,iL,HT11,HO11,HB11,HSZ11⟩
        case measure=>simp [intOf];omega
    rotate_left
    focus
     have L:Hid (x=(E,[],y)):=by rw [Hid,<-C.out,qk hE]
     have hEz:((E:Int)==0)=false:=by simpa using hE
     have hEn:((E:Int) !=0)=true:=by simpa using hE
     go_wp2_with fail;refine P.mono ?_;rintro e l ⟨rfl,Z,q⟩
    rotate_left
    all_goals
     have D:Hid (Below w w (l.alloc (.cells #[.int .u8 (i:Int),d,l2] 193))):=by
      have h:=I.trans (q.below (λk g=>by rw [qy.1 g];exact u.out.1) I.size)
      exact h.alloc h.size _
    ·have KP:=qj (me (l.alloc (.cells #[.int .u8 (i:Int),d,l2] 193)) j A n cap y b V.t0.rd);have q0:=V.t0.cell.1;clear P Z q HT HO I C Y
     go_wp2_with fail;refine KP.mono ?_;rintro e w10 ⟨rfl,hD⟩;have HO10:=qj (qG S (hD.below _));have HB10:=qj (D.trans (hD.below _));clear KP S D V q0 hD;by_cases hp:cJ b y=0
     ·have hfin2:Hid (x=(0,H,y)):=by rw [Hid,L.out,qJ (by simpa using hp)]
      clear L;rw [hp];clear hp;have HOF:=qj (qi HO10 (show w.heap.size<=K.heap.size by have:=G.out.1;have:=m'.out;omega))
      clear HO10
      go_wp2_with fail
      go_ret2;unfold po;rw [Q.out,hfin2.out];have hmo:=HM.out;subst hmo;exact⟨U,c3,rfl,HOF.out,HB10.out⟩
     ·have hfin2:Hid (x=(2,[],y)):=by rw [Hid,L.out,qk (by simpa using hp)]
      have h2:cJ b y=2:=by
       revert hp
       unfold cJ;split<;>simp
      clear L;rw [h2];clear hp h2
      go_wp2_with fail
      go_ret2;unfold po;rw [Q.out,hfin2.out];exact⟨none,0,rfl,qP _ _ _ _,HB10.out⟩
    ·clear P Z q HT HO I C Y
     go_wp2_with fail
     go_ret2;unfold po;rw [Q.out,L.out];exact⟨none,0,rfl,qP _ _ _ _,D.out⟩
theorem pM {a:Func} {p:Tmp} {b:TypeId} (h:a.results= #[.cell p b]) (tmps:Array Value) (w:World) (g:Nat) (c:Array Value)
  (e:tmps.getD p undef= .pointer g) (d:(loadVar b g).run prog w= .ok (.agg c) w):
  (results a tmps).run prog w= .ok (.agg c) w:=by
 have f:tmps[p]?.getD undef= .pointer g:=by simpa using e
 simp [results,h,f,asAddr,d]
theorem Yx:(prog.info? 45).map (·.size)=some 4:=AL
def rcA (t b:Int) (a S2:Value):Array Value:= #[.int .u64 t, .int .u8 b,a,S2]
def CC (W:World) (a:Nat) (A:q') (N cap:Nat) (b:qn) (r:Rec×Cu) (e:Ending) (c:World):Prop:=
 e= .returned (.agg (rcA (r.1.time:Int) (r.1.level:Int) (STR r.1.src) (STR r.1.txt)))/\Cur c a A N cap b r.2/\qE [a] W c
structure RB (W0 W:World) (gc:Nat) (A:q') (N cap:Nat) (b:qn) (c:Cu) (cs:Array Value):Prop where
 rd:Blk W W0 293 #[.pointer gc]
 rc:Blk W (W0.heap.size+1) 45 cs
 cur:Cur W gc A N cap b c
 jZ:qE [gc] W0 W
 lt:gc<W0.heap.size
 fp: ∀k∈fpS A,k<W0.heap.size
theorem RB.step (h:RB W0 W gc A N cap b c cs) (d:Cur W' gc A N cap b c') (a:qE [gc] W W'):RB W0 W' gc A N cap b c' cs:=
 ⟨a.blk h.rd (by rw [qy];have:=h.lt;omega),a.blk h.rc (by rw [qy];have:=h.lt;omega),d,h.jZ.then a,h.lt,h.fp⟩
theorem RB.zh (h:RB W0 W gc A N cap b c cs) (i:Nat) (u:Value):RB W0 (W.setCell ⟨W0.heap.size+1,i,none⟩ u) gc A N cap b c (cs.setIfInBounds i u):=by
 have a:qE [W0.heap.size+1] W (W.setCell ⟨W0.heap.size+1,i,none⟩ u):=(qE.refl _ W).zh (p:=⟨W0.heap.size+1,i,none⟩) (qy.2 rfl) u;exact⟨a.blk h.rd (by rw [qy];omega),h.rc.zh i u,h.cur.jZ a (by rw [qy];have:=h.lt;omega) (λk d=>by rw [qy];have:=h.fp k d;omega),h.jZ.trans a (λk d=> .inr (by rw [qy.1 d];omega)),h.lt,h.fp⟩
theorem RB.VH (h:RB W0 W gc A N cap b c cs):W.cell? W0.heap.size=some (.pointer gc):=h.rd.cell 0
theorem RB.cells (h:RB W0 W gc A N cap b c cs) (i:Nat):W.cell? ⟨W0.heap.size+1,i,none⟩=cs[i]? :=h.rc.cell i
theorem RB.frz (h:RB W0 W gc A N cap b c cs) (i:Nat):W.frozen? ⟨W0.heap.size+1,i,none⟩=false:=h.rc.frozen i
theorem RB.row (h:RB W0 W gc A N cap b c cs) (a:Array Value):RB W0 (W.setRow (W0.heap.size+1) a) gc A N cap b c a:=by
 have d:=Js W (W0.heap.size+1) a;exact⟨d.blk h.rd (by rw [qy];omega),h.rc.row a,h.cur.jZ d (by rw [qy];have:=h.lt;omega) (λk e=>by rw [qy];have:=h.fp k e;omega),h.jZ.trans d (λk e=> .inr (by rw [qy.1 e];omega)),h.lt,h.fp⟩
theorem PC (t c:Int) (a b:Value) (u:Value) (v:Int):(rcA t c a b).setIfInBounds 0 (.int .u64 v)=rcA v c a b/\(rcA t c a b).setIfInBounds 1 (.int .u8 v)=rcA t v a b/\(rcA t c a b).setIfInBounds 2 u=rcA t c u b/\(rcA t c a b).setIfInBounds 3 u=rcA t c a u:=by
 simp [rcA]
theorem Wa (t c:Int) (a b:qn):(rcA t c (STR a) (STR b)).all (·.oneCell')=true:=by simp [rcA,STR,Value.oneCell']
theorem Gs (F:Bool) (W:World) (f:Nat) (A:Option Addr) (N cap:Nat) (b:List UInt8) (c:Cu) (h:Cur W f A N cap b c):
  Calls prog 192 #[.agg #[.pointer f], .bool F] W (CC W f A N cap b (FQ b F c)):=by
 have HC:=qj h;obtain⟨R,B⟩: ∃R,R=FQ b F c:=⟨_,rfl⟩;rw [<-B];have d':Hid (f<W.heap.size):=h.blk.lt;have iL:Hid (∀k∈fpS A,k<W.heap.size):=λk hk=>(zj h.own k hk).2;have s:Hid (RB W ((W.alloc (.cells #[.pointer f] 293)).alloc (.cells #[.int .u64 0, .int .u8 0, .string ⟨#[]⟩, .string ⟨#[]⟩] 45)) f A N cap b c (rcA 0 0 (STR []) (STR []))):=by
  have S:Below W.heap.size W (W.alloc (.cells #[.pointer f] 293)):=(qZ _ _).alloc (qx _) _;have V:Below W.heap.size W ((W.alloc (.cells #[.pointer f] 293)).alloc (.cells #[.int .u64 0, .int .u8 0, .string ⟨#[]⟩, .string ⟨#[]⟩] 45)):=S.alloc S.size _;refine⟨(Blk.new W _ _).alloc _, ?_,h.fresh V,qE.jq V,d'.out,iL.out⟩;have h:=Blk.new (W.alloc (.cells #[.pointer f] 293)) 45 (rcA 0 0 (STR []) (STR []));simpa [rcA,STR] using h
 have n:Hid (∀W c (h:Cur W f A N cap b c),Calls prog 227 #[.pointer f, .int .i64 4000] W (jS W f A N cap b (STR (xa b 4000 c).1) (xa b 4000 c).2)):=λW c h=>pB W f A N cap b c 4000 h uK;unfold jS at n;cases F
 focus
  have I:Hid (R=(⟨0,(0:UInt8).toNat,(xa b 4000 c).1,(xa b 4000 (xa b 4000 c).2).1⟩,(xa b 4000 (xa b 4000 c).2).2)):=B;clear B h;go_enter func192,ntmps192
  go_wp2_with fail;generalize ((W.alloc (.cells #[.pointer f] 293)).alloc (.cells #[.int .u64 0, .int .u8 0, .string ⟨#[]⟩, .string ⟨#[]⟩] 45))=Y at*
  have p:=qj (n.out Y c s.cur);have q:=qj (λW h=>n.out W (xa b 4000 c).2 h);generalize (xa b 4000 (xa b 4000 c).2).1=d at*
  generalize (xa b 4000 (xa b 4000 c).2).2=c9 at*
  generalize (xa b 4000 c).1=a at*
  generalize (xa b 4000 c).2=c8 at*
  clear n;unfold STR at p q;refine p.mono ?_;rintro e H ⟨rfl,z,u⟩;have l:=s.step z u;have M:=l.frz 2;have y:H.cell? ⟨W.heap.size+1,2,none⟩=some (STR []):=l.cells 2;have g:=qj (l.zh 2 (STR a));rw [(PC _ _ _ _ (STR a) 0).2.2.1] at g;unfold STR at y;rw [show STR a= .string ⟨a.toArray⟩ from rfl] at g
  have q8:=g.out.VH;have x:=qj (q.out _ g.cur);clear p q z u l s
 rotate_left
 focus
  have I:Hid (R=(⟨(X7 b c).1,(j_ b (X7 b c).2).1.toNat,(xa b 4000 (j_ b (X7 b c).2).2).1,(xa b 4000 (xa b 4000 (j_ b (X7 b c).2).2).2).1⟩,(xa b 4000 (xa b 4000 (j_ b (X7 b c).2).2).2).2)):=B;have L:=qj (Fc _ f A N cap b c s.cur);have E:=qj (λW h=>QS W f A N cap b (X7 b c).2 h);unfold jS at L E;have X:B8 (j_ b (X7 b c).2).1= .int .u8 ((j_ b (X7 b c).2).1.toNat:Int):=rfl;rw [X] at E;generalize (j_ b (X7 b c).2).1.toNat=m at*
  generalize (j_ b (X7 b c).2).2=c2 at*
  generalize (X7 b c).1=o at*
  generalize (X7 b c).2=c1 at*
  clear B h X;have q0:=s.out.VH;go_enter func192,ntmps192
  go_wp2_with fail;generalize ((W.alloc (.cells #[.pointer f] 293)).alloc (.cells #[.int .u64 0, .int .u8 0, .string ⟨#[]⟩, .string ⟨#[]⟩] 45))=Y at*
  refine L.mono ?_;rintro e w3 ⟨rfl,Q,U⟩;have G:=s.step Q U;have f0:=G.frz 0;have g0:w3.cell? ↑(W.heap.size+1)=some (.int .u64 0):=G.cells 0;have C:=qj (G.zh 0 (.int .u64 (o:Int)));rw [(PC _ _ _ _ (STR []) _).1] at C;have q1:=C.out.VH;have P:=qj (E.out _ C.cur);clear L E Q U G s q0
  go_wp2_with fail;refine P.mono ?_;rintro e O ⟨rfl,Z,T⟩;have D:=C.step Z T;have f1:=D.frz 1;have g1:O.cell? ⟨W.heap.size+1,1,none⟩=some (.int .u8 0):=D.cells 1;have v:=qj (D.zh 1 (.int .u8 (m:Int)));rw [(PC _ _ _ _ (STR []) _).2.1] at v;clear P Z T D C q1 f0 g0;have q2:=v.out.VH
  go_wp2_with fail;generalize O.setCell ⟨W.heap.size+1,1,none⟩ (.int .u8 (m:Nat))=w6 at*
  clear f1 g1 q2;have p:=qj (n.out w6 c2 v.cur);have q:=qj (λW h=>n.out W (xa b 4000 c2).2 h);generalize (xa b 4000 (xa b 4000 c2).2).1=d at*
  generalize (xa b 4000 (xa b 4000 c2).2).2=c9 at*
  generalize (xa b 4000 c2).1=a at*
  generalize (xa b 4000 c2).2=c8 at*
  clear n;unfold STR at p q;refine p.mono ?_;rintro e H ⟨rfl,z,u⟩;have l:=v.step z u;have M:=l.frz 2;have y:H.cell? ⟨W.heap.size+1,2,none⟩=some (STR []):=l.cells 2;have g:=qj (l.zh 2 (STR a));rw [(PC _ _ _ _ (STR a) 0).2.2.1] at g;unfold STR at y;rw [show STR a= .string ⟨a.toArray⟩ from rfl] at g
  have q8:=g.out.VH;have x:=qj (q.out _ g.cur);clear p q z u l v
 rotate_left
 all_goals
  go_wp2_with fail;refine x.mono ?_;rintro e K ⟨rfl,w,t⟩;have j:=g.step w t;have f3:=j.frz 3;have J:K.cell? ⟨W.heap.size+1,3,none⟩=some (STR []):=j.cells 3;have i:=qj (j.zh 3 (STR d));rw [(PC _ _ _ _ (STR d) 0).2.2.2] at i;unfold STR at J;rw [show STR d= .string ⟨d.toArray⟩ from rfl] at i
  clear x w t j g q8 M y
 ·have r:=qj (i.row (rcA (0:Int) (0:Int) (.string ⟨a.toArray⟩) (.string ⟨d.toArray⟩)))
  go_wp2_with (first
   |(refine ja rfl 45 _ rfl (W.heap.size+1) rfl 45 (rcA (0:Int) (0:Int) (.string ⟨a.toArray⟩) (.string ⟨d.toArray⟩)) (0,0) _ i.rc ZI rfl Yx ?_)
   |(refine qC rfl 45 _ _ rfl (W.heap.size+1) (rcA (0:Int) (0:Int) (.string ⟨a.toArray⟩) (.string ⟨d.toArray⟩)) rfl rfl 45 (rcA (0:Int) (0:Int) (.string ⟨a.toArray⟩) (.string ⟨d.toArray⟩)) i.rc Yx rfl (Wa _ _ a d) ?_))
  refine qW (pM rfl _ _ (W.heap.size+1) (rcA (0:Int) (0:Int) (.string ⟨a.toArray⟩) (.string ⟨d.toArray⟩)) rfl (qN _ (W.heap.size+1) 45 _ (rcA (0:Int) (0:Int) (.string ⟨a.toArray⟩) (.string ⟨d.toArray⟩)) (0,0) _ r.rc ZI rfl Yx)) rfl ?_;unfold CC;rw [I.out];exact⟨rfl,r.cur,r.jZ⟩
 ·have r:=qj (i.row (rcA (o:Int) (m:Int) (.string ⟨a.toArray⟩) (.string ⟨d.toArray⟩)))
  go_wp2_with (first
   |(refine ja rfl 45 _ rfl (W.heap.size+1) rfl 45 (rcA (o:Int) (m:Int) (.string ⟨a.toArray⟩) (.string ⟨d.toArray⟩)) (0,0) _ i.rc ZI rfl Yx ?_)
   |(refine qC rfl 45 _ _ rfl (W.heap.size+1) (rcA (o:Int) (m:Int) (.string ⟨a.toArray⟩) (.string ⟨d.toArray⟩)) rfl rfl 45 (rcA (o:Int) (m:Int) (.string ⟨a.toArray⟩) (.string ⟨d.toArray⟩)) i.rc Yx rfl (Wa _ _ a d) ?_))
  refine qW (pM rfl _ _ (W.heap.size+1) (rcA (o:Int) (m:Int) (.string ⟨a.toArray⟩) (.string ⟨d.toArray⟩)) rfl (qN _ (W.heap.size+1) 45 _ (rcA (o:Int) (m:Int) (.string ⟨a.toArray⟩) (.string ⟨d.toArray⟩)) (0,0) _ r.rc ZI rfl Yx)) rfl ?_;unfold CC;rw [I.out];exact⟨rfl,r.cur,r.jZ⟩
end Go.Proofs.YtfnlfpcfkbdcmaaGreatDoor
