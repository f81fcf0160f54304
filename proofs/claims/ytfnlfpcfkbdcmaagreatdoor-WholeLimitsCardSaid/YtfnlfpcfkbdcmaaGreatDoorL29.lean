import Derived.Test.YtfnlfpcfkbdcmaaGreatDoorL24
import Derived.Test.YtfnlfpcfkbdcmaaGreatDoorL25
import Derived.Test.YtfnlfpcfkbdcmaaGreatDoorL26
set_option linter.unusedSimpArgs false
set_option linter.unusedVariables false
set_option maxRecDepth 100000
set_option maxHeartbeats 0
open Go.Proofs.Tryz
namespace Go.Proofs.YtfnlfpcfkbdcmaaGreatDoor
open Go.RowKit
section
variable {A:q'}{B b base c g n:Nat}{W W' W4 w:World}{ls:List (List Nat)}
theorem nW (W:World) (base g d:Nat) (a:List Nat) (h:PtI W base g 366 d a) (I:d<=14) (D: ∀x∈a,x<=20000) (V:a.length<=20000) (Z:base<=W.heap.size):
  Calls prog 234 #[.pointer g] W (gz W a):=by
 obtain⟨O,hi,w,o,y⟩:=qA XM;replace hi:=qj hi;replace w:=qj w;replace o:=qj o;replace y:=qj y;have r:=qj (BC W base g d a h);have d':Hid (g<W.heap.size):=by obtain⟨_,_,_,_,R⟩:=h;exact R.blk.lt
 have K:Hid (∀q,Below W W q->PtI q base g 366 d a):=λq T=>h.jZ (qE.jq (l:=[]) T) s8 s8;have N:=qj D;obtain⟨n,c⟩: ∃n,n=a.length:=⟨_,rfl⟩;unfold gz;rw [<-c] at r V⊢;replace c:=qj c;clear h D;go_enter func234,ntmps234
 go_wp2_with fail;refine r.mono ?_;rintro e w' ⟨rfl,rfl⟩;clear r
 go_wp2_with fail;go_loopw [3,7] (λM v wr=> ∃(i c2:Nat) (b:Option Addr),M= .slice b i c2/\v=(i:Value)/\i<=n/\Hid (wr.ownsRow W 3 1 (.slice b i c2) i ((a.take i).map NV))/\Hid (Below W W wr)) (λ_ v _=>n-(intOf v).toNat)
 case atStart=>exact⟨0,0,none,rfl,rfl,qp _,qP _ _ _ _,qZ _ _⟩
 case round=>
  obtain⟨i,c2,b,rfl,rfl,iL,m,j⟩:=hrel;by_cases L:i<n
  ·have Y:(i:Int)<(n:Int):=uK
   have z:i<a.length:=by rw [<-c.out];exact L
   have G:=N.out _ (zx z);have H:=qj (Cm wr base g d i 366 a (K.out wr j) I z G);have u:a.take (i+1)=a.take i++[a[i]]:=by rw [qs,qX z];rfl
   have J:i+1<=maxLen:=SJ;have Q:(i+1)*8<=140737488355328:=uK;generalize a[i]=x at*
   replace u:=qj u;clear G
   go_wp2_with fail;refine H.mono ?_;rintro e t ⟨rfl,p⟩;have s:=qj (qG m (p.below _));have f:=qj (j.trans (p.below W));clear H p m j
   go_wp2_with (at_builtin;refine qF _ rfl (.tmp 10) (.tmp 16) 62 rfl W 3 O () 1 8 jj hi w o y rfl uK b i c2 _ rfl (s.alloc _) (t.heap.size+1) t 1 1 [.int .i64 (x:Int)] rfl (zU _ _ _) (one_one rfl) J Q (qv f.size s8) ?_;intro C B A k F _;have E:jO [3] W t A:=((jO.refl _ _ _).alloc f.size (.cells #[x] 3)).grown (s.alloc (.cells #[x] 3)) s8 (qx _) (qv f.size s8) F;have U:=qj (f.trans E.below);replace k:=qj k;clear F E)
   have S:Hid (A.ownsRow W 3 1 (.slice C (i+1) B) (i+1) ((a.take (i+1)).map NV)):=by rw [Hid,u.out,qg];exact k.out
   clear s f k;go_roundw
   case rel=>exact⟨i+1,B,C,by first|rfl|simp,by first|rfl|simp,uK,S,U⟩
   case measure=>simp [intOf];omega
  ·obtain rfl:i=n:=uK
   have X: ¬(i:Int)<(i:Int):=uK;have P:Hid (wr.ownsRow W 3 1 (.slice b i c2) i (a.map NV)):=by
    have h:=m.out;rw [qH (by rw [<-c.out];exact qx _)] at h
    exact h
   clear m
   go_wp2_with fail;go_ret;exact⟨b,c2,rfl,P.out,j.out⟩
structure Jc (W:World) (base:Nat) (A:q') (n c:Nat) (ls:List (List Nat)):Prop where
 ex: ∃vs:List Value,W.ownsRow base 62 1 (.slice A n c) n vs/\ls.length=n/\ ∀(i:Nat) (l:List Nat),ls[i]? =some l-> ∃(Ai:q') (ci:Nat),vs[i]? =some (.slice Ai l ci)/\W.ownsRow base 3 1 (.slice Ai l ci) l (l.map NV)
theorem Jc.nil (W:World) (base:Nat):Jc W base none 0 0 []:=⟨_,qP _ _ _ _,rfl,λi l h=>by simp at h⟩
theorem Jc.keep {l:List TypeId} (h:Jc W base A n c ls) (d:jO l b W W') (h1:62∉l) (h2:3∉l):Jc W' base A n c ls:=by
 obtain⟨vs,f,g,e⟩:=h;exact⟨_,d.own f h1,g,λi l hi=>by
  obtain⟨Ai,j,a,b⟩:=e i l hi;exact⟨_,j,a,d.own b h2⟩⟩
theorem Jc.below (h:Jc W base A n c ls) (a:Below W W W'):Jc W' base A n c ls:=h.keep (l:=[]) (jO.fresh a (qx _)) s8 s8
theorem Jc.Vg (h:Jc W base A n c ls) (d:b<=base):Jc W b A n c ls:=by
 obtain⟨vs,f,g,e⟩:=h;exact⟨_,qi f d,g,λi l hi=>by
  obtain⟨Ai,j,a,b⟩:=e i l hi;exact⟨_,j,a,qi b d⟩⟩
theorem Jc.push {vs:List Value} {e t:q'} {m c1 q:Nat} {l:List Nat} (j:W.ownsRow base 62 1 (.slice A n c) n vs) (p:ls.length=n) (u: ∀(i:Nat) (l:List Nat),ls[i]? =some l-> ∃(Ai:q') (d:Nat),vs[i]? =some (.slice Ai l d)/\W.ownsRow base 3 1 (.slice Ai l d) l (l.map NV))
  (g:W.ownsRow base 3 1 (.slice e m c1) m (l.map NV)) (o:Obj) (k:base<=W.heap.size) (v:(W.alloc o).grownBy W4 (A.map (·.block))) (h4:W4.ownsRow base 62 1 (.slice t (n+1) q) (n+1) (vs++[.slice e m c1])):
  Jc W4 base t (n+1) q (ls++[l])/\Below base W W4:=by
 have r:l.length=m:=by have:=g.1;simpa using this
 have h0:=(qZ _ W).alloc (qx _) o;have f:jO [62] base W W4:=(jO.fresh h0 k).grown (qG j h0) s8 (qx _) (qv k h0.size) v;have w:vs.length=n:=by have:=j.1;omega
 refine⟨⟨_,h4,by rw [qK,p];rfl,λi x hi=> ?_⟩,f.below⟩;rcases jE i n with h|h
 ·rw [q_ uK] at hi;obtain⟨Ai,d,a,b⟩:=u i x hi;exact⟨_,d,by rw [q_ uK];exact a,f.own b FV⟩
 ·rw [qm uK,p] at hi;have s:i-n=0:=by
   rcases zA (i-n) with h|h
   ·exact h
   ·rw [qO SZ] at hi;cases hi
  rw [s] at hi;injection hi with hi;subst hi;refine⟨e,c1, ?_, ?_⟩
  ·rw [qm uK,w,s,r];rfl
  ·rw [r];exact f.own g FV
theorem BE:(prog.info? 62).map (λi=>(i.zero,i.size,i.bytes))=some (some (.slice none 0 0),1,24):=AL
theorem OS (a:Nat) (b:qn):(dw a b).2.2<=b.length:=by
 have c:(jU b (a:Int) ⟨0,0⟩).2.at_<=b.length:=by
  have:=cX b (a:Int);unfold jU yO;dsimp only;split
  ·exact qp _
  ·split
   ·exact qp _
   ·show 0+_<=_;simpa using this
 unfold dw;split
 ·exact qp _
 ·dsimp only;split
  ·exact qp _
  ·split
   ·exact c
   ·split
    ·exact qp _
    ·have:=Ei (a:Int).toNat (jU b (a:Int) ⟨0,0⟩).1 (b.drop (jU b (a:Int) ⟨0,0⟩).2.at_);rw [qI] at this;dsimp only;omega
theorem kN (a n:Nat) (b:qn) (c:List (List Nat)):yR a (n+1) b c=if(dw a b).1≠0 then((dw a b).1,[]) else if(dw a b).2.1=[] then(2,[]) else yR a n (b.drop (dw a b).2.2) (c++[(dw a b).2.1]):=rfl
def MR (W:World) (r:Int×List (List Nat)) (e:Ending) (a:World):Prop:= ∃A c,e= .returned (.tuple #[.slice A r.2 c, .int .i64 r.1])/\Jc a W A r.2 c r.2/\Below W W a
theorem nS (n d:Nat) (Ab:q') (N c B:Nat) (b:qn) (W:World) (hr:Reads W B 1 Ab N (b.map B8)) (hB:B<=W.heap.size) (hN:N<=1000000000) (hNc:N<=c) (hbd:d<=20000) (hn:n<=2000000):
  Calls prog 198 #[n,d, .slice Ab N c] W (MR W (yR d n b [])):=by
 obtain⟨i0,hi,iL,m',I'⟩:=xt BE;obtain⟨j0,hj,jz0,Y',jz2⟩:=qA xR;have hcl:=qj (λ(A:q') (N c i:Nat) (h:i<=N)=>jI _ 5 _ 1 qu hj Y' A N c i .i64 h);obtain⟨R,F⟩:=j1 (yR d n b []);rw [<-F];replace F:Hid (yR d (n-0) b []=R):=F.symm;have H:=qj hr;clear hr hj jz0 Y' jz2;go_wp2;go_loopw [2,8,13] (λv2 v8 u' wr=> ∃(i m s c2:Nat) (x E:q') (bs:qn) (k:List (List Nat)),v2= .slice x m s/\v8= .slice E i c2/\u'=(i:Value)/\i<=n/\m<=N/\m<=s/\Hid (yR d (n-i) bs k=R)/\Hid (Reads wr B 1 x m (bs.map B8))/\Hid (Jc wr W E i c2 k)/\Hid (Below W W wr)) (λ_ _ u' _=>n-(intOf u').toNat)
 ·exact⟨0,N,c,0,Ab,none,b,[],rfl,rfl,rfl,qp _,qx _,hNc,F,H,Jc.nil _ _,qZ _ _⟩
 ·obtain⟨i,m,s,c2,x,E,bs,k,rfl,rfl,rfl,hin,M',G',C,r,I,o⟩:=hrel;by_cases hlt:i<n
  ·have hlt':=j' i n;obtain⟨f,hf⟩: ∃f,n-i=f+1:=⟨n-i-1,uK⟩;have O':n-(i+1)=f:=uK;have j:=C.out;rw [hf,kN] at j;have J:=qj (TP d x m s B _ _ r (qv hB o.size) (qv M' hN) G' hbd);have Y:=OS d bs;rw [r.len] at Y;unfold iu at J;generalize dw (d:Int) bs=rd at*;obtain⟨T,p,Uj⟩:=rd;dsimp only at j Y J;have L:Hid ((if T≠0 then(T,[]) else if p=[] then(2,[]) else yR d (n-(i+1)) (bs.drop Uj) (k++[p]))=R):=by rw [Hid,O'];exact j
   clear C j hf O';go_wp2_with fail;refine J.mono ?_;rintro e K ⟨t,⟨Q,rfl⟩|⟨h0,g,wd,rfl,hg,hwd,Z,hx,hil⟩⟩
   ·have u:Hid (R=(T,[])):=by rw [Hid,<-L.out,qk Q]
    have hne2:(T==0)=false:=by simpa using Q
    have z:=qj (o.trans (t.mono o.size));clear t I r;go_wp2;go_ret2;rw [u.out];exact⟨_,0,rfl,Jc.nil _ _,z⟩
   ·subst h0;have v:=L.out;rw [qJ FV] at v;replace v:=qj v;have z:=qj (o.trans (t.mono o.size));have w:=qj (I.below t);have Z':=qj (r.below (t.mono (qv hB o.size)));have U:=qj (BC K _ g _ p Z);have X:=qj (nW K _ g _ p Z hwd hx hil t.size);unfold gz at X;clear Z hx t hg I r o;by_cases y:p=[]
    ·have u:Hid (R=(2,[])):=by rw [Hid,<-v.out,qk y]
     subst y;rw [show([]:List Nat).length=0 from rfl] at U;go_wp2_with fail;refine Ω U ?_;go_wp2;go_ret2;rw [u.out];exact⟨_,0,rfl,Jc.nil _ _,z⟩
    ·have HG5:Hid (yR d (n-(i+1)) (bs.drop Uj) (k++[p])=R):=by rw [Hid,<-v.out,qJ y]
     have hlp:=JA.2 y;obtain⟨vs,ho,N9,hv⟩:=w.out;generalize J':p.length=q at*;have hq0:((q:Int)==0)=false:=by rw [zE];omega
     have hb1:i+1<=maxLen:=SJ;have hb2:(i+1)*24<=140737488355328:=uK;have hcut:=hcl x m s _ Y;replace w:=qj (show W.heap.size<=K.heap.size from z.size);have OX:=qj ho;have hll2:=qj N9;have N6:=qj hv;generalize z':xo x s Uj 1=Ab3 at*;replace z':=qj z';clear ho N9 hv;go_wp2_with fail;refine Ω U ?_;go_wp2_with fail;refine X.mono ?_;rintro e O ⟨A3,c3,rfl,X',D⟩;have D':=qj (qG OX D);have N':=qj (qi X' w);have P':Hid (∀(i:Nat) (l:List Nat),k[i]? =some l-> ∃(Ai:q') (S:Nat),vs[i]? =some (.slice Ai l.length S)/\O.ownsRow W 3 1 (.slice Ai l.length S) l.length (l.map NV)):=λi l h=>by
      obtain⟨Ai,S,a,b⟩:=N6 i l h;exact⟨_,S,a,qG b D⟩
     have p':=qj (qv w D.size);have HB3:=qj D;clear X' D;go_wp2_with (at_builtin;refine qF _ rfl (.tmp 30) (.tmp 33) 100 rfl W 62 i0 zn 1 24 underlying100 hi iL m' I' rfl uK E i c2 vs rfl (D'.alloc _) (O.heap.size+1) O 1 1 [.slice A3 q c3] rfl (zU _ _ _) (one_one rfl) hb1 hb2 (qv p' s8) ?_;intro A4 c4 w4 S' U' _;have h4:=Jc.push D' hll2 P' N' _ p' U' S';replace h4:=qj h4;clear S' U');have d':=qj ((HB3.mono w).trans h4.out.2);have Q':=qj ((Z'.below (d'.mono hB)).VC Y G');rw [z'.out] at Q';have HI4:=qj h4.out.1;have HW4:=qj (z.trans d');have hmt:m-Uj<=N:=qv (Qd _ _) M';have hmc2:m-Uj<=s-Uj:=Nat.sub_le_sub_right G' _;refine xk ?_;exact⟨i+1,m-Uj,s-Uj,c4,Ab3,A4,bs.drop Uj,k++[p],xb,xb,xb,uK,hmt,hmc2,HG5,Q',HI4,HW4⟩
  ·obtain rfl:i=n:=uK;have hge:=vv i i;have j:=C.out;rw [xO] at j;have M:=r.len;have V:=I.ex.choose_spec.2.1;by_cases G:bs=[]
   ·have u:Hid (R=(0,k)):=by rw [Hid,<-j];unfold yR;rw [qk G]
    obtain rfl:m=0:=by rw [<-M,G];rfl
    replace V:=qj V;clear C j M r;go_wp2;go_ret2;unfold MR;rw [u.out];dsimp only;rw [V.out];exact⟨E,_,rfl,I,o⟩
   ·have u:Hid (R=(2,[])):=by rw [Hid,<-j];unfold yR;rw [qJ G]
    have hm0:0<m:=by rw [<-M];exact JA.2 G
    clear C j M r G;go_wp2;go_ret2;rw [u.out];exact⟨_,0,rfl,Jc.nil _ _,o⟩
theorem Pa (b:qn) (k:Int) (c:Cu) (h:c.at_<=b.length):(jW b k c).2.at_<=b.length:=by
 unfold jW yO;dsimp only;split
 ·exact h
 ·split
  ·exact h
  ·rename_i h2;have h3:Xv b k c=0:=by simpa using h2
   unfold Xv at h3;split at h3
   ·cases h3
   ·split at h3
    ·cases h3
    ·rename_i h4 h5;rw [qI] at h5;show c.at_+_<=_;omega
theorem Us (b:qn) (m:Int) (c:Cu) (h:c.at_<=b.length):(jU b m c).2.at_<=b.length:=by
 have:=cX (b.drop c.at_) m;rw [qI] at this;unfold jU yO;dsimp only;split
 ·exact h
 ·split
  ·exact h
  ·show c.at_+_<=_;omega
theorem gT (b:qn): ∀f c a,c.at_<=b.length->(Q5 b f c a).2.at_<=b.length
 |0,c,a,h=>h
 |f+1,c,a,h=>by
  rw [kT];split
  ·exact h
  ·exact gT b f _ _ (Us b _ c h)
theorem gW (b:qn) (size:Nat): ∀(l:List Nat) (n:Nat) (c:Cu) (a:List qn),c.at_<=b.length->(yr b size n l c a).2.2<=b.length
 |[],n,c,a,h=>by
  rw [YF];split
  ·exact qp _
  ·exact h
 |k::t,n,c,a,h=>by
  unfold yr;split
  ·exact qp _
  ·split
   ·exact qp _
   ·exact gW b _ t _ _ _ (Pa b k c h)
theorem On (size:Int) (b:qn):(D0 size b).2.2<=b.length:=by
 unfold D0;split
 ·exact qp _
 ·exact gW _ _ _ _ _ _ (gT _ _ _ _ (Us b _ _ (qp _)))
theorem DtI.IG {W b:World} {a:Nat} {size:Int} {c:List qn} (h:DtI W base g size c a) (e:Below W W b):DtI b base g size c a:=by
 obtain⟨j,f,d,ch,k,i⟩:=h;exact⟨j,f,d,_,k,i.fresh e⟩
theorem Yn {a:Func} {p s:Tmp} {b:TypeId} (h:a.results= #[.cell p b, .tmp s]) (tmps:Array Value) (w:World) (g:Nat) (c:Array Value) (v:Value)
  (i:tmps.getD p undef= .pointer g) (e:tmps.getD s undef=v) (d:(loadVar b g).run prog w= .ok (.agg c) w):
  (results a tmps).run prog w= .ok (.tuple #[.agg c,v]) w:=by
 have j:tmps[p]?.getD undef= .pointer g:=by simpa using i
 have f:tmps[s]?.getD undef=v:=by simpa using e
 simp [results,h,j,f,asAddr,d]
theorem Yg:(prog.info? 102).map (·.size)=some 2:=AL
def ixV (f:q') (a e:Nat) (b:q') (d c:Nat):Array Value:= #[.slice f a e, .slice b d c]
theorem fK (f:q') (a e:Nat) (b:q') (d c:Nat):(ixV f a e b d c).all (·.oneCell')=true:=by simp [ixV,Value.oneCell']
def ixZ:Array Value:=ixV none 0 0 none 0 0
theorem Kp {size:Nat} {E:TypeId} {b:List Value} {i:Array Value} (h:w.ownsRow base E size (.slice A n c) n b) (d:Blk w g 102 i) (a:Array Value) (f:E≠102):(w.setRow g a).ownsRow base E size (.slice A n c) n b:=
 (Js w g a).own h (λk e=>by rw [qy];exact qT h d f k e)
theorem Jc.row {ls:List (List Nat)} {o:Array Value} (h:Jc w base A n c ls) (e:Blk w g 102 o) (d:Array Value):Jc (w.setRow g d) base A n c ls:=by
 obtain⟨vs,j,k,f⟩:=h;exact⟨_,Kp j e d FV,k,λi l hi=>by
  obtain⟨Ai,m,a,b⟩:=f i l hi;exact⟨_,m,a,Kp b e d FV⟩⟩
def Mt (W:World) (r:Int×List qn×List (List Nat)) (e:Ending) (a:World):Prop:=
 ∃f d b c,e= .returned (.tuple #[.agg (ixV f r.2.1.length d b r.2.2.length c), .int .i64 r.1])/\a.ownsRow W 9 1 (.slice f r.2.1.length d) r.2.1.length (r.2.1.map STR)/\Jc a W b r.2.2.length c r.2.2/\Below W W a/\r.2.1.length<=2000000
theorem TU (size:Int) (n:Nat) (o:q') (N c B:Nat) (b:qn) (W:World) (D:Reads W B 1 o N (b.map B8)) (y:B<=W.heap.size) (hN:N<=1000000000) (OX:N<=c) (N':n<=20000):
  Calls prog 163 #[size,n, .slice o N c] W (Mt W (Fs size n b)):=by
 obtain⟨j0,hj,S',D',Q'⟩:=qA xR;have M':=qj (λi (h:i<=N)=>jI _ 5 _ 1 qu hj D' o N c i .i64 h);have q:Hid (Blk (W.alloc (.cells ixZ 102)) W 102 ixZ):=Blk.new _ _ _;have m:Hid (Below W W (W.alloc (.cells ixZ 102))):=z8 _;have M:ixZ= #[.slice none 0 0, .slice none 0 0]:=rfl;obtain⟨R,d⟩:=j1 (Fs size n b);rw [<-d];unfold Fs at d;rw [qJ uK] at d;dsimp only at d;rw [zc] at d;have KD:Hid (∀a,Below W W a->Calls prog 197 #[size, .slice o N c] a (Wm a size (D0 size b))):=λa h=>by
  by_cases hs:size<1\/64<size
  ·exact Co _ o N c b a hs
  ·obtain⟨k,rfl⟩: ∃k:Nat,size=(k:Int):=⟨size.toNat,uK⟩;exact El k o N c B b a (D.below (h.mono y)) (qv y h.size) hN uK uK
 have C:=On size b;rw [D.len] at C;generalize D0 size b=dr at*;obtain⟨X,r,j⟩:=dr;dsimp only at d C;have hb1: ¬(n:Int)<0:=uK;have Y': ¬(20000:Int)<(n:Int):=uK;have x:=KD _ m.out;unfold Wm at x;dsimp only at x;replace d:=qj d;have H:=qj D;rw [M] at q m x;clear D hj S' D' Q';go_in;go_wp2_with fail;generalize W.alloc (.cells #[zn,zn] 102)=V at*;refine x.mono ?_;clear x;rintro e f ⟨s,⟨I,rfl⟩|⟨rfl,g,Q,rfl,hg,hd,d',u'⟩⟩
 ·have u:=qj (d.out.trans (qk I));have N9:(X==0)=false:=by simpa using I
  have O:=qj (q.below s q.lt);have HB:=qj (m.trans (s.mono m.size));clear s;rw [<-M] at O;go_wp2_with (first|(refine qC rfl 102 _ _ rfl W ixZ rfl rfl 102 ixZ O.out Yg rfl (fK _ _ _ _ _ _) ?_));refine qW (Yn rfl _ _ W _ X rfl rfl (qN _ W _ _ _ _ _ (O.row _) Xx rfl Yg)) rfl ?_;rw [u.out];exact⟨_,0,_,0,rfl,qP _ _ _ _,Jc.nil _ _,zu HB (qx _) _,s8⟩
 ·have l:=d.out;rw [qJ FV] at l;have Y:=qj (q.below s q.lt);have p:=qj (m.trans (s.mono m.size));have p':=H.below (p.mono y);have HD:=qj (show∀a,Below f.heap.size f a->DtI a V g size r Q from λa h=>hd.IG h);have I':=qj (λa h=>EL a V g _ _ r (HD a h));have iL:=qj (λa h=>E5 a V g _ _ r (HD a h) uK);have F:=qj (λa (h:Below f.heap.size f a)=>nS r n _ _ (c-j) B _ a ((p'.below (h.mono (qv y p.size))).VC C OX) (qv y (qv p.size h.size)) uK uK N' d');have hcut:=M' j C;unfold MR at F;unfold E4 at iL;generalize yR n r (b.drop j) []=lr at*;obtain⟨J,ls⟩:=lr;dsimp only at l F;generalize G':xo o c j 1=A3 at*;replace l:=qj l;generalize T:r.length=S at*;replace T:=qj T;clear s hd p';go_wp2_with fail;refine zv 12 (λ_=>True) AL trivial (λZ=> ?_);refine zq [0,2,3,4,5] (a':= ?_) ?_;refine vf 1 (qj (I' _ (qZ _ _).drew)) ?_;rintro e w' ⟨rfl,rfl⟩;refine⟨_,rfl,(trivial),λZ=> ?_⟩;refine vf 6 (qj (F _ (qZ _ _).drew)) ?_;rintro e w2 ⟨L,c2,rfl,J',A⟩;refine⟨_,rfl,(trivial),λZ=> ?_⟩;refine zq [7,8,9,10,11] (a':= ?_) ?_;refine zV AL ?_ _;have z:=qj (p.trans (((qZ f.heap.size f).drew.trans A).mono p.size));have m':=qj (J'.Vg p.size);have t:=qj (Y.below ((qZ f.heap.size f).drew.trans A) Y.lt);have KA:=qj (iL _ ((qZ f.heap.size f).drew.trans A));clear Z J' A hcut;by_cases v:J=0
  ·subst v;have u:=qj (l.out.trans (qJ FV));generalize U:ls.length=nl at*;replace U:=qj U;go_wp2_with fail;refine KA.mono ?_;rintro e w3 ⟨G,K,rfl,z',E⟩;have P':=qj (qi z' z.size);have N6:=qj (m'.below E);have w:=qj (t.below E t.lt);have O':=qj (z.trans (E.mono z.size));clear z' E;rw [<-M] at w;go_wp2_with (first|(refine qC rfl 102 _ _ rfl W (ixV G S K L nl c2) rfl rfl 102 ixZ w.out Yg rfl (fK _ _ _ _ _ _) ?_));refine qW (Yn rfl _ _ W _ _ rfl rfl (qN _ W _ _ _ _ _ (w.row _) Xx rfl Yg)) rfl ?_;rw [u.out];unfold Mt;dsimp only;rw [T.out,U.out];exact⟨G,K,L,_,rfl,Kp P' w _ FV,N6.row w _,zu O' (qx _) _,d'⟩
  ·have u:=qj (l.out.trans (qk v));have N9:(J==0)=false:=by simpa using v
   rw [<-M] at t;go_wp2_with (first|(refine qC rfl 102 _ _ rfl W ixZ rfl rfl 102 ixZ t.out Yg rfl (fK _ _ _ _ _ _) ?_));refine qW (Yn rfl _ _ W _ J rfl rfl (qN _ W _ _ _ _ _ (t.row _) Xx rfl Yg)) rfl ?_;rw [u.out];exact⟨_,0,_,0,rfl,qP _ _ _ _,Jc.nil _ _,zu z (qx _) _,s8⟩
def Yv (w:World) (B:Nat) (A:q') (n:Nat) (ls:List (List Nat)):Prop:=
 ∃a:List Value,Reads w B 1 A n a/\ls.length=n/\ ∀(i:Nat) (l:List Nat),ls[i]? =some l-> ∃(Ai:q') (b:Nat),a[i]? =some (.slice Ai l b)/\Reads w B 1 Ai l (l.map NV)
theorem Yv.below {w':World} (h:Yv w B A n ls) (a:Below B w w'):Yv w' B A n ls:=by
 obtain⟨g,b,d,c⟩:=h;refine⟨g,b.below a,d,λi e hi=> ?_⟩;obtain⟨Ai,f,h1,h4⟩:=c i e hi;exact⟨_,f,h1,h4.below a⟩
theorem Jc.rows {b c:Nat} (h:Jc w b A n c ls):Yv w w A n ls:=by
 obtain⟨vs,e,f,d⟩:=h;refine⟨vs,Reads.zY e,f,λi l hi=> ?_⟩;obtain⟨Ai,g,a,b⟩:=d i l hi;exact⟨_,g,a,Reads.zY b⟩
theorem Yv.len (h:Yv w B A n ls):ls.length=n:=by obtain⟨_,_,h2,_⟩:=h;exact h2
theorem Yv.row {k:Nat} (h:Yv w B A n ls) (g:k<n):
  ∃a l Ai b,A=some a/\ls[k]? =some l/\w.cell? (a.add k)=some (.slice Ai l b)/\Reads w B 1 Ai l (l.map NV):=by
 obtain⟨o,d,m,e⟩:=h;obtain⟨a,u,i,j,f,c⟩:=d.at_ g;obtain⟨Ai,b,h1,h4⟩:=e k (ls[k]'uK) (qX _);rw [f] at h1;injection h1 with h1;subst h1;exact⟨a,_,_,b,i,qX _,c,h4⟩
theorem Reads.nat {k:Nat} {l:List Nat} (h:Reads w B 1 A n (l.map NV)) (d:k<n): ∃a x,A=some a/\l[k]? =some x/\w.cell? (a.add k)=some (x:Value):=by
 obtain⟨a,u,e,-,c,b⟩:=h.at_ d;obtain⟨x,f,rfl⟩:=get_map _ l k u c;exact⟨a,x,e,f,b⟩
theorem Reads.str {k:Nat} {l:List qn} (h:Reads w B 1 A n (l.map STR)) (d:k<n): ∃a x,A=some a/\l[k]? =some x/\w.cell? (a.add k)=some (STR x):=by
 obtain⟨a,u,e,-,c,b⟩:=h.at_ d;obtain⟨x,f,rfl⟩:=get_map _ l k u c;exact⟨a,x,e,f,b⟩
end
section
variable {A:q'} {B:Nat} {n:Nat} {ls:List (List Nat)} {w:World}
variable {α:Type} {l:List α} {l':List α} {k:Nat} {x:α} {y:α}
theorem fk (h:l.take k=l'.take k) (b:l[k]? =some x) (a:l'[k]? =some y) (e:x=y):l.take (k+1)=l'.take (k+1):=by
 rw [qs,qs,h,b,a,e]
theorem WM [DecidableEq α] (b:l[k]? =some x) (a:l'[k]? =some y) (e:x≠y):decide (l=l')=false:=by
 rw [zW];rintro rfl;rw [b] at a;injection a with a;exact e a
theorem Wo [DecidableEq α] (h:l.take k=l'.take k) (h1:l.length=k) (h2:l'.length=k):decide (l=l')=true:=by
 rw [qH uK,qH uK] at h;exact qw h
theorem Ci [DecidableEq α] (h:l.length≠l'.length):decide (l=l')=false:=by
 rw [zW];rintro rfl;exact h rfl
end
section
variable {A:q'}{B n:Nat}{ls:List (List Nat)}{w:World}
theorem Tf (A o:q') (n g c s B z:Nat) (a b:List Nat) (w:World) (h1:Reads w B 1 A n (a.map NV)) (h2:Reads w z 1 o g (b.map NV)) (J:n<=1000000000000) (M:g<=1000000000000):
  Calls prog 167 #[.slice A n c, .slice o g s] w λe w'=>e= .returned (.bool (decide (a=b)))/\Dr w w':=by
 have l:=h1.len;have l2:=h2.len;by_cases q:n=g
 ·subst q;have t:=qj h1;have v:=qj h2;have L:=qj (show a.length=n/\b.length=n from⟨l,l2⟩);clear h1 h2 l l2;go_wp2;go_loopw [13] (λi wr=> ∃k:Nat,i=(k:Value)/\k<=n/\Hid (Dr w wr)/\Hid (a.take k=b.take k)) (λi _=>n-(intOf i).toNat)
  ·exact⟨0,rfl,uK,Dr.refl w,rfl⟩
  ·obtain⟨k,rfl,K,f,r⟩:=hrel;by_cases p:k<n
   ·obtain⟨G,x,rfl,h,F⟩:=(f.reads t).nat p;obtain⟨E,y,rfl,j,C⟩:=(f.reads v).nat p;have I:=j' k n;by_cases m:x=y
    ·subst m;have u:=qj (fk r h j rfl);clear h j;go_wp2;go_quiet (fail);go_wp2_with fail;refine xk ?_;exact⟨k+1,xh,uK,f.drewN _,u⟩
    ·have D:((x:Int) !=(y:Int))=true:=by
      rw [yo];omega
     have d:=qj (WM h j m);clear h j m;go_wp2;go_quiet (fail);go_wp2;go_ret;exact⟨j7 d.symm,f.drewN _⟩
   ·obtain rfl:k=n:=uK;have d:=qj (Wo r L.out.1 L.out.2);go_wp2;go_ret;exact⟨j7 d.symm,f⟩
 ·have H:((n:Int) !=(g:Int))=true:=by rw [yo];omega
  have d:Hid (decide (a=b)=false):=Ci uK;clear q h1 h2 l l2;go_wp2;go_ret;exact⟨j7 d.symm,Dr.refl w⟩
theorem TF (A v:q') (n o c F B M:Nat) (g h:List qn) (w:World) (h1:Reads w B 1 A n (g.map STR)) (h2:Reads w M 1 v o (h.map STR)) (R:n<=1000000000000) (T:o<=1000000000000):
  Calls prog 165 #[.slice A n c, .slice v o F] w λe w'=>e= .returned (.bool (decide (g=h)))/\Dr w w':=by
 have s:=h1.len;have l2:=h2.len;by_cases C:n=o
 ·subst C;have I:=qj h1;have K:=qj h2;have L:=qj (show g.length=n/\h.length=n from⟨s,l2⟩);clear h1 h2 s l2;go_wp2;go_loopw [13] (λi wr=> ∃k:Nat,i=(k:Value)/\k<=n/\Hid (Dr w wr)/\Hid (g.take k=h.take k)) (λi _=>n-(intOf i).toNat)
  ·exact⟨0,rfl,uK,Dr.refl w,rfl⟩
  ·obtain⟨k,rfl,S,m,E⟩:=hrel;by_cases z:k<n
   ·obtain⟨O,x,rfl,p,D⟩:=(m.reads I).str z;obtain⟨N,y,rfl,r,u⟩:=(m.reads K).str z;have Q:=j' k n;unfold STR at D u;obtain⟨d,j⟩: ∃d,ByteArray.mk x.toArray=d:=⟨_,rfl⟩;obtain⟨b,f⟩: ∃b,ByteArray.mk y.toArray=b:=⟨_,rfl⟩;rw [j] at D;rw [f] at u;have q:(d==b)=decide (x=y):=by rw [<-j,<-f,bytes_beq]
    by_cases a:x=y
    focus
     have J:=qj (fk E p r a);have t:(d==b)=true:=by rw [q];exact qw a
     have G:(d.toList==b.toList)=true:=by rw [gn j f];exact qw a
    rotate_left
    focus
     have l:=qj (WM p r a);have t:(d==b)=false:=by rw [q];exact qc a
     have G:(d.toList==b.toList)=false:=by rw [gn j f];exact qc a
    rotate_left
    all_goals
     clear p r q;go_wp2;go_quiet (fail);go_wp2_with fail
    ·refine xk ?_;exact⟨k+1,xh,uK,m.drewN _,J⟩
    ·go_ret;exact⟨j7 l.symm,m.drewN _⟩
   ·obtain rfl:k=n:=uK;have l:=qj (Wo E L.out.1 L.out.2);go_wp2;go_ret;exact⟨j7 l.symm,m⟩
 ·have P:((n:Int) !=(o:Int))=true:=by rw [yo];omega
  have l:Hid (decide (g=h)=false):=Ci uK;clear C h1 h2 s l2;go_wp2;go_ret;exact⟨j7 l.symm,Dr.refl w⟩
theorem Dr.Wi {a:World} (h:Dr a w) (r:Yv a B A n ls):Yv w B A n ls:=r.below (h.below B)
theorem gM (A D:q') (n m c I B U:Nat) (b f:List (List Nat)) (w:World) (h1:Yv w B A n b) (h2:Yv w U D m f) (hn:n<=10000000) (z: ∀x∈b,x.length<=1000000) (s: ∀x∈f,x.length<=1000000):
  Calls prog 166 #[.slice A n c, .slice D m I, .func (.func 167) #[] #[]] w λe w'=>e= .returned (.bool (decide (b=f)))/\Dr w w':=by
 have t:=h1.len;have l2:=h2.len;by_cases F:n=m
 ·subst F;have K:=qj (λW (v:Dr w W) (k:Nat) (p:k<n)=>(v.Wi h1).row p);have T:=qj (λW (v:Dr w W) (k:Nat) (p:k<n)=>(v.Wi h2).row p);have L:=qj (show b.length=n/\f.length=n from⟨t,l2⟩);have P:=qj z;have J:=qj s;clear h1 h2 t l2 z s;go_wp2;go_loopw [17] (λi wr=> ∃k:Nat,i=(k:Value)/\k<=n/\Hid (Dr w wr)/\Hid (b.take k=f.take k)) (λi _=>n-(intOf i).toNat)
  ·exact⟨0,rfl,uK,Dr.refl w,rfl⟩
  ·obtain⟨k,rfl,p,l,H⟩:=hrel;by_cases E:k<n
   ·obtain⟨X,x,M,S,rfl,h,G,r⟩:=K _ l k E;obtain⟨V,y,R,N,rfl,o,C,u⟩:=T _ l k E;have iL:=j' k n;have a:=qj (Tf M R x y S N _ _ x y _ r u (by have:=P x (zQ h);omega) (by have:=J y (zQ o);omega));generalize x.length=lx,y.length=Z at*;by_cases d:x=y
    focus
     have O:=qj (fk H h o d);rw [qw d] at a
    rotate_left
    focus
     have j:=qj (WM h o d);rw [qc d] at a
    rotate_left
    all_goals
     clear h o r u d;go_wp2_with fail;refine zC a ?_;intro Q g;have q:=qj (l.trans g);clear g G C;go_wp2_with fail
    ·refine xk ?_;exact⟨k+1,xh,uK,q,O⟩
    ·go_ret;exact⟨j7 j.symm,q⟩
   ·obtain rfl:k=n:=uK;have j:=qj (Wo H L.out.1 L.out.2);go_wp2;go_ret;exact⟨j7 j.symm,l⟩
 ·have Y:((n:Int) !=(m:Int))=true:=by rw [yo];omega
  have j:=qj (Ci (show b.length≠f.length by omega));clear F h1 h2 t l2 z s;go_wp2;go_ret;exact⟨j7 j.symm,Dr.refl w⟩
theorem Cl (f c l j:q') (b i a d g o k n B y:Nat) (T t:List qn) (L r:List (List Nat)) (W:World) (M:B<=W.heap.size) (I:y<=W.heap.size)
  (h1:Reads W B 1 f b (T.map STR)) (h2:Yv W B c a L) (h3:Reads W y 1 l g (t.map STR)) (h4:Yv W y j k r) (Y:b<=10000000) (S:a<=10000000) (X:g<=1000000000) (U: ∀x∈L,x.length<=1000000) (Q: ∀x∈r,x.length<=1000000):
  Calls prog 116 #[.agg (ixV f b i c a d), .agg (ixV l g o j k n)] W λe P=>e= .returned (.bool (decide ((T,L)=(t,r))))/\Below W W P:=by
 have F:Below W W (W.alloc (.cells (ixV f b i c a d) 102)):=z8 _;have q:Below W W ((W.alloc (.cells (ixV f b i c a d) 102)).alloc (.cells (ixV l g o j k n) 102)):=F.alloc s8 _;have A:=(Blk.new W 102 (ixV f b i c a d)).alloc (.cells (ixV l g o j k n) 102);have z:=Blk.new (W.alloc (.cells (ixV f b i c a d) 102)) 102 (ixV l g o j k n);rw [show(W.alloc (.cells (ixV f b i c a d) 102)).heap.size=W.heap.size+1 by simp] at z;unfold ixV at*;obtain⟨s,D⟩:=j1 ((W.alloc (.cells #[.slice f b i, .slice c a d] 102)).alloc (.cells #[.slice l g o, .slice j k n] 102));have c0:((W.alloc (.cells #[.slice f b i, .slice c a d] 102)).alloc (.cells #[.slice l g o, .slice j k n] 102)).cell? W.heap.size=some (.slice f b i):=A.cell 0;have c1:((W.alloc (.cells #[.slice f b i, .slice c a d] 102)).alloc (.cells #[.slice l g o, .slice j k n] 102)).cell? ⟨W,1,none⟩=some (.slice c a d):=A.cell 1;have c2:((W.alloc (.cells #[.slice f b i, .slice c a d] 102)).alloc (.cells #[.slice l g o, .slice j k n] 102)).cell? ↑(W.heap.size+1)=some (.slice l g o):=z.cell 0;have w:((W.alloc (.cells #[.slice f b i, .slice c a d] 102)).alloc (.cells #[.slice l g o, .slice j k n] 102)).cell? ⟨W.heap.size+1,1,none⟩=some (.slice j k n):=z.cell 1;rw [<-D] at q;have u:=qj (TF f l b g i o B y T t s (h1.below (q.mono M)) (h3.below (q.mono I)) uK uK);have E:=qj (λw' (h:Dr s w')=>gM c j a k d n B y L r _ (h.Wi (h2.below (q.mono M))) (h.Wi (h4.below (q.mono I))) S U Q);have G:=qj q;have N:=qj D;have K:decide ((T,L)=(t,r))=(decide (T=t)&&decide (L=r)):=by
  rw [yx,jo,zR,jo,jo,Prod.mk.injEq]
 rw [K];clear h1 h2 h3 h4 F q A z D K;by_cases p:T=t
 focus
  rw [qw p] at u;rw [qw p,Bool.true_and];generalize decide (L=r)=Z at*
 rotate_left
 focus
  rw [qc p] at u;rw [qc p,Bool.false_and];replace p:=qj p
 rotate_left
 all_goals
  go_in;go_wp2_with fail;rw [<-N.out] at c0 c1 c2 w⊢;refine zC u ?_;intro J v
 ·have O:=qj (E J v);obtain⟨m,rfl⟩:=v;have d1:(s.drewN m).cell? ⟨W,1,none⟩=some (.slice c a d):=c1;have d3:(s.drewN m).cell? ⟨W.heap.size+1,1,none⟩=some (.slice j k n):=w;have C:=qj (G.trans ((Dr.refl s).drewN m|>.below W));clear c0 c1 c2 w;go_wp2_with fail;refine zC O ?_;intro V H;have R:=qj (C.trans (H.below W));clear H;go_wp2;go_ret;exact⟨rfl,R⟩
 ·have C:=qj (G.trans (v.below W));clear v c0 c1 c2 w;go_wp2;go_ret;exact⟨rfl,C⟩
theorem BG (x:Nat): ∀l,Ya x l<=l.length
 |[]=>qx _
 |r::t=>by
  unfold Ya;split
  ·have:=BG x t;rw [qf];omega
  ·exact qp _
theorem dH (x:Nat): ∀(l:List Rec) (j:Nat) (h:j<l.length),j<=Ya x l->(l[j].level=x↔j<Ya x l)
 |r::t,0,h,_=>by
  unfold Ya;by_cases a:r.level=x
  ·rw [qk a];exact⟨λ_=>uK,λ_=>a⟩
  ·rw [qJ a];exact⟨λe=>absurd e a,λe=>uK⟩
 |r::t,j+1,h,b=>by
  unfold Ya at b⊢;by_cases a:r.level=x
  ·rw [qk a] at b⊢
   have:=dH x t j (by simpa using h) uK
   rw [List.getElem_cons_succ,this];omega
  ·rw [qJ a] at b;omega
theorem ES (a:Nat) (r:Rec) (t:List Rec):Kb a (r::t)=xv (zig ((r.time+18446744073709551616-a)%18446744073709551616))++Kb r.time t:=rfl
theorem IP (d:Nat) (h:d<18446744073709551616):zig d<18446744073709551616:=by
 unfold zig;split<;>omega
theorem En (A:Option Addr) (c B:Nat) (l:List Rec) (w:World) (h:Reads w B 4 A l (ji l)) (D:B<=w.heap.size) (hl:l.length<=20000) (hc:l.length<=c) (hm:c<=maxLen) (hok: ∀r∈l,Yj r):
  Calls prog 59 #[.slice A l c] w (jQ 5 w (ui l).length ((ui l).map B8)):=by
 obtain⟨i0,hi,J',P',O'⟩:=qA QB;replace hi:=qj hi;replace J':=qj J';replace P':=qj P';replace O':=qj O';obtain⟨j0,hj,jz0,jz1,jz2⟩:=qA PH;replace hj:=qj hj;replace jz1:=qj jz1;clear jz0 jz2;obtain⟨R,hR⟩: ∃R,R=ui l:=⟨_,rfl⟩;rw [<-hR];replace hR:Hid (Kb 0 l++Xo l l=R):=hR.symm;have H:=qj h;have HOK:=qj hok;clear h hok;go_enter func59,ntmps59
 go_wp2_with fail;go_loopw [3,4,10] (λv3 v4 v10 wr=> ∃(k m c2 G':Nat) (y:Option Addr) (o:List UInt8),v3= .slice y m c2/\v4= .int .u64 (G':Int)/\v10=(k:Value)/\k<=l.length/\m<=10*k/\G'<18446744073709551616/\Hid (o.length=m)/\Hid (o++Kb G' (l.drop k)=Kb 0 l)/\Hid (wr.ownsRow w 5 1 (.slice y m c2) m (o.map B8))/\Hid (Below w w wr)) (λ_ _ v10 _=>l.length-(intOf v10).toNat)
 case atStart=>exact⟨0,0,0,0,none,[],rfl,rfl,rfl,qp _,qx _,uK,rfl,rfl,qP _ _ _ _,qZ _ _⟩
 case round=>
  obtain⟨k,m,c2,G',y,o,rfl,rfl,rfl,i,hm10,hwas,HM,HT,HO,M⟩:=hrel;by_cases hlt:k<l.length
  ·have hlt':(k:Int)<(l.length:Int):=uK
   obtain⟨g,rfl,_,y0,y1,y2,y3⟩:=ZH (H.below (M.mono D)) k hlt;have hdr:l.drop k=l[k]::l.drop (k+1):=zK hlt;have htk:=(HOK.out _ (zx hlt)).1;have Z:=HT.out;rw [hdr,ES] at Z;obtain⟨d,hd⟩: ∃d,d=(l[k].time+18446744073709551616-G')%18446744073709551616:=⟨_,rfl⟩;rw [<-hd] at Z;have hd64:d<18446744073709551616:=by rw [hd];exact xC _ uK
   have KZ:=λW=>qj (OA d W hd64);have hz64:=IP d hd64;have O:=λW=>qj (vW (zig d) W hz64);have Z':=(jn (zig d)).2;have C:IntKind.u64.wrap ((l[k].time:Int)-(G':Int))=(d:Int):=by rw [qS];omega
   generalize zig d=z at*
   generalize xv z=xs at*
   generalize hTT:l.drop (k+1)=T at*
   replace hTT:=qj hTT;generalize (⟨l[k].src.toArray⟩:ByteArray)=S1 at*
   generalize (⟨l[k].txt.toArray⟩:ByteArray)=S2 at*
   generalize (l[k].level:Int)=u at*
   generalize l[k].time=F at*
   rw [<-jY] at Z;replace Z:=qj Z;replace hd:=qj hd;unfold jQ at O;obtain⟨b,v⟩: ∃b,b=xs.length:=⟨_,rfl⟩;have X':m+b<=maxLen:=SJ;have N9:(m+b)*1<=140737488355328:=uK;have HWa:=qj (M.alloc M.size (.cells #[.int .u64 (F:Int), .int .u8 u, .string S1, .string S2] 45));have HOa:=qj (HO.alloc (.cells #[.int .u64 (F:Int), .int .u8 u, .string S1, .string S2] 45));have hgr:Hid (wr.heap.size<(wr.alloc (.cells #[.int .u64 (F:Int), .int .u8 u, .string S1, .string S2] 45)).heap.size):=by rw [Hid];simp
   have hx0:Hid ((wr.alloc (.cells #[.int .u64 (F:Int), .int .u8 u, .string S1, .string S2] 45)).cell? wr.heap.size=some (.int .u64 (F:Int))):=(Blk.new wr 45 #[.int .u64 (F:Int), .int .u8 u, .string S1, .string S2]).cell 0;have HBKa:Hid (Blk (wr.alloc (.cells #[.int .u64 (F:Int), .int .u8 u, .string S1, .string S2] 45)) wr.heap.size 45 #[.int .u64 (F:Int), .int .u8 u, .string S1, .string S2]):=Blk.new _ _ _;have hl10:b<=10:=by rw [v];exact Z'
   clear hdr HT HO M
   go_wp2_with fail;refine(KZ _).out.mono ?_;rintro e w' ⟨rfl,rfl⟩
   go_wp2_with fail;refine(O _).out.mono ?_;rintro e w2 ⟨A3,c3,rfl,hf⟩;generalize wr.alloc (.cells #[.int .u64 (F:Int), .int .u8 u, .string S1, .string S2] 45)=wa at*
   have HO2:=qj (qG HOa hf.2);have HW2:=qj (HWa.trans (hf.2.mono HWa.size));have HR2:=qj hf.reads;have hsz2:Hid (w.heap.size<=w2.heap.size):=HW2.size;have hx2:Hid (w2.cell? wr.heap.size=some (.int .u64 (F:Int))):=(hf.2.cell (p:= wr.heap.size) hgr).trans hx0.out;have hgr2:Hid (wr.heap.size<w2.heap.size):=qB hgr hf.2.size;have hrc:=hf.2;rw [<-v] at HR2⊢;replace v:=qj v;have HBK:Hid (∃cs,Blk w2 wr.heap.size 45 cs):=⟨_,HBKa.below hf.2 hgr⟩;clear KZ O hf HOa HWa hrc
   go_wp2_with (at_builtin;refine qF _ rfl (.tmp 14) (.tmp 20) 30 rfl w 5 i0 (.int .u8 0) 1 1 qu hi J' P' O' rfl uK y m c2 _ rfl HO2 w2 A3 b c3 _ rfl HR2 (YR _) X' N9 hsz2 ?_;intro A4 c4 w4 ho4 hg4 hs4;have HW4:=qj (zG HW2 hg4 HO2 hsz2);have s:qE (fpS y) w2 w4:=(qE.refl _ _).grown hg4 (λk i=> .inl i);have hx4:w4.cell? wr.heap.size=some (.int .u64 (F:Int)):=s.cell (p:= wr.heap.size) (λi=>by obtain⟨cs,hcs⟩:=HBK.out;exact qT HO2 hcs FV _ i rfl) hx2.out;replace ho4:=qj ho4;clear hg4 hs4 s)
   have HO4:Hid (w4.ownsRow w 5 1 (.slice A4 (m+b) c4) (m+b) ((o++xs).map B8)):=by rw [Hid,qg];exact ho4.out
   have hac:Hid ((o++xs).length=m+b):=by rw [Hid,qK,HM.out,v.out]
   clear HO2 HW2 HR2 ho4 hx4 hx2 hx0 HBK HBKa;go_roundw
   case rel=>exact⟨k+1,m+b,c4,F,A4,o++xs,by first|rfl|simp,by first|rfl|simp,by first|rfl|simp,uK,uK,htk,hac,by rw [hTT.out];exact Z,HO4,HW4⟩
   case measure=>simp [intOf];omega
  ·obtain rfl:k=l.length:=uK
   have Z:Hid (o=Kb 0 l):=by
    have h:=HT.out;rw [List.drop_length,show Kb G' []=[] from rfl,jx] at h
    exact h
   have D':Hid (o++Xo l l=R):=by rw [Hid,Z.out];exact hR.out
   have u':=qj (H.below (M.mono D));generalize Z':l.length=nl at*
   replace Z':=qj Z';clear HT Z hR;obtain⟨w0,hw0⟩: ∃w',w'=wr:=⟨_,rfl⟩;subst hw0
   go_wp2_with fail;go_loopw [0,3] (λv0 v3 wr=> ∃(a E m c2 f:Nat) (Ar y:Option Addr) (lr:List Rec) (o:List UInt8),v0= .slice Ar a E/\v3= .slice y m c2/\a<=nl/\a<=E/\E<=maxLen/\a<=f/\m+11*a<=21*nl/\Hid (lr.length=a)/\Hid (o.length=m)/\Hid (o++Xo f lr=R)/\Hid (∀r∈lr,Yj r)/\Hid (Reads wr B 4 Ar a (ji lr))/\Hid (wr.ownsRow w 5 1 (.slice y m c2) m (o.map B8))/\Hid (Below w w wr)) (λv0 _ _=>Y8 v0)
   case atStart=>exact⟨nl,c,m,c2,nl,A,y,l,o,rfl,rfl,qx _,hc,hm,qx _,uK,Z',HM,D',HOK,u',HO,M⟩
   case round=>
    clear D' u' HO M;obtain⟨a,E,m,c2,f,Ar,y,lr,o,rfl,rfl,hnrl,hnr,hcr,hf,hm21,HLR,HACC,D',HRO,u',HO,M⟩:=hrel;by_cases hz:a=0
    ·subst hz
     have hlr:lr=[]:=xq.1 HLR.out;have HF:Hid (o=R):=by
      have h:=D'.out;rw [hlr] at h;rw [Hid];cases f with
      |zero=>simpa [Xo] using h
      |succ f=>simpa [Xo] using h
     clear D' hlr
     go_wp2_with fail;go_ret;rw [<-HF.out,HACC.out];exact⟨y,c2,rfl,HO.out,M.out⟩
    ·have hz':(0:Int)<(a:Int):=uK
     have hnr0: ¬(a:Int)<=0:=uK;obtain⟨f,rfl⟩: ∃f',f=f'+1:=⟨f-1,uK⟩;obtain⟨r,t,rfl⟩: ∃r t,lr=r::t:=by
      cases lr with
      |nil=>exact absurd HLR.symm (by simpa using hz)
      |cons r t=>exact⟨r,t,rfl⟩
     have N':=D'.out;unfold Xo at N';have hlv:=(HRO.out r (qo ..)).2.1;obtain⟨q,p'⟩: ∃q,q=Ya r.level t:=⟨_,rfl⟩;have hal1:q<=t.length:=by rw [p'];exact BG _ _
     have htl:t.length+1=a:=HLR.out;obtain⟨g,hAd,hadb,-,y1,-,-⟩:=ZH u' 0 s8;subst hAd;have y1':wr.cell? ⟨g.block,g.off+1,none⟩=some (.int .u8 (r.level:Int)):=by
      have e:g.add (0*4)=g:=by unfold Addr.add;simp
      rw [e] at y1;exact y1
     have hrl:Hid (∀n,1<=n->n<=q-> ∃u:Nat,wr.cell? ⟨(g.add (n*4)).block,(g.add (n*4)).off+1,none⟩=some (.int .u8 (u:Int))/\u=r.level):=λn h1 h2=>by
      obtain⟨ad2,e2,-,-,z1,-,-⟩:=ZH u' n (by rw [qf];omega)
      have e3:ad2=g:=(zy e2).symm;rw [e3] at z1;obtain⟨j,rfl⟩: ∃j,n=j+1:=⟨n-1,uK⟩;have hj:j<t.length:=uK;have hal2:=(dH r.level t j hj (by rw [<-p'];omega)).2 (by rw [<-p'];omega)
      exact⟨t[j].level,z1,hal2⟩
     have hrn0:Hid (q+1<a-> ∃u:Nat,wr.cell? ⟨(g.add ((q+1)*4)).block,(g.add ((q+1)*4)).off+1,none⟩=some (.int .u8 (u:Int))/\u≠r.level):=λh1=>by
      obtain⟨ad2,e2,-,-,z1,-,-⟩:=ZH u' (q+1) (by rw [qf];omega)
      have e3:ad2=g:=(zy e2).symm;rw [e3] at z1;have hj:q<t.length:=uK;have hal2:=dH r.level t q hj (by rw [<-p'];exact qx _)
      refine⟨t[q].level,z1,λe=> ?_⟩;have:=hal2.1 e;rw [<-p'] at this;omega
     have hrn1:=hrn0.out;rw [<-p'] at N';obtain⟨S,Q'⟩: ∃S,S=q+1:=⟨_,rfl⟩;rw [<-Q'] at N' hrn1;have hrn:=qj hrn1;clear hrn0 hrn1;have hdrop:(r::t).drop (q+1)=t.drop q:=rfl;have hd2:Hid ((t.drop q).length=a-S):=by rw [Hid,qI];omega
     have HRO2:Hid (∀x∈t.drop q,Yj x):=λx hx=>HRO.out x (qM _ (Q1 hx));have HRD2:Hid (∀W',Reads W' B 4 (some g) a (ji (r::t))->Reads W' B 4 (xo (some g) E S 4) (a-S) (ji (t.drop q))):=λW' h=>by rw [<-hdrop,Q'];exact h.MG uK hnr
     have hcut:=λW (n:Nat) (hn:n=S)=>jI (P:=prog) 24 45 j0 4 QL hj jz1 (some g) a E n .i64 (by rw [hn,Q'];omega) W
     replace hcut:=qj hcut;generalize t.drop q=Y' at*
     have O:=λW=>qj (vW S W uK);have hnl3:=(jn S).2;generalize xv S=Q at*
     have hb8:Hid ([B8 (UInt8.ofNat r.level)]=[.int .u8 (r.level:Int)]):=by
      rw [Hid];show [Value.int .u8 ((UInt8.ofNat r.level).toNat:Int)]=_;rw [zS,jk uK]
     generalize UInt8.ofNat r.level=N at*
     have HRD0:=u';generalize ji (r::t)=RC at*
     generalize r.level=G at*
     replace p':=qj p';replace hal1:=qj hal1;replace htl:=qj htl;replace Q':=qj Q';have hale:q+1<=a:=by have:=hal1.out;have:=htl.out;omega
     replace N':=qj N';obtain⟨w5,hw5⟩: ∃w',w'=wr:=⟨_,rfl⟩;subst hw5;clear D' HRO u' y1 hdrop
     go_wp2_with fail;go_loopw [7] (λv7 wr=> ∃n:Nat,v7=(n:Value)/\1<=n/\n<=q+1/\Hid (Dr w5 wr)) (λv7 _=>q+1-(intOf v7).toNat)
     case atStart=>exact⟨1,rfl,qx _,uK,Dr.refl _⟩
     case round=>
      obtain⟨n,rfl,h1n,hnal,HD⟩:=hrel;have hn0:(0:Int)<=(n:Int):=uK;have x0:wr.cell? ⟨g.block,g.off+1,none⟩=some (.int .u8 (G:Int)):=by
       obtain⟨mm,rfl⟩:=HD.out;exact y1'
      by_cases hnn:n<=q
      ·obtain⟨u,hlc,hle⟩:=hrl.out n h1n hnn
       subst hle;have x1:wr.cell? ⟨(g.add (n*4)).block,(g.add (n*4)).off+1,none⟩=some (.int .u8 (u:Int)):=by
        obtain⟨mm,rfl⟩:=HD.out;exact hlc
       have g1:decide ((n:Int)<(a:Int))=true:=qw uK;have g2:decide (n<a)=true:=qw uK;have g3:(n:Int)<(a:Int):=uK;have g4:n<a:=uK
       go_wp2_with fail;go_quiet (fail)
       go_wp2_with fail;have M':Hid (Dr w5 (wr.drewN nq)):=HD.drewN nq;go_roundw
       case rel=>exact⟨n+1,by first|rfl|simp,uK,uK,M'⟩
       case measure=>simp [intOf];omega
      ·have U:=Q'
       obtain rfl:n=S:=by have:=Q'.out;omega
       by_cases hNN:n<a
       focus
        obtain⟨u,hlc,hle⟩:=hrn.out hNN
        have x1:wr.cell? ⟨(g.add (n*4)).block,(g.add (n*4)).off+1,none⟩=some (.int .u8 (u:Int)):=by
         obtain⟨mm,rfl⟩:=HD.out;exact hlc
        have g1:decide ((n:Int)<(a:Int))=true:=qw uK;have g2:decide (n<a)=true:=qw uK;have g3:(n:Int)<(a:Int):=uK;have g5:((u:Int)==(G:Int))=false:=SZ;have g6: ¬(u:Int)=(G:Int):=uK
        go_wp2_with fail;go_quiet (fail)
        have M':Hid (Dr w5 (wr.drewN nq)):=HD.drewN nq;clear x1 hlc hle g5 g6 g1 g2 g3
       rotate_left
       focus
        have g1:decide ((n:Int)<(a:Int))=false:=qc uK
        have g2:decide (n<a)=false:=qc uK;have g3: ¬(n:Int)<(a:Int):=uK
        go_wp2_with fail;go_quiet (fail)
        have M':Hid (Dr w5 (wr.drewN nq)):=HD.drewN nq;clear g1 g2 g3
       all_goals
        generalize wr.drewN nq=C at*
        have K:=M';have x0d:C.cell? ⟨g.block,g.off+1,none⟩=some (.int .u8 (G:Int)):=by
         obtain⟨mm,I'⟩:=K.out;rw [I'];exact y1'
        have m':=qj (qG HO (K.below _));have X:=qj (M.trans (K.below _));have HRd:=qj (HRD2.out C (by obtain⟨mm,I'⟩:=K.out;rw [I'];exact HRD0.drewN mm))
        have J:Hid (w.heap.size<=C.heap.size):=X.size;have hcut2:=λW=>hcut.out W n rfl;have X':m+1<=maxLen:=SJ;have N9:(m+1)*1<=140737488355328:=uK;have hN0:(0:Int)<=(n:Int):=uK;have hNr:(n:Int)<=(a:Int):=by have:=U.out;omega
        have hNc:(n:Int)<=(E:Int):=by have:=U.out;omega
        have wN:IntKind.u64.wrap (n:Int)=(n:Int):=by have:=U.out;rw [qS];omega
        unfold jQ at O;clear HD M' hrl hrn x0 K
        go_wp2_with (at_builtin;refine qF _ rfl (.tmp 46) (.tmp 51) 30 rfl w 5 i0 (.int .u8 0) 1 1 qu hi J' P' O' rfl uK y m c2 _ rfl (m'.alloc _) (C.heap.size+1) C 1 1 [.int .u8 (G:Int)] rfl (zU _ _ _) (one_one rfl) X' N9 (qv J s8) ?_;intro A7 c7 w7 Y OX hs7;have iL:=qj (zG (X.alloc X.size (.cells #[.int .u8 (G:Int)] 5)) OX (m'.alloc _) (qv J s8));have s:qE (fpS y) (C.alloc (.cells #[.int .u8 (G:Int)] 5)) w7:=(qE.refl _ _).grown OX (λk i=> .inl i);replace Y:=qj Y;replace s:=qj s;clear OX hs7)
        have I: ∀k∈fpS y,w.heap.size<=k:=λk i=>(zj m' k i).1;have HR7:Hid (Reads w7 B 4 (xo (some g) E n 4) (a-n) (ji Y')):=(HRd.below (((qZ B C).alloc (qv D J) _))).below (s.below (λk i=>qv D (I k i)) (qv D (qv J s8)));have HO7:Hid (w7.ownsRow w 5 1 (.slice A7 (m+1) c7) (m+1) ((o++[N]).map B8)):=by
         have:=Y.out;rw [<-hb8.out] at this;rw [Hid,qg];exact this
        clear I m' X HRd s Y J X' N9 x0d;refine(O _).out.mono ?_;rintro e w8 ⟨A8,c8,rfl,L⟩;have d':=qj (qG HO7 L.2);have N6:=qj (iL.trans (L.2.mono iL.size));have HR8:=qj (HR7.below (L.2.mono (qv D iL.size)));have U':=qj L.reads;have z':Hid (w.heap.size<=w8.heap.size):=N6.size;obtain⟨b,v⟩: ∃b,b=Q.length:=⟨_,rfl⟩;have hl10:b<=10:=by rw [v];exact hnl3
        rw [<-v] at U'⊢;replace v:=qj v;have hm3:m+1+b<=maxLen:=SJ;have hm4:(m+1+b)*1<=140737488355328:=uK;clear O L HO7 iL HR7
        go_wp2_with (at_builtin;refine qF _ rfl (.tmp 52) (.tmp 55) 30 rfl w 5 i0 (.int .u8 0) 1 1 qu hi J' P' O' rfl uK A7 (m+1) c7 _ rfl d' w8 A8 b c8 _ rfl U' (YR _) hm3 hm4 z' ?_;intro A9 c9 w9 V S' hs9;have HW9:=qj (zG N6 S' d' z');have s:qE (fpS A7) w8 w9:=(qE.refl _ _).grown S' (λk i=> .inl i);replace V:=qj V;replace s:=qj s;clear S' hs9)
        have I: ∀k∈fpS A7,w.heap.size<=k:=λk i=>(zj d' k i).1;have HR9:=qj (HR8.below (s.below (λk i=>qv D (I k i)) (qv D z')));have HO9:Hid (w9.ownsRow w 5 1 (.slice A9 (m+1+b) c9) (m+1+b) ((o++[N]++Q).map B8)):=by rw [Hid,qg];exact V.out
        have hac:Hid ((o++[N]++Q).length=m+1+b):=by rw [Hid,qK,qK,HACC.out,v.out];rfl
        have HRR9:Hid (o++[N]++Q++Xo f Y'=R):=by rw [Hid,<-N'.out];simp
        have hn1:1<=n:=by have:=U.out;omega
        clear I d' N6 HR8 U' s V U;go_roundw
        case rel=>exact⟨a-n,E-n,m+1+b,c9,f,xo (some g) E n 4,A9,Y',o++[N]++Q,by first|rfl|simp,by first|rfl|simp,uK,uK,uK,uK,uK,hd2,hac,HRR9,HRO2,HR9,HO9,HW9⟩
        case measure=>simp [Y8];omega
end
end Go.Proofs.YtfnlfpcfkbdcmaaGreatDoor
