import Derived.Test.YtfnlfpcfkbdcmaaGreatDoorT22
import Derived.Test.YtfnlfpcfkbdcmaaGreatDoorT23
set_option linter.unusedSimpArgs false
set_option linter.unusedVariables false
set_option maxRecDepth 100000
set_option maxHeartbeats 0
open Go.Proofs.Tryz
namespace Go.Proofs.YtfnlfpcfkbdcmaaGreatDoor
open Go.RowKit
section
variable {A:q'}{B b base c g n:O}{W W' W4 w:I}{ls:S (S O)}
theorem BC (W:I) (base g c:O) (a:S O) (h:_q W base g 366 c a):
  xG 233 #[mJ g] W λe d=>e=t' (U a)/\W=d:=by
 obtain⟨f,ch,i,j,b⟩:=h;have c1:=b.c1;generalize U a=n at*;clear b;go_wp2;go_ret;exact⟨rfl,rfl⟩
theorem Cm (W:I) (base g a i:O) (t:TypeId) (b:S O) (h:_q W base g t a b) (k:a<=14) (hi:i<U b) (l:b[i]<=20000):
  xG 257 #[mJ g,i] W λe s=>e=t' (e' (b[i]:O))/\Dr W s:=by
 obtain⟨K,ch,uK,z,c⟩:=h;have c0:=c.c0;have c1:=c.c1;have c2:=c.c2;obtain⟨R,r,y,-,j,E⟩:=(E'.zY c.oh).at_ hi;obtain⟨L,u,w,-,f,N⟩:=(E'.zY c.ol).at_ hi;subst y;subst w;rw [qD,hiL,qD,qX hi] at j;rw [qD,loL,qD,qX hi] at f;have q:r=e' ((b[i]/2^a:O):V):=(zy j).symm;have v:u= .int .u16 ((b[i]%2^a:O):V):=(zy f).symm;subst q;subst v;have F:(0:V)<=(i:V):=M;have P:(i:V)<(U b:V):=M;generalize b[i]=x at*
 generalize U b=n at*
 have d:x%2^a<2^a:=xC _ (Nat.pow_pos M);have m:2^a<=2^14:=zZ M k;have X:x/2^a<=20000:=qv (xr _ _) l;obtain⟨o,-⟩:=Wn (x/2^a) (x%2^a) a M k d;rw [xH,Qe] at o;have p:2^a*(x/2^a)<=x:=Nat.mul_div_le _ _;have A:((x/2^a:O):V)*2^a=((2^a*(x/2^a):O):V):=by rw [zB,j6,Int.mul_comm];rfl
 have C:DW ((x%2^a:O):V)=((x%2^a:O):V):=XY _ (qv (zr d) (qv m FV));have H:DW ((2^a*(x/2^a):O):V)=((2^a*(x/2^a):O):V):=XY _ (qv p (qv l FV));generalize 2^a*(x/2^a)=Q at*
 generalize x/2^a=D at*
 generalize x%2^a=B at*
 clear c j f m d;go_enter func257,ntmps257
 go_wp2_with fail;go_quiet (fail)
 go_wp2_with fail;go_ret;exact⟨rfl,⟨_,rfl⟩⟩
theorem nW (W:I) (base g d:O) (a:S O) (h:_q W base g 366 d a) (ih:d<=14) (D: ∀x∈a,x<=20000) (cY:U a<=20000) (cB:base<=(W:O)):
  xG 234 #[mJ g] W (gz W a):=by
 obtain⟨cL,hi,w,o,y⟩:=xt XM;have r:=T (BC W base g d a h);have d':G (g<(W:O)):=by obtain⟨_,_,_,_,R⟩:=h;exact R.blk.lt
 have K:G (∀q,r' W W q->_q q base g 366 d a):=λq qj=>h.jZ (qE.jq (l:=[]) qj) s8 s8;have N:=T D;obtain⟨n,c⟩:=zn (U a);unfold gz;rw [<-c] at r cY⊢;replace c:=T c;clear h D;go_in;go_wp2_with fail;refine Ω r ?_;go_wp2;go_loopw [3,7] (λuK v wr=> ∃(i c2:O) (b:q'),uK=Z b i c2/\v=(i:la)/\i<=n/\G (xp wr W 3 1 (Z b i c2) i ((a.take i).map NV))/\G (r' W W wr)) (λ_ v _=>n-(intOf v).toNat)
 ·exact⟨0,0,none,rfl,rfl,qp _,qP _ _ _ _,qZ _ _⟩
 ·obtain⟨i,c2,b,rfl,rfl,iL,m,j⟩:=hrel;by_cases L:i<n
  ·have e:=j' i n;have z:i<U a:=by rw [<-c.out];exact L
   have ln:=N _ (zx z);have H:=T (Cm wr base g d i 366 a (K wr j) ih z ln);have u:a.take (i+1)=a.take i++[a[i]]:=by rw [qs,qX z];rfl
   have hh:i+1<=maxLen:=SJ;have Q:(i+1)*8<=140737488355328:=M;generalize a[i]=x at*;replace u:=T u;clear ln;go_wp2_with fail;refine zC H ?_;intro t p;have s:=T (qG m (p.below _));have f:=T (j.trans (p.below W));clear p m j;go_wp2_with (at_builtin;refine qF _ rfl (.tmp 10) (.tmp 16) 62 rfl W 3 cL () 1 8 jj hi w o y rfl M b i c2 _ rfl (s.alloc _) ((t:O)+1) t 1 1 [e' (x:V)] rfl (zU _ _ _) (IB rfl) hh Q (qv f.size s8) ?_;intro C B A k F _;have E:jO [3] W t A:=((jO.refl _ _ _).alloc f.size (Y #[x] 3)).grown (s.alloc (Y #[x] 3)) s8 (qx _) (qv f.size s8) F;have cK:=T (f.trans E.below);replace k:=T k;clear F E);have iv:G (xp A W 3 1 (Z C (i+1) B) (i+1) ((a.take (i+1)).map NV)):=by rw [Hid,u.out,qg];exact k.out
   refine xk ?_;exact⟨i+1,B,C,xg,xg,M,iv,cK⟩
  ·obtain rfl:i=n:=M;have X:=vc i i;have P:G (xp wr W 3 1 (Z b i c2) i (a.map NV)):=by
    have h:=m.out;rw [qH (by rw [<-c.out];exact qx _)] at h;exact h
   clear m;go_wp2;go_ret;exact⟨b,c2,rfl,P,j⟩
structure Jc (W:I) (base:O) (A:q') (n c:O) (ls:S (S O)):Prop where
 ex: ∃vs:S la,xp W base 62 1 (Z A n c) n vs/\U ls=n/\ ∀(i:O) (l:S O),ls[i]? =some l-> ∃(Ai:q') (ci:O),vs[i]? =J (Z Ai l ci)/\xp W base 3 1 (Z Ai l ci) l (l.map NV)
theorem Jc.nil (W:I) (base:O):Jc W base none 0 0 []:=⟨_,qP _ _ _ _,rfl,λi l h=>by simp at h⟩
theorem Jc.keep {l:S TypeId} (h:Jc W base A n c ls) (d:jO l b W W') (h1:62∉l) (h2:3∉l):Jc W' base A n c ls:=by
 obtain⟨vs,f,g,e⟩:=h;exact⟨_,d.own f h1,g,λi l hi=>by
  obtain⟨Ai,j,a,b⟩:=e i l hi;exact⟨_,j,a,d.own b h2⟩⟩
theorem Jc.below (h:Jc W base A n c ls) (a:r' W W W'):Jc W' base A n c ls:=h.keep (l:=[]) (jO.fresh a (qx _)) s8 s8
theorem Jc.Vg (h:Jc W base A n c ls) (d:b<=base):Jc W b A n c ls:=by
 obtain⟨vs,f,g,e⟩:=h;exact⟨_,qi f d,g,λi l hi=>by
  obtain⟨Ai,j,a,b⟩:=e i l hi;exact⟨_,j,a,qi b d⟩⟩
theorem Jc.push {vs:S la} {e t:q'} {m c1 q:O} {l:S O} (j:xp W base 62 1 (Z A n c) n vs) (p:U ls=n) (u: ∀(i:O) (l:S O),ls[i]? =some l-> ∃(Ai:q') (d:O),vs[i]? =J (Z Ai l d)/\xp W base 3 1 (Z Ai l d) l (l.map NV))
  (g:xp W base 3 1 (Z e m c1) m (l.map NV)) (o:Obj) (k:base<=(W:O)) (v:(W.alloc o).grownBy W4 (A.map (·.block))) (h4:xp W4 base 62 1 (Z t (n+1) q) (n+1) (vs++[Z e m c1])):
  Jc W4 base t (n+1) q (ls++[l])/\r' base W W4:=by
 have r:U l=m:=by have:=g.1;simpa using this
 have h0:=(qZ _ W).alloc (qx _) o;have f:jO [62] base W W4:=(jO.fresh h0 k).grown (qG j h0) s8 (qx _) (qv k h0.size) v;have w:U vs=n:=by have:=j.1;omega
 refine⟨⟨_,h4,by rw [qK,p];rfl,λi x hi=> ?_⟩,f.below⟩;rcases jE i n with h|h
 ·rw [q_ M] at hi;obtain⟨Ai,d,a,b⟩:=u i x hi;exact⟨_,d,by rw [q_ M];exact a,f.own b FV⟩
 ·rw [qm M,p] at hi;have s:i-n=0:=by
   rcases zA (i-n) with h|h
   ·exact h
   ·rw [qO SZ] at hi;cases hi
  rw [s] at hi;injection hi with hi;subst hi;refine⟨e,c1, ?_, ?_⟩
  ·rw [qm M,w,s,r];rfl
  ·rw [r];exact f.own g FV
theorem BE:(prog.info? 62).map (λi=>(i.zero,i.size,i.bytes))=J (some (Z none 0 0),1,24):=AL
theorem OS (a:O) (b:qn):(B6 a b).2.2<=U b:=by
 have c:(jU b (a:V) ⟨0,0⟩).2.at_<=U b:=by
  have:=cX b (a:V);unfold jU yO;dsimp only;split
  ·exact qp _
  ·split
   ·exact qp _
   ·show 0+_<=_;simpa using this
 unfold B6;split
 ·exact qp _
 ·dsimp only;split
  ·exact qp _
  ·split
   ·exact c
   ·split
    ·exact qp _
    ·have:=Ei (a:V).toNat (jU b (a:V) ⟨0,0⟩).1 (b.drop (jU b (a:V) ⟨0,0⟩).2.at_);rw [qI] at this;dsimp only;omega
theorem kN (a n:O) (b:qn) (c:S (S O)):yR a (n+1) b c=if(B6 a b).1≠0 then((B6 a b).1,[]) else if(B6 a b).2.1=[] then(2,[]) else yR a n (b.drop (B6 a b).2.2) (c++[(B6 a b).2.1]):=rfl
def MR (W:I) (r:V×S (S O)) (e:Ending) (a:I):Prop:= ∃A c,e=t' (BA #[Z A r.2 c,e' r.1])/\Jc a W A r.2 c r.2/\r' W W a
theorem nS (n d:O) (Ab:q') (N c B:O) (b:qn) (W:I) (hr:E' W B 1 Ab N (b.map B8)) (hB:B<=(W:O)) (hN:N<=1000000000) (hNc:N<=c) (hbd:d<=20000) (hn:n<=2000000):
  xG 198 #[n,d,Z Ab N c] W (MR W (yR d n b [])):=by
 obtain⟨i0,hi,iL,m',I'⟩:=xt BE;obtain⟨j0,hj,jz0,Y',jz2⟩:=qA xR;have hcl:=T (λ(A:q') (N c i:O) (h:i<=N)=>jI _ 5 _ 1 qu hj Y' A N c i .i64 h);obtain⟨R,F⟩:=zn (yR d n b []);rw [<-F];replace F:G (yR d (n-0) b []=R):=F.symm;have H:=T hr;clear hr hj jz0 Y' jz2;go_wp2;go_loopw [2,8,13] (λv2 v8 u' wr=> ∃(i m s c2:O) (x E:q') (bs:qn) (k:S (S O)),v2=Z x m s/\v8=Z E i c2/\u'=(i:la)/\i<=n/\m<=N/\m<=s/\G (yR d (n-i) bs k=R)/\G (E' wr B 1 x m (bs.map B8))/\G (Jc wr W E i c2 k)/\G (r' W W wr)) (λ_ _ u' _=>n-(intOf u').toNat)
 ·exact⟨0,N,c,0,Ab,none,b,[],rfl,rfl,rfl,qp _,qx _,hNc,F,H,Jc.nil _ _,qZ _ _⟩
 ·obtain⟨i,m,s,c2,x,E,bs,k,rfl,rfl,rfl,hin,M',G',C,r,ih,o⟩:=hrel;by_cases hlt:i<n
  ·have hlt':=j' i n;obtain⟨f,hf⟩: ∃f,n-i=f+1:=⟨n-i-1,M⟩;have O':n-(i+1)=f:=M;have j:=C.out;rw [hf,kN] at j;have hh:=T (TP d x m s B _ _ r (qv hB o.size) (qv M' hN) G' hbd);have P:=OS d bs;rw [r.len] at P;unfold iu at hh;generalize B6 (d:V) bs=rd at*;obtain⟨qj,p,Uj⟩:=rd;dsimp only at j P hh;have L:G ((if qj≠0 then(qj,[]) else if p=[] then(2,[]) else yR d (n-(i+1)) (bs.drop Uj) (k++[p]))=R):=by rw [Hid,O'];exact j
   clear C j hf O';go_wp2_with fail;refine hh.mono ?_;rintro e K ⟨t,⟨Q,rfl⟩|⟨h0,g,wd,rfl,hg,hwd,cB,hx,hil⟩⟩
   ·have u:G (R=(qj,[])):=by rw [Hid,<-L.out,qk Q]
    have hne2:(qj==0)=false:=by simpa using Q
    have z:=T (o.trans (t.mono o.size));clear t ih r;go_wp2;go_ret2;rw [u.out];exact⟨_,0,rfl,Jc.nil _ _,z⟩
   ·subst h0;have v:=L.out;rw [qJ FV] at v;replace v:=T v;have z:=T (o.trans (t.mono o.size));have w:=T (ih.below t);have Z':=T (r.below (t.mono (qv hB o.size)));have cK:=T (BC K _ g _ p cB);have X:=T (nW K _ g _ p cB hwd hx hil t.size);unfold gz at X;clear cB hx t hg ih r o;by_cases y:p=[]
    ·have u:G (R=(2,[])):=by rw [Hid,<-v.out,qk y]
     subst y;rw [show([]:S O).length=0 from rfl] at cK;go_wp2_with fail;refine Ω cK ?_;go_wp2;go_ret2;rw [u.out];exact⟨_,0,rfl,Jc.nil _ _,z⟩
    ·have HG5:G (yR d (n-(i+1)) (bs.drop Uj) (k++[p])=R):=by rw [Hid,<-v.out,qJ y]
     have hlp:=JA.2 y;obtain⟨vs,ho,N9,hv⟩:=w.out;generalize J':U p=q at*;have hq0:((q:V)==0)=false:=by rw [zE];omega
     have hb1:i+1<=maxLen:=SJ;have hb2:(i+1)*24<=140737488355328:=M;have hcut:=hcl x m s _ P;replace w:=T (show (W:O)<=(K:O) from z.size);have OX:=T ho;have hll2:=T N9;have N6:=T hv;generalize z':xo x s Uj 1=Ab3 at*;replace z':=T z';clear ho N9 hv;go_wp2_with fail;refine Ω cK ?_;go_wp2_with fail;refine X.mono ?_;rintro e cL ⟨A3,c3,rfl,X',D⟩;have D':=T (qG OX D);have N':=T (qi X' w);have P':G (∀(i:O) (l:S O),k[i]? =some l-> ∃(Ai:q') (iv:O),vs[i]? =J (Z Ai (U l) iv)/\xp cL W 3 1 (Z Ai (U l) iv) (U l) (l.map NV)):=λi l h=>by
      obtain⟨Ai,iv,a,b⟩:=N6 i l h;exact⟨_,iv,a,qG b D⟩
     have p':=T (qv w D.size);have HB3:=T D;clear X' D;go_wp2_with (at_builtin;refine qF _ rfl (.tmp 30) (.tmp 33) 100 rfl W 62 i0 z8 1 24 underlying100 hi iL m' I' rfl M E i c2 vs rfl (D'.alloc _) ((cL:O)+1) cL 1 1 [Z A3 q c3] rfl (zU _ _ _) (IB rfl) hb1 hb2 (qv p' s8) ?_;intro A4 c4 w4 S' U' _;have h4:=Jc.push D' hll2 P' N' _ p' U' S';replace h4:=T h4;clear S' U');have d':=T ((HB3.mono w).trans h4.out.2);have Q':=T ((Z'.below (d'.mono hB)).VC P G');rw [z'.out] at Q';have HI4:=T h4.out.1;have HW4:=T (z.trans d');have hmt:m-Uj<=N:=qv (Qd _ _) M';have hmc2:m-Uj<=s-Uj:=Nat.sub_le_sub_right G' _;refine xk ?_;exact⟨i+1,m-Uj,s-Uj,c4,Ab3,A4,bs.drop Uj,k++[p],xg,xg,xg,M,hmt,hmc2,HG5,Q',HI4,HW4⟩
  ·obtain rfl:i=n:=M;have hge:=vc i i;have j:=C.out;rw [xO] at j;have uK:=r.len;have cY:=ih.ex.choose_spec.2.1;by_cases ln:bs=[]
   ·have u:G (R=(0,k)):=by rw [Hid,<-j];unfold yR;rw [qk ln]
    obtain rfl:m=0:=by rw [<-uK,ln];rfl
    replace cY:=T cY;clear C j uK r;go_wp2;go_ret2;unfold MR;rw [u.out];dsimp only;rw [cY.out];exact⟨E,_,rfl,ih,o⟩
   ·have u:G (R=(2,[])):=by rw [Hid,<-j];unfold yR;rw [qJ ln]
    have hm0:0<m:=by rw [<-uK];exact JA.2 ln
    clear C j uK r ln;go_wp2;go_ret2;rw [u.out];exact⟨_,0,rfl,Jc.nil _ _,o⟩
theorem EL (W:I) (base g c:O) (size:V) (a:S qn) (h:_n W base g size a c):
  xG 199 #[mJ g] W λe d=>e=t' (U a)/\W=d:=by
 obtain⟨j,i,f,ch,k,b⟩:=h;have c0:=b.blk.cell 0;simp only [qR,qt] at c0;generalize U a=n at*;clear b;go_wp2;go_ret;exact⟨rfl,rfl⟩
def E4 (W:I) (a:S qn) (e:Ending) (b:I):Prop:= ∃A c,e=t' (Z A a c)/\xp b W 9 1 (Z A a c) a (a.map Lj)/\r' W W b
theorem OW (l:S qn): ∀u∈l.map Lj,u.oneCell'=true:=by
 intro u a;obtain⟨s,_,rfl⟩:=jB.1 a;rfl
theorem Tu (A:q') (n c B:O) (i:S qn) (W:I) (h:E' W B 1 A n (i.map Lj)) (k:B<=(W:O)) (m:n<=10000000):
  xG 235 #[Z A n c] W (E4 W i):=by
 have b:=λW=>Lib.run_eql_slice_nil W _ 9 A n c 0 0 jD;obtain⟨r,hi,f,e,g⟩:=xt XJ;have a:=h.len;unfold E4;rw [a];replace a:=T a;have H:=T h;cases A with
 |none=>
  have h0:n=0:=by
   rcases zA n with h0|h0
   ·exact h0
   ·obtain⟨j,b,_⟩:=h.2 h0;cases b
  subst h0;simp only [Option.isNone] at b;clear h k m;go_wp2;go_ret;have:=xq.1 a.out;subst this;exact⟨_,0,rfl,qP _ _ _ _,qZ _ _⟩
 |some j=>
  simp only [Option.isNone] at b;clear h;go_in;go_wp2_with (at_builtin;refine qF _ rfl (.tmp 5) (.tmp 6) 99 rfl (W:O) 9 r (.string "".toUTF8) 1 16 jD hi f e g rfl M W 0 0 [] rfl (ZR W _ _ (qx _)) B (some j) n c _ rfl (H.alloc k _) (OW _) ?_ ?_ ?_ ?_;rotate_left 3;intro o c1 s d l q;have p:=T (zG (zi (qZ _ _) _) l (ZR W _ _ (qx _)) (zi (qZ _ W) _).size);replace d:=T d;clear l q);rotate_left 1
  ·unfold maxLen;omega
  ·omega
  ·exact(zi (qZ _ W) _).size
  go_ret;refine⟨o,c1,s8, ?_,p⟩;have h:=d.out;simpa using h
theorem E5 (W:I) (base g j:O) (size:V) (a:S qn) (h:_n W base g size a j) (l:U a<=10000000):
  xG 200 #[mJ g] W (E4 W a):=by
 obtain⟨o,m,q,ch,r,d⟩:=h;have c0:=d.blk.cell 0;simp only [qR,qt] at c0;have b:=T (Tu o a m W a W (E'.zY d.ot) (qx _) l);unfold E4 at b⊢;generalize U a=n at*;clear d;go_in;go_wp2_with fail;refine b.mono ?_;rintro e s ⟨A,c,rfl,f,i⟩;have k:=T f;have p:=T i;clear f i;go_wp2;go_ret;exact⟨A,c,rfl,k,p⟩
theorem Pa (b:qn) (k:V) (c:Cu) (h:c.at_<=U b):(jW b k c).2.at_<=U b:=by
 unfold jW yO;dsimp only;split
 ·exact h
 ·split
  ·exact h
  ·rename_i h2;have h3:Xv b k c=0:=by simpa using h2
   unfold Xv at h3;split at h3
   ·cases h3
   ·split at h3
    ·cases h3
    ·rename_i h4 h5;rw [qI] at h5;show c.at_+_<=_;omega
theorem Us (b:qn) (m:V) (c:Cu) (h:c.at_<=U b):(jU b m c).2.at_<=U b:=by
 have:=cX (b.drop c.at_) m;rw [qI] at this;unfold jU yO;dsimp only;split
 ·exact h
 ·split
  ·exact h
  ·show c.at_+_<=_;omega
theorem gT (b:qn): ∀f c a,c.at_<=U b->(Q5 b f c a).2.at_<=U b
 |0,c,a,h=>h
 |f+1,c,a,h=>by
  rw [kT];split
  ·exact h
  ·exact gT b f _ _ (Us b _ c h)
theorem gW (b:qn) (size:O): ∀(l:S O) (n:O) (c:Cu) (a:S qn),c.at_<=U b->(yr b size n l c a).2.2<=U b
 |[],n,c,a,h=>by
  rw [YF];split
  ·exact qp _
  ·exact h
 |k::t,n,c,a,h=>by
  unfold yr;split
  ·exact qp _
  ·split
   ·exact qp _
   ·exact gW b _ t _ _ _ (Pa b k c h)
theorem On (size:V) (b:qn):(ab size b).2.2<=U b:=by
 unfold ab;split
 ·exact qp _
 ·exact gW _ _ _ _ _ _ (gT _ _ _ _ (Us b _ _ (qp _)))
theorem _n.IG {W b:I} {a:O} {size:V} {c:S qn} (h:_n W base g size c a) (e:r' W W b):_n b base g size c a:=by
 obtain⟨j,f,d,ch,k,i⟩:=h;exact⟨j,f,d,_,k,i.fresh e⟩
theorem Yn {a:Func} {p s:Tmp} {b:TypeId} (h:a.results= #[.cell p b, .tmp s]) (tmps:Array la) (w:I) (g:O) (c:Array la) (v:la)
  (i:tmps.getD p undef=mJ g) (e:tmps.getD s undef=v) (d:(loadVar b g).run prog w= .ok (.agg c) w):
  (results a tmps).run prog w= .ok (BA #[.agg c,v]) w:=by
 have j:tmps[p]?.getD undef=mJ g:=by simpa using i
 have f:tmps[s]?.getD undef=v:=by simpa using e
 simp [results,h,j,f,asAddr,d]
theorem Yg:(prog.info? 102).map (·.size)=some 2:=AL
def _j (f:q') (a e:O) (b:q') (d c:O):Array Value:= #[Z f a e,Z b d c]
theorem fK (f:q') (a e:O) (b:q') (d c:O):(_j f a e b d c).all (·.oneCell')=true:=by simp [_j,Value.oneCell']
def ixZ:Array Value:=_j none 0 0 none 0 0
theorem Kp {size:O} {E:TypeId} {b:S la} {i:Array la} (h:xp w base E size (Z A n c) n b) (d:F' w g 102 i) (a:Array la) (f:E≠102):xp (w.setRow g a) base E size (Z A n c) n b:=
 (Js w g a).own h (λk e=>by rw [qy];exact qT h d f k e)
theorem Jc.row {ls:S (S O)} {o:Array la} (h:Jc w base A n c ls) (e:F' w g 102 o) (d:Array la):Jc (w.setRow g d) base A n c ls:=by
 obtain⟨vs,j,k,f⟩:=h;exact⟨_,Kp j e d FV,k,λi l hi=>by
  obtain⟨Ai,m,a,b⟩:=f i l hi;exact⟨_,m,a,Kp b e d FV⟩⟩
def Mt (W:I) (r:V×S qn×S (S O)) (e:Ending) (a:I):Prop:=
 ∃f d b c,e=t' (BA #[.agg (_j f (U r.2.1) d b (U r.2.2) c),e' r.1])/\xp a W 9 1 (Z f (U r.2.1) d) (U r.2.1) (r.2.1.map Lj)/\Jc a W b (U r.2.2) c r.2.2/\r' W W a/\U r.2.1<=2000000
theorem TU (size:V) (n:O) (o:q') (N c B:O) (b:qn) (W:I) (D:E' W B 1 o N (b.map B8)) (y:B<=(W:O)) (hN:N<=1000000000) (OX:N<=c) (N':n<=20000):
  xG 163 #[size,n,Z o N c] W (Mt W (r7 size n b)):=by
 obtain⟨j0,hj,S',D',Q'⟩:=qA xR;have M':=T (λi (h:i<=N)=>jI _ 5 _ 1 qu hj D' o N c i .i64 h);have q:G (F' (W (Y ixZ 102)) W 102 ixZ):=F'.new _ _ _;have m:G (r' W W (W (Y ixZ 102))):=j1 _;have uK:ixZ= #[Z none 0 0,Z none 0 0]:=rfl;obtain⟨R,d⟩:=zn (r7 size n b);rw [<-d];unfold r7 at d;rw [qJ M] at d;dsimp only at d;rw [zc] at d;have KD:G (∀a,r' W W a->xG 197 #[size,Z o N c] a (Wm a size (ab size b))):=λa h=>by
  by_cases hs:size<1\/64<size
  ·exact Co _ o N c b a hs
  ·obtain⟨k,rfl⟩: ∃k:O,size=(k:V):=⟨size.toNat,M⟩;exact El k o N c B b a (D.below (h.mono y)) (qv y h.size) hN M M
 have C:=On size b;rw [D.len] at C;generalize ab size b=dr at*;obtain⟨X,r,j⟩:=dr;dsimp only at d C;have hb1: ¬(n:V)<0:=M;have Y': ¬(20000:V)<(n:V):=M;have x:=KD _ m.out;unfold Wm at x;dsimp only at x;replace d:=T d;have H:=T D;rw [uK] at q m x;clear D hj S' D' Q';go_in;go_wp2_with fail;generalize W (Y #[z8,z8] 102)=cY at*;refine x.mono ?_;clear x;rintro e f ⟨s,⟨ih,rfl⟩|⟨rfl,g,Q,rfl,hg,hd,d',u'⟩⟩
 ·have u:=T (d.out.trans (qk ih));have N9:(X==0)=false:=by simpa using ih
  have cL:=T (q.below s q.lt);have HB:=T (m.trans (s.mono m.size));clear s;rw [<-uK] at cL;go_wp2_with (first|(refine qC rfl 102 _ _ rfl W ixZ rfl rfl 102 ixZ cL.out Yg rfl (fK _ _ _ _ _ _) ?_));refine qW (Yn rfl _ _ W _ X rfl rfl (qN _ W _ _ _ _ _ (cL.row _) Xx rfl Yg)) rfl ?_;rw [u.out];exact⟨_,0,_,0,rfl,qP _ _ _ _,Jc.nil _ _,zu HB (qx _) _,s8⟩
 ·have l:=d.out;rw [qJ FV] at l;have P:=T (q.below s q.lt);have p:=T (m.trans (s.mono m.size));have p':=H.below (p.mono y);have HD:=T (show∀a,r' (f:O) f a->_n a cY g size r Q from λa h=>hd.IG h);have I':=T (λa h=>EL a cY g _ _ r (HD a h));have iL:=T (λa h=>E5 a cY g _ _ r (HD a h) M);have F:=T (λa (h:r' (f:O) f a)=>nS r n _ _ (c-j) B _ a ((p'.below (h.mono (qv y p.size))).VC C OX) (qv y (qv p.size h.size)) M M N' d');have hcut:=M' j C;unfold MR at F;unfold E4 at iL;generalize yR n r (b.drop j) []=lr at*;obtain⟨hh,ls⟩:=lr;dsimp only at l F;generalize G':xo o c j 1=A3 at*;replace l:=T l;generalize qj:U r=iv at*;replace qj:=T qj;clear s hd p';go_wp2_with fail;refine zv 12 (λ_=>True) AL trivial (λcB=> ?_);refine zq [0,2,3,4,5] (a':= ?_) ?_;refine vf 1 (T (I' _ (qZ _ _).drew)) ?_;rintro e w' ⟨rfl,rfl⟩;refine⟨_,rfl,(trivial),λcB=> ?_⟩;refine vf 6 (T (F _ (qZ _ _).drew)) ?_;rintro e w2 ⟨L,c2,rfl,J',A⟩;refine⟨_,rfl,(trivial),λcB=> ?_⟩;refine zq [7,8,9,10,11] (a':= ?_) ?_;refine zV AL ?_ _;have z:=T (p.trans (((qZ (f:O) f).drew.trans A).mono p.size));have m':=T (J'.Vg p.size);have t:=T (P.below ((qZ (f:O) f).drew.trans A) P.lt);have KA:=T (iL _ ((qZ (f:O) f).drew.trans A));clear cB J' A hcut;by_cases v:hh=0
  ·subst v;have u:=T (l.out.trans (qJ FV));generalize cK:U ls=nl at*;replace cK:=T cK;go_wp2_with fail;refine KA.mono ?_;rintro e w3 ⟨ln,K,rfl,z',E⟩;have P':=T (qi z' z.size);have N6:=T (m'.below E);have w:=T (t.below E t.lt);have O':=T (z.trans (E.mono z.size));clear z' E;rw [<-uK] at w;go_wp2_with (first|(refine qC rfl 102 _ _ rfl W (_j ln iv K L nl c2) rfl rfl 102 ixZ w.out Yg rfl (fK _ _ _ _ _ _) ?_));refine qW (Yn rfl _ _ W _ _ rfl rfl (qN _ W _ _ _ _ _ (w.row _) Xx rfl Yg)) rfl ?_;rw [u.out];unfold Mt;dsimp only;rw [qj.out,cK.out];exact⟨ln,K,L,_,rfl,Kp P' w _ FV,N6.row w _,zu O' (qx _) _,d'⟩
  ·have u:=T (l.out.trans (qk v));have N9:(hh==0)=false:=by simpa using v
   rw [<-uK] at t;go_wp2_with (first|(refine qC rfl 102 _ _ rfl W ixZ rfl rfl 102 ixZ t.out Yg rfl (fK _ _ _ _ _ _) ?_));refine qW (Yn rfl _ _ W _ hh rfl rfl (qN _ W _ _ _ _ _ (t.row _) Xx rfl Yg)) rfl ?_;rw [u.out];exact⟨_,0,_,0,rfl,qP _ _ _ _,Jc.nil _ _,zu z (qx _) _,s8⟩
def Yv (w:I) (B:O) (A:q') (n:O) (ls:S (S O)):Prop:=
 ∃a:S la,E' w B 1 A n a/\U ls=n/\ ∀(i:O) (l:S O),ls[i]? =some l-> ∃(Ai:q') (b:O),a[i]? =J (Z Ai l b)/\E' w B 1 Ai l (l.map NV)
theorem Yv.below {w':I} (h:Yv w B A n ls) (a:r' B w w'):Yv w' B A n ls:=by
 obtain⟨g,b,d,c⟩:=h;refine⟨g,b.below a,d,λi e hi=> ?_⟩;obtain⟨Ai,f,h1,h4⟩:=c i e hi;exact⟨_,f,h1,h4.below a⟩
theorem Jc.rows {b c:O} (h:Jc w b A n c ls):Yv w w A n ls:=by
 obtain⟨vs,e,f,d⟩:=h;refine⟨vs,E'.zY e,f,λi l hi=> ?_⟩;obtain⟨Ai,g,a,b⟩:=d i l hi;exact⟨_,g,a,E'.zY b⟩
theorem Yv.len (h:Yv w B A n ls):U ls=n:=by obtain⟨_,_,h2,_⟩:=h;exact h2
theorem Yv.row {k:O} (h:Yv w B A n ls) (g:k<n):
  ∃a l Ai b,A=some a/\ls[k]? =some l/\i' w (a.add k)=J (Z Ai l b)/\E' w B 1 Ai l (l.map NV):=by
 obtain⟨o,d,m,e⟩:=h;obtain⟨a,u,i,j,f,c⟩:=d.at_ g;obtain⟨Ai,b,h1,h4⟩:=e k (ls[k]'M) (qX _);rw [f] at h1;injection h1 with h1;subst h1;exact⟨a,_,_,b,i,qX _,c,h4⟩
theorem E'.nat {k:O} {l:S O} (h:E' w B 1 A n (l.map NV)) (d:k<n): ∃a x,A=some a/\l[k]? =some x/\i' w (a.add k)=J (x:la):=by
 obtain⟨a,u,e,-,c,b⟩:=h.at_ d;obtain⟨x,f,rfl⟩:=LX _ l k u c;exact⟨a,x,e,f,b⟩
theorem E'.str {k:O} {l:S qn} (h:E' w B 1 A n (l.map Lj)) (d:k<n): ∃a x,A=some a/\l[k]? =some x/\i' w (a.add k)=J (Lj x):=by
 obtain⟨a,u,e,-,c,b⟩:=h.at_ d;obtain⟨x,f,rfl⟩:=LX _ l k u c;exact⟨a,x,e,f,b⟩
end
section
variable {A:q'} {B:O} {n:O} {ls:S (S O)} {w:I}
variable {α:Type} {l:S α} {l':S α} {k:O} {x:α} {y:α}
theorem fk (h:l.take k=l'.take k) (b:l[k]? =some x) (a:l'[k]? =some y) (e:x=y):l.take (k+1)=l'.take (k+1):=by
 rw [qs,qs,h,b,a,e]
theorem WM [DecidableEq α] (b:l[k]? =some x) (a:l'[k]? =some y) (e:x≠y):decide (l=l')=false:=by
 rw [zW];rintro rfl;rw [b] at a;injection a with a;exact e a
theorem Wo [DecidableEq α] (h:l.take k=l'.take k) (h1:U l=k) (h2:U l'=k):decide (l=l')=true:=by
 rw [qH M,qH M] at h;exact qw h
theorem Ci [DecidableEq α] (h:U l≠U l'):decide (l=l')=false:=by
 rw [zW];rintro rfl;exact h rfl
end
section
variable {A:q'}{B N cap g gc go n:O}{W W' w:I}{b:qn}{bk kk:V}{c c':Cu}{cs:Array la}{ls:S (S O)}{pl:Bool}
theorem Tf (A o:q') (n g c s B z:O) (a b:S O) (w:I) (h1:E' w B 1 A n (a.map NV)) (h2:E' w z 1 o g (b.map NV)) (hh:n<=1000000000000) (uK:g<=1000000000000):
  xG 167 #[Z A n c,Z o g s] w λe w'=>e=t' (.bool (decide (a=b)))/\Dr w w':=by
 have l:=h1.len;have l2:=h2.len;by_cases q:n=g
 ·subst q;have t:=T h1;have v:=T h2;have L:=T (show U a=n/\U b=n from⟨l,l2⟩);clear h1 h2 l l2;go_wp2;go_loopw [13] (λi wr=> ∃k:O,i=(k:la)/\k<=n/\G (Dr w wr)/\G (a.take k=b.take k)) (λi _=>n-(intOf i).toNat)
  ·exact⟨0,rfl,M,Dr.refl w,rfl⟩
  ·obtain⟨k,rfl,K,f,r⟩:=hrel;by_cases p:k<n
   ·obtain⟨P,x,rfl,h,F⟩:=(f.reads t).nat p;obtain⟨E,y,rfl,j,C⟩:=(f.reads v).nat p;have N:=j' k n;by_cases m:x=y
    ·subst m;have u:=T (fk r h j rfl);clear h j;go_wp2;go_quiet (fail);go_wp2_with fail;refine xk ?_;exact⟨k+1,xh,M,f.drewN _,u⟩
    ·have D:((x:V) !=(y:V))=true:=by
      rw [yo];omega
     have d:=T (WM h j m);clear h j m;go_wp2;go_quiet (fail);go_wp2;go_ret;exact⟨j7 d.symm,f.drewN _⟩
   ·obtain rfl:k=n:=M;have d:=T (Wo r L.out.1 L.out.2);go_wp2;go_ret;exact⟨j7 d.symm,f⟩
 ·have H:((n:V) !=(g:V))=true:=by rw [yo];omega
  have d:G (decide (a=b)=false):=Ci M;clear q h1 h2 l l2;go_wp2;go_ret;exact⟨j7 d.symm,Dr.refl w⟩
theorem TF (A v:q') (n o c F B uK:O) (g h:S qn) (w:I) (h1:E' w B 1 A n (g.map Lj)) (h2:E' w uK 1 v o (h.map Lj)) (R:n<=1000000000000) (qj:o<=1000000000000):
  xG 165 #[Z A n c,Z v o F] w λe w'=>e=t' (.bool (decide (g=h)))/\Dr w w':=by
 have s:=h1.len;have l2:=h2.len;by_cases C:n=o
 ·subst C;have X:=T h1;have K:=T h2;have L:=T (show U g=n/\U h=n from⟨s,l2⟩);clear h1 h2 s l2;go_wp2;go_loopw [13] (λi wr=> ∃k:O,i=(k:la)/\k<=n/\G (Dr w wr)/\G (g.take k=h.take k)) (λi _=>n-(intOf i).toNat)
  ·exact⟨0,rfl,M,Dr.refl w,rfl⟩
  ·obtain⟨k,rfl,iv,m,E⟩:=hrel;by_cases z:k<n
   ·obtain⟨H,x,rfl,p,D⟩:=(m.reads X).str z;obtain⟨N,y,rfl,r,u⟩:=(m.reads K).str z;have Q:=j' k n;unfold Lj at D u;obtain⟨d,j⟩: ∃d,ByteArray.mk x.toArray=d:=⟨_,rfl⟩;obtain⟨b,f⟩: ∃b,ByteArray.mk y.toArray=b:=⟨_,rfl⟩;rw [j] at D;rw [f] at u;have q:(d==b)=decide (x=y):=by rw [<-j,<-f,bytes_beq]
    by_cases a:x=y
    focus
     have W:=T (fk E p r a);have t:(d==b)=true:=by rw [q];exact qw a
     have ln:(d.toList==b.toList)=true:=by rw [gn j f];exact qw a
    rotate_left
    focus
     have l:=T (WM p r a);have t:(d==b)=false:=by rw [q];exact qc a
     have ln:(d.toList==b.toList)=false:=by rw [gn j f];exact qc a
    rotate_left
    all_goals
     clear p r q;go_wp2;go_quiet (fail);go_wp2_with fail
    ·refine xk ?_;exact⟨k+1,xh,M,m.drewN _,W⟩
    ·go_ret;exact⟨j7 l.symm,m.drewN _⟩
   ·obtain rfl:k=n:=M;have l:=T (Wo E L.out.1 L.out.2);go_wp2;go_ret;exact⟨j7 l.symm,m⟩
 ·have P:((n:V) !=(o:V))=true:=by rw [yo];omega
  have l:G (decide (g=h)=false):=Ci M;clear C h1 h2 s l2;go_wp2;go_ret;exact⟨j7 l.symm,Dr.refl w⟩
theorem Dr.Wi {a:I} (h:Dr a w) (r:Yv a B A n ls):Yv w B A n ls:=r.below (h.below B)
theorem gM (A D:q') (n m c ih B cK:O) (b f:S (S O)) (w:I) (h1:Yv w B A n b) (h2:Yv w cK D m f) (hn:n<=10000000) (z: ∀x∈b,U x<=1000000) (s: ∀x∈f,U x<=1000000):
  xG 166 #[Z A n c,Z D m ih, .func (.func 167) #[] #[]] w λe w'=>e=t' (.bool (decide (b=f)))/\Dr w w':=by
 have t:=h1.len;have l2:=h2.len;by_cases F:n=m
 ·subst F;have K:=T (λW (v:Dr w W) (k:O) (p:k<n)=>(v.Wi h1).row p);have qj:=T (λW (v:Dr w W) (k:O) (p:k<n)=>(v.Wi h2).row p);have L:=T (show U b=n/\U f=n from⟨t,l2⟩);have P:=T z;have hh:=T s;clear h1 h2 t l2 z s;go_wp2;go_loopw [17] (λi wr=> ∃k:O,i=(k:la)/\k<=n/\G (Dr w wr)/\G (b.take k=f.take k)) (λi _=>n-(intOf i).toNat)
  ·exact⟨0,rfl,M,Dr.refl w,rfl⟩
  ·obtain⟨k,rfl,p,l,H⟩:=hrel;by_cases E:k<n
   ·obtain⟨X,x,uK,iv,rfl,h,ln,r⟩:=K _ l k E;obtain⟨cY,y,R,N,rfl,o,C,u⟩:=qj _ l k E;have iL:=j' k n;have a:=T (Tf uK R x y iv N _ _ x y _ r u (by have:=P x (zQ h);omega) (by have:=hh y (zQ o);omega));generalize U x=lx,U y=cB at*;by_cases d:x=y
    focus
     have cL:=T (fk H h o d);rw [qw d] at a
    rotate_left
    focus
     have j:=T (WM h o d);rw [qc d] at a
    rotate_left
    all_goals
     clear h o r u d;go_wp2_with fail;refine zC a ?_;intro Q g;have q:=T (l.trans g);clear g ln C;go_wp2_with fail
    ·refine xk ?_;exact⟨k+1,xh,M,q,cL⟩
    ·go_ret;exact⟨j7 j.symm,q⟩
   ·obtain rfl:k=n:=M;have j:=T (Wo H L.out.1 L.out.2);go_wp2;go_ret;exact⟨j7 j.symm,l⟩
 ·have ck:((n:V) !=(m:V))=true:=by rw [yo];omega
  have j:=T (Ci (show U b≠U f by omega));clear F h1 h2 t l2 z s;go_wp2;go_ret;exact⟨j7 j.symm,Dr.refl w⟩
theorem Cl (f c l j:q') (b i a d g o k n B y:O) (qj t:S qn) (L r:S (S O)) (W:I) (uK:B<=(W:O)) (ih:y<=(W:O))
  (h1:E' W B 1 f b (qj.map Lj)) (h2:Yv W B c a L) (h3:E' W y 1 l g (t.map Lj)) (h4:Yv W y j k r) (ck:b<=10000000) (iv:a<=10000000) (X:g<=1000000000) (cK: ∀x∈L,U x<=1000000) (Q: ∀x∈r,U x<=1000000):
  xG 116 #[.agg (_j f b i c a d), .agg (_j l g o j k n)] W λe P=>e=t' (.bool (decide ((qj,L)=(t,r))))/\r' W W P:=by
 have F:r' W W (W (Y (_j f b i c a d) 102)):=j1 _;have q:r' W W ((W (Y (_j f b i c a d) 102)) (Y (_j l g o j k n) 102)):=F.alloc s8 _;have A:=(F'.new W 102 (_j f b i c a d)).alloc (Y (_j l g o j k n) 102);have z:=F'.new (W (Y (_j f b i c a d) 102)) 102 (_j l g o j k n);rw [show(W (Y (_j f b i c a d) 102)).heap.size=(W:O)+1 by simp] at z;unfold _j at*;obtain⟨s,D⟩:=zn ((W (Y #[Z f b i,Z c a d] 102)) (Y #[Z l g o,Z j k n] 102));have c0:i' ((W (Y #[Z f b i,Z c a d] 102)) (Y #[Z l g o,Z j k n] 102)) (W:O)=J (Z f b i):=A.cell 0;have c1:i' ((W (Y #[Z f b i,Z c a d] 102)) (Y #[Z l g o,Z j k n] 102)) ⟨W,1,none⟩=J (Z c a d):=A.cell 1;have c2:((W (Y #[Z f b i,Z c a d] 102)) (Y #[Z l g o,Z j k n] 102)).cell? ↑((W:O)+1)=J (Z l g o):=z.cell 0;have w:i' ((W (Y #[Z f b i,Z c a d] 102)) (Y #[Z l g o,Z j k n] 102)) ⟨(W:O)+1,1,none⟩=J (Z j k n):=z.cell 1;rw [<-D] at q;have u:=T (TF f l b g i o B y qj t s (h1.below (q.mono uK)) (h3.below (q.mono ih)) M M);have E:=T (λw' (h:Dr s w')=>gM c j a k d n B y L r _ (h.Wi (h2.below (q.mono uK))) (h.Wi (h4.below (q.mono ih))) iv cK Q);have ln:=T q;have N:=T D;have K:decide ((qj,L)=(t,r))=(decide (qj=t)&&decide (L=r)):=by
  rw [yx,jo,zR,jo,jo,Prod.mk.injEq]
 rw [K];clear h1 h2 h3 h4 F q A z D K;by_cases p:qj=t
 focus
  rw [qw p] at u;rw [qw p,Bool.true_and];generalize decide (L=r)=cB at*
 rotate_left
 focus
  rw [qc p] at u;rw [qc p,Bool.false_and];replace p:=T p
 rotate_left
 all_goals
  go_in;go_wp2_with fail;rw [<-N.out] at c0 c1 c2 w⊢;refine zC u ?_;intro hh v
 ·have cL:=T (E hh v);obtain⟨m,rfl⟩:=v;have d1:i' (s.drewN m) ⟨W,1,none⟩=J (Z c a d):=c1;have d3:i' (s.drewN m) ⟨(W:O)+1,1,none⟩=J (Z j k n):=w;have C:=T (ln.trans ((Dr.refl s).drewN m|>.below W));clear c0 c1 c2 w;go_wp2_with fail;refine zC cL ?_;intro cY H;have R:=T (C.trans (H.below W));clear H;go_wp2;go_ret;exact⟨rfl,R⟩
 ·have C:=T (ln.trans (v.below W));clear v c0 c1 c2 w;go_wp2;go_ret;exact⟨rfl,C⟩
def r2A (a:O) (b:V) (c:Bool) (kk:V):Array Value:= #[mJ a,b,c,kk,(),(),()]
theorem aD (a:O) (b:V) (c:Bool) (kk:V) (e:V) (d:Bool) (f:V):
  (r2A a b c kk).setIfInBounds 1 e=r2A a e c kk/\(r2A a b c kk).setIfInBounds 2 d=r2A a b d kk/\
  (r2A a b c kk).setIfInBounds 3 f=r2A a b c f:=by simp [r2A]
structure R2 (W:I) (go gc:O) (bk:V) (pl:Bool) (kk:V) (A:q') (N cap:O) (b:qn) (c:Cu):Prop where
 blk:F' W go 166 (r2A gc bk pl kk)
 cur:Lr W gc A N cap b c
 ne:go≠gc
theorem R2.step (h:R2 W go gc bk pl kk A N cap b c) (a:Lr W' gc A N cap b c') (d:qE [gc] W W'):R2 W' go gc bk pl kk A N cap b c':=
 ⟨d.blk h.blk (by simpa using h.ne),a,h.ne⟩
theorem R2.fresh (h:R2 W go gc bk pl kk A N cap b c) (a:r' W W W'):R2 W' go gc bk pl kk A N cap b c:=h.step (h.cur.fresh a) (qE.jq a)
theorem R2.drew (h:R2 W go gc bk pl kk A N cap b c):R2 W.drew go gc bk pl kk A N cap b c:=h.fresh ((Dr.refl W|>.drewN 1).below _)
theorem R2.fp (h:R2 W go gc bk pl kk A N cap b c): ∀k∈K' A,k≠go:=qT h.cur.own h.blk FV
theorem R2.Xm (h:R2 W go gc bk pl kk A N cap b c) (i:O) (u:la):Lr (W.setCell ⟨go,i,none⟩ u) gc A N cap b c:=
 h.cur.jZ ((qE.refl [go] W).zh (qy.2 rfl) u) (by simpa using λe=>h.ne e.symm) (λk a=>by simpa using h.fp k a)
theorem R2.Ik (h:R2 W go gc bk pl kk A N cap b c) (v:V):R2 (W.setCell ⟨go,1,none⟩ v) go gc v pl kk A N cap b c:=⟨by have:=h.blk.zh 1 v;rwa [(aD gc bk pl kk v pl kk).1] at this,h.Xm 1 _,h.ne⟩
theorem R2.GS (h:R2 W go gc bk pl kk A N cap b c) (v:Bool):R2 (W.setCell ⟨go,2,none⟩ v) go gc bk v kk A N cap b c:=⟨by have:=h.blk.zh 2 v;rwa [(aD gc bk pl kk bk v kk).2.1] at this,h.Xm 2 _,h.ne⟩
theorem R2.gJ (h:R2 W go gc bk pl kk A N cap b c) (v:V):R2 (W.setCell ⟨go,3,none⟩ v) go gc bk pl v A N cap b c:=⟨by have:=h.blk.zh 3 v;rwa [(aD gc bk pl kk bk pl v).2.2] at this,h.Xm 3 _,h.ne⟩
theorem R2.cell (h:R2 W go gc bk pl kk A N cap b c) (i:O):i' W ⟨go,i,none⟩=(r2A gc bk pl kk)[i]? :=h.blk.cell i
theorem R2.c0 (h:R2 W go gc bk pl kk A N cap b c):i' W go=J (mJ gc):=h.cell 0
theorem R2.frz (h:R2 W go gc bk pl kk A N cap b c) (i:O):W.frozen? ⟨go,i,none⟩=false:=h.blk.frozen i
def Db (W:I) (c a:O) (r:V×Lx×O) (e:Ending) (b:I):Prop:=
 e=t' (BA #[e' (r.2.2:O),e' r.1])/\F' b c 166 (r2A a r.2.1.blk r.2.1.plain r.2.1.bkt)/\qE [c,a] W b
theorem rG (W:I) (a c B:O) (A A0:q') (N cap c0:O) (b:qn) (ht:Pl W) (h:R2 W a c 0 false 0 A N cap b ⟨0,0⟩) (hgo:B<=a) (hgc:B<=c) (h0:E' W B 1 A0 N (b.map B8)) (hT:0<B) (hc0:N<=c0) (hm0:c0<=maxLen) (hN:N<=1000000000):
  xG 113 #[mJ a,Z A0 N c0] W (Db W a c (Y7 b)):=by
 have P':G (B<=(W:O)):=qv hgo (zr h.blk.lt);have HML:G (∀W',qE [a,c] W W'->r' B W W'):=λW' hm=>hm.below (λk hk=>by simp at hk;rcases hk with rfl|rfl<;>assumption) P'.out;have H:=T h;have H0:=T h0;have HT:=T ht;replace hT:=T hT;obtain⟨i0,hi,hz0,hz1,hz2⟩:=qA QB;have hcut:=T (λk (hk:k<=c0)=>Qm (P:=prog) 30 5 i0 1 qu hi hz1 A0 N c0 k .i64 hk);have K0:=T (Qs W c A N cap b ⟨0,0⟩ 5 h.cur);obtain⟨R,i⟩:=zn (Y7 b);rw [<-i];unfold Y7 at i;dsimp only at i;unfold X1 at K0;generalize (jW b 5 ⟨0,0⟩).1=tk,(jW b 5 ⟨0,0⟩).2=tc at*;have K1:=T (λW (h:Lr W c A N cap b tc)=>yK W c A N cap b tc 32768 h M);generalize jU b 32768 tc=k at*;obtain⟨g,kc⟩:=k;have K2:=T (λW (h:Lr W c A N cap b kc)=>QS W c A N cap b kc h);dsimp only at i K1;generalize j_ b kc=p at*;obtain⟨v,pc⟩:=p;dsimp only at i K2;obtain⟨c3,qj⟩:=zn (if 1<v.toNat then vP pc 2 else pc);rw [<-qj] at i;have K3:=T (λW (h:Lr W c A N cap b c3)=>yK W c A N cap b c3 64 h M);generalize jU b 64 c3=r at*;obtain⟨d,N9⟩:=r;dsimp only at i K3;have K4:=T (λW (h:Lr W c A N cap b N9)=>Qs W c A N cap b N9 4 h);unfold X1 at K4;generalize (jW b 4 N9).1=tk2,(jW b 4 N9).2=f at*;have hb8:B8 v=gR (v.toNat:V):=rfl;rw [hb8] at K2;have hp1:decide (v=1)=decide (v.toNat=1):=by
  by_cases h:v=1
  ·subst h;rfl
  ·have:v.toNat≠1:=λe=>h (jG.1 e);rw [qc h,qc this]
 rw [hp1] at i;have hy:=v.toNat_lt;generalize v.toNat=y at*;replace i:=T i;replace qj:=T qj;unfold jS at K1 K2 K3;have q0:=h.c0;clear h hb8 hp1 h0 ht hi hz0 hz1 hz2;go_in;go_wp2_with fail;refine K0.mono ?_;rintro e w0 ⟨At,ct,rfl,N',S',-⟩;have O':=T (H.step N' S');have HM0:=T (S'.mono (l':=[a,c]) λk hk=>by rw [qy.1 hk];simp);have KI:=T (K1 w0 N');have q0':=O'.c0;clear N' S' q0;go_wp2_with fail;refine zC KI ?_;rintro w1 ⟨hc1,Z'⟩;have M':=O'.step hc1 Z';have f1:=M'.frz 1;have g1:i' w1 ⟨a,1,none⟩=J (e' 0):=M'.cell 1;have J':=T (M'.Ik (g:V));have HM2:G (qE [a,c] W (w1.setCell ⟨a,1,none⟩ g)):=Qf (yv HM0 Z') 1 g;have K2a:=T (K2 _ J'.cur);have q2:=J'.c0;clear hc1 Z' M' q0';go_wp2_with fail;refine zC K2a ?_;rintro w3 ⟨hc3',Y'⟩;have u:=T (J'.step hc3' Y');have N6:=T (yv HM2 Y');have q3:=u.c0;clear hc3' Y' q2 f1 g1;by_cases hy1:1<y
 focus
  have hy1':(1:V)<(y:V):=M;have K5:=T (yB w3 c A N cap b pc 2 u.cur);have Q:=qj.out;rw [qk hy1] at Q;rw [<-Q] at K5;unfold jS at K5;go_wp2_with fail;refine zC K5 ?_;rintro w4 ⟨hc4,OX⟩;have u':=T (u.step hc4 OX);have HM4:=T (yv N6 OX);have hd:((y:V)==1)=decide (y=1):=by
   rw [qc M];simp;omega
  clear hc4 OX q3 Q;generalize L:decide (y=1)=pl at*;replace L:=T L;have fa:=u'.frz 2;have ga:i' w4 ⟨a,2,none⟩=J (.bool false):=u'.cell 2;have D:=T (u'.out.GS pl);have z':=T (Qf HM4 2 pl);have KA:=T (K3 _ D.cur);have qa:=D.c0;have X':=u'.c0
 rotate_left
 focus
  have hy1': ¬(1:V)<(y:V):=M;have Q:=qj.out;rw [qJ hy1] at Q;rw [<-Q] at u;have hd:((y:V)==1)=decide (y=1):=by
   by_cases h:y=1
   ·subst h;rfl
   ·rw [qc h];simp;omega
  clear Q q3;generalize L:decide (y=1)=pl at*;replace L:=T L;have fa:=u.frz 2;have ga:i' w3 ⟨a,2,none⟩=J (.bool false):=u.cell 2;have D:=T (u.out.GS pl);have z':=T (Qf N6 2 pl);have KA:=T (K3 _ D.cur);have qa:=D.c0;have X':=u.c0
 all_goals
  go_wp2_with fail;refine zC KA ?_;rintro wb ⟨m',uK⟩;have x:=D.step m' uK;have fb:=x.frz 3;have gb:i' wb ⟨a,3,none⟩=J (e' 0):=x.cell 3;have w:=T (x.gJ (d:V));have G':=T (Qf (yv z' uK) 3 d);have KB:=T (K4 _ w.cur);have qb:=w.c0;clear m' uK x qa X' fa ga;go_wp2_with fail;generalize wb.setCell ⟨a,3,none⟩ d=wc at*;clear fb gb;refine KB.mono ?_;rintro e ln ⟨Au,cu,rfl,cL,iv,-⟩;have o:=T (w.step cL iv);have z:=T (yv G' iv);have F:=T (jg ln c A N cap b f cL);have qe:=o.c0;clear cL iv qb;go_wp2_with fail;by_cases n:f.err=0
  case neg=>
   have t:G (R=(f.err,⟨(g:V),pl,(d:V),0,0,0⟩,0)):=by rw [Hid,i.out,qk (by simpa using n),<-L.out]
   have hzn:(f.err==0)=false:=by simpa using n
   have hzn':(f.err !=0)=true:=by simpa using n
   generalize m:f.err=E at*;replace m:=T m;refine Ω F ?_;go_wp2;go_ret2;unfold Db;rw [t.out];exact⟨rfl,o.blk,z⟩
  have l:=i.out;rw [qJ (by simpa using n)] at l;rw [n] at F;have hle:f.at_<=N:=o.cur.le;have ih:=T (λW (h:Lr W c A N cap b f)=>JJ W c A N cap b f h);have K:=HML ln z.out;have s:=Vr A0 f.at_ c0 (b.take f.at_) ln (HT.below K hT) (((H0.below K).more (qv P' K.size)).takeN hle) M hm0 M;generalize f.at_=k at*;generalize QH (b.take k)=E at*;generalize vR (b.take k)=cY at*;have U':=hcut k M;have hk0:=xi k;have hkc:=vv k c0;have hkN:=vv k N;unfold Qr at s;replace s:=T s;have iL:=T (ih ln o.cur);replace l:=T l;clear K n;refine Ω F ?_;go_wp2_with fail;refine Ω iL ?_;go_wp2_with fail;refine s.mono ?_;rintro e j ⟨Av,cv,rfl,cK⟩;have q:=T (o.fresh cK.2);have d':=T (z.fresh cK.2);clear cK qe U';by_cases m:E=0
  case neg=>
   have t:=T (l.out.trans (qk m));have hEz:(E==0)=false:=by simpa using m
   have hEn:(E !=0)=true:=by simpa using m
   go_wp2;go_ret2;unfold Db;rw [t.out];exact⟨rfl,q.blk,d'⟩
  subst m;have t:=T (l.out.trans (qJ s8));have ck:=T (λW=>JX 2 (g:V) (d:V) 0 0 0 pl W ⟨M,M⟩);rw [VT 2 (g:V) (d:V) 0 0 0 pl] at ck;generalize vM 2 ⟨(g:V),pl,(d:V),0,0,0⟩=CE at*;have HS:G (∀w',r' (j:O) j w'->i' w' a=J (mJ c)/\i' w' ⟨a,1,none⟩=J (g:la)/\i' w' ⟨a,2,none⟩=J (.bool pl)/\i' w' ⟨a,3,none⟩=J (d:la)/\i' w' ⟨a,4,none⟩=J (e' 0)/\i' w' ⟨a,5,none⟩=J (e' 0)/\i' w' ⟨a,6,none⟩=J (e' 0)):=λw' X=>by
   have cB:=q.fresh X;exact⟨cB.cell 0,cB.cell 1,cB.cell 2,cB.cell 3,cB.cell 4,cB.cell 5,cB.cell 6⟩
  have D':=T (λw' (X:r' (j:O) j w')=>ih.out w' (q.fresh X).cur);have p':=T (ck j.drew);have I':=T (D' j.drew (qZ _ j).drew);go_wp2_with fail;refine zv 12 (λW=>i' W a=J (mJ c)/\i' W ⟨a,1,none⟩=J (g:la)/\i' W ⟨a,2,none⟩=J (.bool pl)/\i' W ⟨a,3,none⟩=J (d:la)/\i' W ⟨a,4,none⟩=J (e' 0)/\i' W ⟨a,5,none⟩=J (e' 0)/\i' W ⟨a,6,none⟩=J (e' 0)) AL (HS _ (qZ _ _).drew) (λC=> ?_);refine zq [0,1,2,3,5,6] (a':= ?_) ?_;refine zq [7,8] (a':= ?_) ?_;refine vf 4 I' ?_;rintro e w' ⟨rfl,rfl⟩;refine⟨_,rfl,(C),λC=> ?_⟩;refine vf 9 p' ?_;rintro e w8 ⟨rfl,hh⟩;refine⟨_,rfl,((HS _ ((qZ _ j).drew.trans hh))),λC=> ?_⟩;refine zq [10,11] (a':= ?_) ?_;refine zV AL ?_ _;have HG:=T (q.drew.fresh hh);have Q':=T (d'.drew.fresh hh);clear HS hh C;go_wp2;go_ret2;unfold Db;rw [t.out];exact⟨rfl,HG.blk,Q'⟩
def h3A (o:Lx) (n:V) (p:V):Array Value:= #[o.blk, .bool o.plain,o.bkt,o.data,o.par,o.chunk,n,gR p]
structure H3 (W:I) (g gc:O) (cs:Array la) (A:q') (N cap:O) (b:qn) (c:Cu):Prop where
 blk:F' W g 76 cs
 cur:Lr W gc A N cap b c
 ne:g≠gc
theorem H3.step (h:H3 W g gc cs A N cap b c) (a:Lr W' gc A N cap b c') (d:qE [gc] W W'):H3 W' g gc cs A N cap b c':=
 ⟨d.blk h.blk (by simpa using h.ne),a,h.ne⟩
theorem H3.fp (h:H3 W g gc cs A N cap b c): ∀k∈K' A,k≠g:=qT h.cur.own h.blk FV
theorem H3.set (h:H3 W g gc cs A N cap b c) (i:O) (u:la):H3 (W.setCell ⟨g,i,none⟩ u) g gc (cs.setIfInBounds i u) A N cap b c:=
 ⟨h.blk.zh i u,h.cur.jZ ((qE.refl [g] W).zh (qy.2 rfl) u) (by simpa using λe=>h.ne e.symm) (λk a=>by simpa using h.fp k a),h.ne⟩
def oP (W:I) (a:qn) (e:Ending) (b:I):Prop:=
 r' W W b/\((1<(a.getD 5 0).toNat/\e=t' (BA #[mJ none,e' 2]))\/(¬1<(a.getD 5 0).toNat/\ ∃g,e=t' (BA #[mJ (some ⟨g,0,none⟩),e' (vM 3 (YX a))])/\(W:O)<=g/\F' b g 76 (h3A (YX a) (Aq a:O) ((a.getD 5 0).toNat:V))))
theorem ou (a b:AB):vk [a,b]<65536:=by
 have h:=Yy [a,b];rw [show [a,b].length=2 from rfl,show 256^2=65536 from by decide] at h;exact h
theorem It (a b c d:AB):vk [a,b,c,d]<4294967296:=by
 have h:=Yy [a,b,c,d];rw [show [a,b,c,d].length=4 from rfl,show 256^4=4294967296 from by decide] at h;exact h
theorem Ny (A:q') (c B:O) (xs:qn) (W:I) (h:E' W B 1 A 21 (xs.map B8)) (hB:B<=(W:O)) (hc:21<=c) (hm:c<=maxLen):
  xG 168 #[Z A 21 c] W (oP W xs):=by
 have hl:U xs=21:=h.len
 match xs,hl with
 |[b0,b1,b2,b3,b4,a,b,i,f,q,j,n,r,o,l,m,s,t,v,w,u],_=>
 obtain⟨i0,hi,hz0,hz1,hz2⟩:=qA QB;have hcut:=jI (P:=prog) 30 5 i0 1 qu hi hz1 A 21 c 5 .i64 M;rw [show((5:O):V)=5 from rfl,show 21-5=16 from rfl] at hcut;have KN:=T (Qk (xo A c 5 1) 16 (c-5) B [a,b,i,f,q,j,n,r,o,l,m,s,t,v,w,u] W (h.VC (k:=5) M hc) hB M);have qj:=T (λW gc d cap h=>QS W gc d 16 cap [a,b,i,f,q,j,n,r,o,l,m,s,t,v,w,u] ⟨0,0⟩ h);have cL:=T (λW gc d cap h=>QS W gc d 16 cap [a,b,i,f,q,j,n,r,o,l,m,s,t,v,w,u] ⟨1,0⟩ h);have Q:=T (λW gc d cap h=>QS W gc d 16 cap [a,b,i,f,q,j,n,r,o,l,m,s,t,v,w,u] ⟨2,0⟩ h);have R:=T (λW gc d cap h=>QS W gc d 16 cap [a,b,i,f,q,j,n,r,o,l,m,s,t,v,w,u] ⟨3,0⟩ h);have K5:=T (λW gc d cap h=>VW W gc d 16 cap [a,b,i,f,q,j,n,r,o,l,m,s,t,v,w,u] ⟨4,0⟩ 2 h M M);have cY:=T (λW gc d cap h=>VW W gc d 16 cap [a,b,i,f,q,j,n,r,o,l,m,s,t,v,w,u] ⟨6,0⟩ 2 h M M);have X:=T (λW gc d cap h=>VW W gc d 16 cap [a,b,i,f,q,j,n,r,o,l,m,s,t,v,w,u] ⟨8,0⟩ 4 h M M);rw [show j_ [a,b,i,f,q,j,n,r,o,l,m,s,t,v,w,u] ⟨0,0⟩=(a,⟨1,0⟩) from rfl] at qj;rw [show j_ [a,b,i,f,q,j,n,r,o,l,m,s,t,v,w,u] ⟨1,0⟩=(b,⟨2,0⟩) from rfl] at cL;rw [show j_ [a,b,i,f,q,j,n,r,o,l,m,s,t,v,w,u] ⟨2,0⟩=(i,⟨3,0⟩) from rfl] at Q;rw [show j_ [a,b,i,f,q,j,n,r,o,l,m,s,t,v,w,u] ⟨3,0⟩=(f,⟨4,0⟩) from rfl] at R;rw [show Yb [a,b,i,f,q,j,n,r,o,l,m,s,t,v,w,u] ((2:O):V) ⟨4,0⟩=(vk [q,j],⟨6,0⟩) from rfl,show((2:O):V)=2 from rfl] at K5;rw [show Yb [a,b,i,f,q,j,n,r,o,l,m,s,t,v,w,u] ((2:O):V) ⟨6,0⟩=(vk [n,r],⟨8,0⟩) from rfl,show((2:O):V)=2 from rfl] at cY;rw [show Yb [a,b,i,f,q,j,n,r,o,l,m,s,t,v,w,u] ((4:O):V) ⟨8,0⟩=(vk [o,l,m,s],⟨12,0⟩) from rfl,show((4:O):V)=4 from rfl] at X;dsimp only at qj cL Q R K5 cY X;unfold oP;rw [show [b0,b1,b2,b3,b4,a,b,i,f,q,j,n,r,o,l,m,s,t,v,w,u].getD 5 0=a from rfl];have hop:YX [b0,b1,b2,b3,b4,a,b,i,f,q,j,n,r,o,l,m,s,t,v,w,u]=⟨(vk [n,r]:O),decide (a=1),(b.toNat:V),(i.toNat:V),(f.toNat:V),(vk [q,j]:O)⟩:=rfl;have hn3:Aq [b0,b1,b2,b3,b4,a,b,i,f,q,j,n,r,o,l,m,s,t,v,w,u]=vk [o,l,m,s]:=rfl;rw [hop,hn3];generalize [a,b,i,f,q,j,n,r,o,l,m,s,t,v,w,u]=bs at*;have u1:=ou n r;have u2:=ou q j;have u3:=It o l m s;generalize vk [n,r]=ln,vk [q,j]=F,vk [o,l,m,s]=hh at*;have hp1:decide (a=1)=decide (a.toNat=1):=by
  by_cases h:a=1
  ·subst h;rfl
  ·have:a.toNat≠1:=λe=>h (jG.1 e);rw [qc h,qc this]
 rw [hp1];have hy:=a.toNat_lt;have h6:=b.toNat_lt;have h7:=i.toNat_lt;have h8:=f.toNat_lt;rw [show B8 a=gR (a.toNat:V) from rfl] at qj;rw [show B8 b=gR (b.toNat:V) from rfl] at cL;rw [show B8 i=gR (i.toNat:V) from rfl] at Q;rw [show B8 f=gR (f.toNat:V) from rfl] at R;generalize a.toNat=y,b.toNat=D,i.toNat=C,f.toNat=x at*;have hd:((y:V)==1)=decide (y=1):=by
  by_cases h:y=1
  ·subst h;rfl
  ·rw [qc h];simp;omega
 generalize hpl:decide (y=1)=H at*;replace hpl:=T hpl;have e6:DW (D:V)=(D:V):=SX;have e7:DW (C:V)=(C:V):=SX;have e8:DW (x:V)=(x:V):=SX;have eb:DW (ln:V)=(ln:V):=SX;have ec:DW (F:V)=(F:V):=SX;have en:DW (hh:V)=(hh:V):=SX;unfold jS at qj cL Q R K5 cY X;clear h hl hi hz0 hz1 hz2 hop hn3 hp1;go_in;go_wp2_with fail;refine KN.mono ?_;rintro e w1 ⟨gc,d,cap,rfl,hcr,d',-,hB1⟩;have K1a:=T (qj w1 gc d cap hcr);have u':=T hB1;replace d':=T d';clear hcr hB1 hcut;go_wp2_with fail;refine zC K1a ?_;rintro K ⟨U',hm2⟩;have p':G (r' (W:O) W K):=u'.trans (hm2.below (λk hk=>by rw [qy.1 hk];exact d') u'.size);have HH:G (H3 (K (Y #[(),H,(),(),(),(),(),gR (y:V)] 76)) K gc #[(),H,(),(),(),(),(),gR (y:V)] d 16 cap bs ⟨1,0⟩):=⟨F'.new _ _ _,U'.fresh (j1 _),λe=>by have:=U'.blk.lt;omega⟩;have J':G (r' (W:O) W (K (Y #[(),H,(),(),(),(),(),gR (y:V)] 76))):=p'.alloc p'.size _;have L:G ((W:O)<=(K:O)):=p'.size;have K2a:=T (cL _ gc d cap HH.cur);clear U' hm2;go_wp2_with fail;generalize K (Y #[(),H,(),(),(),(),(),gR (y:V)] 76)=w3,(K:O)=g at*;have N:G (∀k∈[gc],(W:O)<=k):=λk hk=>by rw [qy.1 hk];exact d'.out
 refine zC K2a ?_;rintro w4 ⟨OX,D'⟩;have HH4:=T (HH.step OX D');have G':=T (J'.trans (D'.below N J'.size));have K3a:=T (Q _ gc d cap OX);clear OX D';go_wp2_with fail;refine zC K3a ?_;rintro w5 ⟨Q',N9⟩;have HH5:=T (HH4.step Q' N9);have Y':=T (G'.trans (N9.below N G'.size));have K4a:=T (R _ gc d cap Q');clear Q' N9;go_wp2_with fail;refine zC K4a ?_;rintro uK ⟨hc6,I'⟩;have ih:=T (HH5.step hc6 I');have HB6:=T (Y'.trans (I'.below N Y'.size));clear hc6 I';have f2:=ih.blk.frozen 2;have f3:=ih.blk.frozen 3;have f4:=ih.blk.frozen 4;have g2:i' uK ⟨g,2,none⟩=J (e' 0):=ih.blk.cell 2;have g3:i' uK ⟨g,3,none⟩=J (e' 0):=ih.blk.cell 3;have g4:i' uK ⟨g,4,none⟩=J (e' 0):=ih.blk.cell 4;have O':G (H3 (((uK.setCell ⟨g,2,none⟩ D).setCell ⟨g,3,none⟩ C).setCell ⟨g,4,none⟩ x) g gc #[(),H,D,C,x,(),(),gR (y:V)] d 16 cap bs ⟨4,0⟩):=((ih.set 2 _).set 3 _).set 4 _;have z':G (r' (W:O) W (((uK.setCell ⟨g,2,none⟩ D).setCell ⟨g,3,none⟩ C).setCell ⟨g,4,none⟩ x)):=((HB6.setCell (p:=⟨g,2,none⟩) L _).setCell (p:=⟨g,3,none⟩) L _).setCell (p:=⟨g,4,none⟩) L _;have K5a:=T (K5 _ gc d cap O'.cur);go_wp2_with fail;clear f2 f3 f4 g2 g3 g4;generalize ((uK.setCell ⟨g,2,none⟩ D).setCell ⟨g,3,none⟩ C).setCell ⟨g,4,none⟩ x=w7 at*;refine zC K5a ?_;rintro w8 ⟨Z',S'⟩;have HH8:=T (O'.step Z' S');have M':=T (z'.trans (S'.below N z'.size));have K6a:=T (cY _ gc d cap Z');clear Z' S';go_wp2_with fail;refine zC K6a ?_;rintro cK ⟨hc9,X'⟩;have iv:=T (HH8.step hc9 X');have HB9:=T (M'.trans (X'.below N M'.size));clear hc9 X';have f5:=iv.blk.frozen 5;have f0:=iv.blk.frozen 0;have g5:i' cK ⟨g,5,none⟩=J (e' 0):=iv.blk.cell 5;have g0:i' cK g=J (e' 0):=iv.blk.cell 0;have HH10:G (H3 ((cK.setCell ⟨g,5,none⟩ F).setCell g ln) g gc #[ln,H,D,C,x,F,(),gR (y:V)] d 16 cap bs ⟨8,0⟩):=(iv.set 5 _).set 0 _;have HB10:G (r' (W:O) W ((cK.setCell ⟨g,5,none⟩ F).setCell g ln)):=(HB9.setCell (p:=⟨g,5,none⟩) L _).setCell (p:= g) L _;have K7a:=T (X _ gc d cap HH10.cur);go_wp2_with fail;clear f5 f0 g5 g0;generalize (cK.setCell ⟨g,5,none⟩ F).setCell g ln=w10 at*;refine zC K7a ?_;rintro z ⟨hc11,N6⟩;have E:=T (HH10.step hc11 N6);have P':=T (HB10.trans (N6.below N HB10.size));clear hc11 N6;have f6:=E.blk.frozen 6;have g6:i' z ⟨g,6,none⟩=J (e' 0):=E.blk.cell 6;have ck:G (H3 (z.setCell ⟨g,6,none⟩ hh) g gc (h3A ⟨(ln:V),H,(D:V),(C:V),(x:V),(F:V)⟩ (hh:V) (y:V)) d 16 cap bs ⟨12,0⟩):=E.set 6 _;have m':G (r' (W:O) W (z.setCell ⟨g,6,none⟩ hh)):=P'.setCell (p:=⟨g,6,none⟩) L _;have g7:i' (z.setCell ⟨g,6,none⟩ hh) ⟨g,7,none⟩=J (gR (y:V)):=ck.blk.cell 7;have g7':i' z ⟨g,7,none⟩=J (gR (y:V)):=E.blk.cell 7;have cB:=T (JX 3 (ln:V) (D:V) (C:V) (x:V) (F:V) H (z.setCell ⟨g,6,none⟩ hh) ⟨M,M⟩);rw [VT 3 (ln:V) (D:V) (C:V) (x:V) (F:V) H] at cB;obtain⟨CE,iL⟩:=zn (vM 3 ⟨(ln:V),H,(D:V),(C:V),(x:V),(F:V)⟩);rw [<-iL] at cB;replace iL:=T iL;have z0:i' z g=J (ln:la):=E.blk.cell 0;have z1:i' z ⟨g,1,none⟩=J (.bool H):=E.blk.cell 1;have z2:i' z ⟨g,2,none⟩=J (D:la):=E.blk.cell 2;have z3:i' z ⟨g,3,none⟩=J (C:la):=E.blk.cell 3;have z4:i' z ⟨g,4,none⟩=J (x:la):=E.blk.cell 4;have z5:i' z ⟨g,5,none⟩=J (F:la):=E.blk.cell 5;by_cases hy1:1<y
 ·have hy1':(1:V)<(y:V):=M;go_wp2;go_ret2;exact⟨m', .inl ⟨hy1,rfl⟩⟩
 ·have hy1': ¬(1:V)<(y:V):=M;go_wp2_with fail;refine zC cB ?_;intro w13 N';have HB13:=T (m'.trans (N'.mono m'.size));have HZ:=T (ck.blk.below N' ck.blk.lt);clear N' z0 z1 z2 z3 z4 z5 g7 g7' f6 g6;go_wp2;go_ret2;rw [<-iL.out];exact⟨HB13, .inr ⟨hy1,g,rfl,L,HZ⟩⟩
theorem af (A:q') (n c:O) (w:I) (a:n<42):
  xG 147 #[Z A n c] w λe w'=>e=t' (BA #[z8,z8,false])/\w=w':=by
 have h1:(n:V)<42:=M;go_wp2;go_ret3;exact⟨rfl,rfl⟩
theorem Gx (A:q') (n c:O) (w:I) (g:42<=n) (l:n<=c) (o:c<=maxLen) (k:n<=1000000000):
  xG 147 #[Z A n c] w λe w'=>e=t' (BA #[Z A 21 c,Z (xo A c (n-21) 1) 21 (c-(n-21)),true])/\Dr w w':=by
 obtain⟨f,hi,h,a,i⟩:=qA QB;have j:=Qm (P:=prog) 30 5 f 1 qu hi a A n c 21 .i64 M;rw [show((21:O):V)=21 from rfl] at j;have b:=jI (P:=prog) 30 5 f 1 qu hi a A n c (n-21) .i64 M;rw [show n-(n-21)=21 by omega] at b;obtain⟨m,d⟩: ∃m,n=m+21:=⟨n-21,M⟩;rw [show n-21=m by omega] at b⊢;have h1: ¬(n:V)<42:=M;have h2:(n:V)-21=(m:V):=M;have h3:=xi m;have h4:=vv m c;have h5:=vv m n;have h6:(21:V)<=(c:V):=M;have p:DW (m:V)=(m:V):=SX;replace d:=T d;clear hi h a i g k;go_in;go_wp2_with fail;refine zv 10 (λW=>True) AL trivial (λq=> ?_);refine zq [0,1,2,3,4,5] (a':= ?_) ?_;refine zq [6,7,8,9] (a':= ?_) ?_;refine zV AL ?_ _;go_wp2;go_ret3;exact⟨rfl,(Dr.refl w).drewN 1⟩
theorem Gv (A:q') (n c B:O) (a:qn) (w:I) (ht:Pl w) (h:E' w B 1 A n (a.map B8)) (p:B<=(w:O)) (q:n<=c) (o:c<=maxLen) (z:n<=1000000):
  xG 148 #[Z A n c] w λe w'=>e=t' (.bool (Qw a))/\r' (w:O) w w':=by
 have g:=Vr A n c a w ht (h.more p) q o M;unfold Qr at g;have i:=λW (t:r' (w:O) w W)=>kt A n c B a W q o (h.below (t.mono p));rw [(Vf a).1,(Vf a).2] at i;obtain⟨R,b⟩:=zn (Qw a);rw [<-b];unfold Qw at b;generalize QH a=E,vR a=v,V6 a=F,XQ a=y at*;revert g i b;refine vn ?_;intro g i b;clear ht h;go_in;go_wp2_with fail;refine g.mono ?_;rintro e s ⟨u,c1,rfl,r⟩;have f:=T r.2;have m:=T (i s f);clear r;go_wp2_with fail;refine Ω m ?_;by_cases k:E=0
 ·subst k;by_cases hF:F=0
  ·subst hF;by_cases j:y=3
   ·subst j;have d:G (R=true):=by rw [Hid,b.out];rfl
    go_wp2;go_ret;rw [d.out];exact⟨rfl,f⟩
   ·have d:G (R=false):=by rw [Hid,b.out,qc j];rfl
    have l:(y==3)=false:=by simpa using j
    have x:decide (y=3)=false:=qc j;go_wp2;go_ret;rw [d.out];exact⟨rfl,f⟩
  ·have d:G (R=false):=by rw [Hid,b.out,qc hF];simp
   have l:(F==0)=false:=by simpa using hF
   go_wp2;go_ret;rw [d.out];exact⟨rfl,f⟩
 ·have d:G (R=false):=by rw [Hid,b.out,qc k];simp
  have l:(E==0)=false:=by simpa using k
  go_wp2;go_ret;rw [d.out];exact⟨rfl,f⟩
def oK (W:I) (B:O) (r:V×qn) (e:Ending) (c:I):Prop:=
 ∃d a b,a=U r.2/\e=t' (BA #[Z d a b,e' r.1])/\E' c B 1 d a (r.2.map B8)/\a<=b/\b<=maxLen/\r' W W c
theorem uW (b:qn) (h:42<=U b):U (Zj b)=21/\U (Jw b)=21:=by
 unfold Zj Jw;rw [qh,qI];omega
theorem Gy (A:q') (n c B:O) (b:qn) (w:I) (ht:Pl w) (h:E' w B 1 A n (b.map B8)) (o:B<=(w:O)) (L:n<=c) (t:c<=maxLen) (qj:n<=1000000000):
  xG 105 #[Z A n c] w (oK w B (Hb b)):=by
 have q:U b=n:=h.len;obtain⟨R,d⟩:=zn (Hb b);rw [<-d];unfold Hb at d;by_cases e:n<42
 ·have j:=T (af A n c w e);have f:=T (d.trans (qk M));clear ht h d q;go_in;go_wp2_with fail;refine Ω j ?_;go_wp2;go_ret2;rw [f.out];exact⟨none,0,0,rfl,rfl,E'.none_,qx _,FV,qZ _ _⟩
 rw [qJ M] at d;obtain⟨s,l2⟩:=uW b M;have j:=T (Gx A n c w M L t qj);have m:G (∀W,r' w w W->E' W B 1 A 21 ((Zj b).map B8)):=λW a=>(h.below (a.mono o)).takeN M;have l:G (∀W,r' w w W->E' W B 1 (xo A c (n-21) 1) 21 ((Jw b).map B8)):=λW a=>by
  have:=(h.below (a.mono o)).VC (k:=n-21) M L;rw [show n-(n-21)=21 by omega] at this;unfold Jw;rw [q];exact this
 have uK:=T (λW a=>Gv A 21 c B (Zj b) W (ht.below a ht.pos) (m W a) (qv o a.size) M t M);have r:=T (λW a=>Gv (xo A c (n-21) 1) 21 (c-(n-21)) B (Jw b) W (ht.below a ht.pos) (l W a) (qv o a.size) M M M);generalize Zj b=D,Jw b=E at*;generalize Qw D=x,Qw E=y at*;generalize P:xo A c (n-21) 1=iv,Q:c-(n-21)=c2 at*;replace d:=T d;have z:G (21<=c/\21<=c2/\c2<=maxLen):=by rw [Hid];omega
 replace s:=T s;replace l2:=T l2;clear ht h q P Q;go_in;go_wp2_with fail;refine zC j ?_;intro K F;have p:=T (F.below w);have ln:=T (uK K p);clear F;go_wp2_with fail;refine zC ln ?_;intro ih C;have i:=T (p.trans (C.mono p.size));clear C;cases x
 case true=>
  have f:=T (d.out.trans (qk rfl));have v:=T (m ih i);go_wp2;go_ret2;rw [f.out];exact⟨A,21,c,s.symm,rfl,v,z.out.1,t,i⟩
 have g:=d.out;rw [qJ s8] at g;have H:=T (r ih i);replace g:=T g;go_wp2_with fail;refine zC H ?_;intro N X;have u:=T (i.trans (X.mono i.size));clear X;cases y
 case true=>
  have f:=T (g.out.trans (qk rfl));have v:=T (l N u);go_wp2;go_ret2;rw [f.out];exact⟨iv,21,c2,l2.symm,rfl,v,z.out.2.1,z.out.2.2,u⟩
 have f:=T (g.out.trans (qJ s8));go_wp2;go_ret2;rw [f.out];exact⟨none,0,0,rfl,rfl,E'.none_,qx _,FV,u⟩
theorem aF (A:q') (n c B:O) (b:qn) (w:I) (ht:Pl w) (h:E' w B 1 A n (b.map B8)) (o:B<=(w:O)) (l:n<=c) (m:c<=maxLen) (k:n<=1000000000):
  xG 74 #[Z A n c] w λe w'=>e=t' (.bool (dp b))/\r' w w w':=by
 have d:=Gy A n c B b w ht h o l m k;obtain⟨R,a⟩:=zn (dp b);rw [<-a];unfold dp at a;unfold oK at d;generalize Hb b=r at*;obtain⟨E,s⟩:=r;dsimp only at a d;replace d:=T d;replace a:=T a;clear ht h;go_in;go_wp2_with fail;refine d.mono ?_;rintro e u ⟨q,v,c1,-,rfl,-,-,-,j⟩;have i:=T j;clear j;by_cases f:E=0
 ·subst f;have g:G (R=true):=a.out;go_wp2;go_ret;rw [g.out];exact⟨rfl,i⟩
 ·have g:G (R=false):=by rw [Hid,a.out];exact qc f
  have p:(E==0)=false:=by simpa using f
  have t:decide (E=0)=false:=qc f;go_wp2;go_ret;rw [g.out];exact⟨rfl,i⟩
theorem rB (A:q') (n c B:O) (b:qn) (w:I) (ht:Pl w) (h:E' w B 1 A n (b.map B8)) (t:B<=(w:O)) (s:n<=c) (r:c<=maxLen) (u:n<=1000000000):
  xG 43 #[Z A n c] w λe w'=>e=t' (BA #[e' (Z7 b),e' (YU b)])/\r' w w w':=by
 have m:=kt A n c B b w s r h;rw [(Vf b).1,(Vf b).2] at m;have i:=aF A n c B b w ht h t s r u;obtain⟨o,g⟩:=zn (Z7 b);obtain⟨l,f⟩:=zn (YU b);rw [<-g,<-f];unfold Z7 at g;unfold YU at f;generalize XQ b=D,V6 b=E,dp b=x at*;revert m i g f;refine yb ?_;intro m i g f;clear ht h;go_in;go_wp2_with fail;refine Ω m ?_;by_cases h1:D=1
 ·subst h1;have d:G (o=1):=g.out;have a:G (l=0):=f.out;go_wp2;go_ret2;rw [d.out,a.out];exact⟨rfl,qZ _ _⟩
 have v:(D==1)=false:=by simpa using h1
 by_cases h2:D=2
 ·subst h2;have d:G (o=2):=g.out;have a:G (l=0):=f.out;go_wp2;go_ret2;rw [d.out,a.out];exact⟨rfl,qZ _ _⟩
 have C:(D==2)=false:=by simpa using h2
 have j:=g.out;have k:=f.out;rw [qJ M] at j k;replace j:=T j;replace k:=T k;go_wp2_with fail;refine zC i ?_;intro z q;have p:=T q;clear q;cases x
 case true=>
  have d:G (o=3):=j.out;have a:G (l=0):=k.out;go_wp2;go_ret2;rw [d.out,a.out];exact⟨rfl,p⟩
 by_cases h3:D=3
 ·subst h3;have d:G (o=0):=j.out;have a:G (l=5):=k.out;go_wp2;go_ret2;rw [d.out,a.out];exact⟨rfl,p⟩
 ·have y:(D==3)=false:=by simpa using h3
  have d:G (o=0):=j.out;have a:G (l=E):=by rw [Hid,k.out,qJ s8,qJ h3]
  go_wp2;go_ret2;rw [d.out,a.out];exact⟨rfl,p⟩
end
end Go.Proofs.YtfnlfpcfkbdcmaaGreatDoor
