import Derived.Test.YtfnlfpcfkbdcmaaGreatDoorTA
import Derived.Test.YtfnlfpcfkbdcmaaGreatDoorRows
set_option linter.unusedSimpArgs false
set_option linter.unusedVariables false
set_option maxRecDepth 100000
set_option maxHeartbeats 0
open Go.Proofs.Tryz
namespace Go.Proofs.YtfnlfpcfkbdcmaaGreatDoor
section
variable {B uK cY W:O->O->AB}{C R col i j n p:O}{f g:O->AB}
theorem se (k x:O) (h:x<2^(k+1)): ∃y,y<2^k/\(x=y\/x=y^^^2^k):=by
 by_cases c:x<2^k
 ·exact⟨x,c, .inl rfl⟩
 ·refine⟨x^^^2^k, ?_, .inr (by rw [je,Nat.xor_self,Nat.xor_zero])⟩;have a:x.testBit k=true:=by
   rw [Nat.testBit_eq_decide_div_mod_eq];have:x/2^k=1:=by
    rw [Nat.div_eq_of_lt_le]<;>omega
   simp [this]
  refine Nat.lt_pow_two_of_testBit _ λj d=> ?_;rw [Zc];by_cases b:j=k
  ·subst b;rw [a,Nat.testBit_two_pow_self];rfl
  ·rw [Zd (qB h (zZ M M)),Nat.testBit_two_pow_of_ne M];rfl
theorem fA (f:O->O) (a:f (0^^^0)=f 0^^^f 0):f 0=0:=by
 rw [Nat.xor_self] at a;rw [a];exact Nat.xor_self _
theorem Ke (n:O) (f g:O->O) (b: ∀x y,x<2^n->y<2^n->f (x^^^y)=f x^^^f y) (e: ∀x y,x<2^n->y<2^n->g (x^^^y)=g x^^^g y)
  (h: ∀i,i<n->f (2^i)=g (2^i)): ∀x,x<2^n->f x=g x:=by
 have key: ∀k,k<=n-> ∀x,x<2^k->f x=g x:=by
  intro k;induction k with
  |zero=>
   intro _ x a;obtain rfl:x=0:=by simpa using a
   have h0:=Nat.two_pow_pos n;rw [fA f (b 0 0 h0 h0),fA g (e 0 0 h0 h0)]
  |succ k c=>
   intro l x a;have d:2^k<2^n:=Nat.pow_lt_pow_right M M;obtain⟨y,j,rfl|rfl⟩:=se k x a
   ·exact c M x j
   ·rw [b y _ M d,e y _ M d,c M y j,h k M]
 exact key n (qx n)
def hQ (a:O):Nat:=if a.testBit 7 then(a<<<1)%256^^^29 else(a<<<1)%256
def Xd:O->O->O->O->O
 |0,_,_,c=>c
 |k+1,a,b,c=>Xd k (hQ a) (b/2) (if b%2=1 then c^^^a else c)
def gm (a b:O):Nat:=Xd 8 a b 0
theorem RV (a b:O):(a^^^b)%256=a%256^^^b%256:=Nat.xor_mod_two_pow (n:=8)
theorem wK (a:O):hQ a<256:=by
 unfold hQ;split
 ·exact vz (n:=8) M M
 ·omega
theorem MO (a b c d:O):(a^^^c)^^^(b^^^d)=(a^^^b)^^^(c^^^d):=by
 rw [je,je,<-je c b d,y_ c b,je b c d]
theorem NB (a b:O):hQ (a^^^b)=hQ a^^^hQ b:=by
 unfold hQ;rw [Nat.shiftLeft_xor_distrib,RV,Zc];generalize (a<<<1)%256=p;generalize (b<<<1)%256=q;cases a.testBit 7<;>cases b.testBit 7<;>simp [je,y_ 29]
theorem o7 (a b:O):(a^^^b)/2=a/2^^^b/2:=by
 have h:=Nat.shiftRight_xor_distrib (a:=a) (b:=b) (i:=1);simpa [JF] using h
theorem o6 (a b:O):(a^^^b)%2=(a%2)^^^(b%2):=Nat.xor_mod_two_pow (n:=1)
theorem fe (k:O): ∀a a' b o c:O,Xd k (a^^^a') b (o^^^c)=Xd k a b o^^^Xd k a' b c:=by
 induction k with
 |zero=>intros;rfl
 |succ k d=>
  intro a a' b o c;simp only [Xd];rw [NB];split
  ·rw [<-d,MO]
  ·rw [<-d]
theorem Dw (k:O): ∀a b d o c:O,Xd k a (b^^^d) (o^^^c)=Xd k a b o^^^Xd k a d c:=by
 induction k with
 |zero=>intros;rfl
 |succ k f=>
  intro a b d o c;simp only [Xd];rw [o7,o6];rcases vL b with h|h<;>rcases vL d with e|e<;>simp only [h,e]<;>simp only [Nat.reduceXor,if_true,if_false,Nat.zero_ne_one]<;>rw [<-f]
  ·congr 1;rw [je]
  ·congr 1;rw [je,je,y_ a c]
  ·congr 1;rw [MO,Nat.xor_self,Nat.xor_zero]
theorem Qj (a a' b:O):gm (a^^^a') b=gm a b^^^gm a' b:=fe 8 a _ b 0 0
theorem yD (a b c:O):gm a (b^^^c)=gm a b^^^gm a c:=Dw 8 a b c 0 0
theorem Nc (k:O): ∀a b o:O,a<256->o<256->Xd k a b o<256:=by
 induction k with
 |zero=>intro a b o _ h;exact h
 |succ k e=>
  intro a b o d c;simp only [Xd];refine e _ _ _ (wK a) ?_;split
  ·exact vz (n:=8) c d
  ·exact c
theorem RY (k:O): ∀a o:O,Xd k a 0 o=o:=by
 induction k with
 |zero=>intros;rfl
 |succ k b=>intro a o;simp only [Xd];exact b _ _
theorem uI (a b:O) (c:a<256):gm a b<256:=Nc 8 a b 0 c M
def XD:O->(O->Bool)->Bool
 |0,_=>true
 |n+1,p=>p n&&XD n p
theorem Z4 (p:O->Bool): ∀n,XD n p=true-> ∀i,i<n->p i=true:=by
 intro n;induction n with
 |zero=>intro _ i hi;omega
 |succ n a=>
  intro h i hi;simp only [XD,zR] at h;by_cases b:i=n
  ·rw [b];exact h.1
  ·exact a h.2 i M
theorem Rk:XD 8 (λi=>XD 8 λj=>Nat.beq (gm (2^i) (2^j)) (gm (2^j) (2^i)))=true:=by decide+kernel
theorem aL:XD 8 (λi=>XD 8 λj=>XD 8 λk=>Nat.beq (gm (gm (2^i) (2^j)) (2^k)) (gm (2^i) (gm (2^j) (2^k))))=true:=by decide+kernel
theorem sE:XD 8 (λi=>Nat.beq (gm (2^i) 1) (2^i))=true:=by decide+kernel
theorem uL (a b:O) (c:a<256) (d:b<256):gm a b=gm b a:=by
 refine Ke 8 (λa=>gm a b) (λa=>gm b a) (λx y _ _=>Qj x y b) (λx y _ _=>yD b x y) (λi hi=> ?_) a c;refine Ke 8 (λb=>gm (2^i) b) (λb=>gm b (2^i)) (λx y _ _=>yD _ x y) (λx y _ _=>Qj x y _) (λj e=> ?_) b d;exact Qg (Z4 _ 8 (Z4 _ 8 Rk i hi) j e)
theorem pK (a b c:O) (d:a<256) (f:b<256) (e:c<256):gm (gm a b) c=gm a (gm b c):=by
 refine Ke 8 (λa=>gm (gm a b) c) (λa=>gm a (gm b c)) (λx y _ _=> ?_) (λx y _ _=>Qj x y _) (λi hi=> ?_) a d
 ·show gm (gm (x^^^y) b) c=_;rw [Qj,Qj]
 refine Ke 8 (λb=>gm (gm (2^i) b) c) (λb=>gm (2^i) (gm b c)) (λx y _ _=> ?_) (λx y _ _=> ?_) (λj h=> ?_) b f
 ·show gm (gm _ (x^^^y)) c=_;rw [yD,Qj]
 ·show gm _ (gm (x^^^y) c)=_;rw [Qj,yD]
 refine Ke 8 (λc=>gm (gm (2^i) (2^j)) c) (λc=>gm (2^i) (gm (2^j) c)) (λx y _ _=>yD _ x y) (λx y _ _=> ?_) (λk g=> ?_) c e
 ·show gm _ (gm _ (x^^^y))=_;rw [yD,yD]
 exact Qg (Z4 _ 8 (Z4 _ 8 (Z4 _ 8 aL i hi) j h) k g)
theorem fE (a:O) (b:a<256):gm a 1=a:=by
 refine Ke 8 (λa=>gm a 1) (λa=>a) (λx y _ _=>Qj x y 1) (λx y _ _=>rfl) (λi hi=> ?_) a b;exact Qg (Z4 _ 8 sE i hi)
theorem dj (a:O) (b:a<256):gm 1 a=a:=by rw [uL 1 a M b,fE a b]
theorem D5 (a:O):gm a 0=0:=fA _ (yD a 0 0)
def ta (a:O):Nat:=gm a a
def sw (a:O):Nat:=
 let e:=ta a;let b:=ta e;let d:=ta b;let g:=ta d;let f:=ta g;let c:=ta f;let h:=ta c
 gm (gm (gm (gm (gm (gm e b) d) g) f) c) h
theorem oL:XD 255 (λa=>Nat.beq (gm (a+1) (sw (a+1))) 1)=true:=by decide+kernel
theorem Rp (a:O) (h0:a≠0) (b:a<256):gm a (sw a)=1:=by
 have h:=Z4 _ _ oL (a-1) M;have e:a-1+1=a:=M;rw [e] at h;exact Qg h
theorem Ii (a:O) (h:a<256):ta a<256:=uI a a h
theorem RP (a:O) (b:a<256):sw a<256:=by
 unfold sw;have h2:=Ii a b;repeat (first|exact h2|(refine uI _ _ ?_))
theorem Ru (a b:O) (c:a<256) (d:b<256) (h:gm a b=0):a=0\/b=0:=by
 by_cases h0:a=0
 ·exact .inl h0
 ·right;have e:gm (gm (sw a) a) b=0:=by rw [pK _ _ _ (RP a c) c d,h,D5]
  rw [uL _ a (RP a c) c,Rp a h0 c,dj b d] at e;exact e
theorem sR:XD 8 (λi=>Nat.beq (hQ (2^i)) (gm (2^i) 2))=true:=by decide+kernel
theorem iz (a:O) (b:a<256):hQ a=gm a 2:=by
 refine Ke 8 hQ (λa=>gm a 2) (λx y _ _=>NB x y) (λx y _ _=>Qj x y 2) (λi hi=> ?_) a b;exact Qg (Z4 _ 8 sR i hi)
theorem NC (j:O) (h:j<128):hQ j=2*j:=by
 unfold hQ;rw [Zd (i:=7) M,Nat.shiftLeft_eq];simp;omega
theorem wu (c j:O) (a:c<256) (h:j<128):gm c (2*j)=hQ (gm c j):=by
 rw [<-NC j h,iz _ M,iz _ (uI c j a),pK c j 2 a M M]
theorem iw (c j:O) (a:c<256) (h:j<128):gm c (2*j+1)=hQ (gm c j)^^^c:=by
 have e:2*j+1=(2*j)^^^1:=by
  apply Z9;intro i;rw [Zc];cases i with
  |zero=>simp [Nat.testBit_zero]
  |succ i=>simp [Nat.testBit_succ];congr 1;omega
 rw [e,yD,wu c j a h,fE c a]
theorem iW (c i:O) (a:c<256) (hi:i<256):gm c i=if i%2=1 then hQ (gm c (i/2))^^^c else hQ (gm c (i/2)):=by
 split
 ·have e:i=2*(i/2)+1:=M;rw [e];rw [iw c (i/2) a M];congr 3;omega
 ·have e:i=2*(i/2):=M;rw [e];rw [wu c (i/2) a M];congr 2;omega
def yi (a:O):O->O
 |0=>1
 |n+1=>gm (yi a n) a
theorem YK (a n:O):yi a n<256:=by
 cases n with
 |zero=>simp [yi]
 |succ n=>
  induction n with
  |zero=>exact uI 1 a M
  |succ n b=>exact uI _ _ b
theorem u_ (a n m:O) (c:a<256):yi a (n+m)=gm (yi a n) (yi a m):=by
 induction m with
 |zero=>rw [v_];exact(fE _ (YK a n)).symm
 |succ m b=>
  show gm (yi a (n+m)) a=gm (yi a n) (gm (yi a m) a);rw [b,pK _ _ _ (YK a n) (YK a m) c]
theorem a6 (a n m:O) (c:a<256):yi a (n*m)=yi (yi a n) m:=by
 induction m with
 |zero=>rfl
 |succ m b=>rw [Nat.mul_succ,u_ a _ _ c,b];rfl
theorem NA (n:O):yi 1 n=1:=by
 induction n with
 |zero=>rfl
 |succ n a=>show gm (yi 1 n) 1=1;rw [a];exact dj 1 M
theorem H_ (n:O) (h:n≠0):yi 0 n=0:=by
 cases n with
 |zero=>exact absurd rfl h
 |succ n=>exact D5 _
theorem a7 (a:O) (b:a<256):yi a 2=gm a a:=by
 show gm (gm 1 a) a=_;rw [dj a b]
theorem dE (a n:O) (b:a<256):yi a (2*n)=yi (gm a a) n:=by rw [a6 a 2 n b,a7 a b]
theorem qqD (a n:O) (b:a<256):ta (yi a n)=yi a (n+n):=(u_ a n n b).symm
theorem dR (a:O) (b:a<256):sw a=yi a 254:=by
 have c:ta a=yi a 2:=(a7 a b).symm;unfold sw;simp only [c,qqD a _ b,<-u_ a _ _ b]
theorem Nr (a:O) (h0:a≠0) (b:a<256):yi a 255=1:=by
 show gm (yi a 254) a=1;rw [<-dR a b,uL _ a (RP a b) b,Rp a h0 b]
theorem NR (a n:O) (h0:a≠0) (b:a<256):yi a (n%255)=yi a n:=by
 have e:n=255*(n/255)+n%255:=M;rw [e,u_ a _ _ b,a6 a 255 _ b,Nr a h0 b,NA,dj _ (YK _ _)];congr 1;omega
theorem Gb (o a n:O) (d:o<256) (b:a<256) (h:n%2=1):gm (gm o a) (yi (gm a a) (n/2))=gm o (yi a n):=by
 have e:n=2*(n/2)+1:=M;have c:yi a n=gm (yi a (2*(n/2))) a:=by
  rw [e];rw [yi];congr 2;omega
 rw [c,<-dE a _ b,pK o a _ d b (YK _ _),uL a _ b (YK _ _)]
theorem fR (o a n:O) (b:a<256) (h: ¬n%2=1):gm o (yi (gm a a) (n/2))=gm o (yi a n):=by
 rw [<-dE a _ b,show 2*(n/2)=n by omega]
@[irreducible] def tv (a:Nat):Nat:=yi a 254
theorem D6 (a:O):tv a=yi a 254:=by unfold tv;rfl
theorem wU (a:O):tv a<256:=by rw [D6];exact YK _ _
theorem sW:tv 0=0:=by rw [D6];exact H_ _ M
def e13 (a:O):Int:=if a=0 then 13 else 0
theorem o8 (a:O) (h0:a≠0) (b:a<256):gm a (tv a)=1:=by rw [D6,<-dR a b,Rp a h0 b]
def fm (a b:AB):UInt8:=UInt8.ofNat (gm a.toNat b.toNat)
theorem Z5 (a b:AB):(fm a b).toNat=gm a.toNat b.toNat:=by
 unfold fm;rw [zS];exact jk (uI _ _ a.toNat_lt)
theorem Xf {a b:AB} (h:a.toNat=b.toNat):a=b:=jG.1 h
theorem Ji (a b:AB):fm a b=fm b a:=Xf (by rw [Z5,Z5];exact uL _ _ a.toNat_lt b.toNat_lt)
theorem Jr (a b c:AB):fm (fm a b) c=fm a (fm b c):=Xf (by simp only [Z5];exact pK _ _ _ a.toNat_lt b.toNat_lt c.toNat_lt)
theorem cD (a b c:AB):fm a (b^^^c)=fm a b^^^fm a c:=Xf (by simp only [Z5,J1];exact yD _ _ _)
theorem ft (a b c:AB):fm (a^^^b) c=fm a c^^^fm b c:=Xf (by simp only [Z5,J1];exact Qj _ _ _)
theorem pk (a:AB):fm a 1=a:=Xf (by rw [Z5];exact fE _ a.toNat_lt)
theorem dx (a:AB):fm 1 a=a:=by rw [Ji,pk]
theorem XF (a:AB):fm a 0=0:=Xf (by rw [Z5];exact D5 _)
theorem Xi (a:AB):fm 0 a=0:=by rw [Ji,XF]
def fi (a:AB):UInt8:=UInt8.ofNat (tv a.toNat)
theorem fT (a:AB):(fi a).toNat=tv a.toNat:=by
 unfold fi;rw [zS];exact jk (wU _)
theorem Az (a:AB) (h:a≠0):fm a (fi a)=1:=Xf (by
 rw [Z5,fT];exact o8 _ (λh0=>h (Xf h0)) a.toNat_lt)
theorem Nt (a:AB) (h:a≠0):fm (fi a) a=1:=by rw [Ji,Az a h]
theorem Rf (a b:AB) (h:fm a b=0):a=0\/b=0:=by
 have h2:gm a.toNat b.toNat=0:=by rw [<-Z5,h];rfl
 rcases Ru _ _ a.toNat_lt b.toNat_lt h2 with h3|h3
 ·exact .inl (Xf h3)
 ·exact .inr (Xf h3)
theorem JI (a:AB):a^^^a=0:=UInt8.xor_self
theorem VA (a:AB):a^^^0=a:=UInt8.xor_zero
theorem Yk (a:AB):0^^^a=a:=UInt8.zero_xor
theorem Pk (a b:AB):a^^^b=b^^^a:=UInt8.xor_comm a b
theorem X9 (a b c:AB):a^^^b^^^c=a^^^(b^^^c):=J2 a b c
theorem bq (a b:AB) (h:a^^^b=0):a=b:=by
 have h2:a^^^b^^^b=b:=by rw [h,Yk]
 rwa [X9,JI,VA] at h2
def NT (a b:qn):Int:=if U a=U b then 0 else 13
def Ds (a:qn) (c:AB) (b:qn):qn:=(List.range a).map λi=>a.getD i 0^^^fm c (b.getD i 0)
def sS (a:qn) (c:AB) (b:qn):qn:=if U a=U b then Ds a c b else []
theorem Yp (a:qn) (c:AB) (b:qn):U (Ds a c b)=U a:=by simp [Ds]
theorem sn (a:qn) (c:AB) (b:qn) (i:O) (h:i<U a):(Ds a c b).getD i 0=a.getD i 0^^^fm c (b.getD i 0):=by
 simp [Ds,qd,h]
theorem GB (a:qn) (c:AB) (b:qn) (i:O) (h:i<U a):(Ds a c b)[i]? =J (a.getD i 0^^^fm c (b.getD i 0)):=by
 simp [Ds,h]
theorem YA {a b:qn} (c:U a=U b) (h: ∀i,i<U a->a.getD i 0=b.getD i 0):a=b:=by
 apply zm;intro i;by_cases hi:i<U a
 ·have h2:=h i hi;rw [qd,qd,qX hi,qX M] at h2;rw [qX hi,qX M];exact zo _ h2
 ·rw [qO M,qO M]
theorem M1 (a b c d:AB):(a^^^b)^^^(c^^^d)=(a^^^c)^^^(b^^^d):=by
 rw [J2,J2,<-J2 b c d,UInt8.xor_comm b c,J2 c b d]
def fo (f:O->AB):O->AB
 |0=>0
 |k+1=>fo f k^^^f k
theorem Zq: ∀n,(∀t,t<n->f t=g t)->fo f n=fo g n
 |0,_=>rfl
 |n+1,h=>by rw [fo,fo,Zq n (λt ht=>h t M),h n M]
theorem Y0: ∀n,(∀t,t<n->f t=0)->fo f n=0
 |0,_=>rfl
 |n+1,h=>by rw [fo,Y0 n (λt ht=>h t M),h n M,JI]
theorem D7 (f g:O->AB): ∀n,fo (λt=>f t^^^g t) n=fo f n^^^fo g n
 |0=>(JI 0).symm
 |n+1=>by rw [fo,D7 f g n,M1];rfl
theorem D8 (c:AB) (f:O->AB): ∀n,fo (λt=>fm c (f t)) n=fm c (fo f n)
 |0=>(XF c).symm
 |n+1=>by rw [fo,D8 c f n,fo,cD]
theorem Ak (c:AB) (f:O->AB): ∀n,fo (λt=>fm (f t) c) n=fm (fo f n) c
 |0=>(Xi c).symm
 |n+1=>by rw [fo,Ak c f n,fo,ft]
theorem AP (f:O->O->AB) (m:O): ∀n,fo (λi=>fo (λj=>f i j) m) n=fo (λj=>fo (λi=>f i j) n) m
 |0=>(Y0 m (λ_ _=>rfl)).symm
 |n+1=>by
  rw [fo,AP f m n,<-D7];rfl
theorem Kn: ∀n,i<n->(∀t,t<n->t≠i->f t=0)->fo f n=f i
 |0,h,_=>M
 |n+1,h,h0=>by
  rw [fo];by_cases hi:i=n
  ·rw [Y0 n (λt ht=>h0 t M M),Yk,hi]
  ·rw [Kn n M (λt ht a=>h0 t M a),h0 n M (λe=>hi e.symm),VA]
def pf (i j:O):UInt8:=if i=j then 1 else 0
theorem Y1 (i:O):pf i i=1:=qk rfl
theorem Km (h:i≠j):pf i j=0:=qJ h
def pD (K:O) (a b:O->O->AB) (i j:O):UInt8:=fo (λt=>fm (a i t) (b t j)) K
theorem Xb (K C:O) (a b c:O->O->AB) (i j:O):pD C (pD K a b) c i j=pD K a (pD C b c) i j:=by
 unfold pD;have d:(λt=>fm (fo (λs=>fm (a i s) (b s t)) K) (c t j))=λt=>fo (λs=>fm (fm (a i s) (b s t)) (c t j)) K:=by
  funext t;rw [Ak]
 have e:(λs=>fm (a i s) (fo (λt=>fm (b s t) (c t j)) C))=λs=>fo (λt=>fm (a i s) (fm (b s t) (c t j))) C:=by
  funext s;rw [D8]
 rw [d,e,AP];apply Zq;intro s _;apply Zq;intro t _;rw [Jr]
theorem yh {K:O} {a a' b c:O->O->AB} (d: ∀t,t<K->a i t=a' i t) (e: ∀t,t<K->b t j=c t j):pD K a b i j=pD K a' c i j:=
 Zq K (λt ht=>by rw [d t ht,e t ht])
theorem xN (a:O->O->AB) (j:O) (hi:i<n):pD n pf a i j=a i j:=by
 unfold pD;rw [Kn (i:=i) n hi (λt _ b=>by rw [Km (λe=>b e.symm),Xi]),Y1,dx]
theorem cH (a:O->O->AB) (i:O) (b:j<n):pD n a pf i j=a i j:=by
 unfold pD;rw [Kn (i:=j) n b (λt _ c=>by rw [Km c,XF]),Y1,pk]
def AU (n:O) (qj:(O->O->AB)->O->O->AB):Prop:= ∀X i j,i<n->qj X i j=pD n (qj pf) X i j
structure Oz (n:O) (qj T':(O->O->AB)->O->O->AB):Prop where
 op:AU n qj
 op':AU n T'
 left: ∀X i j,i<n->T' (qj X) i j=X i j
 right: ∀X i j,i<n->qj (T' X) i j=X i j
structure RK (n C:O) (uK W B cY:O->O->AB):Prop where
 vb: ∀i j,i<n->j<n->pD n cY B i j=pf i j
 bv: ∀i j,i<n->j<n->pD n B cY i j=pf i j
 bm: ∀i j,i<n->j<C->pD n B uK i j=W i j
theorem RK.start (n C:O) (uK:O->O->AB):RK n C uK uK pf pf:=
 ⟨λi j hi _=>xN _ _ hi,λi j hi _=>xN _ _ hi,λi j hi _=>xN _ _ hi⟩
theorem RK.op {qj a:(O->O->AB)->O->O->AB} (h:RK n C uK W B cY) (u:Oz n qj a):RK n C uK (qj W) (qj B) (pD n cY (a pf)):=by
 refine⟨λi j hi b=> ?_,λi j hi b=> ?_,λi j hi b=> ?_⟩
 ·rw [Xb];have e: ∀t,t<n->pD n (a pf) (qj B) t j=B t j:=λt ht=>by rw [<-u.op' (qj B) t j ht,u.left B t j ht]
  rw [yh (λ_ _=>rfl) e];exact h.vb i j hi b
 ·have e: ∀t,t<n->qj B i t=pD n (qj pf) B i t:=λt _=>u.op B i t hi;rw [yh e (λ_ _=>rfl),Xb];have d: ∀t,t<n->pD n B (pD n cY (a pf)) t j=a pf t j:=λt ht=>by
   rw [<-Xb,yh (λs c=>h.bv t s ht c) (λ_ _=>rfl),xN _ _ ht]
  rw [yh (λ_ _=>rfl) d,<-u.op (a pf) i j hi,u.right pf i j hi]
 ·have e: ∀t,t<n->qj B i t=pD n (qj pf) B i t:=λt _=>u.op B i t hi;rw [yh e (λ_ _=>rfl),Xb,yh (λ_ _=>rfl) (λt ht=>h.bm t j ht b),<-u.op W i j hi]
def x9 (i p:O) (X:O->O->AB) (r j:O):UInt8:=if r=i then X p j else if r=p then X i j else X r j
def QK (i:O) (c:AB) (X:O->O->AB) (r j:O):UInt8:=if r=i then fm c (X r j) else X r j
def VP (i:O) (d:O->AB) (X:O->O->AB) (r j:O):UInt8:=if r=i then X r j else X r j^^^fm (d r) (X i j)
theorem AF (n:O) (a b c:O->O->AB) (i j:O):pD n (λr t=>a r t^^^b r t) c i j=pD n a c i j^^^pD n b c i j:=by
 unfold pD;rw [<-D7];apply Zq;intro t _;rw [ft]
theorem dZ (n:O) {a b:O->O->AB} (c:O->O->AB) (i d j:O) (h: ∀t,t<n->a i t=b d t):pD n a c i j=pD n b c d j:=by
 unfold pD;apply Zq;intro t ht;rw [h t ht]
theorem sO (hi:i<n) (c:p<n):Oz n (x9 i p) (x9 i p):=by
 have op:AU n (x9 i p):=by
  intro X r j a;unfold x9;by_cases h1:r=i
  ·rw [qk h1,dZ n X r p j (b:=pf) (λt _=>qk h1),xN _ _ c]
  ·by_cases h2:r=p
   ·rw [qJ h1,qk h2,dZ n X r i j (b:=pf) (λt _=>by rw [qJ h1,qk h2]),xN _ _ hi]
   ·rw [qJ h1,qJ h2,dZ n X r r j (b:=pf) (λt _=>by rw [qJ h1,qJ h2]),xN _ _ a]
 have two: ∀X r j,r<n->x9 i p (x9 i p X) r j=X r j:=by
  intro X r j _;unfold x9;by_cases h1:r=i
  ·subst h1;by_cases h2:p=r
   ·subst h2;simp
   ·simp [h2]
  ·by_cases h2:r=p
   ·subst h2;simp [h1]
   ·simp [h1,h2]
 exact⟨op,op,two,two⟩
theorem AG (c:AB):AU n (QK i c):=by
 intro X r j a;unfold QK;by_cases h1:r=i
 ·rw [qk h1];unfold pD;rw [Zq n (λt ht=>show fm (if r=i then fm c (pf r t) else pf r t) (X t j)=fm c (fm (pf r t) (X t j)) by rw [qk h1,Jr]),D8];congr 1;exact(xN X j a).symm
 ·rw [qJ h1,dZ n X r r j (b:=pf) (λt _=>qJ h1),xN _ _ a]
theorem Rt (c d:AB) (h:fm c d=1):Oz n (QK i c) (QK i d):=by
 have two: ∀a b:AB,fm a b=1-> ∀X r j,r<n->QK i a (QK i b X) r j=X r j:=by
  intro a b e X r j _;unfold QK;by_cases h1:r=i
  ·rw [qk h1,qk h1,<-Jr,e,dx]
  ·rw [qJ h1,qJ h1]
 exact⟨AG c,AG d,two d c (by rw [Ji,h]),two c d h⟩
theorem RT (hi:i<n) (d:O->AB):Oz n (VP i d) (VP i d):=by
 have op:AU n (VP i d):=by
  intro X r j f;unfold VP;by_cases h1:r=i
  ·rw [qk h1,dZ n X r r j (b:=pf) (λt _=>qk h1),xN _ _ f]
  ·rw [qJ h1];have e:pD n (λa c=>if a=i then pf a c else pf a c^^^fm (d a) (pf i c)) X r j=pD n (λa t=>pf a t^^^fm (d a) (pf i t)) X r j:=
    dZ n X r r j (λt _=>qJ h1)
   rw [e,AF,xN _ _ f];congr 1;unfold pD;rw [Zq n (λt ht=>show _=fm (d r) (fm (pf i t) (X t j)) by rw [Jr]),D8];congr 1;exact(xN X j hi).symm
 have two: ∀X r j,r<n->VP i d (VP i d X) r j=X r j:=by
  intro X r j _;unfold VP;by_cases h1:r=i
  ·rw [qk h1,qk h1]
  ·rw [qJ h1,qJ h1,qk rfl,X9,JI,VA]
 exact⟨op,op,two,two⟩
structure Ech (R:O) (W:O->O->AB) (at_ col:O) (pc:O->O):Prop where
 le:at_<=R
 lt: ∀s,s<at_->pc s<col
 unit: ∀s,s<at_-> ∀k,k<R->W k (pc s)=pf k s
 low: ∀k,at_<=k->k<R-> ∀t,t<col->W k t=0
theorem Ech.start (R:O) (W:O->O->AB):Ech R W 0 0 (λs=>s):=⟨M,λs h=>M,λs h=>M,λk _ _ t h=>M⟩
def Vz (at_ col p:O) (W X:O->O->AB):O->O->UInt8:=
 VP at_ (λk=>QK at_ (fi (x9 at_ p W at_ col)) (x9 at_ p W) k col) (QK at_ (fi (x9 at_ p W at_ col)) (x9 at_ p X))
theorem Ech.step {at_:O} {b:O->O} (h:Ech R W at_ col b) (v:at_<=p) (q:p<R) (w:W p col≠0):
  Ech R (Vz at_ col p W W) (at_+1) (col+1) (λs=>if s=at_ then col else b s):=by
 have o:x9 at_ p W at_ col=W p col:=qk rfl;have n:=Nt _ w;have g:at_<R:=M;have r: ∀k t,k<R->at_<=k->t<col->x9 at_ p W k t=0:=by
  intro k t f d ht;unfold x9;split
  ·exact h.low p v q t ht
  ·split
   ·exact h.low _ (qx _) g t ht
   ·exact h.low k d f t ht
 have i: ∀k t,k<R->at_<=k->t<col->QK at_ (fi (x9 at_ p W at_ col)) (x9 at_ p W) k t=0:=by
  intro k t f d ht;unfold QK;rw [r k t f d ht,XF];split<;>rfl
 have j:QK at_ (fi (x9 at_ p W at_ col)) (x9 at_ p W) at_ col=1:=by
  unfold QK;rw [qk rfl,o,n]
 refine⟨M,λs u=> ?_,λs u k f=> ?_,λk h1 h2 t ht=> ?_⟩
 ·show(if s=at_ then col else b s)<col+1;split
  ·omega
  ·have:=h.lt s M;omega
 ·show Vz at_ col p W W k (if s=at_ then col else b s)=pf k s;unfold Vz;by_cases c:s=at_
  ·rw [qk c];unfold VP;by_cases a:k=at_
   ·rw [qk a,a,j,c,Y1]
   ·rw [qJ a,j,pk,JI,c,Km a]
  ·rw [qJ c];have m:=h.lt s M;unfold VP;have l:=i _ _ g (qx _) m;by_cases a:k=at_
   ·rw [qk a,a,l,Km (λe=>c e.symm)]
   ·rw [qJ a,l,XF,VA];unfold QK;rw [qJ a];unfold x9;rw [qJ a];by_cases d:k=p
    ·rw [qk d,h.unit s M _ g,Km (λe=>c e.symm),Km M]
    ·rw [qJ d,h.unit s M k f]
 ·show Vz at_ col p W W k t=0;unfold Vz VP;rw [qJ M];by_cases x:t=col
  ·rw [x,j,pk,JI]
  ·rw [i _ t g (qx _) M,XF,VA,i k t h2 M M]
theorem RK.step {at_:O} (h:RK R C uK W B cY) (a:at_<R) (d:p<R) (e:W p col≠0):
  ∃c,RK R C uK (Vz at_ col p W W) (Vz at_ col p W B) c:=by
 have b:x9 at_ p W at_ col=W p col:=qk rfl;have h1:=h.op (sO a d);have h2:=h1.op (Rt (n:=R) (i:=at_) (fi (x9 at_ p W at_ col)) (W p col) (by rw [b];exact Nt _ e));have h3:=h2.op (RT a (λk=>QK at_ (fi (x9 at_ p W at_ col)) (x9 at_ p W) k col));exact⟨_,h3⟩
end
section
open Go.RowKit
def gO (k m:V):Bool:=decide (1<=k/\0<=m/\k+m<=255)
theorem OJ (k m:V):(k<1/\gO k m=false)\/(1<=k/\m<0/\gO k m=false)\/(1<=k/\0<=m/\255<k/\gO k m=false)\/(1<=k/\0<=m/\k<=255/\255<m/\gO k m=false)\/(1<=k/\0<=m/\k<=255/\m<=255/\255<k+m/\gO k m=false)\/(1<=k/\0<=m/\k<=255/\m<=255/\k+m<=255/\gO k m=true):=by
 unfold gO;simp only [zW,zd];omega
theorem dv (k m:V) (w:I):xG 100 #[k,m] w λe w'=>e=t' (.bool (gO k m))/\w=w':=by
 rcases OJ k m with⟨h1,h2⟩|⟨h1,h3,h2⟩|⟨h1,h3,h4,h2⟩|⟨h1,h3,h4,h5,h2⟩|⟨h1,h3,h4,h5,h6,h2⟩|⟨h1,h3,h4,h5,h6,h2⟩;rotate_left;rotate_left;rotate_left;rotate_left
 ·rw [h2];clear h2;have a:DW (k+m)=k+m:=by
   obtain⟨s,a⟩: ∃s:O,k+m=(s:V):=⟨(k+m).toNat,M⟩;rw [a,qU];omega
  have b: ¬k+m<=255:=M;go_enter func100,JM;go_wp2;go_ret;exact⟨by first|rfl|(simp;omega),rfl⟩
 ·rw [h2];clear h2;have a:DW (k+m)=k+m:=by
   obtain⟨s,a⟩: ∃s:O,k+m=(s:V):=⟨(k+m).toNat,M⟩;rw [a,qU];omega
  go_enter func100,JM;go_wp2;go_ret;exact⟨by first|rfl|(simp;omega),rfl⟩
 all_goals
  rw [h2];clear h2;go_enter func100,JM;go_wp2;go_ret;exact⟨by first|rfl|(simp;omega),rfl⟩
end
section
variable {D R n p q:O}{uK:O->O->AB}{b:qn}{g:O->AB}{k:AB×AB×AB}{t:O×O}
def P3 (f:O->AB):O->O->O
 |0,i=>i
 |k+1,i=>if f i=0 then P3 f k (i+1) else i
def h9 (f:O->AB) (R at_:O):Nat:=P3 f (R-at_) at_
theorem fI (f:O->AB): ∀k i,i<=P3 f k i/\P3 f k i<=i+k/\(∀t,i<=t->t<P3 f k i->f t=0)/\(P3 f k i<i+k->f (P3 f k i)≠0)
 |0,i=>⟨qx _,qx _,λt h1 h2=>absurd h2 (by simp [P3];omega),λh=>absurd h (by simp [P3])⟩
 |k+1,i=>by
  unfold P3;by_cases h:f i=0
  ·rw [qk h]
   obtain⟨h1,h2,h3,h4⟩:=fI f k (i+1);refine⟨M,M,λt b a=> ?_,λc=>h4 M⟩;by_cases e:t=i
   ·rw [e];exact h
   ·exact h3 t M a
  ·rw [qJ h]
   exact⟨qx _,M,λt h1 h2=>M,λ_=>h⟩
theorem uY (f:O->AB) {at_:O} (h:at_<=R):at_<=h9 f R at_/\h9 f R at_<=R/\(∀t,at_<=t->t<h9 f R at_->f t=0)/\(h9 f R at_<R->f (h9 f R at_)≠0):=by
 obtain⟨h1,h2,h3,h4⟩:=fI f (R-at_) at_;exact⟨h1,by unfold h9;omega,h3,λa=>h4 (by unfold h9 at a;omega)⟩
def Zn (n:O):O->O->(O->O->AB)->(O->O->AB)->Option (O->O->AB)
 |0,_,_,B=>some B
 |k+1,i,W,B=>
  if h9 (λt=>W t i) n i<n then Zn n k (i+1) (Vz i i (h9 (λt=>W t i) n i) W W) (Vz i i (h9 (λt=>W t i) n i) W B) else none
theorem Ech.congr {at_ col:O} {W:O->O->AB} {b pc':O->O} (h:Ech R W at_ col b) (e: ∀s,s<at_->b s=pc' s):Ech R W at_ col pc':=
 ⟨h.le,λs a=>by rw [<-e s a];exact h.lt s a,λs a=>by rw [<-e s a];exact h.unit s a,h.low⟩
theorem fL: ∀k i W B cY R,i+k=n->RK n n uK W B cY->Ech n W i i (λs=>s)->Zn n k i W B=some R->
  (∀i j,i<n->j<n->pD n R uK i j=pf i j)/\(∀i j,i<n->j<n->pD n uK R i j=pf i j)
 |0,i,W,B,cY,R,z,f,m,h=>by
  have A:B=R:=by simpa [Zn] using h
  subst A;have x: ∀k j,k<n->j<n->W k j=pf k j:=λk j v E=>m.unit j M k v;have h1: ∀i j,i<n->j<n->pD n B uK i j=pf i j:=λa b d g=>by rw [f.bm a b d g,x a b d g]
  refine⟨h1,λa b d g=> ?_⟩;have C: ∀s t,s<n->t<n->uK s t=cY s t:=λs t p ht=>by
   have e:pD n cY (pD n B uK) s t=uK s t:=by
    rw [<-Xb,yh (λu l=>f.vb s u p l) (λ_ _=>rfl),xN _ _ p]
   rw [<-e,yh (λ_ _=>rfl) (λu l=>h1 u t l ht),cH _ _ ht]
  rw [yh (λt ht=>C a t d ht) (λ_ _=>rfl)];exact f.vb a b d g
 |k+1,i,W,B,cY,R,z,f,m,h=>by
  unfold Zn at h;by_cases c:h9 (λt=>W t i) n i<n
  ·rw [qk c] at h
   obtain⟨r,F,D,o⟩:=uY (λt=>W t i) (show i<=n by omega)
   obtain⟨w,q⟩:=f.step (at_:=i) M c (o c);have y:=(m.step r c (o c)).congr (λs _=>by
    show(if s=i then i else s)=s
    split
    ·omega
    ·rfl)
   exact fL k _ _ _ w R M q y h
  ·rw [qJ c] at h;cases h
theorem f_: ∀k i W B cY,i+k=n->RK n n uK W B cY->Ech n W i i (λs=>s)->Zn n k i W B=none->
  ∃v:O->AB,(∃t,t<n/\v t≠0)/\ ∀s,s<n->fo (λt=>fm (uK s t) (v t)) n=0
 |0,i,W,B,cY,E,b,g,h=>by simp [Zn] at h
 |k+1,i,W,B,cY,E,b,g,h=>by
  unfold Zn at h;obtain⟨x,H,y,l⟩:=uY (λt=>W t i) (show i<=n by omega)
  by_cases a:h9 (λt=>W t i) n i<n
  ·rw [qk a] at h
   obtain⟨A,p⟩:=b.step (at_:=i) M a (l a);have C:=(g.step x a (l a)).congr (λs _=>by
    show(if s=i then i else s)=s
    split
    ·omega
    ·rfl)
   exact f_ k _ _ _ A M p C h
  ·have q: ∀t,i<=t->t<n->W t i=0:=λt h1 h2=>y t h1 M
   refine⟨λt=>if t<i then W t i else if t=i then 1 else 0,⟨i,M,s8⟩,λs m=> ?_⟩
   have j: ∀r,r<n->pD n W (λt _=>if t<i then W t i else if t=i then 1 else 0) r 0=0:=by
    intro r f;unfold pD;have w: ∀t,t<n->fm (W r t) (if t<i then W t i else if t=i then 1 else 0)=(if t=r/\t<i then W r i else 0)^^^(if t=i then W r i else 0):=by
     intro t ht;by_cases h1:t<i
     ·rw [qk h1,g.unit t h1 r f,qJ (show¬t=i by omega),VA]
      by_cases h2:t=r
      ·rw [h2,Y1,dx,qk ⟨rfl,M⟩]
      ·rw [Km (λe=>h2 e.symm),Xi,qJ (λe=>h2 e.1)]
     ·rw [qJ h1,qJ (show¬(t=r/\t<i) by omega),Yk]
      by_cases h2:t=i
      ·rw [qk h2,qk h2,pk,h2]
      ·rw [qJ h2,qJ h2,XF]
    rw [Zq n w,D7];have F:fo (λt=>if t=i then W r i else 0) n=W r i:=by
     rw [Kn (i:=i) n M (λt _ d=>qJ d),qk rfl]
    rw [F];by_cases D:r<i
    ·rw [Kn (i:=r) n f (λt _ d=>qJ (λe=>d e.1)),qk ⟨rfl,D⟩,JI]
    ·rw [Y0 n (λt _=>qJ M),q r M f,JI]
   have o:pD n uK (λt _=>if t<i then W t i else if t=i then 1 else 0) s 0=0:=by
    have K:pD n cY (pD n W (λt _=>if t<i then W t i else if t=i then 1 else 0)) s 0=pD n uK (λt _=>if t<i then W t i else if t=i then 1 else 0) s 0:=by
     rw [<-Xb];refine yh (λt ht=> ?_) (λ_ _=>rfl);have z:pD n cY W s t=pD n cY (pD n B uK) s t:=yh (λ_ _=>rfl) (λu c=>(b.bm u t c ht).symm);rw [z,<-Xb,yh (λu c=>b.vb s u m c) (λ_ _=>rfl),xN _ _ m]
    rw [<-K];unfold pD at j⊢;exact Y0 n (λt ht=>by rw [j t ht,XF])
   exact o
def JL (n:O) (uK:O->O->AB):Option (O->O->AB):=Zn n n 0 uK pf
theorem Uy {R:O->O->AB} (h:JL n uK=some R):(∀i j,i<n->j<n->pD n R uK i j=pf i j)/\(∀i j,i<n->j<n->pD n uK R i j=pf i j):=
 fL n 0 uK _ _ R M (RK.start n n uK) (Ech.start n uK) h
theorem UQ (h:JL n uK=none): ∃v:O->AB,(∃t,t<n/\v t≠0)/\ ∀s,s<n->fo (λt=>fm (uK s t) (v t)) n=0:=
 f_ n 0 uK _ _ M (RK.start n n uK) (Ech.start n uK) h
theorem Dn {N:O->O->AB} (h: ∀i j,i<n->j<n->pD n N uK i j=pf i j): ∃R,JL n uK=some R:=by
 cases hi:JL n uK with
 |some R=>exact⟨R,rfl⟩
 |none=>
  obtain⟨v,⟨t,ht,b⟩,h0⟩:=UQ hi;exfalso;apply b;have e:pD n (pD n N uK) (λt _=>v t) t 0=v t:=by
   rw [yh (λu a=>h t u ht a) (λ_ _=>rfl)];exact xN _ 0 ht
  rw [<-e,Xb];unfold pD;exact Y0 n (λu a=>by rw [h0 u a,XF])
def rn (b:qn) (p at_ k:O):Bool:=decide (at_+k<U b)&&(b.getD (p+k) 0==b.getD (at_+k) 0)
def uZ (b:qn) (p at_:O):O->O->O
 |0,k=>k
 |f+1,k=>if rn b p at_ k=true then uZ b p at_ f (k+1) else k
def Z3 (b:qn) (p at_:O):Nat:=uZ b p at_ 257 0
theorem wX (b:qn) (p at_:O): ∀f k,uZ b p at_ f k<=k+f
 |0,k=>qx k
 |f+1,k=>by
  unfold uZ;split
  ·have:=wX b p at_ f (k+1);omega
  ·omega
theorem wV (b:qn) (p at_:O): ∀f k j,k<=j->j<uZ b p at_ f k->rn b p at_ j=true
 |0,k,j,h1,h2=>absurd h2 (by unfold uZ;omega)
 |f+1,k,j,h1,h2=>by
  unfold uZ at h2;split at h2
  ·rename_i c
   rcases Nat.eq_or_lt_of_le h1 with rfl|a
   ·exact c
   ·exact wV b p _ f _ j a h2
  ·omega
theorem Hh (b:qn) (p at_:O): ∀f k,uZ b p at_ f k<k+f->rn b p at_ (uZ b p at_ f k)=false
 |0,k,h=>absurd h (by unfold uZ;omega)
 |f+1,k,h=>by
  unfold uZ at h⊢;split
  ·rename_i a
   rw [qk a] at h;exact Hh b p _ f _ M
  ·rename_i a
   simpa using a
theorem wY (b:qn) (p at_:O):Z3 b p at_<=257:=by
 have:=wX b p at_ 257 0;unfold Z3;omega
theorem D3 (b:qn) (p at_ j:O) (h:j<Z3 b p at_):rn b p at_ j=true:=wV b p _ _ 0 j (qp _) h
theorem sG (b:qn) (p at_:O) (h:Z3 b p at_<257):rn b p at_ (Z3 b p at_)=false:=Hh b p _ _ 0 (by unfold Z3 at h;omega)
theorem ND (b:qn) (p at_:O) (h:at_<=U b):at_+Z3 b p at_<=U b:=by
 rcases zA (Z3 b p at_) with h0|h0
 ·omega
 ·have:=D3 b p at_ (Z3 b p at_-1) M;unfold rn at this;simp only [zR,zd] at this;omega
def D0 (b:qn) (i:O):AB×AB×UInt8:=(b.getD i 0,b.getD (i+1) 0,b.getD (i+2) 0)
theorem fu {at_:O} (h:3<=Z3 b p at_):D0 b p=D0 b at_:=by
 have h0:=D3 b p at_ 0 M;have h1:=D3 b p at_ 1 M;have h2:=D3 b p at_ 2 M;unfold rn at h0 h1 h2;simp only [zR,yp,v_] at h0 h1 h2;unfold D0;rw [h0.2,h1.2,h2.2]
theorem Nf {at_:O} (h:D0 b p=D0 b at_) (e:at_+3<=U b):3<=Z3 b p at_:=by
 unfold D0 at h;simp only [Prod.mk.injEq] at h;obtain⟨h0,h1,h2⟩:=h;rcases jE (Z3 b p at_) 3 with f|d
 ·have a:=sG b p at_ M;exfalso;have c:Z3 b p at_=0\/Z3 b p at_=1\/Z3 b p at_=2:=M;unfold rn at a;rcases c with c|c|c<;>rw [c] at a
  ·rw [v_,v_,h0] at a;simp at a;omega
  ·rw [h1] at a;simp at a;omega
  ·rw [h2] at a;simp at a;omega
 ·exact d
def VK (b:qn) (at_:O):O->O×O
 |0=>(0,0)
 |D+1=>if(VK b at_ D).1<Z3 b (at_-(D+1)) at_ then(Z3 b (at_-(D+1)) at_,D+1) else VK b at_ D
def _g (at_:O):Nat:=min 4095 at_
def ee (b:qn) (at_:O):O×Nat:=VK b at_ (_g at_)
theorem fU (b:qn) (at_:O) (h:at_<=U b): ∀D,at_+(VK b at_ D).1<=U b
 |0=>by unfold VK;omega
 |D+1=>by
  have h2:=fU b _ h D;unfold VK;split
  ·exact ND _ _ _ h
  ·exact h2
def Va (s:O×O) (t:O×O):Prop:=(3<=s.1/\t=s)\/(s.1<3/\t=(0,0))
theorem sH (b:qn) (at_:O):Va (VK b at_ 0) (0,0):= .inr ⟨by unfold VK;omega,rfl⟩
theorem PJ {at_:O}: ∀(n D:O),(∀d,D<d->d<=D+n->Z3 b (at_-d) at_<3)->Va (VK b at_ D) t->Va (VK b at_ (D+n)) t
 |0,D,_,a=>a
 |n+1,D,h,a=>by
  have c:=PJ n D (λd h1 h2=>h d h1 M) a;have e:=h (D+n+1) M M;show Va (VK b at_ (D+n+1)) t
  unfold VK;rcases c with⟨h3,rfl⟩|⟨h3,rfl⟩
  ·rw [qJ M];exact .inl ⟨h3,rfl⟩
  ·split
   ·exact .inr ⟨e,rfl⟩
   ·exact .inr ⟨h3,rfl⟩
theorem an {at_:O} (a:Va (VK b at_ D) t) (ht:257<=t.1): ∀n,Va (VK b at_ (D+n)) t
 |0=>a
 |n+1=>by
  have c:=an a ht n;show Va (VK b at_ (D+n+1)) t;unfold VK;have d:=wY b (at_-(D+n+1)) at_;rcases c with⟨h3,rfl⟩|⟨_,rfl⟩
  ·rw [qJ M];exact .inl ⟨h3,rfl⟩
  ·exact absurd ht s8
theorem NF {at_:O} (c:Va (VK b at_ D) t) (a:3<=Z3 b (at_-(D+1)) at_):
  Va (VK b at_ (D+1)) (if t.1<Z3 b (at_-(D+1)) at_ then(Z3 b (at_-(D+1)) at_,D+1) else t):=by
 unfold VK;rcases c with⟨h3,rfl⟩|⟨h3,rfl⟩
 ·split
  ·exact .inl ⟨a,rfl⟩
  ·exact .inl ⟨h3,rfl⟩
 ·rw [qk M,qk (by show 0<_;omega)];exact .inl ⟨a,rfl⟩
def gp (b:qn):O->AB×AB×AB->Option O
 |0,_=>none
 |m+1,k=>if m+3<=U b/\D0 b m=k then some m else gp b m k
theorem YI: ∀{m p:O},gp b m k=some p->p<m/\p+3<=U b/\D0 b p=k/\ ∀q,p<q->q<m->q+3<=U b->D0 b q≠k
 |0,p,h=>by cases h
 |m+1,p,h=>by
  unfold gp at h;split at h
  ·rename_i a
   cases h;exact⟨ze _,a.1,a.2,λq h1 h2=>M⟩
  ·rename_i a
   obtain⟨h1,h2,h3,h4⟩:=YI h;refine⟨M,h2,h3,λq e g d c=> ?_⟩;rcases jE q m with f|i
   ·exact h4 q e f d c
   ·have:q=m:=M
    subst this;exact a ⟨d,c⟩
theorem Hi: ∀{m:O},gp b m k=none-> ∀q,q<m->q+3<=U b->D0 b q≠k
 |0,_,q,h,_=>M
 |m+1,h,q,f,a=>by
  unfold gp at h;split at h
  ·cases h
  ·rename_i d
   intro c;rcases jE q m with e|g
   ·exact Hi h q e a c
   ·have:q=m:=M
    subst this;exact d ⟨a,c⟩
def C5:Option O->V
 |some p=>(p:V)
 |none=> -1
def tx (b:qn) (p:O):Int:=if p+3<=U b then C5 (gp b p (D0 b p)) else-1
def PO (b:qn) (m:O):S Int:=(List.range m).map (tx b)
theorem fD (b:qn) (m:O):PO b (m+1)=PO b m++[tx b m]:=by simp [PO,jA]
theorem PX (b:qn) (m:O):U (PO b m)=m:=by simp [PO]
theorem Ng (b:qn) (m p:O) (h:p<m):(PO b m)[p]? =J (tx b p):=by
 unfold PO;rw [qD,jJ h];rfl
theorem sB {at_:O} (i:at_+3<=U b) (m:q<=at_) (g:Va (VK b at_ (at_-q)) t) (k:gp b q (D0 b at_)=some p):
  p<q/\3<=Z3 b p at_/\Va (VK b at_ (at_-p)) (if t.1<Z3 b p at_ then(Z3 b p at_,at_-p) else t):=by
 obtain⟨h1,h2,h3,h4⟩:=YI k;have a:=Nf h3 i;refine⟨h1,a, ?_⟩;have j:=PJ (q-1-p) _ (λd n l=>by
  rcases jE (Z3 b (at_-d) at_) 3 with h|h
  ·exact h
  ·exact absurd (fu h) (h4 _ M M M)) g
 have e:at_-q+(q-1-p)+1=at_-p:=M;have c:at_-(at_-q+(q-1-p)+1)=p:=M;have f:=NF j (by rw [c];exact a);rw [c,e] at f;exact f
theorem pV {at_:O} (f:at_+3<=U b) (j:q<=at_) (i:at_-q<=_g at_) (c:Va (VK b at_ (at_-q)) t) (e:gp b q (D0 b at_)=none):Va (ee b at_) t:=by
 have a:=PJ (_g at_-(at_-q)) _ (λd l k=>by
  rcases jE (Z3 b (at_-d) at_) 3 with h|h
  ·exact h
  ·have g:_g at_<=at_:=Nat.min_le_right _ _;exact absurd (fu h) (Hi e _ M M)) c
 rw [show at_-q+(_g at_-(at_-q))=_g at_ by omega] at a;exact a
theorem Gh {at_:O} (f:at_+3<=U b) (k:q<=at_) (i:at_-q<=_g at_) (c:Va (VK b at_ (at_-q)) t) (e:gp b q (D0 b at_)=some p) (l:4095<at_-p):Va (ee b at_) t:=by
 obtain⟨h1,h2,h3,h4⟩:=YI e;have g:_g at_=4095:=by unfold _g;omega
 have a:=PJ (_g at_-(at_-q)) _ (λd m j=>by
  rcases jE (Z3 b (at_-d) at_) 3 with h|h
  ·exact h
  ·exact absurd (fu h) (h4 _ M M M)) c
 rw [show at_-q+(_g at_-(at_-q))=_g at_ by omega] at a;exact a
theorem GH {at_:O} (d:at_-q<=_g at_) (c:Va (VK b at_ (at_-q)) t) (ht:257<=t.1):Va (ee b at_) t:=by
 have a:=an c ht (_g at_-(at_-q));rw [show at_-q+(_g at_-(at_-q))=_g at_ by omega] at a;exact a
theorem Ry {at_:O} (a:U b<at_+3) (h:at_<=U b):Va (ee b at_) (0,0):=by
 have:=fU b _ h (_g at_);exact .inr ⟨by unfold ee;omega,rfl⟩
def R3 (b:qn) (at_:O):Nat:=if 3<=(ee b at_).1 then(ee b at_).1 else 1
def sa (b:qn) (at_:O):O×O×Nat:=if 3<=(ee b at_).1 then(0,(ee b at_).1,(ee b at_).2) else((b.getD at_ 0).toNat,0,0)
def cV (b:qn):O->O->S (O×O×O)
 |0,_=>[]
 |f+1,at_=>if at_<U b then sa b at_::cV b f (at_+R3 b at_) else []
def Bs (b:qn):S (O×O×O):=cV b b 0
theorem mD (b:qn) (at_:O):1<=R3 b at_:=by unfold R3;split<;>omega
theorem mo (b:qn) (at_:O) (h:at_<U b):at_+R3 b at_<=U b:=by
 unfold R3;split
 ·exact fU b _ M _
 ·omega
theorem PV (b:qn): ∀f g at_,U b-at_<=f->U b-at_<=g->cV b f at_=cV b g at_
 |0,0,_,_,_=>rfl
 |0,g+1,at_,h,_=>by unfold cV;rw [qJ M]
 |f+1,0,at_,_,h=>by unfold cV;rw [qJ M]
 |f+1,g+1,at_,h1,h2=>by
  unfold cV;split
  ·have:=mD b at_
   rw [PV b f g _ M M]
  ·rfl
def wS (b:qn) (at_:O):S (O×O×O):=cV b b at_
theorem NG (b:qn) (at_:O) (h:U b<=at_):wS b at_=[]:=by
 unfold wS;rw [PV b b 0 at_ M M];rfl
theorem H8 (b:qn) (at_:O) (h:at_<U b):wS b at_=sa b at_::wS b (at_+R3 b at_):=by
 have:=mD b at_;unfold wS;obtain⟨m,a⟩: ∃m,U b=m+1:=⟨U b-1,M⟩;rw [PV b b (m+1) at_ M M];show(if at_<U b then sa b at_::cV b m (at_+R3 b at_) else [])=_;rw [qk h,PV b m b _ M M]
end
section
variable {a b:AB}{g:O->AB}
def JQ (f:O->AB):S O->AB
 |[]=>0
 |x::r=>f x^^^JQ f r
theorem V0 {f:O->AB}: ∀l:S O,(∀x∈l,f x=g x)->JQ f l=JQ g l
 |[],_=>rfl
 |x::r,h=>by rw [JQ,JQ,h x (qo ..),V0 r (λy a=>h y (qM _ a))]
theorem Fq (f g:O->AB): ∀l,JQ (λt=>f t^^^g t) l=JQ f l^^^JQ g l
 |[]=>(JI 0).symm
 |x::r=>by rw [JQ,Fq f g r,M1];rfl
theorem UZ (c:AB) (f:O->AB): ∀l,JQ (λt=>fm c (f t)) l=fm c (JQ f l)
 |[]=>(XF c).symm
 |x::r=>by rw [JQ,UZ c f r,JQ,cD]
theorem dt (f:O->AB): ∀l m,JQ f (l++m)=JQ f l^^^JQ f m
 |[],m=>by rw [xY];exact(Yk _).symm
 |x::r,m=>by rw [Qy,JQ,dt f r m,JQ,X9]
theorem Fz (f:O->AB): ∀n,JQ f (List.range n)=fo f n
 |0=>rfl
 |n+1=>by rw [jA,dt,Fz f n];show _^^^(f n^^^0)=_;rw [VA];rfl
theorem dw (f:O->AB) (p:O->Bool): ∀l,(∀x∈l,p x=false->f x=0)->JQ f (l.filter p)=JQ f l
 |[],_=>rfl
 |x::r,h=>by
  have b:=dw f p r (λy c=>h y (qM _ c));cases a:p x
  ·rw [yw (by simp [a]),b,JQ,h x (qo ..) a,Yk]
  ·rw [yW a,JQ,JQ,b]
theorem wO (h:a≠b):a^^^b≠0:=λe=>h (bq a b e)
theorem IL (h:a≠0):fi a≠0:=λe=>by
 have h1:=Az a h;rw [e,XF] at h1;exact absurd h1 FV
theorem Nn (h:fm a b=0) (c:b≠0):a=0:=(Rf a b h).resolve_right c
theorem iM {p q:AB} (b:p≠0) (a:q≠0):fi p^^^fi q=fm (fm (p^^^q) (fi p)) (fi q):=by
 have h1:fm (fm p (fi p)) (fi q)=fi q:=by rw [Az p b,dx]
 have h2:fm (fm q (fi p)) (fi q)=fi p:=by rw [Ji q,Jr,Az q a,pk]
 rw [ft,ft,h1,h2,Pk]
theorem NN (a b:O->AB): ∀(m c:S O) (v:O->AB),U m=U c->m.Pairwise (λx uK=>a x≠a uK)->c.Pairwise (λy Q=>b y≠b Q)->(∀x∈m,∀y∈c,a x≠b y)->
  (∀x∈m,JQ (λy=>fm (v y) (fi (a x^^^b y))) c=0)-> ∀y∈c,v y=0
 |_,[],_,_,_,_,_,_=>λy i=>by cases i
 |[],d::c,_,u,_,_,_,_=>by simp at u
 |k::m,d::c,v,u,C,i,s,h=>by
  have N:=(vj.1 C).1;have R:=(vj.1 C).2;have g:=(vj.1 i).1;have K:=(vj.1 i).2;have P:=λy i=>wO (s k (qo ..) y i);have p:=λx j y i=>wO (s x (qM _ j) y i);obtain⟨w,B⟩: ∃w:O->AB,∀y,w y=fm (v y) (fi (a k^^^b y)):=⟨_,λ_=>rfl⟩;have F: ∀y∈d::c,v y=fm (w y) (a k^^^b y):=λy i=>by rw [B,Jr,Nt _ (P y i),pk]
  have h0:w d^^^JQ w c=0:=by
   have:=h k (qo ..);rw [<-V0 (f:=w) _ (λy _=>B y)] at this;exact this
  have E:=bq _ _ h0;have L:JQ w (d::c)=0:=h0;have W:=λx j=>by
   have o:=h x (qM _ j);have e: ∀y∈d::c,fm (v y) (fi (a x^^^b y))=w y^^^fm (a k^^^a x) (fm (w y) (fi (a x^^^b y))):=λy i=>by
    have q:=p x j y i;have A:a k^^^b y=(a x^^^b y)^^^(a k^^^a x):=by
     rw [Pk (a k) (a x),<-X9,X9 (a x),Pk (b y),<-X9,JI,Yk,Pk]
    rw [F y i,A,cD,ft,Jr,Az _ q,pk,Ji (w y) (a k^^^a x),Jr]
   rw [V0 _ e,Fq,L,Yk,UZ] at o;rw [Ji] at o;exact Nn o (wO (N x j))
  have H:=λx j=>by
   have z:=W x j;have D:=p x j d (qo ..);rw [JQ,E,Ji (JQ w c),<-UZ,<-Fq] at z;have e: ∀y∈c,fm (fi (a x^^^b d)) (w y)^^^fm (w y) (fi (a x^^^b y))=fm (fi (a x^^^b d)) (fm (fm (w y) (b y^^^b d)) (fi (a x^^^b y))):=λy i=>by
    have q:=p x j y (qM _ i);have A:(a x^^^b y)^^^(a x^^^b d)=b y^^^b d:=by
     rw [Pk (a x) (b y),X9,<-X9 (a x),JI,Yk]
    rw [Ji (fi (a x^^^b d)) (w y),<-cD,Pk,iM q D,A];rw [Ji (fi (a x^^^b d)) (fm (fm (w y) (b y^^^b d)) (fi (a x^^^b y))),Jr (w y),Jr (w y)]
   rw [V0 _ e,UZ,Ji] at z;exact Nn z (IL D)
  have t:=NN a b m c _ (by simpa using u) R K (λx j y n=>s x (qM _ j) y (qM _ n)) H
  have ln:=λy n=>Nn (t y n) (wO (λe=>g y n e.symm));have X:w d=0:=by
   rw [E,V0 c ln];have: ∀l:S O,JQ (λ_=>0) l=0:=λl=>by
    induction l with
    |nil=>rfl
    |cons x r t=>rw [JQ,t,JI]
   exact this c
  intro y n;rw [F y n];rcases qL.1 n with e|e
  ·rw [e,X,Xi]
  ·rw [ln y e,Xi]
def vE (n x j:O):UInt8:=if x<n then pf x j else fi (UInt8.ofNat (x^^^j))
theorem O2 (x y:O) (a:x<256) (b:y<256):UInt8.ofNat (x^^^y)=UInt8.ofNat x^^^UInt8.ofNat y:=by
 apply Xf;have c:x^^^y<256:=vz (n:=8) a b;rw [J1,zS,zS,zS,jk c,jk a,jk b]
theorem Fj {x y:O} (b:x<256) (a:y<256) (h:x≠y):UInt8.ofNat x≠UInt8.ofNat y:=λe=>h (by
 have:=zo UInt8.toNat e;rwa [zS,zS,jk b,jk a] at this)
theorem dW (p:O->Bool) (l:S O):U (l.filter p)+U (l.filter λx=> !p x)=U l:=by
 induction l with
 |nil=>rfl
 |cons x r b=>
  cases a:p x
  ·rw [yw (by simp [a]),yW (by simp [a]),qf,qf];omega
  ·rw [yW a,yw (by simp [a]),qf,qf];omega
theorem Fx (n m:O) (P:S O) (C:n+m<=256) (D:U P=n) (l:P.Nodup) (c: ∀x∈P,x<n+m): ∃X,JL n (λi j=>vE n (P.getD i 0) j)=some X:=by
 cases hi:JL n (λi j=>vE n (P.getD i 0) j) with
 |some X=>exact⟨X,rfl⟩
 |none=>
  exfalso;obtain⟨v,⟨g,k,b⟩,h0⟩:=UQ hi;apply b;have o: ∀x∈P,fo (λt=>fm (vE n x t) (v t)) n=0:=λx a=>by
   obtain⟨s,z,rfl⟩:=Q8 a;have:=h0 s M;rw [qd,qX z] at this;exact this
  have p:=λt ht d=>by
   have h1:=o t d;have e:fo (λu=>fm (vE n t u) (v u)) n=fm (vE n t t) (v t):=Kn n ht (λu B b=>by
    unfold vE;rw [qk ht,Km (Zi b),Xi])
   rw [e] at h1;unfold vE at h1;rw [qk ht,Y1,dx] at h1;exact h1
  by_cases d:g∈P
  ·exact p g k d
  ·have r:U (P.filter λx=> !decide (x<n))=U ((List.range n).filter λt=> !decide (t∈P)):=by
    have h1:=dW (λx=>decide (x<n)) P;have h2:=dW (λt=>decide (t∈P)) (List.range n);rw [yS] at h2;have w:(P.filter λx=>decide (x<n)).Perm ((List.range n).filter λt=>decide (t∈P)):=by
     rw [List.perm_ext_iff_of_nodup (l.filter _) (List.nodup_range.filter _)];intro x;simp only [vJ,js,zd];exact And.comm
    have h3:=w.length_eq;omega
   refine NN UInt8.ofNat UInt8.ofNat (P.filter λx=> !decide (x<n)) ((List.range n).filter λt=> !decide (t∈P)) v r ?_ ?_ ?_ ?_ g (vJ.2 ⟨js.2 k,by simpa using d⟩)
   ·exact(l.filter _).imp_of_mem λa f b=>Fj (by have:=c _ (vJ.1 a).1;omega) (by have:=c _ (vJ.1 f).1;omega) b
   ·exact(List.nodup_range.filter _).imp_of_mem λa f b=>Fj (by have:=js.1 (vJ.1 a).1;omega) (by have:=js.1 (vJ.1 f).1;omega) b
   ·intro x a y h;have h1:=vJ.1 a;have h2:=js.1 (vJ.1 h).1;have h3:=c x h1.1;have h4: ¬x<n:=by simpa using h1.2
    exact Fj M M M
   ·intro x a;have h1:=vJ.1 a;have h3:=c x h1.1;have h4: ¬x<n:=by simpa using h1.2
    rw [dw _ _ _ (λy h A=>by
     have q:y∈P:=by simpa using A
     rw [p y (js.1 h) q,Xi]),Fz,<-o x h1.1]
    apply Zq;intro t ht;unfold vE;rw [qJ h4,O2 x t M M,Ji]
def Ms:Nat:=3988292384
def uO (x:O):Nat:=if x%2=1 then x/2^^^Ms else x/2
def F3:O->O->O
 |0,x=>x
 |n+1,x=>F3 n (uO x)
def Fb (x:O) (bs:qn):Nat:=bs.foldl (λx c=>F3 8 (x^^^c.toNat)) x
def Ht:Nat:=4294967295
def sT (s:O) (bs:qn):Nat:=Fb (s^^^Ht) bs^^^Ht
def W7 (bs:qn):Nat:=sT 0 bs
theorem o4 (a b:O):(a^^^b)/2=a/2^^^b/2:=by
 have h:=Nat.shiftRight_xor_distrib (a:=a) (b:=b) (i:=1);simpa [JF] using h
theorem oE (a b:O):(a^^^b)%2=(a%2)^^^(b%2):=Nat.xor_mod_two_pow (n:=1)
theorem oi (a b c d:O):(a^^^c)^^^(b^^^d)=(a^^^b)^^^(c^^^d):=by
 rw [je,je,<-je c b d,y_ c b,je b c d]
theorem Nh (a b:O):uO (a^^^b)=uO a^^^uO b:=by
 unfold uO;rw [oE,o4];rcases vL a with h|h<;>rcases vL b with c|c<;>simp only [h,c]<;>simp only [Nat.reduceXor,if_true,if_false,Nat.zero_ne_one]
 ·rw [je]
 ·rw [je,je,y_ _ Ms]
 ·rw [oi,Nat.xor_self,Nat.xor_zero]
theorem aN (n:O): ∀a b:O,F3 n (a^^^b)=F3 n a^^^F3 n b:=by
 induction n with
 |zero=>intros;rfl
 |succ n c=>intro a b;simp only [F3];rw [Nh,c]
theorem fG (m n:O): ∀x,F3 (m+n) x=F3 n (F3 m x):=by
 induction m with
 |zero=>intro x;rw [jL];rfl
 |succ m a=>intro x;rw [Nat.succ_add];exact a _
theorem oS (x:O) (h:x<4294967296):uO x<4294967296:=by
 unfold uO;split
 ·exact vz (n:=32) M FV
 ·omega
theorem D4 (n:O): ∀x,x<4294967296->F3 n x<4294967296:=by
 induction n with
 |zero=>intro x h;exact h
 |succ n a=>intro x h;exact a _ (oS x h)
theorem aM (x:O):uO (2*x)=x:=by
 unfold uO;rw [qJ M];omega
theorem NH (n:O): ∀x,F3 n (2^n*x)=x:=by
 induction n with
 |zero=>intro x;simp [F3]
 |succ n a=>
  intro x;simp only [F3];rw [show 2^(n+1)*x=2*(2^n*x) by rw [vB];ac_rfl,aM,a]
def nib (x:O):Nat:=x/16^^^F3 4 (x%16)
theorem oN (x:O):x=2^4*(x/16)^^^x%16:=by
 apply Z9;intro i;have e:x%16=x%2^4:=rfl;rw [Zc,Nat.testBit_two_pow_mul,e,Nat.testBit_mod_two_pow];have a:x/16=x>>>4:=by rw [JF]
 rw [a,Nat.testBit_shiftRight];by_cases h:i<4
 ·simp [h,Nat.not_le.2 h]
 ·simp [h,Nat.not_lt.1 h,show 4+(i-4)=i by omega]
theorem RZ (x:O):nib x=F3 4 x:=by
 have h:F3 4 x=F3 4 (2^4*(x/16))^^^F3 4 (x%16):=by
  rw [<-aN,<-oN]
 rw [h,NH];rfl
theorem om (x:O):nib (nib x)=F3 8 x:=by rw [RZ,RZ,<-fG]
theorem oM (x:O):Fb x []=x:=rfl
theorem fh (x:O) (c:AB) (bs:qn):Fb x (c::bs)=Fb (F3 8 (x^^^c.toNat)) bs:=rfl
theorem uJ (x:O) (a b:qn):Fb x (a++b)=Fb (Fb x a) b:=by unfold Fb;rw [List.foldl_append]
theorem ao (x:O) (a:qn) (c:AB):Fb x (a++[c])=F3 8 (Fb x a^^^c.toNat):=by rw [uJ];rfl
theorem fH (bs:qn): ∀x,x<4294967296->Fb x bs<4294967296:=by
 induction bs with
 |nil=>intro x h;exact h
 |cons c bs a=>
  intro x h;rw [fh];refine a _ (D4 _ _ (vz (n:=32) h ?_));have:=c.toNat_lt;omega
theorem dz (a b:O) (c:a<4294967296) (d:b<4294967296):a^^^b<4294967296:=vz (n:=32) c d
theorem fB:Ht<4294967296:=FV
theorem oO (s:O) (bs:qn) (h:s<4294967296):sT s bs<4294967296:=dz _ _ (fH _ _ (dz _ _ h fB)) fB
theorem RX (bs:qn):W7 bs<4294967296:=oO 0 _ M
theorem oI (x:O) (h:x<4294967296):x^^^Ht=Ht-x:=by
 apply Z9;intro i;have e:Ht-x=2^32-(x+1):=by unfold Ht;omega
 have a:Ht=2^32-1:=rfl;rw [e,Nat.testBit_two_pow_sub_succ M,Zc,a,Nat.testBit_two_pow_sub_one];by_cases hi:i<32
 ·simp [hi]
 ·have:x.testBit i=false:=Zd (qB h (zZ (n:=2) (i:=32) M M));simp [hi,this]
def C6 (s:O):qn:=[UInt8.ofNat s,UInt8.ofNat (s/256),UInt8.ofNat (s/65536),UInt8.ofNat (s/16777216)]
def dc (bs:qn):qn:=bs++C6 (W7 bs)
def VO (bs:qn):Bool:=decide (bs.drop (U bs-4)=C6 (W7 (bs.take (U bs-4))))
def QH (bs:qn):Int:=if U bs<4 then 1 else if VO bs then 0 else 5
def vR (bs:qn):qn:=if U bs<4 then [] else if VO bs then bs.take (U bs-4) else []
theorem aI (s:O):U (C6 s)=4:=rfl
theorem sC (s k:O) (h:k<4):(C6 s).take (k+1)=(C6 s).take k++[UInt8.ofNat (s/256^k)]:=by
 rw [qs];congr 1
 match k,h with
 |0,_=>simp [C6]
 |1,_=>simp [C6]
 |2,_=>simp [C6]
 |3,_=>simp [C6]
theorem ve (bs:qn):U (dc bs)=U bs+4:=by simp [dc,aI]
theorem sA (bs:qn):VO bs=decide (dc (bs.take (U bs-4))=bs):=by
 unfold VO dc;apply decide_eq_decide.2;have e:bs=bs.take (U bs-4)++bs.drop (U bs-4):=(QG _ _).symm;constructor
 ·intro h2;rw [<-h2];exact e.symm
 ·intro h2;have h3:=h2.trans e;exact(List.append_cancel_left h3).symm
def YB (b len a:V):Bool:=if len=0 then decide (a=0) else decide (b=0/\3<=len/\len<=257/\1<=a/\a<=4095)
def PI (d:O):O->qn->qn
 |0,a=>a
 |n+1,a=>PI d n (a++[a.getD (U a-d) 0])
def Vk (b:V):S (O×V×V)->qn->V×qn
 |[],a=>(0,a)
 |t::r,a=>
  if YB (t.1:V) t.2.1 t.2.2=false then(7,[])
  else if(U a:V)<t.2.2 then(8,[])
  else if b-(U a:V)<max 1 t.2.1 then(6,[])
  else if t.2.1=0 then Vk b r (a++[UInt8.ofNat t.1])
  else Vk b r (PI t.2.2.toNat t.2.1.toNat a)
theorem pY (b:V) (t:O×V×V) (r:S (O×V×V)) (a:qn):Vk b (t::r) a=
  (if YB (t.1:V) t.2.1 t.2.2=false then(7,[])
  else if(U a:V)<t.2.2 then(8,[])
  else if b-(U a:V)<max 1 t.2.1 then(6,[])
  else if t.2.1=0 then Vk b r (a++[UInt8.ofNat t.1])
  else Vk b r (PI t.2.2.toNat t.2.1.toNat a)):=rfl
def Yc (a:V) (l:S (O×V×V)):V×qn:=if a<0 then(13,[]) else Vk a l []
theorem mc {b len a:V} (h:YB b len a=true):(len=0/\a=0)\/(b=0/\3<=len/\len<=257/\1<=a/\a<=4095):=by
 unfold YB at h;split at h
 ·rename_i h0;exact .inl ⟨h0,by simpa using h⟩
 ·exact .inr (by simpa using h)
theorem OU (y:O):bits .or .u8 ((y:V)%256) 128=((UInt8.ofNat (y%128+128)).toNat:V):=by
 have h:((y:V)%256)=((y%256:O):V):=rfl;rw [h,show(128:V)=((128:O):V) from rfl,u8_or_nat _ _ (xC _ M) M,zS,jk (show y%128+128<2^8 by omega)];congr 1;have b:y%128<2^7:=M;have a:=nat_join 7 128 (y%128) rfl b;have c:128|||128=128:=rfl;have h2:y%256=y%128\/y%256=128+y%128:=M;rcases h2 with h2|h2
 ·rw [h2,Nat.or_comm,a];omega
 ·rw [h2,<-a,Nat.or_comm 128 (y%128),Nat.or_assoc,c,Nat.or_comm,a];omega
end
section
open Go
variable {g:O->AB}
theorem QU {a b:Bool} (c:a=true) (d:b=true):(a&&b)=true:=by rw [c,d];rfl
theorem NU {P:Program} {f:FuncId} {a:Func} {s:ChangeSpec} {c:OpenClaim}
  (b:(c.wf (OpenSpec.ofChange s))=true)
  (i:(laidOutB P)=true)
  (d:(mapsRowed P)=true)
  (k3:(a.params.all (P.readableRec ·))=true)
  (l:(namedTie P c.named s.vars)=true)
  (w:((c.stops==[]))=true)
  (z:((P.stops==[]))=true)
  (j:((c.knobs==[]))=true)
  (p:((P.stopKnobs==[]))=true)
  (k9:((c.inPlace==P.inPlace f))=true)
  (k10:((c.unfollowed==P.unfollowed f))=true)
  (k11:((c.recurses==P.recurses f))=true)
  (k12:((c.named==P.varsNamed f))=true)
  (A:((c.maps==(a.params.toList++s.plain.varTypes P).any (P.mapsRec ·)))=true)
  (C:((c.ifaces==(a.params.toList++s.plain.varTypes P).any (P.ifacesRec ·)))=true)
  (E:((c.mapsOut==P.mapsAmong a.resultTypes.toList))=true)
  (u:((c.loops==(a.params.toList++s.plain.varTypes P).any (P.loopsFrom ·)))=true)
  (B:((c.wideKeys==(a.params.toList++s.plain.varTypes P++a.resultTypes.toList).any (P.wideKeysFrom ·)))=true)
  (x:(s.vars.all (P.varReadable ·))=true)
  (v:(a.resultTypes.all (λt=>P.readableRec t&&decide (t<P.types.size)))=true)
  (m:((c.ifacesOut==a.resultTypes.toList.any (P.ifacesRec ·)))=true)
  (q:((c.loopsOut==a.resultTypes.toList.any (P.loopsFrom ·)))=true)
  (k22:((c.plainKeys==P.plainKeys))=true)
  (h:(c.shortTexts.isNone)=true)
  (n:(P.stopsHeard)=true)
  (o:(P.mayEnter)=true)
  (k26:((c.lifted==P.liftsFinal))=true)
  (D:((P.make==some c.make))=true)
  (g:((c.kinds==(if c.domain.isEmpty then [] else a.params.toList.map λt=>match P.underlying t with|some (.int k)=>some k|_=>none)))=true)
  (r:((c.pinned==c.pinnedBy))=true)
  (y:((c.veiled==(a.params.toList++s.plain.varTypes P++a.resultTypes.toList).any (P.veiledRec ·)))=true)
  (e:(c.veiledFits P a.params.toList (a.params.toList++s.plain.varTypes P++a.resultTypes.toList))=true):
  joinedFacts P f a s c=true:=by
 unfold joinedFacts;exact QU (QU (QU (QU (QU (QU (QU (QU (QU (QU (QU (QU (QU (QU (QU (QU (QU (QU (QU (QU (QU (QU (QU (QU (QU (QU (QU (QU (QU (QU (QU b i) d) k3) l) w) z) j) p) k9) k10) k11) k12) A) C) E) u) B) x) v) m) q) k22) h) n) o) k26) D) g) r) y) e
theorem Lv:laidOutB Tryz.pinned.checked.prog=true:=AL
theorem Ly:mapsRowed Tryz.pinned.checked.prog=true:=AL
theorem Im:Tryz.pinned.checked.prog.stopsHeard=true:=AL
theorem IM:Tryz.pinned.checked.prog.mayEnter=true:=AL
end
end Go.Proofs.YtfnlfpcfkbdcmaaGreatDoor
