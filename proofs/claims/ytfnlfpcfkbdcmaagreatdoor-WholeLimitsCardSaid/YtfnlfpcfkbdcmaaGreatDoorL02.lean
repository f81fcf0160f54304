import Derived.Test.YtfnlfpcfkbdcmaaGreatDoorLA
import Derived.ProofKit
import Derived.OpenShut
import Derived.ChangeOld
import Derived.ChangeArms
import Derived.Lib.SmallJoins
set_option linter.unusedSimpArgs false
set_option linter.unusedVariables false
set_option maxRecDepth 100000
set_option maxHeartbeats 0
open Go.Proofs.Tryz
namespace Go.Proofs.YtfnlfpcfkbdcmaaGreatDoor
section
variable {B M V W:Nat->Nat->UInt8}{C R col i j n p:Nat}{a b:UInt8}{f:Nat->UInt8}
theorem se (k x:Nat) (h:x<2^(k+1)): ∃y,y<2^k/\(x=y\/x=y^^^2^k):=by
 by_cases c:x<2^k
 ·exact⟨x,c, .inl rfl⟩
 ·refine⟨x^^^2^k, ?_, .inr (by rw [je,Nat.xor_self,Nat.xor_zero])⟩;have a:x.testBit k=true:=by
   rw [Nat.testBit_eq_decide_div_mod_eq];have:x/2^k=1:=by
    rw [Nat.div_eq_of_lt_le]<;>omega
   simp [this]
  refine Nat.lt_pow_two_of_testBit _ λj d=> ?_;rw [Zc];by_cases b:j=k
  ·subst b;rw [a,Nat.testBit_two_pow_self];rfl
  ·rw [Zd (qB h (zZ uK uK)),Nat.testBit_two_pow_of_ne uK];rfl
theorem fA (f:Nat->Nat) (a:f (0^^^0)=f 0^^^f 0):f 0=0:=by
 rw [Nat.xor_self] at a;rw [a];exact Nat.xor_self _
theorem Ke (n:Nat) (f g:Nat->Nat) (b: ∀x y,x<2^n->y<2^n->f (x^^^y)=f x^^^f y) (e: ∀x y,x<2^n->y<2^n->g (x^^^y)=g x^^^g y)
  (h: ∀i,i<n->f (2^i)=g (2^i)): ∀x,x<2^n->f x=g x:=by
 have key: ∀k,k<=n-> ∀x,x<2^k->f x=g x:=by
  intro k;induction k with
  |zero=>
   intro _ x a;obtain rfl:x=0:=by simpa using a
   have h0:=Nat.two_pow_pos n;rw [fA f (b 0 0 h0 h0),fA g (e 0 0 h0 h0)]
  |succ k c=>
   intro l x a;have d:2^k<2^n:=Nat.pow_lt_pow_right uK uK;obtain⟨y,j,rfl|rfl⟩:=se k x a
   ·exact c uK x j
   ·rw [b y _ uK d,e y _ uK d,c uK y j,h k uK]
 exact key n (qx n)
def tw (a:Nat):Nat:=if a.testBit 7 then(a<<<1)%256^^^29 else(a<<<1)%256
def Xd:Nat->Nat->Nat->Nat->Nat
 |0,_,_,c=>c
 |k+1,a,b,c=>Xd k (tw a) (b/2) (if b%2=1 then c^^^a else c)
def gm (a b:Nat):Nat:=Xd 8 a b 0
theorem RV (a b:Nat):(a^^^b)%256=a%256^^^b%256:=Nat.xor_mod_two_pow (n:=8)
theorem wK (a:Nat):tw a<256:=by
 unfold tw;split
 ·exact vz (n:=8) uK uK
 ·omega
theorem bq (a b c d:Nat):(a^^^c)^^^(b^^^d)=(a^^^b)^^^(c^^^d):=by
 rw [je,je,<-je c b d,y_ c b,je b c d]
theorem NB (a b:Nat):tw (a^^^b)=tw a^^^tw b:=by
 unfold tw;rw [Nat.shiftLeft_xor_distrib,RV,Zc];generalize (a<<<1)%256=p;generalize (b<<<1)%256=q;cases a.testBit 7<;>cases b.testBit 7<;>simp [je,y_ 29]
theorem bb (a b:Nat):(a^^^b)/2=a/2^^^b/2:=by
 have h:=Nat.shiftRight_xor_distrib (a:=a) (b:=b) (i:=1);simpa [JF] using h
theorem bF (a b:Nat):(a^^^b)%2=(a%2)^^^(b%2):=Nat.xor_mod_two_pow (n:=1)
theorem fe (k:Nat): ∀a a' b o c:Nat,Xd k (a^^^a') b (o^^^c)=Xd k a b o^^^Xd k a' b c:=by
 induction k with
 |zero=>intros;rfl
 |succ k d=>
  intro a a' b o c;simp only [Xd];rw [NB];split
  ·rw [<-d,bq]
  ·rw [<-d]
theorem Dw (k:Nat): ∀a b d o c:Nat,Xd k a (b^^^d) (o^^^c)=Xd k a b o^^^Xd k a d c:=by
 induction k with
 |zero=>intros;rfl
 |succ k f=>
  intro a b d o c;simp only [Xd];rw [bb,bF];rcases vL b with h|h<;>rcases vL d with e|e<;>simp only [h,e]<;>simp only [Nat.reduceXor,if_true,if_false,Nat.zero_ne_one]<;>rw [<-f]
  ·congr 1;rw [je]
  ·congr 1;rw [je,je,y_ a c]
  ·congr 1;rw [bq,Nat.xor_self,Nat.xor_zero]
theorem Qj (a a' b:Nat):gm (a^^^a') b=gm a b^^^gm a' b:=fe 8 a _ b 0 0
theorem yD (a b c:Nat):gm a (b^^^c)=gm a b^^^gm a c:=Dw 8 a b c 0 0
theorem Nc (k:Nat): ∀a b o:Nat,a<256->o<256->Xd k a b o<256:=by
 induction k with
 |zero=>intro a b o _ h;exact h
 |succ k e=>
  intro a b o d c;simp only [Xd];refine e _ _ _ (wK a) ?_;split
  ·exact vz (n:=8) c d
  ·exact c
theorem RY (k:Nat): ∀a o:Nat,Xd k a 0 o=o:=by
 induction k with
 |zero=>intros;rfl
 |succ k b=>intro a o;simp only [Xd];exact b _ _
theorem uI (a b:Nat) (c:a<256):gm a b<256:=Nc 8 a b 0 c uK
def XD:Nat->(Nat->Bool)->Bool
 |0,_=>true
 |n+1,p=>p n&&XD n p
theorem Z4 (p:Nat->Bool): ∀n,XD n p=true-> ∀i,i<n->p i=true:=by
 intro n;induction n with
 |zero=>intro _ i hi;omega
 |succ n a=>
  intro h i hi;simp only [XD,zR] at h;by_cases b:i=n
  ·rw [b];exact h.1
  ·exact a h.2 i uK
theorem Rk:XD 8 (λi=>XD 8 λj=>Nat.beq (gm (2^i) (2^j)) (gm (2^j) (2^i)))=true:=by decide+kernel
theorem aL:XD 8 (λi=>XD 8 λj=>XD 8 λk=>Nat.beq (gm (gm (2^i) (2^j)) (2^k)) (gm (2^i) (gm (2^j) (2^k))))=true:=by decide+kernel
theorem sE:XD 8 (λi=>Nat.beq (gm (2^i) 1) (2^i))=true:=by decide+kernel
theorem uL (a b:Nat) (c:a<256) (d:b<256):gm a b=gm b a:=by
 refine Ke 8 (λa=>gm a b) (λa=>gm b a) (λx y _ _=>Qj x y b) (λx y _ _=>yD b x y) (λi hi=> ?_) a c;refine Ke 8 (λb=>gm (2^i) b) (λb=>gm b (2^i)) (λx y _ _=>yD _ x y) (λx y _ _=>Qj x y _) (λj e=> ?_) b d;exact Qg (Z4 _ 8 (Z4 _ 8 Rk i hi) j e)
theorem pK (a b c:Nat) (d:a<256) (f:b<256) (e:c<256):gm (gm a b) c=gm a (gm b c):=by
 refine Ke 8 (λa=>gm (gm a b) c) (λa=>gm a (gm b c)) (λx y _ _=> ?_) (λx y _ _=>Qj x y _) (λi hi=> ?_) a d
 ·show gm (gm (x^^^y) b) c=_;rw [Qj,Qj]
 refine Ke 8 (λb=>gm (gm (2^i) b) c) (λb=>gm (2^i) (gm b c)) (λx y _ _=> ?_) (λx y _ _=> ?_) (λj h=> ?_) b f
 ·show gm (gm _ (x^^^y)) c=_;rw [yD,Qj]
 ·show gm _ (gm (x^^^y) c)=_;rw [Qj,yD]
 refine Ke 8 (λc=>gm (gm (2^i) (2^j)) c) (λc=>gm (2^i) (gm (2^j) c)) (λx y _ _=>yD _ x y) (λx y _ _=> ?_) (λk g=> ?_) c e
 ·show gm _ (gm _ (x^^^y))=_;rw [yD,yD]
 exact Qg (Z4 _ 8 (Z4 _ 8 (Z4 _ 8 aL i hi) j h) k g)
theorem fE (a:Nat) (b:a<256):gm a 1=a:=by
 refine Ke 8 (λa=>gm a 1) (λa=>a) (λx y _ _=>Qj x y 1) (λx y _ _=>rfl) (λi hi=> ?_) a b;exact Qg (Z4 _ 8 sE i hi)
theorem dj (a:Nat) (b:a<256):gm 1 a=a:=by rw [uL 1 a uK b,fE a b]
theorem D5 (a:Nat):gm a 0=0:=fA _ (yD a 0 0)
def F5 (a:Nat):Nat:=gm a a
def G6 (a:Nat):Nat:=
 let e:=F5 a;let b:=F5 e;let d:=F5 b;let g:=F5 d;let f:=F5 g;let c:=F5 f;let h:=F5 c
 gm (gm (gm (gm (gm (gm e b) d) g) f) c) h
theorem oL:XD 255 (λa=>Nat.beq (gm (a+1) (G6 (a+1))) 1)=true:=by decide+kernel
theorem Rp (a:Nat) (h0:a≠0) (b:a<256):gm a (G6 a)=1:=by
 have h:=Z4 _ _ oL (a-1) uK;have e:a-1+1=a:=uK;rw [e] at h;exact Qg h
theorem Ii (a:Nat) (h:a<256):F5 a<256:=uI a a h
theorem RP (a:Nat) (b:a<256):G6 a<256:=by
 unfold G6;have h2:=Ii a b;repeat (first|exact h2|(refine uI _ _ ?_))
theorem sR:XD 8 (λi=>Nat.beq (tw (2^i)) (gm (2^i) 2))=true:=by decide+kernel
theorem iz (a:Nat) (b:a<256):tw a=gm a 2:=by
 refine Ke 8 tw (λa=>gm a 2) (λx y _ _=>NB x y) (λx y _ _=>Qj x y 2) (λi hi=> ?_) a b;exact Qg (Z4 _ 8 sR i hi)
theorem NC (j:Nat) (h:j<128):tw j=2*j:=by
 unfold tw;rw [Zd (i:=7) uK,Nat.shiftLeft_eq];simp;omega
theorem wu (c j:Nat) (a:c<256) (h:j<128):gm c (2*j)=tw (gm c j):=by
 rw [<-NC j h,iz _ uK,iz _ (uI c j a),pK c j 2 a uK uK]
theorem iw (c j:Nat) (a:c<256) (h:j<128):gm c (2*j+1)=tw (gm c j)^^^c:=by
 have e:2*j+1=(2*j)^^^1:=by
  apply Z9;intro i;rw [Zc];cases i with
  |zero=>simp [Nat.testBit_zero]
  |succ i=>simp [Nat.testBit_succ];congr 1;omega
 rw [e,yD,wu c j a h,fE c a]
theorem iW (c i:Nat) (a:c<256) (hi:i<256):gm c i=if i%2=1 then tw (gm c (i/2))^^^c else tw (gm c (i/2)):=by
 split
 ·have e:i=2*(i/2)+1:=uK;rw [e];rw [iw c (i/2) a uK];congr 3;omega
 ·have e:i=2*(i/2):=uK;rw [e];rw [wu c (i/2) a uK];congr 2;omega
def yi (a:Nat):Nat->Nat
 |0=>1
 |n+1=>gm (yi a n) a
theorem YK (a n:Nat):yi a n<256:=by
 cases n with
 |zero=>simp [yi]
 |succ n=>
  induction n with
  |zero=>exact uI 1 a uK
  |succ n b=>exact uI _ _ b
theorem u_ (a n m:Nat) (c:a<256):yi a (n+m)=gm (yi a n) (yi a m):=by
 induction m with
 |zero=>rw [v_];exact(fE _ (YK a n)).symm
 |succ m b=>
  show gm (yi a (n+m)) a=gm (yi a n) (gm (yi a m) a);rw [b,pK _ _ _ (YK a n) (YK a m) c]
theorem a6 (a n m:Nat) (c:a<256):yi a (n*m)=yi (yi a n) m:=by
 induction m with
 |zero=>rfl
 |succ m b=>rw [Nat.mul_succ,u_ a _ _ c,b];rfl
theorem NA (n:Nat):yi 1 n=1:=by
 induction n with
 |zero=>rfl
 |succ n a=>show gm (yi 1 n) 1=1;rw [a];exact dj 1 uK
theorem H_ (n:Nat) (h:n≠0):yi 0 n=0:=by
 cases n with
 |zero=>exact absurd rfl h
 |succ n=>exact D5 _
theorem a7 (a:Nat) (b:a<256):yi a 2=gm a a:=by
 show gm (gm 1 a) a=_;rw [dj a b]
theorem dE (a n:Nat) (b:a<256):yi a (2*n)=yi (gm a a) n:=by rw [a6 a 2 n b,a7 a b]
theorem qqD (a n:Nat) (b:a<256):F5 (yi a n)=yi a (n+n):=(u_ a n n b).symm
theorem dR (a:Nat) (b:a<256):G6 a=yi a 254:=by
 have c:F5 a=yi a 2:=(a7 a b).symm;unfold G6;simp only [c,qqD a _ b,<-u_ a _ _ b]
theorem Nr (a:Nat) (h0:a≠0) (b:a<256):yi a 255=1:=by
 show gm (yi a 254) a=1;rw [<-dR a b,uL _ a (RP a b) b,Rp a h0 b]
theorem NR (a n:Nat) (h0:a≠0) (b:a<256):yi a (n%255)=yi a n:=by
 have e:n=255*(n/255)+n%255:=uK;rw [e,u_ a _ _ b,a6 a 255 _ b,Nr a h0 b,NA,dj _ (YK _ _)];congr 1;omega
theorem Gb (o a n:Nat) (d:o<256) (b:a<256) (h:n%2=1):gm (gm o a) (yi (gm a a) (n/2))=gm o (yi a n):=by
 have e:n=2*(n/2)+1:=uK;have c:yi a n=gm (yi a (2*(n/2))) a:=by
  rw [e];rw [yi];congr 2;omega
 rw [c,<-dE a _ b,pK o a _ d b (YK _ _),uL a _ b (YK _ _)]
theorem fR (o a n:Nat) (b:a<256) (h: ¬n%2=1):gm o (yi (gm a a) (n/2))=gm o (yi a n):=by
 rw [<-dE a _ b,show 2*(n/2)=n by omega]
@[irreducible] def DW (a:Nat):Nat:=yi a 254
theorem D6 (a:Nat):DW a=yi a 254:=by unfold DW;rfl
theorem wU (a:Nat):DW a<256:=by rw [D6];exact YK _ _
theorem sW:DW 0=0:=by rw [D6];exact H_ _ uK
def e13 (a:Nat):Int:=if a=0 then 13 else 0
theorem o8 (a:Nat) (h0:a≠0) (b:a<256):gm a (DW a)=1:=by rw [D6,<-dR a b,Rp a h0 b]
def fm (a b:UInt8):UInt8:=UInt8.ofNat (gm a.toNat b.toNat)
theorem Z5 (a b:UInt8):(fm a b).toNat=gm a.toNat b.toNat:=by
 unfold fm;rw [zS];exact jk (uI _ _ a.toNat_lt)
theorem Xf {a b:UInt8} (h:a.toNat=b.toNat):a=b:=jG.1 h
theorem Ji (a b:UInt8):fm a b=fm b a:=Xf (by rw [Z5,Z5];exact uL _ _ a.toNat_lt b.toNat_lt)
theorem Jr (a b c:UInt8):fm (fm a b) c=fm a (fm b c):=Xf (by simp only [Z5];exact pK _ _ _ a.toNat_lt b.toNat_lt c.toNat_lt)
theorem cD (a b c:UInt8):fm a (b^^^c)=fm a b^^^fm a c:=Xf (by simp only [Z5,J1];exact yD _ _ _)
theorem ft (a b c:UInt8):fm (a^^^b) c=fm a c^^^fm b c:=Xf (by simp only [Z5,J1];exact Qj _ _ _)
theorem pk (a:UInt8):fm a 1=a:=Xf (by rw [Z5];exact fE _ a.toNat_lt)
theorem dx (a:UInt8):fm 1 a=a:=by rw [Ji,pk]
theorem XF (a:UInt8):fm a 0=0:=Xf (by rw [Z5];exact D5 _)
theorem Xi (a:UInt8):fm 0 a=0:=by rw [Ji,XF]
def fi (a:UInt8):UInt8:=UInt8.ofNat (DW a.toNat)
theorem fT (a:UInt8):(fi a).toNat=DW a.toNat:=by
 unfold fi;rw [zS];exact jk (wU _)
theorem Az (a:UInt8) (h:a≠0):fm a (fi a)=1:=Xf (by
 rw [Z5,fT];exact o8 _ (λh0=>h (Xf h0)) a.toNat_lt)
theorem Nt (a:UInt8) (h:a≠0):fm (fi a) a=1:=by rw [Ji,Az a h]
theorem JI (a:UInt8):a^^^a=0:=UInt8.xor_self
theorem VA (a:UInt8):a^^^0=a:=UInt8.xor_zero
theorem Yk (a:UInt8):0^^^a=a:=UInt8.zero_xor
theorem X9 (a b c:UInt8):a^^^b^^^c=a^^^(b^^^c):=J2 a b c
def NT (a b:qn):Int:=if a.length=b.length then 0 else 13
def Ds (a:qn) (c:UInt8) (b:qn):qn:=(List.range a).map λi=>a.getD i 0^^^fm c (b.getD i 0)
def sS (a:qn) (c:UInt8) (b:qn):qn:=if a.length=b.length then Ds a c b else []
theorem Yp (a:qn) (c:UInt8) (b:qn):(Ds a c b).length=a.length:=by simp [Ds]
theorem GB (a:qn) (c:UInt8) (b:qn) (i:Nat) (h:i<a.length):(Ds a c b)[i]? =some (a.getD i 0^^^fm c (b.getD i 0)):=by
 simp [Ds,h]
theorem bC (a b c d:UInt8):(a^^^b)^^^(c^^^d)=(a^^^c)^^^(b^^^d):=by
 rw [J2,J2,<-J2 b c d,UInt8.xor_comm b c,J2 c b d]
def V0 (f:Nat->UInt8):Nat->UInt8
 |0=>0
 |k+1=>V0 f k^^^f k
theorem Zq {g:Nat->UInt8}: ∀n,(∀t,t<n->f t=g t)->V0 f n=V0 g n
 |0,_=>rfl
 |n+1,h=>by rw [V0,V0,Zq n (λt ht=>h t uK),h n uK]
theorem Y0: ∀n,(∀t,t<n->f t=0)->V0 f n=0
 |0,_=>rfl
 |n+1,h=>by rw [V0,Y0 n (λt ht=>h t uK),h n uK,JI]
theorem D7 (f g:Nat->UInt8): ∀n,V0 (λt=>f t^^^g t) n=V0 f n^^^V0 g n
 |0=>(JI 0).symm
 |n+1=>by rw [V0,D7 f g n,bC];rfl
theorem D8 (c:UInt8) (f:Nat->UInt8): ∀n,V0 (λt=>fm c (f t)) n=fm c (V0 f n)
 |0=>(XF c).symm
 |n+1=>by rw [V0,D8 c f n,V0,cD]
theorem Ak (c:UInt8) (f:Nat->UInt8): ∀n,V0 (λt=>fm (f t) c) n=fm (V0 f n) c
 |0=>(Xi c).symm
 |n+1=>by rw [V0,Ak c f n,V0,ft]
theorem AP (f:Nat->Nat->UInt8) (m:Nat): ∀n,V0 (λi=>V0 (λj=>f i j) m) n=V0 (λj=>V0 (λi=>f i j) n) m
 |0=>(Y0 m (λ_ _=>rfl)).symm
 |n+1=>by
  rw [V0,AP f m n,<-D7];rfl
theorem Kn: ∀n,i<n->(∀t,t<n->t≠i->f t=0)->V0 f n=f i
 |0,h,_=>uK
 |n+1,h,h0=>by
  rw [V0];by_cases hi:i=n
  ·rw [Y0 n (λt ht=>h0 t uK uK),Yk,hi]
  ·rw [Kn n uK (λt ht a=>h0 t uK a),h0 n uK (λe=>hi e.symm),VA]
def Yr (i j:Nat):UInt8:=if i=j then 1 else 0
theorem Y1 (i:Nat):Yr i i=1:=qk rfl
theorem Km (h:i≠j):Yr i j=0:=qJ h
def K6 (K:Nat) (a b:Nat->Nat->UInt8) (i j:Nat):UInt8:=V0 (λt=>fm (a i t) (b t j)) K
theorem Xb (K C:Nat) (a b c:Nat->Nat->UInt8) (i j:Nat):K6 C (K6 K a b) c i j=K6 K a (K6 C b c) i j:=by
 unfold K6;have d:(λt=>fm (V0 (λs=>fm (a i s) (b s t)) K) (c t j))=λt=>V0 (λs=>fm (fm (a i s) (b s t)) (c t j)) K:=by
  funext t;rw [Ak]
 have e:(λs=>fm (a i s) (V0 (λt=>fm (b s t) (c t j)) C))=λs=>V0 (λt=>fm (a i s) (fm (b s t) (c t j))) C:=by
  funext s;rw [D8]
 rw [d,e,AP];apply Zq;intro s _;apply Zq;intro t _;rw [Jr]
theorem yh {K:Nat} {a a' b c:Nat->Nat->UInt8} (d: ∀t,t<K->a i t=a' i t) (e: ∀t,t<K->b t j=c t j):K6 K a b i j=K6 K a' c i j:=
 Zq K (λt ht=>by rw [d t ht,e t ht])
theorem xN (a:Nat->Nat->UInt8) (j:Nat) (hi:i<n):K6 n Yr a i j=a i j:=by
 unfold K6;rw [Kn (i:=i) n hi (λt _ b=>by rw [Km (λe=>b e.symm),Xi]),Y1,dx]
def AU (n:Nat) (T:(Nat->Nat->UInt8)->Nat->Nat->UInt8):Prop:= ∀X i j,i<n->T X i j=K6 n (T Yr) X i j
structure Oz (n:Nat) (T T':(Nat->Nat->UInt8)->Nat->Nat->UInt8):Prop where
 op:AU n T
 op':AU n T'
 left: ∀X i j,i<n->T' (T X) i j=X i j
 right: ∀X i j,i<n->T (T' X) i j=X i j
structure hQ (n C:Nat) (M W B V:Nat->Nat->UInt8):Prop where
 vb: ∀i j,i<n->j<n->K6 n V B i j=Yr i j
 bv: ∀i j,i<n->j<n->K6 n B V i j=Yr i j
 bm: ∀i j,i<n->j<C->K6 n B M i j=W i j
theorem hQ.op {T a:(Nat->Nat->UInt8)->Nat->Nat->UInt8} (h:hQ n C M W B V) (u:Oz n T a):hQ n C M (T W) (T B) (K6 n V (a Yr)):=by
 refine⟨λi j hi b=> ?_,λi j hi b=> ?_,λi j hi b=> ?_⟩
 ·rw [Xb];have e: ∀t,t<n->K6 n (a Yr) (T B) t j=B t j:=λt ht=>by rw [<-u.op' (T B) t j ht,u.left B t j ht]
  rw [yh (λ_ _=>rfl) e];exact h.vb i j hi b
 ·have e: ∀t,t<n->T B i t=K6 n (T Yr) B i t:=λt _=>u.op B i t hi;rw [yh e (λ_ _=>rfl),Xb];have d: ∀t,t<n->K6 n B (K6 n V (a Yr)) t j=a Yr t j:=λt ht=>by
   rw [<-Xb,yh (λs c=>h.bv t s ht c) (λ_ _=>rfl),xN _ _ ht]
  rw [yh (λ_ _=>rfl) d,<-u.op (a Yr) i j hi,u.right Yr i j hi]
 ·have e: ∀t,t<n->T B i t=K6 n (T Yr) B i t:=λt _=>u.op B i t hi;rw [yh e (λ_ _=>rfl),Xb,yh (λ_ _=>rfl) (λt ht=>h.bm t j ht b),<-u.op W i j hi]
def x9 (i p:Nat) (X:Nat->Nat->UInt8) (r j:Nat):UInt8:=if r=i then X p j else if r=p then X i j else X r j
def QK (i:Nat) (c:UInt8) (X:Nat->Nat->UInt8) (r j:Nat):UInt8:=if r=i then fm c (X r j) else X r j
def VP (i:Nat) (d:Nat->UInt8) (X:Nat->Nat->UInt8) (r j:Nat):UInt8:=if r=i then X r j else X r j^^^fm (d r) (X i j)
theorem AF (n:Nat) (a b c:Nat->Nat->UInt8) (i j:Nat):K6 n (λr t=>a r t^^^b r t) c i j=K6 n a c i j^^^K6 n b c i j:=by
 unfold K6;rw [<-D7];apply Zq;intro t _;rw [ft]
theorem dZ (n:Nat) {a b:Nat->Nat->UInt8} (c:Nat->Nat->UInt8) (i d j:Nat) (h: ∀t,t<n->a i t=b d t):K6 n a c i j=K6 n b c d j:=by
 unfold K6;apply Zq;intro t ht;rw [h t ht]
theorem sO (hi:i<n) (c:p<n):Oz n (x9 i p) (x9 i p):=by
 have op:AU n (x9 i p):=by
  intro X r j a;unfold x9;by_cases h1:r=i
  ·rw [qk h1,dZ n X r p j (b:=Yr) (λt _=>qk h1),xN _ _ c]
  ·by_cases h2:r=p
   ·rw [qJ h1,qk h2,dZ n X r i j (b:=Yr) (λt _=>by rw [qJ h1,qk h2]),xN _ _ hi]
   ·rw [qJ h1,qJ h2,dZ n X r r j (b:=Yr) (λt _=>by rw [qJ h1,qJ h2]),xN _ _ a]
 have two: ∀X r j,r<n->x9 i p (x9 i p X) r j=X r j:=by
  intro X r j _;unfold x9;by_cases h1:r=i
  ·subst h1;by_cases h2:p=r
   ·subst h2;simp
   ·simp [h2]
  ·by_cases h2:r=p
   ·subst h2;simp [h1]
   ·simp [h1,h2]
 exact⟨op,op,two,two⟩
theorem AG (c:UInt8):AU n (QK i c):=by
 intro X r j a;unfold QK;by_cases h1:r=i
 ·rw [qk h1];unfold K6;rw [Zq n (λt ht=>show fm (if r=i then fm c (Yr r t) else Yr r t) (X t j)=fm c (fm (Yr r t) (X t j)) by rw [qk h1,Jr]),D8];congr 1;exact(xN X j a).symm
 ·rw [qJ h1,dZ n X r r j (b:=Yr) (λt _=>qJ h1),xN _ _ a]
theorem Rt (c d:UInt8) (h:fm c d=1):Oz n (QK i c) (QK i d):=by
 have two: ∀a b:UInt8,fm a b=1-> ∀X r j,r<n->QK i a (QK i b X) r j=X r j:=by
  intro a b e X r j _;unfold QK;by_cases h1:r=i
  ·rw [qk h1,qk h1,<-Jr,e,dx]
  ·rw [qJ h1,qJ h1]
 exact⟨AG c,AG d,two d c (by rw [Ji,h]),two c d h⟩
theorem RT (hi:i<n) (d:Nat->UInt8):Oz n (VP i d) (VP i d):=by
 have op:AU n (VP i d):=by
  intro X r j f;unfold VP;by_cases h1:r=i
  ·rw [qk h1,dZ n X r r j (b:=Yr) (λt _=>qk h1),xN _ _ f]
  ·rw [qJ h1];have e:K6 n (λa c=>if a=i then Yr a c else Yr a c^^^fm (d a) (Yr i c)) X r j=K6 n (λa t=>Yr a t^^^fm (d a) (Yr i t)) X r j:=
    dZ n X r r j (λt _=>qJ h1)
   rw [e,AF,xN _ _ f];congr 1;unfold K6;rw [Zq n (λt ht=>show _=fm (d r) (fm (Yr i t) (X t j)) by rw [Jr]),D8];congr 1;exact(xN X j hi).symm
 have two: ∀X r j,r<n->VP i d (VP i d X) r j=X r j:=by
  intro X r j _;unfold VP;by_cases h1:r=i
  ·rw [qk h1,qk h1]
  ·rw [qJ h1,qJ h1,qk rfl,X9,JI,VA]
 exact⟨op,op,two,two⟩
structure Ech (R:Nat) (W:Nat->Nat->UInt8) (at_ col:Nat) (pc:Nat->Nat):Prop where
 le:at_<=R
 lt: ∀s,s<at_->pc s<col
 unit: ∀s,s<at_-> ∀k,k<R->W k (pc s)=Yr k s
 low: ∀k,at_<=k->k<R-> ∀t,t<col->W k t=0
theorem Ech.skip {at_:Nat} {a:Nat->Nat} (h:Ech R W at_ col a) (h0: ∀k,at_<=k->k<R->W k col=0):Ech R W at_ (col+1) a:=
 ⟨h.le,λs b=>by have:=h.lt s b;omega,h.unit,λk h1 h2 t ht=>by
  by_cases e:t=col
  ·rw [e];exact h0 k h1 h2
  ·exact h.low k h1 h2 t uK⟩
def Vz (at_ col p:Nat) (W X:Nat->Nat->UInt8):Nat->Nat->UInt8:=
 VP at_ (λk=>QK at_ (fi (x9 at_ p W at_ col)) (x9 at_ p W) k col) (QK at_ (fi (x9 at_ p W at_ col)) (x9 at_ p X))
theorem Ech.step {at_:Nat} {b:Nat->Nat} (h:Ech R W at_ col b) (v:at_<=p) (q:p<R) (w:W p col≠0):
  Ech R (Vz at_ col p W W) (at_+1) (col+1) (λs=>if s=at_ then col else b s):=by
 have o:x9 at_ p W at_ col=W p col:=qk rfl;have n:=Nt _ w;have g:at_<R:=uK;have r: ∀k t,k<R->at_<=k->t<col->x9 at_ p W k t=0:=by
  intro k t f d ht;unfold x9;split
  ·exact h.low p v q t ht
  ·split
   ·exact h.low _ (qx _) g t ht
   ·exact h.low k d f t ht
 have i: ∀k t,k<R->at_<=k->t<col->QK at_ (fi (x9 at_ p W at_ col)) (x9 at_ p W) k t=0:=by
  intro k t f d ht;unfold QK;rw [r k t f d ht,XF];split<;>rfl
 have j:QK at_ (fi (x9 at_ p W at_ col)) (x9 at_ p W) at_ col=1:=by
  unfold QK;rw [qk rfl,o,n]
 refine⟨uK,λs u=> ?_,λs u k f=> ?_,λk h1 h2 t ht=> ?_⟩
 ·show(if s=at_ then col else b s)<col+1;split
  ·omega
  ·have:=h.lt s uK;omega
 ·show Vz at_ col p W W k (if s=at_ then col else b s)=Yr k s;unfold Vz;by_cases c:s=at_
  ·rw [qk c];unfold VP;by_cases a:k=at_
   ·rw [qk a,a,j,c,Y1]
   ·rw [qJ a,j,pk,JI,c,Km a]
  ·rw [qJ c];have m:=h.lt s uK;unfold VP;have l:=i _ _ g (qx _) m;by_cases a:k=at_
   ·rw [qk a,a,l,Km (λe=>c e.symm)]
   ·rw [qJ a,l,XF,VA];unfold QK;rw [qJ a];unfold x9;rw [qJ a];by_cases d:k=p
    ·rw [qk d,h.unit s uK _ g,Km (λe=>c e.symm),Km uK]
    ·rw [qJ d,h.unit s uK k f]
 ·show Vz at_ col p W W k t=0;unfold Vz VP;rw [qJ uK];by_cases x:t=col
  ·rw [x,j,pk,JI]
  ·rw [i _ t g (qx _) uK,XF,VA,i k t h2 uK uK]
theorem hQ.step {at_:Nat} (h:hQ R C M W B V) (a:at_<R) (d:p<R) (e:W p col≠0):
  ∃c,hQ R C M (Vz at_ col p W W) (Vz at_ col p W B) c:=by
 have b:x9 at_ p W at_ col=W p col:=qk rfl;have h1:=h.op (sO a d);have h2:=h1.op (Rt (n:=R) (i:=at_) (fi (x9 at_ p W at_ col)) (W p col) (by rw [b];exact Nt _ e));have h3:=h2.op (RT a (λk=>QK at_ (fi (x9 at_ p W at_ col)) (x9 at_ p W) k col));exact⟨_,h3⟩
def P3 (f:Nat->UInt8):Nat->Nat->Nat
 |0,i=>i
 |k+1,i=>if f i=0 then P3 f k (i+1) else i
def Hw (f:Nat->UInt8) (R at_:Nat):Nat:=P3 f (R-at_) at_
def Zn (n:Nat):Nat->Nat->(Nat->Nat->UInt8)->(Nat->Nat->UInt8)->Option (Nat->Nat->UInt8)
 |0,_,_,B=>some B
 |k+1,i,W,B=>
  if Hw (λt=>W t i) n i<n then Zn n k (i+1) (Vz i i (Hw (λt=>W t i) n i) W W) (Vz i i (Hw (λt=>W t i) n i) W B) else none
def JL (n:Nat) (M:Nat->Nat->UInt8):Option (Nat->Nat->UInt8):=Zn n n 0 M Yr
def H7:Nat:=3988292384
def uO (x:Nat):Nat:=if x%2=1 then x/2^^^H7 else x/2
def kq:Nat->Nat->Nat
 |0,x=>x
 |n+1,x=>kq n (uO x)
def ku (x:Nat) (bs:qn):Nat:=bs.foldl (λx c=>kq 8 (x^^^c.toNat)) x
def G1:Nat:=4294967295
def Hb (s:Nat) (bs:qn):Nat:=ku (s^^^G1) bs^^^G1
def h9 (bs:qn):Nat:=Hb 0 bs
theorem bU (a b:Nat):(a^^^b)/2=a/2^^^b/2:=by
 have h:=Nat.shiftRight_xor_distrib (a:=a) (b:=b) (i:=1);simpa [JF] using h
theorem bV (a b:Nat):(a^^^b)%2=(a%2)^^^(b%2):=Nat.xor_mod_two_pow (n:=1)
theorem bK (a b c d:Nat):(a^^^c)^^^(b^^^d)=(a^^^b)^^^(c^^^d):=by
 rw [je,je,<-je c b d,y_ c b,je b c d]
theorem Nh (a b:Nat):uO (a^^^b)=uO a^^^uO b:=by
 unfold uO;rw [bV,bU];rcases vL a with h|h<;>rcases vL b with c|c<;>simp only [h,c]<;>simp only [Nat.reduceXor,if_true,if_false,Nat.zero_ne_one]
 ·rw [je]
 ·rw [je,je,y_ _ H7]
 ·rw [bK,Nat.xor_self,Nat.xor_zero]
theorem aN (n:Nat): ∀a b:Nat,kq n (a^^^b)=kq n a^^^kq n b:=by
 induction n with
 |zero=>intros;rfl
 |succ n c=>intro a b;simp only [kq];rw [Nh,c]
theorem fG (m n:Nat): ∀x,kq (m+n) x=kq n (kq m x):=by
 induction m with
 |zero=>intro x;rw [jL];rfl
 |succ m a=>intro x;rw [Nat.succ_add];exact a _
theorem oS (x:Nat) (h:x<4294967296):uO x<4294967296:=by
 unfold uO;split
 ·exact vz (n:=32) uK FV
 ·omega
theorem D4 (n:Nat): ∀x,x<4294967296->kq n x<4294967296:=by
 induction n with
 |zero=>intro x h;exact h
 |succ n a=>intro x h;exact a _ (oS x h)
theorem aM (x:Nat):uO (2*x)=x:=by
 unfold uO;rw [qJ uK];omega
theorem NH (n:Nat): ∀x,kq n (2^n*x)=x:=by
 induction n with
 |zero=>intro x;simp [kq]
 |succ n a=>
  intro x;simp only [kq];rw [show 2^(n+1)*x=2*(2^n*x) by rw [vB];ac_rfl,aM,a]
def nib (x:Nat):Nat:=x/16^^^kq 4 (x%16)
theorem oN (x:Nat):x=2^4*(x/16)^^^x%16:=by
 apply Z9;intro i;have e:x%16=x%2^4:=rfl;rw [Zc,Nat.testBit_two_pow_mul,e,Nat.testBit_mod_two_pow];have a:x/16=x>>>4:=by rw [JF]
 rw [a,Nat.testBit_shiftRight];by_cases h:i<4
 ·simp [h,Nat.not_le.2 h]
 ·simp [h,Nat.not_lt.1 h,show 4+(i-4)=i by omega]
theorem RZ (x:Nat):nib x=kq 4 x:=by
 have h:kq 4 x=kq 4 (2^4*(x/16))^^^kq 4 (x%16):=by
  rw [<-aN,<-oN]
 rw [h,NH];rfl
theorem om (x:Nat):nib (nib x)=kq 8 x:=by rw [RZ,RZ,<-fG]
theorem fh (x:Nat) (c:UInt8) (bs:qn):ku x (c::bs)=ku (kq 8 (x^^^c.toNat)) bs:=rfl
theorem uJ (x:Nat) (a b:qn):ku x (a++b)=ku (ku x a) b:=by unfold ku;rw [List.foldl_append]
theorem ao (x:Nat) (a:qn) (c:UInt8):ku x (a++[c])=kq 8 (ku x a^^^c.toNat):=by rw [uJ];rfl
theorem fH (bs:qn): ∀x,x<4294967296->ku x bs<4294967296:=by
 induction bs with
 |nil=>intro x h;exact h
 |cons c bs a=>
  intro x h;rw [fh];refine a _ (D4 _ _ (vz (n:=32) h ?_));have:=c.toNat_lt;omega
theorem dz (a b:Nat) (c:a<4294967296) (d:b<4294967296):a^^^b<4294967296:=vz (n:=32) c d
theorem fB:G1<4294967296:=FV
theorem oO (s:Nat) (bs:qn) (h:s<4294967296):Hb s bs<4294967296:=dz _ _ (fH _ _ (dz _ _ h fB)) fB
theorem RX (bs:qn):h9 bs<4294967296:=oO 0 _ uK
def GR (s:Nat):qn:=[UInt8.ofNat s,UInt8.ofNat (s/256),UInt8.ofNat (s/65536),UInt8.ofNat (s/16777216)]
def VY (bs:qn):qn:=bs++GR (h9 bs)
def VO (bs:qn):Bool:=decide (bs.drop (bs.length-4)=GR (h9 (bs.take (bs.length-4))))
def QH (bs:qn):Int:=if bs.length<4 then 1 else if VO bs then 0 else 5
def vR (bs:qn):qn:=if bs.length<4 then [] else if VO bs then bs.take (bs.length-4) else []
theorem aI (s:Nat):(GR s).length=4:=rfl
theorem ve (bs:qn):(VY bs).length=bs.length+4:=by simp [VY,aI]
def vE (n x j:Nat):UInt8:=if x<n then Yr x j else fi (UInt8.ofNat (x^^^j))
theorem OU (y:Nat):bits .or .u8 ((y:Int)%256) 128=((UInt8.ofNat (y%128+128)).toNat:Int):=by
 have h:((y:Int)%256)=((y%256:Nat):Int):=rfl;rw [h,show(128:Int)=((128:Nat):Int) from rfl,u8_or_nat _ _ (xC _ uK) uK,zS,jk (show y%128+128<2^8 by omega)];congr 1;have b:y%128<2^7:=uK;have a:=nat_join 7 128 (y%128) rfl b;have c:128|||128=128:=rfl;have h2:y%256=y%128\/y%256=128+y%128:=uK;rcases h2 with h2|h2
 ·rw [h2,Nat.or_comm,a];omega
 ·rw [h2,<-a,Nat.or_comm 128 (y%128),Nat.or_assoc,c,Nat.or_comm,a];omega
end
section
open Go.Joins Go.ChangeShapes Go.WideShapes Go.RowKit Go.Deep
variable {b0:Nat} {t:TypeId} {v:Value}
variable {H:Type} {enc:TypeId × Value->H} {P:Program} {w:World} {base:Nat} {spare:Nat->Bool} {held:Bool}
theorem qqY {r:Reach} {g i u m e k:Field} {d:DataW H} {p:List MemPlace} (E:P.underlying t=some (.struct #[g,i,u,m,e,k])) (b:oneCellFields P #[g,i,u,m,e,k]=true) (X:P.cellsOf t=6) (N:Value.okWide P w r b0 t v) (h:DataW.Trod enc P w base spare held t v d p):
  ∃(B y A z C D:Value) (f j s c o q:DataW H×List MemPlace) (n:Nat),v= .agg #[B,y,A,z,C,D]/\d= .agg [f.1,j.1,s.1,c.1,o.1,q.1]/\p=f.2++(j.2++(s.2++(c.2++(o.2++q.2))))/\
   DataW.trod enc P w base spare held n g.type [B]=some f/\DataW.trod enc P w base spare held n i.type [y]=some j/\DataW.trod enc P w base spare held n u.type [A]=some s/\DataW.trod enc P w base spare held n m.type [z]=some c/\DataW.trod enc P w base spare held n e.type [C]=some o/\DataW.trod enc P w base spare held n k.type [D]=some q:=by
 obtain⟨V,rfl,I⟩:=okWide_struct E N;obtain⟨l⟩:=V
 match l,I.trans X with
 |[c0,c1,c2,K,J,S],_=>
  obtain⟨fuel,Y⟩:=h;obtain⟨R,n,_,x,_,T,a⟩:=DataW.trod_struct E Y;obtain⟨U,F⟩:=hone_of b 0 g rfl;obtain⟨o1,M⟩:=hone_of b 1 i rfl;obtain⟨o2,L⟩:=hone_of b 2 u rfl;obtain⟨o3,k3⟩:=hone_of b 3 m rfl;obtain⟨G,O⟩:=hone_of b 4 e rfl;obtain⟨Q,W⟩:=hone_of b 5 k rfl
  match R,T with
  |[f,j,s,c,o,q],_=>
   simp only [Prod.mk.injEq] at x;exact⟨c0,c1,c2,K,J,S,f,j,s,c,o,q,n,rfl,by simpa using x.1,by simpa using x.2,by simpa [Value.cells,U,F] using a 0 g rfl,by simpa [Value.cells,o1,M] using a 1 i rfl,by simpa [Value.cells,o2,L] using a 2 u rfl,by simpa [Value.cells,o3,k3] using a 3 m rfl,by simpa [Value.cells,G,O] using a 4 e rfl,by simpa [Value.cells,Q,W] using a 5 k rfl⟩
theorem qqK {r:Reach} {c e j g b f:Field} {d:DataW H} {p:List MemPlace} (O:P.underlying t=some (.struct #[c,e,j,g,b,f])) (I:oneCellFields P #[c,e,j,g,b,f]=true) (N:P.cellsOf t=6) (K:P.underlying c.type=some (.int .i64)) (B:P.underlying e.type=some .bool) (E:P.underlying j.type=some (.int .i64)) (y:P.underlying g.type=some (.int .i64)) (F:P.underlying b.type=some (.int .i64)) (z:P.underlying f.type=some (.int .i64)) (C:Value.okWide P w r b0 t v) (h:DataW.Trod enc P w base spare held t v d p):
  ∃(a:Int) (q:Bool) (L i R D:Int),v= .agg #[a,q,L,i,R,D]/\(-9223372036854775808<=i/\i<=9223372036854775807):=by
 obtain⟨Y,S,W,V,v4,v5,U,X,y2,T,Z,y5,n,rfl,-,-,h0,h1,h2,h3,h4,h5⟩:=qqY O I N C h;obtain⟨A,o,-,-⟩:=DataW.trod_int K h0;obtain⟨M,u,-⟩:=DataW.trod_bool B h1;obtain⟨Q,s,-,-⟩:=DataW.trod_int E h2;obtain⟨n3,l,-,x⟩:=DataW.trod_int y h3;obtain⟨G,m,-,-⟩:=DataW.trod_int F h4;obtain⟨J,k,-,-⟩:=DataW.trod_int z h5;simp only [List.cons.injEq,and_true] at o u s l m k;subst o u s l m k;have hb:=bounds_i64 x;exact⟨A,M,Q,n3,G,J,rfl,uK⟩
end
end Go.Proofs.YtfnlfpcfkbdcmaaGreatDoor
