import Derived.Test.YtfnlfpcfkbdcmaaGreatDoorT12
import Derived.Test.YtfnlfpcfkbdcmaaGreatDoorT13
set_option linter.unusedSimpArgs false
set_option linter.unusedVariables false
set_option maxRecDepth 100000
set_option maxHeartbeats 0
open Go.Proofs.Tryz
namespace Go.Proofs.YtfnlfpcfkbdcmaaGreatDoor
open Go.RowKit
variable {a n x:O}{s:Bw}
theorem Ug (os:S O) (x:O): ∀l,U (XU os x l)=U l+1
 |[]=>rfl
 |y::t=>by
  unfold XU;split
  ·rw [qf,Ug os x t,qf]
  ·rfl
theorem UG (os:S O) (x z:O): ∀l,z∈XU os x l->z=x\/z∈l
 |[],h=>by simp [XU] at h;exact .inl h
 |y::t,h=>by
  unfold XU at h;split at h
  ·rcases qL.1 h with h|h
   ·exact .inr (h▸qo ..)
   ·rcases UG _ x z t h with h|h
    ·exact .inl h
    ·exact .inr (qM _ h)
  ·rcases qL.1 h with h|h
   ·exact .inl h
   ·exact .inr h
theorem bO (os:S O): ∀l a,U (YO os a l)=U a+U l
 |[],a=>rfl
 |x::t,a=>by show(YO os (XU os x a) t).length=_;rw [bO os t,Ug,qf];omega
theorem bI (os:S O) (z:O): ∀l a,z∈YO os a l->z∈a\/z∈l
 |[],a,h=> .inl h
 |x::t,a,h=>by
  rcases bI _ z t _ h with h|h
  ·rcases UG _ x z a h with h|h
   ·exact .inr (h▸qo ..)
   ·exact .inl h
  ·exact .inr (qM _ h)
theorem IX (R:S O) (y x:O) (cB:S O) (q:O) (a:q=U R):((R.reverse++y::x::cB).map NV)[q]? =J (NV y)/\((R.reverse++y::x::cB).map NV)[q+1]? =J (NV x):=by
 subst a;refine⟨?_, ?_⟩
 ·rw [qD,qm s8];simp
 ·rw [qD,qm s8];simp
theorem Wp {c:Type} (a b:c) (cB:S c): ∀P:S c,((P++a::b::cB).set (U P+1) a).set P b=P++b::a::cB
 |[]=>rfl
 |p::P=>by
  show p::((P++a::b::cB).set (U P+1) a).set P b=_
  rw [Wp a b cB P];rfl
theorem mE (R:S O) (y x:O) (cB:S O) (q:O) (a:q=U R):(((R.reverse++y::x::cB).map NV).set (q+1) (NV y)).set q (NV x)=(R.reverse++x::y::cB).map NV:=by
 subst a;have:=Wp (NV y) (NV x) (cB.map NV) (R.reverse.map NV);rw [zH,List.length_reverse] at this;simp only [qg,jy];exact this
theorem eL (w:I) (L no co gd n c base:O) (qj:q') (os l:S O) (h:OfK w L qj no co os) (ho:xp w base 3 1 (Z gd n c) n (l.map NV)) (hl: ∀x∈l,x<no) (P':no<=1000000) (hn:n<=1000000) (h1:L≠gd) (h2:Off qj [gd]):
  xG 282 #[Z gd n c,(),n, .func (.func 239) #[] #[mJ L]] w λe w'=>e=t' (BA #[])/\xp w' base 3 1 (Z gd n c) n ((YO os [] l).reverse.map NV)/\qE [gd] w w':=by
 have z':U l=n:=by have:=ho.1;simpa using this
 have P:=T z';have ck:=T ho;have OX:=T h;have HL:=T hl;have H1:=T h1;have H2:=T h2;clear h ho hl h1 h2 z';go_wp2;go_loopw [8] (λv8 wr=> ∃(i:O) (R:S O),v8=(i:la)/\1<=i/\(i<=n\/n=0/\i=1)/\G (U R=min i n)/\G (∀x∈R,x<no)/\G (YO os R (l.drop i)=YO os [] l)/\G (xp wr base 3 1 (Z gd n c) n ((R.reverse++l.drop i).map NV))/\G (qE [gd] w wr)) (λv8 _=>n-(intOf v8).toNat)
 ·
  cases l with
  |nil=>
   have h0:n=0:=by have:=P.out;simpa using this.symm
   exact⟨1,[],rfl,qx _, .inr ⟨h0,rfl⟩,by rw [Hid,h0];rfl,y8,rfl,ck,qE.refl _ _⟩
  |cons x t=>
   have h0:U t+1=n:=by have:=P.out;simpa using this
   exact⟨1,[x],rfl,qx _, .inl M,by rw [Hid,zJ];omega,by rw [Hid];intro z u;rw [qy.1 u];exact HL x (qo ..),rfl,ck,qE.refl _ _⟩
 ·obtain⟨i,R,rfl,hi1,N9,HR,HX,HS,a,d⟩:=hrel;by_cases S':i<n
  ·have hlt':=j' i n;obtain⟨x,hx⟩: ∃x,l[i]? =some x:=⟨l[i]'(by rw [P.out];exact S'),qX _⟩;have p':=HL x (zQ hx);have hd:=yL hx;rw [hd] at HS a;have iL:G (YO os (XU os x R) (l.drop (i+1))=YO os [] l):=HS.out;have X:U R=i:=by rw [HR.out];omega
   clear N9 HS hx hd;obtain⟨cB,o⟩:=zn (l.drop (i+1));rw [<-o] at iL a;replace o:=T o;go_wp2;go_loopw [9] (λv9 wr=> ∃(s uK:S O) (j:O),v9=(j:la)/\j<=i/\G (j=U s)/\G (U s+U uK=U R)/\G (∀x∈s,x<no)/\G (XU os x R=uK++XU os x s)/\G (xp wr base 3 1 (Z gd n c) n ((s.reverse++x::(uK.reverse++cB)).map NV))/\G (qE [gd] w wr)) (λv9 _=>(intOf v9).toNat)
   ·exact⟨R,[],i,rfl,qx _,X.symm,y8,HX,y8,a,d⟩
   ·clear a d;obtain⟨s,uK,j,rfl,hj,ih,iv,N,A,a,d⟩:=hrel;have hh:=T (OX.jZ d (by simpa using H1.out) H2);cases s with
    |nil=>
     obtain rfl:j=0:=ih.out;have X':G (XU os x R=uK++[x]):=A.out;have cY:G (U (XU os x R)=min (i+1) n):=by rw [Hid,Ug,X];omega
     have f:G (xp wr base 3 1 (Z gd n c) n (((XU os x R).reverse++l.drop (i+1)).map NV)):=by
      rw [Hid,X'.out,<-o.out];have:=a.out;simpa using this
     have d':G (∀z∈XU os x R,z<no):=λz u=>(UG os x z R u).elim (λe=>e▸p') (HX z);have Z':decide ((0:V)<0)=false:=rfl;clear a A iv;go_wp2;go_quiet (fail);have F:G (xp (wr.drewN nq) base 3 1 (Z gd n c) n (((XU os x R).reverse++l.drop (i+1)).map NV)):=f.out;have C:G (qE [gd] w (wr.drewN nq)):=d.drewN nq;generalize wr.drewN nq=w3 at*;go_wp2_with fail;refine xk ?_;exact⟨i+1,XU os x R,s8,M, .inl M,cY,d',by rw [Hid,<-o.out];exact iL,F,C⟩
    |cons y R2=>
     obtain⟨q,E⟩:=zn (U R2);obtain rfl:j=q+1:=by have:=ih.out;rw [qf] at this;omega
     have B:=a.out;rw [show(y::R2).reverse++x::(uK.reverse++cB)=R2.reverse++y::x::(uK.reverse++cB) by simp] at B;have D:=IX R2 y x (uK.reverse++cB) q E;have cK:=mE R2 y x (uK.reverse++cB) q E;have M':q+1<n:=M;obtain⟨H,fj⟩:=xU B M';obtain⟨Q,fq⟩:=xU B (show q<n by omega);rw [D.1] at Q;rw [D.2] at H;have U':=N y (qo ..);have ln:=T (Qn (k:=q+1) B (NV y));have cL:=T (Qn (k:=q) ln (NV x));rw [cK] at cL;have I':i' (wr.setCell ⟨gd,q+1,none⟩ (NV y)) ⟨gd,q,none⟩=J (NV y):=by
      rw [(xU ln.out (show q<n by omega)).1,Z_ M,D.1]
     have r:G (qE [gd] w (((wr.setCell ⟨gd,q+1,none⟩ (NV y)).setCell ⟨gd,q,none⟩ (NV x)).drew)):=((d.zh (p:=⟨gd,q+1,none⟩) (qy.2 rfl) _).zh (p:=⟨gd,q,none⟩) (qy.2 rfl) _).drew;have g:=T (λm=>Ss (wr.drewN m) L no co x y qj os (hh.drewN m) p' U' P');have hj1:((q:V)+1)<(n:V):=M;have hq1:=j' q n;have hq0:=xi q;have hj0:(0:V)<=(q:V)+1:=M;have wq:DW (q:V)=(q:V):=SX;have wj:DW ((q:V)+1)=(q:V)+1:=SX;have J':decide ((0:V)<(q:V)+1)=true:=qw M;have G':(0:V)<(q:V)+1:=M;unfold Og at g;by_cases v:os.getD x 0<os.getD y 0
     ·have m':G (XU os x R=(uK++[y])++XU os x R2):=by
       have:=A.out;rw [XU.eq_2,qk v] at this;rw [Hid,this];simp
      rw [qk v] at g;have N6:G (∀z∈R2,z<no):=λz u=>N.out z (qM _ u);have Y':G (U R2+U (uK++[y])=U R):=by have:=iv.out;rw [Hid];simp at this⊢;omega
      have f:G (xp (((wr.setCell ⟨gd,q+1,none⟩ (NV y)).setCell ⟨gd,q,none⟩ (NV x)).drew) base 3 1 (Z gd n c) n ((R2.reverse++x::((uK++[y]).reverse++cB)).map NV)):=by
       rw [show R2.reverse++x::((uK++[y]).reverse++cB)=R2.reverse++x::y::(uK.reverse++cB) by simp];exact cL.out
      have HQ:=T E;unfold NV at*;clear v A a B D cK N iv ih E;go_wp2;go_quiet ((go_at_call 239;exact Uf (g.out _)));go_wp2_with fail;refine zv 14 (λW=>i' W ⟨gd,q+1,none⟩=J (x:la)/\i' W ⟨gd,q,none⟩=J (y:la)) AL ⟨H,Q⟩ (λQ'=> ?_);refine Z6 [0,1,2,3,4,5,6,7,8] (a':= ?_) ?_;refine zq [9] (a':= ?_) ?_;refine Z6 [10,11,12] (a':= ?_) ?_;refine zq [13] (a':= ?_) ?_;refine j4 14 rfl AL FV SQ (λK b=> ?_);go_simp;refine b _ _ ?_;clear b K;try simp only [Act.put,qQ,qY,qV]
      refine j4 15 rfl AL FV SQ (λK b=> ?_);go_simp;refine b _ _ ?_;clear b K;try simp only [Act.put,qQ,qY,qV]
      refine j4 16 rfl AL FV SQ (λK b=> ?_);go_simp;refine b _ _ ?_;clear b K;try simp only [Act.put,qQ,qY,qV]
      refine j4 17 rfl AL FV SQ (λK b=> ?_);go_simp;refine b _ _ ?_;clear b K;try simp only [Act.put,qQ,qY,qV]
      refine zV AL ?_ _;clear Q';have F:G (xp (((wr.drewN (nq+1)).setCell ⟨gd,q+1,none⟩ y).setCell ⟨gd,q,none⟩ x) base 3 1 (Z gd n c) n ((R2.reverse++x::((uK++[y]).reverse++cB)).map λt:O=> e' (t:V))):=f.out;have C:G (qE [gd] w (((wr.drewN (nq+1)).setCell ⟨gd,q+1,none⟩ y).setCell ⟨gd,q,none⟩ x)):=⟨r.os,r.tape,r.output,r.size,r.block⟩;generalize (((wr.drewN (nq+1)).setCell ⟨gd,q+1,none⟩ y).setCell ⟨gd,q,none⟩ x)=w5 at*;clear H Q I' fj fq wq wj J' G';go_wp2;go_roundw
      case rel=>exact⟨R2,uK++[y],q,s8,M,HQ,Y',N6,m',F,C⟩
      case measure=>simp [intOf]
     ·have m':G (XU os x R=uK++x::y::R2):=by
       have:=A.out;rw [XU.eq_2,qJ v] at this;exact this
      rw [qJ v] at g;have cY:G (U (XU os x R)=min (i+1) n):=by rw [Hid,Ug,X];omega
      have d':G (∀z∈XU os x R,z<no):=λz u=>(UG os x z R u).elim (λe=>e▸p') (HX z);have f:G (xp wr base 3 1 (Z gd n c) n (((XU os x R).reverse++l.drop (i+1)).map NV)):=by
       rw [Hid,m'.out,<-o.out];have:=a.out;simpa using this
      have O': ∃cv:V,cv=(if os.getD y 0<os.getD x 0 then(1:V) else 0)/\decide (cv<0)=false:=by
       by_cases h:os.getD y 0<os.getD x 0
       ·rw [qk h];exact⟨1,rfl,rfl⟩
       ·rw [qJ h];exact⟨0,rfl,rfl⟩
      obtain⟨cv,u',hcv0⟩:=O';rw [<-u'] at g;have HMr:=d;clear u' v A a B D cK N iv ih E I';unfold NV at*;go_wp2;go_quiet ((go_at_call 239;exact Uf (g.out _)));have F:G (xp (wr.drewN nq) base 3 1 (Z gd n c) n (((XU os x R).reverse++l.drop (i+1)).map λt:O=> e' (t:V))):=f.out;have C:G (qE [gd] w (wr.drewN nq)):=d.drewN nq;generalize wr.drewN nq=w3 at*;clear H Q fj fq wq wj J' G';go_wp2_with fail;refine xk ?_;exact⟨i+1,XU os x R,s8,M, .inl M,cY,d',by rw [Hid,<-o.out];exact iL,F,C⟩
  ·have hge:=vc i n;have D':G (l.drop i=[]):=zD (by rw [P.out];omega);have N':G (R=YO os [] l):=by rw [Hid,<-HS.out,D'.out];rfl
   have f:G (xp wr base 3 1 (Z gd n c) n (R.reverse.map NV)):=by
    have:=a.out;rw [D'.out,jx] at this;exact this
   clear a HS;go_wp2;go_end0;exact⟨rfl,by rw [<-N'.out];simpa using f.out,d⟩
theorem Pf:(prog.info? 3).map (λi=>(i.zero,i.size,i.bytes))=J (some (e' 0),1,8):=AL
def Cd (w:I) (base gd n c:O) (os l:S O) (e:Ending) (w':I):Prop:=
 e=t' (BA #[])/\xp w' base 3 1 (Z gd n c) n ((YO os [] l).reverse.map NV)/\ ∃m,qE (gd::m) w w'/\ ∀k∈m,(w:O)<=k
theorem CD (w:I) (a no j gd n c base:O) (d:q') (os l:S O) (h:OfK w a d no j os) (g:xp w base 3 1 (Z gd n c) n (l.map NV)) (i: ∀x∈l,x<no) (q:no<=1000000) (r:n<=19) (h1:a≠gd) (h2:Off d [gd]):
  xG 263 #[Z gd n c,n, .func (.func 239) #[] #[mJ a]] w (Cd w base gd n c os l):=by
 have K:=T (eL w a _ j _ n c _ d _ l h g i q M h1 h2);clear h g i;go_wp2;go_loopw [7,8] (λm o wr=>m=e' 0/\o=e' 20/\w=wr) (λ_ _ _=>0)
 ·exact⟨rfl,rfl,rfl⟩
 ·obtain⟨rfl,rfl,rfl⟩:=hrel;go_wp2_with fail;refine zC K ?_;rintro p ⟨b,f⟩;replace b:=T b;replace f:=T f;go_wp2;go_loopw [6] (λk wr=>k=e' 20/\p=wr) (λ_ _=>0)
  ·exact⟨rfl,rfl⟩
  ·obtain⟨rfl,rfl⟩:=hrel;go_wp2;go_end0;exact⟨rfl,b,_,f,s8⟩
theorem dU (w:I) (a no j gd n c base:O) (d:q') (os l:S O) (h:OfK w a d no j os) (g:xp w base 3 1 (Z gd n c) n (l.map NV)) (i: ∀x∈l,x<no) (m:no<=1000000) (k:n<=19) (h1:a≠gd) (h2:Off d [gd]):
  xG 238 #[Z gd n c, .func (.func 239) #[] #[mJ a]] w (Cd w base gd n c os l):=by
 have K:=T (CD w a _ j _ n c _ d _ l h g i m k h1 h2);clear h g i;go_in;go_wp2_with fail;refine zC K ?_;rintro o ⟨b,f⟩;replace b:=T b;replace f:=T f;go_wp2;go_end0;exact⟨rfl,b,f⟩
theorem Cf (w:I) (A:q') (c:O) (F:la):
  xG 282 #[Z A 0 c,(),(),F] w λe w'=>e=t' (BA #[])/\w=w':=by
 go_wp2;go_loopw [8] (λa wr=>a=e' 1/\w=wr) (λ_ _=>0)
 ·exact⟨rfl,rfl⟩
 ·obtain⟨rfl,rfl⟩:=hrel;go_wp2;go_end0;exact⟨rfl,rfl⟩
theorem qqq (w:I) (A:q') (c:O) (F:la):
  xG 263 #[Z A 0 c,(),F] w λe w'=>e=t' (BA #[])/\w=w':=by
 have K:=T (Cf w A c F);go_wp2;go_loopw [7,8] (λb d wr=>b=e' 0/\d=e' 20/\w=wr) (λ_ _ _=>0)
 ·exact⟨rfl,rfl,rfl⟩
 ·obtain⟨rfl,rfl,rfl⟩:=hrel;go_wp2_with fail;refine Ω K ?_;go_wp2;go_loopw [6] (λa wr=>a=e' 20/\w=wr) (λ_ _=>0)
  ·exact⟨rfl,rfl⟩
  ·obtain⟨rfl,rfl⟩:=hrel;go_wp2;go_end0;exact⟨rfl,rfl⟩
theorem DO (w:I) (A:q') (c:O) (F:la):
  xG 238 #[Z A 0 c,F] w λe w'=>e=t' (BA #[])/\w=w':=by
 have K:=T (qqq w A c F);go_in;go_wp2_with fail;refine Ω K ?_;go_wp2;go_end0;exact⟨rfl,rfl⟩
def mr (os:S O):Prop:=U (vA 0 os)<=19
theorem Yq: ∀(os:S O) (i x:O),x∈vA i os->i<=x/\x<i+U os
 |[],i,x,h=>by simp [vA] at h
 |n::t,i,x,h=>by
  unfold vA at h;rw [qf];split at h
  ·rcases qL.1 h with h|h
   ·omega
   ·have:=Yq t _ x h;omega
  ·have:=Yq t _ x h;omega
theorem uF: ∀(os:S O) (i:O),U (vA i os)<=U os
 |[],i=>qx _
 |n::t,i=>by
  unfold vA;split
  ·have:=uF t (i+1);simp;exact this
  ·have:=uF t (i+1);simp;omega
theorem Fo {os:S O} (h:x∈dT os):x<U os:=by
 unfold dT at h;rcases bI _ x _ _ (List.mem_reverse.1 h) with h|h
 ·cases h
 ·have:=Yq _ 0 x h;omega
theorem e_ (os:S O):U (dT os)=U (vA 0 os):=by unfold dT;rw [List.length_reverse,bO];simp
theorem Dx: ∀(os:S O) (i n:O),vA i (os++[n])=vA i os++(if 0<n then [i+U os] else [])
 |[],i,n=>by simp [vA]
 |m::t,i,n=>by
  show vA i (m::(t++[n]))=_
  unfold vA;rw [Dx t (i+1) n,qf,show i+1+U t=i+(U t+1) by omega]
  split<;>simp
theorem mR (f:q') (no j B:O) (os:S O) (w:I) (h:E' w B 1 f no (os.map Qb)) (hB:B<=(w:O)) (U':no<=300) (hf:mr os):
  xG 204 #[Z f no j] w λe w'=> ∃A' cK,e=t' (Z A' (U (dT os)) cK)/\xp w' w 3 1 (Z A' (U (dT os)) cK) (U (dT os)) ((dT os).map NV)/\r' w w w':=by
 obtain⟨i0,hi,hh,K,qj⟩:=xt Pf;have H:=T h;have uK:=T hB;have E:=T h.len;have HF:=T hf;clear h hB hf;go_in;go_wp2_with fail;have u':G (F' (w (Y #[Z f no j] 180)) w 180 #[Z f no j]):=F'.new w _ _;have cY:G (r' w w (w (Y #[Z f no j] 180))):=j1 _;have Q:=T u'.lt;generalize w (Y #[Z f no j] 180)=w1 at*;have c1:=u'.cell 0;simp only [qR,qt] at c1;obtain⟨a,N9⟩:=zn w1;subst N9;go_wp2;go_loopw [3,8] (λv3 R wr=> ∃(i m c:O) (A:q'),R=(i:la)/\v3=Z A m c/\i<=no/\m<=i/\G (m=U (vA 0 (os.take i)))/\G (xp wr a 3 1 (Z A m c) m ((vA 0 (os.take i)).map NV))/\G (r' a a wr)) (λ_ R _=>no-(intOf R).toNat)
 ·exact⟨0,0,0,none,rfl,rfl,qp _,qx _,rfl,qP _ _ _ _,qZ _ _⟩
 ·obtain⟨i,m,c,A,rfl,rfl,Y',hm,g,b,n⟩:=hrel;have q:=T (cY.trans (n.mono (zr Q)));by_cases N6:i<no
  ·have Z':=j' i no;obtain⟨ad,u,t,-,L,J'⟩:=(H.below (q.mono uK)).at_ N6;subst t;obtain⟨z,P,rfl⟩:=LX _ _ i u L;have cL:U (os.take i)=i:=by rw [qh,E.out];omega
   have d:vA 0 (os.take (i+1))=vA 0 (os.take i)++(if 0<z then [i] else []):=by
    rw [qs,P];show vA 0 (os.take i++[z])=_;rw [Dx,cL,jL]
   unfold Qb at J';by_cases ih:0<z
   ·have M':=yn z;rw [qk ih] at d;replace d:=T d;have O':m+1<=maxLen:=SJ;have s:(m+1)*8<=140737488355328:=M;have I':=T n.size;clear ih P L cL;go_wp2_with (at_builtin;refine qF _ rfl (.tmp 15) (.tmp 17) 62 rfl a 3 i0 () 1 8 jj hi hh K qj rfl M A m c _ rfl (b.alloc _) ((wr:O)+1) (wr:O) 1 1 [e' (i:V)] rfl (zU _ _ _) (IB rfl) O' s (qv I' s8) ?_;intro A3 c3 w4 r d' z';have D':=T (zG (n.alloc n.size _) d' (b.alloc _) (qv n.size s8));replace r:=T r;clear d' z');have C:G (m+1=U (vA 0 (os.take (i+1)))):=by rw [Hid,d.out,qK,<-g.out];rfl
    have N:G (xp w4 a 3 1 (Z A3 (m+1) c3) (m+1) ((vA 0 (os.take (i+1))).map NV)):=by
     rw [Hid,d.out,qg];exact r.out
    go_wp2_with fail;refine xk ?_;exact⟨i+1,m+1,c3,A3,xg,s8,M,M,C,N,D'⟩
   ·rw [qJ ih,jx] at d;have C:G (m=U (vA 0 (os.take (i+1)))):=by rw [Hid,d];exact g.out
    have N:G (xp wr a 3 1 (Z A m c) m ((vA 0 (os.take (i+1))).map NV)):=by
     rw [Hid,d];exact b.out
    clear P L cL g b;go_wp2_with fail;refine xk ?_;exact⟨i+1,m,c,A,xg,rfl,M,M,C,N,n⟩
  ·have X':=vc i no;obtain rfl:i=no:=M;have d:=qH (by rw [E.out];exact qx _);rw [d] at g b;have Q':m<=19:=by rw [g.out];exact HF.out
   have y:OfK a w f i j os:=⟨c1,B,H.below (cY.mono uK)⟩;have o:=e_ os;rw [<-g.out] at o;replace o:=T o;have v:=T (zr Q.out);rcases zA m with h0|h0
   ·subst h0;have p:=λF=>T (DO wr A c F);have m':=T (zl o.out);have D:G (xp wr w 3 1 (Z A 0 c) 0 []):=by
     have:=qi b v.out;rw [show vA 0 os=[] from zl g.symm] at this;exact this
    clear y g b;go_wp2_with fail;refine Ω (p _).out ?_;go_wp2;go_ret;refine⟨A,c, ?_, ?_,q⟩
    ·rw [m'.out];rfl
    ·rw [m'.out];exact D.out
   ·obtain⟨gd,rfl⟩:=Kq b h0;have W:=(zj b gd (by simp [K'])).1;have OX:0<i:=M;obtain⟨ad,t,G',_⟩:=H.out.2 OX;have ck:Off f [gd]:=λS' h'=>by
     rw [t] at h';obtain rfl:=zy h';simp;have:=uK.out;have:=v.out;omega
    have iL:(w:O)≠gd:=by have:=Q.out;omega
    have cB:=y.jZ (l:=[]) (qE.jq n) s8 (λ_ _=>s8);have p:=T (dU _ w i j _ m c a f _ _ cB b (λx hx=>by have:=Yq _ 0 x hx;have:=E.out;omega) M Q' iL ck);have P':=T W;unfold Cd at p;clear cB ck iL G' t W y g b;go_wp2_with fail;refine zC p ?_;rintro ln ⟨X,l2,s,p'⟩;have N':=T (q.trans (s.below (λk iv=>by
     rcases qL.1 iv with rfl|iv
     ·have:=P'.out;have:=v.out;omega
     ·have:=p' k iv;have:=q.size;omega) q.size))
    have D:G (xp ln w 3 1 (Z gd m c) m ((dT os).map NV)):=qi X v.out;clear X s p';go_wp2;go_ret;refine⟨some ⟨gd,0,none⟩,c, ?_, ?_,N'⟩
    ·rw [o.out];rfl
    ·rw [o.out];exact D.out
def Ce (W:I) (gf c way n p:O) (A:q') (N cap:O) (b:qn) (e:Ending) (a:I):Prop:=
 e=t' (BA #[])/\qE [gf,c] W a/\ ∃d c1,Fr a gf c way n p (Z d (gL b).1.length c1) A N cap b (hZ b)/\xp a W 5 1 (Z d (gL b).1.length c1) (gL b).1.length ((gL b).1.map B8)
theorem Tz (W:I) (gf c way n:O) (bd:la) (A:q') (N cap:O) (b:qn) (qj:q') (s B:O) (ht:Pl W) (h:Fr W gf c way n (pr b).1 bd A N cap b (B3 b)) (hr:E' W B 1 qj (U b) (b.map B8)) (hB:B<=(W:O)) (hg:B<=gf/\B<=c) (hcb:U b<=s) (O':s<=maxLen) (J':0<B):
  xG 224 #[mJ gf,Z qj (U b) s] W (Ce W gf c way n (pr b).1 A N cap b):=by
 have H:=T h;have HT:=T ht;have HR:=T hr;have HB:=T hB;have X:=T hg;have X':=T J';have ih:G (gf<(W:O)/\c<(W:O)):=⟨h.blk.lt,h.cur.blk.lt⟩;have d':G (jW b (pr b).1 (B3 b)=gL b):=rfl;have I':G ((jW b 4 (gL b).2).2=Hf b):=rfl;have j:hZ b=if(Hf b).err≠0 then Hf b else vP (Hf b) (QH (b.take (Hf b).at_)):=rfl
 have cY:G (∀W (h:Lr W c A N cap b (Hf b)),(Hf b).at_<=U b):=λW h=>by have h1:=h.le;have h2:=h.len;omega
 have t:=T (Qs _ c A N _ b _ ((pr b).1:V) h.drew.cur);have w:=T (λW (h:Lr W c A N cap b (gL b).2)=>Qs W c A N _ b _ 4 h);rw [d'.out] at t;rw [I'.out] at w;unfold Ce;generalize (gL b).1=D,(gL b).2=c6 at*;generalize (jW b 4 c6).1=zs,hZ b=c8 at*;generalize Hf b=a,B3 b=c5,(pr b).1=p at*;replace j:=T j;unfold X1 at t w;obtain⟨q0,-,-,q3,q4⟩:=h.cells;have cL:=h.ne;clear h ht hr hB hg J';go_in;go_wp2_with fail;refine zv 10 (λW=>i' W gf=J (mJ c)/\i' W ⟨gf,3,none⟩=J (p:la)) AL ⟨q0,q3⟩ (λz'=> ?_);refine zq [0,1,2,3,4,5] (a':= ?_) ?_;refine zq [6,7,8] (a':= ?_) ?_;refine IA 9 rfl AL SQ (λK d=> ?_);go_simp
 (go_at_call 153;((with_reducible refine(t.out).mono ?_);rintro e L ⟨l,c1,rfl,uK,i,R⟩);have U':=i.cell (by simpa using cL) q4;have N':=(H.out.drew.step uK i).frz 4)
 refine d _ _ (⟨i.cell (by simpa using cL) q0,i.cell (by simpa using cL) q3⟩) (λz'=> ?_);clear d K;try simp only [Act.put,qQ,qY,qV]
 refine j4 10 rfl AL FV SQ (λK d=> ?_);go_simp;refine d _ _ ?_;clear d K;try simp only [Act.put,qQ,qY,qV]
 refine j4 11 rfl AL FV SQ (λK d=> ?_);go_simp;refine d _ _ ?_;clear d K;try simp only [Act.put,qQ,qY,qV]
 refine j4 12 rfl AL FV SQ (λK d=> ?_);go_simp;refine d _ _ ?_;clear d K;try simp only [Act.put,qQ,qY,qV]
 refine zV AL ?_ _;have G':=H.drew.step uK i;have y:=T (G'.Lu (Z l D c1));have M':qE [gf,c] W L:=(qE.refl [gf,c] W).drew.then (i.mono λk g=>by rw [qy.1 g];simp);have p':=T (Qf M' 4 (Z l D c1));have hh:=T (((qE.refl [gf] L).zh (p:=⟨gf,4,none⟩) (qy.2 rfl) (Z l D c1)).own (qi R (show (W:O)<=(W.drew:O) from qx _)) (λk g o=>by have:=(zj R k g).1;have e:(W.drew:O)=(W:O):=rfl;rw [qy.1 o] at this;have:=ih.out;omega));clear t uK i R G' M' q0 q3 q4 U' N' z';generalize L.setCell ⟨gf,4,none⟩ (Z l D c1)=w2 at*;obtain⟨q0,-,-,-,-⟩:=y.cells;have iL:=T (w _ y.cur);go_wp2_with fail;refine iL.mono ?_;rintro e x ⟨A2,c2,rfl,m',C,-⟩;have f:=T (y.step m' C);have q:=T (yv p' C);have iv:=T (C.own hh (λk g o=>by have:=(zj hh k g).1;rw [qy.1 o] at this;have:=ih.out;omega));have z:=T (jg x c A N _ b a f.cur);obtain⟨r0,-,-,-,-⟩:=f.cells;clear m' C q0;by_cases m:a.err=0
 ·have r:G (c8=vP a (QH (b.take a.at_))):=by rw [Hid,j.out,qJ (by simpa using m)]
  have N9:=cY _ f.cur;have S':=f.cur.lim;have P':=f.cur.len;have K4:=T (JJ x c A N _ b a f.cur);have P:r' B W x:=q.below (λk g=>by
   simp only [qL,xj,Ze] at g;rcases g with rfl|rfl
   ·exact X.out.1
   ·exact X.out.2) HB.out
  have ck:=(HR.below P).takeN N9;have cK:=T (Vr qj _ s _ x (HT.below P X') (ck.more (qv HB q.size)) M O' M);rw [m] at z;have hat0:(0:V)<=(a.at_:V):=M;have hat1:(a.at_:V)<=(s:V):=M;have F:=T (λW (h:Lr W c A N cap b a)=>yB W c A N _ b a (QH (b.take a.at_)) h);rw [<-r.out] at F;unfold jS at F;unfold Qr at cK;generalize a.at_=k at*;clear P ck m S' P';go_wp2_with fail;refine Ω z ?_;go_wp2_with fail;refine Ω K4 ?_;go_wp2_with fail;refine cK.mono ?_;rintro e w4 ⟨A4,c4,rfl,v⟩;have ln:=T (f.fresh v.2);have cB:=T (q.fresh v.2);have Q:=T (qG iv v.2);have u':=T (F _ ln.cur);obtain⟨s0,-,-,-,-⟩:=ln.cells;generalize QH (b.take k)=er,vR (b.take k)=vs at*;clear v r0;go_wp2_with fail;refine zC u' ?_;rintro w5 ⟨D',u⟩;have N6:=T (ln.step D' u);have Q':=T (yv cB u);have OX:=T (u.own Q (λk g o=>by have:=(zj Q k g).1;rw [qy.1 o] at this;have:=ih.out;omega));clear D' u s0;go_wp2;go_end0;exact⟨rfl,Q',l,_,N6,OX⟩
 ·have r:G (c8=a):=by rw [Hid,j.out,qk m]
  have Y':((a.err) !=0)=true:=by simpa using m
  generalize a.err=E at*;rw [<-r.out] at f;go_wp2_with fail;refine Ω z ?_;go_wp2_with fail
  (try simp only [Exit.inBlock,Exit.then])
  refine qW (results_none rfl _ _ _) rfl ?_;exact⟨rfl,q,l,_,f,iv⟩
def J9 (a:S O):S Int:=a.map (λx:O=>(x:V))
theorem TY (b c:V) (a:S O) (k:O) (d:k<U a):B5 b c (J9 (a.drop k))=(decide (c<(a[k]:V))&&(decide ((a[k]:V)<b)&&B5 b (a[k]:V) (J9 (a.drop (k+1))))):=by
 rw [zK d];rfl
theorem EM (a:V) (A:q') (n c B:O) (d:S O) (w:I) (h:E' w B 1 A n (d.map NV)) (E:n<=1000000):
  xG 129 #[a,Z A n c] w λe w'=>e=t' (.bool (B5 a (-1) (J9 d)))/\w=w':=by
 have H:=T h;have q:=T h.len;obtain⟨R,i⟩:=zn (B5 a (-1) (J9 d));rw [<-i];replace i:G (B5 a (-1) (J9 (d.drop 0))=R):=i.symm;clear h;go_wp2;go_loopw [5,10] (λv m wr=> ∃(k:O) (f:V),v=(f:la)/\m=(k:la)/\k<=n/\G (B5 a f (J9 (d.drop k))=R)/\wr=w) (λ_ m _=>n-(intOf m).toNat)
 ·exact⟨0,-1,rfl,rfl,qp _,i,rfl⟩
 ·obtain⟨k,f,rfl,rfl,F,j,rfl⟩:=hrel;by_cases r:k<n
  ·have D:=j' k n;have z:=xi k;obtain⟨C,u,rfl,-,l,y⟩:=H.at_ r;have o:k<U d:=by rw [q.out];exact r
   rw [qD,qX o] at l;have b:=j.out;rw [TY _ _ _ _ o] at b;generalize d[k]=x at*;have s:u=(x:la):=(zy l).symm;subst s;replace b:=T b;clear l j;by_cases h1:(x:V)<=f
   ·have g:G (R=false):=by rw [Hid,<-b.out,qc M];rfl
    go_wp2;go_ret;exact⟨by rw [g.out];rfl,rfl⟩
   ·by_cases h2:a<=(x:V)
    ·have g:G (R=false):=by rw [Hid,<-b.out,qc (p:=(x:V)<a) M];simp
     go_wp2;go_ret;exact⟨by rw [g.out];rfl,rfl⟩
    ·have t:G (B5 a (x:V) (J9 (d.drop (k+1)))=R):=by
      rw [Hid,<-b.out,qw (p:=f<(x:V)) M,qw (p:=(x:V)<a) M];rfl
     go_wp2_with fail;refine xk ?_;exact⟨k+1,(x:V),xg,xh,M,t,y'⟩
  ·obtain rfl:k=n:=M;have g:G (R=true):=by rw [Hid,<-j.out,zD (by rw [q.out];omega)];unfold J9;simp [B5]
   clear j;go_wp2;go_ret;exact⟨by rw [g.out];rfl,rfl⟩
theorem Eo (h1:1<=n) (h2:n<=a):Hv a n=Nat.log2 (a/n):=by
 unfold Hv;have:a/n≠0:=by have:=Nat.div_pos h2 h1;omega
 rw [qJ this];omega
theorem p5 (h1:1<=n) (h2:n<=a) (h3:a<=20000):Hv a n<=14:=by
 rw [Eo h1 h2];have h:1<=a/n:=Nat.div_pos h2 h1;have h4:a/n<=20000:=qv (xr _ _) h3;have:=(Nat.log2_lt (n:=a/n) (k:=15) M).2 M;omega
theorem Dk (a n:O) (w:I) (h1:1<=n) (h2:n<=a) (h3:a<=20000):
  xG 130 #[a,n] w λe w'=>e=t' (Hv a n:V)/\w=w':=by
 rw [Eo h1 h2];have b:1<=a/n:=Nat.div_pos h2 h1;have g:a/n<=20000:=qv (xr _ _) h3;have K:=T (DQ _ w b M);have c:(a:V).tdiv (n:V)=((a/n:O):V):=Y_ a n;have i:Nat.log2 (a/n)<16:=PB b M;generalize a/n=q at*;generalize Nat.log2 q=L at*;have h:IntKind.u64.wrap (q:V)=(q:V):=by rw [qS];omega
 have j:DW (q:V)=(q:V):=SX;have d: ¬n=0:=M;go_in;go_wp2_with fail;refine Ω K ?_;go_wp2;go_ret;refine⟨?_,rfl⟩;first|rfl|(congr 2;omega)|(congr 1;simp)
theorem nH:(prog.info? 43).map (λi=>(i.zero,i.size,i.bytes))=J (some (.int .u64 0),1,8):=AL
def V64 (x:O):Value:= .int .u64 (x:V)
def Ww (W:I) (c:O) (A:q') (N cap:O) (b:qn) (r:S O×Cu) (e:Ending) (a:I):Prop:=
 ∃f d,e=t' (Z f r.1 d)/\xp a W 43 1 (Z f r.1 d) r.1 (r.1.map V64)/\Lr a c A N cap b r.2/\qE [c] W a
theorem Iu (z:O) (h:z<18446744073709551616):zag z<18446744073709551616:=by
 unfold zag;split<;>omega
theorem OE (b:qn) (c:Cu):(X7 b c).1<18446744073709551616:=by
 unfold X7;dsimp only;split
 ·omega
 ·exact wQ _
theorem CS (W:I) (a:O) (A:q') (N cap n:O) (b:qn) (c:Cu) (h:Lr W a A N cap b c) (hn:n<=20000):
  xG 229 #[.agg #[mJ a],n] W (Ww W a A N cap b (Q4 b n 0 c [])):=by
 obtain⟨i0,hi,L,cY,Q⟩:=xt nH;obtain⟨R,y⟩:=zn (Q4 b n 0 c []);rw [<-y];replace y:G (Q4 b n 0 c []=R):=y.symm;have cK:G (a<(W:O)):=h.blk.lt;have N':G (∀k∈K' A,k<(W:O)):=λk d=>(zj h.own k d).2;have cB:=T (h.fresh (j1 (Y #[mJ a] 293)));have G':G (F' (W (Y #[mJ a] 293)) (W:O) 293 #[mJ a]):=F'.new _ _ _;have m':G (qE [a] W (W (Y #[mJ a] 293))):=(qE.refl _ _).alloc _;have p':G ((W:O)+1<=(W (Y #[mJ a] 293):O)):=by rw [Hid];simp
 clear h;go_in;go_wp2_with fail;generalize W (Y #[mJ a] 293)=w0 at*;go_loopw [5,6] (λX v6 wr=> ∃(m c2 q f:O) (l:q') (g:Cu) (i:S O),X=Z l m c2/\v6= .int .u64 (q:V)/\m+f=n/\q<18446744073709551616/\G (U i=m)/\G (Q4 b f q g i=R)/\G (Lr wr a A N cap b g)/\G (F' wr (W:O) 293 #[mJ a])/\G (xp wr ((W:O)+1) 43 1 (Z l m c2) m (i.map V64))/\G (qE [a] W wr)/\G ((W:O)+1<=(wr:O))) (λX _ _=>n-Y8 X)
 ·exact⟨0,0,0,n,none,c,[],rfl,rfl,M,M,rfl,y,cB,G',qP _ _ _ _,m',p'⟩
 ·obtain⟨m,c2,q,f,l,g,i,rfl,rfl,X',Y',hh,r,w,K,p,C,HS⟩:=hrel;have q0:=K.cell 0;simp only [qR,qt] at q0;by_cases Z':m<n
  focus
   have hlt':=j' m n;obtain⟨f,rfl⟩: ∃f',f=f'+1:=⟨f-1,M⟩;have D:=T (jg wr a A N cap b g w);have j:=r.out;unfold Q4 at j;by_cases v:g.err=0
   ·rw [qJ (by simpa using v)] at j;have H:=T (Fc wr a A N cap b g w);have uK:=OE b g;generalize X7 b g=nc at*;obtain⟨x,P'⟩:=nc;dsimp only at j H uK;have KZ:=λW=>T (Oe x W uK);have hz:=Iu x uK;generalize zag x=z at*;obtain⟨s,ih⟩:=zn ((q+z)%18446744073709551616);rw [<-ih] at j;have N9:s<18446744073709551616:=by rw [ih];exact xC _ M
    have ws:IntKind.u64.wrap ((q:V)+(z:V))=(s:V):=by rw [qS];omega
    rw [v] at D;unfold jS at H;have OX:m+1<=maxLen:=SJ;have N6:(m+1)*8<=140737488355328:=M;replace j:=T j;replace ih:=T ih;clear r v;go_wp2_with fail;refine Ω D ?_;go_wp2_with fail;refine zC H ?_;rintro ln ⟨iL,t⟩;have d':=T iL;have u':=T (C.then t);have z':=T (t.blk K (by rw [qy];have:=cK.out;omega));have P:=T (t.own p (λk d cL=>by have:=(zj p k d).1;rw [qy.1 cL] at this;have:=cK.out;omega));have iv:G ((W:O)+1<=(ln:O)):=qv HS t.size;clear iL t w C K p HS q0;go_wp2_with fail;refine Ω (KZ _).out ?_;go_wp2_with (at_builtin;refine qF _ rfl (.tmp 23) (.tmp 25) 169 rfl ((W:O)+1) 43 i0 (.int .u64 0) 1 8 underlying169 hi L cY Q rfl M l m c2 _ rfl (P.alloc _) ((ln:O)+1) ln 1 1 [.int .u64 (s:V)] rfl (zU _ _ _) (IB rfl) OX N6 (qv iv s8) ?_;intro A4 c4 B F D' J';have o:qE (K' l) (ln (Y #[.int .u64 (s:V)] 43)) B:=(qE.refl _ _).grown D' (λk d=> .inl d);replace F:=T F;replace o:=T o;clear D' J');have u: ∀k∈K' l,(W:O)+1<=k:=λk d=>(zj P k d).1;have I':=T ((d'.fresh (j1 (Y #[.int .u64 (s:V)] 43))).jZ o (λd=>by have:=u _ d;have:=cK.out;omega) (λk d cL=>by have:=u _ cL;have:=N' k d;omega));have Q':=T (o.blk (z'.alloc (Y #[.int .u64 (s:V)] 43)) (λd=>by have:=u _ d;omega));have M':G (qE [a] W B):=(u'.alloc (Y #[.int .u64 (s:V)] 43)).trans o (λk d=> .inr (by have:=u k d;omega));have O':G (xp B ((W:O)+1) 43 1 (Z A4 (m+1) c4) (m+1) ((i++[s]).map V64)):=by rw [Hid,qg];exact F.out
    have U':G ((W:O)+1<=(B:O)):=qv iv (qv s8 o.size);have S':G (U (i++[s])=m+1):=by rw [Hid,qK,hh.out];rfl
    clear u KZ;go_roundw
    case rel=>exact⟨m+1,c4,s,f,A4,P',i++[s],xg,xg,M,N9,S',j,I',Q',O',M',U'⟩
    case measure=>simp [Y8];omega
   focus
    have e:G (R=(i,g)):=by rw [Hid,<-j,qk (by simpa using v)]
    have hzn:(g.err==0)=false:=by simpa using v
    generalize g.err=E at*;have qj:=T (qi p (show (W:O)<=(W:O)+1 by omega));clear r j p;go_wp2_with fail;refine Ω D ?_
  rotate_left
  focus
   obtain rfl:f=0:=M;have hge:=vc m n;have e:G (R=(i,g)):=by rw [Hid,<-r.out];rfl
   have qj:=T (qi p (show (W:O)<=(W:O)+1 by omega));clear r p
  all_goals
   go_wp2;go_ret;unfold Ww;rw [e.out];dsimp only;rw [hh.out];exact⟨l,c2,rfl,qj,w,C⟩
theorem rm (c:V): ∀(d:V) (b:S O),B5 c d (J9 b)=true->(∀x∈b,d<(x:V)/\(x:V)<c)/\(∀k,(h:k+1<U b)->b[k]<b[k+1])
 |d,[],_=>⟨s8,λk h=>by simp at h⟩
 |d,a::t,h=>by
  have h1:(decide (d<(a:V))&&(decide ((a:V)<c)&&B5 c (a:V) (J9 t)))=true:=h;simp only [zR,zd] at h1;obtain⟨h2,h3,h4⟩:=h1;have e:=rm c _ t h4;refine⟨λx f=> ?_,λk g=> ?_⟩
  ·rcases qL.1 f with rfl|f
   ·exact⟨h2,h3⟩
   ·have:=e.1 x f;omega
  ·cases k with
   |zero=>
    have h5:0<U t:=by simpa using g
    show a<t[0]
    have:=e.1 t[0] (zx _);omega
   |succ k=>exact e.2 k _
theorem U3 (b:V): ∀(c:V) (d:S O),c<b->B5 b c (J9 d)=true->c+(U d:V)<b
 |c,[],e,_=>by simpa using e
 |c,a::t,_,h=>by
  have h1:(decide (c<(a:V))&&(decide ((a:V)<b)&&B5 b (a:V) (J9 t)))=true:=h;simp only [zR,zd] at h1;have:=U3 b _ t h1.2.1 h1.2.2;rw [qf];omega
def YJ (a:O) (b:S O):Bw:=b.foldl (λs x=>Jh s (x%2^a) a) ⟨[],0⟩
theorem Gk (b:O) (a:S O) (k:O) (c:k<U a):YJ b (a.take (k+1))=Jh (YJ b (a.take k)) (a[k]%2^b) b:=by
 unfold YJ;rw [qs,qX c,List.foldl_append];rfl
theorem aa (b:O) (a:S O): ∀k,k<=U a->(YJ b (a.take k)).n=k*b
 |0,_=>by simp [YJ]
 |k+1,h=>by rw [Gk b a k M,YH,aa b a k M,ql]
theorem O8 (h:x<2^a) (b:a<=63):PR s x (a:V)=Jh s x a:=by
 unfold PR;rw [qk (Fm (by
  rintro(h1|h1|⟨_,h1⟩)
  ·omega
  ·omega
  ·exact h1 (by rw [zc];exact xW h)))]
 rfl
theorem O9 {d:O} (h:d<=100000):oW s (d:V)=U_ s d:=by
 unfold oW;rw [qk (show sg (d:V)=0 from qJ M)];rfl
theorem rM (b c:O) (s:Bw) (a:S O) (k:O) (d:k<U a):Kc b c s (a.drop k)=Kc b (a[k]/2^b) (U_ s (a[k]/2^b-c)) (a.drop (k+1)):=by
 rw [zK d];rfl
def WrB (b W:I) (a:O) (s:Bw):Prop:= ∃A cap,Wr W a 187 [] A cap s/\(∀k∈K' A,a<=k)/\r' a b W
theorem WrB.step {e W c:I} {A d:q'} {cap i:O} {j:Bw} (h:Wr W a 187 [] A cap s) (g: ∀k∈K' A,a<=k) (m:r' a e W) (l:Wr c a 187 [] d i j) (f:XP W c a A d):WrB e c a j:=
 ⟨d,i,l,λk b=>(f.fp k b).elim (g k) λh2=>qv (zr h.blk.lt) h2,m.trans (f.jZ.below (λk b=>by
  rcases qL.1 b with rfl|b
  ·exact qx _
  ·exact g k b) (zr h.blk.lt))⟩
end Go.Proofs.YtfnlfpcfkbdcmaaGreatDoor
