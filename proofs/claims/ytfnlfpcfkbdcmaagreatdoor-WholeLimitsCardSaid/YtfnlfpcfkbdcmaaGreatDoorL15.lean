import Derived.Test.YtfnlfpcfkbdcmaaGreatDoorL12
import Derived.Test.YtfnlfpcfkbdcmaaGreatDoorL13
import Derived.Test.YtfnlfpcfkbdcmaaGreatDoorL14
set_option linter.unusedSimpArgs false
set_option linter.unusedVariables false
set_option maxRecDepth 100000
set_option maxHeartbeats 0
open Go.Proofs.Tryz
namespace Go.Proofs.YtfnlfpcfkbdcmaaGreatDoor
open Go.RowKit
variable {a n x:Nat}{s:Bw}
theorem Ug (os:List Nat) (x:Nat): ∀l,(XU os x l).length=l.length+1
 |[]=>rfl
 |y::t=>by
  unfold XU;split
  ·rw [qf,Ug os x t,qf]
  ·rfl
theorem UG (os:List Nat) (x z:Nat): ∀l,z∈XU os x l->z=x\/z∈l
 |[],h=>by simp [XU] at h;exact .inl h
 |y::t,h=>by
  unfold XU at h;split at h
  ·rcases qL.1 h with h|h
   ·exact .inr (h▸qo ..)
   ·rcases UG _ x z t h with h|h
    ·exact .inl h
    ·exact .inr (qM _ h)
  ·rcases qL.1 h with h|h
   ·exact .inl h
   ·exact .inr h
theorem bO (os:List Nat): ∀l a,(YO os a l).length=a.length+l.length
 |[],a=>rfl
 |x::t,a=>by show(YO os (XU os x a) t).length=_;rw [bO os t,Ug,qf];omega
theorem bI (os:List Nat) (z:Nat): ∀l a,z∈YO os a l->z∈a\/z∈l
 |[],a,h=> .inl h
 |x::t,a,h=>by
  rcases bI _ z t _ h with h|h
  ·rcases UG _ x z a h with h|h
   ·exact .inr (h▸qo ..)
   ·exact .inl h
  ·exact .inr (qM _ h)
theorem IX (R:List Nat) (y x:Nat) (Z:List Nat) (q:Nat) (a:q=R.length):((R.reverse++y::x::Z).map NV)[q]? =some (NV y)/\((R.reverse++y::x::Z).map NV)[q+1]? =some (NV x):=by
 subst a;refine⟨?_, ?_⟩
 ·rw [qD,qm s8];simp
 ·rw [qD,qm s8];simp
theorem Wp {c:Type} (a b:c) (Z:List c): ∀P:List c,((P++a::b::Z).set (P.length+1) a).set P b=P++b::a::Z
 |[]=>rfl
 |p::P=>by
  show p::((P++a::b::Z).set (P.length+1) a).set P b=_
  rw [Wp a b Z P];rfl
theorem mE (R:List Nat) (y x:Nat) (Z:List Nat) (q:Nat) (a:q=R.length):(((R.reverse++y::x::Z).map NV).set (q+1) (NV y)).set q (NV x)=(R.reverse++x::y::Z).map NV:=by
 subst a;have:=Wp (NV y) (NV x) (Z.map NV) (R.reverse.map NV);rw [zH,List.length_reverse] at this;simp only [qg,jy];exact this
theorem eL (w:World) (L no co gd n c base:Nat) (T:Option Addr) (os l:List Nat) (h:OfK w L T no co os) (ho:w.ownsRow base 3 1 (.slice gd n c) n (l.map NV)) (hl: ∀x∈l,x<no) (P':no<=1000000) (hn:n<=1000000) (h1:L≠gd) (h2:Off T [gd]):
  Calls prog 282 #[.slice gd n c,(),n, .func (.func 239) #[] #[.pointer L]] w λe w'=>e= .returned (.tuple #[])/\w'.ownsRow base 3 1 (.slice gd n c) n ((YO os [] l).reverse.map NV)/\qE [gd] w w':=by
 have z':l.length=n:=by have:=ho.1;simpa using this
 have P:=qj z';have Y:=qj ho;have OX:=qj h;have HL:=qj hl;have H1:=qj h1;have H2:=qj h2;clear h ho hl h1 h2 z';go_enter func282,ntmps282
 go_wp2_with fail;go_loopw [8] (λv8 wr=> ∃(i:Nat) (R:List Nat),v8=(i:Value)/\1<=i/\(i<=n\/n=0/\i=1)/\Hid (R.length=min i n)/\Hid (∀x∈R,x<no)/\Hid (YO os R (l.drop i)=YO os [] l)/\Hid (wr.ownsRow base 3 1 (.slice gd n c) n ((R.reverse++l.drop i).map NV))/\Hid (qE [gd] w wr)) (λv8 _=>n-(intOf v8).toNat)
 case atStart=>
  cases l with
  |nil=>
   have h0:n=0:=by have:=P.out;simpa using this.symm
   exact⟨1,[],rfl,qx _, .inr ⟨h0,rfl⟩,by rw [Hid,h0];rfl,by simp [Hid],rfl,Y,qE.refl _ _⟩
  |cons x t=>
   have h0:t.length+1=n:=by have:=P.out;simpa using this
   exact⟨1,[x],rfl,qx _, .inl uK,by rw [Hid,zJ];omega,by rw [Hid];intro z u;rw [qy.1 u];exact HL x (qo ..),rfl,Y,qE.refl _ _⟩
 case round=>
  clear Y;obtain⟨i,R,rfl,hi1,N9,HR,HX,HS,a,d⟩:=hrel;by_cases S':i<n
  ·have hlt':(i:Int)<(n:Int):=uK
   obtain⟨x,hx⟩: ∃x,l[i]? =some x:=⟨l[i]'(by rw [P.out];exact S'),qX _⟩
   have p':=HL.out x (zQ hx);have hd:=yL hx;rw [hd] at HS a;have iL:Hid (YO os (XU os x R) (l.drop (i+1))=YO os [] l):=HS.out;have X:R.length=i:=by rw [HR.out];omega
   clear N9 HS hx hd;obtain⟨Z,o⟩: ∃Z,Z=l.drop (i+1):=⟨_,rfl⟩;rw [<-o] at iL a;replace o:=qj o
   go_wp2_with fail;go_loopw [9] (λv9 wr=> ∃(s M:List Nat) (j:Nat),v9=(j:Value)/\j<=i/\Hid (j=s.length)/\Hid (s.length+M.length=R.length)/\Hid (∀x∈s,x<no)/\Hid (XU os x R=M++XU os x s)/\Hid (wr.ownsRow base 3 1 (.slice gd n c) n ((s.reverse++x::(M.reverse++Z)).map NV))/\Hid (qE [gd] w wr)) (λv9 _=>(intOf v9).toNat)
   case atStart=>exact⟨R,[],i,rfl,qx _,X.symm,by simp [Hid],HX,by simp [Hid],a,d⟩
   case round=>
    clear a d;obtain⟨s,M,j,rfl,hj,I,S,N,A,a,d⟩:=hrel;have J:=qj (OX.jZ d (by simpa using H1.out) H2)
    cases s with
    |nil=>
     obtain rfl:j=0:=I.out;have X':Hid (XU os x R=M++[x]):=A.out;have V:Hid ((XU os x R).length=min (i+1) n):=by rw [Hid,Ug,X];omega
     have f:Hid (wr.ownsRow base 3 1 (.slice gd n c) n (((XU os x R).reverse++l.drop (i+1)).map NV)):=by
      rw [Hid,X'.out,<-o.out];have:=a.out;simpa using this
     have d':Hid (∀z∈XU os x R,z<no):=λz u=>(UG os x z R u).elim (λe=>e▸p') (HX.out z);have Z':decide ((0:Int)<0)=false:=rfl;clear a A S J
     go_wp2_with fail;go_quiet (fail)
     have F:Hid ((wr.drewN nq).ownsRow base 3 1 (.slice gd n c) n (((XU os x R).reverse++l.drop (i+1)).map NV)):=f.out;have C:Hid (qE [gd] w (wr.drewN nq)):=d.drewN nq;generalize wr.drewN nq=w3 at*
     go_wp2_with fail;go_roundw
     case rel=>exact⟨i+1,XU os x R,s8,uK, .inl uK,V,d',by rw [Hid,<-o.out];exact iL,F,C⟩
     case measure=>simp [intOf];omega
    |cons y R2=>
     obtain⟨q,E⟩: ∃q,q=R2.length:=⟨_,rfl⟩;obtain rfl:j=q+1:=by have:=I.out;rw [qf] at this;omega
     have B:=a.out;rw [show(y::R2).reverse++x::(M.reverse++Z)=R2.reverse++y::x::(M.reverse++Z) by simp] at B
     have D:=IX R2 y x (M.reverse++Z) q E;have U:=mE R2 y x (M.reverse++Z) q E;have M':q+1<n:=uK;obtain⟨H,fj⟩:=xU B M';obtain⟨Q,fq⟩:=xU B (show q<n by omega)
     rw [D.1] at Q;rw [D.2] at H;have U':=N.out y (qo ..);have G:=qj (Qn (k:=q+1) B (NV y));have O:=qj (Qn (k:=q) G (NV x));rw [U] at O;have I':(wr.setCell ⟨gd,q+1,none⟩ (NV y)).cell? ⟨gd,q,none⟩=some (NV y):=by
      rw [(xU G.out (show q<n by omega)).1,Z_ uK,D.1]
     have r:Hid (qE [gd] w (((wr.setCell ⟨gd,q+1,none⟩ (NV y)).setCell ⟨gd,q,none⟩ (NV x)).drew)):=((d.zh (p:=⟨gd,q+1,none⟩) (qy.2 rfl) _).zh (p:=⟨gd,q,none⟩) (qy.2 rfl) _).drew;have g:=qj (λm=>Ss (wr.drewN m) L no co x y T os (J.drewN m) p' U' P');have hj1:((q:Int)+1)<(n:Int):=uK;have hq1:(q:Int)<(n:Int):=uK;have hq0:(0:Int)<=(q:Int):=uK;have hj0:(0:Int)<=(q:Int)+1:=uK;have wq:IntKind.i64.wrap (q:Int)=(q:Int):=SX;have wj:IntKind.i64.wrap ((q:Int)+1)=(q:Int)+1:=SX;have J':decide ((0:Int)<(q:Int)+1)=true:=qw uK;have G':(0:Int)<(q:Int)+1:=uK;unfold Og at g;by_cases v:os.getD x 0<os.getD y 0
     ·have m':Hid (XU os x R=(M++[y])++XU os x R2):=by
       have:=A.out;rw [XU.eq_2,qk v] at this;rw [Hid,this];simp
      rw [qk v] at g;have N6:Hid (∀z∈R2,z<no):=λz u=>N.out z (qM _ u);have Y':Hid (R2.length+(M++[y]).length=R.length):=by have:=S.out;rw [Hid];simp at this⊢;omega
      have f:Hid ((((wr.setCell ⟨gd,q+1,none⟩ (NV y)).setCell ⟨gd,q,none⟩ (NV x)).drew).ownsRow base 3 1 (.slice gd n c) n ((R2.reverse++x::((M++[y]).reverse++Z)).map NV)):=by
       rw [show R2.reverse++x::((M++[y]).reverse++Z)=R2.reverse++x::y::(M.reverse++Z) by simp]
       exact O.out
      have HQ:=qj E;unfold NV at*
      clear v A a B D U G O N S I E
      go_wp2_with fail;go_quiet ((go_at_call 239;exact Uf (g.out _)))
      go_wp2_with fail;refine zv 14 (λW=>W.cell? ⟨gd,q+1,none⟩=some (x:Value)/\W.cell? ⟨gd,q,none⟩=some (y:Value)) AL ⟨H,Q⟩ (λQ'=> ?_)
      refine Z6 [0,1,2,3,4,5,6,7,8] (a':= ?_) ?_;refine zq [9] (a':= ?_) ?_;refine Z6 [10,11,12] (a':= ?_) ?_;refine zq [13] (a':= ?_) ?_;refine j4 14 rfl AL FV SQ (λK b=> ?_);go_simp;refine b _ _ ?_;clear b K;try simp only [Act.put,qQ,qY,qV]
      refine j4 15 rfl AL FV SQ (λK b=> ?_);go_simp;refine b _ _ ?_;clear b K;try simp only [Act.put,qQ,qY,qV]
      refine j4 16 rfl AL FV SQ (λK b=> ?_);go_simp;refine b _ _ ?_;clear b K;try simp only [Act.put,qQ,qY,qV]
      refine j4 17 rfl AL FV SQ (λK b=> ?_);go_simp;refine b _ _ ?_;clear b K;try simp only [Act.put,qQ,qY,qV]
      refine zV AL ?_ _;clear Q';have F:Hid ((((wr.drewN (nq+1)).setCell ⟨gd,q+1,none⟩ y).setCell ⟨gd,q,none⟩ x).ownsRow base 3 1 (.slice gd n c) n ((R2.reverse++x::((M++[y]).reverse++Z)).map λt:Nat=> .int .i64 (t:Int))):=f.out;have C:Hid (qE [gd] w (((wr.drewN (nq+1)).setCell ⟨gd,q+1,none⟩ y).setCell ⟨gd,q,none⟩ x)):=⟨r.os,r.tape,r.output,r.size,r.block⟩;generalize (((wr.drewN (nq+1)).setCell ⟨gd,q+1,none⟩ y).setCell ⟨gd,q,none⟩ x)=w5 at*
      clear f r H Q I' fj fq g J wq wj J' G'
      go_wp2_with fail;go_roundw
      case rel=>exact⟨R2,M++[y],q,s8,uK,HQ,Y',N6,m',F,C⟩
      case measure=>simp [intOf]
     ·have m':Hid (XU os x R=M++x::y::R2):=by
       have:=A.out;rw [XU.eq_2,qJ v] at this;exact this
      rw [qJ v] at g;have V:Hid ((XU os x R).length=min (i+1) n):=by rw [Hid,Ug,X];omega
      have d':Hid (∀z∈XU os x R,z<no):=λz u=>(UG os x z R u).elim (λe=>e▸p') (HX.out z);have f:Hid (wr.ownsRow base 3 1 (.slice gd n c) n (((XU os x R).reverse++l.drop (i+1)).map NV)):=by
       rw [Hid,m'.out,<-o.out];have:=a.out;simpa using this
      have O': ∃cv:Int,cv=(if os.getD y 0<os.getD x 0 then(1:Int) else 0)/\decide (cv<0)=false:=by
       by_cases h:os.getD y 0<os.getD x 0
       ·rw [qk h];exact⟨1,rfl,rfl⟩
       ·rw [qJ h];exact⟨0,rfl,rfl⟩
      obtain⟨cv,u',hcv0⟩:=O';rw [<-u'] at g;have HMr:=d;clear u' v A a B D U G O N S I E r I';unfold NV at*
      go_wp2_with fail;go_quiet ((go_at_call 239;exact Uf (g.out _)))
      have F:Hid ((wr.drewN nq).ownsRow base 3 1 (.slice gd n c) n (((XU os x R).reverse++l.drop (i+1)).map λt:Nat=> .int .i64 (t:Int))):=f.out;have C:Hid (qE [gd] w (wr.drewN nq)):=d.drewN nq;generalize wr.drewN nq=w3 at*
      clear f H Q fj fq g J wq wj J' G'
      go_wp2_with fail;go_roundw
      case rel=>exact⟨i+1,XU os x R,s8,uK, .inl uK,V,d',by rw [Hid,<-o.out];exact iL,F,C⟩
      case measure=>simp [intOf];omega
  ·have hge: ¬(i:Int)<(n:Int):=uK
   have D':Hid (l.drop i=[]):=zD (by rw [P.out];omega)
   have N':Hid (R=YO os [] l):=by rw [Hid,<-HS.out,D'.out];rfl
   have f:Hid (wr.ownsRow base 3 1 (.slice gd n c) n (R.reverse.map NV)):=by
    have:=a.out;rw [D'.out,jx] at this;exact this
   clear a HS
   go_wp2_with fail
   go_end0
   exact⟨rfl,by rw [<-N'.out];simpa using f.out,d.out⟩
theorem Pf:(prog.info? 3).map (λi=>(i.zero,i.size,i.bytes))=some (some (.int .i64 0),1,8):=AL
def Cd (w:World) (base gd n c:Nat) (os l:List Nat) (e:Ending) (w':World):Prop:=
 e= .returned (.tuple #[])/\w'.ownsRow base 3 1 (.slice gd n c) n ((YO os [] l).reverse.map NV)/\ ∃m,qE (gd::m) w w'/\ ∀k∈m,w.heap.size<=k
theorem CD (w:World) (a no j gd n c base:Nat) (d:q') (os l:List Nat) (h:OfK w a d no j os) (g:w.ownsRow base 3 1 (.slice gd n c) n (l.map NV)) (i: ∀x∈l,x<no) (q:no<=1000000) (r:n<=19) (h1:a≠gd) (h2:Off d [gd]):
  Calls prog 263 #[.slice gd n c,n, .func (.func 239) #[] #[.pointer a]] w (Cd w base gd n c os l):=by
 have K:=qj (eL w a _ j _ n c _ d _ l h g i q uK h1 h2);clear h g i;go_wp2;go_loopw [7,8] (λm o wr=>m= .int .i64 0/\o= .int .i64 20/\w=wr) (λ_ _ _=>0)
 ·exact⟨rfl,rfl,rfl⟩
 ·obtain⟨rfl,rfl,rfl⟩:=hrel;go_wp2_with fail;refine zC K ?_;rintro p ⟨b,f⟩;replace b:=qj b;replace f:=qj f;go_wp2;go_loopw [6] (λk wr=>k= .int .i64 20/\p=wr) (λ_ _=>0)
  ·exact⟨rfl,rfl⟩
  ·obtain⟨rfl,rfl⟩:=hrel;go_wp2;go_end0;exact⟨rfl,b,_,f,s8⟩
theorem dU (w:World) (a no j gd n c base:Nat) (d:q') (os l:List Nat) (h:OfK w a d no j os) (g:w.ownsRow base 3 1 (.slice gd n c) n (l.map NV)) (i: ∀x∈l,x<no) (m:no<=1000000) (k:n<=19) (h1:a≠gd) (h2:Off d [gd]):
  Calls prog 238 #[.slice gd n c, .func (.func 239) #[] #[.pointer a]] w (Cd w base gd n c os l):=by
 have K:=qj (CD w a _ j _ n c _ d _ l h g i m k h1 h2);clear h g i;go_in;go_wp2_with fail;refine zC K ?_;rintro o ⟨b,f⟩;replace b:=qj b;replace f:=qj f;go_wp2;go_end0;exact⟨rfl,b,f⟩
theorem Cf (w:World) (A:q') (c:Nat) (F:Value):
  Calls prog 282 #[.slice A 0 c,(),(),F] w λe w'=>e= .returned (.tuple #[])/\w=w':=by
 go_wp2;go_loopw [8] (λa wr=>a= .int .i64 1/\w=wr) (λ_ _=>0)
 ·exact⟨rfl,rfl⟩
 ·obtain⟨rfl,rfl⟩:=hrel;go_wp2;go_end0;exact⟨rfl,rfl⟩
theorem qqq (w:World) (A:q') (c:Nat) (F:Value):
  Calls prog 263 #[.slice A 0 c,(),F] w λe w'=>e= .returned (.tuple #[])/\w=w':=by
 have K:=qj (Cf w A c F);go_wp2;go_loopw [7,8] (λb d wr=>b= .int .i64 0/\d= .int .i64 20/\w=wr) (λ_ _ _=>0)
 ·exact⟨rfl,rfl,rfl⟩
 ·obtain⟨rfl,rfl,rfl⟩:=hrel;go_wp2_with fail;refine Ω K ?_;go_wp2;go_loopw [6] (λa wr=>a= .int .i64 20/\w=wr) (λ_ _=>0)
  ·exact⟨rfl,rfl⟩
  ·obtain⟨rfl,rfl⟩:=hrel;go_wp2;go_end0;exact⟨rfl,rfl⟩
theorem DO (w:World) (A:q') (c:Nat) (F:Value):
  Calls prog 238 #[.slice A 0 c,F] w λe w'=>e= .returned (.tuple #[])/\w=w':=by
 have K:=qj (qqq w A c F);go_in;go_wp2_with fail;refine Ω K ?_;go_wp2;go_end0;exact⟨rfl,rfl⟩
def mr (os:List Nat):Prop:=(vA 0 os).length<=19
theorem Yq: ∀(os:List Nat) (i x:Nat),x∈vA i os->i<=x/\x<i+os.length
 |[],i,x,h=>by simp [vA] at h
 |n::t,i,x,h=>by
  unfold vA at h;rw [qf];split at h
  ·rcases qL.1 h with h|h
   ·omega
   ·have:=Yq t _ x h;omega
  ·have:=Yq t _ x h;omega
theorem uF: ∀(os:List Nat) (i:Nat),(vA i os).length<=os.length
 |[],i=>qx _
 |n::t,i=>by
  unfold vA;split
  ·have:=uF t (i+1);simp;exact this
  ·have:=uF t (i+1);simp;omega
theorem Fo {os:List Nat} (h:x∈Z0 os):x<os.length:=by
 unfold Z0 at h;rcases bI _ x _ _ (List.mem_reverse.1 h) with h|h
 ·cases h
 ·have:=Yq _ 0 x h;omega
theorem e_ (os:List Nat):(Z0 os).length=(vA 0 os).length:=by unfold Z0;rw [List.length_reverse,bO];simp
theorem Dx: ∀(os:List Nat) (i n:Nat),vA i (os++[n])=vA i os++(if 0<n then [i+os.length] else [])
 |[],i,n=>by simp [vA]
 |m::t,i,n=>by
  show vA i (m::(t++[n]))=_
  unfold vA;rw [Dx t (i+1) n,qf,show i+1+t.length=i+(t.length+1) by omega]
  split<;>simp
theorem mR (f:q') (no j B:Nat) (os:List Nat) (w:World) (h:Reads w B 1 f no (os.map C32)) (hB:B<=w.heap.size) (U':no<=300) (hf:mr os):
  Calls prog 204 #[.slice f no j] w λe w'=> ∃A' U,e= .returned (.slice A' (Z0 os).length U)/\w'.ownsRow w 3 1 (.slice A' (Z0 os).length U) (Z0 os).length ((Z0 os).map NV)/\Below w w w':=by
 obtain⟨i0,hi,J,K,T⟩:=xt Pf;have H:=qj h;have M:=qj hB;have E:=qj h.len;have HF:=qj hf;clear h hB hf;go_in;go_wp2_with fail;have u':Hid (Blk (w.alloc (.cells #[.slice f no j] 180)) w 180 #[.slice f no j]):=Blk.new w _ _;have V:Hid (Below w w (w.alloc (.cells #[.slice f no j] 180))):=z8 _;have Q:=qj u'.lt;generalize w.alloc (.cells #[.slice f no j] 180)=w1 at*;have c1:=u'.cell 0;simp only [qR,qt] at c1;obtain⟨a,N9⟩:=j1 w1;subst N9;go_wp2;go_loopw [3,8] (λv3 R wr=> ∃(i m c:Nat) (A:q'),R=(i:Value)/\v3= .slice A m c/\i<=no/\m<=i/\Hid (m=(vA 0 (os.take i)).length)/\Hid (wr.ownsRow a 3 1 (.slice A m c) m ((vA 0 (os.take i)).map NV))/\Hid (Below a a wr)) (λ_ R _=>no-(intOf R).toNat)
 ·exact⟨0,0,0,none,rfl,rfl,qp _,qx _,rfl,qP _ _ _ _,qZ _ _⟩
 ·obtain⟨i,m,c,A,rfl,rfl,Y',hm,g,b,n⟩:=hrel;have q:=qj (V.trans (n.mono (zr Q)));by_cases N6:i<no
  ·have Z':=j' i no;obtain⟨ad,u,t,-,L,J'⟩:=(H.below (q.mono M)).at_ N6;subst t;obtain⟨z,P,rfl⟩:=get_map _ _ i u L;have O:(os.take i).length=i:=by rw [qh,E.out];omega
   have d:vA 0 (os.take (i+1))=vA 0 (os.take i)++(if 0<z then [i] else []):=by
    rw [qs,P];show vA 0 (os.take i++[z])=_;rw [Dx,O,jL]
   unfold C32 at J';by_cases I:0<z
   ·have M':=yn z;rw [qk I] at d;replace d:=qj d;have O':m+1<=maxLen:=SJ;have s:(m+1)*8<=140737488355328:=uK;have I':=qj n.size;clear I P L O;go_wp2_with (at_builtin;refine qF _ rfl (.tmp 15) (.tmp 17) 62 rfl a 3 i0 () 1 8 jj hi J K T rfl uK A m c _ rfl (b.alloc _) (wr.heap.size+1) wr.heap.size 1 1 [.int .i64 (i:Int)] rfl (zU _ _ _) (one_one rfl) O' s (qv I' s8) ?_;intro A3 c3 w4 r d' z';have D':=qj (zG (n.alloc n.size _) d' (b.alloc _) (qv n.size s8));replace r:=qj r;clear d' z');have C:Hid (m+1=(vA 0 (os.take (i+1))).length):=by rw [Hid,d.out,qK,<-g.out];rfl
    have N:Hid (w4.ownsRow a 3 1 (.slice A3 (m+1) c3) (m+1) ((vA 0 (os.take (i+1))).map NV)):=by
     rw [Hid,d.out,qg];exact r.out
    go_wp2_with fail;refine xk ?_;exact⟨i+1,m+1,c3,A3,xb,s8,uK,uK,C,N,D'⟩
   ·rw [qJ I,jx] at d;have C:Hid (m=(vA 0 (os.take (i+1))).length):=by rw [Hid,d];exact g.out
    have N:Hid (wr.ownsRow a 3 1 (.slice A m c) m ((vA 0 (os.take (i+1))).map NV)):=by
     rw [Hid,d];exact b.out
    clear P L O g b;go_wp2_with fail;refine xk ?_;exact⟨i+1,m,c,A,xb,rfl,uK,uK,C,N,n⟩
  ·have X':=vv i no;obtain rfl:i=no:=uK;have d:=qH (by rw [E.out];exact qx _);rw [d] at g b;have Q':m<=19:=by rw [g.out];exact HF.out
   have y:OfK a w f i j os:=⟨c1,B,H.below (V.mono M)⟩;have o:=e_ os;rw [<-g.out] at o;replace o:=qj o;have v:=qj (zr Q.out);rcases zA m with h0|h0
   ·subst h0;have p:=λF=>qj (DO wr A c F);have m':=qj (zl o.out);have D:Hid (wr.ownsRow w 3 1 (.slice A 0 c) 0 []):=by
     have:=qi b v.out;rw [show vA 0 os=[] from zl g.symm] at this;exact this
    clear y g b;go_wp2_with fail;refine Ω (p _).out ?_;go_wp2;go_ret;refine⟨A,c, ?_, ?_,q⟩
    ·rw [m'.out];rfl
    ·rw [m'.out];exact D.out
   ·obtain⟨gd,rfl⟩:=Kq b h0;have W:=(zj b gd (by simp [fpS])).1;have OX:0<i:=uK;obtain⟨ad,t,G',_⟩:=H.out.2 OX;have Y:Off f [gd]:=λS' h'=>by
     rw [t] at h';obtain rfl:=zy h';simp;have:=M.out;have:=v.out;omega
    have iL:w.heap.size≠gd:=by have:=Q.out;omega
    have Z:=y.jZ (l:=[]) (qE.jq n) s8 (λ_ _=>s8);have p:=qj (dU _ w i j _ m c a f _ _ Z b (λx hx=>by have:=Yq _ 0 x hx;have:=E.out;omega) uK Q' iL Y);have P':=qj W;unfold Cd at p;clear Z Y iL G' t W y g b;go_wp2_with fail;refine zC p ?_;rintro G ⟨X,l2,s,p'⟩;have N':=qj (q.trans (s.below (λk S=>by
     rcases qL.1 S with rfl|S
     ·have:=P'.out;have:=v.out;omega
     ·have:=p' k S;have:=q.size;omega) q.size))
    have D:Hid (G.ownsRow w 3 1 (.slice gd m c) m ((Z0 os).map NV)):=qi X v.out;clear X s p';go_wp2;go_ret;refine⟨some ⟨gd,0,none⟩,c, ?_, ?_,N'⟩
    ·rw [o.out];rfl
    ·rw [o.out];exact D.out
def J9 (a:List Nat):List Int:=a.map (λx:Nat=>(x:Int))
theorem TY (b c:Int) (a:List Nat) (k:Nat) (d:k<a.length):dy b c (J9 (a.drop k))=(decide (c<(a[k]:Int))&&(decide ((a[k]:Int)<b)&&dy b (a[k]:Int) (J9 (a.drop (k+1))))):=by
 rw [zK d];rfl
theorem EM (a:Int) (A:q') (n c B:Nat) (d:List Nat) (w:World) (h:Reads w B 1 A n (d.map NV)) (E:n<=1000000):
  Calls prog 129 #[a, .slice A n c] w λe w'=>e= .returned (.bool (dy a (-1) (J9 d)))/\w=w':=by
 have H:=qj h;have q:=qj h.len;obtain⟨R,i⟩:=j1 (dy a (-1) (J9 d));rw [<-i];replace i:Hid (dy a (-1) (J9 (d.drop 0))=R):=i.symm;clear h;go_wp2;go_loopw [5,10] (λv m wr=> ∃(k:Nat) (f:Int),v=(f:Value)/\m=(k:Value)/\k<=n/\Hid (dy a f (J9 (d.drop k))=R)/\wr=w) (λ_ m _=>n-(intOf m).toNat)
 ·exact⟨0,-1,rfl,rfl,qp _,i,rfl⟩
 ·obtain⟨k,f,rfl,rfl,F,j,rfl⟩:=hrel;by_cases r:k<n
  ·have D:=j' k n;have z:=xi k;obtain⟨C,u,rfl,-,l,y⟩:=H.at_ r;have o:k<d.length:=by rw [q.out];exact r
   rw [qD,qX o] at l;have b:=j.out;rw [TY _ _ _ _ o] at b;generalize d[k]=x at*;have s:u=(x:Value):=(zy l).symm;subst s;replace b:=qj b;clear l j;by_cases h1:(x:Int)<=f
   ·have g:Hid (R=false):=by rw [Hid,<-b.out,qc uK];rfl
    go_wp2;go_ret;exact⟨by rw [g.out];rfl,rfl⟩
   ·by_cases h2:a<=(x:Int)
    ·have g:Hid (R=false):=by rw [Hid,<-b.out,qc (p:=(x:Int)<a) uK];simp
     go_wp2;go_ret;exact⟨by rw [g.out];rfl,rfl⟩
    ·have t:Hid (dy a (x:Int) (J9 (d.drop (k+1)))=R):=by
      rw [Hid,<-b.out,qw (p:=f<(x:Int)) uK,qw (p:=(x:Int)<a) uK];rfl
     go_wp2_with fail;refine xk ?_;exact⟨k+1,(x:Int),xb,xh,uK,t,y'⟩
  ·obtain rfl:k=n:=uK;have g:Hid (R=true):=by rw [Hid,<-j.out,zD (by rw [q.out];omega)];unfold J9;simp [dy]
   clear j;go_wp2;go_ret;exact⟨by rw [g.out];rfl,rfl⟩
theorem Eo (h1:1<=n) (h2:n<=a):pU a n=Nat.log2 (a/n):=by
 unfold pU;have:a/n≠0:=by have:=Nat.div_pos h2 h1;omega
 rw [qJ this];omega
theorem p5 (h1:1<=n) (h2:n<=a) (h3:a<=20000):pU a n<=14:=by
 rw [Eo h1 h2];have h:1<=a/n:=Nat.div_pos h2 h1;have h4:a/n<=20000:=qv (xr _ _) h3;have:=(Nat.log2_lt (n:=a/n) (k:=15) uK).2 uK;omega
theorem Dk (a n:Nat) (w:World) (h1:1<=n) (h2:n<=a) (h3:a<=20000):
  Calls prog 130 #[a,n] w λe w'=>e= .returned (pU a n:Int)/\w=w':=by
 rw [Eo h1 h2];have b:1<=a/n:=Nat.div_pos h2 h1;have g:a/n<=20000:=qv (xr _ _) h3;have K:=qj (DQ _ w b uK);have c:(a:Int).tdiv (n:Int)=((a/n:Nat):Int):=Y_ a n;have i:Nat.log2 (a/n)<16:=PB b uK;generalize a/n=q at*;generalize Nat.log2 q=L at*;have h:IntKind.u64.wrap (q:Int)=(q:Int):=by rw [qS];omega
 have j:IntKind.i64.wrap (q:Int)=(q:Int):=SX;have d: ¬n=0:=uK;go_in;go_wp2_with fail;refine Ω K ?_;go_wp2;go_ret;refine⟨?_,rfl⟩;first|rfl|(congr 2;omega)|(congr 1;simp)
theorem nH:(prog.info? 43).map (λi=>(i.zero,i.size,i.bytes))=some (some (.int .u64 0),1,8):=AL
def V64 (x:Nat):Value:= .int .u64 (x:Int)
def Ww (W:World) (c:Nat) (A:q') (N cap:Nat) (b:qn) (r:List Nat×Cu) (e:Ending) (a:World):Prop:=
 ∃f d,e= .returned (.slice f r.1 d)/\a.ownsRow W 43 1 (.slice f r.1 d) r.1 (r.1.map V64)/\Cur a c A N cap b r.2/\qE [c] W a
theorem Iu (z:Nat) (h:z<18446744073709551616):zag z<18446744073709551616:=by
 unfold zag;split<;>omega
theorem OE (b:qn) (c:Cu):(X7 b c).1<18446744073709551616:=by
 unfold X7;dsimp only;split
 ·omega
 ·exact wQ _
theorem CS (W:World) (a:Nat) (A:Option Addr) (N cap n:Nat) (b:List UInt8) (c:Cu) (h:Cur W a A N cap b c) (hn:n<=20000):
  Calls prog 229 #[.agg #[.pointer a],n] W (Ww W a A N cap b (Q4 b n 0 c [])):=by
 obtain⟨i0,hi,L,V,Q⟩:=qA nH;replace hi:=qj hi;replace L:=qj L;replace V:=qj V;replace Q:=qj Q;obtain⟨R,y⟩: ∃R,R=Q4 b n 0 c []:=⟨_,rfl⟩;rw [<-y];replace y:Hid (Q4 b n 0 c []=R):=y.symm;have U:Hid (a<W.heap.size):=h.blk.lt;have N':Hid (∀k∈fpS A,k<W.heap.size):=λk d=>(zj h.own k d).2;have Z:=qj (h.fresh ((qZ _ _).alloc (qx _) (.cells #[.pointer a] 293)));have G':Hid (Blk (W.alloc (.cells #[.pointer a] 293)) W.heap.size 293 #[.pointer a]):=Blk.new _ _ _;have m':Hid (qE [a] W (W.alloc (.cells #[.pointer a] 293))):=(qE.refl _ _).alloc _;have p':Hid (W.heap.size+1<=(W.alloc (.cells #[.pointer a] 293)).heap.size):=by rw [Hid];simp
 clear h;go_enter func229,ntmps229
 go_wp2_with fail;generalize W.alloc (.cells #[.pointer a] 293)=w0 at*
 go_loopw [5,6] (λX v6 wr=> ∃(m c2 q f:Nat) (l:Option Addr) (g:Cu) (i:List Nat),X= .slice l m c2/\v6= .int .u64 (q:Int)/\m+f=n/\q<18446744073709551616/\Hid (i.length=m)/\Hid (Q4 b f q g i=R)/\Hid (Cur wr a A N cap b g)/\Hid (Blk wr W.heap.size 293 #[.pointer a])/\Hid (wr.ownsRow (W.heap.size+1) 43 1 (.slice l m c2) m (i.map V64))/\Hid (qE [a] W wr)/\Hid (W.heap.size+1<=wr.heap.size)) (λX _ _=>n-Y8 X)
 case atStart=>exact⟨0,0,0,n,none,c,[],rfl,rfl,uK,uK,rfl,y,Z,G',qP _ _ _ _,m',p'⟩
 case round=>
  clear Z G' m' y p';obtain⟨m,c2,q,f,l,g,i,rfl,rfl,X',Y',J,r,w,K,p,C,HS⟩:=hrel;have q0:=K.cell 0;simp only [qR,qt] at q0;by_cases Z':m<n
  focus
   have hlt':(m:Int)<(n:Int):=uK
   obtain⟨f,rfl⟩: ∃f',f=f'+1:=⟨f-1,uK⟩;have D:=qj (jg wr a A N cap b g w);have j:=r.out;unfold Q4 at j;by_cases v:g.err=0
   ·rw [qJ (by simpa using v)] at j
    have H:=qj (Fc wr a A N cap b g w);have M:=OE b g;generalize X7 b g=nc at*
    obtain⟨x,P'⟩:=nc;dsimp only at j H M;have KZ:=λW=>qj (Oe x W M);have hz:=Iu x M;generalize zag x=z at*
    obtain⟨s,I⟩: ∃s,s=(q+z)%18446744073709551616:=⟨_,rfl⟩;rw [<-I] at j;have N9:s<18446744073709551616:=by rw [I];exact xC _ uK
    have ws:IntKind.u64.wrap ((q:Int)+(z:Int))=(s:Int):=by rw [qS];omega
    rw [v] at D;unfold jS at H;have OX:m+1<=maxLen:=SJ;have N6:(m+1)*8<=140737488355328:=uK;replace j:=qj j;replace I:=qj I;clear r v
    go_wp2_with fail;refine D.mono ?_;rintro e w' ⟨rfl,rfl⟩
    go_wp2_with fail;refine H.mono ?_;rintro e G ⟨rfl,iL,t⟩;have d':=qj iL;have u':=qj (C.then t);have z':=qj (t.blk K (by rw [qy];have:=U.out;omega))
    have P:=qj (t.own p (λk d O=>by have:=(zj p k d).1;rw [qy.1 O] at this;have:=U.out;omega))
    have S:Hid (W.heap.size+1<=G.heap.size):=qv HS t.size;clear D H iL t w C K p HS q0
    go_wp2_with fail;refine(KZ _).out.mono ?_;rintro e w' ⟨rfl,rfl⟩
    go_wp2_with (at_builtin;refine qF _ rfl (.tmp 23) (.tmp 25) 169 rfl (W.heap.size+1) 43 i0 (.int .u64 0) 1 8 underlying169 hi L V Q rfl uK l m c2 _ rfl (P.alloc _) (G.heap.size+1) G 1 1 [.int .u64 (s:Int)] rfl (zU _ _ _) (one_one rfl) OX N6 (qv S s8) ?_;intro A4 c4 B F D' J';have o:qE (fpS l) (G.alloc (.cells #[.int .u64 (s:Int)] 43)) B:=(qE.refl _ _).grown D' (λk d=> .inl d);replace F:=qj F;replace o:=qj o;clear D' J')
    have u: ∀k∈fpS l,W.heap.size+1<=k:=λk d=>(zj P k d).1;have I':=qj ((d'.fresh ((qZ _ _).alloc (qx _) (.cells #[.int .u64 (s:Int)] 43))).jZ o (λd=>by have:=u _ d;have:=U.out;omega) (λk d O=>by have:=u _ O;have:=N'.out k d;omega))
    have Q':=qj (o.blk (z'.alloc (.cells #[.int .u64 (s:Int)] 43)) (λd=>by have:=u _ d;omega))
    have M':Hid (qE [a] W B):=(u'.alloc (.cells #[.int .u64 (s:Int)] 43)).trans o (λk d=> .inr (by have:=u k d;omega))
    have O':Hid (B.ownsRow (W.heap.size+1) 43 1 (.slice A4 (m+1) c4) (m+1) ((i++[s]).map V64)):=by rw [Hid,qg];exact F.out
    have U':Hid (W.heap.size+1<=B.heap.size):=qv S (qv s8 o.size);have S':Hid ((i++[s]).length=m+1):=by rw [Hid,qK,J.out];rfl
    clear u d' z' u' P S o F KZ;go_roundw
    case rel=>exact⟨m+1,c4,s,f,A4,P',i++[s],by first|rfl|simp,by first|rfl|simp,uK,N9,S',j,I',Q',O',M',U'⟩
    case measure=>simp [Y8];omega
   focus
    have Y:Hid (R=(i,g)):=by rw [Hid,<-j,qk (by simpa using v)]
    have hzn:(g.err==0)=false:=by simpa using v
    generalize g.err=E at*
    have T:=qj (qi p (show W.heap.size<=W.heap.size+1 by omega))
    clear r j p
    go_wp2_with fail;refine D.mono ?_;rintro e w' ⟨rfl,rfl⟩
  rotate_left
  focus
   obtain rfl:f=0:=uK
   have hge: ¬(m:Int)<(n:Int):=uK;have Y:Hid (R=(i,g)):=by rw [Hid,<-r.out];rfl
   have T:=qj (qi p (show W.heap.size<=W.heap.size+1 by omega))
   clear r p
  all_goals
   go_wp2_with fail;go_ret;unfold Ww;rw [Y.out];dsimp only;rw [J.out];exact⟨l,c2,rfl,T.out,w.out,C.out⟩
theorem rm (c:Int): ∀(d:Int) (b:List Nat),dy c d (J9 b)=true->(∀x∈b,d<(x:Int)/\(x:Int)<c)/\(∀k,(h:k+1<b.length)->b[k]<b[k+1])
 |d,[],_=>⟨s8,λk h=>by simp at h⟩
 |d,a::t,h=>by
  have h1:(decide (d<(a:Int))&&(decide ((a:Int)<c)&&dy c (a:Int) (J9 t)))=true:=h;simp only [zR,zd] at h1;obtain⟨h2,h3,h4⟩:=h1;have e:=rm c _ t h4;refine⟨λx f=> ?_,λk g=> ?_⟩
  ·rcases qL.1 f with rfl|f
   ·exact⟨h2,h3⟩
   ·have:=e.1 x f;omega
  ·cases k with
   |zero=>
    have h5:0<t.length:=by simpa using g
    show a<t[0]
    have:=e.1 t[0] (zx _);omega
   |succ k=>exact e.2 k _
theorem U3 (b:Int): ∀(c:Int) (d:List Nat),c<b->dy b c (J9 d)=true->c+(d.length:Int)<b
 |c,[],e,_=>by simpa using e
 |c,a::t,_,h=>by
  have h1:(decide (c<(a:Int))&&(decide ((a:Int)<b)&&dy b (a:Int) (J9 t)))=true:=h;simp only [zR,zd] at h1;have:=U3 b _ t h1.2.1 h1.2.2;rw [qf];omega
def YJ (a:Nat) (b:List Nat):Bw:=b.foldl (λs x=>Jh s (x%2^a) a) ⟨[],0⟩
theorem Gk (b:Nat) (a:List Nat) (k:Nat) (c:k<a.length):YJ b (a.take (k+1))=Jh (YJ b (a.take k)) (a[k]%2^b) b:=by
 unfold YJ;rw [qs,qX c,List.foldl_append];rfl
theorem aa (b:Nat) (a:List Nat): ∀k,k<=a.length->(YJ b (a.take k)).n=k*b
 |0,_=>by simp [YJ]
 |k+1,h=>by rw [Gk b a k uK,YH,aa b a k uK,ql]
theorem O8 (h:x<2^a) (b:a<=63):PR s x (a:Int)=Jh s x a:=by
 unfold PR;rw [qk (Fm (by
  rintro(h1|h1|⟨_,h1⟩)
  ·omega
  ·omega
  ·exact h1 (by rw [zc];exact xW h)))]
 rfl
theorem O9 {d:Nat} (h:d<=100000):oW s (d:Int)=U_ s d:=by
 unfold oW;rw [qk (show sg (d:Int)=0 from qJ uK)];rfl
theorem rM (b c:Nat) (s:Bw) (a:List Nat) (k:Nat) (d:k<a.length):Kc b c s (a.drop k)=Kc b (a[k]/2^b) (U_ s (a[k]/2^b-c)) (a.drop (k+1)):=by
 rw [zK d];rfl
def WrB (b W:World) (a:Nat) (s:Bw):Prop:= ∃A cap,Wr W a 187 [] A cap s/\(∀k∈fpS A,a<=k)/\Below a b W
theorem WrB.step {e W c:World} {A d:q'} {cap i:Nat} {j:Bw} (h:Wr W a 187 [] A cap s) (g: ∀k∈fpS A,a<=k) (m:Below a e W) (l:Wr c a 187 [] d i j) (f:WrK W c a A d):WrB e c a j:=
 ⟨d,i,l,λk b=>(f.fp k b).elim (g k) λh2=>qv (zr h.blk.lt) h2,m.trans (f.jZ.below (λk b=>by
  rcases qL.1 b with rfl|b
  ·exact qx _
  ·exact g k b) (zr h.blk.lt))⟩
end Go.Proofs.YtfnlfpcfkbdcmaaGreatDoor
