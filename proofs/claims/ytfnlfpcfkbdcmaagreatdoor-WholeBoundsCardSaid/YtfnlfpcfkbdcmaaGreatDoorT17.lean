import Derived.Test.YtfnlfpcfkbdcmaaGreatDoorT09
import Derived.Test.YtfnlfpcfkbdcmaaGreatDoorT12
set_option linter.unusedSimpArgs false
set_option linter.unusedVariables false
set_option maxRecDepth 100000
set_option maxHeartbeats 0
open Go.Proofs.Tryz
namespace Go.Proofs.YtfnlfpcfkbdcmaaGreatDoor
variable {Q:Exit->Act->I->Prop}{a f:I}
section
variable {A:q'}{B N b0 base c ch d e k n x:O}{b:qn}{wr:I}
section
open Go.RowKit
section
def yY (b:qn) (ch x:O):qn:=(b.drop (x*ch)).take ch
def vr (k ch:O) (b:qn):S qn:=(List.range k).map (yY b ch)
def nT (k m ch:O) (b:qn):qn:=((pZ k m ch (vr k ch b)).map dc).flatten
def cI (k m ch:O) (P:qn) (s:O):qn:=((List.range s).map λt=>nT k m ch ((P.drop (t*(k*ch))).take (k*ch))).flatten
def eP (d:O) (b:qn):qn:=b++List.replicate (Fa d (U b)*d-U b) 0
def R_ (k m ch:O) (b:qn):qn:=cI k m ch (eP (k*ch) b) (Fa (k*ch) b)
theorem K_ (a:U b=N) (c:(x+1)*ch<=N):U (yY b ch x)=ch:=by
 unfold yY;rw [qh,qI,a];rw [ql] at c;omega
theorem V4 (k ch:O) (b:qn):U (vr k ch b)=k:=by simp [vr]
theorem tq {i:O} (h:i<k):(vr k ch b)[i]? =J (yY b ch i):=by
 unfold vr;rw [qD,jJ h];rfl
theorem uk (c:U b=k*ch): ∀x∈vr k ch b,U x=ch:=λx a=>by
 unfold vr at a;obtain⟨t,ht,rfl⟩:=jB.1 a;exact K_ c (zk _ (js.1 ht))
theorem FP {L:O}: ∀(l:S qn),(∀x∈l,U x=L)->U l.flatten=U l*L
 |[],_=>s8
 |a::t,h=>by rw [xI,qK,h a (qo ..),FP t (λx b=>h x (qM _ b)),qf,ql,Nat.add_comm]
theorem Sd (k m ch:O) (P:qn) (s:O):cI k m ch P (s+1)=cI k m ch P s++nT k m ch ((P.drop (s*(k*ch))).take (k*ch)):=by
 unfold cI;rw [jA,qg,xM];simp
theorem Mq (a:1<=d):n<=Fa d n*d:=by
 rw [OP a];have h1:=Qe n d;have h2:=xC n (show 0<d by omega);have h3:n/d*d=d*(n/d):=xH _ _;split
 ·rw [ql];omega
 ·omega
theorem mX (a:1<=d):U (eP d b)=Fa d (U b)*d:=by
 unfold eP;rw [qK,zT];have:=Mq (n:=U b) a;omega
end
theorem E'.chunk {w:I} (h:E' w B 1 A N (b.map B8)) (a:(x+1)*ch<=N):E' w B 1 (A.map (·.add (x*ch))) ch ((yY b ch x).map B8):=by
 have d:=h.len;refine⟨by rw [zH,K_ d a,z_],λk=> ?_⟩;have l:x*ch+ch<=N:=by rw [<-ql];exact a
 obtain⟨g,rfl,f,e⟩:=h.2 M;refine⟨g.add (x*ch),rfl,by rw [xF];exact f,λj u c=> ?_⟩;rw [QZ];refine e _ u ?_;rw [<-c,qD,qD];congr 1;unfold yY;have i:j<ch:=by
  have:=(vp.1 c).1;rw [zH,K_ d a] at this;exact this
 rw [xZ,qk i,jt]
theorem Dm {W:I} {g:q'} (j:xp W base 30 1 (Z g k e) k ((List.finRange k).map λx=>Qc A ch x.val)) (f:E' W b0 1 A d (b.map B8)) (m:d=k*ch) (h0:b0<=base) (l:base<=(W:O)) (n:ch<=maxLen):
  zM W b0 base g k e (vr k ch b):=by
 refine zM.AH j (V4 ..) (λi o hi=> ?_) h0 l;have a:i<k:=by
  have:=(vp.1 hi).1;rwa [V4] at this
 rw [tq a] at hi;injection hi with hi;subst hi;have h:(i+1)*ch<=d:=by rw [m];exact zk _ a
 have c:=K_ f.len h;refine⟨A.map (·.add (i*ch)),ch, ?_, ?_⟩
 ·rw [qD,qX (by simpa using a)];simp [Qc,c]
 ·refine⟨by rw [c];exact qx _,n, .inl ?_⟩;rw [c];exact f.chunk h
theorem zM.aside {t:q'} {j:S qn} (h:zM f b0 base A n c j) (h1:b0<=e) (h2:e<base) (d:Lt f wr e t):zM wr b0 base A n c j:=by
 obtain⟨⟨vs,u,q,m⟩,l,h0⟩:=h;have keep: ∀{E:TypeId} {size n' c'':O} {A':q'} {ys:S la},xp f base E size (Z A' n' c'') n' ys->xp wr base E size (Z A' n' c'') n' ys:=λg=>
  zI g λa k=>by
   have o:=g.lt _ (by rw [k];rfl);exact d.heap _ o.2 M
 refine⟨⟨vs,keep u,q,λi r hi=> ?_⟩,qv l d.size,h0⟩;obtain⟨Ai,s,q1,q2,q3,b⟩:=m i r hi;refine⟨Ai,s,q1,q2,q3, ?_⟩;rcases b with b|b
 ·exact .inl (b.keep λp v=>zw (d.heap _ M M))
 ·exact .inr (keep b)
theorem E'.aside {size:O} {e:q'} {b:S la} (h:E' a B size A n b) (h1:B<=c) (h2:B<=(a:O)) (d:Lt a wr c e):E' wr B size A n b:=
 h.keep λp f=>zw (d.heap _ M M)
section
variable {P : Program}
theorem Fu (w:I) {o:Oper} {b:Array Oper} {a:Act} {K:Act->I->Prop} {E:Prop} (u:o.guard=none) (l c:Operand) (t:TypeId) (q:o.op=Op.makeSlice t l c) (base:O) (e:TypeId) (i:TypeInfo) (z:la) (size:O) (h1:P.underlying t=J (.slice e)) (h2:P.info? e=some i) (h3:i.zero=some z) (h4:i.size=size) (kl kc:IntKind) (n:O) (h:a.eval l= .int kl (n:V)) (f:a.eval c= .int kc (n:V)) (k:i.bytes*n<=281474976710656) (m:n<=maxLen) (r:base<=(w:O)) (j: ∀w',xp w' base e size (Z w n n) n (madeCells z.cells (n*size)).toList->w.grownBy w' none->K (a.put o.dst (Z w n n)) w'):
  if Region.wanted o (yielded b a.tmps)=true then Oper.wp P o a w K Q else E:=by
 have p:Region.wanted o (yielded b a.tmps)=true:=by simp [Region.wanted,u]
 rw [qk p];obtain⟨w',d,s,g⟩:=run_make_full w _ t e i z _ h1 h2 h3 h4 kl kc n k m r;unfold Oper.wp;simp [execOp,q,h,f,d,Result.andThen];exact j _ s g
end
end
end
section
variable {B:q'}
section
open Go.RowKit
section
variable {W W' W4 : I} {b0 base n c : O} {A : q'} {xs : qn} {xss : S qn}
def Vy (A B:q'):Prop:= ∀g,A.map (·.block)=some g->B.map (·.block)≠some g
theorem Vy.sym {A:q'} (h:Vy A B):Vy B A:=λg h1 h2=>h g h2 h1
theorem Vy.grow {A b:q'} {W:I} (h:Vy A B) (c: ∀g,B.map (·.block)=some g->g<(W:O)) (a:JU W A b):Vy b B:=λg h1 h2=>by
 rcases a with a|a
 ·exact h g (a▸h1) h2
 ·rw [a] at h1
  injection h1 with h1
  have:=c g h2;omega
theorem Fp {E:TypeId} {size n c base:O} {vs:S la} (h:xp W base E size (Z B n c) n vs): ∀g,B.map (·.block)=some g->g<(W:O):=λg a=>(h.lt g (by rw [jH];exact a)).2
end
section
structure mZ (q n1:O) (all:S qn) (fl:S Bool) (nw:S qn):Prop where
 fl_len:U fl=q
 nw_len:U nw=q
 same: ∀x,fl.getD x false=true->nw.getD x []=all.getD x []
 count:U (kC fl q)+n1=q
end
end
end
section
variable {A:q'}{W b:I}{c g t:O}
section
open Go.RowKit
theorem dK {P:Program} {w:I} {C:Array Oper} {rest:S Oper} {o:Oper} {a:Act} (p:o.guard=none) (d s:Operand) (f j:TypeId) (t:o.op= .call {callee:= .builtin .copy,args:= #[d,s],argTypes:= #[f,j]}) (elem:TypeId) (k:P.underlying f=J (.slice elem)) (l:(P.info? elem).map (·.size)=some 1) (A:q') (N c base:O) (v:S la) (x:a.eval d=Z A N c) (i:xp w base elem 1 (Z A N c) N v) (r:q') (n y:O) (uK:n<=N) (E:a.eval s=Z r n y) (B:O) (b:S la) (z:E' w B 1 r n b) (h1: ∀u∈b,u.oneCell'=true) (h: ∀w',xp w' base elem 1 (Z A N c) N (b++v.drop n)->w.grownBy w' (A.map (·.block))->wpList P C Q rest (a.put o.dst (goInt n)) w'):
  wpList P C Q (o::rest) a w:=by
 have e:U b=n:=by have:=z.1;omega
 have hh:Nat.min n N=n:=vZ uK;by_cases h0:n=0
 ·subst h0;obtain rfl:b=[]:=zl e;refine wpList_copy_nothing p d s f j t elem k l _ _ _ _ _ _ x E s8 ?_;exact h w (by simpa using i) (fO w _)
 ·obtain⟨L,rfl,_,F⟩:=z.2 M;rcases i.2 with⟨_,W⟩|⟨g,cap,cur,ih,R,q,K,H,m,D⟩
  ·omega
  ·injection ih with X _ ln;subst ln;subst X;rw [z_] at m D;have iv:U cur.toList=c:=by rw [Q9];exact m
   refine wpList_copy_own p d s f j t elem k l g 0 _ c L _ y x E cur elem q b (by rw [e];exact hh.symm) F (by rw [e];omega) h1 ?_;rw [e];refine h _ ⟨?_,Or.inr ⟨g,c,_,rfl,R,setRow_heap w g cur _ elem (0,0) q,K,H, ?_, ?_⟩⟩ (Ux w g _)
   ·have qj:=i.1;rw [qK,qI];omega
   ·simp only [xd,qK,qh,qI,z_];omega
   ·rw [z_];show(cur.toList.take 0++(b++cur.toList.drop (0+n))).take N=_;rw [<-D,vG,xY,jL,List.take_append,e,qH M,List.drop_take]
theorem FD:(prog.info? 5).map (·.size)=some 1:=AL
theorem Ij {d n:O} (a:1<=d):Fa d n*d<=n+d:=by
 unfold Fa;have:=Nat.div_mul_le_self (n+d-1) d;omega
theorem Lt.grow {j:q'} (h:Lt f W c A) (i:W.grownBy b (A.map (·.block))) (l:JU W A j):Lt f b c j:=by
 refine⟨qv h.size i.size,λg k d=>(i.block g (qB k h.size) (λe=> ?_)).trans (h.heap g k d),λg a=> ?_⟩
 ·rcases h.row g e.symm with h0|h0
  ·exact d h0
  ·omega
 ·rcases l with h0|h0
  ·exact h.row g (h0▸a)
  ·rw [h0] at a;injection a with a;exact .inr (a▸h.size)
theorem Lt.here (h: ∀k,A.map (·.block)=some k->k=g\/(W:O)<=k):Lt W W g A:=⟨qx _,λ_ _ _=>rfl,h⟩
theorem Lt.Ix {d:I} {f:q'} (h1:Lt b W g A) (h2:Lt W d c f) (j:c=g\/(b:O)<=c):Lt b d g f:=
 ⟨qv h1.size h2.size,λk a i=>(h2.heap k (qB a h1.size) M).trans (h1.heap k a i),λk a=>(h2.row k a).elim (λe=>M) λh=> .inr (qv h1.size h)⟩
theorem Lt.cell (h:Lt a W g A) {p:Addr} (c:p.block<g) (b:g<=(a:O)):i' W p=i' a p:=zw (h.heap _ M M)
def ba (A:q') (g:O):Nat:=(A.map (·.block)).getD g
theorem tj {g k:O} (h:A.map (·.block)=some k):k=ba A g:=by unfold ba;rw [h];rfl
theorem eu (A:q') (g:O):ba A g=g\/A.map (·.block)=J (ba A g):=by
 unfold ba;cases h:A.map (·.block) with
 |none=>exact .inl rfl
 |some k=>exact .inr rfl
def c_:la->O
 | .slice _ n _=>n
 |_=>0
structure Shp (k m ch n iv d L N qj:O):Prop where
 k1:1<=k
 km:k+m<=255
 c1:1<=ch
 c2:ch<=4096
 n2:n<=8388608
 hS:iv=Fa (k*ch) n
 hd:d=k*ch
 hL:L=(k+m)*(ch+4)
 hN:N=iv*d
 hT:qj=iv*L
 t2:qj<=16777216
section
variable {k m ch n iv d L N qj : O} (h : Shp k m ch n iv d L N qj)
include h
theorem Shp.d1:1<=d:=by rw [h.hd];exact V2 h.k1 h.c1
theorem Shp.d2:d<=1044480:=by rw [h.hd];exact cm (by have:=h.km;omega) h.c2
theorem Shp.S2:iv<=8388608:=by rw [h.hS];exact qv (mj (V2 h.k1 h.c1)) h.n2
theorem Shp.nN:n<=N:=by rw [h.hN,h.hS,h.hd];exact Mq (V2 h.k1 h.c1)
theorem Shp.N2:N<=9433088:=by
 have h1:=Ij (n:=n) (V2 h.k1 h.c1);have h2:=h.d2;rw [h.hN,h.hS,h.hd];rw [h.hd] at h2;have:=h.n2;omega
theorem Shp.dN (ht:t<iv):t*d+d<=N:=by rw [h.hN,<-ql];exact zk _ ht
theorem Shp.LT (ht:t<iv):t*L+L<=qj:=by rw [h.hT,<-ql];exact zk _ ht
end
theorem Iv {d n:O} {b:qn} (a:U b=n):(b.map B8++(List.replicate (Fa d n*d) (Value.int .u8 0)).drop n)=(eP d b).map B8:=by
 unfold eP;rw [qg,yP,a,JC];rfl
theorem Iy (k m ch n iv d L N qj:O) (A:Option Addr) (c:O) (bs:S AB) (w:I) (a:Shp k m ch n iv d L N qj) (ht:Pl w) (hr:E' w (w:O) 1 A n (bs.map B8)) (hnc:n<=c) (hcm:c<=maxLen):
  xG 38 #[k,m,ch,Z A n c] w (U8 5 w qj (R_ k m ch bs) 0):=by
 have hok:G2 k m ch n=true:=iQ a.k1 a.km a.c1 a.c2 a.n2;have hsz:G3 k m ch n=qj:=by unfold G3;rw [a.hT,a.hS,a.hL]
 have hse:=UK hok (by rw [hsz];exact a.t2)
 have KSz:G (xG 64 #[k,m,ch,n] w (Ri w qj 0)):=by
  have:=Uk k m ch n w;rw [hse.1,hse.2,hsz] at this;exact this
 unfold Ri at KSz;have KN:G (∀W,xG 65 #[.agg #[k,m,ch],n] W λe w'=>e=t' iv/\r' (W:O) W w'):=λW=>by rw [a.hS];exact di k m ch n W (by have:=a.km;omega) a.c2 a.k1 a.c1 a.n2
 have KD:G (∀W,xG 66 #[.agg #[k,m,ch]] W λe w'=>e=t' d/\r' (W:O) W w'):=λW=>by rw [a.hd];exact eZ k m ch W (by have:=a.km;omega) a.c2
 have d1:=a.d1;have d2:=a.d2;have N2:=a.N2;have nN:=a.nN;have S2:=a.S2;have t2:=a.t2;have b:=T a;have hmul:DW ((iv:V)*(d:V))=(N:V):=by rw [<-zB,<-a.hN,qU];omega
 have TB:=T (λW (h:r' (w:O) w W)=>ht.below h ht.pos);have RB:=T (λW (h:r' (w:O) w W)=>hr.below h);have BL:G (U bs=n):=hr.len;have PADE:G (bs.map B8++((madeCells (Value.int .u8 0).cells N).toList).drop n=(eP d bs).map B8):=by
  show bs.map B8++((madeCells #[Value.int .u8 0] N).toList).drop n=_
  rw [xf,a.hN,a.hS,a.hd];exact Iv hr.len
 obtain⟨i0,hi,O',p',hz2⟩:=qA xR;replace hi:=T hi;replace O':=T O';replace p':=T p';replace hz2:=T hz2;clear a ht hr hok hsz hse;obtain⟨i1,hi1,hy0,hy1,hy2⟩:=qA Zz;replace hi1:=T hi1;replace hy0:=T hy0;replace hy1:=T hy1;replace hy2:=T hy2;go_enter func38,ntmps38
 go_wp2_with fail;refine KSz.mono ?_;rintro e w1 ⟨rfl,M'⟩;replace M':=T M'
 go_wp2_with fail;have Q:=F'.new w1 108 #[k,m,ch];have hB2:=T (zX M' (Vn w1 k m ch));have hg12:(w:O)<=(w1:O):=M'.size;generalize w1 (Y #[k,m,ch] 108)=w2 at*
 generalize (w1:O)=r at*
 have SB:G (∀W,r' w2 w2 W->i' W r=J (k:la)/\i' W ⟨r,1,none⟩=J (m:la)/\i' W ⟨r,2,none⟩=J (ch:la)):=λW h=>⟨(Q.below h Q.lt).cell 0,(Q.below h Q.lt).cell 1,(Q.below h Q.lt).cell 2⟩;have hglt:=Q.lt;clear Q M' KSz;have hc:=SB.out w2 (qZ _ _);refine zv 9 (λW=>i' W r=J (k:la)/\i' W ⟨r,1,none⟩=J (m:la)/\i' W ⟨r,2,none⟩=J (ch:la)) AL (SB.out _ (qZ _ _).drew) (λhHeld=> ?_);refine zq [0,1,2,4] (a':= ?_) ?_;refine IA 3 rfl AL SQ (λK cL=> ?_);go_simp
 (go_at_call 65;((with_reducible refine(KN.out _).mono ?_);rintro e w3 ⟨rfl,hB3⟩);have HB3:=T (zX (qZ _ w2).drew hB3);clear hB3)
 refine cL _ _ ((SB.out _ HB3)) (λhHeld=> ?_);clear cL K;try simp only [Act.put,qQ,qY,qV]
 refine IA 5 rfl AL SQ (λK cL=> ?_);go_simp
 (go_at_call 66;((with_reducible refine(KD.out _).mono ?_);rintro e w4 ⟨rfl,hB4⟩);have m':=T (zX HB3.out hB4);clear hB4)
 refine cL _ _ ((SB.out _ m')) (λhHeld=> ?_);clear cL K;try simp only [Act.put,qQ,qY,qV]
 refine zq [6] (a':= ?_) ?_;refine QY 7 rfl AL (λK cL=> ?_)
 (refine Fu w4 SQ _ _ _ SQ (w:O) 5 i0 (gR 0) 1 qu hi O' p' .i64 .i64 N SQ SQ (by rw [hz2.out];omega) SJ (qv hB2.size m'.size) ?_;intro w5 ln u';have cK:=m'.grown u' m'.size (λk f=>by cases f))
 refine cL _ _ ((SB.out _ cK)) (λhHeld=> ?_);clear cL K;try simp only [Act.put,qQ,qY,qV]
 refine zq [8] (a':= ?_) ?_;refine zV AL ?_ _;rw [z_] at ln;have HBw5:=T (zX hB2 cK);have HB5':=T cK;have hg13:(w2:O)<=(w4:O):=m'.size;have hg13b:(w:O)<=(w4:O):=qv hB2.size hg13;replace ln:=T ln;clear hHeld hc u' cK HB3 m' hmul KN;generalize (w4:O)=g13 at*
 have hRB:=RB.out _ HBw5.out
 go_wp2_with (first
  |(refine dK rfl (.tmp 44) (.tmp 45) 30 30 rfl 5 qu FD (some ⟨g13,0,none⟩) N N (w:O) _ rfl ln A n c nN rfl (w:O) _ hRB (PY hRB) ?_;intro w6 ho6 hg6;have S':=T (HB5'.grown hg6 HB5'.size (λk f=>by injection f with f;subst f;exact hg13));have N':=T (HBw5.grown hg6 HBw5.size (λk f=>by injection f with f;subst f;exact hg13b));rw [PADE.out] at ho6;replace ho6:=T ho6;clear hg6 ln hRB)
  |(at_make;refine QA _ rfl _ _ 30 rfl (w:O) 5 i0 (.int .u8 0) 1 qu hi O' p' .i64 .i64 _ qj rfl rfl rfl (by rw [hz2.out];omega) SJ N'.size ?_;intro ih OX U';have HB7:=T (S'.grown U' S'.size (λk f=>by cases f));have HBw7:=T (N'.grown U' N'.size (λk f=>by cases f));have HR7:G (E' ih w6 1 (some ⟨g13,0,none⟩) N ((eP d bs).map B8)):=(E'.zY ho6).keep λp hp=>zw (U'.block p.block hp s8);have HL7:=T U'.size;have HG:=T (qv S'.size (qx _));replace OX:=T OX;clear U'))
 have hg14:(w2:O)<=(w6:O):=S'.size;have hg14b:(w:O)<=(w6:O):=N'.size;have E:(w6:O)<=(ih:O):=HL7.out;have hg14lt:(w6:O)<(ih:O):=(OX.lt _ rfl).2;generalize (w6:O)=g at*
 obtain⟨P,hP⟩: ∃P,eP d bs=P:=⟨_,rfl⟩;rw [hP] at HR7;have PL:G (U P=iv*(k*ch)):=by
  have s:=b.out;rw [Hid,<-hP,s.hd,mX (by rw [<-s.hd];exact d1),BL.out,<-s.hS]
 have LAY:G (cI k m ch P iv=R_ k m ch bs):=by
  have s:=b.out;unfold R_;rw [BL.out,<-s.hd,hP,s.hd,<-s.hS];exact T rfl
 replace hP:=T hP;have SA:G (∀W i,Lt ih W g i->i' W r=J (k:la)/\i' W ⟨r,1,none⟩=J (m:la)/\i' W ⟨r,2,none⟩=J (ch:la)):=λW i h=>by
  obtain⟨q0,q1,q2⟩:=SB.out ih HB7.out;exact⟨(h.cell (by show r<g;omega) E).trans q0,(h.cell (by show r<g;omega) E).trans q1,(h.cell (by show r<g;omega) E).trans q2⟩
 clear HB7 SB;clear S' N' HB5' HBw5 ho6 HL7 HG PADE RB
 go_wp2_with fail;go_loopw [13,14] (λv13 v14 wr=> ∃(t R uK y G':O) (o i:Option Addr),v13=Z o R y/\v14=Z i uK G'/\t<=iv/\R<=y/\y<=9433088/\uK<=16777216/\G (R+t*d=N)/\G (uK=t*L)/\G (Lt ih wr g i)/\G (r' (w:O) w wr)/\G (E' wr g 1 o R ((P.drop (t*d)).map B8))/\G (xp wr (w:O) 5 1 (Z i uK G') uK ((cI k m ch P t).map B8))) (λv13 _ _=>c_ v13)
 case atStart=>exact⟨0,N,0,N,qj,_,_,rfl,rfl,M,M,M,M,by show N+0*d=N;rw [jd];rfl,by show 0=0*L;rw [jd],⟨qx _,λ_ _ _=>rfl,λk f=>by injection f with f;exact .inl f.symm⟩,HBw7,by rw [jd,Zy];exact HR7,by simpa [Hid,cI] using OX.out⟩
 case round=>
  clear HBw7 HR7 OX;obtain⟨t,R,uK,y,G',o,i,rfl,rfl,htS,hRc,hc13,hM,HRN,HM,HA,HB,HR,HO⟩:=hrel;by_cases hlt:t<iv
  ·have hdN:=b.dN hlt
   have hLT:=b.out.LT hlt;have hRd:d<=R:=by have:=HRN.out;omega
   have hR0:(0:V)<(R:V):=M;have hR0n:0<R:=M;have hdc:(d:V)<=(y:V):=M;have z':(0:V)<=(d:V):=M;have hcc:=SA.out wr _ HA.out;clear hdN
   go_wp2_with fail;refine(KD.out _).mono ?_;rintro e z ⟨rfl,I'⟩;have hwr:(ih:O)<=(wr:O):=HA.size;have HRa:G (E' z g 1 o R ((P.drop (t*d)).map B8)):=HR.below (I'.mono M)
   replace I':=T I';clear hcc
   go_wp2_with fail;have CH1:=b.c1;refine(bH o d y ch _ CH1).mono ?_;rintro e D ⟨rfl,N6⟩;have hbb:r' z z D:=by rw [<-N6];exact((qZ _ _).alloc (qx _) _).alloc s8 _
   have cb1:i' D (z:O)=J (Z o d y):=by
    rw [<-N6,World.cell?_alloc_lt _ _ _ s8];exact(Boxed.new z 30 (Z o d y)).cell
   have cb2:D.cell? ↑((z:O)+1)=J (ch:la):=by
    rw [<-N6];simp
   have hbs:(D:O)=(z:O)+1+1:=by rw [<-N6];simp
   have HBb:=T (zX I' hbb);have HRb:G (E' D g 1 o d (((P.drop (t*d)).take d).map B8)):=(HRa.below (hbb.mono (qv (qv E hwr) I'.size))).takeN hRd;have KC:=T (eY z ((z:O)+1) o d y ch k b.hd CH1 (qv hRd hRc) M (by have:=b.km;omega) D cb1 cb2 M M)
   have hbl:(wr:O)<=(D:O):=HBb.size;clear N6 hbb cb1 cb2 hbs I' HRa CH1;generalize dY z ((z:O)+1)=fv at*
   go_wp2_with fail;refine KC.mono ?_;rintro e wc ⟨v,rfl,hoc,N9⟩;obtain⟨Ac,cc,rfl⟩:=Hq hoc;have X':zM wc g D Ac k cc (vr k ch ((P.drop (t*d)).take d)):=Dm hoc (HRb.below (N9.mono (qv (qv E hwr) hbl))) b.hd (qv (qv E hwr) hbl) N9.size (by have:=b.c2;unfold maxLen;omega)
   have HBc:=T (zX HBb N9);have hbl2:(D:O)<=(wc:O):=N9.size;generalize (D:O)=bl at*
   have hPd:U ((P.drop (t*d)).take d)=d:=by
    have:=HRb.len;omega
   have hparts: ∀x∈vr k ch ((P.drop (t*d)).take d),U x=ch:=uk (by rw [hPd];exact b.hd)
   have hone:G (((pZ k m ch (vr k ch ((P.drop (t*d)).take d))).map dc).flatten=nT k m ch ((P.drop (t*d)).take d)):=rfl;have hpl:=V4 k ch ((P.drop (t*d)).take d);have hall: ∀x∈pZ k m ch (vr k ch ((P.drop (t*d)).take d)),U x=ch:=N8 hparts;have halln:U (pZ k m ch (vr k ch ((P.drop (t*d)).take d)))=k+m:=N7 hpl;have hallE:pZ k m ch (vr k ch ((P.drop (t*d)).take d))=vr k ch ((P.drop (t*d)).take d)++yH m k ch (Vq k) (vr k ch ((P.drop (t*d)).take d)):=rfl;have hmay:gO (k:V) (m:V)=true:=by have:=b.km;have:=b.k1;unfold gO;exact qw M
   have hpar:=cW (p:=m) hmay b.k1 hpl hparts;have KP:=FJ (m:V) Ac k cc _ wc X'.XB (by have:=b.km;omega) (λx hx=>by rw [hparts x hx];have:=b.c2;omega)
   rw [hpar.1,hpar.2,x_] at KP;unfold wI at KP;generalize vr k ch ((P.drop (t*d)).take d)=X at*
   generalize yH m k ch (Vq k) X=ck at*
   generalize hV:pZ k m ch X=cY at*
   replace hV:=T hV;replace hallE:=T hallE;replace hall:=T hall;replace halln:=T halln;replace KP:=T KP;replace X':=T X';clear hoc N9 HBb KC hpar hparts HRb hPd hpl
   go_wp2_with fail;refine KP.mono ?_;rintro e wd ⟨Ay,cy,rfl,hly,hBd⟩;have HBd:=T (zX HBc hBd);have hbd:bl<=(wd:O):=qv hbl2 hBd.size;obtain⟨⟨vd,J',hd2,hd3⟩,iL,z'⟩:=X'.below hBd;obtain⟨⟨vy,Y',hy2',Q'⟩,hyb,hy0'⟩:=hly.Vg (b0':=g) (base':=bl) (qp _) z' hbl2;have hyl:U vy=m:=by have:=Y'.1;omega
   have hyo:=T (mz (hyl.trans hy2'.symm) Q');have hcp1:k+m<=maxLen:=by have:=b.km;unfold maxLen;omega
   have hcp2:(k+m)*24<=140737488355328:=by have:=b.km;omega
   replace J':=T J';replace hd2:=T hd2;replace hd3:=T hd3;replace iL:=T iL;replace z':=T z';replace Y':=T Y';replace hy2':=T hy2';replace Q':=T Q';replace hyb:=T hyb;replace hy0':=T hy0';replace hyl:=T hyl;clear hly hBd HBc X' KP
   go_wp2_with (at_builtin;refine qF _ rfl (.tmp 65) (.tmp 66) 87 rfl bl 30 i1 (Z none 0 0) 1 24 jr hi1 hy0 hy1 hy2 rfl M Ac k cc _ rfl J' wd Ay m cy _ rfl (E'.zY Y') hyo hcp1 hcp2 iL ?_;intro A4 c4 hh ho4 H _hsq;have cB:r' (wr:O) wr hh:=HBd.grown H (qv hbl iL) (λq B=>qv hbl (J'.lt q (by rw [jH];exact B)).1);have Z':=zM.cat J'.out hd2 hd3 z' iL hyl hy2' Q' ho4 H;replace cB:=T cB;replace Z':=T Z';clear ho4 H _hsq)
   rw [<-hallE.out] at Z';clear J' hd2 hd3 iL z' Y' hy2' Q' hyb hy0' hyl hyo hcp1 hcp2 HBd hallE;obtain⟨C,H⟩: ∃C,ba i g=C:=⟨_,rfl⟩;have hgo:C=g\/(ih:O)<=C:=by
    rcases eu i g with e|e
    ·exact .inl (H▸e)
    ·rw [H] at e;exact HA.row C e
   have hgq1:g<=C:=M;have hgq2:C<bl:=by
    rcases eu i g with e|e
    ·rw [<-H,e];omega
    ·rw [H] at e
     have:=(HO.lt C (by rw [jH];exact e)).2
     omega
   have HAe:=T (HA.below cB);have HAx:G (Lt hh hh C i):=Lt.here λq B=> .inl (H▸tj B);have HBe:=T (zX HB cB);have HOe:G (xp hh (w:O) 5 1 (Z i uK G') uK ((cI k m ch P t).map B8)):=qG HO cB.out;have HRe:G (E' hh g 1 o R ((P.drop (t*d)).map B8)):=HR.below (cB.mono (qv E hwr));have hwe:(ih:O)<=(hh:O):=HAe.size;have ROW:=T (λ(W:I) (F:Option Addr) (h:Lt hh W C F) (j:O) (hj:j<k+m)=>(Z'.aside hgq1 hgq2 h).XB.row hj);have VL:G (∀x∈cY,U x=ch):=hall.out;have VN:G (U cY=k+m):=halln.out;have VONE:G ((cY.map dc).flatten=nT k m ch ((P.drop (t*d)).take d)):=hone.out;have TBw:=T (λW (h:r' (w:O) w W)=>TB.out W h);have hkm:k+m<=255:=b.km;have CH1:=b.c1;have CH2:=b.c2;obtain⟨q,B⟩: ∃q,k+m=q:=⟨_,rfl⟩;have hML:uK+q*(ch+4)<=16777216:=by
    have h1:=HM.out;have h2:=b.hL;rw [B] at h2;rw [h2] at hLT;rw [h1,h2];omega
   rw [B] at ROW VN hkm;clear HA HB HO HR cB Z' hall halln hone hV;replace B:=T B
   go_wp2_with fail;go_loopw [69,14] (λv69 v14 wx=> ∃(j l cq:O) (F:Option Addr),v69=(j:la)/\v14=Z F l cq/\j<=q/\l<=16777216/\G (l=uK+j*(ch+4))/\G (Lt hh wx C F)/\G (r' (w:O) w wx)/\G (xp wx (w:O) 5 1 (Z F l cq) l ((cI k m ch P t++((cY.take j).map dc).flatten).map B8))) (λv69 _ _=>q-(intOf v69).toNat)
   case atStart=>exact⟨0,uK,G',i,rfl,rfl,qp _,hM,by show uK=uK+0*(ch+4);rw [jd];rfl,HAx,HBe,by simpa [Hid] using HOe.out⟩
   case round=>
    clear HBe HOe HAx;obtain⟨j,l,cq,F,rfl,rfl,hjq,hMq,HMq,d',HBq,P'⟩:=hrel;by_cases hlt2:j<q
    ·have hlt2n:j<k+m:=by rw [B.out];exact hlt2
     have hlt2':(j:V)<(k:V)+(m:V):=M;have hjb:j<=255:=M;obtain⟨ad,xs,Ai,ni,ci,hAd,-,hx,hcell,hnic,hcim,hrow⟩:=ROW.out wr F d' j hlt2;subst hAd;have TK:G (cY.take (j+1)=cY.take j++[xs]):=by rw [Hid,qs,hx];rfl
     have hxl:=VL.out xs (zQ hx);have hni:ni=ch:=by have:=hrow.len;omega
     rw [hni] at hcell hnic hrow;have KPut:=T (XI Ai ch ci (wr:O) xs wr (TBw.out wr HBq) hrow (qx _) hnic hcim M);have hMn:l+(ch+4)<=16777216:=by
      have:=HMq.out;have h2:(j+1)*(ch+4)<=q*(ch+4):=zk _ hlt2;rw [ql] at h2;omega
     clear hx hrow hML;unfold jQ at KPut
     go_wp2_with fail;refine KPut.mono ?_;rintro e wp ⟨Ap,cp,rfl,D'⟩;have HAp:=T (d'.below D'.2);have HBp:=T (zX HBq D'.2);have HOp:=T (qG P' D'.2);have HRp:=T D'.reads;have ONE:G (∀u∈(dc xs).map B8,u.oneCell'=true):=PY D'.reads;have hMx:l+(ch+4)<=maxLen:=SJ
     have hMy:(l+(ch+4))*1<=140737488355328:=M;have hszp:(w:O)<=(wp:O):=HBp.size;clear D' KPut hcell d' HBq P'
     go_wp2_with (at_builtin;refine qF _ rfl (.tmp 73) (.tmp 75) 30 rfl (w:O) 5 i0 (gR 0) 1 1 qu hi O' p' hz2 rfl M F l cq _ rfl HOp wp Ap (ch+4) cp _ rfl HRp ONE hMx hMy hszp ?_;intro A5 c5 w4 ln u' hs5;have HA5:=T (HAp.grow u' hs5);have cK:r' (w:O) w w4:=zG HBp u' HOp hszp;replace cK:=T cK;replace ln:=T ln;clear u' hs5)
     go_roundw
     case rel=>
      refine⟨j+1,l+(ch+4),c5,A5,by go_num,rfl,M,hMn, ?_,HA5,cK, ?_⟩
      ·show l+(ch+4)=uK+(j+1)*(ch+4)
       rw [HMq.out,ql,vo]
      ·have h5:=ln.out
       rw [TK.out];simpa [Hid,jY] using h5
     case measure=>simp [intOf];omega
    ·have hge:(k:V)+(m:V)<=(j:V):=by have:=B.out;omega
     have hge2: ¬(j:V)<(k:V)+(m:V):=M;obtain rfl:j=q:=M;rw [qH (by rw [VN.out];omega),VONE.out] at P'
     have HA':=T (HAe.out.Ix d' hgo);have HR':=T (HRe.aside hgq1 (qv E hwe) d');have hcc:=SA.out wr _ HA'.out;have hd0':(0:V)<=(d:V):=M;have hdR:(d:V)<=(R:V):=M;have hcut:=jI (P:=prog) 30 5 i0 1 qu hi p' o R y d .i64 hRd;have hwer:(hh:O)<=(wr:O):=d'.size;clear d' HRe HAe
     go_wp2_with fail;refine(KD.out _).mono ?_;rintro e wz ⟨rfl,hBz⟩;have HAz:=T (HA'.below hBz);have HBz:=T (zX HBq hBz);have HOz:=T (qG P' hBz);have HRz:=T ((HR'.below (hBz.mono (qv (qv E hwe) hwer))).VC hRd hRc);clear hBz HA' HBq P' HR' hcc
     go_wp2_with fail;go_roundw
     case rel=>
      refine⟨t+1,R-d,l,y-d,cq,xo o y d 1,F,rfl,rfl,M,M,M,hMq, ?_, ?_,HAz,HBz, ?_, ?_⟩
      ·show R-d+(t+1)*d=N
       have:=HRN.out;rw [ql];omega
      ·show l=(t+1)*L
       have h2:=b.hL;rw [B.out] at h2;rw [HMq.out,HM.out,ql,h2]
      ·have h5:=HRz.out
       rw [vh] at h5;rw [ql];exact h5
      ·rw [Sd,<-b.hd];exact HOz.out
     case measure=>simp [c_];omega
  ·have hts:t=iv:=M
   subst hts;have hRz:R=0:=by have:=HRN.out;have:=b.hN;omega
   have hMT:uK=qj:=by rw [HM.out,b.hT]
   subst hRz;subst hMT;have hR0: ¬(0:V)<((0:O):V):=M;have HOl:G (xp wr (w:O) 5 1 (Z i uK G') uK ((R_ k m ch bs).map B8)):=by rw [<-LAY.out];exact HO.out
   clear HO HR HA LAY
   go_wp2_with fail
   go_ret2;exact⟨_,_,rfl,HOl.out,HB.out⟩
end
end
section
section
open Go.RowKit
structure Lst (W:I) (base:O) (A:q') (n c:O) (xss:S qn) (cL:q'):Prop where
 ex: ∃vs:S la,xp W base 30 1 (Z A n c) n vs/\U xss=n/\ ∀(i:O) (xs:qn),xss[i]? =some xs-> ∃(Ai:q') (ci:O),vs[i]? =J (Z Ai xs ci)/\xp W base 5 1 (Z Ai xs ci) xs (xs.map B8)/\Vy Ai cL
 bs:base<=(W:O)
theorem Vy.I3 {c cL:q'} {g:O} (h1: ∀k,c.map (·.block)=some k->g<=k) (h2: ∀k,cL.map (·.block)=some k->k<g):Vy c cL:=λk a b=>by
 have:=h1 k a;have:=h2 k b;omega
section
theorem tQ {P:qn} {a d j ch:O} (h:(j+1)*ch<=d):(P.drop (a+j*ch)).take ch=yY ((P.drop a).take d) ch j:=by
 unfold yY;rw [List.drop_take,vh,List.take_take,vZ (by rw [ql] at h;omega)]
end
end
end
section
variable {c o s:qn}{e:O->V}{g:S Bool}{i n t:O}{l v:S qn}
section
open Go.RowKit
section
def XS (e:O->V):O->V
 |0=>0
 |t+1=>if XS e t=0 then e t else XS e t
theorem kz: ∀{t:O},(∀i,i<t->e i=0)->XS e t=0
 |0,_=>rfl
 |t+1,h=>by
  show(if XS e t=0 then e t else XS e t)=0
  rw [qk (kz λi hi=>h i M)];exact h t M
theorem br (h: ∀i,i<t->e i=0) (a:e t≠0): ∀{iv:O},t<iv->XS e iv=e t
 |0,b=>M
 |iv+1,b=>by
  show(if XS e iv=0 then e iv else XS e iv)=e t
  by_cases h2:t<iv
  ·have:=br h a h2
   rw [qJ (by rw [this];exact a),this]
  ·obtain rfl:t=iv:=M
   rw [qk (kz h)]
def Jd (c:qn):Bool:=decide (QH c=0)
def xL (a:S qn):S Bool:=a.map Jd
def ZY (a:S qn):S qn:=a.map vR
def Ff (q:O) (g:S Bool) (l v:S qn):Bool:=(List.range q).any λi=>g.getD i false&&decide (v.getD i []≠l.getD i [])
def _i (k m:O) (a:S qn):Int:=if Zm k m (ZY a) (xL a)=0 then(if Ff (k+m) (xL a) (ZY a) (VG k m (ZY a) (xL a))=true then 2 else 0) else Zm k m (ZY a) (xL a)
def csV (k m:O) (a:S qn):qn:=((VG k m (ZY a) (xL a)).take k).flatten
def Q2 (k m ch:O) (s:qn) (t:O):S qn:=vr (k+m) (ch+4) ((s.drop (t*((k+m)*(ch+4)))).take ((k+m)*(ch+4)))
def Y4 (k m ch:O) (s:qn) (t:O):qn:=((List.range t).map λi=>csV k m (Q2 k m ch s i)).flatten
def Yu (a:O) (s:qn) (x:O):S Nat:=(List.range x).filter λi=> !Jd (yY s a i)
def sr (n:O) (o:qn):Bool:=(o.drop n).any λx=>decide (x≠0)
def rdE (k m ch n iv:O) (s:qn):Int:=if XS (λt=>_i k m (Q2 k m ch s t)) iv=0 then(if sr n (Y4 k m ch s iv)=true then 2 else 0) else XS (λt=>_i k m (Q2 k m ch s t)) iv
def rdV (k m ch n iv:O) (s:qn):qn:=if rdE k m ch n iv s=0 then(Y4 k m ch s iv).take n else []
def rdB (k m ch n iv:O) (s:qn):S Nat:=if rdE k m ch n iv s=0 then Yu (ch+4) s (iv*(k+m)) else []
theorem SF (h:Jd c=true):4<=U c/\vR c=c.take (U c-4):=by
 unfold Jd QH at h;have h:=xD h;unfold vR;by_cases h1:U c<4
 ·rw [qk h1] at h;exact absurd h FV
 ·rw [qJ h1] at h;rw [qJ h1];by_cases h2:VO c=true
  ·rw [qk h2];exact⟨M,rfl⟩
  ·rw [qJ h2] at h;exact absurd h FV
theorem mV (h:Jd c=false):vR c=[]:=by
 unfold Jd QH at h;have h:=of_decide_eq_false h;unfold vR;by_cases h1:U c<4
 ·rw [qk h1]
 ·rw [qJ h1] at h⊢;by_cases h2:VO c=true
  ·rw [qk h2] at h;exact absurd rfl h
  ·rw [qJ h2]
theorem Fg {ch:O} (a:U c=ch+4) (h:Jd c=true):U (vR c)=ch:=by
 rw [(SF h).2,qh];omega
theorem Cq {ch:O} (a:U c=ch+4):U (vR c)<=ch:=by
 cases h:Jd c
 ·rw [mV h];exact qp _
 ·rw [Fg a h];exact qx _
def Nb (k m ch iv:O) (s:qn):Bool:=(List.range iv).all λt=>(Q2 k m ch s t).all Jd
theorem qqH {k m ch iv:O} (h:Nb k m ch iv s=true) (ht:t<iv): ∀c∈Q2 k m ch s t,Jd c=true:=xT.1 (xT.1 h t (js.2 ht))
theorem qqx {q:O} (h:n<=q):(List.range q).take n=List.range n:=by
 apply zm;intro i;rw [xZ];by_cases hi:i<n
 ·rw [qk hi,jJ M,jJ hi]
 ·rw [qJ hi,qO SZ]
section
variable {k m ch q : O} {cs : S qn}
theorem Pu:U (xL cs)=U cs:=by simp [xL]
theorem Up:U (ZY cs)=U cs:=by simp [ZY]
theorem bR (h:cs[i]? =some c):(xL cs)[i]? =J (Jd c):=by unfold xL;rw [qD,h];rfl
theorem eU (h:cs[i]? =some c):(ZY cs)[i]? =J (vR c):=by unfold ZY;rw [qD,h];rfl
theorem qqf (h: ∀c∈cs,Jd c=true):kC (xL cs) (U cs)=List.range (U cs):=by
 unfold kC;refine List.filter_eq_self.2 λt ht=> ?_;have ht:=js.1 ht;rw [qd,bR (qX ht)];exact h _ (zx ht)
theorem bT (d: ∀c∈cs,U c=ch+4):Hx (xy (ZY cs) (kC (xL cs) cs))=true:=by
 refine ez (L:=ch) λx b=> ?_;unfold xy at b;obtain⟨i,hi,rfl⟩:=jB.1 b;have h1:=iy hi;have h2:=Wq hi;have a:cs[i]? =some cs[i]:=qX _;rw [qd,bR a] at h2;rw [qd,eU a];exact Fg (d _ (zx _)) h2
theorem UP (h1:1<=k) (a:k+m=q) (h:q<=255) (b:U cs=q) (g: ∀c∈cs,U c=ch+4):Zm k m (ZY cs) (xL cs)=if(kC (xL cs) q).length<k then 12 else 0:=by
 have f:gO (k:V) (m:V)=true:=by unfold gO;exact qw M
 have e:Hx (xy (ZY cs) (kC (xL cs) (k+m)))=true:=by rw [a,<-b];exact bT g
 by_cases d:U (kC (xL cs) q)<k
 ·rw [qk d];exact(A_ f (by rw [Up,b,a]) (by rw [Pu,b,a]) e (by rw [a];exact d)).1
 ·rw [qJ d];exact(FY f (by rw [Up,b,a]) (by rw [Pu,b,a]) e (by rw [a];omega)).1
theorem eD (h1:1<=k) (a:k+m=q) (t:q<=255) (b:U cs=q) (e: ∀c∈cs,U c=ch+4) (h0:Zm k m (ZY cs) (xL cs)=0):
  U (VG k m (ZY cs) (xL cs))=q/\ ∀x∈VG k m (ZY cs) (xL cs),U x=ch:=by
 have j:gO (k:V) (m:V)=true:=by unfold gO;exact qw M
 have r:Hx (xy (ZY cs) (kC (xL cs) (k+m)))=true:=by rw [a,<-b];exact bT e
 have f: ¬U (kC (xL cs) q)<k:=λf=>by
  rw [UP h1 a t b e,qk f] at h0;exact absurd h0 FV
 have v:=(FY j (by rw [Up,b,a]) (by rw [Pu,b,a]) r (by rw [a];omega)).2;rw [v];have hF:U (kB k (xL cs) (k+m))=k:=by rw [Wz,a];omega
 have s: ∀x∈xy (ZY cs) (kB k (xL cs) (k+m)),U x=ch:=λx d=>by
  unfold xy at d;obtain⟨i,hi,rfl⟩:=jB.1 d;have h1:=RN hi;have h2:=N_ hi;have g:cs[i]? =some cs[i]:=qX _;rw [qd,bR g] at h2;rw [qd,eU g];exact Fg (e _ (zx _)) h2
 have o:U (Xc k (kB k (xL cs) (k+m)) (xy (ZY cs) (kB k (xL cs) (k+m))))=k:=bf (by rw [K8];exact hF);have l:=bg (n:=k) (P:=kB k (xL cs) (k+m)) s (by rw [K8];omega);have u:=cW j h1 o l;rw [u.2];refine⟨by rw [qK,o,x_,a],λx d=> ?_⟩;rcases zt.1 d with h|h
 ·exact l x h
 ·exact V1 _ _ _ _ _ x h
theorem mY {q:O} (h: ∀i,i<q->g.getD i false=true->v.getD i []=l.getD i []):Ff q g l v=false:=by
 unfold Ff;rw [List.any_eq_false];intro i hi;have hi:=js.1 hi;simp only [zR,zd,not_and];intro a b;exact b (h i hi a)
theorem Sg {q:O} (hi:i<q) (a:g.getD i false=true) (h:v.getD i []≠l.getD i []):Ff q g l v=true:=by
 unfold Ff;rw [ZQ];exact⟨i,js.2 hi,by rw [a,qw h];rfl⟩
end
theorem tZ (a:O) (s:qn) (x:O):Yu a s (x+1)=Yu a s x++(if Jd (yY s a x)=true then [] else [x]):=by
 unfold Yu;rw [jA,vx];congr 1;cases h:Jd (yY s a x)<;>simp [h]
theorem SG (a:O) (s:qn) (x:O):U (Yu a s x)<=x:=by
 unfold Yu;exact qv (jN _ _) s8
theorem FG (k m ch:O) (s:qn) (t:O):Y4 k m ch s (t+1)=Y4 k m ch s t++csV k m (Q2 k m ch s t):=by
 unfold Y4;rw [jA,qg,xM];simp
theorem eF {q b L:O} (c:L=q*b) (hi:i<q):yY ((s.drop (t*L)).take L) b i=yY s b (t*q+i):=by
 rw [<-tQ (a:=t*L) (d:=L) (j:=i) (ch:=b) (by rw [c];exact zk _ hi)];unfold yY;rw [Nat.add_mul,Nat.mul_assoc,<-c]
theorem Sh (h: ∀i,n<=i->i<U o->o[i]? =some 0):sr n o=false:=by
 unfold sr;rw [List.any_eq_false];intro x a;obtain⟨i,hi,rfl⟩:=Q8 a;rw [qI] at hi;have h1:=h (n+i) M M;rw [List.getElem_drop];rw [qX M] at h1;injection h1 with h1;simp [h1]
theorem tJ {x:AB} (h:o[i]? =some x) (hi:n<=i) (a:x≠0):sr n o=true:=by
 unfold sr;rw [ZQ];refine⟨x, ?_,qw a⟩;refine List.mem_iff_getElem?.2 ⟨i-n, ?_⟩;rw [jt,show n+(i-n)=i by omega];exact h
end
end
end
section
section
section
def rv (c:AB):Option UInt8:=if 65<=c.toNat/\c.toNat<=90 then some (UInt8.ofNat (c.toNat+32)) else if(97<=c.toNat/\c.toNat<=122)\/(48<=c.toNat/\c.toNat<=57) then some c else none
def bC (row:qn) (a:S qn):S qn:=if row=[] then a else a++[row.take 24]
def rj:qn->qn->S (qn)->S qn
 |[],row,a=>bC row a
 |c::t,row,a=>match rv c with|some x=>rj t (row++[x]) a|none=>rj t [] (bC row a)
def St (s:qn):S qn:=rj s [] []
def Pn (s:qn):S (qn)->S qn
 |[]=>[s]
 |x::t=>if x=s then x::t else if _a s x=true then s::x::t else x::Pn s t
def R1 (l:S qn):S qn:=l.foldl (λo s=>Pn s o) []
def G1 (r:JH):S qn:=R1 (St r.txt++(St r.src).map (64:: ·))
end
section
def Y5 (l:S JH):S qn:=R1 ((l.map G1).flatten)
def pF (t:qn):O->S JH->S O
 |_,[]=>[]
 |i,r::l=>if t∈G1 r then i::pF t (i+1) l else pF t (i+1) l
def bn (l:S JH):S qn×S (S O):=(Y5 l,(Y5 l).map λt=>pF t 0 l)
def Fh (size a:O) (x:S qn×S (S O)):qn:=we size x.1++(x.2.map (Re a)).flatten
def yR (c:O):O->qn->S (S O)->V×S (S O)
 |0,b,a=>if b=[] then(0,a) else(2,[])
 |n+1,b,a=>
  let r:=B6 c b
  if r.1≠0 then(r.1,[]) else if r.2.1=[] then(2,[]) else yR c n (b.drop r.2.2) (a++[r.2.1])
def r7 (size a:V) (b:qn):V×S qn×S (S O):=
 if a<0\/20000<a then(13,[],[])
 else
  let d:=ab size b
  if d.1≠0 then(d.1,[],[])
  else
   let l:=yR a.toNat (U d.2.1) (b.drop d.2.2) []
   if l.1≠0 then(l.1,[],[]) else(0,d.2.1,l.2)
end
structure Lx where
 blk:V
 plain:Bool
 bkt:V
 data:V
 par:V
 chunk:V
 deriving DecidableEq
section
def vM (v:V) (o:Lx):Int:=
 if v<1\/3<v then 4
 else if(16<=o.blk/\o.blk<=32768)/\(v=1/\o.bkt=0\/v≠1/\1<=o.bkt/\o.bkt<=64)/\(v≠3/\o.data=0/\o.par=0/\o.chunk=0\/v=3/\1<=o.data/\o.data<=255/\0<=o.par/\o.par<=255-o.data/\1<=o.chunk/\o.chunk<=4096) then 0 else 9
def J8 (o:Lx):Int:=vM 2 ⟨o.blk,o.plain,o.bkt,0,0,0⟩
structure Dir where
 counts:S O
 sizes:S O
 cols:O
 index:O
 deriving DecidableEq
def VU:S O->S O->qn
 |n::c,s::t=>kD n++kD s++VU c t
 |_,_=>[]
def Cz (d:Dir):qn:=kD d.counts.sum++kD (U d.counts)++VU d.counts d.sizes++kD d.cols++kD d.index
def vF (a:Bool):S O->S JH->S qn
 |[],_=>[]
 |n::c,l=>Rv (pa false (l.take n)) a::vF a c (l.drop n)
def ZK (o:Lx) (l:S JH):S Nat:=sh o.blk false l
def mQ (o:Lx) (l:S JH):S qn:=vF o.plain (ZK o l) l
def P5 (l:S JH):qn:=dc (ui l)
def YT (o:Lx) (l:S JH):qn:=dc (Fh o.bkt.toNat l (bn l))
def LK (o:Lx) (l:S JH):Dir:=⟨ZK o l,(mQ o l).map (·.length),U (P5 l),U (YT o l)⟩
def I4 (o:Lx) (l:S JH):qn:=dc (Cz (LK o l))
def JT (o:Lx) (l:S JH):qn:=(mQ o l).flatten++P5 l++YT o l++I4 o l++GF (U (I4 o l)) 4
def pg (b:qn):V×qn×qn:=
 if U b<4 then(1,[],[])
 else if U b-4<vk (b.drop (U b-4)) then(1,[],[])
 else(QH ((b.drop (U b-4-vk (b.drop (U b-4)))).take (vk (b.drop (U b-4)))),b.take (U b-4-vk (b.drop (U b-4))),vR ((b.drop (U b-4-vk (b.drop (U b-4)))).take (vk (b.drop (U b-4)))))
def Q7 (b:qn) (a:O):O->Cu->S O->S O->S O×S O×Cu
 |0,c,x,y=>(x,y,c)
 |f+1,c,x,y=>if c.err≠0 then(x,y,c) else Q7 b a f (jU b 8388608 (jU b a c).2).2 (x++[(jU b a c).1]) (y++[(jU b 8388608 (jU b a c).2).1])
def tb (b:qn) (a:O):V×Dir:=
 let r:=jU b 20000 ⟨0,0⟩
 let k:=jU b r.1 r.2
 let p:=Q7 b r.1 k.1 k.2 [] []
 let c:=jU b 8388608 p.2.2
 let i:=jU b 8388608 c.2
 let d:Dir:=⟨p.1,p.2.1,c.1,i.1⟩
 if(PW b i.2).err≠0 then((PW b i.2).err,d)
 else if 0∈d.counts\/d.counts.sum≠r.1\/d.sizes.sum+d.cols+d.index≠a then(2,d) else(0,d)
structure Ft where
 dir:Dir
 times:S O
 levels:qn
 vO:S qn
 lists:S (S O)
 JB:S qn
def CJ:S O->qn->S qn
 |[],_=>[]
 |n::t,b=>b.take n::CJ t (b.drop n)
def Zh (n:O) (chunk:qn):V×S O×qn:=
 if QH chunk≠0 then(QH chunk,[],[])
 else
  let r:=ZG n (vR chunk)
  if r.1≠0 then(r.1,[],[]) else if r.2.2.2<U (vR chunk) then(2,[],[]) else(0,r.2.1,r.2.2.1)
def Zo (o:Lx) (b:qn):V×Ft:=
 let z:Ft:=⟨⟨[],[],0,0⟩,[],[],[],[],[]⟩
 if J8 o≠0 then(J8 o,z)
 else
  let f:=pg b
  if f.1≠0 then(f.1,z)
  else
   let d:=tb f.2.2 (U f.2.1)
   if d.1≠0 then(d.1,z)
   else
    let rest:=f.2.1.drop d.2.sizes.sum
    let c:=Zh d.2.counts.sum (rest.take d.2.cols)
    if c.1≠0 then(c.1,z)
    else if QH (rest.drop d.2.cols)≠0 then(QH (rest.drop d.2.cols),z)
    else
     let p:=r7 o.bkt d.2.counts.sum (vR (rest.drop d.2.cols))
     if p.1≠0 then(p.1,z)
     else(0,⟨d.2,c.2.1,c.2.2,p.2.1,p.2.2,CJ d.2.sizes f.2.1⟩)
def tX (ts:S O) (ls:qn) (l:S JH):S JH:=l.mapIdx λi r=>{r with time:=ts.getD i 0,level:=(ls.getD i 0).toNat}
def V5 (x:Ft) (k:O):V×S JH:=
 let f:=x.JB.getD k []
 let r:=hH f
 if r.1≠0 then(r.1,[])
 else if r.2.2<U f then(2,[])
 else
  let l:=sc false r.2.1
  if l.1≠0 then(l.1,[])
  else if U l.2≠x.dir.counts.getD k 0 then(2,[])
  else(0,tX (x.times.drop (x.dir.counts.take k).sum) (x.levels.drop (x.dir.counts.take k).sum) l.2)
def C0 (x:Ft):O->O->S JH->V×S JH
 |0,_,a=>if kF a≠0 then(6,[]) else if(x.vO,x.lists)≠bn a then(15,[]) else(0,a)
 |f+1,k,a=>if(V5 x k).1≠0 then((V5 x k).1,[]) else C0 x f (k+1) (a++(V5 x k).2)
def th (x:Ft):V×S JH:=C0 x (U x.JB) 0 []
end
section
def AZ (v:O):qn:=[70,73,82,75,UInt8.ofNat v]
def C1 (p:Bool):UInt8:=if p then 1 else 0
def Y6 (a:Bool):S O->S JH->qn
 |[],_=>[]
 |n::c,l=>Rv (pa true (l.take n)) a++Y6 a c (l.drop n)
def Xl (o:Lx) (l:S JH):S Nat:=sh o.blk true l
def pG (o:Lx) (l:S JH):qn:=dc (AZ 1++kD o.blk.toNat++[C1 o.plain]++kD (U l)++kD (U (Xl o l))++Y6 o.plain (Xl o l) l)
def V6 (b:qn):Int:=if U b<=4 then 1 else if b.take 4≠[70,73,82,75] then 3 else if 1<=(b.getD 4 0).toNat/\(b.getD 4 0).toNat<=3 then 0 else 4
def XQ (b:qn):Int:=if U b<=4 then 0 else if b.take 4≠[70,73,82,75] then 0 else if 1<=(b.getD 4 0).toNat/\(b.getD 4 0).toNat<=3 then((b.getD 4 0).toNat:V) else 0
def kj (b:qn):V×qn:=
 if V6 b≠0 then(V6 b,[]) else if XQ b≠1 then(4,[]) else if QH b≠0 then(QH b,[]) else if(vR b).length<5 then(1,[]) else(0,(vR b).drop 5)
def ph (b:qn):V×Lx×O×O×Cu:=
 let k:=jU b 32768 ⟨0,0⟩
 let p:=j_ b k.2
 let c:=if 1<p.1.toNat then vP p.2 2 else p.2
 let r:=jU b 20000 c
 let n:=jU b r.1 r.2
 let o:Lx:=⟨k.1,decide (p.1=1),0,0,0,0⟩
 (if n.2.err≠0 then n.2.err else vM 1 o,o,r.1,n.1,n.2)
def Vd (b:qn) (c:Cu):V×S JH×Cu:=
 let r:=hH (b.drop c.at_)
 if r.1≠0 then(r.1,[],c)
 else
  let c2:=(jW b r.2.2 c).2
  let l:=sc true r.2.1
  if l.1≠0 then(l.1,[],c2) else if l.2=[] then(2,[],c2) else(0,l.2,c2)
def PN (b:qn) (d:O):O->Cu->S JH->V×S JH
 |0,c,a=>if c.at_<U b\/U a≠d then(2,[]) else if kF a≠0 then(6,[]) else(0,a)
 |f+1,c,a=>if(Vd b c).1≠0 then((Vd b c).1,[]) else PN b d f (Vd b c).2.2 (a++(Vd b c).2.1)
def JZ (b:qn):V×Lx×S JH×Nat:=
 let z:Lx:=⟨0,false,0,0,0,0⟩
 let w:=kj b
 if w.1≠0 then(w.1,z,[],0)
 else
  let h:=ph w.2
  if h.1≠0 then(h.1,z,[],0)
  else
   let l:=PN w.2 h.2.2.1 h.2.2.2.1 h.2.2.2.2 []
   if l.1≠0 then(l.1,z,[],0) else(0,h.2.1,l.2,h.2.2.2.1)
def dI (o:Lx):qn:=dc (AZ 2++kD o.blk.toNat++[C1 o.plain]++kD o.bkt.toNat)
def ky (o:Lx) (l:S JH):qn:=dI o++JT o l
def Y7 (b:qn):V×Lx×Nat:=
 let k:=jU b 32768 (jW b 5 ⟨0,0⟩).2
 let p:=j_ b k.2
 let c:=if 1<p.1.toNat then vP p.2 2 else p.2
 let q:=jU b 64 c
 let e:=(jW b 4 q.2).2
 let o:Lx:=⟨k.1,decide (p.1=1),q.1,0,0,0⟩
 if e.err≠0 then(e.err,o,0) else if QH (b.take e.at_)≠0 then(QH (b.take e.at_),o,0) else(vM 2 o,o,e.at_)
def Vh (b:qn):V×Lx×Ft:=
 let z:Lx:=⟨0,false,0,0,0,0⟩
 let y:Ft:=⟨⟨[],[],0,0⟩,[],[],[],[],[]⟩
 if V6 b≠0 then(V6 b,z,y) else if XQ b≠2 then(4,z,y)
 else
  let r:=Y7 b
  if r.1≠0 then(r.1,z,y)
  else
   let x:=Zo r.2.1 (b.drop r.2.2)
   if x.1≠0 then(x.1,z,y) else(0,r.2.1,x.2)
def Zk (x:V×Lx×Ft):V×Lx×S JH×Nat:=
 let z:Lx:=⟨0,false,0,0,0,0⟩
 if x.1≠0 then(x.1,z,[],0)
 else
  let l:=th x.2.2
  if l.1≠0 then(l.1,z,[],0) else(0,x.2.1,l.2,U x.2.2.dir.counts)
def Uu (o:Lx) (n:O) (a:Bool):qn:=dc (AZ 3++[C1 a,UInt8.ofNat o.bkt.toNat,UInt8.ofNat o.data.toNat,UInt8.ofNat o.par.toNat]++GF o.chunk.toNat 2++GF o.blk.toNat 2++GF n 4)
def dL (o:Lx) (n:O) (a:qn):qn:=Uu o n o.plain++a++Uu o n o.plain
def Sb (o:Lx) (n:O):Int:=ZM o.data o.par o.chunk n
def kQ (o:Lx) (l:S JH):qn:=dL o (U (JT o l)) (R_ o.data.toNat o.par.toNat o.chunk.toNat (JT o l))
def Zj (b:qn):qn:=b.take 21
def Jw (b:qn):qn:=b.drop (U b-21)
def Qw (c:qn):Bool:=decide (QH c=0)&&(decide (V6 c=0)&&decide (XQ c=3))
def Hb (b:qn):V×qn:=if U b<42 then(1,[]) else if Qw (Zj b)=true then(0,Zj b) else if Qw (Jw b)=true then(0,Jw b) else(5,[])
def YX (c:qn):Lx:=⟨vk ((c.drop 11).take 2),decide (c.getD 5 0=1),(c.getD 6 0).toNat,(c.getD 7 0).toNat,(c.getD 8 0).toNat,vk ((c.drop 9).take 2)⟩
def dk (c:qn):Int:=if 1<(c.getD 5 0).toNat then 2 else vM 3 (YX c)
def Aq (c:qn):Nat:=vk ((c.drop 13).take 4)
def _m (k m ch n:V) (s:qn):Int:=
 if ZM k m ch n≠0 then ZM k m ch n
 else if U s<Vx k m ch n then 1 else if Vx k m ch n<U s then 2
 else rdE k.toNat m.toNat ch.toNat n.toNat (Fa (k.toNat*ch.toNat) n.toNat) s
def srV (k m ch n:V) (s:qn):qn:=rdV k.toNat m.toNat ch.toNat n.toNat (Fa (k.toNat*ch.toNat) n.toNat) s
def srB (k m ch n:V) (s:qn):S Nat:=rdB k.toNat m.toNat ch.toNat n.toNat (Fa (k.toNat*ch.toNat) n.toNat) s
def TA (b:qn):Bool:=Nb (YX (Hb b).2).data.toNat (YX (Hb b).2).par.toNat (YX (Hb b).2).chunk.toNat (Fa ((YX (Hb b).2).data.toNat*(YX (Hb b).2).chunk.toNat) (Aq (Hb b).2)) ((b.drop 21).take (U b-42))
def V7 (b:qn):V×Lx×qn×Nat:=
 let z:Lx:=⟨0,false,0,0,0,0⟩
 let c:=Hb b
 if c.1≠0 then(c.1,z,[],0)
 else if dk c.2≠0 then(dk c.2,z,[],0)
 else
  let o:=YX c.2
  let s:=(b.drop 21).take (U b-42)
  if _m o.data o.par o.chunk (Aq c.2:O) s≠0 then(_m o.data o.par o.chunk (Aq c.2:O) s,z,[],0)
  else(0,o,srV o.data o.par o.chunk (Aq c.2:O) s,U (srB o.data o.par o.chunk (Aq c.2:O) s)+(if Zj b=Jw b then 0 else 1))
def ZX (b:qn):V×Lx×Ft×Nat:=
 let z:Lx:=⟨0,false,0,0,0,0⟩
 let y:Ft:=⟨⟨[],[],0,0⟩,[],[],[],[],[]⟩
 let m:=V7 b
 if m.1≠0 then(m.1,z,y,0)
 else
  let x:=Zo m.2.1 m.2.2.1
  if x.1≠0 then(x.1,z,y,0) else(0,m.2.1,x.2,m.2.2.2)
def X0 (b:qn):V×Lx×S JH×O×Nat:=
 let u:=Zk ((ZX b).1,(ZX b).2.1,(ZX b).2.2.1)
 (u.1,u.2.1,u.2.2.1,u.2.2.2,if u.1=0 then(ZX b).2.2.2 else 0)
def dp (b:qn):Bool:=decide ((Hb b).1=0)
def Z7 (b:qn):Int:=if XQ b=1\/XQ b=2 then XQ b else if dp b=true then 3 else 0
def YU (b:qn):Int:=if XQ b=1\/XQ b=2 then 0 else if dp b=true then 0 else if XQ b=3 then 5 else V6 b
structure Un where
 v:V
 o:Lx
 l:S JH
 blocks:O
 bad:O
def QW (b:qn):Int:=if Z7 b=1 then(JZ b).1 else if Z7 b=2 then(Zk (Vh b)).1 else if Z7 b=3 then(X0 b).1 else YU b
def xX (b:qn):Un:=
 if Z7 b=1 then⟨1,(JZ b).2.1,(JZ b).2.2.1,(JZ b).2.2.2,0⟩
 else if Z7 b=2 then⟨2,(Zk (Vh b)).2.1,(Zk (Vh b)).2.2.1,(Zk (Vh b)).2.2.2,0⟩
 else⟨3,(X0 b).2.1,(X0 b).2.2.1,(X0 b).2.2.2.1,(X0 b).2.2.2.2⟩
end
end
end
section
section
open Go.RowKit
theorem MH (k:O) (h:k<4294967296):bits .and .u64 (k:V) 4294967295=(k:V):=by
 rw [show(4294967295:V)=((4294967295:O):V) from rfl,u64_and_nat k _ M M];congr 1;have:=Nat.and_two_pow_sub_one_eq_mod k 32;rw [show(2:O)^32-1=4294967295 from rfl,show(2:O)^32=4294967296 from rfl,jk h] at this;exact this
theorem nB (k:O) (w:I) (h:k<4294967296):xG 289 #[.int .u64 1, .int .u64 (k:V)] w λe w'=>e=t' (BA #[.int .u64 0, .int .u64 (k:V)])/\w=w':=by
 have f:bits .and .u64 1 4294967295=1:=MH 1 M;have b:bits .and .u64 0 4294967295=0:=MH 0 M;have d:=MH k h;have d1:(k:V)/4294967296=0:=M;have c:IntKind.u64.wrap (k:V)=(k:V):=by rw [qS];omega
 go_wp2;go_ret2;exact⟨rfl,rfl⟩
theorem Mb (k:O) (w:I) (h:k<4294967296):xG 270 #[.int .u64 1, .int .u64 (k:V)] w λe w'=>e=t' (BA #[.int .u64 0, .int .u64 (k:V)])/\w=w':=by
 have K:=T (nB k w h);go_in;go_wp2_with fail;refine Ω K ?_;go_wp2;go_ret2;exact⟨rfl,rfl⟩
end
end
section
variable {g j m:O}{v x:la}{w:I}
section
open Go.RowKit
theorem TX {base N:O} {e:TypeId} {b:S la} (h:xp w base e 1 (Z g N N) N b):F' w g e b.toArray/\base<=g:=by
 rcases h.2 with⟨f,_⟩|⟨m,cap,cur,d,l,i,n,o,j,c⟩
 ·cases f
 ·injection d with a _ k;injection a with a;injection a with a;subst k;subst a;refine⟨?_,l⟩;rw [z_] at j c;have:b.toArray=cur:=by
   rw [<-c,qH (by rw [Q9];omega)]
  rw [this];exact i
def db (x:la) (k m:O):S Value:=List.replicate m x++List.replicate (k-m) (gR 0)
theorem Bh (x:la) (k m d:O) (h:m+d<=k):splice (db x k m) m (List.replicate d x)=db x k (m+d):=by
 unfold splice db;rw [ZV s8,qH s8,zT,List.drop_append,zD s8,xY,zT,JC,<-jY,List.replicate_append_replicate];congr 2;omega
theorem EN (x:la) (k m:O) (h:m<=k):U (db x k m)=k:=by unfold db;simp;omega
theorem MC {b:Addr} (h:i' w b=some x) (c:m<=1) (a:(List.replicate m x)[j]? =some v):i' w (b.add j)=some v:=by
 rw [jF] at a;split at a
 ·injection a with a;subst a;obtain rfl:j=0:=M;rw [show b.add 0=b from by unfold Addr.add;split<;>simp_all];exact h
 ·cases a
theorem Qm {P:Program} (t e:TypeId) (i:TypeInfo) (s:O) (ht:P.underlying t=J (.slice e)) (hi:P.info? e=some i) (d:i.size=s) (A:q') (n c h:O) (kh:IntKind) (g:h<=c) (W:I):
  (Instr.slice t (Z A n c) none (some (.int kh (h:V))) none).run P W= .ok (Z A h c) W:=by
 have b:P.elem t=e:=by simp [Program.elem,ht]
 rw [run_slice_h (a:=A) (len:=n) (cap:=c) (ht:=by rw [b];exact ht) (kh:=kh) (h:=(h:V)) (h0:=by omega) (h2:=by omega),b];have f:(sizeOf e).run P W= .ok s W:=by simp [sizeOf,typeInfo,hi,d]
 rw [f];have h0: ∀a:Addr,a.add 0=a:=λa=>by unfold Addr.add;split<;>simp_all
 cases A<;>simp [Result.andThen,sliced,h0]
theorem nC {k d:O} (h:F' w g 5 (db x k m).toArray) (b:d<=m) (a:(List.replicate d x)[j]? =some v):i' w ((g:Addr).add j)=some v:=by
 rw [jF] at a;split at a
 ·rw [Addr.add_mid,jL,h.cell,qR,db,q_ SZ,jF,qk M];exact a
 ·cases a
def Ma (W:I) (k:O) (b:AB) (e:Ending) (a:I):Prop:=
 ∃g,e=t' (Z (some ⟨g,0,none⟩) k k)/\(W:O)<=g/\F' a g 5 (List.replicate k (B8 b)).toArray/\r' W W a
theorem TV (W:I) (t:Addr) (c k:O) (b:AB) (r:i' W t=J (B8 b)) (uK:k<=20000):
  xG 254 #[Z (some t) 1 c,k] W (Ma W k b):=by
 obtain⟨A,hi,B,p,C⟩:=xt xR;have ih:=T (Mb k W M);have N:t.block<(W:O):=yM r;have wk:IntKind.u64.wrap (k:V)=(k:V):=by rw [qS];omega
 have iL:DW (k:V)=(k:V):=SX;have m': ¬(k:V)<0:=M;have I': ¬(9223372036854775807:V)<(k:V):=M;obtain⟨x,q⟩:=zn (B8 b);rw [<-q] at r;have L:G (x.oneCell'=true):=by rw [Hid,q];rfl
 replace q:=T q;replace r:=T r;go_in;go_wp2_with fail;refine Ω ih ?_;obtain⟨f,n⟩:=zn (Nat.min 1 k);have qj:f<=k:=by rw [n];exact Nat.min_le_right _ _
 have cK:f<=1:=by rw [n];exact xK _ _
 have e:0<k->0<f:=by intro h;rw [n];exact Nat.lt_min.2 ⟨M,h⟩
 have E:G ((madeCells (Value.int .u8 0).cells (k*1)).toList=db x k 0):=by
  rw [Hid,z_];show(madeCells #[Value.int .u8 0] k).toList=_;rw [xf];simp [db]
 replace n:=T n;go_wp2_with (first
  |(refine wpList_copy_splice rfl (.tmp 31) (.tmp 32) 30 30 rfl 5 qu FD _ _ _ _ _ _ rfl rfl W 0 (db x k 0) 5 H (List.replicate f x) (by rw [zT];exact n) (λ_=>⟨rfl,t,rfl,λj v i=>(MC F cK i)⟩) (by rw [zT,EN x k 0 (qp _)];omega) (λv i=>by rw [xJ i];exact L) W W w (qx _) ?_;intro X o g;replace g:=T g;rw [Bh x k 0 f M,jL] at o)
  |(at_make;refine xP _ rfl _ _ 30 rfl W 5 A (.int .u8 0) 1 qu hi B p .i64 .i64 _ _ k rfl rfl rfl rfl (by rw [C.out];omega) SJ (qx _) ?_;intro w1 u D;have w:=T ((qZ W W).grown D (qx _) (λk uK=>by cases uK));rw [E.out] at u;have H:=T (TX u).1;have cL:=T D.size;have F:=T ((w.cell N).trans r);clear u D))
 have e0:(U (List.replicate f x):V)=(f:V):=by rw [zT]
 generalize R:(W:O)=a at*;simp only [show decide ((9223372036854775807:V)<(k:V))=false from qc M];go_loopw [8] (λy wr=> ∃m:O,y=(m:la)/\m<=k/\(0<k->0<m)/\G (F' wr a 5 (db x k m).toArray)/\G (r' a W wr)) (λy _=>k-(intOf y).toNat)
 ·exact⟨f,by first|rfl|(simp only [zT];rfl)|simp [goInt],qj,e,o,g⟩
 ·clear o;obtain⟨m,rfl,z,Q,s,ln⟩:=hrel;by_cases p':m<k
  ·have J':=j' m k;have u':=xi m;have N6:=vv m k;obtain⟨d,l⟩:=zn (Nat.min m (k-m));have d':d<=m:=by rw [l];exact xK _ _
   have z':d<=k-m:=by rw [l];exact Nat.min_le_right _ _
   have M':0<d:=by rw [l];exact Nat.lt_min.2 ⟨Q M,M⟩
   have cB:=jI (P:=prog) 30 5 A 1 qu hi p a k k m .i64 z;have D':=Qm (P:=prog) 30 5 A 1 qu hi p a k k m .i64 z;rw [show xo (some (a:Addr)) k m 1=some ⟨a,m,none⟩ from by unfold xo;rw [qJ M];simp only [Za,Addr.add_mid,jL,z_]] at cB;have ws:DW ((m:V)+(d:V))=((m+d:O):V):=SX;replace l:=T l;go_wp2_with fail;refine zv 10 (λ_=>True) AL trivial (λiv=> ?_);refine zq [0,1,2,3,4,5,6] (a':= ?_) ?_;refine QY 7 rfl AL (λK hh=> ?_)
   (refine step_copy_splice rfl (.tmp 41) (.tmp 44) 30 30 rfl 5 qu FD _ _ _ _ _ _ rfl rfl a m (db x k m) 5 s (List.replicate d x) (by rw [zT];exact l) (λ_=>⟨rfl,a,rfl,λj v i=>(nC s d' i)⟩) (by rw [zT,EN x k m z];omega) (λv i=>by rw [xJ i];exact L) a W ln.drew (qx _) ?_;intro X o g;replace g:=T g;rw [Bh x k m d M] at o)
   refine hh _ _ (trivial) (λiv=>xb ?_);clear hh K;refine zq [8,9] (a':= ?_) ?_;refine zV AL ?_ _;refine xk ?_;exact⟨_,_,_,_,_,_,_,_,_,_,_,_,_,_,⟨m+d,by first|exact zo _ (xe m d).symm|rfl|simp,M,λ_=>M,o,g⟩,xg⟩
  ·have G':=vc m k;obtain rfl:m=k:=M;have cY:G (F' wr a 5 (List.replicate m (B8 b)).toArray):=by
    have h:=s.out;rw [db,xO,q.out] at h;simpa [Hid] using h
   clear s;go_wp2;go_ret;exact⟨a,rfl,M,cY,R▸ln.out⟩
end
end
section
section
section
theorem IQ (x y:AB):x<y\/x=y\/y<x:=by
 rcases Nat.lt_trichotomy x.toNat y.toNat with h|h|h
 ·exact .inl (UInt8.lt_iff_toNat_lt.2 h)
 ·exact .inr (.inl (jG.1 h))
 ·exact .inr (.inr (UInt8.lt_iff_toNat_lt.2 h))
theorem Cj (a:qn):_a a []=false:=by cases a<;>rfl
theorem pH (x y:AB) (a b:qn):_a (x::a) (y::b)=true↔x<y\/x=y/\_a a b=true:=by
 rw [_a];simp
theorem kZ: ∀a:qn,_a a a=false
 |[]=>rfl
 |x::a=>by
  have h:=kZ a;rw [Bool.eq_false_iff,ne_eq,pH];rintro(h1|⟨_,h1⟩)
  ·exact absurd h1 (UInt8.lt_irrefl x)
  ·rw [h] at h1;cases h1
theorem PU: ∀a b c:qn,_a a b=true->_a b c=true->_a a c=true
 |a,b,[],_,h=>by rw [Cj] at h;cases h
 |a,[],z::c,h,_=>by rw [Cj] at h;cases h
 |[],y::b,z::c,_,_=>rfl
 |x::a,y::b,z::c,h1,h2=>by
  rw [pH] at h1 h2⊢;rcases h1 with h1|⟨rfl,h1⟩<;>rcases h2 with h2|⟨rfl,h2⟩
  ·exact .inl (UInt8.lt_trans h1 h2)
  ·exact .inl h1
  ·exact .inl h2
  ·exact .inr ⟨rfl,PU a b c h1 h2⟩
theorem kJ: ∀a b:qn,_a a b=true\/a=b\/_a b a=true
 |[],[]=> .inr (.inl rfl)
 |[],_::_=> .inl rfl
 |_::_,[]=> .inr (.inr rfl)
 |x::a,y::b=>by
  rw [pH,pH];rcases IQ x y with h|rfl|h
  ·exact .inl (.inl h)
  ·rcases kJ a b with h|rfl|h
   ·exact .inl (.inr ⟨rfl,h⟩)
   ·exact .inr (.inl rfl)
   ·exact .inr (.inr (.inr ⟨rfl,h⟩))
  ·exact .inr (.inr (.inl h))
theorem UU {a b:qn} (h:_a a b=true):_a b a=false:=by
 rw [Bool.eq_false_iff];intro h2;have:=PU _ _ _ h h2;rw [kZ] at this;cases this
theorem WQ: ∀a b:qn,_a a b=true↔a<b
 |a,[]=>by rw [Cj];simp
 |[],y::b=>by simp [_a]
 |x::a,y::b=>by rw [pH,List.cons_lt_cons_iff,WQ a b]
theorem Cx (a b:qn):decide (a<=b)= !_a b a:=by
 have h:a<=b↔ ¬(b<a):=Iff.rfl;rw [<-WQ] at h;cases c:_a b a with
 |false=>rw [c] at h;exact qw (h.2 FV)
 |true=>rw [c] at h;exact qc (λh2=>h.1 h2 rfl)
def SS (l:S qn):Prop:=l.Pairwise λa b=>_a a b=true
theorem FH (s x:qn): ∀l,x∈Pn s l↔x=s\/x∈l
 |[]=>by simp [Pn]
 |y::t=>by
  unfold Pn;split
  ·rename_i h;subst h;simp
  ·split
   ·simp
   ·rw [qL,FH s x t,qL]
    constructor
    ·rintro(h|h|h)
     ·exact .inr (.inl h)
     ·exact .inl h
     ·exact .inr (.inr h)
    ·rintro(h|h|h)
     ·exact .inr (.inl h)
     ·exact .inl h
     ·exact .inr (.inr h)
theorem WZ (s:qn): ∀l,SS l->SS (Pn s l)
 |[],_=>by simp [Pn,SS]
 |y::t,h=>by
  have h2:=vj.1 h;unfold Pn;split
  ·exact h
  ·rename_i c
   split
   ·rename_i b
    refine vj.2 ⟨λz a=> ?_,h⟩;rcases qL.1 a with rfl|a
    ·exact b
    ·exact PU _ _ _ b (h2.1 z a)
   ·rename_i b
    refine vj.2 ⟨λz a=> ?_,WZ s t h2.2⟩;rcases(FH s z t).1 a with rfl|a
    ·rcases kJ y z with h|h|h
     ·exact h
     ·exact absurd h c
     ·exact absurd h b
    ·exact h2.1 z a
theorem iZ (l:S qn): ∀o,SS o->SS (l.foldl (λo s=>Pn s o) o)/\ ∀x,x∈l.foldl (λo s=>Pn s o) o↔x∈o\/x∈l:=by
 induction l with
 |nil=>intro o h;exact⟨h,λx=>s8⟩
 |cons a l b=>
  intro o h;have h2:=b _ (WZ a o h);refine⟨h2.1,λx=> ?_⟩;show x∈l.foldl _ (Pn a o)↔_;rw [h2.2 x,FH,qL];constructor
  ·rintro((h|h)|h)
   ·exact .inr (.inl h)
   ·exact .inl h
   ·exact .inr (.inr h)
  ·rintro(h|h|h)
   ·exact .inl (.inr h)
   ·exact .inl (.inl h)
   ·exact .inr h
theorem Cv (l:S qn):SS (R1 l):=(iZ l _ List.Pairwise.nil).1
theorem Ud (l:S qn) (x:qn):x∈R1 l↔x∈l:=by
 have:=(iZ l _ List.Pairwise.nil).2 x;unfold R1;rw [this];simp
theorem Cy: ∀l m:S qn,SS l->SS m->(∀x,x∈l↔x∈m)->l=m
 |[],[],_,_,_=>rfl
 |[],b::m,_,_,h=>by have:=(h b).2 (qo ..);cases this
 |a::l,[],_,_,h=>by have:=(h a).1 (qo ..);cases this
 |a::l,b::m,h1,h2,h=>by
  have d:=vj.1 h1;have f:=vj.1 h2;have n:a=b:=by
   rcases qL.1 ((h a).1 (qo ..)) with e|i
   ·exact e
   ·rcases qL.1 ((h b).2 (qo ..)) with e|j
    ·exact e.symm
    ·have k:=f.1 a i
     have g:=UU (d.1 b j);rw [k] at g;cases g
  subst n;rw [Cy l m d.2 f.2 (λx=> ?_)];constructor
  ·intro c
   rcases qL.1 ((h x).1 (qM _ c)) with rfl|h3
   ·have:=d.1 x c;rw [kZ] at this;cases this
   ·exact h3
  ·intro c
   rcases qL.1 ((h x).2 (qM _ c)) with rfl|h3
   ·have:=f.1 x c;rw [kZ] at this;cases this
   ·exact h3
theorem WJ (l:S qn):(l.mergeSort λx y=>decide (x<=y)).Pairwise λa b=>_a b a=false:=by
 have h:=List.pairwise_mergeSort (le:=λx y:qn=>decide (x<=y)) (λa b c h1 h2=>by
  rw [Cx] at h1 h2⊢;cases e:_a c a
  ·rfl
  ·exfalso;rcases kJ a b with h|rfl|h
   ·have:=PU _ _ _ e h;rw [this] at h2;cases h2
   ·rw [e] at h2;cases h2
   ·rw [h] at h1;cases h1) (λa b=>by
  rw [Cx,Cx];cases d:_a b a
  ·rfl
  ·rw [UU d];rfl) l
 refine h.imp λ{a b} h2=> ?_;rw [Cx] at h2;cases d:_a b a
 ·rfl
 ·rw [d] at h2;cases h2
theorem eG (l:S qn) (x:qn):x∈(l.mergeSort λx y=>decide (x<=y))↔x∈l:=(List.mergeSort_perm l _).mem_iff
theorem mK (l m:S qn) (c:l.Nodup) (h: ∀x,x∈l↔x∈m):(l.mergeSort λx y=>decide (x<=y))=R1 m:=by
 refine Cy _ _ ?_ (Cv m) (λx=>by rw [eG,Ud,h]);have d:(l.mergeSort λx y=>decide (x<=y)).Nodup:=(List.mergeSort_perm l _).nodup_iff.2 c;have:=List.Pairwise.and (WJ l) d;refine this.imp λ{a b} h2=> ?_;rcases kJ a b with h3|h3|h3
 ·exact h3
 ·exact absurd h3 h2.2
 ·rw [h2.1] at h3;cases h3
theorem mP {l:S qn} (h:l.Pairwise λa b=>_a b a=false) {i j:O} (c:i<j) (d:j<U l):_a l[j] (l[i]'M)=false:=Jg.1 h i j _ d c
theorem tV (l:S qn) (e:l.Pairwise λa b=>_a b a=false): ∀m,m<=U l->SS (Go.Lib.compactUpTo l.toArray m)/\(∀x,x∈Go.Lib.compactUpTo l.toArray m↔x∈l.take m):=by
 intro m;induction m with
 |zero=>intro _;exact⟨by simp [SS,Go.Lib.compactUpTo],λx=>by simp [Go.Lib.compactUpTo]⟩
 |succ m r=>
  intro w;obtain⟨h1,h2⟩:=r M;have d:l.toArray[m]! =l[m]:=by simp [qX (show m<U l by omega)]
  have t:l.take (m+1)=l.take m++[l[m]]:=by rw [qs,qX M];rfl
  rw [Go.Lib.compactUpTo_succ,t,d];have u: ∀x,x∈l.take m->_a l[m] x=false:=λx v=>by
   obtain⟨i,hi,rfl⟩:=List.mem_iff_getElem.1 v;rw [qh] at hi;rw [List.getElem_take];exact mP e M _
  by_cases c:Go.Lib.keeps l.toArray m=true
  ·rw [qk c];refine⟨List.pairwise_append.2 ⟨h1,List.pairwise_singleton _ _,λa q b k=> ?_⟩,λx=>by rw [zt,zt,h2]⟩;rw [qy] at k;subst k;have f:=(h2 a).1 q;rcases kJ a l[m] with h3|h3|h3
   ·exact h3
   ·exfalso;have n:m≠0:=by rintro rfl;simp at f
    have g:l.toArray[m]! ≠l.toArray[m-1]! :=by
     unfold Go.Lib.keeps at c;rcases xD c with h|h
     ·exact absurd h n
     ·exact h
    have j:l.toArray[m-1]! =l[m-1]:=by simp [qX (show m-1<U l by omega)]
    rw [d,j] at g;obtain⟨i,hi,rfl⟩:=List.mem_iff_getElem.1 f;rw [qh] at hi;rw [List.getElem_take] at h3;rcases jE i (m-1) with h5|h5
    ·have o:=mP e h5 M;have s:=mP e (show m-1<m by omega) M;rcases kJ l[m] l[m-1] with h6|h6|h6
     ·rw [s] at h6;cases h6
     ·exact g h6
     ·rw [h3] at o;rw [o] at h6;cases h6
    ·obtain rfl:i=m-1:=M;exact g h3.symm
   ·rw [u a f] at h3;cases h3
  ·rw [qJ c,jx];refine⟨h1,λx=> ?_⟩;rw [h2,zt,qy];refine⟨.inl, ?_⟩;rintro(h|rfl)
   ·exact h
   ·have n:m≠0:=by
     rintro rfl;exact c (Go.Lib.keeps_lt_one _ 0 M)
    have p:l.toArray[m]! =l.toArray[m-1]! :=by
     rcases Classical.em (l.toArray[m]! =l.toArray[m-1]!) with h|h
     ·exact h
     ·exact absurd (Go.Lib.keeps_pos h) c
    have j:l.toArray[m-1]! =l[m-1]:=by simp [qX (show m-1<U l by omega)]
    rw [d,j] at p;rw [p];exact List.mem_iff_getElem.2 ⟨m-1,by rw [qh];omega,by rw [List.getElem_take]⟩
theorem eh (l:S qn):Go.Lib.compact (l.mergeSort λx y=>decide (x<=y))=R1 l:=by
 have h:=tV _ (WJ l) _ (qx _);refine Cy _ _ h.1 (Cv l) (λx=> ?_);have:=h.2 x;rw [jP] at this;unfold Go.Lib.compact;rw [this,eG,Ud]
end
def V8 (a:qn) (first:Bool) (n:O) (r:qn×Cu):qn×Cu:=
 if r.2.err≠0 then([],r.2) else(a.take n++r.1,if r.1=[]\/al a (a.take n++r.1)=false\/(first=false/\G4 a (a.take n++r.1)≠n) then vP r.2 2 else r.2)
theorem tY (b a:qn) (c:Cu):JE b a true c=V8 a true 0 (xa b 25 c):=rfl
theorem eH (b a:qn) (c:Cu):JE b a false c=V8 a false (jU b (U a:O) c).1 (xa b 25 (jU b (U a:O) c).2):=rfl
end
end
section
variable {g k:O}{w:I}{y:AB}
section
open Go.RowKit
structure LvS (W:I) (gc:O) (A:q') (N cap:O) (b:qn) (wr:I) (m c2:O) (A2:q') (cu:Cu) (out:qn):Prop where
 len:U out=m
 cur:Lr wr gc A N cap b cu
 blk:F' wr W 293 #[mJ gc]
 own:xp wr ((W:O)+1) 5 1 (Z A2 m c2) m (out.map B8)
 jZ:qE [gc] W wr
 size:(W:O)+1<=(wr:O)
section
variable {W wr w2 w3 w4 : I} {gc N cap m c2 : O} {A A2 : q'} {b out : qn} {cu cu2 : Cu}
theorem LvS.step (h:LvS W gc A N cap b wr m c2 A2 cu out) (f:gc<(W:O)) (c:Lr w2 gc A N cap b cu2) (a:qE [gc] wr w2):LvS W gc A N cap b w2 m c2 A2 cu2 out:=
 ⟨h.len,c,a.blk h.blk (by rw [qy];omega),a.own h.own (λk d e=>by have:=(zj h.own k d).1;rw [qy.1 e] at this;omega),h.jZ.then a,qv h.size a.size⟩
theorem LvS.app (h:LvS W gc A N cap b wr m c2 A2 cu out) (o:gc<(W:O)) (j: ∀k∈K' A,k<(W:O)) (n:r' wr wr w3) (l:w3.grownBy w4 (A2.map (·.block))) {f:q'} {e:O} (g:xp w4 ((W:O)+1) 5 1 (Z f (m+k) e) (m+k) (out.map B8++List.replicate k (B8 y))):LvS W gc A N cap b w4 (m+k) e f cu (out++List.replicate k y):=by
 have c:=λk a=>(zj h.own k a).1;have d:=(qE.jq n).grown l (λk a=> .inl a);refine⟨by rw [qK,zT,h.len],h.cur.jZ d (λa=>by have:=c _ a;omega) (λk a i=>by have:=c _ i;have:=j k a;omega),d.blk h.blk (λa=>by have:=c _ a;omega), ?_,h.jZ.trans d (λk a=> .inr (by have:=c k a;omega)),qv h.size d.size⟩;rw [qg,yP];exact g
end
def Jn (w:I) (g:O):Nat:=if intOf ((i' w ⟨g,2,none⟩).getD undef)=0 then 1 else 0
theorem IU {N cap:O} {A:q'} {b:qn} {c:Cu} (h:Lr w g A N cap b c) (a:c.err=0):Jn w g=1:=by unfold Jn;rw [h.XZ,a];rfl
theorem gH {N cap:O} {A:q'} {b:qn} {c:Cu} (h:Lr w g A N cap b c) (a:c.err≠0):Jn w g=0:=by
 unfold Jn;rw [h.XZ,qJ];exact a
theorem vX (b:qn) (a:V) (c:Cu) (h:0<=a):((jU b a c).1:V)<=a:=by
 unfold jU;dsimp only;split
 ·exact h
 ·exact Yi _ _ h
theorem MA (b:qn) (a:V) (c:Cu) (h:(jU b a c).2.err≠0):(jU b a c).1=0:=by
 unfold jU at h⊢;dsimp only at h⊢;split
 ·rfl
 ·rename_i h0;unfold yO at h;rw [qJ h0] at h;split at h
  ·rename_i h1;exact eC _ _ h1
  ·exact absurd rfl h
theorem dB {c:Cu} {e:V} (a:e≠0):(vP c e).err≠0:=by
 unfold vP;split
 ·exact a
 ·assumption
def Me (W:I) (c:O) (A:q') (N cap:O) (b:qn) (r:qn×Cu) (e:Ending) (a:I):Prop:=
 ∃f d,e=t' (Z f r.1 d)/\xp a W 5 1 (Z f r.1 d) r.1 (r.1.map B8)/\Lr a c A N cap b r.2/\qE [c] W a
theorem LvS.ret {W wr:I} {c N cap m c2:O} {A a:q'} {b e:qn} {d:Cu} (h:LvS W c A N cap b wr m c2 a d e):Me W c A N cap b (e,d) (t' (Z a m c2)) wr:=by
 have:=h.len;subst this;exact⟨a,_,rfl,qi h.own M,h.cur,h.jZ⟩
theorem uq (b:qn) (n f:O) (c:Cu) (a:qn) (h:n<=U a\/c.err≠0):xx b n f c a=(a,c):=by
 cases f with
 |zero=>rfl
 |succ f=>unfold xx;rw [qk h]
def na (a:qn) (y:AB) (k:O) (c:Cu):Cu:=if c.err=0/\(k=0\/(a≠[]/\a.getLastD 0=y)) then vP c 2 else c
theorem Em {a:qn} {m:O} {z:AB} (b:U a=m) (c:a[m-1]? =some z):a.getLastD 0=z:=by
 subst b;rw [JG,List.getLast?_eq_getElem?,c];rfl
theorem nA {x:AB} (h:x≠y):((x.toNat:V)==(y.toNat:V))=false:=by
 rw [zE];intro h2;exact h (jG.1 M)
theorem Kk (h:F' w g 5 (List.replicate k (B8 y)).toArray):E' w w 1 g k (List.replicate k (B8 y)):=by
 refine⟨s8,λ_=>⟨_,rfl,h.lt,λj v a=> ?_⟩⟩;rw [Addr.add_mid,jL,h.cell,qR];exact a
theorem GN (W:I) (a:O) (A:q') (N cap n:O) (b:qn) (c:Cu) (h:Lr W a A N cap b c) (hn:n<=20000):
  xG 230 #[.agg #[mJ a],n] W (Me W a A N cap b (xx b n (n+1) c [])):=by
 obtain⟨i0,hi,X,d',cB⟩:=xt xR;obtain⟨R,hR⟩:=zn (xx b n (n+1) c []);rw [<-hR];replace hR:G (xx b n (n+1) c []=R):=hR.symm;have hh:G (a<(W:O)):=h.blk.lt;have D':G (∀k∈K' A,k<(W:O)):=λk hk=>(zj h.own k hk).2;have P':G (LvS W a A N cap b (W (Y #[mJ a] 293)) 0 0 none c []):=
  ⟨rfl,h.fresh (j1 (Y #[mJ a] 293)),F'.new _ _ _,qP _ _ _ _,(qE.refl _ _).alloc _,s8⟩
 clear h;go_in;go_wp2_with fail;generalize W (Y #[mJ a] 293)=w0 at*;go_loopw [5] (λv5 wr=> ∃(m c2 f:O) (A2:q') (cu:Cu) (out:qn),v5=Z A2 m c2/\m<=n/\(n-m)+Jn wr a<=f/\G (xx b n f cu out=R)/\G (LvS W a A N cap b wr m c2 A2 cu out)) (λv5 wr=>(n-Y8 v5)+Jn wr a)
 ·exact⟨0,0,n+1,none,c,[],rfl,M,by unfold Jn;split<;>omega,hR,P'⟩
 ·obtain⟨m,c2,f,A2,cu,out,rfl,hmn,hf,HG,K⟩:=hrel;have q0:=K.blk.cell 0;simp only [qR,qt] at q0;have HL:=T K.len;by_cases hlt:m<n
  ·have hlt':=j' m n;have KE:=T (jg wr a A N cap b cu K.cur);by_cases hE:cu.err=0
   ·have hM:=IU K.cur hE;have p':=T hM;obtain⟨f,rfl⟩: ∃f',f=f'+1:=⟨f-1,M⟩;have N6:=HG.out;unfold xx at N6;rw [qJ (by rw [HL.out];simp [hE];omega)] at N6;have KY:=T (QS wr a A N cap b cu K.cur);have s:xx b n f (na out (j_ b cu).1 (jU b ((n-m:O):V) (j_ b cu).2).1 (jU b ((n-m:O):V) (j_ b cu).2).2) (out++List.replicate (jU b ((n-m:O):V) (j_ b cu).2).1 (j_ b cu).1)=R:=by
     rw [<-HL.out];exact N6
    replace s:=T s;clear HG N6;rw [hE] at KE;generalize j_ b cu=yc at*;obtain⟨y,G'⟩:=yc;unfold jS B8 at KY;dsimp only at s KY;have S':=vX b ((n-m:O):V) G' M;have hke:=T (MA b ((n-m:O):V) G');have KI:=λ(w:I) h=>T (yK w a A N cap b G' ((n-m:O):V) h M);generalize O':jU b ((n-m:O):V) G'=kc at*;replace O':=T O';obtain⟨k,cu2⟩:=kc;unfold jS at KI;dsimp only at s KI S' hke;have ws:DW ((n:V)-(m:V))=((n-m:O):V):=SX;have hkn:k<=n-m:=M;clear hE hM S';go_wp2_with fail;refine Ω KE ?_;go_wp2_with fail;refine zC KY ?_;rintro w1 ⟨OX,ln⟩;have M':=T (K.step hh OX ln);have q1:=M'.blk.cell 0;simp only [qR,qt] at q1;clear q0;go_wp2_with fail;refine zC (KI _ M'.cur).out ?_;rintro w2 ⟨Q',D⟩;have j:=T (M'.step hh Q' D);have q2:=j.blk.cell 0;simp only [qR,qt] at q2;clear KI q1 OX ln Q' D K;have F:=T (jg w2 a A N cap b cu2 j.cur);have cK:=λ(w:I) h=>T (yB w a A N cap b cu2 2 h);unfold jS at cK;have KR:=λ(w:I)=>T (TV (w (Y #[gR (y.toNat:V)] 5)) (w:O) 1 k y ((F'.new w _ _).cell 0) M);unfold Ma at KR;by_cases m':cu2.err=0
    focus
     rw [m'] at F;by_cases cY:k=0
     focus
      have hkz:((k:V)==0)=true:=by rw [yp];omega
      replace cY:=T cY;have qj:G (xx b n f (vP cu2 2) (out++List.replicate k y)=R):=by
       have h:=s.out;unfold na at h;rw [qk ⟨m', .inl cY.out⟩] at h;exact h
      have cL:G (k=0->(vP cu2 2).err≠0):=λ_=>dB FV;go_wp2_with fail;refine Ω F ?_;go_wp2_with fail;refine zC (cK _ j.cur).out ?_;rintro w3 ⟨u',z'⟩;have d:=T (j.step hh u' z');clear cK u' z' q2;go_wp2_with fail;refine(KR w3).out.mono ?_;rintro e Q ⟨uK,rfl,P,B,g⟩;have t:=T (Qv (Qv d.own (j1 (Y #[gR (y.toNat:V)] 5))) g);have i:=T (((qZ w3 w3).alloc (qx _) (Y #[gR (y.toNat:V)] 5)).trans (g.mono s8))
     rotate_left
     focus
      have hkz:((k:V)==0)=false:=by rw [zE];omega
      by_cases I':m=0
      focus
       have Z': ¬(0:V)<(m:V):=M;have hmz':decide (0<m)=false:=by rw [zW];omega
       have ho0:=T (show out=[] from zl (by rw [HL.out];exact I'));replace I':=T I';have qj:G (xx b n f (cu2) (out++List.replicate k y)=R):=by
        have h:=s.out;unfold na at h;rw [qJ (λh=>h.2.elim cY (λh2=>h2.1 ho0.out))] at h;exact h
       have cL:G (k=0->(cu2).err≠0):=λh=>absurd h cY;go_wp2_with fail;refine Ω F ?_;have d:=j;clear cK q2;go_wp2_with fail;refine(KR w2).out.mono ?_;rintro e Q ⟨uK,rfl,P,B,g⟩;have t:=T (Qv (Qv d.own (j1 (Y #[gR (y.toNat:V)] 5))) g);have i:=T (((qZ w2 w2).alloc (qx _) (Y #[gR (y.toNat:V)] 5)).trans (g.mono s8))
      rotate_left
      focus
       have Z':=yn m;have hmz':decide (0<m)=true:=by rw [jo];omega
       have wm:DW ((m:V)-1)=((m-1:O):V):=SX;have b1:(0:V)<=((m-1:O):V):=M;have b2:((m-1:O):V)<(m:V):=M;have b3:m-1<m:=M;obtain⟨ck,z,hA1,x,hcell⟩: ∃ck z,A2=some ck/\out[m-1]? =some z/\i' w2 (ck.add (m-1))=J (gR (z.toNat:V)):=by
        obtain⟨ck,u,h1,-,hu,h2⟩:=(E'.zY j.own).at_ b3;obtain⟨z,x,rfl⟩:=LX B8 out (m-1) u hu;exact⟨ck,z,h1,x,h2⟩
       have J':out.getLastD 0=z:=Em HL x;have hone:out≠[]:=λh=>by have:=HL.out;rw [h] at this;exact I' this.symm
       subst hA1;obtain⟨m1,N'⟩:=zn (m-1);rw [<-N'] at wm b1 b2 b3 hcell;replace N':=T N';replace J':=T J';clear x;by_cases iL:z=y
       focus
        have U':((z.toNat:V)==(y.toNat:V))=true:=by rw [iL,beq_self_eq_true]
        have Y':decide ((z.toNat:V)=(y.toNat:V))=true:=by rw [iL];simp
        have N9:=T iL;clear iL;have qj:G (xx b n f (vP cu2 2) (out++List.replicate k y)=R):=by
         have h:=s.out;unfold na at h;rw [qk ⟨m', .inr ⟨hone,J'.trans N9.out⟩⟩] at h;exact h
        have cL:G (k=0->(vP cu2 2).err≠0):=λ_=>dB FV;go_wp2_with fail;refine Ω F ?_;go_wp2_with fail;refine zC (cK _ j.cur).out ?_;rintro w3 ⟨u',z'⟩;have d:=T (j.step hh u' z');clear cK u' z' q2;go_wp2_with fail;refine(KR w3).out.mono ?_;rintro e Q ⟨uK,rfl,P,B,g⟩;have t:=T (Qv (Qv d.own (j1 (Y #[gR (y.toNat:V)] 5))) g);have i:=T (((qZ w3 w3).alloc (qx _) (Y #[gR (y.toNat:V)] 5)).trans (g.mono s8));have gA:=trivial
       rotate_left
       focus
        have U':((z.toNat:V)==(y.toNat:V))=false:=nA iL;have Y':decide ((z.toNat:V)=(y.toNat:V))=false:=by have:=zE.1 U';simpa using this
        have N9:=T iL;clear iL;have qj:G (xx b n f (cu2) (out++List.replicate k y)=R):=by
         have h:=s.out;unfold na at h;rw [qJ (λh=>h.2.elim cY (λh2=>N9.out (J'.symm.trans h2.2)))] at h;exact h
        have cL:G (k=0->(cu2).err≠0):=λh=>absurd h cY;go_wp2_with fail;refine Ω F ?_;have d:=j;clear cK q2;go_wp2_with fail;refine(KR w2).out.mono ?_;rintro e Q ⟨uK,rfl,P,B,g⟩;have t:=T (Qv (Qv d.own (j1 (Y #[gR (y.toNat:V)] 5))) g);have i:=T (((qZ w2 w2).alloc (qx _) (Y #[gR (y.toNat:V)] 5)).trans (g.mono s8));have gA:=trivial
    rotate_left 4
    focus
     have hEz:(cu2.err==0)=false:=by simpa using m'
     have hE2h:=T m';have qj:G (xx b n f (cu2) (out++List.replicate k y)=R):=by
      have h:=s.out;unfold na at h;rw [qJ (λh=>m' h.1)] at h;exact h
     have cL:G (k=0->(cu2).err≠0):=λ_=>hE2h.out;generalize X':cu2.err=E2 at F hEz m';replace X':=T X';go_wp2_with fail;refine Ω F ?_;have d:=j;clear F cK q2;go_wp2_with fail;refine(KR w2).out.mono ?_;rintro e Q ⟨uK,rfl,P,B,g⟩;have t:=T (Qv (Qv d.own (j1 (Y #[gR (y.toNat:V)] 5))) g);have i:=T (((qZ w2 w2).alloc (qx _) (Y #[gR (y.toNat:V)] 5)).trans (g.mono s8))
    all_goals first
     |clear gA
      have o:=T (Kk B);have p:G ((W:O)+1<=(Q:O)):=qv d.size i.size;have ln:m+k<=maxLen:=SJ;have D:(m+k)*1<=140737488355328:=M;clear P B g;go_wp2_with (at_builtin;refine qF _ rfl (.tmp 54) (.tmp 58) 30 rfl ((W:O)+1) 5 i0 (gR 0) 1 1 qu hi X d' cB rfl M (some ck) m c2 _ rfl t _ uK k k _ rfl o (λv H=>by rw [xJ H];rfl) ln D p ?_;intro L iv w4 q r ih;have C:=T (d.app hh D' i r q);clear q r ih);have l:G (n-(m+k)+Jn w4 a<=f/\n-(m+k)+Jn w4 a<n-m+Jn wr a):=by
       have h1:=p'.out;rw [Hid,h1];by_cases x:k=0
       ·have:=gH C.cur (cL x);omega
       ·have:Jn w4 a<=1:=by unfold Jn;split<;>omega
        omega
      clear d;go_roundw
      case rel=>exact⟨m+k,iv,f,L,_,_,xg,M,l.out.1,qj,C⟩
      case measure=>simpa [Y8] using l.out.2
     |have o:=T (Kk B);have p:G ((W:O)+1<=(Q:O)):=qv d.size i.size;have ln:m+k<=maxLen:=SJ;have D:(m+k)*1<=140737488355328:=M;clear P B g
      go_wp2_with (at_builtin;refine qF _ rfl (.tmp 54) (.tmp 58) 30 rfl ((W:O)+1) 5 i0 (gR 0) 1 1 qu hi X d' cB rfl M A2 m c2 _ rfl t _ uK k k _ rfl o (λv H=>by rw [xJ H];rfl) ln D p ?_;intro L iv w4 q r ih;have C:=T (d.app hh D' i r q);clear q r ih);have l:G (n-(m+k)+Jn w4 a<=f/\n-(m+k)+Jn w4 a<n-m+Jn wr a):=by
       have h1:=p'.out;rw [Hid,h1];by_cases x:k=0
       ·have:=gH C.cur (cL x);omega
       ·have:Jn w4 a<=1:=by unfold Jn;split<;>omega
        omega
      clear d;go_roundw
      case rel=>exact⟨m+k,iv,f,L,_,_,xg,M,l.out.1,qj,C⟩
      case measure=>simpa [Y8] using l.out.2
   ·have HR:G (R=(out,cu)):=by rw [Hid,<-HG.out];exact uq _ _ _ _ _ (.inr hE)
    have hzn:(cu.err==0)=false:=by simpa using hE
    have HF:=T K.ret;generalize cu.err=E at*;clear HG hf;go_wp2_with fail;refine Ω KE ?_;go_wp2;go_ret;rw [HR.out];exact HF.out
  ·have hge:=vc m n;have HR:G (R=(out,cu)):=by rw [Hid,<-HG.out];exact uq _ _ _ _ _ (.inl (by rw [HL.out];omega))
   clear HG;go_wp2;go_ret;rw [HR.out];exact K.ret
end
end
end Go.Proofs.YtfnlfpcfkbdcmaaGreatDoor
