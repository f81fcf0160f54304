import Derived.Test.YtfnlfpcfkbdcmaaGreatDoorT24
import Derived.Test.YtfnlfpcfkbdcmaaGreatDoorT25
import Derived.Test.YtfnlfpcfkbdcmaaGreatDoorT26
set_option linter.unusedSimpArgs false
set_option linter.unusedVariables false
set_option maxRecDepth 100000
set_option maxHeartbeats 0
open Go.Proofs.Tryz
namespace Go.Proofs.YtfnlfpcfkbdcmaaGreatDoor
open Go.RowKit
section
variable {A8:q'}{B base c8 g i k n8:O}{L:S qn}{cY W W' W4:I}{v0 v1:la}
structure FrJ (W:I) (base g:O) (v0 v1:la) (k i:O) (A8:q') (n8 c8:O) (L:S qn):Prop where
 blk:F' W g 174 (byC v0 v1 k i (Z none 0 0) (Z none 0 0) (Z none 0 0) (Z none 0 0) (Z A8 n8 c8) (Z none 0 0))
 ls:zM W 0 base A8 n8 c8 L
theorem FrJ.fresh (h:FrJ W base g v0 v1 k i A8 n8 c8 L) (a:r' W W W'):FrJ W' base g v0 v1 k i A8 n8 c8 L:=⟨h.blk.below a h.blk.lt,h.ls.below a⟩
theorem FrJ.q8 (h:FrJ W base g v0 v1 k i A8 n8 c8 L):i' W ⟨g,8,none⟩=J (Z A8 n8 c8):=h.blk.cell 8
theorem FrJ.step {c t:q'} {b s f:O} {x:qn} {vs:S la} (h:FrJ W base g v0 v1 k i A8 n8 c8 L)
  (h1:xp W base 30 1 (Z A8 n8 c8) n8 vs) (h2:U L=n8) (h3: ∀(i:O) (a:qn),L[i]? =some a-> ∃(Ai:q') (d:O),vs[i]? =J (Z Ai (U a) d)/\j8 W 0 base Ai d a)
  (B:U x=f) (A:xp W base 5 1 (Z t f s) f (x.map B8)) (o:Obj) (j:(W.alloc o).grownBy W4 (A8.map (·.block))) (l:xp W4 base 30 1 (Z c (n8+1) b) (n8+1) (vs++[Z t f s])) (C:(cY:O)<=base) (u:qE [g] cY W):
  (i' W4 ⟨g,8,none⟩=J (Z A8 n8 c8)/\W4.frozen? ⟨g,8,none⟩=false)/\FrJ (W4.setCell ⟨g,8,none⟩ (Z c (n8+1) b)) base g v0 v1 k i c (n8+1) b (L++[x])/\qE [g] cY (W4.setCell ⟨g,8,none⟩ (Z c (n8+1) b)):=by
 have r:=h.ls.bs;have m:r' W W (W.alloc o):=j1 _;have q:=h1.alloc o;have e:=xQ (h.blk.alloc o) q FV j;have D:=zM.Fv B ((j8.own (b0:=0) A).2.below (qp _) r m) q h2 (λi a hi=>by
  obtain⟨Ai,d,v,y⟩:=h3 i a hi;exact⟨_,d,v,y.below (qp _) r m⟩) (qp _) (qv r m.size) l j
 have z:=(qE.refl _ _).grown j (λk n=> .inl n);refine⟨⟨e.cell 8,e.frozen 8⟩,⟨e.zh 8 _, ?_⟩,((u.alloc o).trans z (λk n=> .inr (qv C (zj q k n).1))).zh (p:=⟨g,8,none⟩) (qy.2 rfl) _⟩;exact D.kept (by rw [zO];exact qx _) λE _ _ _ _ _ w l=>jw l e (by rcases w with rfl|rfl<;>decide) _ _
theorem UM: ∀(l:S O) (n:O) (b:qn),CJ (l++[n]) b=CJ l b++[(b.drop l.sum).take n]
 |[],n,b=>by simp [CJ]
 |a::t,n,b=>by
  show b.take a::CJ (t++[n]) (b.drop a)=_
  rw [UM t n (b.drop a),vh,List.sum_cons];rfl
def oz (W:I) (B g:O) (l j:la) (k i:O) (c:S O) (b:qn) (e:Ending) (a:I):Prop:=
 ∃Ac h Ai f d A8 n8 c8,e=t' (BA #[Z Ac k h,Z Ai f d])/\E' a B 1 Ac k (((b.drop c.sum).take k).map B8)/\k<=h/\h<=maxLen/\E' a B 1 Ai f (((b.drop c.sum).drop k).map B8)/\f<=d/\d<=maxLen/\n8=U c/\FrJ a W g l j k i A8 n8 c8 (CJ c b)/\qE [g] W a
theorem GM (g k C l c1:O) (L:la) (s:Option Addr) (a:S O) (cB:Option Addr) (N R B b1:O) (b:S AB) (W:I) (E:F' W g 174 (byC L (Z s l c1) k C (Z none 0 0) (Z none 0 0) (Z none 0 0) (Z none 0 0) (Z none 0 0) (Z none 0 0)))
  (ih:xp W b1 3 1 (Z s l c1) l (a.map NV)) (iv:E' W B 1 cB N (b.map B8)) (uK:B<=(W:O)) (hgB:B<=g) (hN:N<=1000000000) (hNc:N<=R) (hcm:R<=maxLen) (M':a.sum+k+C=N) (hn1:l<=1000000):
  xG 160 #[mJ g,Z cB N R] W (oz W B g L (Z s l c1) k C a b):=by
 obtain⟨i0,hi,hz0,cY,hz2⟩:=qA QB;obtain⟨j0,hj,D',iL,p'⟩:=qA Zz;have hcut:=T (λ(A:Option Addr) (m c i:O) (h:i<=m)=>jI (P:=prog) 30 5 i0 1 qu hi cY A m c i .i64 h);have hcuh:=T (λ(A:Option Addr) (m c i:O) (h:i<=c)=>Qm (P:=prog) 30 5 i0 1 qu hi cY A m c i .i64 h);replace hj:=T hj;replace D':=T D';replace iL:=T iL;replace p':=T p';have KCl:=T (λA n c xs w h uK (hn:n<=1000000000)=>yV A n c B xs w h uK M);unfold jQ at KCl;have hszl:U a=l:=by have:=ih.1;simpa using this
 have HF0:G (FrJ W (W:O) g L (Z s l c1) k C none 0 0 []):=⟨E,zM.nil _ _ _ (qp _) (qx _)⟩;have HBL:G (∀W',qE [g] W W'->r' B W W'):=λW' h=>h.below (λx hx=>by rw [qy.1 hx];exact hgB) uK
 have HS:=T (λW' (h:qE [g] W W')=>h.own ih (λk' hk' hk2=>qT ih E FV k' hk' (qy.1 hk2)));have H:=T iv;have q1:i' W ⟨g,1,none⟩=J (Z s l c1):=E.cell 1;have HSM:=T M';have qj:=T hszl;have hbN:=T iv.len;have hgl:=T E.lt;clear E ih iv hi hz0 cY hz2 M' hszl;go_enter func160,ntmps160
 go_wp2_with fail;go_loopw [1,14] (λv1' J' wr=> ∃(j m d c8:O) (o A8:Option Addr),v1'=Z o m d/\J'=(j:la)/\j<=l/\m<=N/\m<=d/\d<=maxLen/\G (m+(a.take j).sum=N)/\G (∀W',r' B W W'->E' W' B 1 o m ((b.drop (a.take j).sum).map B8))/\G (FrJ wr (W:O) g L (Z s l c1) k C A8 j c8 (CJ (a.take j) b))/\G (qE [g] W wr)) (λ_ J' _=>l-(intOf J').toNat)
 case atStart=>exact⟨0,N,R,0,cB,none,rfl,rfl,qp _,qx _,hNc,hcm,by rw [Hid,vG];rfl,by rw [Hid,vG];exact λW' h=>H.below h,by rw [Hid,vG];exact HF0,qE.refl _ _⟩
 case round=>
  clear HF0 q1;obtain⟨j,m,d,c8,o,A8,rfl,rfl,hjn,hmN,hmc,hcx,Q,r,q,p⟩:=hrel;by_cases hlt:j<l
  ·have hlt':(j:V)<(l:V):=M
   have N':j<U a:=by rw [qj.out];exact hlt
   obtain⟨ad,u,hA1,-,X,hcell⟩:=(E'.zY (HS.out wr p)).at_ hlt;subst hA1;rw [qD,qX N'] at X;have hu2:u=NV a[j]:=(zy X).symm;subst hu2;have G':a.take (j+1)=a.take j++[a[j]]:=by rw [qs,qX N'];rfl
   have N9:(a.take (j+1)).sum=(a.take j).sum+a[j]:=by rw [G',QE];simp
   have hsmN:(a.take (j+1)).sum<=a.sum:=by
    have h:=QG (j+1) a;have h2:=zo List.sum h;rw [QE] at h2;omega
   have z':a[j]<=m:=by have:=Q.out;have:=HSM.out;omega
   have cK:CJ (a.take (j+1)) b=CJ (a.take j) b++[(b.drop (a.take j).sum).take a[j]]:=by rw [G',UM]
   have m':b.drop (a.take (j+1)).sum=(b.drop (a.take j).sum).drop a[j]:=by rw [vh,N9]
   have HMM2:G (m-a[j]+(a.take (j+1)).sum=N):=by have:=Q.out;rw [Hid];omega
   have S':U (b.drop (a.take j).sum)=m:=(r.out W (qZ _ _)).len;unfold NV at hcell;generalize b.drop (a.take j).sum=rs at*
   generalize a[j]=x at*
   have hchi:=hcuh.out o m d x M;have hclo:=hcut.out o m d x z';have ck:U (rs.take x)=x:=by rw [qh];omega
   have cL:=KCl.out o x d (rs.take x) wr.drew (((r.out wr (HBL.out wr p)).takeN z').drew) (qv uK p.size) M;have hx0:(0:V)<=(x:V):=M;have hxm':(x:V)<=(m:V):=M;have hxc:(x:V)<=(d:V):=M;have hh:=T (q.fresh (qZ _ wr).drew);have y:G (qE [g] W wr.drew):=p.drew;have Q':=q.q8;have hgw:G (g<(wr.drew:O)):=qB hgl p.size;have hb1:j+1<=maxLen:=SJ;have hb2:(j+1)*24<=140737488355328:=M;replace cL:=T cL;replace cK:=T cK;replace m':=T m';replace ck:=T ck;replace S':=T S';generalize v:xo o d x 1=F at*
   replace v:=T v;clear G' N9 hsmN X q p
   go_wp2_with fail;refine zv 11 (λW'=>i' W' ⟨g,8,none⟩=J (Z A8 j c8)) AL Q' (λt=> ?_)
   generalize wr.drew=wd at*
   refine zq [0,1,2,3,4,5] (a':= ?_) ?_;refine zq [6,7] (a':= ?_) ?_;refine IA 8 rfl AL SQ (λK f=> ?_);go_simp
   (go_at_call 55;((with_reducible refine(cL.out).mono ?_);rintro e D ⟨Ap,cp,rfl,ln⟩);have z:=hh.out.fresh ln.2)
   refine f _ _ (z.q8) (λt=> ?_);clear f K;try simp only [Act.put,qQ,qY,qV]
   have OX:qE [g] W D:=y.fresh ln.2;have Y':=qi ln.1 y.size;obtain⟨⟨vs,d',N6,X'⟩,hvb,hv0⟩:=z.ls;refine IA 9 rfl AL SQ (λK f=> ?_);go_simp
   (have Z':=z.fresh ((qZ _ D).alloc (qx _) (Y #[Z Ap x cp] 30)))
   refine f _ _ ((Z'.q8)) (λt=> ?_);clear f K;try simp only [Act.put,qQ,qY,qV]
   refine QY 10 rfl AL (λK f=> ?_)
   (refine jm _ rfl (.tmp 22) (.tmp 27) 87 rfl (W:O) 30 j0 (Z none 0 0) 1 24 jr hj D' iL p' rfl M A8 j c8 vs rfl (d'.alloc _) ((D:O)+1) D 1 1 [Z Ap x cp] rfl (zU D _ _) (IB rfl) hb1 hb2 (qv hvb s8) ?_;intro A4 c4 w4 O' P' hs4;obtain⟨⟨U',jf⟩,h4,m4⟩:=z.step d' N6 X' ck Y' _ P' O' (qx _) OX)
   refine f _ _ (U') (λt=> ?_);clear f K;try simp only [Act.put,qQ,qY,qV]
   refine j4 11 rfl AL FV SQ (λK f=> ?_);go_simp;refine f _ _ ?_;clear f K;try simp only [Act.put,qQ,qY,qV]
   refine j4 12 rfl AL FV SQ (λK f=> ?_);go_simp;refine f _ _ ?_;clear f K;try simp only [Act.put,qQ,qY,qV]
   refine j4 13 rfl AL FV SQ (λK f=> ?_);go_simp;refine f _ _ ?_;clear f K;try simp only [Act.put,qQ,qY,qV]
   refine zV AL ?_ _;rw [<-cK.out] at h4;have HF4:=T h4;have HM4:=T m4;clear cL t Q' z Z' OX Y' d' N6 X' hvb hv0 O' P' hs4 U' jf h4 m4 ln hh y;generalize w4.setCell ⟨g,8,none⟩ (Z A4 (j+1) c4)=w5 at*
   have HR4:G (∀W',r' B W W'->E' W' B 1 F (m-x) ((b.drop (a.take (j+1)).sum).map B8)):=λW' h=>by
    rw [m'.out,<-v.out];exact(r.out W' h).VC z' hmc
   clear r;have hmx:m-x<=N:=M;have hmc2:m-x<=d-x:=M;have hcx2:d-x<=maxLen:=M
   go_wp2_with fail;go_roundw
   case rel=>exact⟨j+1,m-x,d-x,c4,F,A4,by first|rfl|simp,by first|rfl|simp,M,hmx,hmc2,hcx2,HMM2,HR4,HF4,HM4⟩
   case measure=>simp [intOf];omega
  ·obtain rfl:j=l:=M
   have hge: ¬(j:V)<(j:V):=M;rw [qH (by rw [qj.out];exact qx _)] at Q r q
   have u':k<=m:=by have:=Q.out;have:=HSM.out;omega
   have hchi:=hcuh.out o m d k M;have hclo:=hcut.out o m d k u';have hk0:(0:V)<=(k:V):=M;have hkm':(k:V)<=(m:V):=M;have hkc:(k:V)<=(d:V):=M;have q2:i' wr.drew ⟨g,2,none⟩=J (k:la):=q.blk.cell 2;have I':=r.out wr (HBL.out wr p);have HR1:=T (I'.takeN u').drew;have HR2:=T (I'.VC u' hmc).drew;have hh:=T (q.fresh (qZ _ wr).drew);have y:G (qE [g] W wr.drew):=p.drew;generalize v:xo o d k 1=F at*
   replace v:=T v;clear r q p I'
   go_wp2_with fail;refine zv 16 (λW'=>i' W' ⟨g,2,none⟩=J (k:la)) AL q2 (λt=> ?_)
   refine zq [0,1,2,3,4,5] (a':= ?_) ?_;refine zq [6,7,8,9,10,11] (a':= ?_) ?_;refine zq [12,13,14,15] (a':= ?_) ?_;refine zV AL ?_ _;clear t q2;generalize wr.drew=wd at*
   go_wp2_with fail
   go_ret2;exact⟨o,d,F,m-k,d-k,A8,j,c8,rfl,HR1.out,M,hcx,HR2.out,M,M,qj.symm,hh.out,y.out⟩
end
section
variable {B L N iv qj ch d k m n:O}{b s:qn}{w:I}
theorem oU (a:Shp k m ch n iv d L N qj) (b:U s=qj) {t:O} (ht:t<iv) (h:_i k m (Q2 k m ch s t)=0):Zm k m (ZY (Q2 k m ch s t)) (xL (Q2 k m ch s t))=0:=by
 by_cases c:U (kC (xL (Q2 k m ch s t)) (k+m))<k
 ·rw [ON a b ht c] at h;exact absurd h FV
 ·exact(MT a b ht c).1
theorem Bl (a:Shp k m ch n iv d L N qj) (b:U s=qj): ∀t,t<=iv->(∀x,x<t->_i k m (Q2 k m ch s x)=0)->U (Y4 k m ch s t)=t*d
 |0,_,_=>by simp [Y4]
 |t+1,ht,h=>by
  rw [FG,qK,Bl a b t M (λx c=>h x M),Om a b (show t<iv by omega) (oU a b M (h t M)),ql]
theorem aG (k m ch:O) (s:qn) (t:O):Yu (ch+4) s ((t+1)*(k+m))=Yu (ch+4) s (t*(k+m))++DI (t*(k+m)) (xL (Q2 k m ch s t)):=by
 rw [ql,BS];congr 2;unfold xL Q2 vr;rw [vC];apply jX;intro i hi;show _=Jd (yY _ _ _);rw [eF (q:=k+m) rfl (js.1 hi)]
theorem O5 (k m ch n a:V) (A:q') (qj c:O) (w:I) (d:ZM k m ch n=a) (h0:a≠0):
  xG 169 #[k,m,ch,n,Z A qj c] w (VV w [] [] a):=by
 have f:G (xG 64 #[k,m,ch,n] w λe w'=>e=t' (BA #[e' (Vx k m ch n:O),a])/\r' w w w'):=by
  have:=Uk k m ch n w;rw [d] at this;exact this
 have h:(a !=(0:V))=true:=by simp [h0]
 generalize Vx k m ch n=v at*;clear d;go_in;go_wp2_with fail;refine zC f ?_;intro g b;replace b:=T b;go_wp2;go_ret3;exact VV.nil b.out
def od (qj l:O):Int:=if l<qj then 1 else 2
theorem rC (k m ch n:V) (A:q') (l c qj:O) (w:I) (f:ZM k m ch n=0) (g:Vx k m ch n=qj) (h0:l≠qj):
  xG 169 #[k,m,ch,n,Z A l c] w (VV w [] [] (od qj l)):=by
 have b:G (xG 64 #[k,m,ch,n] w λe w'=>e=t' (BA #[qj,()])/\r' w w w'):=by
  have:=Uk k m ch n w;rw [f,g] at this;exact this
 clear f g;unfold od;by_cases d:l<qj
 focus
  rw [qk d];have h1:=j' l qj
 rotate_left
 focus
  rw [qJ d];have h2:=j' qj l
 all_goals
  go_in;go_wp2_with fail;refine zC b ?_;intro h a;replace a:=T a;go_wp2;go_ret3;exact VV.nil a.out
def GQ (w:I) (v:qn) (a:S O) (f:V) (e:Ending) (w':I):Prop:=
 ∃A c b d,e=t' (BA #[Z A v c,Z b a d,f])/\E' w' w' 1 A v (v.map B8)/\E' w' w' 1 b a (a.map NV)/\U v<=c/\c<=maxLen/\r' w w w'
theorem GQ.nil {w':I} {a:V} (b:r' w w w'):GQ w [] [] a (t' (BA #[z8,z8,a])) w':=⟨_,0,_,0,rfl,E'.none_,E'.none_,qx _,FV,b⟩
theorem E'.u8 {k:O} {A:q'} {l:qn} (h:E' w B 1 A n (l.map B8)) (d:k<n): ∃a x,A=some a/\l[k]? =some x/\i' w (a.add k)=J (gR (x.toNat:V)):=by
 obtain⟨a,u,e,-,c,b⟩:=h.at_ d;obtain⟨x,f,rfl⟩:=LX _ l k u c;exact⟨a,x,e,f,b⟩
theorem TS (A o:q') (n g c s B z:O) (a b:qn) (w:I) (h1:E' w B 1 A n (a.map B8)) (h2:E' w z 1 o g (b.map B8)) (hh:n<=1000000000000) (uK:g<=1000000000000):
  xG 149 #[Z A n c,Z o g s] w λe w'=>e=t' (.bool (decide (a=b)))/\Dr w w':=by
 have m:=h1.len;have l2:=h2.len;by_cases q:n=g
 ·subst q;have t:=T h1;have v:=T h2;have L:=T (show U a=n/\U b=n from⟨m,l2⟩);clear h1 h2 m l2;go_wp2;go_loopw [13] (λi wr=> ∃k:O,i=(k:la)/\k<=n/\G (Dr w wr)/\G (a.take k=b.take k)) (λi _=>n-(intOf i).toNat)
  ·exact⟨0,rfl,M,Dr.refl w,rfl⟩
  ·obtain⟨k,rfl,K,f,r⟩:=hrel;by_cases p:k<n
   ·obtain⟨P,x,rfl,h,F⟩:=(f.reads t).u8 p;obtain⟨E,y,rfl,l,C⟩:=(f.reads v).u8 p;have N:=j' k n;by_cases j:x=y
    ·subst j;have u:=T (fk r h l rfl);clear h l;go_wp2;go_quiet (fail);go_wp2_with fail;refine xk ?_;exact⟨k+1,xh,M,f.drewN _,u⟩
    ·have D:((x.toNat:V) !=(y.toNat:V))=true:=by
      rw [yo];intro e;exact j (jG.1 M)
     have d:=T (WM h l j);clear h l j;go_wp2;go_quiet (fail);go_wp2;go_ret;exact⟨j7 d.symm,f.drewN _⟩
   ·obtain rfl:k=n:=M;have d:=T (Wo r L.out.1 L.out.2);go_wp2;go_ret;exact⟨j7 d.symm,f⟩
 ·have H:((n:V) !=(g:V))=true:=by rw [yo];omega
  have d:G (decide (a=b)=false):=Ci M;clear q h1 h2 m l2;go_wp2;go_ret;exact⟨j7 d.symm,Dr.refl w⟩
theorem oD (k m ch n iv d L N qj:O) (A:q') (c:O) (s:qn) (w:I) (a:Shp k m ch n iv d L N qj) (ht:Pl w) (hr:E' w (w:O) 1 A qj (s.map B8)) (hnc:qj<=c) (hcm:c<=maxLen) (hU:G (LR\/Nb k m ch iv s=true)):
  xG 169 #[k,m,ch,n,Z A qj c] w (GQ w (rdV k m ch n iv s) (rdB k m ch n iv s) (rdE k m ch n iv s)):=by
 have hok:G2 k m ch n=true:=iQ a.k1 a.km a.c1 a.c2 a.n2;have S':G3 k m ch n=qj:=by unfold G3;rw [a.hT,a.hS,a.hL]
 have P':=UK hok (by rw [S'];exact a.t2);have KSz:G (xG 64 #[k,m,ch,n] w λe w'=>e=t' (BA #[qj,()])/\r' (w:O) w w'):=by
  have:=Uk k m ch n w;rw [P'.1,P'.2,S'] at this;exact this
 have sl:G (U s=qj):=hr.len;have KL:G (∀W,xG 97 #[.agg #[k,m,ch]] W λe w'=>e=t' L/\r' (W:O) W w'):=λW=>by rw [a.hL];exact eJ k m ch W a.km a.c2
 have d1:=a.d1;have d2:=a.d2;have N2:=a.N2;have nN:=a.nN;have S2:=a.S2;have t2:=a.t2;have k1:=a.k1;have c1':=a.c1;have c2':=a.c2;obtain⟨q,B⟩: ∃q,k+m=q:=⟨_,rfl⟩;have km:q<=255:=by rw [<-B];exact a.km
 obtain⟨v,p⟩: ∃v,ch+4=v:=⟨_,rfl⟩;have hh:L=q*v:=by rw [a.hL,B,p]
 have hL1:1<=L:=by rw [hh,<-p];exact Nat.mul_pos M M
 have uK:=T a;have HT:=T ht;have RB:=T (λW (hW:r' (w:O) w W)=>hr.below hW);have hTT1:=vc qj qj;revert B p hh;refine vn ?_;intro B p hh;obtain⟨i0,hi,hz0,p',hz2⟩:=xt xR;clear a hok S' P' ht;go_in;go_wp2_with fail;refine zC KSz ?_;intro D M';have hb:=F'.new D 309 #[k,m,ch,z8,z8,()];have F:=zX M' ((qZ D D).alloc (qx _) (Y #[k,m,ch,z8,z8,()] 309));have hge:(w:O)<=(D:O):=M'.size;replace hb:=T hb;replace F:=T F;clear M';go_wp2_with fail;have hg:(w:O)<=(D:O):=hge;obtain⟨W2,Z'⟩: ∃W2,D (Y #[k,m,ch,z8,z8,()] 309)=W2:=⟨_,rfl⟩;rw [Z'] at hb F⊢;replace Z':=T Z';generalize (D:O)=g at*;go_loopw [4] (λv4 wr=> ∃(t R l no j E X:O) (ln u cK:q'),v4=Z ln R l/\t<=iv/\R<=qj/\R<=l/\l<=maxLen/\G (R+t*L=qj)/\G (no=t*d)/\G (E<=t*q)/\G (∀x,x<t->_i k m (Q2 k m ch s x)=0)/\G (E' wr (w:O) 1 ln R ((s.drop (t*L)).map B8))/\G (r' (w:O) w wr)/\G (Rdr wr (w:O) g k m ch u no j cK E X (t*q) (Y4 k m ch s t) (Yu v s (t*q)))) (λv4 _=>c_ v4)
 ·
  refine⟨0,qj,c,0,0,0,0,A,none,none,rfl,qp _,qx _,hnc,hcm,by show qj+0*L=qj;rw [jd];rfl,by show 0=0*d;rw [jd],qp _,λx hx=>M, ?_,F, ?_⟩
  ·rw [jd,Zy];exact RB _ F.out
  ·rw [jd];exact⟨hb,hg,qP _ _ _ _,qP _ _ _ _⟩
 ·clear F;obtain⟨t,R,l,no,j,E,X,ln,u,cK,rfl,htS,hRT,hRc,hc4,N6,HNO,HNB,cB,O',H,b⟩:=hrel;by_cases iL:t<iv
  ·have hLT:=uK.out.LT iL;have hdN:=uK.dN iL;have Y':L<=R:=by have:=N6.out;omega
   have hR0:=yn R;have hTQ:t*q+q<=16777216:=by
    have h1:(t+1)*q<=(t+1)*L:=yz _ (by rw [hh.out];exact Xp _ (by have:=p.out;omega));rw [ql,ql] at h1;omega
   have hCS:G (vr q v ((s.drop (t*L)).take L)=Q2 k m ch s t):=by
    rw [Hid];unfold Q2;rw [B.out,p.out,<-hh.out]
   have I':=T (λhne=>nM (n:=n) cB hne iL);have hOUT:=T (FG k m ch s t);have hBAD:=T (aG k m ch s t);rw [B.out,p.out] at hBAD;have hc:=And.intro (b.blk.cell 0) (And.intro (b.blk.cell 1) (b.blk.cell 2));have hLc:=vv L l;have hL0:=xi L;have hszw:(w:O)<=(wr:O):=H.size;obtain⟨q0,q1,q2⟩:=hc;go_wp2_with fail;refine zC (KL _) ?_;intro w2 o;have G':=T (H.trans (o.mono hszw));have HR2:=T (b.below o);have OX:=T (O'.below (o.mono hszw));have u':=T (Nz (w:O) g k m ch q v L no j E X (t*q) u cK ln l (Y4 k m ch s t) ((s.drop (t*L)).take L) (Yu v s (t*q)) w2 (HT.below G' HT.pos) HT.pos HR2 G'.size (OX.takeN Y') M hc4 B p hh k1 km c1' c2' M HNB (by rw [<-uK.hd,HNO.out];omega) (by rw [hCS.out];exact hU.imp id λh=>qqH h iL));unfold Bm at u';rw [hCS.out] at u';clear o H b O' q0 q1 q2 hLT hdN;go_wp2_with fail;refine zC u' ?_;rintro w3 ⟨N9,ih⟩;have z':=T (G'.trans N9);have HD3:=T (OX.below N9);replace ih:=T ih;clear N9;obtain⟨er,ck⟩: ∃er,_i k m (Q2 k m ch s t)=er:=⟨_,rfl⟩;rw [ck] at I' ih⊢;by_cases he:er=0
   ·subst he;obtain⟨Ao',no',co',Ab',nb',cb',hn',r⟩:=ih rfl;replace r:=T r;have hd3:=And.intro (r.blk.cell 0) (And.intro (r.blk.cell 1) (r.blk.cell 2));obtain⟨q0,q1,q2⟩:=hd3;have hE1:G (∀x,x<t+1->_i k m (Q2 k m ch s x)=0):=λx hx=>by
     by_cases h:x<t
     ·exact cB x h
     ·obtain rfl:x=t:=M;exact ck
    have hno':G (no'=(t+1)*d):=by
     have h1:=r.oo.1;have h2:=Bl uK sl (t+1) iL hE1.out;rw [<-hOUT.out] at h1;rw [Hid,<-h2];simpa using h1.symm
    have hcut:=jI (P:=prog) 30 5 i0 1 qu hi p' ln R l L .i64 Y';replace ck:=T ck;have hszw3:(w:O)<=(w3:O):=z'.size;have hLR':=vv L R;go_wp2_with fail;refine zC (KL _) ?_;intro w4 o;have HB4:=T (z'.trans (o.mono hszw3));have HD4:=T ((HD3.below (o.mono hszw3)).VC Y' hRc);have HR4:=T (r.below o);clear o q0 q1 q2;go_wp2;go_roundw
    case rel=>
     refine⟨t+1,R-L,l-L,no',co',nb',cb',xo ln l L 1,Ao',Ab',rfl,M,M,M,M, ?_,hno', ?_,hE1, ?_,HB4, ?_⟩
     ·show R-L+(t+1)*L=qj;have:=N6.out;rw [ql];omega
     ·show nb'<=(t+1)*q;rw [ql];exact hn'
     ·have h5:=HD4.out;rw [vh] at h5;rw [ql];exact h5
     ·rw [hOUT.out,hBAD.out,ql];exact HR4.out
    case measure=>simp [c_];omega
   ·have e1:(er==(0:V))=false:=by simp [he]
    have e2:(er !=(0:V))=true:=by simp [he]
    have hF:=T (I' he);clear he;go_wp2;go_ret3;rw [hF.out.1,hF.out.2.1,hF.out.2.2];exact GQ.nil z'.out
  ·obtain rfl:t=iv:=M;have hR0:R=0:=by have:=N6.out;have:=uK.hT;omega
   subst hR0;have hR1: ¬(0:V)<((0:O):V):=M;have hnN:no=N:=by rw [HNO.out,uK.hN]
   subst hnN;have m':=T (λh=>Mw (n:=n) cB h);have hBEH:=T (λh=>TD (n:=n) cB h);rw [B.out,p.out] at m';obtain⟨f,hW3⟩:=zn wr;subst hW3;obtain⟨cL,hO⟩: ∃cL,Y4 k m ch s t=cL:=⟨_,rfl⟩;rw [hO] at b m' hBEH;obtain⟨BD,U'⟩: ∃BD,Yu v s (t*q)=BD:=⟨_,rfl⟩;rw [U'] at b m';have OL:G (U cL=no):=by have:=b.oo.1;rw [Hid];simpa using this
   have DL:G (U BD=E):=by have:=b.ob.1;rw [Hid];simpa using this
   have hcap:=jC b.oo;have hcut:=jI (P:=prog) 30 5 i0 1 qu hi p' u no j n .i64 nN;have RO:G (E' f f 1 (xo u j n 1) (no-n) ((cL.drop n).map B8)):=(E'.zY b.oo).VC nN hcap.1;have c3:=b.blk.cell 3;have hn0:=xi n;have hnN':=vv n no;replace hO:=T hO;replace U':=T U';obtain⟨C,N'⟩: ∃C,no-n=C:=⟨_,rfl⟩;rw [N'] at hcut RO;have hNR:n+C=no:=M;replace N':=T N';clear cB O';go_wp2;go_loopw [76] (λX' wr=> ∃(x:O),X'=(x:la)/\x<=C/\G (∀y,y<x->cL[n+y]? =some 0)/\f=wr) (λX' _=>C-(intOf X').toNat)
   ·exact⟨0,rfl,qp _,λy h1=>M,rfl⟩
   ·obtain⟨x,rfl,hxM,HX,rfl⟩:=hrel;by_cases hlt3:x<C
    ·have hlt3':=j' x C;have hx0:=xi x;obtain⟨ad,z,hAd,-,Q,hcell⟩:=RO.byte hlt3;rw [jt] at Q;by_cases i:z=0
     ·have hz8:((z.toNat:V)==0)=true:=by rw [i];rfl
      have hz9:((z.toNat:V) !=0)=false:=by rw [i];rfl
      have hz10:(z.toNat:V)=0:=by rw [i];rfl
      have hz11:z.toNat=0:=by rw [i];rfl
      replace i:=T i;replace Q:=T Q;go_wp2;go_roundw
      case rel=>
       refine⟨x+1,xh,M,λy h1=> ?_,trivial⟩;by_cases h:y<x
       ·exact HX y h
       ·obtain rfl:y=x:=M;rw [Q.out,i.out]
      case measure=>simp [intOf];omega
     ·have hz10: ¬(z.toNat:V)=0:=λh=>i (jG.1 (by have h0:(0:AB).toNat=0:=rfl;omega));have hz11: ¬z.toNat=0:=M;have hz8:((z.toNat:V)==0)=false:=by simp [hz11]
      have hz9:((z.toNat:V) !=0)=true:=by simp [hz11]
      have hF:=T (hBEH (tJ Q (Jk _ _) i));go_wp2;go_ret3;rw [hF.out.1,hF.out.2.1,hF.out.2.2];exact GQ.nil H.out
    ·have hge3:=vc x C;have hF:=m' (Sh λy h1 h2=>by
      have h3:=HX (y-n) (by have:=OL.out;omega)
      rwa [show n+(y-n)=y by omega] at h3)
     replace hF:=T hF;have d':r' f f f.drew:=(qZ _ _).drew;have SB:G (∀cY,r' f f cY->i' cY ⟨g,3,none⟩=J (Z u no j)/\i' cY ⟨g,4,none⟩=J (Z cK E X)):=λcY hV=>⟨(b.blk.below hV b.blk.lt).cell 3,(b.blk.below hV b.blk.lt).cell 4⟩;have hS0:=SB _ d';have J':G (U (cL.take n)=n):=by rw [Hid,qh,OL.out];omega
     have KC:=T (yV u n j (f.drew:O) (cL.take n) f.drew (((E'.zY b.oo).below d').takeN nN) (qx _) M);unfold jQ at KC;have hnc5:=vv n j;replace d':=T d';clear c3 hcut HX;go_wp2_with fail;refine zv 14 (λcY=>i' cY ⟨g,3,none⟩=J (Z u no j)/\i' cY ⟨g,4,none⟩=J (Z cK E X)) AL hS0 (λhHeld=> ?_);refine zq [0,1,2,3,4,5] (a':= ?_) ?_;refine zq [7,8,9,10] (a':= ?_) ?_;refine IA 6 rfl AL SQ (λK hK=> ?_);go_simp
     (go_at_call 55;((with_reducible refine KC.out.mono ?_);rintro e w8 ⟨Ac,cc,rfl,D'⟩);have Q':=T (zX d'.out D'.2);have HC8:=T D'.reads;have HQ8:=T (jC D'.1);clear D')
     refine hK _ _ ((SB _ Q')) (λhHeld=>xb ?_);clear hK K;refine zq [11,12,13] (a':= ?_) ?_;refine zV AL ?_ _;have HO8:=T (E'.zY (qG b.ob Q'));have HBw8:=T (H.trans (Q'.mono H.size));clear hHeld hS0 KC;go_wp2;go_ret3;rw [hF.out.1,hF.out.2.1,hF.out.2.2];refine⟨Ac,cc,cK,X,by rw [J'.out,DL.out];rfl, ?_, ?_, ?_,HQ8.out.2,HBw8⟩
     ·rw [J'.out];exact HC8.out
     ·rw [DL.out];exact HO8.out
     ·rw [J'.out];exact HQ8.out.1
theorem k_ {k m ch:V} (h:ZM k m ch n=0): ∃a b g:O,k=(a:V)/\m=(b:V)/\ch=(g:V)/\Vx k m ch n=G3 a b g n/\Shp a b g n (Fa (a*g) n) (a*g) ((a+b)*(g+4)) (Fa (a*g) n*(a*g)) (G3 a b g n):=by
 cases c:G2 k m ch n with
 |false=>rw [(UY c).1] at h;exact absurd h FV
 |true=>
  obtain⟨a,b,g,d,rfl,rfl,rfl,f,h1,h2,h3,h4,h5⟩:=Ro c;obtain rfl:n=d:=M;by_cases e:G3 a b g n<=16777216
  ·exact⟨a,b,g,rfl,rfl,rfl,(UK c e).2,⟨h1,h2,h3,h4,h5,rfl,rfl,rfl,rfl,rfl,e⟩⟩
  ·rw [(bh c M).1] at h;exact absurd h FV
def oF (w:I) (a:V) (v:qn) (f:S O) (e:Ending) (w':I):Prop:=
 ∃A n c g b d,e=t' (BA #[Z A n c,Z g b d,a])/\r' w w w'/\(a=0->n=U v/\b=U f/\E' w' w' 1 A n (v.map B8)/\n<=c/\c<=maxLen)
theorem Tn (k m ch:V) (n:O) (A:q') (l c:O) (s:qn) (w:I) (ht:Pl w) (o:E' w w 1 A l (s.map B8)) (z:l<=c) (x:c<=maxLen) (C:LR\/Nb k.toNat m.toNat ch.toNat (Fa (k.toNat*ch.toNat) n) s=true):
  xG 169 #[k,m,ch,n,Z A l c] w (oF w (_m k m ch n s) (srV k m ch n s) (srB k m ch n s)):=by
 have q:=o.len;have p: ∀d:V,d≠0->_m k m ch n s=d->(∀e w',VV w [] [] d e w'->oF w (_m k m ch n s) (srV k m ch n s) (srB k m ch n s) e w'):=λd h0 f e w' h=>by
  obtain⟨A,c,v,t,E,-,-,j⟩:=h;exact⟨A,_,c,v,_,t,by rw [f];exact E,j,λh=>absurd (f▸h) h0⟩
 by_cases h1:ZM k m ch n=0
 case neg=>
  exact(O5 k m _ n _ A l c w rfl h1).mono (p _ h1 (by unfold _m;rw [qk h1]))
 obtain⟨a,b,g,rfl,rfl,rfl,i,r⟩:=k_ h1;by_cases h2:l=G3 a b g n
 case neg=>
  have h3:_m a b g n s=od (G3 a b g n) l:=by
   unfold _m od;rw [qJ (by simpa using h1),i,q];by_cases h:l<G3 a b g n
   ·rw [qk h,qk h]
   ·rw [qJ h,qJ h,qk M]
  exact(rC a b g n A l c _ w h1 i h2).mono (p _ (by unfold od;split<;>decide) h3)
 subst h2;have h3:_m a b g n s=rdE a b g n (Fa (a*g) n) s:=by
  unfold _m;rw [qJ (by simpa using h1),i,q,qJ M,qJ M];rfl
 have h4:srV a b g n s=rdV a b g n (Fa (a*g) n) s:=rfl;have h5:srB a b g n s=rdB a b g n (Fa (a*g) n) s:=rfl;rw [h3,h4,h5];refine(oD a b g n _ _ _ _ _ A c s w r ht o z x C).mono ?_;rintro e w' ⟨y,c1,D,c2,f,B,-,u,F,j⟩;exact⟨y,_,_,D,_,_,f,j,λ_=>⟨rfl,rfl,B,u,F⟩⟩
def Dc (W:I) (r:V×Lx×qn×O) (e:Ending) (a:I):Prop:=
 r' W W a/\((r.1≠0/\e=t' (BA #[mJ none,z8,(),e' r.1]))\/(r.1=0/\ ∃g A n c b d,e=t' (BA #[mJ (some ⟨g,0,none⟩),Z A n c,e' (r.2.2.2:O),()])/\n=U r.2.2.1/\F' a g 76 (h3A r.2.1 b d)/\E' a a 1 A n (r.2.2.1.map B8)/\n<=c/\c<=maxLen))
theorem rA {b a:qn} (h:Hb b=(0,a)):42<=U b/\U a=21:=by
 unfold Hb at h;split at h
 ·cases h
 ·rename_i d;obtain⟨c,l2⟩:=uW b M;refine⟨M, ?_⟩;split at h
  ·injection h with _ h;rw [<-h];exact c
  ·split at h
   ·injection h with _ h;rw [<-h];exact l2
   ·cases h
theorem l8 (a:qn):Aq a<4294967296:=by
 unfold Aq;have h:=Yy ((a.drop 13).take 4);have h2:U ((a.drop 13).take 4)<=4:=by rw [qh];omega
 exact qB h (zZ M h2)
theorem O6 (k m ch:V) (n:O) (s:qn) (h:_m k m ch n s=0):U (srB k m ch n s)<=100000000:=by
 by_cases h1:ZM k m ch n=0
 case neg=>
  unfold _m at h;rw [qk h1] at h;exact absurd h h1
 obtain⟨a,b,g,rfl,rfl,rfl,d,c⟩:=k_ h1;have h5:srB a b g n s=rdB a b g n (Fa (a*g) n) s:=rfl;rw [h5];unfold rdB;split
 ·have h2:=SG (g+4) s (Fa (a*g) n*(a+b));have h3:=c.t2;have h4:=c.hT;rw [h4] at h3;have h6:Fa (a*g) n*(a+b)<=Fa (a*g) n*((a+b)*(g+4)):=yz _ (Xp _ M);omega
 ·exact qp _
theorem TN (A:Option Addr) (n c:O) (b:S AB) (W:I) (ht:Pl W) (h:E' W (W:O) 1 A n (b.map B8)) (ck:n<=c) (hm:c<=maxLen) (hn:n<=100000000) (C:LR\/TA b=true):
  xG 118 #[Z A n c] W (Dc W (V7 b)):=by
 have D':U b=n:=h.len;obtain⟨R,d⟩: ∃R,R=V7 b:=⟨_,rfl⟩;rw [<-d];unfold V7 at d;dsimp only at d;have F:=Gy A n c (W:O) b W ht h (qx _) ck hm M;unfold oK at F;unfold TA at C;rw [D'] at C;have ln: ∀a,Hb b=(0,a)->42<=U b/\U a=21:=λa h=>rA h;generalize Hb b=ch at*
 obtain⟨E,a⟩:=ch;dsimp only at d F C;have HT:=T ht;have H:=T h;replace C:=T C;replace F:=T F;replace d:=T d;replace ln:=T ln;clear ht h;go_enter func118,ntmps118
 go_wp2_with fail;refine F.mono ?_;rintro e t ⟨A1,n1,c1,J',rfl,hr1,hc1,hcm1,N9⟩;have B:=T N9;have OX:=T hr1;clear F hr1 N9;by_cases y:E=0
 focus
  subst y;obtain⟨h42,hxl⟩:=ln.out a rfl;rw [hxl] at J';subst J';have d:=d.out;rw [qJ s8] at d;have hh:=Ny A1 c1 (W:O) a t OX B.size hc1 hcm1;unfold oP at hh;have hnn:=l8 a;have l:R=(if dk a≠0 then(dk a,LO,[],0) else if _m (YX a).data (YX a).par (YX a).chunk (Aq a:O) ((b.drop 21).take (U b-42))≠0 then(_m (YX a).data (YX a).par (YX a).chunk (Aq a:O) ((b.drop 21).take (U b-42)),LO,[],0) else(0,YX a,srV (YX a).data (YX a).par (YX a).chunk (Aq a:O) ((b.drop 21).take (U b-42)),U (srB (YX a).data (YX a).par (YX a).chunk (Aq a:O) ((b.drop 21).take (U b-42)))+(if Zj b=Jw b then 0 else 1))):=d
  have cK:dk a=if 1<(a.getD 5 0).toNat then 2 else vM 3 (YX a):=rfl
  clear d;generalize dk a=uK at*
  generalize (a.getD 5 0).toNat=pp at*
  generalize vM 3 (YX a)=CE at*
  generalize YX a=o at*
  generalize Aq a=s at*
  by_cases L:1<pp
  ·rw [qk L] at cK
   subst cK;have i:G (R=(2,LO,[],0)):=by rw [Hid,l,qk FV]
   have cL:G (xG 168 #[Z A1 21 c1] t λe w'=>e=t' (BA #[mJ none,e' 2])/\r' t t w'):=T (hh.mono (by
    rintro e w' ⟨hB,⟨_,he⟩|⟨h0,_⟩⟩
    ·exact⟨he,hB⟩
    ·exact absurd L h0))
   replace l:=T l;clear hh l ln
   go_wp2_with fail;refine cL.mono ?_;rintro e j ⟨rfl,ih⟩;have v:=T (B.trans (ih.mono B.size));clear cL ih
   go_wp2_with fail
   (try simp only [Exit.inBlock,Exit.then]);refine qW (QM rfl _ _ _) rfl ?_
   unfold Dc;rw [i.out];exact⟨v.out, .inl ⟨FV,rfl⟩⟩
  rw [qJ L] at cK;subst cK;have cL:G (xG 168 #[Z A1 21 c1] t λe w'=> ∃g,e=t' (BA #[mJ (some ⟨g,0,none⟩),uK])/\F' w' g 76 (h3A o (s:O) (pp:V))/\r' t t w'):=T (hh.mono (by
   rintro e w' ⟨hB,⟨h0,_⟩|⟨_,g,he,hg,hb⟩⟩
   ·exact absurd h0 L
   ·exact⟨g,he,hb,hB⟩))
  clear hh ln L;replace l:=T l
  go_wp2_with fail;refine cL.mono ?_;rintro e j ⟨g,rfl,hb2,ih⟩;have v:=T (B.trans (ih.mono B.size));have Q:=T hb2;clear cL ih hb2 OX;by_cases z:uK=0
  focus
   subst z;have p:=l.out;rw [qJ s8] at p;obtain⟨m,O'⟩: ∃m,n=m+21:=⟨n-21,M⟩;obtain⟨q,hmq⟩: ∃q,m=q+21:=⟨m-21,M⟩;obtain⟨i0,hi,hz0,Y',hz2⟩:=qA QB;have hcut:=Vo (P:=prog) 30 5 i0 1 qu hi Y' A n c 21 m .i64 .i64 M M;rw [show((21:O):V)=21 from rfl,show m-21=q by omega] at hcut
   rw [D',show n-42=q by omega] at p
   have iL:r' (W:O) W j.drew:=v.drew;have hsr:E' j.drew (W:O) 1 (xo A c 21 1) q (((b.drop 21).take q).map B8):=((H.below iL).VC (k:=21) M ck).takeN M;have N:=Tn o.data o.par o.chunk s (xo A c 21 1) q (c-21) ((b.drop 21).take q) j.drew (HT.below iL HT.pos) (hsr.more iL.size) M M (by have h:=C.out;rwa [show n-42=q by omega] at h)
   have d':=O6 o.data o.par o.chunk s ((b.drop 21).take q);unfold oF at N;generalize _m o.data o.par o.chunk s ((b.drop 21).take q)=E3 at*
   generalize srV o.data o.par o.chunk s ((b.drop 21).take q)=vs at*
   generalize srB o.data o.par o.chunk s ((b.drop 21).take q)=bs at*
   have hsub:(n:V)-21=(m:V):=M;have hwm:DW (m:V)=(m:V):=SX;have hm0:(21:V)<=(m:V):=M;have hmc:(m:V)<=(c:V):=M;have hmn:(m:V)<=(n:V):=M;have HS:G (∀f,r' j j f->i' f ⟨g,3,none⟩=J (o.data:la)/\i' f ⟨g,4,none⟩=J (o.par:la)/\i' f ⟨g,5,none⟩=J (o.chunk:la)/\i' f ⟨g,6,none⟩=J (s:la)):=λf hW=>by
    have cB:=Q.below hW Q.lt;exact⟨cB.cell 3,cB.cell 4,cB.cell 5,cB.cell 6⟩
   have KCo:=T (λw=>Gx A n c w M ck hm M);replace N:=T N;replace p:=T p;replace d':=T d';have I':G (42<=n):=by rw [Hid];omega
   replace O':=T O';replace hmq:=T hmq;clear l hi hz0 Y' hz2 iL hsr h42 hn
   go_wp2_with fail;refine zv 32 (λf=>i' f ⟨g,3,none⟩=J (o.data:la)/\i' f ⟨g,4,none⟩=J (o.par:la)/\i' f ⟨g,5,none⟩=J (o.chunk:la)/\i' f ⟨g,6,none⟩=J (s:la)) AL (HS.out _ (qZ _ _).drew) (λhHeld=> ?_)
   refine zq [0,1,2,3,4,5] (a':= ?_) ?_;refine zq [6,7,8,9,10,11] (a':= ?_) ?_;refine zq [12,13,14,15,16,17] (a':= ?_) ?_;refine zq [18,19,20,21,22,23] (a':= ?_) ?_;refine vf 24 N ?_;rintro e w3 ⟨A3,n3,c3,A4,n4,c4,rfl,G',iv⟩;refine⟨_,rfl,((HS.out _ ((qZ _ j).drew.trans G'))),λhHeld=> ?_⟩;refine zq [25,26,27,28,29,30] (a':= ?_) ?_;refine zq [31] (a':= ?_) ?_;refine zV AL ?_ _;have bX:r' j j w3:=(qZ _ j).drew.trans G';have N6:=T (Q.below bX Q.lt);have z':=T (v.trans (bX.mono v.size));replace iv:=T iv;clear N G' bX HS v Q hHeld hcut;by_cases u:E3=0
   focus
    subst u;obtain⟨p',m',hr3,hc3,Z'⟩:=iv.out rfl;have x:=p.out;rw [qJ s8,<-m'] at x;have hb4:=d'.out rfl;rw [<-m'] at hb4;obtain⟨l1,l2⟩:=uW b (by rw [D'];exact I')
    have P':=T hr3;replace x:=T x;replace p':=T p';replace m':=T m';have u':=T (And.intro hc3 Z');have X':=T (KCo.out w3);have HF:G (∀cY,r' (W:O) W cY->E' cY (W:O) 1 A 21 ((Zj b).map B8)):=λcY D=>(H.below D).takeN (by have:=I'.out;omega)
    have S':G (∀cY,r' (W:O) W cY->E' cY (W:O) 1 (xo A c (n-21) 1) 21 ((Jw b).map B8)):=λcY D=>by
     have:=(H.below D).VC (k:=n-21) M ck;rw [show n-(n-21)=21 by have:=I'.out;omega] at this
     unfold Jw;rw [D'];exact this
    have KE:=T (λcY (D:r' (W:O) W cY)=>TS A (xo A c (n-21) 1) 21 21 c (c-(n-21)) (W:O) (W:O) (Zj b) (Jw b) cY (HF.out cY D) (S'.out cY D) FV FV);generalize hA2:xo A c (n-21) 1=A2 at*
    generalize hC2:c-(n-21)=c2 at*
    clear p iv d' hr3 hc3 Z' KCo HF S' hA2 hC2 l1 l2
    go_wp2_with fail;refine X'.mono ?_;rintro e w4 ⟨rfl,hd4⟩;have qj:=hd4.below w3;have X:=T (z'.trans (qj.mono z'.size));have M':=T (N6.below qj N6.lt);have U':=T ((P'.below qj).more qj.size);have KE4:=T (KE.out w4 X);clear X' KE hd4 qj z' N6 P'
    go_wp2_with fail;refine KE4.mono ?_;rintro e w5 ⟨rfl,hd5⟩;have K:=hd5.below w4;have HB5:=T (X.trans (K.mono X.size));have HK5:=T (M'.below K M'.lt);have Q':=T ((U'.below K).more K.size);clear KE4 hd5 K X M' U';by_cases r:Zj b=Jw b
    focus
     have i:G (R=(0,o,vs,n4)):=by rw [Hid,x.out,qk r];rfl
     rw [qw r];replace r:=T r;clear x
    rotate_left
    focus
     have i:G (R=(0,o,vs,n4+1)):=by rw [Hid,x.out,qJ r]
     rw [qc r];replace r:=T r;have hw1:DW ((n4:V)+1)=((n4+1:O):V):=SX;clear x
    rotate_left
   rotate_left 2
   focus
    have i:G (R=(E3,LO,[],0)):=by rw [Hid,p.out,qk u]
    have hEz:(E3==0)=false:=by simpa using u
    have N':(E3 !=0)=true:=by simpa using u
    replace u:=T u;clear p iv
   rotate_left
  rotate_left 3
  focus
   have i:G (R=(uK,LO,[],0)):=by rw [Hid,l.out,qk z]
   have hEz:(uK==0)=false:=by simpa using z
   have N':(uK !=0)=true:=by simpa using z
   replace z:=T z;clear l
  rotate_left
 rotate_left 4
 focus
  have i:G (R=(E,LO,[],0)):=by rw [Hid,d.out,qk y];rfl
  have hEz:(E==0)=false:=by simpa using y
  have N':(E !=0)=true:=by simpa using y
  replace y:=T y;clear d ln J'
 rotate_left
 all_goals
  go_wp2_with fail
  (try simp only [Exit.inBlock,Exit.then]);refine qW (QM rfl _ _ _) rfl ?_
  unfold Dc;rw [i.out]
 ·exact⟨HB5.out, .inr ⟨rfl,g,A3,n3,c3,_,_,rfl,p'.out,HK5.out,Q'.out,u'.out.1,u'.out.2⟩⟩
 ·exact⟨HB5.out, .inr ⟨rfl,g,A3,n3,c3,_,_,by first|rfl|simp,p'.out,HK5.out,Q'.out,u'.out.1,u'.out.2⟩⟩
 ·exact⟨z'.out, .inl ⟨u.out,rfl⟩⟩
 ·exact⟨v.out, .inl ⟨z.out,rfl⟩⟩
 ·exact⟨B.out, .inl ⟨y.out,rfl⟩⟩
theorem GV (W:I) (g j k e:q') (b c n3 a c1 c2 m l:O) (i d f h:qn) (h1:E' W W 1 g b (i.map B8)) (h2:E' W W 1 j c (d.map B8)) (h3:E' W W 1 k n3 (f.map B8)) (h4:E' W W 1 e a (h.map B8)) (ht:b+c+n3+a<=1000000000):
  xG 30 #[Z W 4 4] (W (Y #[Z g b c1,Z j c c2,Z k n3 m,Z e a l] 30)) (jQ 5 (W (Y #[Z g b c1,Z j c c2,Z k n3 m,Z e a l] 30)) (U (i++d++f++h)) ((i++d++f++h).map B8)):=by
 have s:=h1.len;have r:=h2.len;have o:=h3.len;have q:=h4.len;have K:=fZ W 4 [(g,b,c1,i),(j,c,c2,d),(k,n3,m,f),(e,a,l,h)] (by
  intro p n;simp only [qL,xj,Ze] at n;rcases n with rfl|rfl|rfl|rfl
  ·exact h1
  ·exact h2
  ·exact h3
  ·exact h4) s8 SZ
 simpa [jY] using K
theorem NQ (o:Lx) (W:I) (ht:Pl W) (h1:16<=o.blk) (h2:o.blk<=32768) (h3:1<=o.bkt) (h4:o.bkt<=64):
  xG 37 #[.agg (Ld o)] W (jQ 5 W (U (AZ 2++kD o.blk.toNat++[C1 o.plain]++kD o.bkt.toNat)+4) ((dI o).map B8)):=by
 obtain⟨bk,y,kk,dd,cB,cc⟩:=o;dsimp only at h1 h2 h3 h4;obtain⟨l,rfl⟩: ∃l:O,bk=(l:V):=⟨bk.toNat,M⟩;obtain⟨m,rfl⟩: ∃m:O,kk=(m:V):=⟨kk.toNat,M⟩;unfold Ld dI;dsimp only;rw [show((l:O):V).toNat=l from rfl,show((m:O):V).toNat=m from rfl];have HT:=T ht;have I':G (r' (W:O) W (W (Y #[l,y,m,dd,cB,cc] 23))):=j1 _;have HK:G (F' (W (Y #[l,y,m,dd,cB,cc] 23)) (W:O) 23 #[l,y,m,dd,cB,cc]):=F'.new _ _ _;have KM:=T (CT 2 (W (Y #[l,y,m,dd,cB,cc] 23)) M M);rw [show _l 2=AZ 2 from rfl,show((2:O):V)=2 from rfl] at KM;have D':=λW=>T (vW l W M);have iL:=λW=>T (vW m W M);have wb:IntKind.u64.wrap (l:V)=(l:V):=by rw [qS];omega
 have wk:IntKind.u64.wrap (m:V)=(m:V):=by rw [qS];omega
 have N':=(jn l).2;have N9:=(jn m).2;unfold jQ at D' iL⊢;generalize kD l=v,kD m=w at*;have g:G (U (AZ 2++v++[C1 y]++w)<=100):=by
  rw [Hid];simp only [qK,qf,zF];have:U (AZ 2)=5:=rfl;omega
 clear ht;generalize p':W (Y #[l,y,m,dd,cB,cc] 23)=w0 at*;obtain⟨k,cK⟩: ∃k:V,B8 (C1 y)=gR k:=⟨_,rfl⟩;have z':G ([C1 y].map B8=[gR k]):=by rw [Hid,jy,xB,cK]
 generalize d':C1 y=ih at*;replace p':=T p';go_in;cases y
 (have hz:G (Value.int .u8 0=gR k):=by rw [Hid,<-cK,<-d'];rfl
  go_wp2_with fail;rw [hz.out,p'.out];clear hz)
 rotate_left
 (have hz:G (Value.int .u8 1=gR k):=by rw [Hid,<-cK,<-d'];rfl
  go_wp2_with fail;rw [hz.out,p'.out];clear hz)
 all_goals
  refine KM.mono ?_;rintro e C ⟨qj,c4,rfl,M',G'⟩;have z:=T (I'.trans (G'.mono I'.size));have m':=T (HK.below G' HK.lt);have J':=T (E'.zY M');clear M' G';have j:G (∀R,r' C C R->i' R (W:O)=J (l:la)/\i' R ⟨(W:O),2,none⟩=J (m:la)):=λR B=>⟨(B.cell (p:= (W:O)) m'.lt).trans (m'.cell 0),(B.cell (p:=⟨(W:O),2,none⟩) m'.lt).trans (m'.cell 2)⟩;replace HT:G (∀cY,r' C C cY->Pl cY):=λcY hV=>HT.below (z.trans (hV.mono z.size)) HT.pos;go_wp2_with fail;refine zv 15 (λR=>i' R (W:O)=J (l:la)/\i' R ⟨(W:O),2,none⟩=J (m:la)) AL (j _ (qZ _ _).drew) (λn=> ?_);generalize u':C.drew=E at*;have a:r' C C E:=by rw [<-u'];exact(qZ _ C).drew
  have d:E' E E 1 qj 5 ((AZ 2).map B8):=by rw [<-u'];exact J'.out
  clear u';refine zq [0,1,2,3,5,7] (a':= ?_) ?_;refine zq [8,9] (a':= ?_) ?_;refine dV 4 6 rfl rfl AL SQ SQ (λK b=> ?_) (λK b=> ?_)
  focus
   go_simp
   (go_at_call 31;((with_reducible refine((D' _).out).mono ?_);rintro e H ⟨iv,X,rfl,x⟩))
   replace d:=(d.below x.2).more x.2.size;have q:=x.reads;replace a:=a.trans (x.2.mono a.size);refine b _ _ (j _ a) (λn=>xb ?_);clear b K;refine dV 6 10 rfl rfl AL SQ SQ (λK b=> ?_) (λK b=> ?_)
   focus
    go_simp;have hF:r' (H:O) (H) ((H) (Y #[gR k] 5)):=j1 _;replace d:=(d.below hF).more hF.size;replace q:=(q.below hF).more hF.size;have s:E' ((H) (Y #[gR k] 5)) ((H) (Y #[gR k] 5):O) 1 (some ⟨(H:O),0,none⟩) 1 ([ih].map B8):=by rw [z'.out];exact(zU (H) (gR k) 5).more s8
    replace a:=a.trans (hF.mono a.size);clear hF;refine b _ _ (j _ a) (λn=>xb ?_);clear b K;refine vf 10 (T ((iL _).out)) ?_;rintro e i ⟨N,uK,rfl,c⟩;refine⟨_,rfl,((j _ (a.trans (c.2.mono a.size)))),λn=> ?_⟩;replace d:=(d.below c.2).more c.2.size;replace q:=(q.below c.2).more c.2.size;replace s:=(s.below c.2).more c.2.size;have ln:=c.reads;replace a:=a.trans (c.2.mono a.size);generalize (H:O)=Q at*;have u:=T (GV _ qj iv Q N 5 v 1 w c4 X 1 uK _ v _ w d q s ln M);have B:r' (i:O) (i) ((i) (Y #[Z qj 5 c4,Z iv v X,Z Q 1 1,Z N w uK] 30)):=j1 _
   rotate_left
   focus
    go_simp
    (go_at_call 31;((with_reducible refine((iL _).out).mono ?_);rintro e i ⟨N,uK,rfl,c⟩))
    replace d:=(d.below c.2).more c.2.size;replace q:=(q.below c.2).more c.2.size;have ln:=c.reads;replace a:=a.trans (c.2.mono a.size);refine b _ _ (j _ a) (λn=>xb ?_);clear b K;have hF:r' (i:O) (i) ((i) (Y #[gR k] 5)):=j1 _;replace d:=(d.below hF).more hF.size;replace q:=(q.below hF).more hF.size;replace ln:=(ln.below hF).more hF.size;have s:E' ((i) (Y #[gR k] 5)) ((i) (Y #[gR k] 5):O) 1 (some ⟨(i:O),0,none⟩) 1 ([ih].map B8):=by rw [z'.out];exact(zU (i) (gR k) 5).more s8
    replace a:=a.trans (hF.mono a.size);clear hF;refine IA 6 rfl AL SQ (λK b=> ?_);go_simp;skip;refine b _ _ ((j _ a)) (λn=>xb ?_);clear b K;obtain⟨Q,N6⟩:=zn (i:O);rw [<-N6] at s⊢;clear N6;generalize (i) (Y #[gR k] 5)=wC at*;have u:=T (GV _ qj iv Q N 5 v 1 w c4 X 1 uK _ v _ w d q s ln M);have B:r' (wC:O) (wC) ((wC).alloc (Y #[Z qj 5 c4,Z iv v X,Z Q 1 1,Z N w uK] 30)):=j1 _
  rotate_left 2
  focus
   go_simp;have hF:r' (E:O) (E) ((E) (Y #[gR k] 5)):=j1 _;replace d:=(d.below hF).more hF.size;have s:E' ((E) (Y #[gR k] 5)) ((E) (Y #[gR k] 5):O) 1 (some ⟨(E:O),0,none⟩) 1 ([ih].map B8):=by rw [z'.out];exact(zU (E) (gR k) 5).more s8
   replace a:=a.trans (hF.mono a.size);clear hF;refine b _ _ (j _ a) (λn=>xb ?_);clear b K;refine vf 4 (T ((D' _).out)) ?_;rintro e H ⟨iv,X,rfl,x⟩;refine⟨_,rfl,((j _ (a.trans (x.2.mono a.size)))),λn=> ?_⟩;replace d:=(d.below x.2).more x.2.size;replace s:=(s.below x.2).more x.2.size;have q:=x.reads;replace a:=a.trans (x.2.mono a.size);refine vf 10 (T ((iL _).out)) ?_;rintro e i ⟨N,uK,rfl,c⟩;refine⟨_,rfl,((j _ (a.trans (c.2.mono a.size)))),λn=> ?_⟩;replace d:=(d.below c.2).more c.2.size;replace s:=(s.below c.2).more c.2.size;replace q:=(q.below c.2).more c.2.size;have ln:=c.reads;replace a:=a.trans (c.2.mono a.size);generalize (E:O)=Q at*;have u:=T (GV _ qj iv Q N 5 v 1 w c4 X 1 uK _ v _ w d q s ln M);have B:r' (i:O) (i) ((i) (Y #[Z qj 5 c4,Z iv v X,Z Q 1 1,Z N w uK] 30)):=j1 _
  all_goals
   replace a:=a.trans (B.mono a.size);unfold jQ at u;obtain⟨f,t⟩:=zn (AZ 2++v++[ih]++w);rw [<-t] at u g;replace t:=T t;refine IA 11 rfl AL SQ (λK b=> ?_);go_simp;skip;refine b _ _ ((j _ a)) (λn=>xb ?_);clear b K;refine IA 12 rfl AL SQ (λK b=> ?_);go_simp
   (go_at_call 30;((with_reducible refine(u.out).mono ?_);rintro e P ⟨A9,c9,rfl,r⟩);have h:=a.trans (r.2.mono a.size);have D:=T (XI _ f _ P f P (HT.out _ h) r.reads (qx _) (jC r.1).1 (jC r.1).2 (by have:=g.out;omega)))
   refine b _ _ ((j _ h)) (λn=>xb ?_);clear b K;unfold jQ at D;refine IA 13 rfl AL SQ (λK b=> ?_);go_simp
   (go_at_call 35;((with_reducible refine(D.out).mono ?_);rintro e wP ⟨cL,L,rfl,F⟩);have A:=h.trans (F.2.mono h.size))
   refine b _ _ ((j _ A)) (λn=>xb ?_);clear b K;refine zq [14] (a':= ?_) ?_;refine zV AL ?_ _;have hh:G (yG C wP 5 cL (U f+4) L ((dc f).map B8)):=⟨qi F.1 h.size,A⟩;clear u D F r B a h A d q s ln;go_wp2;go_ret;rw [<-t.out];exact⟨cL,L,rfl,qi hh.out.1 z.size,z.trans (hh.out.2.mono z.size)⟩
theorem YM (A:q') (n c B:O) (a:qn) (w:I) (h:E' w B 1 A n (a.map B8)) (o:B<=(w:O)) (s:n<=c) (x:c<=maxLen) (z:n<=1000000):
  xG 22 #[Z A n c] w λe w'=>e=t' (.bool (Qw a))/\r' (w:O) w w':=by
 have g:=R9 A n c a w (h.more o) s M;unfold Qr at g;have i:=λW (q:r' (w:O) w W)=>P9 A n c B a W (h.below (q.mono o));rw [(Vf a).1,(Vf a).2] at i;obtain⟨R,b⟩:=zn (Qw a);rw [<-b];unfold Qw at b;generalize QH a=E,vR a=u,V6 a=F,XQ a=y at*;revert g i b;refine vn ?_;intro g i b;clear h;go_in;go_wp2_with fail;refine g.mono ?_;rintro e r ⟨t,c1,rfl,p⟩;have f:=T p.2;have m:=T (i r f);clear p;go_wp2_with fail;refine Ω m ?_;by_cases k:E=0
 ·subst k;by_cases hF:F=0
  ·subst hF;by_cases j:y=3
   ·subst j;have d:G (R=true):=by rw [Hid,b.out];rfl
    go_wp2;go_ret;rw [d.out];exact⟨rfl,f⟩
   ·have d:G (R=false):=by rw [Hid,b.out,qc j];rfl
    have l:(y==3)=false:=by simpa using j
    have v:decide (y=3)=false:=qc j;go_wp2;go_ret;rw [d.out];exact⟨rfl,f⟩
  ·have d:G (R=false):=by rw [Hid,b.out,qc hF];simp
   have l:(F==0)=false:=by simpa using hF
   go_wp2;go_ret;rw [d.out];exact⟨rfl,f⟩
 ·have d:G (R=false):=by rw [Hid,b.out,qc k];simp
  have l:(E==0)=false:=by simpa using k
  go_wp2;go_ret;rw [d.out];exact⟨rfl,f⟩
theorem O_ (h:42<=U b):dp b=(Qw (Zj b)||Qw (Jw b)):=by
 unfold dp Hb;rw [qJ M];cases Qw (Zj b)
 ·cases Qw (Jw b)
  ·simp
  ·simp
 ·simp
theorem Gf (h:U b<42):dp b=false:=by
 unfold dp Hb;rw [qk h];rfl
theorem B_ {A:q'} {n c:O} {w:I} (h:E' w B 1 A n (b.map B8)) (d:42<=n) (a:n<=c):E' w B 1 A 21 ((Zj b).map B8)/\E' w B 1 (xo A c (n-21) 1) 21 ((Jw b).map B8):=by
 refine⟨h.takeN M, ?_⟩;have:=h.VC (k:=n-21) M a;rw [show n-(n-21)=21 by omega] at this;unfold Jw;rw [h.len];exact this
theorem T9 (A:q') (n c B:O) (b:qn) (w:I) (h:E' w B 1 A n (b.map B8)) (j:B<=(w:O)) (F:n<=c) (D:c<=maxLen) (K:n<=1000000000):
  xG 41 #[Z A n c] w λe w'=>e=t' (.bool (dp b))/\r' (w:O) w w':=by
 have g:U b=n:=h.len;by_cases k:n<42
 ·rw [Gf M];have h1: ¬(42:V)<=(n:V):=M;clear h g;go_wp2;go_ret;exact⟨rfl,qZ _ _⟩
 rw [O_ M];obtain⟨t,hi,Q,f,H⟩:=qA QB;have z:=Qm (P:=prog) 30 5 t 1 qu hi f A n c 21 .i64 M;rw [show((21:O):V)=21 from rfl] at z;have q:=jI (P:=prog) 30 5 t 1 qu hi f A n c (n-21) .i64 M;rw [show n-(n-21)=21 by omega] at q;have u:=T (λW (a:r' (w:O) w W)=>B_ (h.below (a.mono j)) M F);have v:=T (λW a=>YM A 21 c B (Zj b) W (u W a).1 (qv j a.size) M D M);have i:=T (λW a=>YM (xo A c (n-21) 1) 21 (c-(n-21)) B (Jw b) W (u W a).2 (qv j a.size) M M M);generalize Qw (Zj b)=x,Qw (Jw b)=y at*;obtain⟨m,r⟩: ∃m,n=m+21:=⟨n-21,M⟩;rw [show n-21=m by omega] at q i;have h1:(42:V)<=(n:V):=M;have h2:(n:V)-21=(m:V):=M;have h3:=xi m;have h4:=vv m c;have h5:=vv m n;have h6:(21:V)<=(c:V):=M;have N:DW (m:V)=(m:V):=SX;revert r g k;refine vn ?_;intro r g k;clear hi Q f H h;have s:=T (v w (qZ _ _));go_in;go_wp2_with fail;refine zC s ?_;intro E l;have d:=T l;clear l;cases x
 case true=>
  go_wp2;go_ret;exact⟨rfl,d⟩
 have o:=T (i E d);go_wp2_with fail;refine zC o ?_;intro L p;have C:=T (d.trans (p.mono d.size));clear p;go_wp2;go_ret;exact⟨rfl,C⟩
theorem Gg (A:q') (n c B:O) (b:qn) (w:I) (h:E' w B 1 A n (b.map B8)) (s:B<=(w:O)) (t:n<=c) (r:c<=maxLen) (u:n<=1000000000):
  xG 21 #[Z A n c] w λe w'=>e=t' (BA #[e' (Z7 b),e' (YU b)])/\r' w w w':=by
 have m:=P9 A n c B b w h;rw [(Vf b).1,(Vf b).2] at m;have i:=T9 A n c B b w h s t r u;obtain⟨o,g⟩:=zn (Z7 b);obtain⟨l,f⟩:=zn (YU b);rw [<-g,<-f];unfold Z7 at g;unfold YU at f;generalize XQ b=D,V6 b=E,dp b=x at*;revert m i g f;refine yb ?_;intro m i g f;clear h;go_in;go_wp2_with fail;refine Ω m ?_;by_cases h1:D=1
 ·subst h1;have d:G (o=1):=g.out;have a:G (l=0):=f.out;go_wp2;go_ret2;rw [d.out,a.out];exact⟨rfl,qZ _ _⟩
 have v:(D==1)=false:=by simpa using h1
 by_cases h2:D=2
 ·subst h2;have d:G (o=2):=g.out;have a:G (l=0):=f.out;go_wp2;go_ret2;rw [d.out,a.out];exact⟨rfl,qZ _ _⟩
 have C:(D==2)=false:=by simpa using h2
 have j:=g.out;have k:=f.out;rw [qJ M] at j k;replace j:=T j;replace k:=T k;go_wp2_with fail;refine zC i ?_;intro z q;have p:=T q;clear q;cases x
 case true=>
  have d:G (o=3):=j.out;have a:G (l=0):=k.out;go_wp2;go_ret2;rw [d.out,a.out];exact⟨rfl,p⟩
 by_cases h3:D=3
 ·subst h3;have d:G (o=0):=j.out;have a:G (l=5):=k.out;go_wp2;go_ret2;rw [d.out,a.out];exact⟨rfl,p⟩
 ·have y:(D==3)=false:=by simpa using h3
  have d:G (o=0):=j.out;have a:G (l=E):=by rw [Hid,k.out,qJ s8,qJ h3]
  go_wp2;go_ret2;rw [d.out,a.out];exact⟨rfl,p⟩
theorem Np (h:Z7 b=3) (a:YU b=0):42<=U b:=by
 by_cases c:42<=U b
 ·exact c
 ·unfold Z7 at h;unfold YU at a;rw [Gf M] at h a;split at h
  ·rename_i h2;rcases h2 with h2|h2<;>(rw [h2] at h;exact absurd h FV)
  ·exact absurd h FV
theorem NP (A:Option Addr) (n c B g:O) (b:S AB) (w:I) (h:E' w B 1 A n (b.map B8)) (L:B<=(w:O)) (hc:n<=c) (hm:c<=maxLen) (qj:g<=1000000):
  xG 12 #[Z A n c,g] w λe w'=> ∃r,e=t' (.bool r)/\(r=false->n<=g)/\r' (w:O) w w':=by
 have p:U b=n:=h.len;by_cases o:g<n
 ·have h1:(g:V)<(n:V):=M
  replace o:=T o;clear h p;go_enter func12,ntmps12
  go_wp2_with fail;go_ret;exact⟨true,rfl,λh=>(by cases h),qZ _ _⟩
 have h1: ¬(g:V)<(n:V):=M;have f:=Gg A n c B b w h L hc hm M;have i:=Np (b:=b);generalize Z7 b=cY at*
 generalize YU b=E at*
 have v:G (n<=g):=by rw [Hid];omega
 have qj:=T qj;replace f:=T f;by_cases H:E=0
 focus
  subst H;by_cases uK:cY=3
  ·subst uK;have i:=i rfl rfl;obtain⟨i0,hi,p',y,u'⟩:=qA QB;have m':=Qm (P:=prog) 30 5 i0 1 qu hi y A n c 21 .i64 M;rw [show((21:O):V)=21 from rfl] at m'
   have X:=jI (P:=prog) 30 5 i0 1 qu hi y A n c (n-21) .i64 M;rw [show n-(n-21)=21 by omega] at X
   have K:=T (λW (s:r' (w:O) w W)=>B_ (h.below (s.mono L)) M hc);have KA:=T (λW s=>YM A 21 c B (Zj b) W (K.out W s).1 (qv L s.size) M hm M);generalize Qw (Zj b)=x at*
   generalize Zj b=cK at*
   generalize Jw b=cB at*
   generalize cL:xo A c (n-21) 1=A2 at*
   obtain⟨m,ck⟩: ∃m,n=m+21:=⟨n-21,M⟩;rw [show n-21=m by omega] at X
   have h2:(n:V)-21=(m:V):=M;have h3:(0:V)<=(m:V):=M;have h4:(m:V)<=(c:V):=M;have h5:(m:V)<=(n:V):=M;have h6:(21:V)<=(c:V):=M;have hw:DW (m:V)=(m:V):=SX;replace ck:=T ck;replace p:=T p;replace i:=T i;replace o:=T o;replace cL:=T cL;clear hi p' y u' h;go_enter func12,ntmps12
   go_wp2_with fail;refine f.mono ?_;rintro e hh ⟨rfl,d⟩;have a:=T d;have d':=T (KA.out hh a);clear f d KA
   go_wp2_with fail;refine d'.mono ?_;rintro e w2 ⟨rfl,R⟩;have q:=T (a.trans (R.mono a.size));clear d' R a;obtain⟨ln,D⟩:=K.out w2 q.out;obtain⟨l,u7,hA,-,N,z⟩:=ln.at_ (k:=7) M
   obtain⟨J',u8,t,-,iL,C⟩:=ln.at_ (k:=8) M;rw [hA] at t;injection t with t
   subst t;obtain⟨j,v7,hC,-,iv,ih⟩:=D.at_ (k:=7) M;obtain⟨I',v8,u,-,Q,F⟩:=D.at_ (k:=8) M;rw [hC] at u;injection u with u
   subst u;obtain⟨p7,-,rfl⟩:=LX B8 cK 7 u7 N;obtain⟨p8,-,rfl⟩:=LX B8 cK 8 u8 iL;obtain⟨q7,-,rfl⟩:=LX B8 cB 7 v7 iv;obtain⟨q8,-,rfl⟩:=LX B8 cB 8 v8 Q;rw [show l.add 7=⟨l.block,l.off+7,none⟩ from rfl] at z
   rw [show l.add 8=⟨l.block,l.off+8,none⟩ from rfl] at C
   rw [show j.add 7=⟨j.block,j.off+7,none⟩ from rfl] at ih
   rw [show j.add 8=⟨j.block,j.off+8,none⟩ from rfl] at F
   unfold B8 at z C ih F;subst hA;subst hC;clear ln D K N iL iv Q;cases x
   case true=>
    clear ih F;by_cases k7:(12:V)<(p7.toNat:V)
    ·go_wp2_with fail
     go_ret;exact⟨true,rfl,λh=>(by cases h),q.out⟩
    ·go_wp2_with fail
     go_ret;exact⟨_,rfl,λ_=>v.out,q.out⟩
   case false=>
    clear z C;by_cases k7:(12:V)<(q7.toNat:V)
    ·go_wp2_with fail
     go_ret;exact⟨true,rfl,λh=>(by cases h),q.out⟩
    ·go_wp2_with fail
     go_ret;exact⟨_,rfl,λ_=>v.out,q.out⟩
  focus
   have M':(cY==3)=false:=by simpa using uK
   have D':(cY !=3)=true:=by simpa using uK
 rotate_left
 focus
  have G':(E==0)=false:=by simpa using H
  have z':(E !=0)=true:=by simpa using H
 all_goals
  clear h i p o;go_enter func12,ntmps12
  go_wp2_with fail;refine f.mono ?_;rintro e hh ⟨rfl,d⟩;have a:=T d;clear f d
  go_wp2_with fail;go_ret;exact⟨false,rfl,λ_=>v.out,a.out⟩
end
end Go.Proofs.YtfnlfpcfkbdcmaaGreatDoor
