import Derived.Test.YtfnlfpcfkbdcmaaGreatDoorL27
import Derived.Test.YtfnlfpcfkbdcmaaGreatDoorL28
import Derived.Test.YtfnlfpcfkbdcmaaGreatDoorL29
set_option linter.unusedSimpArgs false
set_option linter.unusedVariables false
set_option maxRecDepth 100000
set_option maxHeartbeats 0
open Go.Proofs.Tryz
namespace Go.Proofs.YtfnlfpcfkbdcmaaGreatDoor
open Go.RowKit
section
variable {A8:q'}{L:List qn}{V W W' W4:World}{base c8 g i k n8:Nat}{v0 v1:Value}
def byC (e c:Value) (k i:Nat) (h d a b f g:Value):Array Value:= #[e,c,k,i,h,d,a,b,f,g]
def iC (W:World) (g:Nat) (o n:Value) (k i:Nat) (l m p q:Value) (r:Int×List Nat×qn) (e:Ending) (c:World):Prop:=
 e= .returned (.int .i64 r.1)/\qE [g] W c/\(r.1=0-> ∃j a h d b f,a=r.2.1.length/\b=r.2.2.length/\Blk c g 174 (byC o n k i (.slice j a h) (.slice d b f) l m p q)/\c.ownsRow W 43 1 (.slice j a h) a (r.2.1.map V64)/\c.ownsRow W 5 1 (.slice d b f) b (r.2.2.map B8))
theorem aY (g n:Nat) (v0 X v4 O v6 v7 Z v9:Value) (k i:Nat) (C:Option Addr) (N z:Nat) (b:List UInt8) (W:World) (ht:Tab W) (hk:Blk W g 174 (byC v0 X k i v4 O v6 v7 Z v9)) (L:Reads W W 1 C N (b.map B8)) (hN:N<=100000000) (I':N<=z) (D':z<=maxLen) (hn:n<=20000):
  Calls prog 161 #[.pointer (some ⟨g,4,none⟩),n, .slice C N z] W (iC W g v0 X k i v6 v7 Z v9 (Zh n b)):=by
 have H:=qj (Vr C N z b W ht L I' D' uK);unfold Qr at H;obtain⟨R,f⟩: ∃R,R=Zh n b:=⟨_,rfl⟩;rw [<-f];unfold Zh at f;dsimp only at f;have M':(vR b).length<=N:=by have h:=ax b;rw [L.len] at h;exact h
 have F:=qj (λA c B V J (hV:V.length<=100000000) h M=>CN A n V.length c B V J h M hV hn);unfold fV at F;have w:=qj (λA c B J h M=>F.out A c B (vR b) J uK h M);generalize ZG n (vR b)=rc at*
 obtain⟨x,ts,ls,tk⟩:=rc;dsimp only at f w;generalize vR b=V at*
 generalize QH b=E at*
 have D:=qj hk;replace f:=qj f;clear ht hk L F;go_enter func161,ntmps161
 go_wp2_with fail;refine H.mono ?_;rintro e w1 ⟨A1,c1,rfl,T⟩;have t:=qj T.2;have iL:=qj T.1;clear H T;by_cases a:E=0
 case neg=>
  have m:Hid (R=(E,[],[])):=by rw [Hid,f.out,qk a]
  have G':(E==0)=false:=by simpa using a
  have z':(E !=0)=true:=by simpa using a
  clear f w;replace a:=qj a
  go_wp2_with fail;go_ret;rw [m.out];exact⟨rfl,qE.jq t,λh=>absurd h a⟩
 subst a;have d:=f.out;rw [qJ s8] at d;replace d:=qj d;have p':=qj (w.out A1 c1 w1 w1 (Reads.zY iL) (qx _));clear w
 go_wp2_with fail;refine p'.mono ?_;rintro e y ⟨q,o,u,s,rfl,U,m',d'⟩;have v:=qj (t.trans (d'.mono t.size));have HT:=qj (qi U t.size);have Y:=qj (qi m' t.size);clear p' U m' d' iL;by_cases a:x=0
 case neg=>
  have m:Hid (R=(x,[],[])):=by rw [Hid,d.out,qk a]
  have G':(x==0)=false:=by simpa using a
  have z':(x !=0)=true:=by simpa using a
  clear f d;replace a:=qj a
  go_wp2_with fail;go_ret;rw [m.out];exact⟨rfl,qE.jq v,λh=>absurd h a⟩
 subst a;have d:=d.out;rw [qJ s8] at d;by_cases u':tk<V.length
 ·have m:Hid (R=(2,[],[])):=by rw [Hid,d,qk u']
  have J':(tk:Int)<(V.length:Int):=uK;clear f d
  go_wp2_with fail;go_ret;rw [m.out];exact⟨rfl,qE.jq v,λh=>absurd h FV⟩
 ·have m:Hid (R=(0,ts,ls)):=by rw [Hid,d,qJ u']
  have J': ¬(tk:Int)<(V.length:Int):=uK;have j:=qj (D.below v D.lt);have x4:y.cell? ⟨g,4,none⟩=some v4:=j.cell 4;have x5:y.cell? ⟨g,5,none⟩=some O:=j.cell 5;have f4:=j.frozen 4;have f5:=j.frozen 5;have r:=j.zh 4 (.slice q ts o);have y5:(y.setCell ⟨g,4,none⟩ (.slice q ts o)).cell? ⟨g,5,none⟩=some O:=r.cell 5;have yf:=r.frozen 5;have P:=r.zh 5 (.slice u ls s);have Q:qE [g] W ((y.setCell ⟨g,4,none⟩ (.slice q ts o)).setCell ⟨g,5,none⟩ (.slice u ls s)):=((qE.jq (l:=[g]) v).zh (p:=⟨g,4,none⟩) (qy.2 rfl) _).zh (p:=⟨g,5,none⟩) (qy.2 rfl) _;have I:=jw (jw HT j FV 4 (.slice q ts o)) r FV 5 (.slice u ls s);have K:=jw (jw Y j FV 4 (.slice q ts o)) r FV 5 (.slice u ls s);replace P:=qj P;replace Q:=qj Q;replace I:=qj I;replace K:=qj K;clear f d r j D HT Y;generalize G:ts.length=nt at*
  generalize S:ls.length=nl at*
  replace G:=qj G;replace S:=qj S
  go_wp2_with fail;go_ret;rw [m.out];exact⟨rfl,Q.out,λ_=>⟨q,nt,o,u,nl,s,G.symm,S.symm,P.out,I.out,K.out⟩⟩
structure FrJ (W:World) (base g:Nat) (v0 v1:Value) (k i:Nat) (A8:q') (n8 c8:Nat) (L:List qn):Prop where
 blk:Blk W g 174 (byC v0 v1 k i (.slice none 0 0) (.slice none 0 0) (.slice none 0 0) (.slice none 0 0) (.slice A8 n8 c8) (.slice none 0 0))
 ls:zM W 0 base A8 n8 c8 L
theorem FrJ.fresh (h:FrJ W base g v0 v1 k i A8 n8 c8 L) (a:Below W W W'):FrJ W' base g v0 v1 k i A8 n8 c8 L:=⟨h.blk.below a h.blk.lt,h.ls.below a⟩
theorem FrJ.q8 (h:FrJ W base g v0 v1 k i A8 n8 c8 L):W.cell? ⟨g,8,none⟩=some (.slice A8 n8 c8):=h.blk.cell 8
theorem FrJ.step {c t:q'} {b s f:Nat} {x:qn} {vs:List Value} (h:FrJ W base g v0 v1 k i A8 n8 c8 L)
  (h1:W.ownsRow base 30 1 (.slice A8 n8 c8) n8 vs) (h2:L.length=n8) (h3: ∀(i:Nat) (a:qn),L[i]? =some a-> ∃(Ai:q') (d:Nat),vs[i]? =some (.slice Ai a.length d)/\j8 W 0 base Ai d a)
  (B:x.length=f) (A:W.ownsRow base 5 1 (.slice t f s) f (x.map B8)) (o:Obj) (j:(W.alloc o).grownBy W4 (A8.map (·.block))) (l:W4.ownsRow base 30 1 (.slice c (n8+1) b) (n8+1) (vs++[.slice t f s])) (C:V.heap.size<=base) (u:qE [g] V W):
  (W4.cell? ⟨g,8,none⟩=some (.slice A8 n8 c8)/\W4.frozen? ⟨g,8,none⟩=false)/\FrJ (W4.setCell ⟨g,8,none⟩ (.slice c (n8+1) b)) base g v0 v1 k i c (n8+1) b (L++[x])/\qE [g] V (W4.setCell ⟨g,8,none⟩ (.slice c (n8+1) b)):=by
 have r:=h.ls.bs;have m:Below W W (W.alloc o):=z8 _;have q:=h1.alloc o;have e:=xQ (h.blk.alloc o) q FV j;have D:=zM.Fv B ((j8.own (b0:=0) A).2.below (qp _) r m) q h2 (λi a hi=>by
  obtain⟨Ai,d,v,y⟩:=h3 i a hi;exact⟨_,d,v,y.below (qp _) r m⟩) (qp _) (qv r m.size) l j
 have z:=(qE.refl _ _).grown j (λk n=> .inl n);refine⟨⟨e.cell 8,e.frozen 8⟩,⟨e.zh 8 _, ?_⟩,((u.alloc o).trans z (λk n=> .inr (qv C (zj q k n).1))).zh (p:=⟨g,8,none⟩) (qy.2 rfl) _⟩;exact D.kept (by rw [zO];exact qx _) λE _ _ _ _ _ w l=>jw l e (by rcases w with rfl|rfl<;>decide) _ _
theorem UM: ∀(l:List Nat) (n:Nat) (b:qn),dW (l++[n]) b=dW l b++[(b.drop l.sum).take n]
 |[],n,b=>by simp [dW]
 |a::t,n,b=>by
  show b.take a::dW (t++[n]) (b.drop a)=_
  rw [UM t n (b.drop a),vh,List.sum_cons];rfl
def oz (W:World) (B g:Nat) (l j:Value) (k i:Nat) (c:List Nat) (b:qn) (e:Ending) (a:World):Prop:=
 ∃Ac h Ai f d A8 n8 c8,e= .returned (.tuple #[.slice Ac k h, .slice Ai f d])/\Reads a B 1 Ac k (((b.drop c.sum).take k).map B8)/\k<=h/\h<=maxLen/\Reads a B 1 Ai f (((b.drop c.sum).drop k).map B8)/\f<=d/\d<=maxLen/\n8=c.length/\FrJ a W g l j k i A8 n8 c8 (dW c b)/\qE [g] W a
theorem GM (g k C l c1:Nat) (L:Value) (s:Option Addr) (a:List Nat) (Z:Option Addr) (N R B b1:Nat) (b:List UInt8) (W:World) (E:Blk W g 174 (byC L (.slice s l c1) k C (.slice none 0 0) (.slice none 0 0) (.slice none 0 0) (.slice none 0 0) (.slice none 0 0) (.slice none 0 0)))
  (I:W.ownsRow b1 3 1 (.slice s l c1) l (a.map NV)) (S:Reads W B 1 Z N (b.map B8)) (M:B<=W.heap.size) (hgB:B<=g) (hN:N<=1000000000) (hNc:N<=R) (hcm:R<=maxLen) (M':a.sum+k+C=N) (hn1:l<=1000000):
  Calls prog 160 #[.pointer g, .slice Z N R] W (oz W B g L (.slice s l c1) k C a b):=by
 obtain⟨i0,hi,hz0,V,hz2⟩:=qA QB;obtain⟨j0,hj,D',iL,p'⟩:=qA Zz;have hcut:=qj (λ(A:Option Addr) (m c i:Nat) (h:i<=m)=>jI (P:=prog) 30 5 i0 1 qu hi V A m c i .i64 h);have hcuh:=qj (λ(A:Option Addr) (m c i:Nat) (h:i<=c)=>Qm (P:=prog) 30 5 i0 1 qu hi V A m c i .i64 h);replace hj:=qj hj;replace D':=qj D';replace iL:=qj iL;replace p':=qj p';have KCl:=qj (λA n c xs w h M (hn:n<=1000000000)=>yV A n c B xs w h M uK);unfold jQ at KCl;have hszl:a.length=l:=by have:=I.1;simpa using this
 have HF0:Hid (FrJ W W.heap.size g L (.slice s l c1) k C none 0 0 []):=⟨E,zM.nil _ _ _ (qp _) (qx _)⟩;have HBL:Hid (∀W',qE [g] W W'->Below B W W'):=λW' h=>h.below (λx hx=>by rw [qy.1 hx];exact hgB) M
 have HS:=qj (λW' (h:qE [g] W W')=>h.own I (λk' hk' hk2=>qT I E FV k' hk' (qy.1 hk2)));have H:=qj S;have q1:W.cell? ⟨g,1,none⟩=some (.slice s l c1):=E.cell 1;have HSM:=qj M';have T:=qj hszl;have hbN:=qj S.len;have hgl:=qj E.lt;clear E I S hi hz0 V hz2 M' hszl;go_enter func160,ntmps160
 go_wp2_with fail;go_loopw [1,14] (λv1' J' wr=> ∃(j m d c8:Nat) (o A8:Option Addr),v1'= .slice o m d/\J'=(j:Value)/\j<=l/\m<=N/\m<=d/\d<=maxLen/\Hid (m+(a.take j).sum=N)/\Hid (∀W',Below B W W'->Reads W' B 1 o m ((b.drop (a.take j).sum).map B8))/\Hid (FrJ wr W.heap.size g L (.slice s l c1) k C A8 j c8 (dW (a.take j) b))/\Hid (qE [g] W wr)) (λ_ J' _=>l-(intOf J').toNat)
 case atStart=>exact⟨0,N,R,0,Z,none,rfl,rfl,qp _,qx _,hNc,hcm,by rw [Hid,vG];rfl,by rw [Hid,vG];exact λW' h=>H.below h,by rw [Hid,vG];exact HF0,qE.refl _ _⟩
 case round=>
  clear HF0 q1;obtain⟨j,m,d,c8,o,A8,rfl,rfl,hjn,hmN,hmc,hcx,Q,r,q,p⟩:=hrel;by_cases hlt:j<l
  ·have hlt':(j:Int)<(l:Int):=uK
   have N':j<a.length:=by rw [T.out];exact hlt
   obtain⟨ad,u,hA1,-,X,hcell⟩:=(Reads.zY (HS.out wr p)).at_ hlt;subst hA1;rw [qD,qX N'] at X;have hu2:u=NV a[j]:=(zy X).symm;subst hu2;have G':a.take (j+1)=a.take j++[a[j]]:=by rw [qs,qX N'];rfl
   have N9:(a.take (j+1)).sum=(a.take j).sum+a[j]:=by rw [G',QE];simp
   have hsmN:(a.take (j+1)).sum<=a.sum:=by
    have h:=QG (j+1) a;have h2:=zo List.sum h;rw [QE] at h2;omega
   have z':a[j]<=m:=by have:=Q.out;have:=HSM.out;omega
   have U:dW (a.take (j+1)) b=dW (a.take j) b++[(b.drop (a.take j).sum).take a[j]]:=by rw [G',UM]
   have m':b.drop (a.take (j+1)).sum=(b.drop (a.take j).sum).drop a[j]:=by rw [vh,N9]
   have HMM2:Hid (m-a[j]+(a.take (j+1)).sum=N):=by have:=Q.out;rw [Hid];omega
   have S':(b.drop (a.take j).sum).length=m:=(r.out W (qZ _ _)).len;unfold NV at hcell;generalize b.drop (a.take j).sum=rs at*
   generalize a[j]=x at*
   have hchi:=hcuh.out o m d x uK;have hclo:=hcut.out o m d x z';have Y:(rs.take x).length=x:=by rw [qh];omega
   have O:=KCl.out o x d (rs.take x) wr.drew (((r.out wr (HBL.out wr p)).takeN z').drew) (qv M p.size) uK;have hx0:(0:Int)<=(x:Int):=uK;have hxm':(x:Int)<=(m:Int):=uK;have hxc:(x:Int)<=(d:Int):=uK;have J:=qj (q.fresh (qZ _ wr).drew);have y:Hid (qE [g] W wr.drew):=p.drew;have Q':=q.q8;have hgw:Hid (g<wr.drew.heap.size):=qB hgl p.size;have hb1:j+1<=maxLen:=SJ;have hb2:(j+1)*24<=140737488355328:=uK;replace O:=qj O;replace U:=qj U;replace m':=qj m';replace Y:=qj Y;replace S':=qj S';generalize v:xo o d x 1=F at*
   replace v:=qj v;clear G' N9 hsmN X q p
   go_wp2_with fail;refine zv 11 (λW'=>W'.cell? ⟨g,8,none⟩=some (.slice A8 j c8)) AL Q' (λt=> ?_)
   generalize wr.drew=wd at*
   refine zq [0,1,2,3,4,5] (a':= ?_) ?_;refine zq [6,7] (a':= ?_) ?_;refine carried 8 rfl AL SQ (λK f=> ?_);go_simp
   (go_at_call 55;((with_reducible refine(O.out).mono ?_);rintro e D ⟨Ap,cp,rfl,G⟩);have z:=J.out.fresh G.2)
   refine f _ _ (z.q8) (λt=> ?_);clear f K;try simp only [Act.put,qQ,qY,qV]
   have OX:qE [g] W D:=y.fresh G.2;have Y':=qi G.1 y.size;obtain⟨⟨vs,d',N6,X'⟩,hvb,hv0⟩:=z.ls;refine carried 9 rfl AL SQ (λK f=> ?_);go_simp
   (have Z':=z.fresh ((qZ _ D).alloc (qx _) (.cells #[.slice Ap x cp] 30)))
   refine f _ _ ((Z'.q8)) (λt=> ?_);clear f K;try simp only [Act.put,qQ,qY,qV]
   refine QY 10 rfl AL (λK f=> ?_)
   (refine jm _ rfl (.tmp 22) (.tmp 27) 87 rfl W.heap.size 30 j0 (.slice none 0 0) 1 24 jr hj D' iL p' rfl uK A8 j c8 vs rfl (d'.alloc _) (D.heap.size+1) D 1 1 [.slice Ap x cp] rfl (zU D _ _) (one_one rfl) hb1 hb2 (qv hvb s8) ?_;intro A4 c4 w4 O' P' hs4;obtain⟨⟨U',jf⟩,h4,m4⟩:=z.step d' N6 X' Y Y' _ P' O' (qx _) OX)
   refine f _ _ (U') (λt=> ?_);clear f K;try simp only [Act.put,qQ,qY,qV]
   refine j4 11 rfl AL FV SQ (λK f=> ?_);go_simp;refine f _ _ ?_;clear f K;try simp only [Act.put,qQ,qY,qV]
   refine j4 12 rfl AL FV SQ (λK f=> ?_);go_simp;refine f _ _ ?_;clear f K;try simp only [Act.put,qQ,qY,qV]
   refine j4 13 rfl AL FV SQ (λK f=> ?_);go_simp;refine f _ _ ?_;clear f K;try simp only [Act.put,qQ,qY,qV]
   refine zV AL ?_ _;rw [<-U.out] at h4;have HF4:=qj h4;have HM4:=qj m4;clear O t Q' z Z' OX Y' d' N6 X' hvb hv0 O' P' hs4 U' jf h4 m4 G J y;generalize w4.setCell ⟨g,8,none⟩ (.slice A4 (j+1) c4)=w5 at*
   have HR4:Hid (∀W',Below B W W'->Reads W' B 1 F (m-x) ((b.drop (a.take (j+1)).sum).map B8)):=λW' h=>by
    rw [m'.out,<-v.out];exact(r.out W' h).VC z' hmc
   clear r;have hmx:m-x<=N:=uK;have hmc2:m-x<=d-x:=uK;have hcx2:d-x<=maxLen:=uK
   go_wp2_with fail;go_roundw
   case rel=>exact⟨j+1,m-x,d-x,c4,F,A4,by first|rfl|simp,by first|rfl|simp,uK,hmx,hmc2,hcx2,HMM2,HR4,HF4,HM4⟩
   case measure=>simp [intOf];omega
  ·obtain rfl:j=l:=uK
   have hge: ¬(j:Int)<(j:Int):=uK;rw [qH (by rw [T.out];exact qx _)] at Q r q
   have u':k<=m:=by have:=Q.out;have:=HSM.out;omega
   have hchi:=hcuh.out o m d k uK;have hclo:=hcut.out o m d k u';have hk0:(0:Int)<=(k:Int):=uK;have hkm':(k:Int)<=(m:Int):=uK;have hkc:(k:Int)<=(d:Int):=uK;have q2:wr.drew.cell? ⟨g,2,none⟩=some (k:Value):=q.blk.cell 2;have I':=r.out wr (HBL.out wr p);have HR1:=qj (I'.takeN u').drew;have HR2:=qj (I'.VC u' hmc).drew;have J:=qj (q.fresh (qZ _ wr).drew);have y:Hid (qE [g] W wr.drew):=p.drew;generalize v:xo o d k 1=F at*
   replace v:=qj v;clear r q p I'
   go_wp2_with fail;refine zv 16 (λW'=>W'.cell? ⟨g,2,none⟩=some (k:Value)) AL q2 (λt=> ?_)
   refine zq [0,1,2,3,4,5] (a':= ?_) ?_;refine zq [6,7,8,9,10,11] (a':= ?_) ?_;refine zq [12,13,14,15] (a':= ?_) ?_;refine zV AL ?_ _;clear t q2;generalize wr.drew=wd at*
   go_wp2_with fail
   go_ret2;exact⟨o,d,F,m-k,d-k,A8,j,c8,rfl,HR1.out,uK,hcx,HR2.out,uK,uK,T.symm,J.out,y.out⟩
def Bdy (W:World) (base g:Nat) (x:ks):Prop:=
 ∃i a c0 t o c1 n b k q c h l d s r e m p f j u,(a=x.dir.counts.length/\o=x.dir.sizes.length/\b=x.times.length/\c=x.levels.length/\d=x.vO.length/\e=x.lists.length/\f=x.JB.length)/\
  Blk W g 174 (byC (.slice i a c0) (.slice t o c1) x.dir.cols x.dir.index (.slice n b k) (.slice q c h) (.slice l d s) (.slice r e m) (.slice p f j) u)/\
  W.ownsRow base 3 1 (.slice i a c0) a (x.dir.counts.map NV)/\W.ownsRow base 43 1 (.slice n b k) b (x.times.map V64)/\W.ownsRow base 5 1 (.slice q c h) c (x.levels.map B8)/\
  W.ownsRow base 9 1 (.slice l d s) d (x.vO.map STR)/\Jc W base r e m x.lists/\zM W 0 base p f j x.JB/\base<=g
theorem Bdy.below {W b:World} {base g:Nat} {x:ks} (h:Bdy W base g x) (a:Below W W b):Bdy b base g x:=by
 obtain⟨i,f,c0,k,r,c1,p,t,l,u,w,e,n,z,A,y,d,o,s,v,j,m,q,c,h1,h2,h3,h4,h5,h6,h7⟩:=h;exact⟨i,f,_,k,r,_,p,t,l,u,w,e,n,z,A,y,d,o,s,v,j,m,q,c.below a c.lt,qG h1 a,qG h2 a,qG h3 a,qG h4 a,h5.below a,h6.below a,h7⟩
theorem Dg (W:World) (g B d c0:Nat) (f:q') (b:List Nat) (h:W.cell? g=some (.slice f d c0)) (c:Reads W B 1 f d (b.map NV)) (l:d<=100000) (j: ∀x∈b,x<=10000000):
  Calls prog 162 #[.pointer g] W λe k=>e= .returned b.sum/\W=k:=by
 have i:=c.len;have a:=Z8 f c0 B b W (by rw [i];exact c) uK j;rw [i] at a;replace a:=qj a;generalize b.sum=s at*;clear c j i;go_in;go_wp2_with fail;refine Ω a ?_;go_wp2;go_ret;exact⟨rfl,rfl⟩
theorem Gi (W:World) (g B a c0 k:Nat) (d:q') (b:List Nat) (h:W.cell? g=some (.slice d a c0)) (f:Reads W B 1 d a (b.map NV)) (z:a<=100000) (q:k<=a) (y:a<=c0) (l: ∀x∈b,x<=10000000):
  Calls prog 164 #[.pointer g,k] W λe n=>e= .returned (.int .i64 ((b.take k).sum:Nat))/\W=n:=by
 have p:=f.len;have i:(b.take k).length=k:=by rw [qh];omega
 have c:=Z8 d c0 B _ W (by rw [i];exact f.takeN q) uK (λx m=>l x (j2 m));rw [i] at c;replace c:=qj c;obtain⟨o,hi,r,j,t⟩:=qA XM;have v:=Qm _ 3 o 1 jj hi j d a c0 k .i64 uK;generalize (b.take k).sum=s at*;clear f l p i hi r j t;go_in;go_wp2_with fail;refine Ω c ?_;go_wp2;go_ret;exact⟨rfl,rfl⟩
def BO (W:World) (l:List Nat) (e:Ending) (a:World):Prop:= ∃A c,e= .returned (.slice A l c)/\a.ownsRow W 3 1 (.slice A l c) l (l.map NV)/\Below W W a
theorem Ie (l:List Nat): ∀u∈l.map NV,u.oneCell'=true:=by
 intro u a;obtain⟨s,_,rfl⟩:=jB.1 a;rfl
theorem TC (A:q') (n c B:Nat) (i:List Nat) (W:World) (h:Reads W B 1 A n (i.map NV)) (k:B<=W.heap.size) (m:n<=10000000):
  Calls prog 117 #[.slice A n c] W (BO W i):=by
 have b:=λW=>Lib.run_eql_slice_nil W _ 3 A n c 0 0 jj;obtain⟨r,hi,f,e,g⟩:=xt XM;have a:=h.len;unfold BO;rw [a];replace a:=qj a;have H:=qj h;cases A with
 |none=>
  have h0:n=0:=by
   rcases zA n with h0|h0
   ·exact h0
   ·obtain⟨j,b,_⟩:=h.2 h0;cases b
  subst h0;simp only [Option.isNone] at b;clear h k m;go_wp2;go_ret;have:=xq.1 a.out;subst this;exact⟨_,0,rfl,qP _ _ _ _,qZ _ _⟩
 |some j=>
  simp only [Option.isNone] at b;clear h;go_in;go_wp2_with (at_builtin;refine qF _ rfl (.tmp 5) (.tmp 6) 62 rfl W.heap.size 3 r () 1 8 jj hi f e g rfl uK W.heap.size 0 0 [] rfl (ZR W _ _ (qx _)) B (some j) n c _ rfl (H.alloc k _) (Ie _) ?_ ?_ ?_ ?_;rotate_left 3;intro o c1 s d l q;have p:=qj (zG (zi (qZ _ _) _) l (ZR W _ _ (qx _)) (zi (qZ _ W) _).size);replace d:=qj d;clear l q);rotate_left 1
  ·unfold maxLen;omega
  ·omega
  ·exact(zi (qZ _ W) _).size
  go_ret;refine⟨o,c1,s8, ?_,p⟩;have h:=d.out;simpa using h
theorem Pq (W:World) (g B b c0:Nat) (i:q') (a:List Nat) (h:W.cell? g=some (.slice i b c0)) (j:Reads W B 1 i b (a.map NV)) (d:B<=W.heap.size) (o:b<=100000):
  Calls prog 81 #[.pointer g] W (BO W a):=by
 have f:=qj (TC i b c0 B a W j d uK);unfold BO at f⊢;generalize a.length=n at*;clear j;go_in;go_wp2_with fail;refine f.mono ?_;rintro e p ⟨A,c,rfl,k,d⟩;have l:=qj k;have m:=qj d;clear k d;go_wp2;go_ret;exact⟨A,c,rfl,l,m⟩
end
section
variable {L N S T ch d k m n:Nat}{s:qn}{w:World}
theorem oU (a:Shp k m ch n S d L N T) (b:s.length=T) {t:Nat} (ht:t<S) (h:csE k m (Q2 k m ch s t)=0):Zm k m (ZY (Q2 k m ch s t)) (xL (Q2 k m ch s t))=0:=by
 by_cases c:(Q6 (xL (Q2 k m ch s t)) (k+m)).length<k
 ·rw [ON a b ht c] at h;exact absurd h FV
 ·exact(MT a b ht c).1
theorem Bl (a:Shp k m ch n S d L N T) (b:s.length=T): ∀t,t<=S->(∀x,x<t->csE k m (Q2 k m ch s x)=0)->(Y4 k m ch s t).length=t*d
 |0,_,_=>by simp [Y4]
 |t+1,ht,h=>by
  rw [FG,qK,Bl a b t uK (λx c=>h x uK),Om a b (show t<S by omega) (oU a b uK (h t uK)),ql]
theorem aG (k m ch:Nat) (s:qn) (t:Nat):Yu (ch+4) s ((t+1)*(k+m))=Yu (ch+4) s (t*(k+m))++DI (t*(k+m)) (xL (Q2 k m ch s t)):=by
 rw [ql,BS];congr 2;unfold xL Q2 vr;rw [vC];apply jX;intro i hi;show _=Jd (yY _ _ _);rw [eF (q:=k+m) rfl (js.1 hi)]
theorem O5 (k m ch n a:Int) (A:q') (T c:Nat) (w:World) (d:ZM k m ch n=a) (h0:a≠0):
  Calls prog 169 #[k,m,ch,n, .slice A T c] w (VV w [] [] a):=by
 have f:Hid (Calls prog 64 #[k,m,ch,n] w λe w'=>e= .returned (.tuple #[.int .i64 (Vx k m ch n:Nat),a])/\Below w w w'):=by
  have:=Uk k m ch n w;rw [d] at this;exact this
 have h:(a !=(0:Int))=true:=by simp [h0]
 generalize Vx k m ch n=v at*;clear d;go_in;go_wp2_with fail;refine zC f ?_;intro g b;replace b:=qj b;go_wp2;go_ret3;exact VV.nil b.out
def od (T l:Nat):Int:=if l<T then 1 else 2
theorem rC (k m ch n:Int) (A:q') (l c T:Nat) (w:World) (f:ZM k m ch n=0) (g:Vx k m ch n=T) (h0:l≠T):
  Calls prog 169 #[k,m,ch,n, .slice A l c] w (VV w [] [] (od T l)):=by
 have b:Hid (Calls prog 64 #[k,m,ch,n] w λe w'=>e= .returned (.tuple #[T,()])/\Below w w w'):=by
  have:=Uk k m ch n w;rw [f,g] at this;exact this
 clear f g;unfold od;by_cases d:l<T
 focus
  rw [qk d];have h1:=j' l T
 rotate_left
 focus
  rw [qJ d];have h2:=j' T l
 all_goals
  go_in;go_wp2_with fail;refine zC b ?_;intro h a;replace a:=qj a;go_wp2;go_ret3;exact VV.nil a.out
def GQ (w:World) (v:qn) (a:List Nat) (f:Int) (e:Ending) (w':World):Prop:=
 ∃A c b d,e= .returned (.tuple #[.slice A v c, .slice b a d,f])/\Reads w' w' 1 A v (v.map B8)/\Reads w' w' 1 b a (a.map NV)/\v.length<=c/\c<=maxLen/\Below w w w'
theorem GQ.nil {w':World} {a:Int} (b:Below w w w'):GQ w [] [] a (.returned (.tuple #[zn,zn,a])) w':=⟨_,0,_,0,rfl,Reads.none_,Reads.none_,qx _,FV,b⟩
theorem Reads.u8 {B k:Nat} {A:q'} {l:qn} (h:Reads w B 1 A n (l.map B8)) (d:k<n): ∃a x,A=some a/\l[k]? =some x/\w.cell? (a.add k)=some (.int .u8 (x.toNat:Int)):=by
 obtain⟨a,u,e,-,c,b⟩:=h.at_ d;obtain⟨x,f,rfl⟩:=get_map _ l k u c;exact⟨a,x,e,f,b⟩
theorem TS (A o:q') (n g c s B z:Nat) (a b:qn) (w:World) (h1:Reads w B 1 A n (a.map B8)) (h2:Reads w z 1 o g (b.map B8)) (J:n<=1000000000000) (M:g<=1000000000000):
  Calls prog 149 #[.slice A n c, .slice o g s] w λe w'=>e= .returned (.bool (decide (a=b)))/\Dr w w':=by
 have m:=h1.len;have l2:=h2.len;by_cases q:n=g
 ·subst q;have t:=qj h1;have v:=qj h2;have L:=qj (show a.length=n/\b.length=n from⟨m,l2⟩);clear h1 h2 m l2;go_wp2;go_loopw [13] (λi wr=> ∃k:Nat,i=(k:Value)/\k<=n/\Hid (Dr w wr)/\Hid (a.take k=b.take k)) (λi _=>n-(intOf i).toNat)
  ·exact⟨0,rfl,uK,Dr.refl w,rfl⟩
  ·obtain⟨k,rfl,K,f,r⟩:=hrel;by_cases p:k<n
   ·obtain⟨G,x,rfl,h,F⟩:=(f.reads t).u8 p;obtain⟨E,y,rfl,l,C⟩:=(f.reads v).u8 p;have I:=j' k n;by_cases j:x=y
    ·subst j;have u:=qj (fk r h l rfl);clear h l;go_wp2;go_quiet (fail);go_wp2_with fail;refine xk ?_;exact⟨k+1,xh,uK,f.drewN _,u⟩
    ·have D:((x.toNat:Int) !=(y.toNat:Int))=true:=by
      rw [yo];intro e;exact j (jG.1 uK)
     have d:=qj (WM h l j);clear h l j;go_wp2;go_quiet (fail);go_wp2;go_ret;exact⟨j7 d.symm,f.drewN _⟩
   ·obtain rfl:k=n:=uK;have d:=qj (Wo r L.out.1 L.out.2);go_wp2;go_ret;exact⟨j7 d.symm,f⟩
 ·have H:((n:Int) !=(g:Int))=true:=by rw [yo];omega
  have d:Hid (decide (a=b)=false):=Ci uK;clear q h1 h2 m l2;go_wp2;go_ret;exact⟨j7 d.symm,Dr.refl w⟩
theorem oD (k m ch n S d L N T:Nat) (A:Option Addr) (c:Nat) (s:List UInt8) (w:World) (a:Shp k m ch n S d L N T) (ht:Tab w) (hr:Reads w w.heap.size 1 A T (s.map B8)) (hnc:T<=c) (hcm:c<=maxLen) (hU:Hid (LR\/Hf k m ch S s=true)):
  Calls prog 169 #[k,m,ch,n, .slice A T c] w (GQ w (rdV k m ch n S s) (rdB k m ch n S s) (rdE k m ch n S s)):=by
 have hok:kA k m ch n=true:=iQ a.k1 a.km a.c1 a.c2 a.n2;have S':kM k m ch n=T:=by unfold kM;rw [a.hT,a.hS,a.hL]
 have P':=UK hok (by rw [S'];exact a.t2)
 have KSz:Hid (Calls prog 64 #[k,m,ch,n] w λe w'=>e= .returned (.tuple #[T,()])/\Below w.heap.size w w'):=by
  have:=Uk k m ch n w;rw [P'.1,P'.2,S'] at this;exact this
 have sl:Hid (s.length=T):=hr.len;have KL:Hid (∀W,Calls prog 97 #[.agg #[k,m,ch]] W λe w'=>e= .returned L/\Below W.heap.size W w'):=λW=>by rw [a.hL];exact eJ k m ch W a.km a.c2
 have d1:=a.d1;have d2:=a.d2;have N2:=a.N2;have nN:=a.nN;have S2:=a.S2;have t2:=a.t2;have k1:=a.k1;have c1':=a.c1;have c2':=a.c2;obtain⟨q,B⟩: ∃q,k+m=q:=⟨_,rfl⟩;have km:q<=255:=by rw [<-B];exact a.km
 obtain⟨v,p⟩: ∃v,ch+4=v:=⟨_,rfl⟩;have J:L=q*v:=by rw [a.hL,B,p]
 have hL1:1<=L:=by rw [J,<-p];exact Nat.mul_pos uK uK
 have M:=qj a;have HT:=qj ht;have RB:=qj (λW (hW:Below w.heap.size w W)=>hr.below hW);have hTT1: ¬(T:Int)<(T:Int):=uK;replace B:=qj B;replace p:=qj p;replace J:=qj J;obtain⟨i0,hi,hz0,p',hz2⟩:=qA xR;replace hi:=qj hi;replace hz0:=qj hz0;replace p':=qj p';replace hz2:=qj hz2;clear a hok S' P' ht;go_enter func169,ntmps169
 go_wp2_with fail;refine KSz.mono ?_;rintro e D ⟨rfl,M'⟩;have hb:=Blk.new D 309 #[k,m,ch, .slice none 0 0, .slice none 0 0,()];have F:=zX M' ((qZ D D).alloc (qx _) (.cells #[k,m,ch, .slice none 0 0, .slice none 0 0,()] 309));have hge:w.heap.size<=D.heap.size:=M'.size;replace hb:=qj hb;replace F:=qj F;clear M'
 go_wp2_with fail;have hg:w.heap.size<=D.heap.size:=hge;obtain⟨W2,Z'⟩: ∃W2,D.alloc (.cells #[k,m,ch, .slice none 0 0, .slice none 0 0,()] 309)=W2:=⟨_,rfl⟩;rw [Z'] at hb F⊢;replace Z':=qj Z';generalize D.heap.size=g at*
 go_loopw [4] (λv4 wr=> ∃(t R l no j E X:Nat) (G u U:Option Addr),v4= .slice G R l/\t<=S/\R<=T/\R<=l/\l<=maxLen/\Hid (R+t*L=T)/\Hid (no=t*d)/\Hid (E<=t*q)/\Hid (∀x,x<t->csE k m (Q2 k m ch s x)=0)/\Hid (Reads wr w.heap.size 1 G R ((s.drop (t*L)).map B8))/\Hid (Below w.heap.size w wr)/\Hid (Rdr wr w.heap.size g k m ch u no j U E X (t*q) (Y4 k m ch s t) (Yu v s (t*q)))) (λv4 _=>c_ v4)
 case atStart=>
  refine⟨0,T,c,0,0,0,0,A,none,none,rfl,qp _,qx _,hnc,hcm,by show T+0*L=T;rw [jd];rfl,by show 0=0*d;rw [jd],qp _,λx hx=>uK, ?_,F, ?_⟩
  ·rw [jd,Zy];exact RB _ F.out
  ·rw [jd]
   exact⟨hb.out,hg,qP _ _ _ _,qP _ _ _ _⟩
 case round=>
  clear hb F;obtain⟨t,R,l,no,j,E,X,G,u,U,rfl,htS,hRT,hRc,hc4,N6,HNO,HNB,Z,O',H,b⟩:=hrel;by_cases iL:t<S
  ·have hLT:=M.out.LT iL
   have hdN:=M.dN iL;have Y':L<=R:=by have:=N6.out;omega
   have hR0:(0:Int)<(R:Int):=uK;have hTQ:t*q+q<=16777216:=by
    have h1:(t+1)*q<=(t+1)*L:=yz _ (by rw [J.out];exact Xp _ (by have:=p.out;omega))
    rw [ql,ql] at h1;omega
   have hCS:Hid (vr q v ((s.drop (t*L)).take L)=Q2 k m ch s t):=by
    rw [Hid];unfold Q2;rw [B.out,p.out,<-J.out]
   have I':=qj (λhne=>nM (n:=n) Z hne iL);have hOUT:=qj (FG k m ch s t);have hBAD:=qj (aG k m ch s t);rw [B.out,p.out] at hBAD;have hc:=And.intro (b.blk.cell 0) (And.intro (b.blk.cell 1) (b.blk.cell 2));have hLc:(L:Int)<=(l:Int):=uK;have hL0:(0:Int)<=(L:Int):=uK;have hszw:w.heap.size<=wr.heap.size:=H.size;obtain⟨q0,q1,q2⟩:=hc
   go_wp2_with fail;refine(KL.out _).mono ?_;rintro e w2 ⟨rfl,o⟩;have G':=qj (H.trans (o.mono hszw));have HR2:=qj (b.below o);have OX:=qj (O'.below (o.mono hszw));have u':=qj (Nz w.heap.size g k m ch q v L no j E X (t*q) u U G l (Y4 k m ch s t) ((s.drop (t*L)).take L) (Yu v s (t*q)) w2 (HT.below G' HT.pos) HT.pos HR2 G'.size (OX.takeN Y') uK hc4 B p J k1 km c1' c2' uK HNB (by rw [<-M.hd,HNO.out];omega) (by rw [hCS.out];exact hU.imp id λh=>qqH h iL))
   unfold Bm at u';rw [hCS.out] at u';clear o H b O' q0 q1 q2 hLT hdN
   go_wp2_with fail;refine u'.mono ?_;rintro e w3 ⟨rfl,N9,I⟩;have z':=qj (G'.trans N9);have HD3:=qj (OX.below N9);replace I:=qj I;clear u' N9 G' OX HR2;obtain⟨er,Y⟩: ∃er,csE k m (Q2 k m ch s t)=er:=⟨_,rfl⟩;rw [Y] at I' I⊢;by_cases he:er=0
   ·subst he
    obtain⟨Ao',no',co',Ab',nb',cb',hn',r⟩:=I.out rfl;replace r:=qj r;have hd3:=And.intro (r.blk.cell 0) (And.intro (r.blk.cell 1) (r.blk.cell 2));obtain⟨q0,q1,q2⟩:=hd3;have hE1:Hid (∀x,x<t+1->csE k m (Q2 k m ch s x)=0):=λx hx=>by
     by_cases h:x<t
     ·exact Z x h
     ·obtain rfl:x=t:=uK
      exact Y
    have hno':Hid (no'=(t+1)*d):=by
     have h1:=r.oo.1;have h2:=Bl M sl (t+1) iL hE1.out;rw [<-hOUT.out] at h1;rw [Hid,<-h2];simpa using h1.symm
    have hcut:=jI (P:=prog) 30 5 i0 1 qu hi p' G R l L .i64 Y';replace Y:=qj Y;have hszw3:w.heap.size<=w3.heap.size:=z'.size;have hLR':(L:Int)<=(R:Int):=uK;clear I I'
    go_wp2_with fail;refine(KL.out _).mono ?_;rintro e w4 ⟨rfl,o⟩;have HB4:=qj (z'.trans (o.mono hszw3));have HD4:=qj ((HD3.below (o.mono hszw3)).VC Y' hRc);have HR4:=qj (r.below o);clear o z' HD3 r q0 q1 q2
    go_wp2_with fail;go_roundw
    case rel=>
     refine⟨t+1,R-L,l-L,no',co',nb',cb',xo G l L 1,Ao',Ab',rfl,uK,uK,uK,uK, ?_,hno', ?_,hE1, ?_,HB4, ?_⟩
     ·show R-L+(t+1)*L=T
      have:=N6.out;rw [ql];omega
     ·show nb'<=(t+1)*q
      rw [ql];exact hn'
     ·have h5:=HD4.out
      rw [vh] at h5;rw [ql];exact h5
     ·rw [hOUT.out,hBAD.out,ql];exact HR4.out
    case measure=>simp [c_];omega
   ·have e1:(er==(0:Int))=false:=by simp [he]
    have e2:(er !=(0:Int))=true:=by simp [he]
    have hF:=qj (I'.out he);clear I I' Y he
    go_wp2_with fail
    go_ret3;rw [hF.out.1,hF.out.2.1,hF.out.2.2];exact GQ.nil z'.out
  ·obtain rfl:t=S:=uK
   have hR0:R=0:=by have:=N6.out;have:=M.hT;omega
   subst hR0;have hR1: ¬(0:Int)<((0:Nat):Int):=uK;have hnN:no=N:=by rw [HNO.out,M.hN]
   subst hnN;have m':=qj (λh=>Mw (n:=n) Z h);have hBEH:=qj (λh=>TD (n:=n) Z h);rw [B.out,p.out] at m';obtain⟨f,hW3⟩: ∃f,f=wr:=⟨_,rfl⟩;subst hW3;obtain⟨O,hO⟩: ∃O,Y4 k m ch s t=O:=⟨_,rfl⟩;rw [hO] at b m' hBEH;obtain⟨BD,U'⟩: ∃BD,Yu v s (t*q)=BD:=⟨_,rfl⟩;rw [U'] at b m';have OL:Hid (O.length=no):=by have:=b.oo.1;rw [Hid];simpa using this
   have DL:Hid (BD.length=E):=by have:=b.ob.1;rw [Hid];simpa using this
   have hcap:=jC b.oo;have hcut:=jI (P:=prog) 30 5 i0 1 qu hi p' u no j n .i64 nN;have RO:Hid (Reads f f 1 (xo u j n 1) (no-n) ((O.drop n).map B8)):=(Reads.zY b.oo).VC nN hcap.1;have c3:=b.blk.cell 3;have hn0:(0:Int)<=(n:Int):=uK;have hnN':(n:Int)<=(no:Int):=uK;replace hO:=qj hO;replace U':=qj U';obtain⟨C,N'⟩: ∃C,no-n=C:=⟨_,rfl⟩;rw [N'] at hcut RO;have hNR:n+C=no:=uK;replace N':=qj N';clear Z O'
   go_wp2_with fail;go_loopw [76] (λX' wr=> ∃(x:Nat),X'=(x:Value)/\x<=C/\Hid (∀y,y<x->O[n+y]? =some 0)/\f=wr) (λX' _=>C-(intOf X').toNat)
   case atStart=>exact⟨0,rfl,qp _,λy h1=>uK,rfl⟩
   case round=>
    obtain⟨x,rfl,hxM,HX,rfl⟩:=hrel;by_cases hlt3:x<C
    ·have hlt3':(x:Int)<(C:Int):=uK
     have hx0:(0:Int)<=(x:Int):=uK;obtain⟨ad,z,hAd,-,Q,hcell⟩:=RO.byte hlt3;rw [jt] at Q;by_cases i:z=0
     ·have hz8:((z.toNat:Int)==0)=true:=by rw [i];rfl
      have hz9:((z.toNat:Int) !=0)=false:=by rw [i];rfl
      have hz10:(z.toNat:Int)=0:=by rw [i];rfl
      have hz11:z.toNat=0:=by rw [i];rfl
      replace i:=qj i;replace Q:=qj Q
      go_wp2_with fail;go_roundw
      case rel=>
       refine⟨x+1,by go_num,uK,λy h1=> ?_,trivial⟩
       by_cases h:y<x
       ·exact HX y h
       ·obtain rfl:y=x:=uK
        rw [Q.out,i.out]
      case measure=>simp [intOf];omega
     ·have hz10: ¬(z.toNat:Int)=0:=λh=>i (jG.1 (by have h0:(0:UInt8).toNat=0:=rfl;omega))
      have hz11: ¬z.toNat=0:=uK;have hz8:((z.toNat:Int)==0)=false:=by simp [hz11]
      have hz9:((z.toNat:Int) !=0)=true:=by simp [hz11]
      have hF:=qj (hBEH.out (tJ Q (Jk _ _) i));clear Q i
      go_wp2_with fail
      go_ret3;rw [hF.out.1,hF.out.2.1,hF.out.2.2];exact GQ.nil H.out
    ·have hge3: ¬(x:Int)<(C:Int):=uK
     have hF:=m'.out (Sh λy h1 h2=>by
      have h3:=HX.out (y-n) (by have:=OL.out;omega)
      rwa [show n+(y-n)=y by omega] at h3)
     replace hF:=qj hF;have d':Below f f f.drew:=(qZ _ _).drew;have SB:Hid (∀V,Below f f V->V.cell? ⟨g,3,none⟩=some (.slice u no j)/\V.cell? ⟨g,4,none⟩=some (.slice U E X)):=λV hV=>⟨(b.blk.below hV b.blk.lt).cell 3,(b.blk.below hV b.blk.lt).cell 4⟩;have hS0:=SB.out _ d';have J':Hid ((O.take n).length=n):=by rw [Hid,qh,OL.out];omega
     have KC:=qj (yV u n j f.drew.heap.size (O.take n) f.drew (((Reads.zY b.oo).below d').takeN nN) (qx _) uK);unfold jQ at KC;have hnc5:(n:Int)<=(j:Int):=uK;replace d':=qj d';clear c3 hcut HX
     go_wp2_with fail;refine zv 14 (λV=>V.cell? ⟨g,3,none⟩=some (.slice u no j)/\V.cell? ⟨g,4,none⟩=some (.slice U E X)) AL hS0 (λhHeld=> ?_)
     refine zq [0,1,2,3,4,5] (a':= ?_) ?_;refine zq [7,8,9,10] (a':= ?_) ?_;refine carried 6 rfl AL SQ (λK hK=> ?_);go_simp
     (go_at_call 55;((with_reducible refine KC.out.mono ?_);rintro e w8 ⟨Ac,cc,rfl,D'⟩);have Q':=qj (zX d'.out D'.2);have HC8:=qj D'.reads;have HQ8:=qj (jC D'.1);clear D')
     refine hK _ _ ((SB.out _ Q')) (λhHeld=> ?_);clear hK K;try simp only [Act.put,qQ,qY,qV]
     refine zq [11,12,13] (a':= ?_) ?_;refine zV AL ?_ _;have HO8:=qj (Reads.zY (qG b.ob Q'));have HBw8:=qj (H.trans (Q'.mono H.size));clear hHeld SB hS0 KC
     go_wp2_with fail
     go_ret3;rw [hF.out.1,hF.out.2.1,hF.out.2.2];refine⟨Ac,cc,U,X,by rw [J'.out,DL.out];rfl, ?_, ?_, ?_,HQ8.out.2,HBw8.out⟩
     ·rw [J'.out];exact HC8.out
     ·rw [DL.out];exact HO8.out
     ·rw [J'.out];exact HQ8.out.1
theorem k_ {k m ch:Int} (h:ZM k m ch n=0): ∃a b g:Nat,k=(a:Int)/\m=(b:Int)/\ch=(g:Int)/\Vx k m ch n=kM a b g n/\Shp a b g n (YA (a*g) n) (a*g) ((a+b)*(g+4)) (YA (a*g) n*(a*g)) (kM a b g n):=by
 cases c:kA k m ch n with
 |false=>rw [(UY c).1] at h;exact absurd h FV
 |true=>
  obtain⟨a,b,g,d,rfl,rfl,rfl,f,h1,h2,h3,h4,h5⟩:=Ro c;obtain rfl:n=d:=uK;by_cases e:kM a b g n<=16777216
  ·exact⟨a,b,g,rfl,rfl,rfl,(UK c e).2,⟨h1,h2,h3,h4,h5,rfl,rfl,rfl,rfl,rfl,e⟩⟩
  ·rw [(bh c uK).1] at h;exact absurd h FV
def oF (w:World) (a:Int) (v:qn) (f:List Nat) (e:Ending) (w':World):Prop:=
 ∃A n c g b d,e= .returned (.tuple #[.slice A n c, .slice g b d,a])/\Below w w w'/\(a=0->n=v.length/\b=f.length/\Reads w' w' 1 A n (v.map B8)/\n<=c/\c<=maxLen)
theorem Tn (k m ch:Int) (n:Nat) (A:q') (l c:Nat) (s:qn) (w:World) (ht:Tab w) (o:Reads w w 1 A l (s.map B8)) (z:l<=c) (x:c<=maxLen) (C:LR\/Hf k.toNat m.toNat ch.toNat (YA (k.toNat*ch.toNat) n) s=true):
  Calls prog 169 #[k,m,ch,n, .slice A l c] w (oF w (srE k m ch n s) (srV k m ch n s) (srB k m ch n s)):=by
 have q:=o.len;have p: ∀d:Int,d≠0->srE k m ch n s=d->(∀e w',VV w [] [] d e w'->oF w (srE k m ch n s) (srV k m ch n s) (srB k m ch n s) e w'):=λd h0 f e w' h=>by
  obtain⟨A,c,v,t,E,-,-,j⟩:=h;exact⟨A,_,c,v,_,t,by rw [f];exact E,j,λh=>absurd (f▸h) h0⟩
 by_cases h1:ZM k m ch n=0
 case neg=>
  exact(O5 k m _ n _ A l c w rfl h1).mono (p _ h1 (by unfold srE;rw [qk h1]))
 obtain⟨a,b,g,rfl,rfl,rfl,i,r⟩:=k_ h1;by_cases h2:l=kM a b g n
 case neg=>
  have h3:srE a b g n s=od (kM a b g n) l:=by
   unfold srE od;rw [qJ (by simpa using h1),i,q];by_cases h:l<kM a b g n
   ·rw [qk h,qk h]
   ·rw [qJ h,qJ h,qk uK]
  exact(rC a b g n A l c _ w h1 i h2).mono (p _ (by unfold od;split<;>decide) h3)
 subst h2;have h3:srE a b g n s=rdE a b g n (YA (a*g) n) s:=by
  unfold srE;rw [qJ (by simpa using h1),i,q,qJ uK,qJ uK];rfl
 have h4:srV a b g n s=rdV a b g n (YA (a*g) n) s:=rfl;have h5:srB a b g n s=rdB a b g n (YA (a*g) n) s:=rfl;rw [h3,h4,h5];refine(oD a b g n _ _ _ _ _ A c s w r ht o z x C).mono ?_;rintro e w' ⟨y,c1,D,c2,f,B,-,u,F,j⟩;exact⟨y,_,_,D,_,_,f,j,λ_=>⟨rfl,rfl,B,u,F⟩⟩
theorem GV (W:World) (g j k e:q') (b c n3 a c1 c2 m l:Nat) (i d f h:qn) (h1:Reads W W 1 g b (i.map B8)) (h2:Reads W W 1 j c (d.map B8)) (h3:Reads W W 1 k n3 (f.map B8)) (h4:Reads W W 1 e a (h.map B8)) (ht:b+c+n3+a<=1000000000):
  Calls prog 30 #[.slice W 4 4] (W.alloc (.cells #[.slice g b c1, .slice j c c2, .slice k n3 m, .slice e a l] 30)) (jQ 5 (W.alloc (.cells #[.slice g b c1, .slice j c c2, .slice k n3 m, .slice e a l] 30)) (i++d++f++h).length ((i++d++f++h).map B8)):=by
 have s:=h1.len;have r:=h2.len;have o:=h3.len;have q:=h4.len;have K:=fZ W 4 [(g,b,c1,i),(j,c,c2,d),(k,n3,m,f),(e,a,l,h)] (by
  intro p n;simp only [qL,xj,Ze] at n;rcases n with rfl|rfl|rfl|rfl
  ·exact h1
  ·exact h2
  ·exact h3
  ·exact h4) s8 SZ
 simpa [jY] using K
theorem NQ (o:Opt) (W:World) (ht:Tab W) (h1:16<=o.blk) (h2:o.blk<=32768) (h3:1<=o.bkt) (h4:o.bkt<=64):
  Calls prog 37 #[.agg (opA o)] W (jQ 5 W ((DB 2++xv o.blk.toNat++[dJ o.plain]++xv o.bkt.toNat).length+4) ((dI o).map B8)):=by
 obtain⟨bk,y,kk,dd,Z,cc⟩:=o;dsimp only at h1 h2 h3 h4;obtain⟨l,rfl⟩: ∃l:Nat,bk=(l:Int):=⟨bk.toNat,uK⟩;obtain⟨m,rfl⟩: ∃m:Nat,kk=(m:Int):=⟨kk.toNat,uK⟩;unfold opA dI;dsimp only;rw [show((l:Nat):Int).toNat=l from rfl,show((m:Nat):Int).toNat=m from rfl];have HT:=qj ht;have I':Hid (Below W.heap.size W (W.alloc (.cells #[l,y,m,dd,Z,cc] 23))):=z8 _;have HK:Hid (Blk (W.alloc (.cells #[l,y,m,dd,Z,cc] 23)) W.heap.size 23 #[l,y,m,dd,Z,cc]):=Blk.new _ _ _;have KM:=qj (CT 2 (W.alloc (.cells #[l,y,m,dd,Z,cc] 23)) uK uK);rw [show mark 2=DB 2 from rfl,show((2:Nat):Int)=2 from rfl] at KM;have D':=λW=>qj (vW l W uK);have iL:=λW=>qj (vW m W uK);have wb:IntKind.u64.wrap (l:Int)=(l:Int):=by rw [qS];omega
 have wk:IntKind.u64.wrap (m:Int)=(m:Int):=by rw [qS];omega
 have N':=(jn l).2;have N9:=(jn m).2;unfold jQ at D' iL⊢;generalize xv l=v,xv m=w at*;have Y:Hid ((DB 2++v++[dJ y]++w).length<=100):=by
  rw [Hid];simp only [qK,qf,zF];have:(DB 2).length=5:=rfl;omega
 clear ht;generalize p':W.alloc (.cells #[l,y,m,dd,Z,cc] 23)=w0 at*;obtain⟨k,U⟩: ∃k:Int,B8 (dJ y)= .int .u8 k:=⟨_,rfl⟩;have z':Hid ([dJ y].map B8=[.int .u8 k]):=by rw [Hid,jy,xB,U]
 generalize d':dJ y=I at*;replace p':=qj p';go_in;cases y
 (have hz:Hid (Value.int .u8 0= .int .u8 k):=by rw [Hid,<-U,<-d'];rfl
  go_wp2_with fail;rw [hz.out,p'.out];clear hz)
 rotate_left
 (have hz:Hid (Value.int .u8 1= .int .u8 k):=by rw [Hid,<-U,<-d'];rfl
  go_wp2_with fail;rw [hz.out,p'.out];clear hz)
 all_goals
  refine KM.mono ?_;rintro e C ⟨T,c4,rfl,M',G'⟩;have z:=qj (I'.trans (G'.mono I'.size));have m':=qj (HK.below G' HK.lt);have J':=qj (Reads.zY M');clear M' G';have j:Hid (∀R,Below C C R->R.cell? W.heap.size=some (l:Value)/\R.cell? ⟨W.heap.size,2,none⟩=some (m:Value)):=λR B=>⟨(B.cell (p:= W.heap.size) m'.lt).trans (m'.cell 0),(B.cell (p:=⟨W.heap.size,2,none⟩) m'.lt).trans (m'.cell 2)⟩;replace HT:Hid (∀V,Below C C V->Tab V):=λV hV=>HT.below (z.trans (hV.mono z.size)) HT.pos;go_wp2_with fail;refine zv 15 (λR=>R.cell? W.heap.size=some (l:Value)/\R.cell? ⟨W.heap.size,2,none⟩=some (m:Value)) AL (j _ (qZ _ _).drew) (λn=> ?_);generalize u':C.drew=E at*;have a:Below C C E:=by rw [<-u'];exact(qZ _ C).drew
  have d:Reads E E 1 T 5 ((DB 2).map B8):=by rw [<-u'];exact J'.out
  clear u';refine zq [0,1,2,3,5,7] (a':= ?_) ?_;refine zq [8,9] (a':= ?_) ?_;refine dV 4 6 rfl rfl AL SQ SQ (λK b=> ?_) (λK b=> ?_)
  focus
   go_simp
   (go_at_call 31;((with_reducible refine((D' _).out).mono ?_);rintro e H ⟨S,X,rfl,x⟩))
   replace d:=(d.below x.2).more x.2.size;have q:=x.reads;replace a:=a.trans (x.2.mono a.size);refine b _ _ (j _ a) (λn=>xg ?_);clear b K;refine dV 6 10 rfl rfl AL SQ SQ (λK b=> ?_) (λK b=> ?_)
   focus
    go_simp;have hF:Below (H).heap.size (H) ((H).alloc (.cells #[.int .u8 k] 5)):=z8 _;replace d:=(d.below hF).more hF.size;replace q:=(q.below hF).more hF.size;have s:Reads ((H).alloc (.cells #[.int .u8 k] 5)) ((H).alloc (.cells #[.int .u8 k] 5)).heap.size 1 (some ⟨(H).heap.size,0,none⟩) 1 ([I].map B8):=by rw [z'.out];exact(zU (H) (.int .u8 k) 5).more s8
    replace a:=a.trans (hF.mono a.size);clear hF;refine b _ _ (j _ a) (λn=>xg ?_);clear b K;refine vf 10 (qj ((iL _).out)) ?_;rintro e i ⟨N,M,rfl,c⟩;refine⟨_,rfl,((j _ (a.trans (c.2.mono a.size)))),λn=> ?_⟩;replace d:=(d.below c.2).more c.2.size;replace q:=(q.below c.2).more c.2.size;replace s:=(s.below c.2).more c.2.size;have G:=c.reads;replace a:=a.trans (c.2.mono a.size);generalize H.heap.size=Q at*;have u:=qj (GV _ T S Q N 5 v 1 w c4 X 1 M _ v _ w d q s G uK);have B:Below (i).heap.size (i) ((i).alloc (.cells #[.slice T 5 c4, .slice S v X, .slice Q 1 1, .slice N w M] 30)):=z8 _
   rotate_left
   focus
    go_simp
    (go_at_call 31;((with_reducible refine((iL _).out).mono ?_);rintro e i ⟨N,M,rfl,c⟩))
    replace d:=(d.below c.2).more c.2.size;replace q:=(q.below c.2).more c.2.size;have G:=c.reads;replace a:=a.trans (c.2.mono a.size);refine b _ _ (j _ a) (λn=>xg ?_);clear b K;have hF:Below (i).heap.size (i) ((i).alloc (.cells #[.int .u8 k] 5)):=z8 _;replace d:=(d.below hF).more hF.size;replace q:=(q.below hF).more hF.size;replace G:=(G.below hF).more hF.size;have s:Reads ((i).alloc (.cells #[.int .u8 k] 5)) ((i).alloc (.cells #[.int .u8 k] 5)).heap.size 1 (some ⟨(i).heap.size,0,none⟩) 1 ([I].map B8):=by rw [z'.out];exact(zU (i) (.int .u8 k) 5).more s8
    replace a:=a.trans (hF.mono a.size);clear hF;refine carried 6 rfl AL SQ (λK b=> ?_);go_simp;skip;refine b _ _ ((j _ a)) (λn=>xg ?_);clear b K;obtain⟨Q,N6⟩:=j1 i.heap.size;rw [<-N6] at s⊢;clear N6;generalize (i).alloc (.cells #[.int .u8 k] 5)=wC at*;have u:=qj (GV _ T S Q N 5 v 1 w c4 X 1 M _ v _ w d q s G uK);have B:Below (wC).heap.size (wC) ((wC).alloc (.cells #[.slice T 5 c4, .slice S v X, .slice Q 1 1, .slice N w M] 30)):=z8 _
  rotate_left 2
  focus
   go_simp;have hF:Below (E).heap.size (E) ((E).alloc (.cells #[.int .u8 k] 5)):=z8 _;replace d:=(d.below hF).more hF.size;have s:Reads ((E).alloc (.cells #[.int .u8 k] 5)) ((E).alloc (.cells #[.int .u8 k] 5)).heap.size 1 (some ⟨(E).heap.size,0,none⟩) 1 ([I].map B8):=by rw [z'.out];exact(zU (E) (.int .u8 k) 5).more s8
   replace a:=a.trans (hF.mono a.size);clear hF;refine b _ _ (j _ a) (λn=>xg ?_);clear b K;refine vf 4 (qj ((D' _).out)) ?_;rintro e H ⟨S,X,rfl,x⟩;refine⟨_,rfl,((j _ (a.trans (x.2.mono a.size)))),λn=> ?_⟩;replace d:=(d.below x.2).more x.2.size;replace s:=(s.below x.2).more x.2.size;have q:=x.reads;replace a:=a.trans (x.2.mono a.size);refine vf 10 (qj ((iL _).out)) ?_;rintro e i ⟨N,M,rfl,c⟩;refine⟨_,rfl,((j _ (a.trans (c.2.mono a.size)))),λn=> ?_⟩;replace d:=(d.below c.2).more c.2.size;replace s:=(s.below c.2).more c.2.size;replace q:=(q.below c.2).more c.2.size;have G:=c.reads;replace a:=a.trans (c.2.mono a.size);generalize E.heap.size=Q at*;have u:=qj (GV _ T S Q N 5 v 1 w c4 X 1 M _ v _ w d q s G uK);have B:Below (i).heap.size (i) ((i).alloc (.cells #[.slice T 5 c4, .slice S v X, .slice Q 1 1, .slice N w M] 30)):=z8 _
  all_goals
   replace a:=a.trans (B.mono a.size);unfold jQ at u;obtain⟨f,t⟩:=j1 (DB 2++v++[I]++w);rw [<-t] at u Y;replace t:=qj t;refine carried 11 rfl AL SQ (λK b=> ?_);go_simp;skip;refine b _ _ ((j _ a)) (λn=>xg ?_);clear b K;refine carried 12 rfl AL SQ (λK b=> ?_);go_simp
   (go_at_call 30;((with_reducible refine(u.out).mono ?_);rintro e P ⟨A9,c9,rfl,r⟩);have h:=a.trans (r.2.mono a.size);have D:=qj (XI _ f _ P f P (HT.out _ h) r.reads (qx _) (jC r.1).1 (jC r.1).2 (by have:=Y.out;omega)))
   refine b _ _ ((j _ h)) (λn=>xg ?_);clear b K;unfold jQ at D;refine carried 13 rfl AL SQ (λK b=> ?_);go_simp
   (go_at_call 35;((with_reducible refine(D.out).mono ?_);rintro e wP ⟨O,L,rfl,F⟩);have A:=h.trans (F.2.mono h.size))
   refine b _ _ ((j _ A)) (λn=>xg ?_);clear b K;refine zq [14] (a':= ?_) ?_;refine zV AL ?_ _;have J:Hid (yG C wP 5 O (f.length+4) L ((VY f).map B8)):=⟨qi F.1 h.size,A⟩;clear u D F r B a h A d q s G;go_wp2;go_ret;rw [<-t.out];exact⟨O,L,rfl,qi J.out.1 z.size,z.trans (J.out.2.mono z.size)⟩
end
end Go.Proofs.YtfnlfpcfkbdcmaaGreatDoor
