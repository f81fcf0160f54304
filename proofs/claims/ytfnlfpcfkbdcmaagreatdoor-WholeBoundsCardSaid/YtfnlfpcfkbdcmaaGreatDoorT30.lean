import Derived.Test.YtfnlfpcfkbdcmaaGreatDoorT27
import Derived.Test.YtfnlfpcfkbdcmaaGreatDoorT28
import Derived.Test.YtfnlfpcfkbdcmaaGreatDoorT29
set_option linter.unusedSimpArgs false
set_option linter.unusedVariables false
set_option maxRecDepth 100000
set_option maxHeartbeats 0
open Go.Proofs.Tryz
namespace Go.Proofs.YtfnlfpcfkbdcmaaGreatDoor
theorem Dd (b:qn): ∀(f d:O) (c:Cu) (a:S O),(Q4 b f d c a).2.err=0->(Q4 b f d c a).1.length=U a+f
 |0,d,c,a,h=>rfl
 |f+1,d,c,a,h=>by
  unfold Q4 at h⊢;by_cases e:c.err≠0
  ·rw [qk e] at h;exact absurd h e
  ·rw [qJ e] at h⊢
   rw [Dd b f _ _ _ h,qK,zJ];omega
theorem p9 (b:qn) (n:O) (f:O) (c:Cu) (a:qn) (d:c.err≠0):xx b n f c a=(a,c):=by
 cases f with
 |zero=>rfl
 |succ f=>unfold xx;rw [qk (.inr d)]
theorem Uo (b:qn) (n:O): ∀(f:O) (c:Cu) (a:qn),(xx b n f c a).2.err=0->U a<=n->n<U a+f->(xx b n f c a).1.length=n
 |0,c,a,h,h1,h2=>M
 |f+1,c,a,h,h1,h2=>by
  by_cases i:n<=U a\/c.err≠0
  ·have e:xx b n (f+1) c a=(a,c):=by unfold xx;rw [qk i]
   rw [e] at h⊢;have:=i.resolve_right (λj=>j h);show U a=n;omega
  ·have e:xx b n (f+1) c a=xx b n f (fC b n a c).2.2 (a++List.replicate (fC b n a c).2.1 (fC b n a c).1):=by rw [xx];rw [qJ i]
   rw [e] at h⊢;by_cases d:(fC b n a c).2.2.err=0
   ·have k:(fC b n a c).2.1<=n-U a:=by
     have:=vX b ((n-U a:O):V) (j_ b c).2 M;show(jU b _ _).1<=_
     omega
    have l:(fC b n a c).2.1≠0:=by
     intro h0;unfold fC at d h0;dsimp only at d h0;by_cases g:(jU b ((n-U a:O):V) (j_ b c).2).2.err=0
     ·rw [qk ⟨g, .inl h0⟩] at d
      unfold vP at d;rw [qk g] at d;cases d
     ·rw [qJ (λh=>g h.1)] at d;exact g d
    refine Uo b n f _ _ h ?_ ?_
    ·rw [qK,zT];omega
    ·rw [qK,zT];omega
   ·rw [p9 b n f _ _ d] at h
    exact absurd h d
theorem aK (n:O) (b:qn) (h:(ZG n b).1=0):(ZG n b).2.1.length=n/\(ZG n b).2.2.1.length=n:=by
 unfold ZG at h⊢;by_cases h1:(n:V)<0\/20000<(n:V)
 ·rw [qk h1] at h;cases h
 rw [qJ h1] at h⊢;dsimp only at h⊢;rw [zc] at h⊢;by_cases h2:(xx b n (n+1) (Q4 b n 0 ⟨0,0⟩ []).2 []).2.err≠0
 ·rw [qk h2] at h;exact absurd h h2
 rw [qJ h2] at h⊢;have h3:(xx b n (n+1) (Q4 b n 0 ⟨0,0⟩ []).2 []).2.err=0:=by simpa using h2
 have h4:=Uo b n _ _ _ h3 (qp _) s8;refine⟨?_,h4⟩;have h5:(Q4 b n 0 ⟨0,0⟩ []).2.err=0:=by
  apply yQ;intro h6;rw [p9 b n _ _ _ h6] at h3;exact h6 h3
 have:=Dd b n 0 _ _ h5;simpa using this
theorem Df (b:qn) (r:O): ∀(f:O) (c:Cu) (x y:S O),U x=U y->(∀a∈x,a<=r)->(∀a∈y,a<=8388608)->(Q7 b r f c x y).1.length=(Q7 b r f c x y).2.1.length/\(Q7 b r f c x y).1.length<=U x+f/\(∀a∈(Q7 b r f c x y).1,a<=r)/\(∀a∈(Q7 b r f c x y).2.1,a<=8388608)
 |0,c,x,y,h,e,d=>⟨h,qx _,e,d⟩
 |f+1,c,x,y,h,e,d=>by
  rw [kO];split
  ·exact⟨h,by dsimp only;omega,e,d⟩
  ·have h1:=vX b (r:V) c M
   have h2:=vX b 8388608 (jU b r c).2 M;have g:=Df b r f (jU b 8388608 (jU b r c).2).2 (x++[(jU b r c).1]) (y++[(jU b 8388608 (jU b r c).2).1]) (by simp [h]) (US e M) (US d M)
   rw [qK,zJ] at g;exact⟨g.1,M,g.2.2⟩
structure l5 (d:Dir) (room:O):Prop where
 sum:d.counts.sum<=20000
 room:d.sizes.sum+d.cols+d.index=room
 len:U d.counts=U d.sizes
 few:U d.counts<=20000
 small: ∀a∈d.counts,a<=20000
 sizes: ∀a∈d.sizes,a<=8388608
theorem Gz (b:qn) (d:O) (h:(tb b d).1=0):l5 (tb b d).2 d:=by
 unfold tb at h⊢;dsimp only at h⊢;have h1:=vX b 20000 ⟨0,0⟩ M;generalize jU b 20000 ⟨0,0⟩=r at*;have h2:=vX b (r.1:V) r.2 M;generalize jU b (r.1:V) r.2=k at*;have m:=Df b r.1 k.1 k.2 _ [] rfl s8 s8;generalize Q7 b r.1 k.1 k.2 [] []=p at*;generalize jU b 8388608 p.2.2=c at*;generalize jU b 8388608 c.2=i at*;by_cases h3:(PW b i.2).err≠0
 ·rw [qk h3] at h;exact absurd h h3
 rw [qJ h3] at h⊢;by_cases h4:0∈p.1\/p.1.sum≠r.1\/p.2.1.sum+c.1+i.1≠d
 ·rw [qk h4] at h;cases h
 rw [qJ h4];have h6:p.2.1.sum+c.1+i.1=d:=yQ λe=>h4 (.inr (.inr e));obtain⟨n,j,g,l⟩:=m;simp only [zF,jL] at j;exact⟨by show p.1.sum<=_;omega,h6,n,by show U p.1<=_;omega,λa f=>by have:=g a f;omega,l⟩
theorem BM (b:qn) (e w:O): ∀(l:S O) (a:O) (d:V) (at_:O) (c:S O),(Vi b e w l a d at_ c).2.1.length<=U c+U l
 |[],a,d,at_,c=>qx _
 |x::t,a,d,at_,c=>by
  unfold Vi;repeat' split
  ·exact qp _
  ·exact qp _
  ·exact qp _
  ·have:=BM b e w t (a+Ju b at_) (((a+Ju b at_)*2^w+x:O):V) (pq b at_) (c++[(a+Ju b at_)*2^w+x])
   rw [qK,zJ] at this;rw [qf];omega
theorem Bo (b:qn) (w:O): ∀n at_,U (Ka b w n at_)=n
 |0,_=>rfl
 |n+1,at_=>by unfold Ka;rw [qf,Bo b w n]
theorem Tb (a:O) (b:qn):(B6 a b).2.1.length<=a:=by
 unfold B6;split
 ·exact qp _
 ·dsimp only;have h1:=vX b (a:V) ⟨0,0⟩ M;generalize jU b (a:V) ⟨0,0⟩=n at*;split
  ·exact qp _
  ·split
   ·exact qp _
   ·split
    ·exact qp _
    ·show(ai _ _ _).2.1.length<=_;unfold ai;split
     ·exact qp _
     ·dsimp only;split
      ·exact qp _
      ·split
       ·exact qp _
       ·have:=BM (b.drop n.2.at_) (a:V).toNat (Hv (a:V).toNat n.1) (Ka (b.drop n.2.at_) (Hv (a:V).toNat n.1) n.1 0) 0 (-1) (n.1*Hv (a:V).toNat n.1) [];rw [Bo,zF] at this;dsimp only;omega
theorem DF (a:O): ∀(n:O) (b:qn) (c:S (S O)),(∀l∈c,U l<=a)-> ∀l∈(yR a n b c).2,U l<=a
 |0,b,c,h=>by
  unfold yR;split
  ·exact h
  ·simp
 |n+1,b,c,h=>by
  rw [kN];split
  ·simp
  ·split
   ·simp
   ·exact DF a n _ _ (λl d=>by
     rcases zt.1 d with h1|h1
     ·exact h l h1
     ·rw [qy.1 h1];exact Tb a b)
theorem ak (size:V) (a:O) (b:qn): ∀l∈(r7 size a b).2.2,U l<=a:=by
 unfold r7;split
 ·simp
 ·dsimp only;split
  ·simp
  ·split
   ·simp
   ·exact DF _ _ _ _ s8
theorem p_: ∀(l:S O) (b:qn),U (CJ l b)=U l
 |[],_=>rfl
 |n::t,b=>by show(CJ t _).length+1=_;rw [p_ t];rfl
structure Tc (x:Ft):Prop where
 sum:x.dir.counts.sum<=20000
 few:U x.dir.counts<=20000
 small: ∀a∈x.dir.counts,a<=20000
 JB:U x.JB=U x.dir.counts
 times:U x.times=x.dir.counts.sum
 levels:U x.levels=x.dir.counts.sum
 lists: ∀l∈x.lists,U l<=20000
theorem aP (o:Lx) (b:qn) (h:(Zo o b).1=0):Tc (Zo o b).2:=by
 unfold Zo at h⊢;dsimp only at h⊢;by_cases h1:J8 o≠0
 ·rw [qk h1] at h;exact absurd h h1
 rw [qJ h1] at h⊢;generalize pg b=f at*;by_cases h2:f.1≠0
 ·rw [qk h2] at h;exact absurd h h2
 rw [qJ h2] at h⊢;have a:=Gz f.2.2 (U f.2.1);generalize tb f.2.2 (U f.2.1)=d at*;by_cases h3:d.1≠0
 ·rw [qk h3] at h;exact absurd h h3
 rw [qJ h3] at h⊢;have a:=a (by simpa using h3);have e:(Zh d.2.counts.sum ((f.2.1.drop d.2.sizes.sum).take d.2.cols)).1=0->(Zh d.2.counts.sum ((f.2.1.drop d.2.sizes.sum).take d.2.cols)).2.1.length=d.2.counts.sum/\(Zh d.2.counts.sum ((f.2.1.drop d.2.sizes.sum).take d.2.cols)).2.2.length=d.2.counts.sum:=by
  generalize (f.2.1.drop d.2.sizes.sum).take d.2.cols=ch;intro h;unfold Zh at h⊢;by_cases i:QH ch≠0
  ·rw [qk i] at h;exact absurd h i
  rw [qJ i] at h⊢;dsimp only at h⊢;have m:=aK d.2.counts.sum (vR ch);generalize ZG d.2.counts.sum (vR ch)=r at*;by_cases g:r.1≠0
  ·rw [qk g] at h;exact absurd h g
  rw [qJ g] at h⊢;by_cases j:r.2.2.2<U (vR ch)
  ·rw [qk j] at h;cases h
  rw [qJ j];exact m (by simpa using g)
 generalize Zh d.2.counts.sum ((f.2.1.drop d.2.sizes.sum).take d.2.cols)=c at*;by_cases h4:c.1≠0
 ·rw [qk h4] at h;exact absurd h h4
 rw [qJ h4] at h⊢;have e:=e (by simpa using h4);by_cases h5:QH ((f.2.1.drop d.2.sizes.sum).drop d.2.cols)≠0
 ·rw [qk h5] at h;exact absurd h h5
 rw [qJ h5] at h⊢;have k:=ak o.bkt d.2.counts.sum (vR ((f.2.1.drop d.2.sizes.sum).drop d.2.cols));generalize r7 o.bkt (d.2.counts.sum:O) (vR ((f.2.1.drop d.2.sizes.sum).drop d.2.cols))=p at*;by_cases h6:p.1≠0
 ·rw [qk h6] at h;exact absurd h h6
 rw [qJ h6];exact⟨a.sum,a.few,a.small,by show(CJ _ _).length=_;rw [p_,a.len],e.1,e.2,λl n=>qv (k l n) a.sum⟩
section
open Go.RowKit
variable {A:q'}{E t:TypeId}{L:S qn}{W b:I}{base c g n:O}{l:Array la}
def ov (W:I) (r:V×Ft) (e:Ending) (a:I):Prop:=
 r' W W a/\((r.1≠0/\e=t' (BA #[mJ none,e' r.1]))\/(r.1=0/\ ∃g,e=t' (BA #[mJ (some ⟨g,0,none⟩),()])/\Bdy a W g r.2))
def J_:Ft:=⟨⟨[],[],0,0⟩,[],[],[],[],[]⟩
theorem Ta:(prog.info? 4).map (λi=>(i.zero,i.size,i.bytes))=J (some (.bool false),1,1):=AL
theorem zM.au {e:Array la} (h:zM W 0 base A n c L) (b:F' W g t e) (h1:30≠t) (h2:5≠t) (j:O) (u:la):zM (W.setCell ⟨g,j,none⟩ u) 0 base A n c L:=
 h.kept (by rw [zO];exact qx _) λE _ _ _ _ _ d a=>jw a b (by rcases d with rfl|rfl<;>assumption) j u
theorem Jc.uP {L:S (S O)} {o:Array la} (h:Jc W base A n c L) (d:F' W g t o) (h1:62≠t) (h2:3≠t) (j:O) (u:la):Jc (W.setCell ⟨g,j,none⟩ u) base A n c L:=by
 obtain⟨vs,f,k,e⟩:=h;exact⟨vs,jw f d h1 j u,k,λi l hi=>by
  obtain⟨Ai,m,a,b⟩:=e i l hi;exact⟨Ai,m,a,jw b d h2 j u⟩⟩
theorem zM.ia (h:zM W 0 base A n c L) (d:qE [g] W b) (e:F' W g t l) (h1:30≠t) (h2:5≠t):zM b 0 base A n c L:=
 h.kept d.size λE _ _ _ _ _ i a=>d.own a (λk f j=>qT a e (by rcases i with rfl|rfl<;>assumption) k f (qy.1 j))
theorem Kd {size:O} {a:S la} (h:xp W base E size (Z A n c) n a) (i:qE [g] W b) (d:F' W g t l) (f:E≠t):xp b base E size (Z A n c) n a:=
 i.own h (λk e j=>qT h d f k e (qy.1 j))
theorem oQ (b:qn):(pg b).2.2.length<=U b:=by
 unfold pg;split
 ·exact qp _
 ·split
  ·exact qp _
  ·refine qv (ax _) ?_;rw [qh,qI];omega
theorem UO (o:Lx) (A:Option Addr) (n c B:O) (b:S AB) (W:I) (ht:Pl W) (h:E' W B 1 A n (b.map B8)) (ih:B<=(W:O)) (hc:n<=c) (hm:c<=maxLen) (hn:n<=100000000):
  xG 114 #[.agg (Ld o),Z A n c] W (ov W (Zo o b)):=by
 obtain⟨R,hh⟩: ∃R,R=Zo o b:=⟨_,rfl⟩;rw [<-hh];unfold Zo at hh;dsimp only at hh;rw [show(⟨⟨[],[],0,0⟩,[],[],[],[],[]⟩:Ft)=J_ from rfl] at hh
 obtain⟨s,t,kk,q,l,m⟩:=o;have KCk:=YN ⟨s,t,kk,q,l,m⟩;unfold Ld at KCk⊢;dsimp only at KCk hh⊢;have hBa:G (r' W W (W (Y #[s, .bool t,kk,q,l,m] 23))):=(qZ _ _).alloc (qx _) _;have cL:G (F' (W (Y #[s, .bool t,kk,q,l,m] 23)) W 23 #[s, .bool t,kk,q,l,m]):=F'.new _ _ _;have z0:i' (W (Y #[s, .bool t,kk,q,l,m] 23)) (W:O)=J (s:la):=cL.cell 0;have z1:i' (W (Y #[s, .bool t,kk,q,l,m] 23)) ⟨W,1,none⟩=J (.bool t):=cL.cell 1;have z2:i' (W (Y #[s, .bool t,kk,q,l,m] 23)) ⟨W,2,none⟩=J (kk:la):=cL.cell 2;have z3:i' (W (Y #[s, .bool t,kk,q,l,m] 23)) ⟨W,3,none⟩=J (q:la):=cL.cell 3;have z4:i' (W (Y #[s, .bool t,kk,q,l,m] 23)) ⟨W,4,none⟩=J (l:la):=cL.cell 4;have z5:i' (W (Y #[s, .bool t,kk,q,l,m] 23)) ⟨W,5,none⟩=J (m:la):=cL.cell 5;generalize J8 ⟨s,t,kk,q,l,m⟩=E0 at*
 have H:=T h;have HT:=T ht;have KCk1:=T (KCk (W (Y #[s, .bool t,kk,q,l,m] 23)));replace hh:=T hh;have HTB:G (∀W',r' W W W'->Pl W'):=λW' h=>HT.below h HT.pos;clear h ht KCk HT;go_enter func114,ntmps114
 go_wp2_with fail;refine KCk1.mono ?_;rintro e w2 ⟨rfl,hB2⟩;have m':=T (hBa.trans (hB2.mono hBa.size));have HK2:=T (cL.below hB2 cL.lt);clear KCk1 hB2 hBa cL z0 z1 z2 z3 z4 z5;by_cases i:E0=0
 case neg=>
  have w:G (R=(E0,J_)):=by rw [Hid,hh.out,qk i]
  have O':(E0==0)=false:=by simpa using i
  have M':(E0 !=0)=true:=by simpa using i
  replace i:=T i;clear hh
  go_wp2_with fail
  go_ret2;rw [w.out];exact⟨m'.out, .inl ⟨i.out,rfl⟩⟩
 subst i;have P:=hh.out;rw [qJ s8] at P;have KF:=C8 A n c B b w2 (HTB.out w2 m') (H.below (m'.mono ih)) (qv ih m'.size) hc hm M;have hfl:=M_ b;have hfd:=oQ b;rw [H.len] at hfl hfd;unfold iD at KF;generalize pg b=f at*
 obtain⟨ef,rest,dir⟩:=f;dsimp only at P KF hfl hfd;generalize hnr:U rest=nr at*
 generalize hnd:U dir=nd at*
 replace KF:=T KF;replace P:=T P;replace hnr:=T hnr;replace hnd:=T hnd;clear hh
 go_wp2_with fail;refine KF.mono ?_;rintro e z ⟨A1,c1,A2,c2,rfl,hr3,hc3,hcm3,ho3,hB3⟩;have P':=T (m'.trans (hB3.mono m'.size));have HK3:=T (HK2.below hB3 HK2.lt);have HR3:=T hr3;have HO3:=T ho3;clear KF hr3 ho3 hB3 HK2 m';by_cases i:ef=0
 case neg=>
  have w:G (R=(ef,J_)):=by rw [Hid,P.out,qk i]
  have O':(ef==0)=false:=by simpa using i
  have M':(ef !=0)=true:=by simpa using i
  replace i:=T i;clear P
  go_wp2_with fail
  go_ret2;rw [w.out];exact⟨P'.out, .inl ⟨i.out,rfl⟩⟩
 subst i;have iv:=P.out;rw [qJ s8] at iv;obtain⟨j,J'⟩: ∃j,j=z (Y (bdC (Z none 0 0) (Z none 0 0) 0 0) 174):=⟨_,rfl⟩;have hk4:F' j z 174 (bdC (Z none 0 0) (Z none 0 0) 0 0):=by rw [J'];exact F'.new _ _ _
 have I':r' z z j:=by rw [J'];exact(qZ _ _).alloc (qx _) _
 have OX:(W:O)<=(z:O):=P'.size;have KD:=E__ z nr A2 nd c2 z dir j hk4 ((E'.zY HO3).below I') I'.size M M;have N6:=Gz dir nr;unfold Mn at KD;generalize tb dir nr=dd_ at*
 obtain⟨ed,d⟩:=dd_;dsimp only at iv KD N6;have HB4:=T (P'.trans (I'.mono P'.size));have HK4:=T (HK3.below I' HK3.lt);have HR4:=T (HR3.below (I'.mono (qv ih OX)));have hne4:G ((W:O)≠(z:O)):=by have:=HK3.lt;rw [Hid];omega
 have hs34:G ((j:O)=(z:O)+1):=by rw [J'];simp [Hid]
 replace J':=T J';replace KD:=T KD;replace iv:=T iv;replace N6:=T N6;have D:G (∀cY,qE [(z:O)] j cY->r' W W cY/\r' B j cY/\F' cY W 23 #[s, .bool t,kk,q,l,m]):=λcY hV=>
  ⟨HB4.trans (hV.below (λk hk=>by rw [qy.1 hk];exact OX) HB4.size),hV.below (λk hk=>by rw [qy.1 hk];exact qv ih OX) (qv ih HB4.size),hV.blk HK4 (by rw [qy];exact hne4)⟩
 clear P HO3 HR3 HK3 P' I' hk4
 go_wp2_with fail;have hbz:(#[Z none 0 0,Z none 0 0,(),(),Z none 0 0,Z none 0 0,Z none 0 0,Z none 0 0,Z none 0 0,Z none 0 0]:Array la)=bdC (Z none 0 0) (Z none 0 0) 0 0:=rfl;rw [hbz,<-J'.out];refine KD.mono ?_;rintro e w5 ⟨rfl,⟨A0,n0,c0,A5,n5,c5,X',hn5,hj5⟩,hm5⟩;have N9:=T hj5;have G':=T hm5;clear KD hj5 hm5 hbz;by_cases i:ed=0
 case neg=>
  have w:G (R=(ed,J_)):=by rw [Hid,iv.out,qk i]
  have O':(ed==0)=false:=by simpa using i
  have M':(ed !=0)=true:=by simpa using i
  replace i:=T i;clear iv
  go_wp2_with fail
  go_ret2;rw [w.out];exact⟨(D.out w5 G').1, .inl ⟨i.out,rfl⟩⟩
 subst i;have Y':=iv.out;rw [qJ s8] at Y';have r:=N6.out rfl;clear N6;have KS:=GM z d.cols d.index n5 c5 (Z A0 n0 c0) A5 d.sizes A1 nr c1 B j rest w5 N9.blk N9.o1 (HR4.below (D.out w5 G').2.1) (qv ih (D.out w5 G').1.size) (qv ih OX) M hc3 hcm3 r.room (by have:=r.few;have:=r.len;omega)
 unfold oz at KS;replace KS:=T KS;replace Y':=T Y';replace r:=T r;replace X':=T X';replace hn5:=T hn5;clear iv;generalize hgd:(z:O)=g at*
 replace hgd:=T hgd;have D':(W:O)<=(j:O):=HB4.size;obtain⟨i0,hi,iz0,iz1,iz2⟩:=qA Ta;replace hi:=T hi;replace iz0:=T iz0;replace iz1:=T iz1;replace iz2:=T iz2
 go_wp2_with fail;refine KS.mono ?_;rintro e w6 ⟨Ac,c6,Ai,ni,ci,A8,L,c8,rfl,hrc,hcc,hccm,hri,hci,hcim,hn8,hf6,hm6⟩;have O06:=T (Kd N9.o0 hm6 N9.blk FV)
 have HF6:=T hf6;have HM6:=T (G'.then hm6);have HRC:=T hrc;have HRI:=T hri;have hs6:G ((j:O)<=(w6:O)):=HM6.size;have q8:=hf6.q8;have hn8b:L<=20000:=by have:=r.few;have:=r.len;omega
 have hb1:i0.bytes*L<=281474976710656:=by rw [iz2.out];omega
 have hb2:L<=maxLen:=SJ;have hsz5x:(W:O)<=(w5:O):=qv D' G'.size;have hsz6:(W:O)<=(w6:O):=qv D' HM6.size;replace hn8:=T hn8;clear KS hrc hri hf6 hm6 N9 G'
 go_wp2_with (at_make;refine xP _ rfl _ _ 172 rfl W 4 i0 (.bool false) 1 underlying172 hi iz0 iz1 .i64 .i64 _ _ L rfl rfl rfl rfl hb1 hb2 hsz6 ?_;intro w7 ho7 hg7;have ck:r' w6 w6 w7:=(qZ _ w6).grown hg7 (qx _) (λk hk=>by cases hk);have qj:=HF6.blk.below ck HF6.blk.lt;have y9:i' w7 ⟨g,9,none⟩=J (Z none 0 0):=qj.cell 9;have yf9:=qj.frozen 9;replace ck:=T ck;replace qj:=T qj;clear ho7 hg7)
 obtain⟨v,hv9⟩: ∃v,v=Value.slice w6 L L:=⟨_,rfl⟩;rw [<-hv9];have hk8:=qj.zh 9 v;have O08:=T (jw (qG O06 ck) qj FV 9 v);have HL8:=T ((HF6.ls.below ck).au qj FV FV 9 v);have HM8:G (qE [g] j (w7.setCell ⟨g,9,none⟩ v)):=(HM6.fresh ck).zh (p:=⟨g,9,none⟩) (qy.2 rfl) v;have HB68:G (r' B w6 (w7.setCell ⟨g,9,none⟩ v)):=(ck.mono (qv ih hsz6)).setCell (p:=⟨g,9,none⟩) (by have:=hgd.out;show B<=g;omega) v
 have HRC8:=T (HRC.below HB68);have HRI8:=T (HRI.below HB68);clear y9 yf9 qj ck O06 HF6 HM6 HRC HRI HB68 q8 hv9;generalize w7.setCell ⟨g,9,none⟩ v=w8 at*
 have N':G (F' w8 g 174 (byC (Z A0 n0 c0) (Z A5 n5 c5) d.cols d.index (Z none 0 0) (Z none 0 0) (Z none 0 0) (Z none 0 0) (Z A8 L c8) v)):=hk8;clear hk8;have hcolN:d.cols<=100000000:=by have:=r.room;omega
 have Z':(W:O)<=(w8:O):=qv D' HM8.size;have uK:=Dg w8.drew g w8 n0 c0 A0 d.counts (N'.drew.cell 0) (E'.zY O08).drew (by have:=X'.out;have:=r.few;omega) (λa ha=>qv (r.small a ha) FV)
 have u':=aY g d.counts.sum (Z A0 n0 c0) (Z A5 n5 c5) (Z none 0 0) (Z none 0 0) (Z none 0 0) (Z none 0 0) (Z A8 L c8) v d.cols d.index Ac d.cols c6 _ w8.drew (HTB.out _ (D.out w8 HM8).1.drew) N'.drew ((HRC8.drew).more (qv ih Z')) hcolN hcc hccm r.sum;have cB:=Y'.out;unfold iC at u';generalize Zh d.counts.sum ((rest.drop d.sizes.sum).take d.cols)=oc at*
 obtain⟨eo,ts,ls⟩:=oc;dsimp only at cB u';have hsum2:=r.sum;generalize hsu:d.counts.sum=su at*
 replace hsu:=T hsu;replace uK:=T uK;replace u':=T u';replace cB:=T cB;clear Y'
 go_wp2_with fail;refine zv 8 (λ_=>True) AL trivial (λN=> ?_)
 generalize hwd:w8.drew=wd at*
 refine zq [0,1,2,3,5] (a':= ?_) ?_;refine vf 4 uK ?_;rintro e w' ⟨rfl,rfl⟩;refine⟨_,rfl,(trivial),λN=> ?_⟩;refine vf 6 u' ?_;rintro e w9 ⟨rfl,S',hx9⟩;refine⟨_,rfl,(trivial),λN=> ?_⟩;refine zq [7] (a':= ?_) ?_;refine zV AL ?_ _;subst hwd;have U':G (qE [g] j w9):=HM8.drew.then S';have HRI9:G (E' w9 B 1 Ai ni (((rest.drop d.sizes.sum).drop d.cols).map B8)):=HRI8.drew.below (S'.below (λk hk=>by rw [qy.1 hk];have:=hgd.out;omega) (qv ih Z'))
 have O09:=T (Kd O08.drew S' N'.drew FV);have HL9:=T (HL8.drew.ia S' N'.drew FV FV);have hX9:=T hx9;have hsz9:(W:O)<=(w9:O):=qv D' U'.size;clear uK u' S' hx9 N O08 HL8 HM8 HRI8 HRC8 N';by_cases i:eo=0
 case neg=>
  have w:G (R=(eo,J_)):=by rw [Hid,cB.out,qk i]
  have O':(eo==0)=false:=by simpa using i
  have M':(eo !=0)=true:=by simpa using i
  replace i:=T i;clear cB hX9
  go_wp2_with fail
  go_ret2;rw [w.out];exact⟨(D.out w9 U').1, .inl ⟨i.out,rfl⟩⟩
 subst i;have p':=cB.out;rw [qJ s8] at p';obtain⟨At,nt,ct,Al,nl,cl,hnt,hnl,hk9,ot9,ol9⟩:=hX9.out rfl;have Q':=Vr Ai ni ci ((rest.drop d.sizes.sum).drop d.cols) w9 (HTB.out w9 (D.out w9 U').1) (HRI9.more (qv ih hsz9)) hci hcim (by have h:=HRI9.len;rw [qI,qI] at h;have:=hnr.out;omega)
 unfold Qr at Q';have hcvl:U (vR ((rest.drop d.sizes.sum).drop d.cols))<=100000000:=by
  refine qv (ax _) ?_;rw [qI,qI];have:=hnr.out;omega
 generalize vR ((rest.drop d.sizes.sum).drop d.cols)=cY at*
 generalize QH ((rest.drop d.sizes.sum).drop d.cols)=E2 at*
 have HK9:=T hk9;have OT9:=T ot9;have OL9:=T ol9;replace Q':=T Q';replace p':=T p';replace hnt:=T hnt;replace hnl:=T hnl;clear cB hX9 hk9 ot9 ol9 HRI9;generalize hvl:U cY=vl at*
 replace hvl:=T hvl
 go_wp2_with fail;refine Q'.mono ?_;rintro e u ⟨A10,c10,rfl,cK⟩;have z':=T (U'.fresh cK.2);have HK10:=T (HK9.below cK.2 HK9.lt);have O010:=T (qG O09 cK.2);have OT10:=T (qG OT9 cK.2);have OL10:=T (qG OL9 cK.2);have HL10:=T (HL9.below cK.2);have HO10:=T cK.1;clear Q' cK U' HK9 O09 OT9 OL9 HL9;by_cases i:E2=0
 case neg=>
  have w:G (R=(E2,J_)):=by rw [Hid,p'.out,qk i]
  have O':(E2==0)=false:=by simpa using i
  have M':(E2 !=0)=true:=by simpa using i
  replace i:=T i;clear p'
  go_wp2_with fail
  go_ret2;rw [w.out];exact⟨(D.out u z').1, .inl ⟨i.out,rfl⟩⟩
 subst i;have X:=p'.out;rw [qJ s8] at X;have hsz10:(W:O)<=(u:O):=qv D' z'.size;have uK:=Dg u.drew g u n0 c0 A0 d.counts (HK10.drew.cell 0) (E'.zY O010).drew (by have:=X'.out;have:=r.few;omega) (λa ha=>qv (r.small a ha) FV)
 rw [hsu.out] at uK;have iL:=TU kk su A10 vl c10 u cY u.drew (E'.zY HO10).drew (qx _) M (jC HO10).1 hsum2;unfold Mt at iL;generalize r7 kk (su:V) cY=ps at*
 obtain⟨ep,xs,ys⟩:=ps;dsimp only at X iL;have p2:i' u.drew ⟨W,2,none⟩=J (kk:la):=(D.out u z').2.2.cell 2;generalize hxl:U xs=x at*
 generalize hyl:U ys=E at*
 replace uK:=T uK;replace iL:=T iL;replace X:=T X;replace hxl:=T hxl;replace hyl:=T hyl;have hpl:=T (D.out u z').2.2.lt;clear p' HO10;unfold _j at iL
 go_wp2_with fail;refine zv 14 (λcY=>i' cY ⟨W,2,none⟩=J (kk:la)) AL p2 (λN=> ?_)
 generalize hwd:u.drew=wd at*
 refine zq [0,1,2,3,5] (a':= ?_) ?_;refine vf 4 uK ?_;rintro e w' ⟨rfl,rfl⟩;refine⟨_,rfl,(N),λN=> ?_⟩;refine vf 6 iL ?_;rintro e Q ⟨C,y,ln,F,rfl,hx11,hy11,hB11,hxl2⟩;refine⟨_,rfl,(((hB11.cell (p:=⟨W,2,none⟩) (by rw [<-hwd];exact hpl)).trans p2)),λN=> ?_⟩
 refine zq [7,8,9] (a':= ?_) ?_;subst hwd;have d':r' u u Q:=(qZ _ u).drew.trans hB11;have k11:=HK10.below d' HK10.lt;have x6:i' Q ⟨g,6,none⟩=J (Z none 0 0):=k11.cell 6;have x7:i' Q ⟨g,7,none⟩=J (Z none 0 0):=k11.cell 7;have f6:=k11.frozen 6;have f7:=k11.frozen 7;have k12:=k11.zh 6 (Z C x y);have y7:i' (Q.setCell ⟨g,6,none⟩ (Z C x y)) ⟨g,7,none⟩=J (Z none 0 0):=k12.cell 7;have yf7:=k12.frozen 7;have hM11:qE [g] j Q:=z'.fresh d';have hop:=(((D.out Q hM11).2.2.far (p:=⟨g,6,none⟩) hne4 (Z C x y)).far (p:=⟨g,7,none⟩) hne4 (Z ln E F)).cell 2;refine zq [10,11] (a':= ?_) ?_;refine IA 12 rfl AL SQ (λK hK=> ?_);go_simp;skip
 refine hK _ _ (hop) (λN=> ?_);clear hK K;try simp only [Act.put,qQ,qY,qV]
 refine zq [13] (a':= ?_) ?_;refine zV AL ?_ _;have k13:=k12.zh 7 (Z ln E F);have O13:=jw (jw (qG O010 d') k11 FV 6 (Z C x y)) k12 FV 7 (Z ln E F);have OT13:=jw (jw (qG OT10 d') k11 FV 6 (Z C x y)) k12 FV 7 (Z ln E F);have OL13:=jw (jw (qG OL10 d') k11 FV 6 (Z C x y)) k12 FV 7 (Z ln E F);have OX13:=jw (jw hx11 k11 FV 6 (Z C x y)) k12 FV 7 (Z ln E F);have OY13:=(hy11.uP k11 FV FV 6 (Z C x y)).uP k12 FV FV 7 (Z ln E F);have L13:=((HL10.below d').au k11 FV FV 6 (Z C x y)).au k12 FV FV 7 (Z ln E F);have hM13:qE [g] j ((Q.setCell ⟨g,6,none⟩ (Z C x y)).setCell ⟨g,7,none⟩ (Z ln E F)):=(hM11.zh (p:=⟨g,6,none⟩) (qy.2 rfl) _).zh (p:=⟨g,7,none⟩) (qy.2 rfl) _;replace k13:=T k13;replace O13:=T O13;replace OT13:=T OT13;replace OL13:=T OL13;replace OX13:=T OX13;replace OY13:=T OY13;replace L13:=T L13;replace hM13:=T hM13;clear hop hM11 y7 yf7 x6 x7 f6 f7 k11 k12 hx11 hy11 hB11 d' O010 OT10 OL10 HL10 HK10 z' N uK iL p2;generalize (Q.setCell ⟨g,6,none⟩ (Z C x y)).setCell ⟨g,7,none⟩ (Z ln E F)=w13 at*
 by_cases i:ep=0
 case neg=>
  have w:G (R=(ep,J_)):=by rw [Hid,X.out,qk i]
  have O':(ep==0)=false:=by simpa using i
  have M':(ep !=0)=true:=by simpa using i
  replace i:=T i;clear X
  go_wp2_with fail
  go_ret2;rw [w.out];exact⟨(D.out w13 hM13).1, .inl ⟨i.out,rfl⟩⟩
 subst i;have w:G (R=(0,⟨d,ts,ls,xs,ys,CJ d.sizes rest⟩)):=by
  have h:=X.out;rw [qJ s8] at h;exact h
 clear X
 go_wp2_with fail
 go_ret2;rw [w.out];refine⟨(D.out w13 hM13).1, .inr ⟨rfl,g,rfl, ?_⟩⟩;have hgW:(W:O)<=g:=OX;exact⟨A0,n0,c0,A5,n5,c5,At,nt,ct,Al,nl,cl,C,x,y,ln,E,F,A8,L,c8,v,⟨X'.out,hn5.out,hnt.out,hnl.out,hxl.symm,hyl.symm,by show L=U (CJ d.sizes rest);rw [p_];exact hn8⟩,k13.out,
  qi O13 D',qi OT13 Z',qi OL13 Z',qi OX13 hsz10,OY13.out.Vg hsz10,L13.out.Vg (qx _) (qp _) hsz5x,hgW⟩
end
section
open Go.RowKit Go.Maps Go.ChangeShapes
variable {Ax Ay e:q'}{E k:TypeId}{cY W W4 w w':I}{b b8 base c cx cy n nx ny:O}{t:qn}{v:la}{vs:S la}{xs:S qn}
theorem Vs: ∀(s row:qn) (b:S qn),(∀o∈b,U o<=24)-> ∀x∈rj s row b,U x<=24
 |[],row,b,h,x,a=>by
  unfold rj bC at a;split at a
  ·exact h x a
  ·rcases zt.1 a with h1|h1
   ·exact h x h1
   ·rw [qy.1 h1,qh];omega
 |c::t,row,b,h,x,a=>by
  unfold rj at a;cases e:rv c with
  |some y=>rw [e] at a;exact Vs t (row++[y]) b h x a
  |none=>
   rw [e] at a;refine Vs t [] (bC row b) (λo d=> ?_) x a;unfold bC at d;split at d
   ·exact h o d
   ·rcases zt.1 d with h1|h1
    ·exact h o h1
    ·rw [qy.1 h1,qh];omega
theorem DG (r:JH): ∀t∈G1 r,U t<=25:=λt ht=>by
 have h:=(Ud _ t).1 ht;rcases zt.1 h with h1|h1
 ·have:=Vs r.txt [] [] s8 t h1;omega
 ·obtain⟨s,a,rfl⟩:=jB.1 h1
  have:=Vs r.src [] [] s8 s a;rw [qf];omega
theorem rk: ∀(i:O) (l:S JH) (t:qn),t∈(jl i l).map (·.1)->U t<=25:=λi l t h=>by
 obtain⟨b,a,ht⟩:=List.mem_flatten.1 ((Pe i l t).1 h);obtain⟨r,_,rfl⟩:=jB.1 a;exact DG r t ht
def rp (w w':I):Prop:= ∀(k:O) (t:TypeId) (b:Array la) (a:O×O),w.heap[k]? =J (Y b t a)->t≠3->w'.heap[k]? =J (Y b t a)
theorem rp.own {size:O} {A:q'} {d:S la} (f:rp w w') (h:xp w base E size (Z A n c) n d) (g:E≠3):xp w' base E size (Z A n c) n d:=
 zI h λa e=>by
  obtain⟨j,i,b⟩:=jV h a.block (by rw [e];rfl)
  rw [b];exact f _ _ _ _ b g
theorem rp.blk {g:O} {t:TypeId} {a:Array la} (c:rp w w') (h:F' w g t a) (b:t≠3):F' w' g t a:=c _ _ _ _ h b
theorem rP {f i:I} {D:DataW Unit} {zs:S V} (h:w.ownsGroups prog k base 3 .i64 b n D) (g:w.ownsInts base 3 .i64 v zs) (l:w.grownBy f v.ownBlock) (o:f.grownBy i (some b)):rp w i:=λk t r p d m=>by
 obtain⟨u,x,j,-⟩:=h;have q:=jz d;have h1:f.heap[k]? =J (Y r t p):=by
  refine(l.block k q λe=> ?_).trans d;obtain⟨A,c,rfl⟩:=X_ (n:=U zs) g.1;rw [jH] at e;obtain⟨y,s,a⟩:=jV g.1 k e.symm;rw [d] at a;injection a with a
  injection a with _ a
  exact m a
 refine(o.block k (jz h1) λe=> ?_).trans h1;injection e with e
 subst e;rw [j] at d;cases d
theorem aU {D:DataW Unit} (h:w.ownsGroups prog k base 3 .i64 b n D) (e:r' w w w'):w'.ownsGroups prog k base 3 .i64 b n D:=by
 obtain⟨j,s,f,F,r,o,m,p,A⟩:=h;have key: ∀v zs,w.ownsInts base 3 .i64 v zs->w'.ownsInts base 3 .i64 v zs:=λv zs a=>⟨Qv a.1 e,a.2⟩;obtain⟨l,c,_⟩:=F.stay (R':=rowElem (H:=Unit) w' base 3 .i64) (λx _ z i=>by
  obtain⟨zs,a,rfl⟩:=rowElem_inv i;exact rowElem_mk (key _ _ a))
 refine⟨j,s,(e.block b (jz f)).trans f,l,r,by rw [o];first|rw [c]|rw [<-c],m,λx d zs a=> ?_,A⟩;obtain⟨y,u⟩:=F.reads x d;obtain⟨B,q,-⟩:=Go.WideElems.rd_val u;obtain⟨t,g,-⟩:=rowElem_inv q;rw [a.unique (key _ _ g)];exact p x d t g
theorem Ir:Keyed prog 9:=string_keyed ju
theorem iA (w:I):(zeroValue 62).run prog w= .ok z8 w:=AL
theorem oX (t:qn) (h:U t<=25):keyOf prog 9 (.string ⟨t.toArray⟩)=J (.string t):=by
 rw [Go.WideMaps.keyOf_string_mk ju (show(⟨t.toArray⟩:ByteArray).size<=maxLen by
  show t.toArray.size<=maxLen;rw [xd];exact qv h FV)]
theorem Gl (w:I) (p:Addr) (u x:la) (t:TypeId):E' ((w.setCell p u) (Y #[x] t)) ((w:O)+1) 1 w 1 [x]:=by
 have h:=zU (w.setCell p u) x t;rwa [zO] at h
theorem GL {a:Func} {p:Tmp} {b:TypeId} (h:a.results= #[.cell p b]) (tmps:Array la) (w:I) (g:O) (c:Array la)
  (e:tmps.getD p undef=mJ g) (d:(loadVar b g).run prog w= .ok (.agg c) w):
  (results a tmps).run prog w= .ok (.agg c) w:=by
 have f:tmps[p]?.getD undef=mJ g:=by simpa using e
 simp [results,h,f,asAddr,d]
theorem dC: ∀(i:O) (l:S JH),(jl i l).map (·.1)=(l.map G1).flatten
 |i,[]=>rfl
 |i,r::l=>by
  unfold jl;rw [qg,dC (i+1) l,jy,xI,vC];congr 1;exact List.map_id _
structure ru (cY W:I) (b8:O) (Ax:q') (nx cx:O) (xs:S qn) (Ay:q') (ny cy:O) (vs:S la):Prop where
 blk:F' W b8 102 #[Z Ax nx cx,Z Ay ny cy]
 ox:xp W cY 9 1 (Z Ax nx cx) nx (xs.map Lj)
 oy:xp W cY 62 1 (Z Ay ny cy) ny vs
 jZ:qE [b8] cY W
theorem ru.l6 (h:ru cY W b8 Ax nx cx xs Ay ny cy vs) (o:Obj) (i:(W.alloc o).grownBy W4 (Ax.map (·.block))) (f:xp W4 cY 9 1 (Z e (nx+1) c) (nx+1) (xs.map Lj++[Lj t])):
  (i' W4 b8=J (Z Ax nx cx)/\W4.frozen? b8=false)/\ru cY (W4.setCell b8 (Z e (nx+1) c)) b8 e (nx+1) c (xs++[t]) Ay ny cy vs:=by
 have h1:=h.blk.alloc o;have h2:=h.ox.alloc o;have h3:=h.oy.alloc o;have d:qE (K' Ax) (W.alloc o) W4:=(qE.refl _ _).grown i (λk a=> .inl a);have b:=d.blk h1 (λa=>qT h2 h1 FV b8 a rfl);have g:=d.own h3 (xz h3 h2 FV);refine⟨⟨b.cell 0,b.frozen 0⟩,b.zh 0 _, ?_,jw g b FV _ _,((h.jZ.alloc o).trans d (λk a=> .inr (zj h2 k a).1)).zh (p:= b8) (qy.2 rfl) _⟩;rw [qg];exact jw f b FV _ _
theorem ru.l7 (h:ru cY W b8 Ax nx cx xs Ay ny cy vs) (o:Obj) (i:(W.alloc o).grownBy W4 (Ay.map (·.block))) (f:xp W4 cY 62 1 (Z e (ny+1) c) (ny+1) (vs++[v])):
  (i' W4 ⟨b8,1,none⟩=J (Z Ay ny cy)/\W4.frozen? ⟨b8,1,none⟩=false)/\ru cY (W4.setCell ⟨b8,1,none⟩ (Z e (ny+1) c)) b8 Ax nx cx xs e (ny+1) c (vs++[v]):=by
 have h1:=h.blk.alloc o;have h2:=h.ox.alloc o;have h3:=h.oy.alloc o;have d:qE (K' Ay) (W.alloc o) W4:=(qE.refl _ _).grown i (λk a=> .inl a);have b:=d.blk h1 (λa=>qT h3 h1 FV b8 a rfl);have g:=d.own h2 (xz h2 h3 FV);exact⟨⟨b.cell 1,b.frozen 1⟩,b.zh 1 _,jw g b FV _ _,jw f b FV _ _,((h.jZ.alloc o).trans d (λk a=> .inr (zj h3 k a).1)).zh (p:=⟨b8,1,none⟩) (qy.2 rfl) _⟩
theorem Ui {P:Program} (w:I) {c:Array Oper} {rest:S Oper} {o:Oper} {a:Act} {Q:Exit->Act->I->Prop}
  (i:o.guard=none) (m x:Operand) (t:TypeId) (h:o.op=Op.lookup t m x false) (b:O) (key v:la) (f:a.eval m= .map (some b)) (j:a.eval x=key)
  (d:(Instr.lookup t (.map (some b)) key false).run P w= .ok v w) (e:wpList P c Q rest (a.put o.dst v) w):wpList P c Q (o::rest) a w:=by
 refine wpList_plain i λk g=> ?_;unfold Oper.wp;simp [execOp,h,f,j,d,Result.andThen];exact g _ _ e
theorem Te {D:DataW Unit} {P:S (qn×O)} (h:w.ownsGroups prog 9 base 3 .i64 b n D) (j:GD D P) (ht:t∈P.map (·.1)) (s:U t<=25) (w':I) (o:w'.heap[b]? =w.heap[b]?):
  ∃A c,(Instr.lookup 141 (.map (some b)) (.string ⟨t.toArray⟩) false).run prog w'= .ok (.slice A (U (yd t P)) c) w'/\xp w base 3 1 (.slice A (U (yd t P)) c) (U (yd t P)) ((yd t P).map NV):=by
 obtain⟨v,z,q,F,u,i,-⟩:=h;have p: ∀l:S O,(uj l).map (Value.int .i64)=l.map NV:=λl=>by unfold uj;rw [vC];rfl
 rcases Maps.fit_look false Ir underlying141 (iA w') (o.trans q) F (oX t s) with⟨-,-,f⟩|⟨x,y,-,-,m,r,f,-⟩
 ·have h1:=j.at_ t ht;rw [i,f] at h1;cases h1
 ·obtain⟨zs,e,rfl⟩:=rowElem_inv r;have g:=j.look (by rw [i];exact f _) e;obtain⟨A,c,d⟩:=X_ e.1;have a:=e.1;rw [d,g,p] at a;have k:U (uj (yd t P))=U (yd t P):=by unfold uj;rw [zH]
  rw [g,k] at d;rw [k] at a;exact⟨A,c,by rw [<-d];exact m,a⟩
def oY (W:I) (x:S qn×S (S O)) (e:Ending) (c:I):Prop:=
 ∃h a f d b g,(a=U x.1/\b=U x.2)/\e=t' (.agg (_j h a f d b g))/\xp c W 9 1 (Z h a f) a (x.1.map Lj)/\Jc c W d b g x.2/\r' W W c
theorem ux (A:Option Addr) (c B:O) (l:S JH) (W:I) (h:E' W B 4 A l (ji l)) (hB:B<=(W:O)) (hl:U l<=20000) (hok: ∀r∈l,U r.src<=4000/\U r.txt<=4000):
  xG 61 #[.slice A l c] W (oY W (bn l)):=by
 have hmm:= @run_makeMap prog;obtain⟨i0,hi,hz0,hz1,hz2⟩:=qA XM;replace hi:=T hi;replace hz0:=T hz0;replace hz1:=T hz1;replace hz2:=T hz2;have H:=T h;have M':=T hok;have hG0:G (((W (Y ixZ 102)).alloc (.map #[] 0)).ownsGroups (H:=Unit) prog 9 ((W:O)+2) 3 .i64 ((W:O)+1) 0 (.map [])):=by
  have h:=World.ownsGroups_made (H:=Unit) (W (Y ixZ 102)) prog 9 3 .i64;rw [vY] at h;exact h
 have hK0:G (F' ((W (Y ixZ 102)).alloc (.map #[] 0)) (W:O) 102 ixZ):=(F'.new W _ _).alloc _;have hB0:G (r' (W:O) W ((W (Y ixZ 102)).alloc (.map #[] 0))):=((qZ _ _).alloc (qx _) _).alloc s8 _;have hs0:G ((W:O)+2<=((W (Y ixZ 102)).alloc (.map #[] 0):O)):=by rw [Hid];simp
 have e0:ixZ= #[.slice none 0 0, .slice none 0 0]:=rfl;rw [e0] at hG0 hK0 hB0 hs0;obtain⟨R,hR⟩: ∃R,R=bn l:=⟨_,rfl⟩;rw [<-hR];replace hR:=T hR;obtain⟨cL,uK⟩: ∃cL,cL=U l:=⟨_,rfl⟩;rw [<-uK] at hl⊢;replace uK:=T uK;clear h hok;go_enter func61,ntmps61
 go_wp2_with fail;go_loopw [14] (λv14 wr=> ∃(i:O) (D:DataW Unit),v14=(i:la)/\i<=cL/\G (GD D (jl 0 (l.take i)))/\G (wr.ownsGroups prog 9 ((W:O)+2) 3 .i64 ((W:O)+1) (U (jl 0 (l.take i))) D)/\G (F' wr (W:O) 102 #[.slice none 0 0, .slice none 0 0])/\G (r' (W:O) W wr)/\G ((W:O)+2<=(wr:O))) (λv14 _=>cL-(intOf v14).toNat)
 case atStart=>exact⟨0, .map [],rfl,qp _,GD.nil,hG0,hK0,hB0,hs0⟩
 case round=>
  clear hG0 hK0 hB0 hs0;obtain⟨i,D,rfl,hin,C,n,y,d,HS⟩:=hrel;by_cases hlt:i<cL
  ·have hlt':(i:V)<(cL:V):=M
   have hi0:(0:V)<=(i:V):=M;have hil:i<U l:=by rw [<-uK.out];exact hlt
   obtain⟨ad,rfl,_,y0,y1,y2,y3⟩:=ZH (H.below (d.mono hB)) i hil;have p':=M'.out _ (zx hil);have htk:jl 0 (l.take (i+1))=jl 0 (l.take i)++(G1 l[i]).map λt=>(t,i):=by
    rw [qs,qX hil];show jl 0 (l.take i++[l[i]])=_;rw [gI,qh,jL,vZ M]
   have hpl:=Ku 0 (l.take i) (λr hr=>M'.out r (j2 hr));rw [qh,vZ M] at hpl;have N:=λW'=>T (S0 l[i] W' p'.1 p'.2);have htl:=BR l[i] p'.1 p'.2;have hts:=T (DG l[i]);unfold Fl at N;have erc:(VF l[i]).toArray= #[.int .u64 (l[i].time:V), .int .u8 (l[i].level:V), .string ⟨l[i].src.toArray⟩, .string ⟨l[i].txt.toArray⟩]:=rfl;rw [erc] at N;generalize G1 l[i]=qj at*
   generalize (⟨l[i].src.toArray⟩:ByteArray)=S1 at*
   generalize (⟨l[i].txt.toArray⟩:ByteArray)=S2 at*
   generalize (l[i].time:V)=tm at*
   generalize (l[i].level:V)=lv at*
   generalize hPi:jl 0 (l.take i)=o at*
   obtain⟨E,iv⟩: ∃E,E=U qj:=⟨_,rfl⟩;rw [<-iv] at N htl;replace htk:=T htk;replace hPi:=T hPi;replace iv:=T iv;replace N:=T N;have HBa:=T (d.alloc d.size (Y #[.int .u64 tm, .int .u8 lv, .string S1, .string S2] 45));clear erc p'
   go_wp2_with fail;refine(N.out _).out.mono ?_;rintro e w2 ⟨A20,cT,rfl,hoT,hB2⟩;have HG2:G (w2.ownsGroups prog 9 ((W:O)+2) 3 .i64 ((W:O)+1) o D):=aU n (((qZ _ _).alloc (qx _) (Y #[.int .u64 tm, .int .u8 lv, .string S1, .string S2] 45)).trans (hB2.mono s8))
   have q:r' (wr:O) wr w2:=((qZ _ _).alloc (qx _) (Y #[.int .u64 tm, .int .u8 lv, .string S1, .string S2] 45)).trans (hB2.mono s8);have Q':=T (y.below q y.lt);have Y':=T (d.trans (q.mono d.size));have S':G ((W:O)+2<=(w2:O)):=qv HS q.size;have O':=T (qi (base':=0) hoT (qp _));clear N hoT hB2 q n y d HBa HS y0 y1 y2 y3
   go_wp2_with fail;go_loopw [22] (λv22 wr=> ∃(j:O) (D:DataW Unit),v22=(j:la)/\j<=E/\G (GD D (o++(qj.take j).map λt=>(t,i)))/\G (wr.ownsGroups prog 9 ((W:O)+2) 3 .i64 ((W:O)+1) (U o+j) D)/\G (xp wr 0 9 1 (.slice A20 E cT) E (qj.map Lj))/\G (F' wr (W:O) 102 #[.slice none 0 0, .slice none 0 0])/\G (r' (W:O) W wr)/\G ((W:O)+2<=(wr:O))) (λv22 _=>E-(intOf v22).toNat)
   case atStart=>exact⟨0,D,rfl,qp _,by rw [Hid,vG,xB,jx];exact C,HG2,O',Q',Y',S'⟩
   case round=>
    clear C HG2 O' Q' Y' S';obtain⟨j,D,rfl,hjn,C,n,HT,y,d,HS⟩:=hrel;by_cases D':j<E
    ·have hlt2':(j:V)<(E:V):=M
     have hj0:(0:V)<=(j:V):=M;have L:j<U qj:=by rw [<-iv.out];exact D'
     obtain⟨adT,u,rfl,-,K,N9⟩:=(E'.zY HT).at_ D';rw [qD,qX L] at K;have hu':u=Lj qj[j]:=(zy K).symm;subst hu';have hh:(qj.take (j+1)).map (λt=>(t,i))=(qj.take j).map (λt=>(t,i))++[(qj[j],i)]:=by
      rw [qs,qX L,qg];rfl
     have hkey:=oX qj[j] (hts.out _ (zx L));unfold Lj at N9;have N6:=C.snoc qj[j] i;have N': ∀(w:I) (base:O) (e:TypeId) (v:la) (zs:S V),D.atKey (.string qj[j]) .nil=rowDatum .i64 v zs->w.ownsInts base e .i64 v zs->zs=uj (yd qj[j] (o++(qj.take j).map λt=>(t,i))):=λw base e v zs Q X=>C.look Q X;replace N':=T N';rw [jY,<-hh] at N6;generalize qj[j]=t at*
     generalize (⟨t.toArray⟩:ByteArray)=ck at*
     replace N6:=T N6;replace hh:=T hh;have hnb:U o+j<maxLen:=SJ;have hb8:(U o+j+1)*8<=140737488355328:=M;generalize hPn:U o+j=pn at*
     replace hPn:=T hPn;have hnb2:pn+1<=maxLen:=by unfold maxLen at*;omega
     replace hkey:=T hkey;clear K
     go_wp2_with (first
      |(at_lookup;refine wpList_lookup_groups _ rfl _ _ 141 rfl 9 62 3 .i64 Ir underlying141 (iA _) ((W:O)+2) ((W:O)+1) pn D rfl n hnb _ _ rfl hkey ?_;intro v zs Q ih hzl J';have hzs:=T (N'.out _ _ _ _ _ Q ih);replace Q:=T Q;replace ih:=T ih;replace J':=T J')
      |(at_builtin;refine wpList_append_own_at _ rfl _ _ 62 rfl ((W:O)+2) 3 i0 (.int .i64 0) 1 8 jj hi hz0 hz1 hz2 rfl FV _ _ _ rfl (ih.out.1.alloc _) ⟨(wr:O),0,none⟩ 1 1 [.int .i64 (i:V)] rfl rfl (cell_one_new _ _ _) (ints_oneCell .i64 [(i:V)]) M M (by have:=HS.out;simp;omega) ?_;intro v' w1 hown' d' hnil Z';have happ:=T (ih.appended hown' (WalkArith.wf_i64 M));replace d':=T d';replace Z':=T Z';clear hown' hnil)
      |(at_mapUpdate;refine wpList_mapUpdate_back _ rfl _ _ _ 141 rfl J' rfl rfl rfl ((World.grownBy_alloc _ _ _).trans d') happ SZ (Z'.imp id (λh=>⟨_,h,s8⟩)) ?_;intro w2' G' hgrow2))
     have P':=(World.grownBy_alloc wr (Y #[i] 3) _).trans d'.out;have hKM:=rP n ih P' hgrow2;have hdp:=happ.datum_pos (H:=Unit) s8;replace G':w2'.ownsGroups prog 9 ((W:O)+2) 3 .i64 ((W:O)+1) (pn+1) (D.put (.string t) (rowDatum .i64 v' (zs++[(i:V)]))):=G';rw [hdp,hzs.out] at G';have HG2:G (w2'.ownsGroups prog 9 ((W:O)+2) 3 .i64 ((W:O)+1) (U o+(j+1)) (D.put (.string t) (.slice (lits .i64 (uj (yd t (o++(qj.take j).map λt=>(t,i)))++[(i:V)])) []))):=by
      have e:U o+(j+1)=pn+1:=by have:=hPn.out;omega
      rw [Hid,e];exact G'
     have O':=T (hKM.own HT FV);have Q':=T (hKM.blk y FV);have Y':=T (d.groups ih P' hgrow2 d.size M M);have S':G ((W:O)+2<=(w2':O)):=qv HS (qv P'.size hgrow2.size);clear G' hgrow2 P' hKM hdp happ d' Z' J' ih Q N' n HT y d HS;go_roundw
     case rel=>exact⟨j+1,_,by first|rfl|simp,M,N6,HG2,O',Q',Y',S'⟩
     case measure=>simp [intOf];omega
    ·obtain rfl:j=E:=M
     have hge: ¬(j:V)<(j:V):=M;rw [qH (by rw [<-iv.out];exact qx _),<-htk.out] at C
     have hlen:U o+j=U (jl 0 (l.take (i+1))):=by rw [htk.out,qK,zH,<-iv.out]
     rw [hlen] at n;replace hlen:=T hlen
     go_wp2_with fail;go_roundw
     case rel=>exact⟨i+1,D,by first|rfl|simp,M,C,n,y,d,HS⟩
     case measure=>simp [intOf];omega
  ·obtain rfl:i=cL:=M
   have hge: ¬(i:V)<(i:V):=M;rw [qH (by rw [<-uK.out];exact qx _)] at C n
   have u':wr.ownsMap prog 9 (rowElem (H:=Unit) wr ((W:O)+2) 3 .i64) ((W:O)+1) (U (jl 0 l)) D:=by
    obtain⟨es,clock,hb,F,hs,hD,-⟩:=n.out;exact⟨es,clock,hb,F,hs,hD⟩
   have htd:=u'.tidy Ir;have hks: ∀es,D= .map es-> ∀p∈es,∃x,p.1= .string x:=by
    obtain⟨es,he,hk⟩:=u'.keysOf;intro es' I' p hp;rw [he] at I';injection I' with I'
    subst I';obtain⟨v,hv⟩:=hk p hp;obtain⟨x,-,hx,-⟩:=Maps.keyOf_str ju hv;exact⟨x,hx⟩
   have hpl:=Ku 0 l (λr hr=>M'.out r hr);have hsz:=u'.size_le;have hn2:=uK.out;have hszb:Maps.size D<=200000000:=M;have KK:=T (nO (some ((W:O)+1)) (wr (Y #[.slice none 0 0, .slice none 0 0] 102)));have KS:=T (E8 ((W:O)+1) _ D _ (wr (Y #[.slice none 0 0, .slice none 0 0] 102)) (u'.alloc _) (qv hszb SJ) M);have hkeys:=T (λss hp=>C.keys htd hks (ss:=ss) hp ((l.map G1).flatten) (λt=>(Pe 0 l t).symm));have cK:=F'.new wr 102 #[.slice none 0 0, .slice none 0 0];have q:r' (wr:O) wr ((wr (Y #[.slice none 0 0, .slice none 0 0] 102)) (Y #[.map (some ((W:O)+1))] 141)):=((qZ _ _).alloc (qx _) _).alloc s8 _;replace cK:=T (cK.alloc (Y #[.map (some ((W:O)+1))] 141));replace q:=T q;obtain⟨w9,X'⟩: ∃w9,w9=(wr (Y #[.slice none 0 0, .slice none 0 0] 102)) (Y #[.map (some ((W:O)+1))] 141):=⟨_,rfl⟩;rw [<-X'] at KS cK q;have htm:=T (λt=>(Pe 0 l t));have htsh:=T (rk 0 l);replace X':=T X';clear u' htd hks hpl hsz hn2
   go_wp2_with fail;refine KK.mono ?_;rintro e w9' ⟨rfl,rfl⟩;rw [<-X'.out];rw [vY] at KS;clear KK
   go_wp2_with fail;have hwsz:G ((wr:O)+1=(wr (Y #[.slice none 0 0, .slice none 0 0] 102):O)):=by rw [Hid,vY]
   refine KS.mono ?_;rintro e z ⟨v38,ss,rfl,hperm,ho38,hB38⟩;have hT:=hkeys.out ss hperm;obtain⟨qj,P⟩: ∃qj,qj=R1 ((l.map G1).flatten):=⟨_,rfl⟩;rw [<-P] at hT;have hlT:U ss=U qj:=by rw [<-hT,List.length_mergeSort]
   have X:=ho38;rw [hT,tW,hlT] at X;obtain⟨A38,c38,rfl⟩:=X_ X;have hTm:G (∀t∈qj,t∈(jl 0 l).map (·.1)):=λt ht=>(htm.out t).2 ((Ud _ t).1 (by rw [<-P];exact ht))
   have hRR:G (R=(qj,qj.map λt=>yd t (jl 0 l))):=by
    rw [Hid,hR.out];unfold bn Y5;rw [<-P];congr 1;exact jX λt _=>(Br t 0 l).symm
   have m':r' (wr:O) wr z:=q.trans (hB38.mono q.size);have HL:=T (λt (ht:t∈qj) w' (hw:w'.heap[(W:O)+1]? =wr.heap[(W:O)+1]?)=>Te n C (hTm.out t ht) (htsh.out t (hTm.out t ht)) w' hw);have cB:G ((W:O)+1<(wr:O)):=by have:=HS.out;rw [Hid];omega
   have hVS:G (z.heap[(W:O)+1]? =wr.heap[(W:O)+1]?):=m'.block _ cB.out;have HJ0:G (ru z z (wr:O) none 0 0 [] none 0 0 []):=⟨cK.below hB38 cK.lt,qP _ _ _ _,qP _ _ _ _,qE.refl _ _⟩;have HTS:=T (qi (base':=0) X (qp _));have HKS:=T (y.below m' y.lt);have HBS:=T (d.trans (m'.mono d.size));have hBS':=T m';have hTl:G (U qj<=200000000):=by
    have h1:=PE ((l.map G1).flatten) [];have h2:U ((l.map G1).flatten)=U ((jl 0 l).map (·.1)):=by
     rw [dC]
    have h3:=Ku 0 l (λr hr=>M'.out r hr);rw [Hid,P];unfold R1;rw [h2,zH,zF] at h1;have:=uK.out;omega
   obtain⟨m,s⟩: ∃m,m=U qj:=⟨_,rfl⟩;rw [<-s] at HTS⊢;have hmb2:m<=200000000:=by rw [s];exact hTl.out
   obtain⟨i1,hi1,hy0,hy1,hy2⟩:=qA XJ;replace hi1:=T hi1;replace hy0:=T hy0;replace hy1:=T hy1;replace hy2:=T hy2;obtain⟨i2,hi2,hx0,hx1,hx2⟩:=qA BE;replace hi2:=T hi2;replace hx0:=T hx0;replace hx1:=T hx1;replace hx2:=T hx2;replace s:=T s;replace P:=T P;obtain⟨g,hw0⟩: ∃g,g=wr:=⟨_,rfl⟩;subst hw0;have HB8:=T HJ0.blk;clear KS hperm ho38 hB38 hT hlT X cK q hkeys y d m' htsh
   go_wp2_with fail;go_loopw [40] (λv40 wr=> ∃(j cx cy:O) (Ax Ay:Option Addr) (vs:S la),v40=(j:la)/\j<=m/\G (ru z wr g Ax j cx (qj.take j) Ay j cy vs)/\G (U vs=j/\ ∀(i:O) (t:S AB),(qj.take j)[i]? =some t-> ∃A c,vs[i]? =J (.slice A (U (yd t (jl 0 l))) c)/\xp g ((W:O)+2) 3 1 (.slice A (U (yd t (jl 0 l))) c) (U (yd t (jl 0 l))) ((yd t (jl 0 l)).map NV))) (λv40 _=>m-(intOf v40).toNat)
   case atStart=>exact⟨0,0,0,none,none,[],rfl,qp _,HJ0,⟨rfl,λi t h=>by simp at h⟩⟩
   case round=>
    clear HJ0;obtain⟨j,cx,cy,Ax,Ay,vs,rfl,hjm,f,HV⟩:=hrel;by_cases D':j<m
    ·have hlt2':(j:V)<(m:V):=M
     have hj0:(0:V)<=(j:V):=M;have L:j<U qj:=by rw [<-s.out];exact D'
     obtain⟨adT,u,rfl,-,K,N9⟩:=(E'.zY (Kd HTS f.jZ HB8 FV)).at_ D';rw [qD,qX L] at K;have hu':u=Lj qj[j]:=(zy K).symm;subst hu';have hh:qj.take (j+1)=qj.take j++[qj[j]]:=by rw [qs,qX L];rfl
     have hLj:=T (HL.out qj[j] (zx L));unfold Lj at N9;obtain⟨ck,U'⟩: ∃ck,ck=(⟨qj[j].toArray⟩:ByteArray):=⟨_,rfl⟩;rw [<-U'] at N9 hLj;have hSv:G (Lj qj[j]= .string ck):=by rw [Hid,U'];rfl
     generalize qj[j]=t at*
     have b0:i' wr (g:O)=J (.slice Ax j cx):=f.blk.cell 0;have hq1:j+1<=maxLen:=SJ;have hq2:(j+1)*16<=140737488355328:=M;have hq3:(j+1)*24<=140737488355328:=M;have hq4:(z:O)<=(wr (Y #[.string ck] 9):O):=qv f.jZ.size s8;have hmap:G (∀cY,qE [(g:O)] z cY->cY.heap[(W:O)+1]? =g.heap[(W:O)+1]?):=λcY hV=>
      (hV.block _ (by have:=hBS'.size;have:=cB.out;omega) (by rw [qy];have:=cB.out;omega)).trans hVS.out
     replace U':=T U';replace hh:=T hh;clear K
     go_wp2_with (first
      |(at_builtin;refine qF _ rfl (.tmp 45) (.tmp 47) 99 rfl z 9 i1 (.string "".toUTF8) 1 16 jD hi1 hy0 hy1 hy2 rfl M Ax j cx _ rfl (f.ox.alloc _) ((wr:O)+1) (some ⟨wr,0,none⟩) 1 1 [.string ck] rfl (zU wr _ _) (IB rfl) hq1 hq2 hq4 ?_;intro A4 c4 w4 ho4 hg4 hs4;rw [<-hSv.out] at ho4;obtain⟨⟨k0,k0f⟩,hJ4⟩:=f.l6 _ hg4 ho4;have b1:i' (w4.setCell ⟨g,0,none⟩ (.slice A4 (j+1) c4)) ⟨g,1,none⟩=J (.slice Ay j cy):=hJ4.blk.cell 1;have iL:=T hJ4;clear ho4 hg4 hs4 hJ4)
      |(at_lookup;obtain⟨Av,cv,hrun,OX⟩:=hLj.out _ (hmap.out _ iL.jZ);replace OX:=T OX;refine Ui _ rfl _ _ 141 rfl _ _ _ rfl rfl hrun ?_;clear hrun)
      |(at_builtin;refine qF _ rfl (.tmp 51) (.tmp 55) 100 rfl z 62 i2 (.slice none 0 0) 1 24 underlying100 hi2 hx0 hx1 hx2 rfl M Ay j cy _ rfl (iL.oy.alloc _) ((w4:O)+1) (some ⟨w4,0,none⟩) 1 1 [.slice Av (U (yd t (jl 0 l))) cv] rfl (Gl w4 _ _ _ _) (IB rfl) hq1 hq3 (qv iL.jZ.size s8) ?_;intro A6 c6 w6 ho6 hg6 hs6;obtain⟨⟨k1,k1f⟩,hJ6⟩:=iL.l7 _ hg6 ho6;have HJ6:=T hJ6;clear ho6 hg6 hs6 hJ6))
     have HV2:G (U (vs++[Value.slice Av (U (yd t (jl 0 l))) cv])=j+1/\ ∀(i:O) (ln:S AB),(qj.take (j+1))[i]? =some ln-> ∃A c,(vs++[Value.slice Av (U (yd t (jl 0 l))) cv])[i]? =J (.slice A (U (yd ln (jl 0 l))) c)/\xp g ((W:O)+2) 3 1 (.slice A (U (yd ln (jl 0 l))) c) (U (yd ln (jl 0 l))) ((yd ln (jl 0 l)).map NV)):=by
      obtain⟨h1,h2⟩:=HV.out;have htl:U (qj.take j)=j:=by rw [qh];have:=s.out;omega
      refine⟨by rw [qK,h1];rfl,λi ln hi=> ?_⟩
      rw [hh.out] at hi;rcases jE i j with h|h
      ·rw [q_ M] at hi
       obtain⟨A,c,a,b⟩:=h2 i ln hi;exact⟨A,c,by rw [q_ M];exact a,b⟩
      ·rw [qm M,htl] at hi
       have h0:i-j=0:=by
        rcases zA (i-j) with h|h
        ·exact h
        ·rw [qO SZ] at hi;cases hi
       rw [h0] at hi;have e:t=ln:=by simpa using hi
       subst e;exact⟨Av,cv,by rw [qm M,h1,h0];rfl,OX.out⟩
     have HJ7:=HJ6;rw [<-hh.out] at HJ7;clear f HV iL HJ6 OX hLj hmap b0 b1 k0 k0f k1 k1f;go_roundw
     case rel=>exact⟨j+1,c4,c6,A4,A6,_,by first|rfl|simp,M,HJ7,HV2⟩
     case measure=>simp [intOf];omega
    ·obtain rfl:j=m:=M
     have hge: ¬(j:V)<(j:V):=M;rw [qH (by rw [<-s.out];exact qx _)] at f HV
     have b0:i' wr (g:O)=J (.slice Ax j cx):=f.blk.cell 0;have b1:i' wr ⟨g,1,none⟩=J (.slice Ay j cy):=f.blk.cell 1;have z':=T (f.jZ.blk HKS (by rw [qy];have:=cB.out;omega))
     go_wp2_with (first|(refine qC rfl 102 _ _ rfl W (_j Ax j cx Ay j cy) rfl rfl 102 #[.slice none 0 0, .slice none 0 0] z'.out Yg rfl (fK _ _ _ _ _ _) ?_))
     refine qW (GL rfl _ _ W (_j Ax j cx Ay j cy) rfl (qN _ W 102 _ (_j Ax j cx Ay j cy) (0,0) _ (z'.row _) Xx rfl Yg)) rfl ?_;rw [hRR.out];have hszS:(W:O)<=(z:O):=HBS.size;refine⟨Ax,j,cx,Ay,j,cy,⟨s.out,by rw [zH];exact s⟩,rfl,Kp (qi f.ox hszS) z' _ FV,⟨vs,Kp (qi f.oy hszS) z' _ FV,by rw [zH];exact s.symm,λi l' hi=> ?_⟩,zu (HBS.trans (f.jZ.below (λk hk=>by rw [qy.1 hk];have:=cB.out;omega) hszS)) (qx _) _⟩
     obtain⟨t,ht,rfl⟩: ∃t,qj[i]? =some t/\yd t (jl 0 l)=l':=by
      rw [qD] at hi;cases hx:qj[i]?with
      |none=>rw [hx] at hi;cases hi
      |some t=>rw [hx] at hi;exact⟨t,rfl,by simpa using hi⟩
     obtain⟨A',c',a,b⟩:=HV.out.2 i t ht;exact⟨A',c',a,Kp (qi (Kd (qG b hBS') f.jZ HB8 FV) M) z' _ FV⟩
end
section
open Go.RowKit
variable {E:TypeId}
theorem rY: ∀(l:S JH) (i t v:O) (h:i<U l),((ji l).set (i*4) (.int .u64 (t:V))).set (i*4+1) (gR (v:V))=ji (l.set i ⟨t,v,l[i].src,l[i].txt⟩)
 |a::l,0,t,v,_=>rfl
 |a::l,i+1,t,v,h=>by
  have b:=rY l i t v (by simpa using h)
  have h4:U (VF a)=4:=rfl;rw [show ji (a::l)=VF a++ji l by simp [ji],qV,show∀m,ji (a::m)=VF a++ji m from λm=>by simp [ji],Qh _ _ (by rw [h4];omega),Qh _ _ (by rw [h4];omega),h4,show(i+1)*4-4=i*4 by omega,show(i+1)*4+1-4=i*4+1 by omega]
  rw [List.getElem_cons_succ,b]
def IE (ts:S O) (ls:qn) (i:O) (r:JH):JH:={r with time:=ts.getD i 0,level:=(ls.getD i 0).toNat}
def kL (ts:S O) (ls:qn) (k:O) (l:S JH):S JH:=l.mapIdx λi r=>if i<k then IE ts ls i r else r
theorem oZ (ts:S O) (ls:qn) (l:S JH):kL ts ls 0 l=l:=by
 unfold kL;apply zm;intro j;rw [yE];cases l[j]? <;>simp
theorem sV (ts:S O) (ls:qn) (l:S JH):kL ts ls l l=tX ts ls l:=by
 unfold kL tX;apply zm;intro j;rw [yE,yE];rcases jE j (U l) with h|h
 ·rw [qX h];simp [h,IE]
 ·rw [qO h];rfl
theorem sY (ts:S O) (ls:qn) (k:O) (l:S JH):U (kL ts ls k l)=U l:=List.length_mapIdx
theorem oJ (ts:S O) (ls:qn) (k:O) (l:S JH) (h:k<U l) (b:k<U (kL ts ls k l)):(kL ts ls k l).set k ⟨ts.getD k 0,(ls.getD k 0).toNat,(kL ts ls k l)[k].src,(kL ts ls k l)[k].txt⟩=kL ts ls (k+1) l:=by
 have e:(kL ts ls k l)[k]=l[k]:=by simp [kL]
 rw [e];apply zm;intro j;rw [vD];by_cases a:k=j
 ·subst a;rw [qk rfl,qk b];unfold kL;rw [yE,qX h];simp [IE]
 ·rw [qJ a];unfold kL;rw [yE,yE];cases l[j]?with
  |none=>rfl
  |some r=>
   simp only [Za];by_cases h1:j<k
   ·rw [qk h1,qk M]
   ·rw [qJ h1,qJ M]
theorem _b (w:I) {p q:Addr} (h:q.block≠p.block) (u:la):i' (w.setCell p u) q=i' w q:=zw (jT w p u q.block h)
theorem rK (l:S O) (k:O) (h:k<U l):(l.take k).sum+l[k]<=l.sum:=by
 have e:l.take (k+1)=l.take k++[l[k]]:=by rw [qs,qX h];rfl
 have h2:=zo List.sum (QG (k+1) l);rw [QE,e,QE] at h2;simp at h2;omega
def Bi (W:I) (r:V×S JH) (e:Ending) (a:I):Prop:=
 ∃A n c,n=U r.2/\e=t' (BA #[Z A n c,e' r.1])/\xp a W 45 4 (Z A n c) n (ji r.2)/\r' W W a
theorem GI (W:I) (base g k:O) (x:Ft) (ht:Pl W) (h:Bdy W base g x) (ok:Tc x) (hk:k<U x.JB) (hfr: ∀f∈x.JB,U f<=100000000):
  xG 115 #[mJ g,k] W (Bi W (V5 x k)):=by
 obtain⟨A0,ih,c0,A1,n1,c1,At,cL,ct,Al,iv,cl,Ax,nx,cx,Ay,ny,cy,Af,nf,cf,v9,⟨e0,e1,et,el,ex,ey,ef⟩,hb,h1,h2,h3,h4,h5,h6,h7⟩:=h;obtain⟨R,r⟩:=zn (V5 x k);rw [<-r];unfold V5 at r;dsimp only at r;have hkf:k<nf:=M;obtain⟨ad,fr,Ai,ni,ci,hA,-,hx,hcell,hnc,hcm,N'⟩:=h6.XB.row hkf;subst hA;have hfg:x.JB.getD k []=fr:=by rw [qd,hx];rfl
 rw [hfg] at r;have hfl:=hfr fr (zQ hx);have U':=N'.len;have F:=DK Ai ci (W:O) fr W ht (by rw [U'];exact N') (qx _) hfl M hcm;rw [U'] at F r;have hrl:=uA fr;unfold Bf at F;generalize hH fr=rb at*;obtain⟨E,J',kn⟩:=rb;dsimp only at r F hrl;have u':k<U x.dir.counts:=by rw [<-ok.JB];exact hk
 have hck:x.dir.counts.getD k 0=x.dir.counts[k]:=by rw [qd,qX u'];rfl
 rw [hck] at r;obtain⟨N9,u0,hA0,-,P',D'⟩:=(E'.zY h1).at_ (show k<ih by omega);rw [qD,qX u'] at P';have hu0':u0=NV x.dir.counts[k]:=(zy P').symm;subst hu0';unfold NV at D';have p':=rK x.dir.counts k u';have hsum:=ok.sum;have hct20:=ok.small _ (zx u');generalize x.dir.counts[k]=cn at*;have q8:i' W ⟨g,8,none⟩=J (Z (some ad) nf cf):=hb.cell 8;have Q:=T (λW' (P:r' (W:O) W W')=>And.intro (hb.below P hb.lt) (And.intro (qG h1 P) (And.intro (qG h2 P) (And.intro (qG h3 P) (And.intro ((P.cell (p:=ad.add k) (yM hcell)).trans hcell) ((P.cell (p:=N9.add k) (yM D')).trans D'))))));replace r:=T r;replace F:=T F;have hkf':=j' k nf;have hk0:=xi k;have hkn0:=j' k ih;have HG:=T hb.lt;have hn0k:k<=ih:=M;have hcap0:=jC h1;have hn0b:ih<=20000:=by have:=ok.few;omega
 have G':=T ok;have hnts:=T et;have hnls:=T el;clear ht h1 h2 h3 h4 h5 h6 hb hfg hx N' P' hck hfr e0 e1 ex ey ef ok et el U';subst hA0;go_in;go_wp2_with fail;refine F.mono ?_;rintro e X ⟨A1',c1',rfl,hf⟩;have B:=T hf.2;have HO1:=T hf.1;clear F hf q8;obtain⟨-,-,-,-,x1,-⟩:=Q X B.out;by_cases v:E=0
 case neg=>
  have ln:=T (r.out.trans (qk v));have hEz:(E==0)=false:=by simpa using v
  have hEn:(E !=0)=true:=by simpa using v
  replace v:=T v;clear r;go_wp2_with fail;go_ret2;rw [ln.out];exact⟨none,0,0,rfl,rfl,qP _ _ _ _,B⟩
 subst v;have w:=r.out;rw [qJ s8] at w;have q8:i' X ⟨g,8,none⟩=J (Z (some ad) nf cf):=(Q X B).1.cell 8;by_cases m':kn<ni
 ·have ln:=T (w.trans (qk m'));have hlt':=j' kn ni;clear r w;go_wp2_with fail;go_ret2;rw [ln.out];exact⟨none,0,0,rfl,rfl,qP _ _ _ _,B⟩
 rw [qJ m'] at w;have hlt':=vc kn ni;have hh:=UE false A1' J' c1' X J' X (E'.zY HO1) (qx _) M;unfold gZ at hh;generalize sc false J'=rr at*;obtain⟨E2,l⟩:=rr;dsimp only at w hh;replace w:=T w;replace hh:=T hh;clear r HO1;go_wp2_with fail;refine hh.mono ?_;rintro e N ⟨A9,c9,rfl,ho2,hB2⟩;have H:=T (B.trans (hB2.mono B.size));have HO2:=T (qi ho2 B.size);clear hh ho2 hB2 x1 q8;by_cases v:E2=0
 case neg=>
  have ln:=T (w.out.trans (qk v));have hEz:(E2==0)=false:=by simpa using v
  have hEn:(E2 !=0)=true:=by simpa using v
  replace v:=T v;clear w;go_wp2_with fail;go_ret2;rw [ln.out];exact⟨none,0,0,rfl,rfl,qP _ _ _ _,H⟩
 subst v;have D:=w.out;rw [qJ s8] at D;generalize C:U l=o at*;have q0:i' N g=J (Z (some N9) ih c0):=(Q N H).1.cell 0;obtain⟨-,-,-,-,-,x0⟩:=Q N H.out;by_cases I':o=cn
 case neg=>
  have ln:=T (D.trans (qk I'));have hne:((o:V) !=(cn:V))=true:=SZ;clear w D;go_wp2_with fail;go_ret2;rw [ln.out];exact⟨none,0,0,rfl,rfl,qP _ _ _ _,H⟩
 rw [qJ (by simpa using I')] at D;subst I';replace D:=T D;replace C:=T C;clear w;have z':=Gi N g N ih c0 k (some N9) x.dir.counts q0 (E'.zY (Q N H).2.1) M hn0k hcap0.1 (λa ha=>qv (G'.small a ha) FV);generalize (x.dir.counts.take k).sum=n at*;replace z':=T z';have hfsl:n+o<=20000:=M;replace p':=T p';go_wp2_with fail;refine z'.mono ?_;rintro e w' ⟨rfl,rfl⟩;clear z' x0 q0;go_wp2_with fail;go_loopw [67] (λOX wr=> ∃i:O,OX=(i:la)/\i<=o/\G (xp wr (W:O) 45 4 (Z A9 o c9) o (ji (kL (x.times.drop n) (x.levels.drop n) i l)))/\G (r' (W:O) W wr)) (λOX _=>o-(intOf OX).toNat)
 ·exact⟨0,rfl,qp _,by rw [Hid,oZ];exact HO2,H⟩
 ·clear HO2 H;obtain⟨i,rfl,hin,y,HB⟩:=hrel;by_cases m':i<o
  ·have hlt':=j' i o;have hi0:=xi i;obtain⟨m,cap,hv,-,-⟩:=y.form (show 0<o by omega);injection hv with hA9 hq1 hq2;clear hq1 hq2;subst hA9;obtain⟨s,hs⟩:=zn (n+i);have X':s<U x.times:=by rw [G'.times];have:=p'.out;omega
   have N6:s<U x.levels:=by rw [G'.levels];have:=p'.out;omega
   have hsnt:s<cL:=by rw [hnts.out];exact X'
   have hsnl:s<iv:=by rw [hnls.out];exact N6
   obtain⟨kb,-,ot,ol,-,-⟩:=Q wr HB.out;obtain⟨z,u,rfl,-,hu,S'⟩:=(E'.zY ot).at_ hsnt;rw [qD,qX X'] at hu;have hu':u=V64 x.times[s]:=(zy hu).symm;subst hu';obtain⟨A,u2,rfl,-,M',Z'⟩:=(E'.zY ol).at_ hsnl;rw [qD,qX N6] at M';have hu2':u2=B8 x.levels[s]:=(zy M').symm;subst hu2';have hg1:(x.times.drop n).getD i 0=x.times[s]:=by rw [qd,jt,<-hs,qX X'];rfl
   have hg2:(x.levels.drop n).getD i 0=x.levels[s]:=by rw [qd,jt,<-hs,qX N6];rfl
   have iL:i<U (kL (x.times.drop n) (x.levels.drop n) i l):=by rw [sY,C.out];exact m'
   have ck:=oJ (x.times.drop n) (x.levels.drop n) i l (by rw [C.out];exact m') iL;rw [hg1,hg2] at ck;have cB:=rY (kL (x.times.drop n) (x.levels.drop n) i l) i x.times[s] x.levels[s].toNat iL;rw [ck] at cB;unfold V64 at S';unfold B8 at Z';generalize kL (x.times.drop n) (x.levels.drop n) i l=uK,x.times[s]=qj,x.levels[s].toNat=L at*;have hgo0:=VQ y (show i*4<o*4 by omega);have hgo1:=VQ y (show i*4+1<o*4 by omega);have p1:=Uh (k:=i*4) y (.int .u64 (qj:V));have hgp1:=VQ p1 (show i*4+1<o*4 by omega);have p2:=Uh (k:=i*4+1) p1 (gR (L:V));rw [cB] at p2;obtain⟨tm0,hM1⟩: ∃t:V,(ji uK)[i*4]? =J (.int .u64 t):=⟨_,kg uK i 0 iL M⟩;obtain⟨lv0,O'⟩: ∃t:V,(ji uK)[i*4+1]? =J (gR t):=⟨_,kg uK i 1 iL M⟩;rw [hM1] at hgo0;rw [O'] at hgo1;rw [Z_ M,O'] at hgp1;obtain⟨y0_,yf0_⟩:=hgo0;obtain⟨y1_,yf1_⟩:=hgp1;have y0:i' wr.drew ⟨m,i*4,none⟩=J (.int .u64 tm0):=y0_;have yf0:wr.drew.frozen? ⟨m,i*4,none⟩=false:=yf0_;have y1:i' (wr.drew.setCell ⟨m,i*4,none⟩ (.int .u64 (qj:V))) ⟨m,i*4+1,none⟩=J (gR lv0):=y1_;have yf1:(wr.drew.setCell ⟨m,i*4,none⟩ (.int .u64 (qj:V))).frozen? ⟨m,i*4+1,none⟩=false:=yf1_;clear y0_ yf0_ y1_ yf1_;have ng:m≠g:=by rintro rfl;exact qT y kb FV _ (by simp [K']) rfl
   have nt_:m≠z.block:=λe=>xz y ot FV m (by simp [K']) (by simp [K',e]);have nl_:m≠A.block:=λe=>xz y ol FV m (by simp [K']) (by simp [K',e]);have hBs:G (r' (W:O) W ((wr.drew.setCell ⟨m,i*4,none⟩ (.int .u64 (qj:V))).setCell ⟨m,i*4+1,none⟩ (gR (L:V)))):=by
    have Q':=(FO y).1;exact(HB.drew.setCell (p:=⟨m,i*4,none⟩) Q' _).setCell (p:=⟨m,i*4+1,none⟩) Q' _
   have P2:G (xp ((wr.drew.setCell ⟨m,i*4,none⟩ (.int .u64 (qj:V))).setCell ⟨m,i*4+1,none⟩ (gR (L:V))) (W:O) 45 4 (Z m o c9) o (ji (kL (x.times.drop n) (x.levels.drop n) (i+1) l))):=p2;have s4:i' wr ⟨g,4,none⟩=J (Z (some z) cL ct):=kb.cell 4;have s5:i' wr ⟨g,5,none⟩=J (Z (some A) iv cl):=kb.cell 5;have Y':G (∀(cY:I) (j:O) (u:la),i' cY ⟨g,4,none⟩=J (Z (some z) cL ct)/\i' cY ⟨g,5,none⟩=J (Z (some A) iv cl)/\i' cY (z.add s)=J (.int .u64 (qj:V))/\i' cY (A.add s)=J (gR (L:V))->i' (cY.setCell ⟨m,j,none⟩ u) ⟨g,4,none⟩=J (Z (some z) cL ct)/\i' (cY.setCell ⟨m,j,none⟩ u) ⟨g,5,none⟩=J (Z (some A) iv cl)/\i' (cY.setCell ⟨m,j,none⟩ u) (z.add s)=J (.int .u64 (qj:V))/\i' (cY.setCell ⟨m,j,none⟩ u) (A.add s)=J (gR (L:V))):=λcY j u ⟨a,b,c,d⟩=>
    ⟨(_b cY (p:=⟨m,j,none⟩) (q:=⟨g,4,none⟩) (Zi ng) u).trans a,(_b cY (p:=⟨m,j,none⟩) (q:=⟨g,5,none⟩) (Zi ng) u).trans b,(_b cY (p:=⟨m,j,none⟩) (q:=z.add s) (by rw [xF];exact Zi nt_) u).trans c,(_b cY (p:=⟨m,j,none⟩) (q:=A.add s) (by rw [xF];exact Zi nl_) u).trans d⟩
   have hws:DW ((n:V)+(i:V))=(s:V):=by rw [hs,qU];omega
   have hws2:(n:V)+(i:V)=(s:V):=M;have hs0:=xi s;have hsnt':=j' s cL;have hsnl':=j' s iv;revert hs cB ck hws2;refine yb ?_;intro hs cB ck hws2;clear hM1 O' hgo1 p1 p2;clear kb ot ol y cB ck ng nt_ nl_;clear iL hu M' hg1 hg2;go_wp2_with fail;refine zv 30 (λcY=>i' cY ⟨g,4,none⟩=J (Z (some z) cL ct)/\i' cY ⟨g,5,none⟩=J (Z (some A) iv cl)/\i' cY (z.add s)=J (.int .u64 (qj:V))/\i' cY (A.add s)=J (gR (L:V))) AL ⟨s4,s5,S',Z'⟩ (λd'=> ?_);generalize wr.drew=wd at*;refine zq [0,1,2,3,4,5] (a':= ?_) ?_;refine zq [6,7,8,9,10,11] (a':= ?_) ?_;refine zq [12,13,14,15,16,17] (a':= ?_) ?_;refine zq [18,19,20,21,22,23] (a':= ?_) ?_;refine zq [24,25] (a':= ?_) ?_;refine IA 26 rfl AL SQ (λK cK=> ?_);go_simp;skip;refine cK _ _ ((Y' _ _ _ d')) (λd'=> ?_);clear cK K;try simp only [Act.put,qQ,qY,qV]
   refine zq [27,28] (a':= ?_) ?_;refine IA 29 rfl AL SQ (λK cK=> ?_);go_simp;skip;refine cK _ _ ((Y' _ _ _ d')) (λd'=> ?_);clear cK K;try simp only [Act.put,qQ,qY,qV]
   refine zV AL ?_ _;clear d' y0 yf0 y1 yf1 s4 s5 S' Z' Y';generalize (wd.setCell ⟨m,i*4,none⟩ (.int .u64 (qj:V))).setCell ⟨m,i*4+1,none⟩ (gR (L:V))=w5 at*;go_wp2_with fail;refine xk ?_;exact⟨i+1,xg,M,P2,hBs⟩
  ·obtain rfl:i=o:=M;have Q':=vc i i;have HF:G (xp wr (W:O) 45 4 (Z A9 i c9) i (ji (tX (x.times.drop n) (x.levels.drop n) l))):=by
    have h:=y.out;rw [<-C.out,sV,C.out] at h;exact h
   have hfl2:G (U (tX (x.times.drop n) (x.levels.drop n) l)=i):=by
    rw [Hid,<-sV,sY];exact C.out
   clear y;go_wp2_with fail;go_ret2;rw [D.out];exact⟨A9,i,c9,hfl2.symm,rfl,HF,HB⟩
theorem Dh (b:qn) (size:O): ∀(l:S O) (n:O) (c:Cu) (a:S qn),(yr b size n l c a).2.1.length<=U a+n
 |[],n,c,a=>by
  rw [YF];split
  ·exact qp _
  ·exact Jk _ _
 |k::t,n,c,a=>by
  unfold yr;split
  ·exact qp _
  ·split
   ·exact qp _
   ·have h1:=Dh b size t (n-size) (jW b k c).2 (QV (jW b k c).1 (min size n) true ⟨0,0⟩ a).2
    have h2:=kW (jW b k c).1 (min size n) true ⟨0,0⟩ a;omega
theorem TE (size:V) (b:qn):(ab size b).2.1.length<=1048576:=by
 unfold ab;split
 ·exact qp _
 ·dsimp only;have h1:=vX b 1048576 ⟨0,0⟩ M;have h2:=Dh b size.toNat (Q5 b (((jU b 1048576 ⟨0,0⟩).1+size.toNat-1)/size.toNat) (jU b 1048576 ⟨0,0⟩).2 []).1 (jU b 1048576 ⟨0,0⟩).1 (Q5 b (((jU b 1048576 ⟨0,0⟩).1+size.toNat-1)/size.toNat) (jU b 1048576 ⟨0,0⟩).2 []).2 [];rw [zF] at h2;omega
theorem DH (c:O): ∀(n:O) (b:qn) (a:S (S O)),(yR c n b a).2.length<=U a+n
 |0,b,a=>by
  unfold yR;split
  ·exact qx _
  ·exact qp _
 |n+1,b,a=>by
  rw [kN];split
  ·exact qp _
  ·split
   ·exact qp _
   ·have:=DH c n (b.drop (B6 c b).2.2) (a++[(B6 c b).2.1])
    rw [qK,zJ] at this;omega
theorem Tr (size:V) (a:O) (b:qn):(r7 size a b).2.1.length<=1048576/\(r7 size a b).2.2.length<=1048576:=by
 unfold r7;have h:=TE size b;split
 ·exact⟨qp _,qp _⟩
 ·dsimp only;split
  ·exact⟨qp _,qp _⟩
  ·split
   ·exact⟨qp _,qp _⟩
   ·refine⟨h, ?_⟩;have:=DH (a:V).toNat (ab size b).2.1.length (b.drop (ab size b).2.2) [];rw [zF] at this;dsimp only;omega
theorem rU (o:Lx) (b:qn):(Zo o b).2.vO.length<=1048576/\(Zo o b).2.lists.length<=1048576:=by
 unfold Zo;dsimp only;have a:U ([]:S qn)<=1048576/\U ([]:S (S O))<=1048576:=⟨qp _,qp _⟩;split
 ·exact a
 ·split
  ·exact a
  ·split
   ·exact a
   ·split
    ·exact a
    ·split
     ·exact a
     ·split
      ·exact a
      ·exact Tr _ _ _
theorem rD {l:S JH} (h:kF l=0):U l<=20000/\(∀r∈l,U r.src<=4000/\U r.txt<=4000)/\hX l<=1048576:=by
 unfold kF at h;split at h
 ·cases h
 ·rename_i b;refine⟨M,λr a=> ?_,M⟩;have h2: ¬l.any X8=true:=λe=>b (.inr (.inl e));rw [ZQ] at h2;have h3: ¬X8 r=true:=λe=>h2 ⟨r,a,e⟩;unfold X8 at h3;simp only [J3,zd,not_or] at h3;omega
theorem Nj (x:Ft) (k:O) (h:(V5 x k).1=0):(V5 x k).2.length=x.dir.counts.getD k 0:=by
 unfold V5 at h⊢;dsimp only at h⊢;split at h
 ·rename_i h1;exact absurd h h1
 ·rename_i h1;rw [qJ h1];split at h
  ·cases h
  ·rename_i h2;rw [qJ h2];split at h
   ·rename_i h3;exact absurd h h3
   ·rename_i h3;rw [qJ h3];split at h
    ·cases h
    ·rename_i h4;rw [qJ h4];show(tX _ _ _).length=_;unfold tX;rw [List.length_mapIdx];exact yQ h4
theorem BI (t:qn): ∀(i:O) (l:S JH),U (pF t i l)<=U l
 |i,[]=>qx _
 |i,r::l=>by
  rw [show pF t i (r::l)=if t∈G1 r then i::pF t (i+1) l else pF t (i+1) l from rfl,qf]
  have:=BI t (i+1) l;split
  ·rw [qf];omega
  ·omega
theorem Nx (l:S JH) (a: ∀r∈l,U r.src<=4000/\U r.txt<=4000):(bn l).1.length<=10000*U l/\(bn l).2.length<=10000*U l/\ ∀x∈(bn l).2,U x<=U l:=by
 have h1:=PE ((l.map G1).flatten) [];have h2:=Ku 0 l a;have h3:U ((l.map G1).flatten)=U (jl 0 l):=by rw [<-dC 0 l,zH]
 rw [zF,h3] at h1;have h4:U (Y5 l)<=10000*U l:=by unfold Y5 R1;omega
 refine⟨h4,by show((Y5 l).map _).length<=_;rw [zH];exact h4,λx b=> ?_⟩;obtain⟨t,_,rfl⟩:=jB.1 b;exact BI t 0 l
theorem Tt (x:Ft) (k:O) (a:S JH):C0 x 0 k a=if kF a≠0 then(6,[]) else if(x.vO,x.lists)≠bn a then(15,[]) else(0,a):=rfl
theorem Tw (x:Ft) (f k:O) (a:S JH):C0 x (f+1) k a=if(V5 x k).1≠0 then((V5 x k).1,[]) else C0 x f (k+1) (a++(V5 x k).2):=rfl
theorem rF (W:I) (base g:O) (x:Ft) (ht:Pl W) (h:Bdy W base g x) (ok:Tc x) (hfr: ∀f∈x.JB,U f<=100000000) (ht2:U x.vO<=1048576) (hl2:U x.lists<=1048576):
  xG 80 #[mJ g] W (Bi W (th x)):=by
 have HBD:=T (λcL (z:r' (W:O) W cL)=>h.below z);obtain⟨A0,n0,c0,A1,n1,c1,At,nt,ct,Al,nl,cl,Ax,nx,cx,Ay,ny,cy,Af,n,cf,v9,⟨e0,e1,et,el,ex,ey,ef⟩,Q,-,-,-,h4,h5,-,-⟩:=h;have HWB:=T (λcL (z:r' (W:O) W cL)=>And.intro (Q.below z Q.lt) (And.intro (qG h4 z) (h5.below z)));have HT:=T (λcL (z:r' (W:O) W cL)=>ht.below z ht.pos);have q8:i' W ⟨g,8,none⟩=J (Z Af n cf):=Q.cell 8;obtain⟨R,B⟩: ∃R,R=th x:=⟨_,rfl⟩;rw [<-B];unfold th at B;rw [<-ef] at B;replace B:G (C0 x n 0 []=R):=B.symm;have z':=T ok;have HFR:=T hfr;obtain⟨i0,hi,m',OX,N'⟩:=qA PH;replace hi:=T hi;replace m':=T m';replace OX:=T OX;replace N':=T N';have hnf:n<=20000:=by have:=ok.few;have:=ok.JB;omega
 replace ef:=T ef;replace ex:=T ex;replace ey:=T ey;have hGl:=T Q.lt;clear h4 h5 Q ok hfr ht e0 e1 et el;go_enter func80,ntmps80
 go_wp2_with fail;go_loopw [4,16] (λv4 J' wr=> ∃(k f m C:O) (w:Option Addr) (i:S JH),v4=Z w m C/\J'=(k:la)/\k+f=n/\m<=20000*k/\G (m=U i)/\G (C0 x f k i=R)/\G (xp wr (W:O) 45 4 (Z w m C) m (ji i))/\G (r' (W:O) W wr)) (λ_ J' _=>n-(intOf J').toNat)
 case atStart=>exact⟨0,n,0,0,none,[],rfl,rfl,M,qp _,rfl,B,qP _ _ _ _,qZ _ _⟩
 case round=>
  clear q8 B;obtain⟨k,f,m,C,w,i,rfl,rfl,hkf,hm,v,N,P,j⟩:=hrel;by_cases hlt:k<n
  ·have hlt':(k:V)<(n:V):=M
   obtain⟨f,rfl⟩: ∃f',f=f'+1:=⟨f-1,M⟩;have ln:=GI wr base g k x (HT.out wr j) (HBD.out wr j) z' (by rw [<-ef.out];exact hlt) HFR.out
   have b:=N.out;rw [Tw] at b;have iL:=Nj x k;have hcs:x.dir.counts.getD k 0<=20000:=by
    rw [qd];cases hx:x.dir.counts[k]?with
    |none=>exact qp _
    |some a=>exact z'.small a (zQ hx)
   unfold Bi at ln;generalize V5 x k=r at*
   obtain⟨E,l⟩:=r;dsimp only at b ln iL;replace ln:=T ln;replace b:=T b;replace iL:=T iL;clear N
   go_wp2_with fail;refine ln.mono ?_;rintro e w1 ⟨A5,D,c5,cK,rfl,ho5,G'⟩;have iv:=T (j.trans (G'.mono j.size));have D':=T (qG P G');have HL1:=T (E'.zY ho5);have U':G ((W:O)<=(w1:O)):=iv.size;replace cK:=T cK;clear ln ho5 G' P j;by_cases uK:E=0
   case neg=>
    have A:G (R=(E,[])):=by rw [Hid,<-b.out,qk uK]
    have hEz:(E==0)=false:=by simpa using uK
    have hEn:(E !=0)=true:=by simpa using uK
    replace uK:=T uK;clear b
    go_wp2_with fail
    go_ret2;rw [A.out];exact⟨none,0,0,rfl,rfl,qP _ _ _ _,iv.out⟩
   subst uK;have ck:=b.out;rw [qJ s8] at ck;replace ck:=T ck;have hl20:D<=20000:=by have:=iL.out rfl;have:=cK.out;omega
   have hm1:m+D<=maxLen:=SJ;have hm2:(m+D)*48<=140737488355328:=M;have d': ∀u∈ji l,u.oneCell'=true:=λu hu=>by
    unfold ji at hu;obtain⟨x,hx,hux⟩:=List.mem_flatten.1 hu;obtain⟨t,-,rfl⟩:=jB.1 hx;exact tS t u hux
   replace d':=T d';clear b
   go_wp2_with (at_builtin;refine qF _ rfl (.tmp 28) (.tmp 29) 24 rfl (W:O) 45 i0 (.agg #[.int .u64 0,gR 0, .string "".toUTF8, .string "".toUTF8]) 4 48 QL hi m' OX N' rfl M w m C _ rfl D' w1 A5 D c5 _ rfl HL1 d' hm1 hm2 U' ?_;intro A6 c6 w4 X hg4 _hs4;have hh:=T (zG iv hg4 D' U');rw [<-pR] at X;replace X:=T X;clear hg4 _hs4)
   have hM2:G (m+D=U (i++l)):=by rw [Hid,qK,v.out,cK.out]
   clear D' iv HL1 d' U';go_roundw
   case rel=>exact⟨k+1,f,m+D,c6,A6,i++l,by first|rfl|simp,by first|rfl|simp,M,M,hM2,ck,X,hh⟩
   case measure=>simp [intOf];omega
  ·obtain rfl:k=n:=M
   obtain rfl:f=0:=M;have hge: ¬(k:V)<(k:V):=M;have b:=N.out;rw [Tt] at b;have o:=JW w C wr i wr (by rw [<-v.out];exact E'.zY P) (qx _) (by have:=v.out;omega)
   rw [<-v.out] at o;replace o:=T o;by_cases s:kF i=0
   case neg=>
    have A:G (R=(6,[])):=by rw [Hid,<-b,qk (by simpa using s)]
    have h6:kF i=6:=by
     revert s;unfold kF;split<;>simp
    rw [h6] at o;clear N b h6 s
    go_wp2_with fail;refine o.mono ?_;rintro e c ⟨rfl,F⟩;have L:=T (j.trans (F.mono j.size));clear o F
    go_wp2_with fail
    go_ret2;rw [A.out];exact⟨none,0,0,rfl,rfl,qP _ _ _ _,L.out⟩
   rw [s] at o;rw [qJ (by simpa using s)] at b
   obtain⟨ck1,ck2,-⟩:=rD s;have P':=Nx i ck2;replace b:=T b;replace s:=T s;clear N
   go_wp2_with fail;refine o.mono ?_;rintro e c ⟨rfl,F⟩;have L:=T (j.trans (F.mono j.size));have p':=T (qG P F);have hdr:r' (c:O) c c.drew:=(qZ _ _).drew;have y:=ux w C (c:O) i c.drew (by rw [<-v.out];exact(E'.zY p').drew) hdr.size ck1 ck2
   rw [<-v.out] at y;unfold oY at y;generalize bn i=bu at*
   obtain⟨bt,bl⟩:=bu;dsimp only at y P';obtain⟨kb,hx4,X'⟩:=HWB.out c.drew L.drew;have cB:i' c.drew ⟨g,6,none⟩=J (Z Ax nx cx):=kb.cell 6;have s7:i' c.drew ⟨g,7,none⟩=J (Z Ay ny cy):=kb.cell 7;have ih:G (g<(c.drew:O)):=kb.lt;replace y:=T y;have KSm:=T (λH (d:r' (c.drew:O) c.drew H) u' S' I' N6 Y' M' h3 h4 (q1:I'=U bt)=>Cl Ax Ay u' S' nx cx ny cy I' N6 Y' M' (H:O) (H:O) x.vO bt x.lists bl H (qx _) (qx _) (E'.zY (qG hx4 d)) ((X'.below d).rows) h3 h4 (by have:=ex.out;omega) (by have:=ey.out;omega) (by have:=P'.1;omega) (λa ha=>qv (z'.lists a ha) FV) (λa ha=>qv (P'.2.2 a ha) M))
   clear o F j P hx4 X' kb hdr
   go_wp2_with fail;refine zv 8 (λcY=>i' cY ⟨g,6,none⟩=J (Z Ax nx cx)/\i' cY ⟨g,7,none⟩=J (Z Ay ny cy)) AL ⟨cB,s7⟩ (λN9=> ?_)
   generalize hwd:c.drew=wd at*
   refine zq [0,1,2,3,4] (a':= ?_) ?_;refine vf 5 y ?_;rintro e H ⟨u',I',N6,S',Y',M',⟨q1,q2⟩,rfl,ho3,hi3,d⟩;refine⟨_,rfl,(⟨(d.cell (p:=⟨g,6,none⟩) ih).trans cB,(d.cell (p:=⟨g,7,none⟩) ih).trans s7⟩),λN9=> ?_⟩;subst q1;subst q2;have Q':=KSm.out H d u' S' _ N6 _ M' (E'.zY ho3) hi3.rows rfl;generalize qj:decide ((x.vO,x.lists)=(bt,bl))=dd at Q';refine IA 6 rfl AL SQ (λK hK=> ?_);go_simp
   (go_at_call 116;((refine(Q').mono ?_);rintro e w4 ⟨rfl,hh⟩))
   refine hK _ _ (⟨(hh.cell (p:=⟨g,6,none⟩) (qB ih d.size)).trans ((d.cell (p:=⟨g,6,none⟩) ih).trans cB),(hh.cell (p:=⟨g,7,none⟩) (qB ih d.size)).trans ((d.cell (p:=⟨g,7,none⟩) ih).trans s7)⟩) (λN9=> ?_);clear hK K;try simp only [Act.put,qQ,qY,qV]
   refine zq [7] (a':= ?_) ?_;refine zV AL ?_ _;subst hwd;have O':r' (c:O) c w4:=((qZ _ c).drew.trans d).trans (hh.mono d.size);have Z':=T (L.trans (O'.mono L.size));have HO4:=T (qG p' O');clear y KSm Q' ho3 hi3 d hh O' cB s7 N9 p' L;by_cases q:(x.vO,x.lists)=(bt,bl)
   ·have A:G (R=(0,i)):=by rw [Hid,<-b.out,qJ (by simpa using q)]
    rw [qw q] at qj;subst qj;replace q:=T q;clear b
    go_wp2_with fail
    go_ret2;rw [A.out];exact⟨w,m,C,v.out,rfl,HO4.out,Z'.out⟩
   ·have A:G (R=(15,[])):=by rw [Hid,<-b.out,qk q]
    rw [qc q] at qj;subst qj;replace q:=T q;clear b
    go_wp2_with fail
    go_ret2;rw [A.out];exact⟨none,0,0,rfl,rfl,qP _ _ _ _,Z'.out⟩
end
end Go.Proofs.YtfnlfpcfkbdcmaaGreatDoor
