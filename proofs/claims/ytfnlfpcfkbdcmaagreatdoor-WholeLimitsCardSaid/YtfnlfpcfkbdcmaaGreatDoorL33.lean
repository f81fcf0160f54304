import Derived.Test.YtfnlfpcfkbdcmaaGreatDoorL30
import Derived.Test.YtfnlfpcfkbdcmaaGreatDoorL31
set_option linter.unusedSimpArgs false
set_option linter.unusedVariables false
set_option maxRecDepth 100000
set_option maxHeartbeats 0
open Go.Proofs.Tryz
namespace Go.Proofs.YtfnlfpcfkbdcmaaGreatDoor
theorem Dd (b:qn): ∀(f d:Nat) (c:Cu) (a:List Nat),(Q4 b f d c a).2.err=0->(Q4 b f d c a).1.length=a.length+f
 |0,d,c,a,h=>rfl
 |f+1,d,c,a,h=>by
  unfold Q4 at h⊢;by_cases e:c.err≠0
  ·rw [qk e] at h;exact absurd h e
  ·rw [qJ e] at h⊢
   rw [Dd b f _ _ _ h,qK,zJ];omega
theorem p9 (b:qn) (n:Nat) (f:Nat) (c:Cu) (a:qn) (d:c.err≠0):xx b n f c a=(a,c):=by
 cases f with
 |zero=>rfl
 |succ f=>unfold xx;rw [qk (.inr d)]
theorem Uo (b:qn) (n:Nat): ∀(f:Nat) (c:Cu) (a:qn),(xx b n f c a).2.err=0->a.length<=n->n<a.length+f->(xx b n f c a).1.length=n
 |0,c,a,h,h1,h2=>uK
 |f+1,c,a,h,h1,h2=>by
  by_cases i:n<=a.length\/c.err≠0
  ·have e:xx b n (f+1) c a=(a,c):=by unfold xx;rw [qk i]
   rw [e] at h⊢;have:=i.resolve_right (λj=>j h);show a.length=n;omega
  ·have e:xx b n (f+1) c a=xx b n f (fC b n a c).2.2 (a++List.replicate (fC b n a c).2.1 (fC b n a c).1):=by rw [xx];rw [qJ i]
   rw [e] at h⊢;by_cases d:(fC b n a c).2.2.err=0
   ·have k:(fC b n a c).2.1<=n-a.length:=by
     have:=vX b ((n-a.length:Nat):Int) (j_ b c).2 uK;show(jU b _ _).1<=_
     omega
    have l:(fC b n a c).2.1≠0:=by
     intro h0;unfold fC at d h0;dsimp only at d h0;by_cases g:(jU b ((n-a.length:Nat):Int) (j_ b c).2).2.err=0
     ·rw [qk ⟨g, .inl h0⟩] at d
      unfold vP at d;rw [qk g] at d;cases d
     ·rw [qJ (λh=>g h.1)] at d;exact g d
    refine Uo b n f _ _ h ?_ ?_
    ·rw [qK,zT];omega
    ·rw [qK,zT];omega
   ·rw [p9 b n f _ _ d] at h
    exact absurd h d
theorem aK (n:Nat) (b:qn) (h:(ZG n b).1=0):(ZG n b).2.1.length=n/\(ZG n b).2.2.1.length=n:=by
 unfold ZG at h⊢;by_cases h1:(n:Int)<0\/20000<(n:Int)
 ·rw [qk h1] at h;cases h
 rw [qJ h1] at h⊢;dsimp only at h⊢;rw [zc] at h⊢;by_cases h2:(xx b n (n+1) (Q4 b n 0 ⟨0,0⟩ []).2 []).2.err≠0
 ·rw [qk h2] at h;exact absurd h h2
 rw [qJ h2] at h⊢;have h3:(xx b n (n+1) (Q4 b n 0 ⟨0,0⟩ []).2 []).2.err=0:=by simpa using h2
 have h4:=Uo b n _ _ _ h3 (qp _) s8;refine⟨?_,h4⟩;have h5:(Q4 b n 0 ⟨0,0⟩ []).2.err=0:=by
  apply yQ;intro h6;rw [p9 b n _ _ _ h6] at h3;exact h6 h3
 have:=Dd b n 0 _ _ h5;simpa using this
theorem Df (b:qn) (r:Nat): ∀(f:Nat) (c:Cu) (x y:List Nat),x.length=y.length->(∀a∈x,a<=r)->(∀a∈y,a<=8388608)->(Q7 b r f c x y).1.length=(Q7 b r f c x y).2.1.length/\(Q7 b r f c x y).1.length<=x.length+f/\(∀a∈(Q7 b r f c x y).1,a<=r)/\(∀a∈(Q7 b r f c x y).2.1,a<=8388608)
 |0,c,x,y,h,e,d=>⟨h,qx _,e,d⟩
 |f+1,c,x,y,h,e,d=>by
  rw [kO];split
  ·exact⟨h,by dsimp only;omega,e,d⟩
  ·have h1:=vX b (r:Int) c uK
   have h2:=vX b 8388608 (jU b r c).2 uK;have g:=Df b r f (jU b 8388608 (jU b r c).2).2 (x++[(jU b r c).1]) (y++[(jU b 8388608 (jU b r c).2).1]) (by simp [h]) (US e uK) (US d uK)
   rw [qK,zJ] at g;exact⟨g.1,uK,g.2.2⟩
structure l5 (d:Dir) (room:Nat):Prop where
 sum:d.counts.sum<=20000
 room:d.sizes.sum+d.cols+d.index=room
 len:d.counts.length=d.sizes.length
 few:d.counts.length<=20000
 small: ∀a∈d.counts,a<=20000
 sizes: ∀a∈d.sizes,a<=8388608
theorem Gz (b:qn) (d:Nat) (h:(gi b d).1=0):l5 (gi b d).2 d:=by
 unfold gi at h⊢;dsimp only at h⊢;have h1:=vX b 20000 ⟨0,0⟩ uK;generalize jU b 20000 ⟨0,0⟩=r at*;have h2:=vX b (r.1:Int) r.2 uK;generalize jU b (r.1:Int) r.2=k at*;have m:=Df b r.1 k.1 k.2 _ [] rfl s8 s8;generalize Q7 b r.1 k.1 k.2 [] []=p at*;generalize jU b 8388608 p.2.2=c at*;generalize jU b 8388608 c.2=i at*;by_cases h3:(PW b i.2).err≠0
 ·rw [qk h3] at h;exact absurd h h3
 rw [qJ h3] at h⊢;by_cases h4:0∈p.1\/p.1.sum≠r.1\/p.2.1.sum+c.1+i.1≠d
 ·rw [qk h4] at h;cases h
 rw [qJ h4];have h6:p.2.1.sum+c.1+i.1=d:=yQ λe=>h4 (.inr (.inr e));obtain⟨n,j,g,l⟩:=m;simp only [zF,jL] at j;exact⟨by show p.1.sum<=_;omega,h6,n,by show p.1.length<=_;omega,λa f=>by have:=g a f;omega,l⟩
theorem BM (b:qn) (e w:Nat): ∀(l:List Nat) (a:Nat) (d:Int) (at_:Nat) (c:List Nat),(Vi b e w l a d at_ c).2.1.length<=c.length+l.length
 |[],a,d,at_,c=>qx _
 |x::t,a,d,at_,c=>by
  unfold Vi;repeat' split
  ·exact qp _
  ·exact qp _
  ·exact qp _
  ·have:=BM b e w t (a+Ju b at_) (((a+Ju b at_)*2^w+x:Nat):Int) (pq b at_) (c++[(a+Ju b at_)*2^w+x])
   rw [qK,zJ] at this;rw [qf];omega
theorem Bo (b:qn) (w:Nat): ∀n at_,(Ka b w n at_).length=n
 |0,_=>rfl
 |n+1,at_=>by unfold Ka;rw [qf,Bo b w n]
theorem Tb (a:Nat) (b:qn):(dw a b).2.1.length<=a:=by
 unfold dw;split
 ·exact qp _
 ·dsimp only;have h1:=vX b (a:Int) ⟨0,0⟩ uK;generalize jU b (a:Int) ⟨0,0⟩=n at*;split
  ·exact qp _
  ·split
   ·exact qp _
   ·split
    ·exact qp _
    ·show(Fz _ _ _).2.1.length<=_;unfold Fz;split
     ·exact qp _
     ·dsimp only;split
      ·exact qp _
      ·split
       ·exact qp _
       ·have:=BM (b.drop n.2.at_) (a:Int).toNat (pU (a:Int).toNat n.1) (Ka (b.drop n.2.at_) (pU (a:Int).toNat n.1) n.1 0) 0 (-1) (n.1*pU (a:Int).toNat n.1) [];rw [Bo,zF] at this;dsimp only;omega
theorem DF (a:Nat): ∀(n:Nat) (b:qn) (c:List (List Nat)),(∀l∈c,l.length<=a)-> ∀l∈(yR a n b c).2,l.length<=a
 |0,b,c,h=>by
  unfold yR;split
  ·exact h
  ·simp
 |n+1,b,c,h=>by
  rw [kN];split
  ·simp
  ·split
   ·simp
   ·exact DF a n _ _ (λl d=>by
     rcases zt.1 d with h1|h1
     ·exact h l h1
     ·rw [qy.1 h1];exact Tb a b)
theorem ak (size:Int) (a:Nat) (b:qn): ∀l∈(Fs size a b).2.2,l.length<=a:=by
 unfold Fs;split
 ·simp
 ·dsimp only;split
  ·simp
  ·split
   ·simp
   ·exact DF _ _ _ _ s8
theorem p_: ∀(l:List Nat) (b:qn),(dW l b).length=l.length
 |[],_=>rfl
 |n::t,b=>by show(dW t _).length+1=_;rw [p_ t];rfl
structure Tc (x:ks):Prop where
 sum:x.dir.counts.sum<=20000
 few:x.dir.counts.length<=20000
 small: ∀a∈x.dir.counts,a<=20000
 JB:x.JB.length=x.dir.counts.length
 times:x.times.length=x.dir.counts.sum
 levels:x.levels.length=x.dir.counts.sum
 lists: ∀l∈x.lists,l.length<=20000
theorem aP (o:Opt) (b:qn) (h:(Zo o b).1=0):Tc (Zo o b).2:=by
 unfold Zo at h⊢;dsimp only at h⊢;by_cases h1:J8 o≠0
 ·rw [qk h1] at h;exact absurd h h1
 rw [qJ h1] at h⊢;generalize pg b=f at*;by_cases h2:f.1≠0
 ·rw [qk h2] at h;exact absurd h h2
 rw [qJ h2] at h⊢;have a:=Gz f.2.2 f.2.1.length;generalize gi f.2.2 f.2.1.length=d at*;by_cases h3:d.1≠0
 ·rw [qk h3] at h;exact absurd h h3
 rw [qJ h3] at h⊢;have a:=a (by simpa using h3);have e:(Zh d.2.counts.sum ((f.2.1.drop d.2.sizes.sum).take d.2.cols)).1=0->(Zh d.2.counts.sum ((f.2.1.drop d.2.sizes.sum).take d.2.cols)).2.1.length=d.2.counts.sum/\(Zh d.2.counts.sum ((f.2.1.drop d.2.sizes.sum).take d.2.cols)).2.2.length=d.2.counts.sum:=by
  generalize (f.2.1.drop d.2.sizes.sum).take d.2.cols=ch;intro h;unfold Zh at h⊢;by_cases i:QH ch≠0
  ·rw [qk i] at h;exact absurd h i
  rw [qJ i] at h⊢;dsimp only at h⊢;have m:=aK d.2.counts.sum (vR ch);generalize ZG d.2.counts.sum (vR ch)=r at*;by_cases g:r.1≠0
  ·rw [qk g] at h;exact absurd h g
  rw [qJ g] at h⊢;by_cases j:r.2.2.2<(vR ch).length
  ·rw [qk j] at h;cases h
  rw [qJ j];exact m (by simpa using g)
 generalize Zh d.2.counts.sum ((f.2.1.drop d.2.sizes.sum).take d.2.cols)=c at*;by_cases h4:c.1≠0
 ·rw [qk h4] at h;exact absurd h h4
 rw [qJ h4] at h⊢;have e:=e (by simpa using h4);by_cases h5:QH ((f.2.1.drop d.2.sizes.sum).drop d.2.cols)≠0
 ·rw [qk h5] at h;exact absurd h h5
 rw [qJ h5] at h⊢;have k:=ak o.bkt d.2.counts.sum (vR ((f.2.1.drop d.2.sizes.sum).drop d.2.cols));generalize Fs o.bkt (d.2.counts.sum:Nat) (vR ((f.2.1.drop d.2.sizes.sum).drop d.2.cols))=p at*;by_cases h6:p.1≠0
 ·rw [qk h6] at h;exact absurd h h6
 rw [qJ h6];exact⟨a.sum,a.few,a.small,by show(dW _ _).length=_;rw [p_,a.len],e.1,e.2,λl n=>qv (k l n) a.sum⟩
section
open Go.RowKit
variable {A:q'}{E t:TypeId}{L:List qn}{W b:World}{base c g n:Nat}{l:Array Value}
def ov (W:World) (r:Int×ks) (e:Ending) (a:World):Prop:=
 Below W W a/\((r.1≠0/\e= .returned (.tuple #[.pointer none, .int .i64 r.1]))\/(r.1=0/\ ∃g,e= .returned (.tuple #[.pointer (some ⟨g,0,none⟩),()])/\Bdy a W g r.2))
def J_:ks:=⟨⟨[],[],0,0⟩,[],[],[],[],[]⟩
theorem Ta:(prog.info? 4).map (λi=>(i.zero,i.size,i.bytes))=some (some (.bool false),1,1):=AL
theorem zM.au {e:Array Value} (h:zM W 0 base A n c L) (b:Blk W g t e) (h1:30≠t) (h2:5≠t) (j:Nat) (u:Value):zM (W.setCell ⟨g,j,none⟩ u) 0 base A n c L:=
 h.kept (by rw [zO];exact qx _) λE _ _ _ _ _ d a=>jw a b (by rcases d with rfl|rfl<;>assumption) j u
theorem Jc.uP {L:List (List Nat)} {o:Array Value} (h:Jc W base A n c L) (d:Blk W g t o) (h1:62≠t) (h2:3≠t) (j:Nat) (u:Value):Jc (W.setCell ⟨g,j,none⟩ u) base A n c L:=by
 obtain⟨vs,f,k,e⟩:=h;exact⟨vs,jw f d h1 j u,k,λi l hi=>by
  obtain⟨Ai,m,a,b⟩:=e i l hi;exact⟨Ai,m,a,jw b d h2 j u⟩⟩
theorem zM.ia (h:zM W 0 base A n c L) (d:qE [g] W b) (e:Blk W g t l) (h1:30≠t) (h2:5≠t):zM b 0 base A n c L:=
 h.kept d.size λE _ _ _ _ _ i a=>d.own a (λk f j=>qT a e (by rcases i with rfl|rfl<;>assumption) k f (qy.1 j))
theorem Kd {size:Nat} {a:List Value} (h:W.ownsRow base E size (.slice A n c) n a) (i:qE [g] W b) (d:Blk W g t l) (f:E≠t):b.ownsRow base E size (.slice A n c) n a:=
 i.own h (λk e j=>qT h d f k e (qy.1 j))
theorem oQ (b:qn):(pg b).2.2.length<=b.length:=by
 unfold pg;split
 ·exact qp _
 ·split
  ·exact qp _
  ·refine qv (ax _) ?_;rw [qh,qI];omega
theorem UO (o:Opt) (A:Option Addr) (n c B:Nat) (b:List UInt8) (W:World) (ht:Tab W) (h:Reads W B 1 A n (b.map B8)) (I:B<=W.heap.size) (hc:n<=c) (hm:c<=maxLen) (hn:n<=100000000):
  Calls prog 114 #[.agg (opA o), .slice A n c] W (ov W (Zo o b)):=by
 obtain⟨R,J⟩: ∃R,R=Zo o b:=⟨_,rfl⟩;rw [<-J];unfold Zo at J;dsimp only at J;rw [show(⟨⟨[],[],0,0⟩,[],[],[],[],[]⟩:ks)=J_ from rfl] at J
 obtain⟨s,t,kk,q,l,m⟩:=o;have KCk:=YN ⟨s,t,kk,q,l,m⟩;unfold opA at KCk⊢;dsimp only at KCk J⊢;have hBa:Hid (Below W W (W.alloc (.cells #[s, .bool t,kk,q,l,m] 23))):=(qZ _ _).alloc (qx _) _;have O:Hid (Blk (W.alloc (.cells #[s, .bool t,kk,q,l,m] 23)) W 23 #[s, .bool t,kk,q,l,m]):=Blk.new _ _ _;have z0:(W.alloc (.cells #[s, .bool t,kk,q,l,m] 23)).cell? W.heap.size=some (s:Value):=O.cell 0;have z1:(W.alloc (.cells #[s, .bool t,kk,q,l,m] 23)).cell? ⟨W,1,none⟩=some (.bool t):=O.cell 1;have z2:(W.alloc (.cells #[s, .bool t,kk,q,l,m] 23)).cell? ⟨W,2,none⟩=some (kk:Value):=O.cell 2;have z3:(W.alloc (.cells #[s, .bool t,kk,q,l,m] 23)).cell? ⟨W,3,none⟩=some (q:Value):=O.cell 3;have z4:(W.alloc (.cells #[s, .bool t,kk,q,l,m] 23)).cell? ⟨W,4,none⟩=some (l:Value):=O.cell 4;have z5:(W.alloc (.cells #[s, .bool t,kk,q,l,m] 23)).cell? ⟨W,5,none⟩=some (m:Value):=O.cell 5;generalize J8 ⟨s,t,kk,q,l,m⟩=E0 at*
 have H:=qj h;have HT:=qj ht;have KCk1:=qj (KCk (W.alloc (.cells #[s, .bool t,kk,q,l,m] 23)));replace J:=qj J;have HTB:Hid (∀W',Below W W W'->Tab W'):=λW' h=>HT.below h HT.pos;clear h ht KCk HT;go_enter func114,ntmps114
 go_wp2_with fail;refine KCk1.mono ?_;rintro e w2 ⟨rfl,hB2⟩;have m':=qj (hBa.trans (hB2.mono hBa.size));have HK2:=qj (O.below hB2 O.lt);clear KCk1 hB2 hBa O z0 z1 z2 z3 z4 z5;by_cases i:E0=0
 case neg=>
  have w:Hid (R=(E0,J_)):=by rw [Hid,J.out,qk i]
  have O':(E0==0)=false:=by simpa using i
  have M':(E0 !=0)=true:=by simpa using i
  replace i:=qj i;clear J
  go_wp2_with fail
  go_ret2;rw [w.out];exact⟨m'.out, .inl ⟨i.out,rfl⟩⟩
 subst i;have P:=J.out;rw [qJ s8] at P;have KF:=C8 A n c B b w2 (HTB.out w2 m') (H.below (m'.mono I)) (qv I m'.size) hc hm uK;have hfl:=M_ b;have hfd:=oQ b;rw [H.len] at hfl hfd;unfold iD at KF;generalize pg b=f at*
 obtain⟨ef,rest,dir⟩:=f;dsimp only at P KF hfl hfd;generalize hnr:rest.length=nr at*
 generalize hnd:dir.length=nd at*
 replace KF:=qj KF;replace P:=qj P;replace hnr:=qj hnr;replace hnd:=qj hnd;clear J
 go_wp2_with fail;refine KF.mono ?_;rintro e z ⟨A1,c1,A2,c2,rfl,hr3,hc3,hcm3,ho3,hB3⟩;have P':=qj (m'.trans (hB3.mono m'.size));have HK3:=qj (HK2.below hB3 HK2.lt);have HR3:=qj hr3;have HO3:=qj ho3;clear KF hr3 ho3 hB3 HK2 m';by_cases i:ef=0
 case neg=>
  have w:Hid (R=(ef,J_)):=by rw [Hid,P.out,qk i]
  have O':(ef==0)=false:=by simpa using i
  have M':(ef !=0)=true:=by simpa using i
  replace i:=qj i;clear P
  go_wp2_with fail
  go_ret2;rw [w.out];exact⟨P'.out, .inl ⟨i.out,rfl⟩⟩
 subst i;have S:=P.out;rw [qJ s8] at S;obtain⟨j,J'⟩: ∃j,j=z.alloc (.cells (bdC (.slice none 0 0) (.slice none 0 0) 0 0) 174):=⟨_,rfl⟩;have hk4:Blk j z 174 (bdC (.slice none 0 0) (.slice none 0 0) 0 0):=by rw [J'];exact Blk.new _ _ _
 have I':Below z z j:=by rw [J'];exact(qZ _ _).alloc (qx _) _
 have OX:W.heap.size<=z.heap.size:=P'.size;have KD:=E_ z nr A2 nd c2 z dir j hk4 ((Reads.zY HO3).below I') I'.size uK uK;have N6:=Gz dir nr;unfold Mn at KD;generalize gi dir nr=dd_ at*
 obtain⟨ed,d⟩:=dd_;dsimp only at S KD N6;have HB4:=qj (P'.trans (I'.mono P'.size));have HK4:=qj (HK3.below I' HK3.lt);have HR4:=qj (HR3.below (I'.mono (qv I OX)));have hne4:Hid (W.heap.size≠z.heap.size):=by have:=HK3.lt;rw [Hid];omega
 have hs34:Hid (j.heap.size=z.heap.size+1):=by rw [J'];simp [Hid]
 replace J':=qj J';replace KD:=qj KD;replace S:=qj S;replace N6:=qj N6;have D:Hid (∀V,qE [z.heap.size] j V->Below W W V/\Below B j V/\Blk V W 23 #[s, .bool t,kk,q,l,m]):=λV hV=>
  ⟨HB4.trans (hV.below (λk hk=>by rw [qy.1 hk];exact OX) HB4.size),hV.below (λk hk=>by rw [qy.1 hk];exact qv I OX) (qv I HB4.size),hV.blk HK4 (by rw [qy];exact hne4)⟩
 clear P HO3 HR3 HK3 P' I' hk4
 go_wp2_with fail;have hbz:(#[.slice none 0 0, .slice none 0 0,(),(), .slice none 0 0, .slice none 0 0, .slice none 0 0, .slice none 0 0, .slice none 0 0, .slice none 0 0]:Array Value)=bdC (.slice none 0 0) (.slice none 0 0) 0 0:=rfl;rw [hbz,<-J'.out];refine KD.mono ?_;rintro e w5 ⟨rfl,⟨A0,n0,c0,A5,n5,c5,X',hn5,hj5⟩,hm5⟩;have N9:=qj hj5;have G':=qj hm5;clear KD hj5 hm5 hbz;by_cases i:ed=0
 case neg=>
  have w:Hid (R=(ed,J_)):=by rw [Hid,S.out,qk i]
  have O':(ed==0)=false:=by simpa using i
  have M':(ed !=0)=true:=by simpa using i
  replace i:=qj i;clear S
  go_wp2_with fail
  go_ret2;rw [w.out];exact⟨(D.out w5 G').1, .inl ⟨i.out,rfl⟩⟩
 subst i;have Y':=S.out;rw [qJ s8] at Y';have r:=N6.out rfl;clear N6;have KS:=GM z d.cols d.index n5 c5 (.slice A0 n0 c0) A5 d.sizes A1 nr c1 B j rest w5 N9.blk N9.o1 (HR4.below (D.out w5 G').2.1) (qv I (D.out w5 G').1.size) (qv I OX) uK hc3 hcm3 r.room (by have:=r.few;have:=r.len;omega)
 unfold oz at KS;replace KS:=qj KS;replace Y':=qj Y';replace r:=qj r;replace X':=qj X';replace hn5:=qj hn5;clear S;generalize hgd:z.heap.size=g at*
 replace hgd:=qj hgd;have D':W.heap.size<=j.heap.size:=HB4.size;obtain⟨i0,hi,iz0,iz1,iz2⟩:=qA Ta;replace hi:=qj hi;replace iz0:=qj iz0;replace iz1:=qj iz1;replace iz2:=qj iz2
 go_wp2_with fail;refine KS.mono ?_;rintro e w6 ⟨Ac,c6,Ai,ni,ci,A8,L,c8,rfl,hrc,hcc,hccm,hri,hci,hcim,hn8,hf6,hm6⟩;have O06:=qj (Kd N9.o0 hm6 N9.blk FV)
 have HF6:=qj hf6;have HM6:=qj (G'.then hm6);have HRC:=qj hrc;have HRI:=qj hri;have hs6:Hid (j.heap.size<=w6.heap.size):=HM6.size;have q8:=hf6.q8;have hn8b:L<=20000:=by have:=r.few;have:=r.len;omega
 have hb1:i0.bytes*L<=281474976710656:=by rw [iz2.out];omega
 have hb2:L<=maxLen:=SJ;have hsz5x:W.heap.size<=w5.heap.size:=qv D' G'.size;have hsz6:W.heap.size<=w6.heap.size:=qv D' HM6.size;replace hn8:=qj hn8;clear KS hrc hri hf6 hm6 N9 G'
 go_wp2_with (at_make;refine xP _ rfl _ _ 172 rfl W 4 i0 (.bool false) 1 underlying172 hi iz0 iz1 .i64 .i64 _ _ L rfl rfl rfl rfl hb1 hb2 hsz6 ?_;intro w7 ho7 hg7;have Y:Below w6 w6 w7:=(qZ _ w6).grown hg7 (qx _) (λk hk=>by cases hk);have T:=HF6.blk.below Y HF6.blk.lt;have y9:w7.cell? ⟨g,9,none⟩=some (.slice none 0 0):=T.cell 9;have yf9:=T.frozen 9;replace Y:=qj Y;replace T:=qj T;clear ho7 hg7)
 obtain⟨v,hv9⟩: ∃v,v=Value.slice w6 L L:=⟨_,rfl⟩;rw [<-hv9];have hk8:=T.zh 9 v;have O08:=qj (jw (qG O06 Y) T FV 9 v);have HL8:=qj ((HF6.ls.below Y).au T FV FV 9 v);have HM8:Hid (qE [g] j (w7.setCell ⟨g,9,none⟩ v)):=(HM6.fresh Y).zh (p:=⟨g,9,none⟩) (qy.2 rfl) v;have HB68:Hid (Below B w6 (w7.setCell ⟨g,9,none⟩ v)):=(Y.mono (qv I hsz6)).setCell (p:=⟨g,9,none⟩) (by have:=hgd.out;show B<=g;omega) v
 have HRC8:=qj (HRC.below HB68);have HRI8:=qj (HRI.below HB68);clear y9 yf9 T Y O06 HF6 HM6 HRC HRI HB68 q8 hv9;generalize w7.setCell ⟨g,9,none⟩ v=w8 at*
 have N':Hid (Blk w8 g 174 (byC (.slice A0 n0 c0) (.slice A5 n5 c5) d.cols d.index (.slice none 0 0) (.slice none 0 0) (.slice none 0 0) (.slice none 0 0) (.slice A8 L c8) v)):=hk8;clear hk8;have hcolN:d.cols<=100000000:=by have:=r.room;omega
 have Z':W.heap.size<=w8.heap.size:=qv D' HM8.size;have M:=Dg w8.drew g w8 n0 c0 A0 d.counts (N'.drew.cell 0) (Reads.zY O08).drew (by have:=X'.out;have:=r.few;omega) (λa ha=>qv (r.small a ha) FV)
 have u':=aY g d.counts.sum (.slice A0 n0 c0) (.slice A5 n5 c5) (.slice none 0 0) (.slice none 0 0) (.slice none 0 0) (.slice none 0 0) (.slice A8 L c8) v d.cols d.index Ac d.cols c6 _ w8.drew (HTB.out _ (D.out w8 HM8).1.drew) N'.drew ((HRC8.drew).more (qv I Z')) hcolN hcc hccm r.sum;have Z:=Y'.out;unfold iC at u';generalize Zh d.counts.sum ((rest.drop d.sizes.sum).take d.cols)=oc at*
 obtain⟨eo,ts,ls⟩:=oc;dsimp only at Z u';have hsum2:=r.sum;generalize hsu:d.counts.sum=su at*
 replace hsu:=qj hsu;replace M:=qj M;replace u':=qj u';replace Z:=qj Z;clear Y'
 go_wp2_with fail;refine zv 8 (λ_=>True) AL trivial (λN=> ?_)
 generalize hwd:w8.drew=wd at*
 refine zq [0,1,2,3,5] (a':= ?_) ?_;refine vf 4 M ?_;rintro e w' ⟨rfl,rfl⟩;refine⟨_,rfl,(trivial),λN=> ?_⟩;refine vf 6 u' ?_;rintro e w9 ⟨rfl,S',hx9⟩;refine⟨_,rfl,(trivial),λN=> ?_⟩;refine zq [7] (a':= ?_) ?_;refine zV AL ?_ _;subst hwd;have U':Hid (qE [g] j w9):=HM8.drew.then S';have HRI9:Hid (Reads w9 B 1 Ai ni (((rest.drop d.sizes.sum).drop d.cols).map B8)):=HRI8.drew.below (S'.below (λk hk=>by rw [qy.1 hk];have:=hgd.out;omega) (qv I Z'))
 have O09:=qj (Kd O08.drew S' N'.drew FV);have HL9:=qj (HL8.drew.ia S' N'.drew FV FV);have hX9:=qj hx9;have hsz9:W.heap.size<=w9.heap.size:=qv D' U'.size;clear M u' S' hx9 N O08 HL8 HM8 HRI8 HRC8 N';by_cases i:eo=0
 case neg=>
  have w:Hid (R=(eo,J_)):=by rw [Hid,Z.out,qk i]
  have O':(eo==0)=false:=by simpa using i
  have M':(eo !=0)=true:=by simpa using i
  replace i:=qj i;clear Z hX9
  go_wp2_with fail
  go_ret2;rw [w.out];exact⟨(D.out w9 U').1, .inl ⟨i.out,rfl⟩⟩
 subst i;have p':=Z.out;rw [qJ s8] at p';obtain⟨At,nt,ct,Al,nl,cl,hnt,hnl,hk9,ot9,ol9⟩:=hX9.out rfl;have Q':=Vr Ai ni ci ((rest.drop d.sizes.sum).drop d.cols) w9 (HTB.out w9 (D.out w9 U').1) (HRI9.more (qv I hsz9)) hci hcim (by have h:=HRI9.len;rw [qI,qI] at h;have:=hnr.out;omega)
 unfold Qr at Q';have hcvl:(vR ((rest.drop d.sizes.sum).drop d.cols)).length<=100000000:=by
  refine qv (ax _) ?_;rw [qI,qI];have:=hnr.out;omega
 generalize vR ((rest.drop d.sizes.sum).drop d.cols)=V at*
 generalize QH ((rest.drop d.sizes.sum).drop d.cols)=E2 at*
 have HK9:=qj hk9;have OT9:=qj ot9;have OL9:=qj ol9;replace Q':=qj Q';replace p':=qj p';replace hnt:=qj hnt;replace hnl:=qj hnl;clear Z hX9 hk9 ot9 ol9 HRI9;generalize hvl:V.length=vl at*
 replace hvl:=qj hvl
 go_wp2_with fail;refine Q'.mono ?_;rintro e u ⟨A10,c10,rfl,U⟩;have z':=qj (U'.fresh U.2);have HK10:=qj (HK9.below U.2 HK9.lt);have O010:=qj (qG O09 U.2);have OT10:=qj (qG OT9 U.2);have OL10:=qj (qG OL9 U.2);have HL10:=qj (HL9.below U.2);have HO10:=qj U.1;clear Q' U U' HK9 O09 OT9 OL9 HL9;by_cases i:E2=0
 case neg=>
  have w:Hid (R=(E2,J_)):=by rw [Hid,p'.out,qk i]
  have O':(E2==0)=false:=by simpa using i
  have M':(E2 !=0)=true:=by simpa using i
  replace i:=qj i;clear p'
  go_wp2_with fail
  go_ret2;rw [w.out];exact⟨(D.out u z').1, .inl ⟨i.out,rfl⟩⟩
 subst i;have X:=p'.out;rw [qJ s8] at X;have hsz10:W.heap.size<=u.heap.size:=qv D' z'.size;have M:=Dg u.drew g u n0 c0 A0 d.counts (HK10.drew.cell 0) (Reads.zY O010).drew (by have:=X'.out;have:=r.few;omega) (λa ha=>qv (r.small a ha) FV)
 rw [hsu.out] at M;have iL:=TU kk su A10 vl c10 u V u.drew (Reads.zY HO10).drew (qx _) uK (jC HO10).1 hsum2;unfold Mt at iL;generalize Fs kk (su:Int) V=ps at*
 obtain⟨ep,xs,ys⟩:=ps;dsimp only at X iL;have p2:u.drew.cell? ⟨W,2,none⟩=some (kk:Value):=(D.out u z').2.2.cell 2;generalize hxl:xs.length=x at*
 generalize hyl:ys.length=E at*
 replace M:=qj M;replace iL:=qj iL;replace X:=qj X;replace hxl:=qj hxl;replace hyl:=qj hyl;have hpl:=qj (D.out u z').2.2.lt;clear p' HO10;unfold ixV at iL
 go_wp2_with fail;refine zv 14 (λV=>V.cell? ⟨W,2,none⟩=some (kk:Value)) AL p2 (λN=> ?_)
 generalize hwd:u.drew=wd at*
 refine zq [0,1,2,3,5] (a':= ?_) ?_;refine vf 4 M ?_;rintro e w' ⟨rfl,rfl⟩;refine⟨_,rfl,(N),λN=> ?_⟩;refine vf 6 iL ?_;rintro e Q ⟨C,y,G,F,rfl,hx11,hy11,hB11,hxl2⟩;refine⟨_,rfl,(((hB11.cell (p:=⟨W,2,none⟩) (by rw [<-hwd];exact hpl)).trans p2)),λN=> ?_⟩
 refine zq [7,8,9] (a':= ?_) ?_;subst hwd;have d':Below u u Q:=(qZ _ u).drew.trans hB11;have k11:=HK10.below d' HK10.lt;have x6:Q.cell? ⟨g,6,none⟩=some (.slice none 0 0):=k11.cell 6;have x7:Q.cell? ⟨g,7,none⟩=some (.slice none 0 0):=k11.cell 7;have f6:=k11.frozen 6;have f7:=k11.frozen 7;have k12:=k11.zh 6 (.slice C x y);have y7:(Q.setCell ⟨g,6,none⟩ (.slice C x y)).cell? ⟨g,7,none⟩=some (.slice none 0 0):=k12.cell 7;have yf7:=k12.frozen 7;have hM11:qE [g] j Q:=z'.fresh d';have hop:=(((D.out Q hM11).2.2.far (p:=⟨g,6,none⟩) hne4 (.slice C x y)).far (p:=⟨g,7,none⟩) hne4 (.slice G E F)).cell 2;refine zq [10,11] (a':= ?_) ?_;refine carried 12 rfl AL SQ (λK hK=> ?_);go_simp;skip
 refine hK _ _ (hop) (λN=> ?_);clear hK K;try simp only [Act.put,qQ,qY,qV]
 refine zq [13] (a':= ?_) ?_;refine zV AL ?_ _;have k13:=k12.zh 7 (.slice G E F);have O13:=jw (jw (qG O010 d') k11 FV 6 (.slice C x y)) k12 FV 7 (.slice G E F);have OT13:=jw (jw (qG OT10 d') k11 FV 6 (.slice C x y)) k12 FV 7 (.slice G E F);have OL13:=jw (jw (qG OL10 d') k11 FV 6 (.slice C x y)) k12 FV 7 (.slice G E F);have OX13:=jw (jw hx11 k11 FV 6 (.slice C x y)) k12 FV 7 (.slice G E F);have OY13:=(hy11.uP k11 FV FV 6 (.slice C x y)).uP k12 FV FV 7 (.slice G E F);have L13:=((HL10.below d').au k11 FV FV 6 (.slice C x y)).au k12 FV FV 7 (.slice G E F);have hM13:qE [g] j ((Q.setCell ⟨g,6,none⟩ (.slice C x y)).setCell ⟨g,7,none⟩ (.slice G E F)):=(hM11.zh (p:=⟨g,6,none⟩) (qy.2 rfl) _).zh (p:=⟨g,7,none⟩) (qy.2 rfl) _;replace k13:=qj k13;replace O13:=qj O13;replace OT13:=qj OT13;replace OL13:=qj OL13;replace OX13:=qj OX13;replace OY13:=qj OY13;replace L13:=qj L13;replace hM13:=qj hM13;clear hop hM11 y7 yf7 x6 x7 f6 f7 k11 k12 hx11 hy11 hB11 d' O010 OT10 OL10 HL10 HK10 z' N M iL p2;generalize (Q.setCell ⟨g,6,none⟩ (.slice C x y)).setCell ⟨g,7,none⟩ (.slice G E F)=w13 at*
 by_cases i:ep=0
 case neg=>
  have w:Hid (R=(ep,J_)):=by rw [Hid,X.out,qk i]
  have O':(ep==0)=false:=by simpa using i
  have M':(ep !=0)=true:=by simpa using i
  replace i:=qj i;clear X
  go_wp2_with fail
  go_ret2;rw [w.out];exact⟨(D.out w13 hM13).1, .inl ⟨i.out,rfl⟩⟩
 subst i;have w:Hid (R=(0,⟨d,ts,ls,xs,ys,dW d.sizes rest⟩)):=by
  have h:=X.out;rw [qJ s8] at h;exact h
 clear X
 go_wp2_with fail
 go_ret2;rw [w.out];refine⟨(D.out w13 hM13).1, .inr ⟨rfl,g,rfl, ?_⟩⟩;have hgW:W.heap.size<=g:=OX;exact⟨A0,n0,c0,A5,n5,c5,At,nt,ct,Al,nl,cl,C,x,y,G,E,F,A8,L,c8,v,⟨X'.out,hn5.out,hnt.out,hnl.out,hxl.symm,hyl.symm,by show L=(dW d.sizes rest).length;rw [p_];exact hn8⟩,k13.out,
  qi O13 D',qi OT13 Z',qi OL13 Z',qi OX13 hsz10,OY13.out.Vg hsz10,L13.out.Vg (qx _) (qp _) hsz5x,hgW⟩
end
section
open Go.RowKit Go.Maps Go.ChangeShapes
variable {Ax Ay e:q'}{E k:TypeId}{V W W4 w w':World}{b b8 base c cx cy n nx ny:Nat}{t:qn}{v:Value}{vs:List Value}{xs:List qn}
theorem Vs: ∀(s row:qn) (b:List qn),(∀o∈b,o.length<=24)-> ∀x∈fo s row b,x.length<=24
 |[],row,b,h,x,a=>by
  unfold fo PS at a;split at a
  ·exact h x a
  ·rcases zt.1 a with h1|h1
   ·exact h x h1
   ·rw [qy.1 h1,qh];omega
 |c::t,row,b,h,x,a=>by
  unfold fo at a;cases e:fI c with
  |some y=>rw [e] at a;exact Vs t (row++[y]) b h x a
  |none=>
   rw [e] at a;refine Vs t [] (PS row b) (λo d=> ?_) x a;unfold PS at d;split at d
   ·exact h o d
   ·rcases zt.1 d with h1|h1
    ·exact h o h1
    ·rw [qy.1 h1,qh];omega
theorem DG (r:Rec): ∀t∈kp r,t.length<=25:=λt ht=>by
 have h:=(Ud _ t).1 ht;rcases zt.1 h with h1|h1
 ·have:=Vs r.txt [] [] s8 t h1;omega
 ·obtain⟨s,a,rfl⟩:=jB.1 h1
  have:=Vs r.src [] [] s8 s a;rw [qf];omega
theorem rk: ∀(i:Nat) (l:List Rec) (t:qn),t∈(jl i l).map (·.1)->t.length<=25:=λi l t h=>by
 obtain⟨T,a,ht⟩:=List.mem_flatten.1 ((Pe i l t).1 h);obtain⟨r,_,rfl⟩:=jB.1 a;exact DG r t ht
def rp (w w':World):Prop:= ∀(k:Nat) (t:TypeId) (b:Array Value) (a:Nat×Nat),w.heap[k]? =some (.cells b t a)->t≠3->w'.heap[k]? =some (.cells b t a)
theorem rp.own {size:Nat} {A:q'} {d:List Value} (f:rp w w') (h:w.ownsRow base E size (.slice A n c) n d) (g:E≠3):w'.ownsRow base E size (.slice A n c) n d:=
 zI h λa e=>by
  obtain⟨j,i,b⟩:=jV h a.block (by rw [e];rfl)
  rw [b];exact f _ _ _ _ b g
theorem rp.blk {g:Nat} {t:TypeId} {a:Array Value} (c:rp w w') (h:Blk w g t a) (b:t≠3):Blk w' g t a:=c _ _ _ _ h b
theorem rP {f i:World} {D:DataW Unit} {zs:List Int} (h:w.ownsGroups prog k base 3 .i64 b n D) (g:w.ownsInts base 3 .i64 v zs) (l:w.grownBy f v.ownBlock) (o:f.grownBy i (some b)):rp w i:=λk t r p d m=>by
 obtain⟨u,x,j,-⟩:=h;have q:=jz d;have h1:f.heap[k]? =some (.cells r t p):=by
  refine(l.block k q λe=> ?_).trans d;obtain⟨A,c,rfl⟩:=X_ (n:=zs.length) g.1;rw [jH] at e;obtain⟨y,s,a⟩:=jV g.1 k e.symm;rw [d] at a;injection a with a
  injection a with _ a
  exact m a
 refine(o.block k (jz h1) λe=> ?_).trans h1;injection e with e
 subst e;rw [j] at d;cases d
theorem aU {D:DataW Unit} (h:w.ownsGroups prog k base 3 .i64 b n D) (e:Below w w w'):w'.ownsGroups prog k base 3 .i64 b n D:=by
 obtain⟨j,s,f,F,r,o,m,p,A⟩:=h;have key: ∀v zs,w.ownsInts base 3 .i64 v zs->w'.ownsInts base 3 .i64 v zs:=λv zs a=>⟨Qv a.1 e,a.2⟩;obtain⟨l,c,_⟩:=F.stay (R':=rowElem (H:=Unit) w' base 3 .i64) (λx _ z i=>by
  obtain⟨zs,a,rfl⟩:=rowElem_inv i;exact rowElem_mk (key _ _ a))
 refine⟨j,s,(e.block b (jz f)).trans f,l,r,by rw [o];first|rw [c]|rw [<-c],m,λx d zs a=> ?_,A⟩;obtain⟨y,u⟩:=F.reads x d;obtain⟨B,q,-⟩:=Go.WideElems.rd_val u;obtain⟨t,g,-⟩:=rowElem_inv q;rw [a.unique (key _ _ g)];exact p x d t g
theorem Ir:Keyed prog 9:=string_keyed ju
theorem iA (w:World):(zeroValue 62).run prog w= .ok zn w:=AL
theorem oX (t:qn) (h:t.length<=25):keyOf prog 9 (.string ⟨t.toArray⟩)=some (.string t):=by
 rw [Go.WideMaps.keyOf_string_mk ju (show(⟨t.toArray⟩:ByteArray).size<=maxLen by
  show t.toArray.size<=maxLen;rw [xd];exact qv h FV)]
theorem Gl (w:World) (p:Addr) (u x:Value) (t:TypeId):Reads ((w.setCell p u).alloc (.cells #[x] t)) (w.heap.size+1) 1 w 1 [x]:=by
 have h:=zU (w.setCell p u) x t;rwa [zO] at h
theorem GL {a:Func} {p:Tmp} {b:TypeId} (h:a.results= #[.cell p b]) (tmps:Array Value) (w:World) (g:Nat) (c:Array Value)
  (e:tmps.getD p undef= .pointer g) (d:(loadVar b g).run prog w= .ok (.agg c) w):
  (results a tmps).run prog w= .ok (.agg c) w:=by
 have f:tmps[p]?.getD undef= .pointer g:=by simpa using e
 simp [results,h,f,asAddr,d]
theorem dC: ∀(i:Nat) (l:List Rec),(jl i l).map (·.1)=(l.map kp).flatten
 |i,[]=>rfl
 |i,r::l=>by
  unfold jl;rw [qg,dC (i+1) l,jy,xI,vC];congr 1;exact List.map_id _
structure ru (V W:World) (b8:Nat) (Ax:q') (nx cx:Nat) (xs:List qn) (Ay:q') (ny cy:Nat) (vs:List Value):Prop where
 blk:Blk W b8 102 #[.slice Ax nx cx, .slice Ay ny cy]
 ox:W.ownsRow V 9 1 (.slice Ax nx cx) nx (xs.map STR)
 oy:W.ownsRow V 62 1 (.slice Ay ny cy) ny vs
 jZ:qE [b8] V W
theorem ru.l6 (h:ru V W b8 Ax nx cx xs Ay ny cy vs) (o:Obj) (i:(W.alloc o).grownBy W4 (Ax.map (·.block))) (f:W4.ownsRow V 9 1 (.slice e (nx+1) c) (nx+1) (xs.map STR++[STR t])):
  (W4.cell? b8=some (.slice Ax nx cx)/\W4.frozen? b8=false)/\ru V (W4.setCell b8 (.slice e (nx+1) c)) b8 e (nx+1) c (xs++[t]) Ay ny cy vs:=by
 have h1:=h.blk.alloc o;have h2:=h.ox.alloc o;have h3:=h.oy.alloc o;have d:qE (fpS Ax) (W.alloc o) W4:=(qE.refl _ _).grown i (λk a=> .inl a);have b:=d.blk h1 (λa=>qT h2 h1 FV b8 a rfl);have g:=d.own h3 (xz h3 h2 FV);refine⟨⟨b.cell 0,b.frozen 0⟩,b.zh 0 _, ?_,jw g b FV _ _,((h.jZ.alloc o).trans d (λk a=> .inr (zj h2 k a).1)).zh (p:= b8) (qy.2 rfl) _⟩;rw [qg];exact jw f b FV _ _
theorem ru.l7 (h:ru V W b8 Ax nx cx xs Ay ny cy vs) (o:Obj) (i:(W.alloc o).grownBy W4 (Ay.map (·.block))) (f:W4.ownsRow V 62 1 (.slice e (ny+1) c) (ny+1) (vs++[v])):
  (W4.cell? ⟨b8,1,none⟩=some (.slice Ay ny cy)/\W4.frozen? ⟨b8,1,none⟩=false)/\ru V (W4.setCell ⟨b8,1,none⟩ (.slice e (ny+1) c)) b8 Ax nx cx xs e (ny+1) c (vs++[v]):=by
 have h1:=h.blk.alloc o;have h2:=h.ox.alloc o;have h3:=h.oy.alloc o;have d:qE (fpS Ay) (W.alloc o) W4:=(qE.refl _ _).grown i (λk a=> .inl a);have b:=d.blk h1 (λa=>qT h3 h1 FV b8 a rfl);have g:=d.own h2 (xz h2 h3 FV);exact⟨⟨b.cell 1,b.frozen 1⟩,b.zh 1 _,jw g b FV _ _,jw f b FV _ _,((h.jZ.alloc o).trans d (λk a=> .inr (zj h3 k a).1)).zh (p:=⟨b8,1,none⟩) (qy.2 rfl) _⟩
theorem Ui {P:Program} (w:World) {c:Array Oper} {rest:List Oper} {o:Oper} {a:Act} {Q:Exit->Act->World->Prop}
  (i:o.guard=none) (m x:Operand) (t:TypeId) (h:o.op=Op.lookup t m x false) (b:Nat) (key v:Value) (f:a.eval m= .map (some b)) (j:a.eval x=key)
  (d:(Instr.lookup t (.map (some b)) key false).run P w= .ok v w) (e:wpList P c Q rest (a.put o.dst v) w):wpList P c Q (o::rest) a w:=by
 refine wpList_plain i λk g=> ?_;unfold Oper.wp;simp [execOp,h,f,j,d,Result.andThen];exact g _ _ e
theorem Te {D:DataW Unit} {P:List (qn×Nat)} (h:w.ownsGroups prog 9 base 3 .i64 b n D) (j:GD D P) (ht:t∈P.map (·.1)) (s:t.length<=25) (w':World) (o:w'.heap[b]? =w.heap[b]?):
  ∃A c,(Instr.lookup 141 (.map (some b)) (.string ⟨t.toArray⟩) false).run prog w'= .ok (.slice A (yd t P).length c) w'/\w.ownsRow base 3 1 (.slice A (yd t P).length c) (yd t P).length ((yd t P).map NV):=by
 obtain⟨v,z,q,F,u,i,-⟩:=h;have p: ∀l:List Nat,(uj l).map (Value.int .i64)=l.map NV:=λl=>by unfold uj;rw [vC];rfl
 rcases Maps.fit_look false Ir underlying141 (iA w') (o.trans q) F (oX t s) with⟨-,-,f⟩|⟨x,y,-,-,m,r,f,-⟩
 ·have h1:=j.at_ t ht;rw [i,f] at h1;cases h1
 ·obtain⟨zs,e,rfl⟩:=rowElem_inv r;have g:=j.look (by rw [i];exact f _) e;obtain⟨A,c,d⟩:=X_ e.1;have a:=e.1;rw [d,g,p] at a;have k:(uj (yd t P)).length=(yd t P).length:=by unfold uj;rw [zH]
  rw [g,k] at d;rw [k] at a;exact⟨A,c,by rw [<-d];exact m,a⟩
def oY (W:World) (x:List qn×List (List Nat)) (e:Ending) (c:World):Prop:=
 ∃h a f d b g,(a=x.1.length/\b=x.2.length)/\e= .returned (.agg (ixV h a f d b g))/\c.ownsRow W 9 1 (.slice h a f) a (x.1.map STR)/\Jc c W d b g x.2/\Below W W c
theorem ux (A:Option Addr) (c B:Nat) (l:List Rec) (W:World) (h:Reads W B 4 A l (ji l)) (hB:B<=W.heap.size) (hl:l.length<=20000) (hok: ∀r∈l,r.src.length<=4000/\r.txt.length<=4000):
  Calls prog 61 #[.slice A l c] W (oY W (P0 l)):=by
 have hmm:= @run_makeMap prog;obtain⟨i0,hi,hz0,hz1,hz2⟩:=qA XM;replace hi:=qj hi;replace hz0:=qj hz0;replace hz1:=qj hz1;replace hz2:=qj hz2;have H:=qj h;have M':=qj hok;have hG0:Hid (((W.alloc (.cells ixZ 102)).alloc (.map #[] 0)).ownsGroups (H:=Unit) prog 9 (W.heap.size+2) 3 .i64 (W.heap.size+1) 0 (.map [])):=by
  have h:=World.ownsGroups_made (H:=Unit) (W.alloc (.cells ixZ 102)) prog 9 3 .i64;rw [vY] at h;exact h
 have hK0:Hid (Blk ((W.alloc (.cells ixZ 102)).alloc (.map #[] 0)) W.heap.size 102 ixZ):=(Blk.new W _ _).alloc _;have hB0:Hid (Below W.heap.size W ((W.alloc (.cells ixZ 102)).alloc (.map #[] 0))):=((qZ _ _).alloc (qx _) _).alloc s8 _;have hs0:Hid (W.heap.size+2<=((W.alloc (.cells ixZ 102)).alloc (.map #[] 0)).heap.size):=by rw [Hid];simp
 have e0:ixZ= #[.slice none 0 0, .slice none 0 0]:=rfl;rw [e0] at hG0 hK0 hB0 hs0;obtain⟨R,hR⟩: ∃R,R=P0 l:=⟨_,rfl⟩;rw [<-hR];replace hR:=qj hR;obtain⟨O,M⟩: ∃O,O=l.length:=⟨_,rfl⟩;rw [<-M] at hl⊢;replace M:=qj M;clear h hok;go_enter func61,ntmps61
 go_wp2_with fail;go_loopw [14] (λv14 wr=> ∃(i:Nat) (D:DataW Unit),v14=(i:Value)/\i<=O/\Hid (GD D (jl 0 (l.take i)))/\Hid (wr.ownsGroups prog 9 (W.heap.size+2) 3 .i64 (W.heap.size+1) (jl 0 (l.take i)).length D)/\Hid (Blk wr W.heap.size 102 #[.slice none 0 0, .slice none 0 0])/\Hid (Below W.heap.size W wr)/\Hid (W.heap.size+2<=wr.heap.size)) (λv14 _=>O-(intOf v14).toNat)
 case atStart=>exact⟨0, .map [],rfl,qp _,GD.nil,hG0,hK0,hB0,hs0⟩
 case round=>
  clear hG0 hK0 hB0 hs0;obtain⟨i,D,rfl,hin,C,n,y,d,HS⟩:=hrel;by_cases hlt:i<O
  ·have hlt':(i:Int)<(O:Int):=uK
   have hi0:(0:Int)<=(i:Int):=uK;have hil:i<l.length:=by rw [<-M.out];exact hlt
   obtain⟨ad,rfl,_,y0,y1,y2,y3⟩:=ZH (H.below (d.mono hB)) i hil;have p':=M'.out _ (zx hil);have htk:jl 0 (l.take (i+1))=jl 0 (l.take i)++(kp l[i]).map λt=>(t,i):=by
    rw [qs,qX hil];show jl 0 (l.take i++[l[i]])=_;rw [gI,qh,jL,vZ uK]
   have hpl:=Ku 0 (l.take i) (λr hr=>M'.out r (j2 hr));rw [qh,vZ uK] at hpl;have N:=λW'=>qj (S0 l[i] W' p'.1 p'.2);have htl:=BR l[i] p'.1 p'.2;have hts:=qj (DG l[i]);unfold Fl at N;have erc:(rcC l[i]).toArray= #[.int .u64 (l[i].time:Int), .int .u8 (l[i].level:Int), .string ⟨l[i].src.toArray⟩, .string ⟨l[i].txt.toArray⟩]:=rfl;rw [erc] at N;generalize kp l[i]=T at*
   generalize (⟨l[i].src.toArray⟩:ByteArray)=S1 at*
   generalize (⟨l[i].txt.toArray⟩:ByteArray)=S2 at*
   generalize (l[i].time:Int)=tm at*
   generalize (l[i].level:Int)=lv at*
   generalize hPi:jl 0 (l.take i)=o at*
   obtain⟨E,S⟩: ∃E,E=T.length:=⟨_,rfl⟩;rw [<-S] at N htl;replace htk:=qj htk;replace hPi:=qj hPi;replace S:=qj S;replace N:=qj N;have HBa:=qj (d.alloc d.size (.cells #[.int .u64 tm, .int .u8 lv, .string S1, .string S2] 45));clear erc p'
   go_wp2_with fail;refine(N.out _).out.mono ?_;rintro e w2 ⟨A20,cT,rfl,hoT,hB2⟩;have HG2:Hid (w2.ownsGroups prog 9 (W.heap.size+2) 3 .i64 (W.heap.size+1) o D):=aU n (((qZ _ _).alloc (qx _) (.cells #[.int .u64 tm, .int .u8 lv, .string S1, .string S2] 45)).trans (hB2.mono s8))
   have q:Below wr.heap.size wr w2:=((qZ _ _).alloc (qx _) (.cells #[.int .u64 tm, .int .u8 lv, .string S1, .string S2] 45)).trans (hB2.mono s8);have Q':=qj (y.below q y.lt);have Y':=qj (d.trans (q.mono d.size));have S':Hid (W.heap.size+2<=w2.heap.size):=qv HS q.size;have O':=qj (qi (base':=0) hoT (qp _));clear N hoT hB2 q n y d HBa HS y0 y1 y2 y3
   go_wp2_with fail;go_loopw [22] (λv22 wr=> ∃(j:Nat) (D:DataW Unit),v22=(j:Value)/\j<=E/\Hid (GD D (o++(T.take j).map λt=>(t,i)))/\Hid (wr.ownsGroups prog 9 (W.heap.size+2) 3 .i64 (W.heap.size+1) (o.length+j) D)/\Hid (wr.ownsRow 0 9 1 (.slice A20 E cT) E (T.map STR))/\Hid (Blk wr W.heap.size 102 #[.slice none 0 0, .slice none 0 0])/\Hid (Below W.heap.size W wr)/\Hid (W.heap.size+2<=wr.heap.size)) (λv22 _=>E-(intOf v22).toNat)
   case atStart=>exact⟨0,D,rfl,qp _,by rw [Hid,vG,xB,jx];exact C,HG2,O',Q',Y',S'⟩
   case round=>
    clear C HG2 O' Q' Y' S';obtain⟨j,D,rfl,hjn,C,n,HT,y,d,HS⟩:=hrel;by_cases D':j<E
    ·have hlt2':(j:Int)<(E:Int):=uK
     have hj0:(0:Int)<=(j:Int):=uK;have L:j<T.length:=by rw [<-S.out];exact D'
     obtain⟨adT,u,rfl,-,K,N9⟩:=(Reads.zY HT).at_ D';rw [qD,qX L] at K;have hu':u=STR T[j]:=(zy K).symm;subst hu';have J:(T.take (j+1)).map (λt=>(t,i))=(T.take j).map (λt=>(t,i))++[(T[j],i)]:=by
      rw [qs,qX L,qg];rfl
     have hkey:=oX T[j] (hts.out _ (zx L));unfold STR at N9;have N6:=C.snoc T[j] i;have N': ∀(w:World) (base:Nat) (e:TypeId) (v:Value) (zs:List Int),D.atKey (.string T[j]) .nil=rowDatum .i64 v zs->w.ownsInts base e .i64 v zs->zs=uj (yd T[j] (o++(T.take j).map λt=>(t,i))):=λw base e v zs Q X=>C.look Q X;replace N':=qj N';rw [jY,<-J] at N6;generalize T[j]=t at*
     generalize (⟨t.toArray⟩:ByteArray)=Y at*
     replace N6:=qj N6;replace J:=qj J;have hnb:o.length+j<maxLen:=SJ;have hb8:(o.length+j+1)*8<=140737488355328:=uK;generalize hPn:o.length+j=pn at*
     replace hPn:=qj hPn;have hnb2:pn+1<=maxLen:=by unfold maxLen at*;omega
     replace hkey:=qj hkey;clear K
     go_wp2_with (first
      |(at_lookup;refine wpList_lookup_groups _ rfl _ _ 141 rfl 9 62 3 .i64 Ir underlying141 (iA _) (W.heap.size+2) (W.heap.size+1) pn D rfl n hnb _ _ rfl hkey ?_;intro v zs Q I hzl J';have hzs:=qj (N'.out _ _ _ _ _ Q I);replace Q:=qj Q;replace I:=qj I;replace J':=qj J')
      |(at_builtin;refine wpList_append_own_at _ rfl _ _ 62 rfl (W.heap.size+2) 3 i0 (.int .i64 0) 1 8 jj hi hz0 hz1 hz2 rfl FV _ _ _ rfl (I.out.1.alloc _) ⟨wr.heap.size,0,none⟩ 1 1 [.int .i64 (i:Int)] rfl rfl (cell_one_new _ _ _) (ints_oneCell .i64 [(i:Int)]) uK uK (by have:=HS.out;simp;omega) ?_;intro v' w1 hown' d' hnil Z';have happ:=qj (I.appended hown' (WalkArith.wf_i64 uK));replace d':=qj d';replace Z':=qj Z';clear hown' hnil)
      |(at_mapUpdate;refine wpList_mapUpdate_back _ rfl _ _ _ 141 rfl J' rfl rfl rfl ((World.grownBy_alloc _ _ _).trans d') happ SZ (Z'.imp id (λh=>⟨_,h,s8⟩)) ?_;intro w2' G' hgrow2))
     have P':=(World.grownBy_alloc wr (.cells #[i] 3) _).trans d'.out;have hKM:=rP n I P' hgrow2;have hdp:=happ.datum_pos (H:=Unit) s8;replace G':w2'.ownsGroups prog 9 (W.heap.size+2) 3 .i64 (W.heap.size+1) (pn+1) (D.put (.string t) (rowDatum .i64 v' (zs++[(i:Int)]))):=G';rw [hdp,hzs.out] at G';have HG2:Hid (w2'.ownsGroups prog 9 (W.heap.size+2) 3 .i64 (W.heap.size+1) (o.length+(j+1)) (D.put (.string t) (.slice (lits .i64 (uj (yd t (o++(T.take j).map λt=>(t,i)))++[(i:Int)])) []))):=by
      have e:o.length+(j+1)=pn+1:=by have:=hPn.out;omega
      rw [Hid,e];exact G'
     have O':=qj (hKM.own HT FV);have Q':=qj (hKM.blk y FV);have Y':=qj (d.groups I P' hgrow2 d.size uK uK);have S':Hid (W.heap.size+2<=w2'.heap.size):=qv HS (qv P'.size hgrow2.size);clear G' hgrow2 P' hKM hdp happ d' Z' J' I Q N' n HT y d HS;go_roundw
     case rel=>exact⟨j+1,_,by first|rfl|simp,uK,N6,HG2,O',Q',Y',S'⟩
     case measure=>simp [intOf];omega
    ·obtain rfl:j=E:=uK
     have hge: ¬(j:Int)<(j:Int):=uK;rw [qH (by rw [<-S.out];exact qx _),<-htk.out] at C
     have hlen:o.length+j=(jl 0 (l.take (i+1))).length:=by rw [htk.out,qK,zH,<-S.out]
     rw [hlen] at n;replace hlen:=qj hlen
     go_wp2_with fail;go_roundw
     case rel=>exact⟨i+1,D,by first|rfl|simp,uK,C,n,y,d,HS⟩
     case measure=>simp [intOf];omega
  ·obtain rfl:i=O:=uK
   have hge: ¬(i:Int)<(i:Int):=uK;rw [qH (by rw [<-M.out];exact qx _)] at C n
   have u':wr.ownsMap prog 9 (rowElem (H:=Unit) wr (W.heap.size+2) 3 .i64) (W.heap.size+1) (jl 0 l).length D:=by
    obtain⟨es,clock,hb,F,hs,hD,-⟩:=n.out;exact⟨es,clock,hb,F,hs,hD⟩
   have htd:=u'.tidy Ir;have hks: ∀es,D= .map es-> ∀p∈es,∃x,p.1= .string x:=by
    obtain⟨es,he,hk⟩:=u'.keysOf;intro es' I' p hp;rw [he] at I';injection I' with I'
    subst I';obtain⟨v,hv⟩:=hk p hp;obtain⟨x,-,hx,-⟩:=Maps.keyOf_str ju hv;exact⟨x,hx⟩
   have hpl:=Ku 0 l (λr hr=>M'.out r hr);have hsz:=u'.size_le;have hn2:=M.out;have hszb:Maps.size D<=200000000:=uK;have KK:=qj (nO (some (W.heap.size+1)) (wr.alloc (.cells #[.slice none 0 0, .slice none 0 0] 102)));have KS:=qj (E8 (W.heap.size+1) _ D _ (wr.alloc (.cells #[.slice none 0 0, .slice none 0 0] 102)) (u'.alloc _) (qv hszb SJ) uK);have hkeys:=qj (λss hp=>C.keys htd hks (ss:=ss) hp ((l.map kp).flatten) (λt=>(Pe 0 l t).symm));have U:=Blk.new wr 102 #[.slice none 0 0, .slice none 0 0];have q:Below wr.heap.size wr ((wr.alloc (.cells #[.slice none 0 0, .slice none 0 0] 102)).alloc (.cells #[.map (some (W.heap.size+1))] 141)):=((qZ _ _).alloc (qx _) _).alloc s8 _;replace U:=qj (U.alloc (.cells #[.map (some (W.heap.size+1))] 141));replace q:=qj q;obtain⟨w9,X'⟩: ∃w9,w9=(wr.alloc (.cells #[.slice none 0 0, .slice none 0 0] 102)).alloc (.cells #[.map (some (W.heap.size+1))] 141):=⟨_,rfl⟩;rw [<-X'] at KS U q;have htm:=qj (λt=>(Pe 0 l t));have htsh:=qj (rk 0 l);replace X':=qj X';clear u' htd hks hpl hsz hn2
   go_wp2_with fail;refine KK.mono ?_;rintro e w9' ⟨rfl,rfl⟩;rw [<-X'.out];rw [vY] at KS;clear KK
   go_wp2_with fail;have hwsz:Hid (wr.heap.size+1=(wr.alloc (.cells #[.slice none 0 0, .slice none 0 0] 102)).heap.size):=by rw [Hid,vY]
   refine KS.mono ?_;rintro e z ⟨v38,ss,rfl,hperm,ho38,hB38⟩;have hT:=hkeys.out ss hperm;obtain⟨T,P⟩: ∃T,T=Fb ((l.map kp).flatten):=⟨_,rfl⟩;rw [<-P] at hT;have hlT:ss.length=T.length:=by rw [<-hT,List.length_mergeSort]
   have X:=ho38;rw [hT,tW,hlT] at X;obtain⟨A38,c38,rfl⟩:=X_ X;have hTm:Hid (∀t∈T,t∈(jl 0 l).map (·.1)):=λt ht=>(htm.out t).2 ((Ud _ t).1 (by rw [<-P];exact ht))
   have hRR:Hid (R=(T,T.map λt=>yd t (jl 0 l))):=by
    rw [Hid,hR.out];unfold P0 Y5;rw [<-P];congr 1;exact jX λt _=>(Br t 0 l).symm
   have m':Below wr.heap.size wr z:=q.trans (hB38.mono q.size);have HL:=qj (λt (ht:t∈T) w' (hw:w'.heap[W.heap.size+1]? =wr.heap[W.heap.size+1]?)=>Te n C (hTm.out t ht) (htsh.out t (hTm.out t ht)) w' hw);have Z:Hid (W.heap.size+1<wr.heap.size):=by have:=HS.out;rw [Hid];omega
   have hVS:Hid (z.heap[W.heap.size+1]? =wr.heap[W.heap.size+1]?):=m'.block _ Z.out;have HJ0:Hid (ru z z wr.heap.size none 0 0 [] none 0 0 []):=⟨U.below hB38 U.lt,qP _ _ _ _,qP _ _ _ _,qE.refl _ _⟩;have HTS:=qj (qi (base':=0) X (qp _));have HKS:=qj (y.below m' y.lt);have HBS:=qj (d.trans (m'.mono d.size));have hBS':=qj m';have hTl:Hid (T.length<=200000000):=by
    have h1:=PE ((l.map kp).flatten) [];have h2:((l.map kp).flatten).length=((jl 0 l).map (·.1)).length:=by
     rw [dC]
    have h3:=Ku 0 l (λr hr=>M'.out r hr);rw [Hid,P];unfold Fb;rw [h2,zH,zF] at h1;have:=M.out;omega
   obtain⟨m,s⟩: ∃m,m=T.length:=⟨_,rfl⟩;rw [<-s] at HTS⊢;have hmb2:m<=200000000:=by rw [s];exact hTl.out
   obtain⟨i1,hi1,hy0,hy1,hy2⟩:=qA XJ;replace hi1:=qj hi1;replace hy0:=qj hy0;replace hy1:=qj hy1;replace hy2:=qj hy2;obtain⟨i2,hi2,hx0,hx1,hx2⟩:=qA BE;replace hi2:=qj hi2;replace hx0:=qj hx0;replace hx1:=qj hx1;replace hx2:=qj hx2;replace s:=qj s;replace P:=qj P;obtain⟨g,hw0⟩: ∃g,g=wr:=⟨_,rfl⟩;subst hw0;have HB8:=qj HJ0.blk;clear KS hperm ho38 hB38 hT hlT X U q hkeys y d m' htsh
   go_wp2_with fail;go_loopw [40] (λv40 wr=> ∃(j cx cy:Nat) (Ax Ay:Option Addr) (vs:List Value),v40=(j:Value)/\j<=m/\Hid (ru z wr g Ax j cx (T.take j) Ay j cy vs)/\Hid (vs.length=j/\ ∀(i:Nat) (t:List UInt8),(T.take j)[i]? =some t-> ∃A c,vs[i]? =some (.slice A (yd t (jl 0 l)).length c)/\g.ownsRow (W.heap.size+2) 3 1 (.slice A (yd t (jl 0 l)).length c) (yd t (jl 0 l)).length ((yd t (jl 0 l)).map NV))) (λv40 _=>m-(intOf v40).toNat)
   case atStart=>exact⟨0,0,0,none,none,[],rfl,qp _,HJ0,⟨rfl,λi t h=>by simp at h⟩⟩
   case round=>
    clear HJ0;obtain⟨j,cx,cy,Ax,Ay,vs,rfl,hjm,f,HV⟩:=hrel;by_cases D':j<m
    ·have hlt2':(j:Int)<(m:Int):=uK
     have hj0:(0:Int)<=(j:Int):=uK;have L:j<T.length:=by rw [<-s.out];exact D'
     obtain⟨adT,u,rfl,-,K,N9⟩:=(Reads.zY (Kd HTS f.jZ HB8 FV)).at_ D';rw [qD,qX L] at K;have hu':u=STR T[j]:=(zy K).symm;subst hu';have J:T.take (j+1)=T.take j++[T[j]]:=by rw [qs,qX L];rfl
     have hLj:=qj (HL.out T[j] (zx L));unfold STR at N9;obtain⟨Y,U'⟩: ∃Y,Y=(⟨T[j].toArray⟩:ByteArray):=⟨_,rfl⟩;rw [<-U'] at N9 hLj;have hSv:Hid (STR T[j]= .string Y):=by rw [Hid,U'];rfl
     generalize T[j]=t at*
     have b0:wr.cell? g.heap.size=some (.slice Ax j cx):=f.blk.cell 0;have hq1:j+1<=maxLen:=SJ;have hq2:(j+1)*16<=140737488355328:=uK;have hq3:(j+1)*24<=140737488355328:=uK;have hq4:z.heap.size<=(wr.alloc (.cells #[.string Y] 9)).heap.size:=qv f.jZ.size s8;have hmap:Hid (∀V,qE [g.heap.size] z V->V.heap[W.heap.size+1]? =g.heap[W.heap.size+1]?):=λV hV=>
      (hV.block _ (by have:=hBS'.size;have:=Z.out;omega) (by rw [qy];have:=Z.out;omega)).trans hVS.out
     replace U':=qj U';replace J:=qj J;clear K
     go_wp2_with (first
      |(at_builtin;refine qF _ rfl (.tmp 45) (.tmp 47) 99 rfl z 9 i1 (.string "".toUTF8) 1 16 jD hi1 hy0 hy1 hy2 rfl uK Ax j cx _ rfl (f.ox.alloc _) (wr.heap.size+1) (some ⟨wr,0,none⟩) 1 1 [.string Y] rfl (zU wr _ _) (one_one rfl) hq1 hq2 hq4 ?_;intro A4 c4 w4 ho4 hg4 hs4;rw [<-hSv.out] at ho4;obtain⟨⟨k0,k0f⟩,hJ4⟩:=f.l6 _ hg4 ho4;have b1:(w4.setCell ⟨g,0,none⟩ (.slice A4 (j+1) c4)).cell? ⟨g,1,none⟩=some (.slice Ay j cy):=hJ4.blk.cell 1;have iL:=qj hJ4;clear ho4 hg4 hs4 hJ4)
      |(at_lookup;obtain⟨Av,cv,hrun,OX⟩:=hLj.out _ (hmap.out _ iL.jZ);replace OX:=qj OX;refine Ui _ rfl _ _ 141 rfl _ _ _ rfl rfl hrun ?_;clear hrun)
      |(at_builtin;refine qF _ rfl (.tmp 51) (.tmp 55) 100 rfl z 62 i2 (.slice none 0 0) 1 24 underlying100 hi2 hx0 hx1 hx2 rfl uK Ay j cy _ rfl (iL.oy.alloc _) (w4.heap.size+1) (some ⟨w4,0,none⟩) 1 1 [.slice Av (yd t (jl 0 l)).length cv] rfl (Gl w4 _ _ _ _) (one_one rfl) hq1 hq3 (qv iL.jZ.size s8) ?_;intro A6 c6 w6 ho6 hg6 hs6;obtain⟨⟨k1,k1f⟩,hJ6⟩:=iL.l7 _ hg6 ho6;have HJ6:=qj hJ6;clear ho6 hg6 hs6 hJ6))
     have HV2:Hid ((vs++[Value.slice Av (yd t (jl 0 l)).length cv]).length=j+1/\ ∀(i:Nat) (G:List UInt8),(T.take (j+1))[i]? =some G-> ∃A c,(vs++[Value.slice Av (yd t (jl 0 l)).length cv])[i]? =some (.slice A (yd G (jl 0 l)).length c)/\g.ownsRow (W.heap.size+2) 3 1 (.slice A (yd G (jl 0 l)).length c) (yd G (jl 0 l)).length ((yd G (jl 0 l)).map NV)):=by
      obtain⟨h1,h2⟩:=HV.out;have htl:(T.take j).length=j:=by rw [qh];have:=s.out;omega
      refine⟨by rw [qK,h1];rfl,λi G hi=> ?_⟩
      rw [J.out] at hi;rcases jE i j with h|h
      ·rw [q_ uK] at hi
       obtain⟨A,c,a,b⟩:=h2 i G hi;exact⟨A,c,by rw [q_ uK];exact a,b⟩
      ·rw [qm uK,htl] at hi
       have h0:i-j=0:=by
        rcases zA (i-j) with h|h
        ·exact h
        ·rw [qO SZ] at hi;cases hi
       rw [h0] at hi;have e:t=G:=by simpa using hi
       subst e;exact⟨Av,cv,by rw [qm uK,h1,h0];rfl,OX.out⟩
     have HJ7:=HJ6;rw [<-J.out] at HJ7;clear f HV iL HJ6 OX hLj hmap b0 b1 k0 k0f k1 k1f;go_roundw
     case rel=>exact⟨j+1,c4,c6,A4,A6,_,by first|rfl|simp,uK,HJ7,HV2⟩
     case measure=>simp [intOf];omega
    ·obtain rfl:j=m:=uK
     have hge: ¬(j:Int)<(j:Int):=uK;rw [qH (by rw [<-s.out];exact qx _)] at f HV
     have b0:wr.cell? g.heap.size=some (.slice Ax j cx):=f.blk.cell 0;have b1:wr.cell? ⟨g,1,none⟩=some (.slice Ay j cy):=f.blk.cell 1;have z':=qj (f.jZ.blk HKS (by rw [qy];have:=Z.out;omega))
     go_wp2_with (first|(refine qC rfl 102 _ _ rfl W (ixV Ax j cx Ay j cy) rfl rfl 102 #[.slice none 0 0, .slice none 0 0] z'.out Yg rfl (fK _ _ _ _ _ _) ?_))
     refine qW (GL rfl _ _ W (ixV Ax j cx Ay j cy) rfl (qN _ W 102 _ (ixV Ax j cx Ay j cy) (0,0) _ (z'.row _) Xx rfl Yg)) rfl ?_;rw [hRR.out];have hszS:W.heap.size<=z.heap.size:=HBS.size;refine⟨Ax,j,cx,Ay,j,cy,⟨s.out,by rw [zH];exact s⟩,rfl,Kp (qi f.ox hszS) z' _ FV,⟨vs,Kp (qi f.oy hszS) z' _ FV,by rw [zH];exact s.symm,λi l' hi=> ?_⟩,zu (HBS.trans (f.jZ.below (λk hk=>by rw [qy.1 hk];have:=Z.out;omega) hszS)) (qx _) _⟩
     obtain⟨t,ht,rfl⟩: ∃t,T[i]? =some t/\yd t (jl 0 l)=l':=by
      rw [qD] at hi;cases hx:T[i]?with
      |none=>rw [hx] at hi;cases hi
      |some t=>rw [hx] at hi;exact⟨t,rfl,by simpa using hi⟩
     obtain⟨A',c',a,b⟩:=HV.out.2 i t ht;exact⟨A',c',a,Kp (qi (Kd (qG b hBS') f.jZ HB8 FV) uK) z' _ FV⟩
end
end Go.Proofs.YtfnlfpcfkbdcmaaGreatDoor
