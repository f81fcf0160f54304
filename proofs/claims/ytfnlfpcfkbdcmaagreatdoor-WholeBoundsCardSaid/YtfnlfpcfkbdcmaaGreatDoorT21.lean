import Derived.Test.YtfnlfpcfkbdcmaaGreatDoorT18
import Derived.Test.YtfnlfpcfkbdcmaaGreatDoorT19
import Derived.Test.YtfnlfpcfkbdcmaaGreatDoorT20
set_option linter.unusedSimpArgs false
set_option linter.unusedVariables false
set_option maxRecDepth 100000
set_option maxHeartbeats 0
open Go.Proofs.Tryz
namespace Go.Proofs.YtfnlfpcfkbdcmaaGreatDoor
section
open Go.RowKit
variable {A:q'}{N d:O}{W:I}{b lf ls:qn}
theorem WA {at_:O} (h:U ls=265) (h1:(XR ls lf b at_).1=0) (h2:(XR ls lf b at_).2.1=true):
  (XR ls lf b at_).2.2.1.1<256/\0<=(XR ls lf b at_).2.2.1.2.1/\(XR ls lf b at_).2.2.1.2.1<=1000:=by
 obtain⟨R,c⟩:=zn (XR ls lf b at_);rw [<-c] at h1 h2⊢;unfold XR at c;by_cases d:G5 ls b at_≠0
 ·rw [qk d] at c;rw [c] at h1;exact absurd h1 d
 ·rw [qJ d] at c;obtain⟨s,k,g⟩:=gQ (by simpa using d);rw [g] at c;by_cases e:(s:V)=256
  ·rw [qk e] at c;rw [c] at h2;cases h2
  ·rw [qJ e] at c;by_cases f:(s:V)<256
   ·rw [qk f] at c;rw [c];refine⟨?_,by show(0:V)<=0;omega,by show(0:V)<=1000;omega⟩;show s<256;omega
   ·rw [qJ f,show((s:O):V).toNat=s from rfl] at c;rw [c];dsimp only;generalize Hr ls b at_=a at*;unfold YC;split
    ·exact⟨by show 0<256;omega,by show(0:V)<=0;omega,by show(0:V)<=1000;omega⟩
    ·split
     ·exact⟨by show 0<256;omega,by show(0:V)<=0;omega,by show(0:V)<=1000;omega⟩
     ·split
      ·exact⟨by show 0<256;omega,by show(0:V)<=0;omega,by show(0:V)<=1000;omega⟩
      ·have j:=Zr b a (s-257);have i:=zZ (show 0<2 by omega) (show s-257<=8 by omega);refine⟨by show 0<256;omega, ?_, ?_⟩
       ·show(0:V)<=((2+2^(s-257)+kM b a (s-257):O):V);omega
       ·show((2+2^(s-257)+kM b a (s-257):O):V)<=1000;have h8:2^8=256:=rfl;rw [h8] at i;generalize 2^(s-257)=P at*;omega
theorem gY (h:U ls=265): ∀(f:O) (c:V) (at_:O) (a:S (O×V×V)),(∀t∈a,t.1<256)-> ∀t∈(ae ls lf b f c at_ a).2.1,t.1<256
 |0,c,at_,a,_,t,ht=>by simp [ae] at ht
 |f+1,c,at_,a,d,t,ht=>by
  unfold ae at ht;split at ht
  ·cases ht
  ·rename_i h1
   split at ht
   ·split at ht
    ·cases ht
    ·exact d t ht
   ·rename_i h2
    split at ht
    ·cases ht
    ·refine gY h f _ _ _ (λe g=> ?_) t ht
     rcases zt.1 g with h3|h3
     ·exact d e h3
     ·rw [qy.1 h3];exact(WA h (by simpa using h1) (by simpa using h2)).1
theorem UR {ls lf b:S AB}: ∀(f:O) (c:V) (at_:O) (a:S (O×V×V)),0<=c->((ae ls lf b f c at_ a).2.1.length:V)<=U a+c
 |0,c,at_,a,d=>by unfold ae;show((0:O):V)<=_;omega
 |f+1,c,at_,a,d=>by
  unfold ae;split
  ·show((0:O):V)<=_;omega
  ·split
   ·split
    ·show((0:O):V)<=_;omega
    ·show((U a:O):V)<=_;omega
   ·split
    ·show((0:O):V)<=_;omega
    ·rename_i h3
     have:=UR (ls:=ls) (lf:=lf) (b:=b) f (c-max 1 (XR ls lf b at_).2.2.1.2.1) (XR ls lf b at_).2.2.2 (a++[(XR ls lf b at_).2.2.1]) M;rw [qK,zJ] at this;omega
theorem TR.beside {m:I} {i g cap at_ o j e gf n f b0:O} {l:S O} (h:TR W i g A N cap b at_ o j e ls gf n f lf) (d:qE l W m) (c: ∀k∈l,b0<=k) (h1:i<b0) (h2:g<b0) (h3: ∀k∈K' A,k<b0) (h4:e<=b0) (h5:f<=b0):
  TR m i g A N cap b at_ o j e ls gf n f lf:=
 ⟨⟨d.blk h.t0.blk (λa=>by have:=c _ a;omega),h.t0.rd.jZ d (λa=>by have:=c _ a;omega) (λk a p=>by have:=c _ p;have:=h3 k a;omega),h.t0.ne⟩,
  h.cs.jZ d (λk a=> .inr (qv h4 (c k a))),h.cf.jZ d (λk a=> .inr (qv h5 (c k a))),h.s1,h.s2,h.lS,h.lF⟩
theorem nP (l:S (O×V×V)) (t:O×V×V):kR (l++[t])=kR l++itC t:=by simp [kR]
theorem Ip (t:O×V×V): ∀u∈itC t,u.oneCell'=true:=by
 intro u a;simp only [itC,qL,xj,Ze] at a;rcases a with rfl|rfl|rfl<;>rfl
theorem Md (w:I) (t:O×V×V) (a:TypeId):E' (w (Y (itC t).toArray a)) ((w:O)+1) 3 w 1 (itC t):=by
 refine⟨rfl,λ_=>⟨_,rfl,ze _,λj u b=> ?_⟩⟩;have e:((w:O):Addr).add j=⟨w,j,none⟩:=by unfold Addr.add;split<;>simp_all
 rw [e,(F'.new w a (itC t).toArray).cell j];simpa using b
def po (w:I) (r:V×S (O×V×V)) (e:Ending) (w':I):Prop:=
 ∃b a,e=t' (BA #[Z b r.2 a,e' r.1])/\xp w' w 193 3 (Z b r.2 a) r.2 (kR r.2)/\r' w w w'
theorem We {a cap at_:O} {f i:la} (h:TR0 W a d f i A N cap b at_) (u:la) (g:a∉K' A):
  TR0 (W.setCell ⟨a,1,none⟩ u) a d u i A N cap b at_/\TR0 (W.setCell ⟨a,2,none⟩ u) a d f u A N cap b at_:=by
 have j:=h.ne;refine⟨⟨?_,h.rd.jZ ((qE.refl [a] W).zh (qy.2 rfl) u) (by simpa using λe=>j e.symm) (λk c=>by rw [qy];rintro rfl;exact g c),h.ne⟩,
  ⟨?_,h.rd.jZ ((qE.refl [a] W).zh (qy.2 rfl) u) (by simpa using λe=>j e.symm) (λk c=>by rw [qy];rintro rfl;exact g c),h.ne⟩⟩
 ·simpa using h.blk.zh 1 u
 ·simpa using h.blk.zh 2 u
theorem Tx (Ab:q') (n c B s:O) (b:qn) (w:I) (h:E' w B 1 Ab n (b.map B8)) (hB:B<=(w:O)) (hn:n<=100000000) (hmost:s<=1000000):
  xG 249 #[Z Ab n c,s] w (po w (B2 b s)):=by
 have KN:=T (P7 Ab n c B b w h hB M);obtain⟨R,r⟩:=zn (B2 b s);rw [<-r];unfold B2 at r;obtain⟨cL,Y'⟩:=zn (gq b 265 0);rw [<-Y'] at r;obtain⟨r2,U'⟩:=zn (gq b 12 cL.2.2);rw [<-U'] at r;have hL1:G (cL.1=0->U cL.2.1=265):=λh=>by rw [Y'] at h⊢;exact(Ue h).1
 have hL2:G (r2.1=0->U r2.2.1=12):=λh=>by rw [U'] at h⊢;exact(Ue h).1
 have K1:=T (λW a j hh v2 A N cap (h:TR0 W a j hh v2 A N cap b 0)=>DY W a j hh v2 A N cap 0 265 b M h);have K2:=T (λW a j hh v2 A N cap (h:TR0 W a j hh v2 A N cap b cL.2.2)=>DY W a j hh v2 A N cap cL.2.2 12 b M h);rw [<-Y'] at K1;rw [<-U'] at K2;obtain⟨E1,ls,a1⟩:=cL;obtain⟨E2,lf,a2⟩:=r2;dsimp only at r K1 K2 hL1 hL2;replace r:=T r;have hm0: ¬(s:V)<0:=M;obtain⟨i0,hi,iz0,iz1,iz2⟩:=xt Ed;clear h hB Y' U';go_in;go_wp2_with fail;refine KN.mono ?_;rintro e F ⟨j,A,cap,rfl,OX,hgr,hAl,hB1⟩;have HT2:G (TR0 (F (Y #[mJ j,mJ none,mJ none] 382)) F j (mJ none) (mJ none) A n cap b 0):=
  ⟨F'.new _ _ _,OX.fresh (j1 _),λe=>by have:=OX.blk.lt;omega⟩
 have HB2:G (r' w w (F (Y #[mJ j,mJ none,mJ none] 382))):=hB1.alloc hB1.size _;have HAl:=T hAl;have HAg:G (∀k∈K' A,k<(F:O)):=λk g=>(zj OX.own k g).2;have u:G ((w:O)<=j/\j<(F:O)):=⟨hgr,OX.blk.lt⟩;have HS:G ((F:O)<(F (Y #[mJ j,mJ none,mJ none] 382):O)):=by rw [Hid];simp
 clear OX hgr hAl hB1;go_wp2_with fail;generalize F (Y #[mJ j,mJ none,mJ none] 382)=w2,(F:O)=a at*;have HgA:G (a∉K' A):=λg=>by have:=HAg _ g;omega
 have K1a:=T (K1 w2 a j _ _ A n cap HT2);unfold EA PT at K1a;refine K1a.mono ?_;rintro e t ⟨hrd3,Q',J'⟩;have N6:=T (HT2.step hrd3 Q');have HB3:=T (HB2.trans (Q'.below (λk g=>by rw [qy.1 g];exact u.out.1) HB2.size));have HS3:G (a<(t:O)):=qB HS Q'.size;have fc1:i' t ⟨a,1,none⟩=J (mJ none):=N6.cell.2.1;have ff1:t.frozen? ⟨a,1,none⟩=false:=N6.blk.frozen 1;have m':G ((w:O)<=a):=by have:=u.out;rw [Hid];omega
 clear hrd3;rcases J' with⟨G',rfl⟩|⟨G',z,P',u',rfl,hcs,X,I'⟩
 ·have Q:=T (r.out.trans (qk G'));have hEz:((E1:V)==0)=false:=by simpa using G'
  have hEn:((E1:V) !=0)=true:=by simpa using G'
  have M':G (r' w w (t.setCell ⟨a,1,none⟩ (mJ none))):=HB3.setCell (p:=⟨a,1,none⟩) m' _;clear Q';go_wp2;go_ret2;unfold po;rw [Q.out];exact⟨none,0,rfl,qP _ _ _ _,M'⟩
 ·subst G';have HT4:=T (We N6 (mJ z) HgA).1;have hm4:qE [a] t (t.setCell ⟨a,1,none⟩ (mJ z)):=(qE.refl [a] _).zh (p:=⟨a,1,none⟩) (qy.2 rfl) _;have D':a<P'/\j<P':=by have:=u.out;have:=HS.out;omega
  have HC4:=T (hcs.jZ hm4 (λk g=>by rw [qy.1 g];exact .inl D'.1));have hsz4:(t.setCell ⟨a,1,none⟩ (mJ z):O)=(t:O):=s8;have M':G (r' w w (t.setCell ⟨a,1,none⟩ (mJ z))):=HB3.setCell (p:=⟨a,1,none⟩) m' _;have hS4:G (a<(t.setCell ⟨a,1,none⟩ (mJ z):O)/\u'<=(t.setCell ⟨a,1,none⟩ (mJ z):O)):=by rw [Hid,hsz4];exact⟨HS3,I'⟩
  have HL1:G (U ls=265):=hL1 rfl;clear Q' hm4 hsz4 hcs X I';go_wp2_with fail;generalize t.setCell ⟨a,1,none⟩ (mJ z)=w4 at*;clear fc1 ff1;have K2a:=T (K2 w4 a j _ _ A n cap HT4);unfold EA PT at K2a;refine K2a.mono ?_;rintro e o ⟨hrd5,d',J'⟩;have N':=T (HT4.step hrd5 d');have HB5:=T (M'.trans (d'.below (λk g=>by rw [qy.1 g];exact u.out.1) M'.size));have HC5:=T (HC4.jZ d' (λk g=>by rw [qy.1 g];exact .inl D'.2));have hS5:G (a<(o:O)/\u'<=(o:O)):=⟨qB hS4.out.1 d'.size,qv hS4.out.2 d'.size⟩;have fc2:i' o ⟨a,2,none⟩=J (mJ none):=N'.cell.2.2;have ff2:o.frozen? ⟨a,2,none⟩=false:=N'.blk.frozen 2;clear hrd5;rcases J' with⟨S',rfl⟩|⟨S',gf,N9,hif,rfl,hcf,X,I'⟩
  ·have Q:G (R=(E2,[])):=by rw [Hid,r.out,qJ s8,qk S']
   have hEz:((E2:V)==0)=false:=by simpa using S'
   have hEn:((E2:V) !=0)=true:=by simpa using S'
   have Z':G (r' w w (o.setCell ⟨a,2,none⟩ (mJ none))):=HB5.setCell (p:=⟨a,2,none⟩) m' _;clear d' D';go_wp2;go_ret2;unfold po;rw [Q.out];exact⟨none,0,rfl,qP _ _ _ _,Z'⟩
  ·subst S';have hgf:a<N9/\j<N9:=by have:=u.out;have:=hS4.out.1;omega
   have hm6:qE [a] o (o.setCell ⟨a,2,none⟩ (mJ gf)):=(qE.refl [a] _).zh (p:=⟨a,2,none⟩) (qy.2 rfl) _;have hsz6:(o.setCell ⟨a,2,none⟩ (mJ gf):O)=(o:O):=s8;have HT6:G (TR (o.setCell ⟨a,2,none⟩ (mJ gf)) a j A n cap b a2 z P' u' ls gf N9 hif lf):=
    ⟨(We N' (mJ gf) HgA).2,HC5.jZ hm6 (λk g=>by rw [qy.1 g];exact .inl D'.1),hcf.jZ hm6 (λk g=>by rw [qy.1 g];exact .inl hgf.1), .inl D'.2, .inl hgf.2,HL1,hL2.out rfl⟩
   have Z':G (r' w w (o.setCell ⟨a,2,none⟩ (mJ gf))):=HB5.setCell (p:=⟨a,2,none⟩) m' _;have ln:G (a<(o.setCell ⟨a,2,none⟩ (mJ gf):O)/\u'<=(o.setCell ⟨a,2,none⟩ (mJ gf):O)/\hif<=(o.setCell ⟨a,2,none⟩ (mJ gf):O)):=by rw [Hid,hsz6];exact⟨hS5.out.1,hS5.out.2,I'⟩
   obtain⟨x,O'⟩:=zn (ae ls lf b (s+1) s a2 []);have Q:G (R=(x.1,x.2.1)):=by rw [Hid,r.out,qJ s8,qJ s8,O']
   replace O':G (ae ls lf b (s+1) s a2 []=x):=O'.symm;clear d' hm6 hsz6 hcf X I' D' hgf;go_wp2_with fail;generalize o.setCell ⟨a,2,none⟩ (mJ gf)=K at*;clear fc2 ff2;go_loopw [1,4] (λhh v4 wr=> ∃(f z' m c3:O) (uK:V) (H:S (O×V×V)) (cK:q'),hh=(uK:la)/\v4=Z cK m c3/\0<=uK/\uK<=1000000/\m<=1000000/\G (m=U H)/\G ((U H:V)+uK<=s)/\G (uK+1<=(f:V))/\G (ae ls lf b f uK z' H=x)/\G (TR wr a j A n cap b z' z P' u' ls gf N9 hif lf)/\G (xp wr K 193 3 (Z cK m c3) m (kR H))/\G (r' w w wr)/\G ((K:O)<=(wr:O))) (λhh _ _=>(intOf hh).toNat)
   ·exact⟨s+1,a2,0,0,s,[],none,rfl,rfl,M,M,M,rfl,by rw [Hid];show((0:O):V)+_<=_;omega,by rw [Hid];omega,O',HT6,qP _ _ _ _,Z',qx _⟩
   ·obtain⟨f,z',m,c3,uK,H,cK,rfl,rfl,hM0,hM1,hmm,HM,HMS,HF,HG2,HT,HO,ih,HSZ⟩:=hrel;obtain⟨f,rfl⟩: ∃f',f=f'+1:=⟨f-1,by have:=HF.out;omega⟩;have P:=T (EE wr a j A n cap b z' z P' u' ls gf N9 hif lf HT);have C:=HG2.out;unfold ae at C;have ck:= WA (ls:=ls) (lf:=lf) (b:=b) (at_:=z') HL1.out;generalize XR ls lf b z'=qj at*;unfold dh PT QJ at P;obtain⟨E,more,⟨i,d,l2⟩,y⟩:=qj;dsimp only at P C ck;replace C:=T C;replace ck:=T ck;clear HG2;have hpre: ∀(hE:E≠0\/E=0),True:=λ_=>trivial;clear hpre;by_cases hE:E=0
    focus
     subst hE;cases more
     focus
      have L:G (x=if cJ b y≠0 then(2,[],y) else(0,H,y)):=by rw [Hid,<-C.out,qJ s8,qk rfl]
      go_wp2_with fail;refine zC P ?_;rintro l ⟨cB,q⟩;have cY:=T ((HT.step cB q).fresh (j1 (Y #[gR (i:V),d,l2] 193)));have iv:=T ((q.own HO (λk g hk'=>by have:=(zj HO k g).1;rw [qy.1 hk'] at this;have:=u.out;have:=ln.out.1;omega)).alloc (Y #[gR (i:V),d,l2] 193))
     rotate_left
     ·obtain⟨hl0,hl1,hl1b⟩:=ck rfl rfl;obtain⟨v,hmx⟩:=zn (max 1 d);have hmx':max 1 d=v:=hmx.symm;have hmx1:1<=v/\v<=1000:=M;have iL:=C.out;rw [qJ s8,qJ s8,hmx'] at iL;have wm:DW (uK-v)=uK-v:=SX;clear hmx
      all_goals
       go_wp2_with fail;refine zC P ?_;rintro l ⟨cB,q⟩;have cY:=T ((HT.step cB q).fresh (j1 (Y #[gR (i:V),d,l2] 193)));have iv:=T ((q.own HO (λk g hk'=>by have:=(zj HO k g).1;rw [qy.1 hk'] at this;have:=u.out;have:=ln.out.1;omega)).alloc (Y #[gR (i:V),d,l2] 193));have D:G (r' w w (l (Y #[gR (i:V),d,l2] 193))):=by
        have h:=ih.trans (q.below (λk g=>by rw [qy.1 g];exact u.out.1) ih.size);exact h.alloc h.size _
       have HSZ9:G ((K:O)<=(l (Y #[gR (i:V),d,l2] 193)).heap.size):=by have:=HSZ.out;have:=q.size;rw [Hid];simp;omega
       have q1:i' (l (Y #[gR (i:V),d,l2] 193)) ⟨l,1,none⟩=J (d:la):=(F'.new l 193 #[gR (i:V),d,l2]).cell 1;clear cB q HT HO ih HSZ;by_cases hlt:uK<v
       ·have L:G (x=(6,[],y)):=by rw [Hid,<-iL,qk hlt]
        have hlt':uK-v<0:=M;clear iL hlt;go_wp2;go_ret2;unfold po;rw [Q.out,L.out];exact⟨none,0,rfl,qP _ _ _ _,D⟩
       ·rw [qJ hlt] at iL;replace iL:=T iL;have hlt': ¬uK-v<0:=M;have HSZn:=qv HSZ9 (show(l (Y #[gR (i:V),d,l2] 193)).heap.size<=((l (Y #[gR (i:V),d,l2] 193)) (Y #[gR (i:V),d,l2] 193)).heap.size by simp);have hm1:m+1<=maxLen:=SJ;have hm2:(m+1)*24<=140737488355328:=M;have hsz9:(l (Y #[gR (i:V),d,l2] 193)).heap.size=(l:O)+1:=s8;go_wp2_with (first
         |(refine ja rfl 193 _ rfl l rfl 193 #[gR (i:V),e' d,e' l2] (0,0) _ (F'.new l _ _) jc rfl vq ?_)
         |(at_builtin;refine qF _ rfl (.tmp 57) (.tmp 59) 135 rfl K 193 i0 (.agg #[gR 0,e' 0,e' 0]) 3 24 underlying135 hi iz0 iz1 iz2 rfl M cK m c3 _ rfl (iv.alloc _) ((l (Y #[gR (i:V),e' d,e' l2] 193)).heap.size+1) (some ⟨(l (Y #[gR (i:V),e' d,e' l2] 193)).heap.size,0,none⟩) 1 1 (itC (i,d,l2)) (by first|rfl|(rw [hsz9];rfl)) (Md _ (i,d,l2) _) (Ip _) hm1 hm2 HSZn ?_;intro A11 c11 X' ho11 hg11 _hs11;have p':qE (K' cK) ((l (Y #[gR (i:V),e' d,e' l2] 193)) (Y #[gR (i:V),e' d,e' l2] 193)) X':=(qE.refl _ _).grown hg11 (λk g=> .inl g);replace ho11:=T ho11;replace p':=T p';clear hg11 _hs11))
        have hHO10:=iv.alloc (Y #[gR (i:V),d,l2] 193);have X: ∀k∈K' cK,(K:O)<=k:=λk g=>(zj iv k g).1;have HT11:=T ((cY.fresh (j1 (Y #[gR (i:V),d,l2] 193))).beside p' X ln.out.1 (by have:=u.out;have:=ln.out.1;omega) (λk g=>by have:=HAg k g;have:=ln.out.1;omega) ln.out.2.1 ln.out.2.2);have HB11:G (r' w w X'):=(D.alloc D.size (Y #[gR (i:V),d,l2] 193)).trans (p'.below (λk g=>by have:=X k g;have:=ln.out.1;have:=m'.out;omega) (qv D.size s8));have HO11:G (xp X' K 193 3 (Z A11 (m+1) c11) (m+1) (kR (H++[(i,d,l2)]))):=by rw [Hid,nP];exact ho11.out
        have HSZ11:G ((K:O)<=(X':O)):=qv HSZn p'.size;have hMS:=HMS.out;have hM:=HM.out;have hF:=HF.out;clear hHO10 X HSZn;refine xk ?_;exact⟨f,y,m+1,c11,uK-v,H++[(i,d,l2)],A11,xg,xg,M,M,M,by rw [Hid,qK,zJ,hM],by rw [Hid,qK,zJ];omega,by rw [Hid];omega,iL,HT11,HO11,HB11,HSZ11⟩
    rotate_left
    focus
     have L:G (x=(E,[],y)):=by rw [Hid,<-C.out,qk hE]
     have hEz:((E:V)==0)=false:=by simpa using hE
     have hEn:((E:V) !=0)=true:=by simpa using hE
     go_wp2_with fail;refine zC P ?_;rintro l ⟨cB,q⟩
    rotate_left
    all_goals
     have D:G (r' w w (l (Y #[gR (i:V),d,l2] 193))):=by
      have h:=ih.trans (q.below (λk g=>by rw [qy.1 g];exact u.out.1) ih.size);exact h.alloc h.size _
    ·have KP:=T (me (l (Y #[gR (i:V),d,l2] 193)) j A n cap y b cY.t0.rd);have q0:=cY.t0.cell.1;clear cB q HT HO ih;go_wp2_with fail;refine zC KP ?_;intro w10 hD;have HO10:=T (qG iv (hD.below _));have HB10:=T (D.trans (hD.below _));clear q0 hD;by_cases hp:cJ b y=0
     ·have hfin2:G (x=(0,H,y)):=by rw [Hid,L.out,qJ (by simpa using hp)]
      rw [hp];clear hp;have HOF:=T (qi HO10 (show (w:O)<=(K:O) by have:=ln.out.1;have:=m'.out;omega));go_wp2;go_ret2;unfold po;rw [Q.out,hfin2.out];have hmo:=HM.out;subst hmo;exact⟨cK,c3,rfl,HOF,HB10⟩
     ·have hfin2:G (x=(2,[],y)):=by rw [Hid,L.out,qk (by simpa using hp)]
      have h2:cJ b y=2:=by
       revert hp;unfold cJ;split<;>simp
      rw [h2];clear hp h2;go_wp2;go_ret2;unfold po;rw [Q.out,hfin2.out];exact⟨none,0,rfl,qP _ _ _ _,HB10⟩
    ·clear cB q HT HO ih;go_wp2;go_ret2;unfold po;rw [Q.out,L.out];exact⟨none,0,rfl,qP _ _ _ _,D⟩
theorem nu (b:qn) (a:O):(∀t∈(B2 b a).2,t.1<256)/\(B2 b a).2.length<=a:=by
 unfold B2;split
 ·exact⟨λt ht=>(by cases ht),qp _⟩
 ·rename_i h1;split
  ·exact⟨λt ht=>(by cases ht),qp _⟩
  ·have c:=(Ue (by simpa using h1)).1;refine⟨λt ht=>gY c _ _ _ _ (λt ht=>by cases ht) t ht, ?_⟩;have:=UR (ls:=(gq b 265 0).2.1) (lf:=(gq b 12 (gq b 265 0).2.2).2.1) (b:=b) (a+1) a (gq b 12 (gq b 265 0).2.2).2.2 [] M;simp only [zF] at this;dsimp only;omega
def VJ (W:I) (r:V×qn) (e:Ending) (a:I):Prop:=
 ∃b c,e=t' (BA #[Z b r.2 c,e' r.1])/\E' a a 1 b r.2 (r.2.map B8)/\r' W W a
theorem Er (W:I) (gf gc way n p:O) (x:q') (c1:O) (j:qn) (A:q') (N cap:O) (b:qn) (c:Cu) (h:Fr W gf gc way n p (Z x j c1) A N cap b c) (hr:E' W (W:O) 1 x j (j.map B8)) (hn:n<=32768) (hy:U j<=100000000):
  xG 225 #[mJ gf] W (VJ W (bb way n p j)):=by
 have H:=T h;have HR:=T hr;obtain⟨R,a⟩:=zn (bb way n p j);rw [<-a];unfold bb at a;obtain⟨q0,q1,q2,q3,m⟩:=h.cells;clear h hr;by_cases L:way=0
 ·rw [qk L] at a;subst L;by_cases cB:n=p
  ·subst cB;have o:=T (a.trans (qJ s8));have hd:((n:V) !=(n:V))=false:=s8;clear a;go_enter func225,JO;go_wp2;go_quiet (fail);have G':i' (W.drewN nq) ⟨gf,4,none⟩=J (Z x j c1):=m;go_wp2;go_ret2;unfold VJ;rw [o.out];exact⟨x,c1,rfl,HR.drewN _,((Dr.refl W).drewN nq).below _⟩
  ·have o:=T (a.trans (qk cB));have hd:((n:V) !=(p:V))=true:=SZ;have I': ¬(n:V)=(p:V):=M;clear a cB;go_enter func225,JO;go_wp2;go_quiet (fail);go_wp2;go_ret2;unfold VJ;rw [o.out];exact⟨none,0,rfl,E'.none_,((Dr.refl W).drewN nq).below _⟩
 ·rw [qJ L] at a;have J':((way:V)==0)=false:=SZ;have D': ¬(way:V)=0:=M;have u:=T (Tx x j c1 (W:O) n j W.drew (HR.drew) (qx _) hy M);obtain⟨cL,u'⟩:=nu j n;generalize B2 j n=qj at*;obtain⟨Q,l⟩:=qj;dsimp only at a cL u';unfold po at u;dsimp only at u;clear L;replace cL:=T cL;by_cases iv:Q=0
  focus
   subst iv;rw [qJ s8] at a;have F:=T (λA c B w h hB=>MU A c B (n:V) l w h hB M cL M);generalize Yc (n:V) l=P at*;obtain⟨uK,cK⟩:=P;dsimp only at a F;by_cases cY:uK=0
   focus
    subst cY;rw [qJ s8] at a;by_cases d':U cK<n
    focus
     have o:=T (a.trans (qk d'));have z':(U cK:V)<(n:V):=M
    rotate_left
    focus
     have o:=T (a.trans (qJ d'));have z': ¬(U cK:V)<(n:V):=M
    rotate_left
   rotate_left 2
   focus
    have o:=T (a.trans (qk cY));have p':((uK)==0)=false:=by simpa using cY
    have m':((uK) !=0)=true:=by simpa using cY
   rotate_left
  rotate_left 3
  focus
   have o:=T (a.trans (qk iv));have p':((Q)==0)=false:=by simpa using iv
   have m':((Q) !=0)=true:=by simpa using iv
  rotate_left
  all_goals
   clear a;go_enter func225,JO;go_wp2_with fail;refine zv 14 (λW=>i' W ⟨gf,4,none⟩=J (Z x j c1)/\i' W ⟨gf,2,none⟩=J (n:la)) AL ⟨m,q2⟩ (λq=> ?_);refine zq [0,1,2,3,4,5] (a':= ?_) ?_;refine zq [6,7] (a':= ?_) ?_;refine IA 8 rfl AL SQ (λK r=> ?_);go_simp
   (go_at_call 249;((with_reducible refine(u.out).mono ?_);rintro e f ⟨ln,c2,rfl,t,k⟩);have d: ∀(i:O) {v:la},i' W ⟨gf,i,none⟩=some v->i' f ⟨gf,i,none⟩=some v:=λi v E=>(k.cell (p:=⟨gf,i,none⟩) (H.out.blk.lt)).trans E)
   refine r _ _ (⟨d 4 m,d 2 q2⟩) (λq=>xb ?_);clear r K;refine zq [9,10,11,12,13] (a':= ?_) ?_;refine zV AL ?_ _;have g:G (r' (W:O) W f):=(qZ (W:O) W).drew.trans k;have y:=T (E'.zY t);have z:=d 2 q2;clear u t k d q q0 q1 q2 q3 m
  rotate_left;rotate_left;rotate_left
  ·go_wp2;go_ret2;unfold VJ;rw [o.out];exact⟨none,0,rfl,E'.none_,g⟩
  all_goals
   have C:=T (F ln c2 f f y (qx _));go_wp2_with fail;refine C.mono ?_;rintro e ih ⟨A3,ck,rfl,D,s⟩;have hh:=T (g.trans (s.mono g.size));have X:=T (E'.zY D);have iL:i' ih ⟨gf,2,none⟩=J (n:la):=(s.cell (p:=⟨gf,2,none⟩) (qB H.blk.lt g.size)).trans z;clear D s z;go_wp2;go_ret2;unfold VJ;rw [o.out]
  ·exact⟨none,0,rfl,E'.none_,hh⟩
  ·exact⟨A3,ck,rfl,X,hh⟩
  ·exact⟨none,0,rfl,E'.none_,hh⟩
theorem Tv (b:qn):(gL b).1.length<=32768:=by
 have a:=(gV b).2;show(jW b (pr b).1 (B3 b)).1.length<=_;unfold jW;dsimp only;split
 ·exact qp _
 ·rw [qh,show(((pr b).1:O):V).toNat=(pr b).1 from rfl];omega
def Ct (W:I) (b:qn) (e:Ending) (a:I):Prop:=
 r' W W a/\(((hZ b).err≠0/\e=t' (BA #[mJ none,z8,e' (hZ b).err]))\/
  ((hZ b).err=0/\ ∃gf g c d f c1 A N cap,e=t' (BA #[mJ (some ⟨gf,0,none⟩),Z c (bb (g8 b).1.toNat (GR b).1 (pr b).1 (gL b).1).2.length d,e' (bb (g8 b).1.toNat (GR b).1 (pr b).1 (gL b).1).1])/\
   E' a a 1 c (bb (g8 b).1.toNat (GR b).1 (pr b).1 (gL b).1).2.length ((bb (g8 b).1.toNat (GR b).1 (pr b).1 (gL b).1).2.map B8)/\
   Fr a gf g (g8 b).1.toNat (GR b).1 (pr b).1 (Z f (gL b).1.length c1) A N cap b (hZ b)))
theorem Et (m:q') (j B:O) (b:qn) (W:I) (ht:Pl W) (h:E' W B 1 m (U b) (b.map B8)) (r:B<=(W:O)) (hn:U b<=100000000) (D':U b<=j) (p':j<=maxLen):
  xG 191 #[Z m (U b) j] W (Ct W b):=by
 have ck:=T (Qk m (U b) j B b W h r M);have HR:=T (h.more r);have D:=T ht;have OX:=Tv b;have u':=(gV b).1;have w:=T (λq gf a way n u A N cap ht h C r hg M'=>Tz q gf a way n u A N cap b m j (W:O) ht h C r hg D' p' M');unfold Ce at w;have H:=T (λW gf a u A N cap h=>Tq W gf a u A N cap b h);unfold Ca at H;have z:=T (λq gf a A1 c1 A N cap (h:Fr q gf a _ _ _ _ A N cap b _) C=>Er q gf a (g8 b).1.toNat (GR b).1 (pr b).1 A1 c1 (gL b).1 A N cap b (hZ b) h C u' M);unfold Ct;generalize bb (g8 b).1.toNat (GR b).1 (pr b).1 (gL b).1=R,(g8 b).1.toNat=way,(GR b).1=n3,(pr b).1=p4,(gL b).1=ys,B3 b=c5,hZ b=i at*;clear ht h;go_in;go_wp2_with fail;refine ck.mono ?_;rintro e d ⟨a,A,cap,rfl,t,qj,m',p⟩;have X:G (Fr (d (Y #[mJ a,(),(),(),z8] 291)) d a 0 0 0 z8 A (U b) cap b ⟨0,0⟩):=
  ⟨F'.new _ _ _,t.fresh (j1 _),λe=>by have:=t.blk.lt;omega⟩
 have x:G (r' (W:O) W (d (Y #[mJ a,(),(),(),z8] 291))):=p.alloc p.size _;have l:G ((W:O)<=(d:O)/\(W:O)<=a):=⟨p.size,qj⟩;clear t qj m' p;have K:=T (H _ _ _ _ _ _ _ X);go_wp2_with fail;generalize d (Y #[mJ a,(),(),(),z8] 291)=w2,(d:O)=gf at*;have y:G (∀k∈[gf,a],(W:O)<=k):=λk cY=>by
  simp only [qL,xj,Ze] at cY;rcases cY with rfl|rfl
  ·exact l.out.1
  ·exact l.out.2
 refine zC K ?_;rintro w3 ⟨hh,P⟩;have iv:=T hh;have f:=T (x.trans (P.below y x.size));clear hh P;have d':=T (w w3 gf a _ _ _ A (U b) cap (D.below f D.pos) iv (HR.below f) f.size l D.pos);go_wp2_with fail;refine zC d' ?_;rintro ih ⟨cL,uK,L,cB,Q⟩;have g:=T cB;have s:=T (f.trans (cL.below y f.size));have G':=T (E'.zY Q);have o:=T (jg ih a A (U b) cap b i g.cur);obtain⟨q0,-,-,-,-⟩:=g.cells;clear cB cL Q;by_cases c:i.err=0
 ·have v:=T (z ih gf a uK L A (U b) cap g G');unfold VJ at v;rw [c] at o;go_wp2_with fail;refine Ω o ?_;go_wp2_with fail;refine v.mono ?_;rintro e w5 ⟨A5,J',rfl,cK,F⟩;have iL:=T (g.fresh F);have z':=T (s.trans (F.mono s.size));have I':=T cK;replace c:=T c;clear cK F q0;go_wp2;go_ret3;exact⟨z', .inr ⟨c,gf,a,A5,J',uK,L,A,U b,cap,rfl,I',iL⟩⟩
 ·have N':(i.err==0)=false:=by simpa using c
  have N9:(i.err !=0)=true:=by simpa using c
  have N6:=T c;generalize ln:i.err=E at*;replace ln:=T ln;go_wp2_with fail;refine Ω o ?_;go_wp2;go_ret3;refine⟨s, .inl ?_⟩;rw [ln.out];exact⟨N6,rfl⟩
theorem gK (d:O): ∀(n:O) (a:qn),U (PI d n a)=U a+n
 |0,a=>rfl
 |n+1,a=>by
  unfold PI;rw [gK d n,qK,zJ];omega
theorem ua (a:V): ∀(l:S (O×V×V)) (b:qn),(U b:V)<=a->((Vk a l b).2.length:V)<=a
 |[],b,h=>h
 |t::r,b,h=>by
  have c:0<=a:=M;rw [pY];split
  ·exact c
  ·rename_i h1
   split
   ·exact c
   ·split
    ·exact c
    ·rename_i h3
     split
     ·refine ua a r _ ?_
      rw [qK,zJ];omega
     ·rename_i h4
      refine ua a r _ ?_;rw [gK];rcases mc (by simpa using h1) with h5|h5
      ·exact absurd h5.1 h4
      ·omega
theorem Bd {way n p m:O} {a:qn} (c:n<=m) (b:U a<=m):(bb way n p a).2.length<=m:=by
 unfold bb;split
 ·split
  ·exact qp _
  ·exact b
 ·split
  ·exact qp _
  ·split
   ·exact qp _
   ·split
    ·exact qp _
    ·have:=ua (n:V) (B2 a n).2 [] (by show((0:O):V)<=_;omega);have e:Yc (n:V) (B2 a n).2=Vk n (B2 a n).2 []:=by unfold Yc;rw [qJ M]
     rw [e];dsimp only;omega
def Bf (W:I) (r:V×qn×O) (e:Ending) (c:I):Prop:=
 ∃b a,e=t' (BA #[Z b (U r.2.1) a,e' r.2.2,e' r.1])/\yG W c 5 b (U r.2.1) a (r.2.1.map B8)
theorem DK (w:Option Addr) (s B:O) (b:S AB) (W:I) (ht:Pl W) (h:E' W B 1 w b (b.map B8)) (hB:B<=(W:O)) (hn:U b<=100000000) (ck:U b<=s) (qj:s<=maxLen):
  xG 154 #[Z w b s] W (Bf W (hH b)):=by
 have q:=T (Et w s B b W ht h hB hn ck qj);have a:hH b=if fc b≠0 then(fc b,[],0) else(0,H9 b,(hZ b).at_):=rfl
 have g:fc b=if(hZ b).err≠0 then(hZ b).err else(bb (g8 b).1.toNat (GR b).1 (pr b).1 (gL b).1).1:=rfl
 have i:H9 b=if(hZ b).err≠0 then [] else(bb (g8 b).1.toNat (GR b).1 (pr b).1 (gL b).1).2:=rfl
 have cL:(bb (g8 b).1.toNat (GR b).1 (pr b).1 (gL b).1).2.length<=100000000:=qv (Bd (m:=32768) (gV b).1 (Tv b)) M;unfold Ct at q;generalize bb (g8 b).1.toNat (GR b).1 (pr b).1 (gL b).1=R at*
 generalize (g8 b).1.toNat=way at*
 generalize (GR b).1=n3 at*
 generalize (pr b).1=p4 at*
 generalize (gL b).1=ys at*
 generalize hZ b=f at*
 generalize fc b=cY at*
 generalize H9 b=X at*
 generalize hH b=y at*
 obtain⟨E,j⟩:=R;dsimp only at q g i cL;replace a:=T a;replace g:=T g;replace i:=T i;clear ht h;go_enter func154,ntmps154
 go_wp2_with fail;refine q.mono ?_;rintro e r ⟨ih,cB⟩;have l:=T ih;clear q ih;rcases cB with⟨c,rfl⟩|⟨c,gf,H,iv,P,A1,c1,A,N,cap,rfl,C,t⟩
 ·have n:G (y=(f.err,[],0)):=by rw [Hid,a.out,g.out,qk c,qk c]
  have cK:(f.err==0)=false:=by simpa using c
  have Q:(f.err !=0)=true:=by simpa using c
  generalize f.err=e8 at*
  clear a g i
  go_wp2_with fail
  go_ret3;unfold Bf;rw [n.out];exact⟨none,0,rfl,qP _ _ _ _,l.out⟩
 ·have d:cY=E:=by rw [g.out,qJ (by simpa using c)]
  have uK:X=j:=by rw [i.out,qJ (by simpa using c)]
  rw [d,uK] at a;clear d uK g i c;by_cases d:E=0
  ·have n:G (y=(0,j,f.at_)):=by rw [Hid,a.out,qJ (by simpa using d)]
   subst d;have v:=T t;have x:=T (yV iv j P r j r.drew (C.drew) (qx _) M);obtain⟨q0,-,-,-,-⟩:=t.cells;unfold jQ at x;clear a C t;generalize F:f.at_=k at*
   replace F:=T F
   go_wp2_with fail;refine zv 10 (λW=>i' W gf=J (mJ H)) AL q0 (λz=> ?_)
   refine zq [0,2,3,4,5] (a':= ?_) ?_;refine IA 1 rfl AL SQ (λK hh=> ?_);go_simp
   (go_at_call 55;((with_reducible refine(x.out).mono ?_);rintro e D ⟨L,c2,rfl,o⟩);have u:i' D gf=J (mJ H):=(o.2.cell (p:= gf) v.out.blk.lt).trans q0;have ln:=T (JJ D H A N cap b f ((v.out.drew.fresh o.2).cur));rw [F.out] at ln)
   refine hh _ _ (u) (λz=> ?_);clear hh K;try simp only [Act.put,qQ,qY,qV]
   refine vf 6 ln ?_;rintro e w' ⟨rfl,rfl⟩;refine⟨_,rfl,(u),λz=> ?_⟩;refine zq [7,8,9] (a':= ?_) ?_;refine zV AL ?_ _;have d':G (yG W D 5 L j c2 (j.map B8)):=⟨qi o.1 (show (W:O)<=(r.drew:O) from l.size),l.drew.trans (o.2.mono (show (W:O)<=(r.drew:O) from l.size))⟩
   clear x o ln u z q0 v
   go_wp2_with fail
   go_ret3;unfold Bf;rw [n.out];exact⟨L,c2,rfl,d'.out⟩
  ·have n:G (y=(E,[],0)):=by rw [Hid,a.out,qk d]
   have cK:(E==0)=false:=by simpa using d
   have Q:(E !=0)=true:=by simpa using d
   clear a C t
   go_wp2_with fail
   go_ret3;unfold Bf;rw [n.out];exact⟨none,0,rfl,qP _ _ _ _,l.out⟩
end
section
variable {b:qn}{d n:O}{e:V}
def G6 (l:S JH):Nat:=(l.map λr=>U r.src+U r.txt).sum
theorem LM (l m:S JH):G6 (l++m)=G6 l+G6 m:=by unfold G6;rw [qg,QE]
theorem qqb (r:JH):G6 [r]=U r.src+U r.txt:=by simp [G6]
def bB (b:qn) (c a:Cu):Prop:=c.at_<=a.at_/\(c.at_<=U b->a.at_<=U b)
theorem bB.refl (b:qn) (c:Cu):bB b c c:=⟨qx _,id⟩
theorem bB.trans {b:qn} {c a d:Cu} (h:bB b c a) (e:bB b a d):bB b c d:=⟨qv h.1 e.1,λx=>e.2 (h.2 x)⟩
theorem LS {c:Cu} (h:e=0->c.at_<=U b->c.at_+n<=U b):bB b c (yO c n e):=by
 unfold yO;split
 ·exact bB.refl _ _
 ·split
  ·exact bB.refl _ _
  ·rename_i h2;exact⟨Jk _ _,λx=>h (by simpa using h2) x⟩
theorem Ln (b:qn) (c:Cu) (e:V):bB b c (vP c e):=by
 unfold vP;split<;>exact⟨qx _,id⟩
theorem qqF (b:qn) (c:Cu):bB b c (X7 b c).2:=LS λ_ h=>by
 have:=wJ (b.drop c.at_);rw [qI] at this;omega
theorem LN (b:qn) (m:V) (c:Cu):bB b c (jU b m c).2:=LS λ_ h=>by
 have:=cX (b.drop c.at_) m;rw [qI] at this;omega
theorem Lw (b:qn) (n:V) (c:Cu):bB b c (jW b n c).2:=LS λa h=>by
 unfold Xv at a;split at a
 ·cases a
 ·split at a
  ·cases a
  ·rename_i h2
   rw [qI] at h2;omega
theorem LI (b:qn) (m:V) (c:Cu):bB b c (xa b m c).2:=LS λa h=>by
 unfold Xy at a;split at a
 ·rename_i h1;exact absurd a h1
 ·split at a
  ·cases a
  ·rename_i h2
   rw [qI] at h2;omega
theorem Ll (b:qn) (m:V) (c:Cu):c.at_+(xa b m c).1.length<=(xa b m c).2.at_:=by
 have e: ∀x:qn,x=[]->c.at_+U x<=(xa b m c).2.at_:=λx f=>by subst f;exact(LI b m c).1
 by_cases h:c.err≠0\/Xy (b.drop c.at_) m≠0
 ·exact e _ (qk h)
 ·have a:(xa b m c).1=((b.drop c.at_).drop (kE (b.drop c.at_) m).2.1).take (kE (b.drop c.at_) m).1:=qJ h;have h1: ¬c.err≠0:=λx=>h (.inl x);have h2: ¬Xy (b.drop c.at_) m≠0:=λx=>h (.inr x);have d:(xa b m c).2.at_=c.at_+((kE (b.drop c.at_) m).2.1+(kE (b.drop c.at_) m).1):=by
   show(yO c _ _).at_=_;unfold yO;rw [qJ h1,qJ h2]
  rw [a,d,qh];omega
theorem qqz {c:Cu} (h:(jW b n c).2.err=0):(jW b n c).2.at_=c.at_+n/\c.err=0/\(jW b n c).1.length=n:=by
 have h1:c.err=0/\Xv b n c=0:=by
  unfold jW yO at h;dsimp only at h;split at h
  ·rename_i h2;exact absurd h h2
  ·rename_i h2;split at h
   ·rename_i h3;exact absurd h h3
   ·rename_i h3;exact⟨by simpa using h2,by simpa using h3⟩
 have a:n<=U (b.drop c.at_):=by
  have:=h1.2;unfold Xv at this;split at this
  ·cases this
  ·split at this
   ·cases this
   ·omega
 refine⟨?_,h1.1, ?_⟩
 ·unfold jW yO;dsimp only;rw [qJ (by simpa using h1.1),qJ (by simpa using h1.2)];rfl
 ·unfold jW;dsimp only;rw [qJ (by rintro(h|h);exact h h1.1;exact h h1.2),qh];show min n _=n;omega
theorem qqB (b:qn) (a:Bool) (c:Cu):c.at_+G6 [(CL b a c).1]<=(CL b a c).2.at_/\bB b c (CL b a c).2:=by
 have h0:bB b c (if a then j_ b (if a then X7 b c else((0:O),c)).2 else((0:AB),(if a then X7 b c else((0:O),c)).2)).2:=by
  cases a
  ·exact bB.refl _ _
  ·exact(qqF b c).trans (Lw b 1 _)
 rw [qqb];unfold CL;dsimp only;generalize (if a then j_ b (if a then X7 b c else((0:O),c)).2 else((0:AB),(if a then X7 b c else((0:O),c)).2)).2=d at*;have h1:=Ll b 4000 d;have h2:=Ll b 4000 (xa b 4000 d).2;exact⟨by have:=h0.1;omega,h0.trans ((LI b 4000 d).trans (LI b 4000 _))⟩
theorem qqv (b:qn) (d:Bool): ∀f c a,c.at_<=U b->G6 a<=c.at_->G6 (ri b d f c a).2<=U b
 |0,c,a,h1,h2=>qv h2 h1
 |f+1,c,a,h1,h2=>by
  unfold ri;split
  ·exact qv h2 h1
  ·split
   ·exact qp _
   ·have h:=qqB b d c
    exact qqv b d f _ _ (h.2.2 h1) (by rw [LM];omega)
theorem qqh (a:Bool) (b:qn):G6 (sc a b).2<=U b:=qqv b a _ _ _ (qp _) (qx _)
theorem qqg {c:Cu} (a:e≠0) (h:(vP c e).err=0):False:=by
 unfold vP at h;split at h
 ·exact a h
 ·rename_i h2;exact h2 h
theorem qqP (b:qn) (h:(hH b).1=0):(hH b).2.1.length<=1100*(hH b).2.2/\(hH b).2.2<=U b:=by
 have a:fc b=0:=by
  unfold hH at h;split at h
  ·rename_i h2;exact absurd h h2
  ·rename_i h2;simpa using h2
 have e:hH b=(0,H9 b,(hZ b).at_):=qJ (by simpa using a);rw [e];dsimp only;have h8:(hZ b).err=0:=by
  unfold fc at a;split at a
  ·rename_i h2;exact absurd a h2
  ·rename_i h2;simpa using h2
 have g:hZ b=if(Hf b).err≠0 then Hf b else vP (Hf b) (QH (b.take (Hf b).at_)):=rfl
 have h7:(Hf b).err=0/\(hZ b).at_=(Hf b).at_:=by
  rw [g] at h8⊢;split at h8
  ·rename_i h2;exact absurd h8 h2
  ·rename_i h2;rw [qJ h2];refine⟨by simpa using h2, ?_⟩;unfold vP;split<;>rfl
 have j:=qqz (b:=b) (n:=4) (c:=(gL b).2) h7.1;have d:=qqz (b:=b) (n:=(pr b).1) (c:=B3 b) j.2.1;have o:(Hf b).at_=(B3 b).at_+(pr b).1+4:=by
  have u:(Hf b).at_=(gL b).2.at_+4:=j.1;have t:(gL b).2.at_=(B3 b).at_+(pr b).1:=d.1;omega
 have h5:(B3 b).err=0:=d.2.1;have l:(GR b).1<=1032*(pr b).1+64:=by
  rcases jE (1032*(pr b).1+64) (GR b).1 with h2|h2
  ·unfold B3 at h5;rw [qk h2] at h5;exact(qqg FV h5).elim
  ·exact h2
 have s:U (H9 b)<=max (GR b).1 (pr b).1:=by
  have m:H9 b=(bb (g8 b).1.toNat (GR b).1 (pr b).1 (gL b).1).2:=qJ (by simpa using h8);rw [m];exact Bd (Nat.le_max_left _ _) (by rw [show(gL b).1.length=(pr b).1 from d.2.2];exact Nat.le_max_right _ _)
 have p:bB b ⟨0,0⟩ (hZ b):=by
  have k:bB b ⟨0,0⟩ (g8 b).2:=Lw b 1 _;have r:bB b ⟨0,0⟩ (TT b):=by
   unfold TT;split
   ·exact k.trans (Ln _ _ _)
   ·exact k
  have i:bB b ⟨0,0⟩ (pr b).2:=(r.trans (LN _ _ _)).trans (LN _ _ _);have q:bB b ⟨0,0⟩ (B3 b):=by
   unfold B3;split
   ·exact i.trans (Ln _ _ _)
   ·exact i
  have f:bB b ⟨0,0⟩ (Hf b):=(q.trans (Lw _ _ _)).trans (Lw _ _ _);rw [g];split
  ·exact f
  ·exact f.trans (Ln _ _ _)
 refine⟨?_,p.2 (qp _)⟩;rw [h7.2,o];have:=Nat.max_le.2 ⟨l,show(pr b).1<=1032*(pr b).1+64 by omega⟩;omega
theorem ax (b:qn):U (vR b)<=U b:=by
 unfold vR;split
 ·exact qp _
 ·split
  ·rw [qh];omega
  ·exact qp _
theorem qqZ (b:qn) (c:Cu) (d:c.err=0) (j:c.at_<=U b) (h:(Vd b c).1=0):G6 (Vd b c).2.1+1100*c.at_<=1100*(Vd b c).2.2.at_/\(Vd b c).2.2.err=0/\(Vd b c).2.2.at_<=U b:=by
 unfold Vd at h⊢;dsimp only at h⊢;split at h
 ·rename_i h1;exact absurd h h1
 ·rename_i h1;rw [qJ h1];have a:=qqP (b.drop c.at_) (by simpa using h1);have e:Xv b ((hH (b.drop c.at_)).2.2:O) c=0:=by
   unfold Xv;rw [qJ M,qJ (by have:=a.2;omega)]
  have g:(jW b ((hH (b.drop c.at_)).2.2:O) c).2=⟨c.at_+(hH (b.drop c.at_)).2.2,0⟩:=by
   unfold jW yO;dsimp only;rw [qJ (by simpa using d),e,qJ FV];rfl
  have i:=qqh true (hH (b.drop c.at_)).2.1;have f:=a.2;rw [qI] at f;split at h
  ·rename_i h2;exact absurd h h2
  ·rename_i h2;rw [qJ h2];split at h
   ·cases h
   ·rename_i h3;rw [qJ h3,g];dsimp only;exact⟨by have:=a.1;omega,rfl,M⟩
theorem qqy (b:qn) (r:O): ∀f c a,c.err=0->c.at_<=U b->G6 a<=1100*c.at_->G6 (PN b r f c a).2<=1100*U b
 |0,c,a,_,h2,h3=>by
  unfold PN;split
  ·exact qp _
  ·split
   ·exact qp _
   ·exact qv h3 (yz _ h2)
 |f+1,c,a,h1,h2,h3=>by
  unfold PN;split
  ·exact qp _
  ·rename_i h4
   have h:=qqZ b c h1 h2 (by simpa using h4)
   exact qqy b r f _ _ h.2.1 h.2.2 (by rw [LM];omega)
theorem qqc (b:S AB):G6 (JZ b).2.2.1<=1100*U b:=by
 unfold JZ;dsimp only;split
 ·exact qp _
 ·rename_i g
  split
  ·exact qp _
  ·rename_i a
   split
   ·exact qp _
   ·dsimp only
    have e:(kj b).2.length<=U b:=by
     unfold kj;repeat' (first|exact qp _|split)
     dsimp only;rw [qI];have:=ax b;omega
    have c:(ph (kj b).2).2.2.2.2.err=0/\(ph (kj b).2).2.2.2.2.at_<=(kj b).2.length:=by
     generalize (kj b).2=w at*
     have d:bB w ⟨0,0⟩ (j_ w (jU w 32768 ⟨0,0⟩).2).2:=(LN _ _ _).trans (Lw _ _ _);have f:bB w ⟨0,0⟩ (if 1<(j_ w (jU w 32768 ⟨0,0⟩).2).1.toNat then vP (j_ w (jU w 32768 ⟨0,0⟩).2).2 2 else(j_ w (jU w 32768 ⟨0,0⟩).2).2):=by
      split
      ·exact d.trans (Ln _ _ _)
      ·exact d
     refine⟨?_,((f.trans (LN _ _ _)).trans (LN _ _ _)).2 (qp _)⟩;unfold ph at a⊢;dsimp only at a⊢;refine yQ λh2=>a ?_;rw [qk h2];exact h2
    exact qv (qqy _ _ _ _ _ c.1 c.2 (qp _)) (yz _ e)
theorem L0: ∀(l:S O) (b:qn),((CJ l b).map (·.length)).sum<=U b
 |[],b=>qp _
 |n::t,b=>by
  have:=L0 t (b.drop n);rw [qI] at this;show(b.take n).length+((CJ t (b.drop n)).map (·.length)).sum<=_;rw [qh];omega
theorem M_ (b:S AB):(pg b).2.1.length<=U b:=by
 unfold pg;repeat' (first|exact qp _|split)
 dsimp only;rw [qh];omega
theorem qqj (o:Lx) (b:S AB):((Zo o b).2.JB.map (·.length)).sum<=U b:=by
 unfold Zo;dsimp only;repeat' (first|exact qp _|split)
 exact qv (L0 _ _) (M_ b)
theorem qqC (ts:S O) (ls:qn) (l:S JH):G6 (tX ts ls l)=G6 l:=by
 unfold G6 tX;congr 1;apply zm;intro i;rw [qD,yE,qD];cases l[i]? <;>rfl
theorem qqu (x:Ft) (k:O):G6 (V5 x k).2<=1100*U (x.JB.getD k []):=by
 unfold V5;dsimp only;split
 ·exact qp _
 ·rename_i h1;have a:=qqP (x.JB.getD k []) (by simpa using h1);split
  ·exact qp _
  ·split
   ·exact qp _
   ·split
    ·exact qp _
    ·dsimp only;rw [qqC];have:=qqh false (hH (x.JB.getD k [])).2.1;have h2:=yz 1100 a.2;have:=a.1;omega
theorem qqU (x:Ft): ∀f k a,k+f=U x.JB->G6 a<=1100*((x.JB.take k).map (·.length)).sum->G6 (C0 x f k a).2<=1100*(x.JB.map (·.length)).sum
 |0,k,a,c,h=>by
  unfold C0;rw [show k=U x.JB by omega,jP] at h
  split
  ·exact qp _
  ·split
   ·exact qp _
   ·exact h
 |f+1,k,a,c,h=>by
  unfold C0;split
  ·exact qp _
  ·refine qqU x f (k+1) _ M ?_
   have h2:=qqu x k;have b:k<U x.JB:=M;rw [LM,qs,qX b,qg,QE];rw [qd,qX b] at h2;simp only [Option.toList_some,jy,xB,List.sum_cons,List.sum_nil,v_];simp only [Zv] at h2;omega
theorem qqd (x:V×Lx×Ft) (n:O) (h:(x.2.2.JB.map (·.length)).sum<=n):G6 (Zk x).2.2.1<=1100*n:=by
 unfold Zk;dsimp only;split
 ·exact qp _
 ·split
  ·exact qp _
  ·exact qv (qqU x.2.2 _ 0 [] M (qp _)) (yz _ h)
theorem qqJ (b:S AB):((Vh b).2.2.JB.map (·.length)).sum<=U b:=by
 unfold Vh;dsimp only;repeat' (first|exact qp _|split)
 refine qv (qqj _ _) ?_;rw [qI];omega
theorem O1 (a:1<=d):n<=Fa d n*d:=by
 unfold Fa;have h1:=Qe (n+d-1) d;have h2:=xC (n+d-1) (show 0<d by omega);rw [xH] at h1;omega
theorem IC (k m ch:V) (n:O) (s:qn) (h:_m k m ch n s=0):U (srV k m ch n s)<=U s:=by
 unfold _m at h;split at h
 ·rename_i h1;exact absurd h h1
 ·rename_i h1;split at h
  ·cases h
  ·split at h
   ·cases h
   ·rename_i h2 h3;have e:ZM k m ch n=0:=by simpa using h1
    have i:G2 k m ch n=true:=by
     cases g:G2 k m ch n with
     |true=>rfl
     |false=>rw [(UY g).1] at e;cases e
    obtain⟨a,b,c,d,rfl,rfl,rfl,o,q1,q2,q3,q,p⟩:=Ro i;obtain rfl:n=d:=M;have f:Vx a b c n=G3 a b c n:=by
     unfold Vx;rw [qk e];rfl
    have j:n<=G3 a b c n:=by
     refine qv (O1 (xA q1 q3)) ?_;unfold G3;exact yz _ (xA M M)
    have l:U (srV a b c n s)<=n:=by
     unfold srV rdV;first
      |(split<;>first|exact qp _|(rw [qh];exact xK _ _))
      |(rw [qh];exact xK _ _)
    rw [f] at h2;omega
theorem OI (b:qn):(V7 b).2.2.1.length<=U b:=by
 unfold V7;dsimp only;split
 ·exact qp _
 ·split
  ·exact qp _
  ·split
   ·exact qp _
   ·rename_i h3;dsimp only;refine qv (IC _ _ _ _ _ (by simpa using h3)) ?_;rw [qh,qI];omega
theorem qqX (b:S AB):((ZX b).2.2.1.JB.map (·.length)).sum<=U b:=by
 unfold ZX;dsimp only;repeat' (first|exact qp _|split)
 exact qv (qqj _ _) (OI b)
theorem qqV (b:qn):G6 (xX b).l<=1100*U b:=by
 unfold xX;split
 ·exact qqc b
 ·split
  ·exact qqd _ _ (qqJ b)
  ·exact qqd ((ZX b).1,(ZX b).2.1,(ZX b).2.2.1) _ (qqX b)
end
section
open Go.RowKit
variable {W:I}{b0 c d g:O}{bs:qn}
def ZU (f:qn->qn):qn->qn->S (qn)->S qn
 |[],row,a=>VB f row a
 |c::t,row,a=>match rv c with|some x=>ZU f t (row++[x]) a|none=>ZU f t [] (VB f row a)
theorem EV (f:qn->qn) (s row:qn) (a:S qn) (k:O) (b:k<U s):ZU f (s.drop k) row a=match rv s[k] with|some x=>ZU f (s.drop (k+1)) (row++[x]) a|none=>ZU f (s.drop (k+1)) [] (VB f row a):=by
 rw [zK b];rfl
theorem Bj (f:qn->qn) (row:qn) (a:S qn):U (VB f row a)<=U a+1:=by
 unfold VB;split
 ·omega
 ·rw [qK,zJ];exact qx _
theorem kf (f:qn->qn): ∀(s row:qn) (a:S qn),ZU f s row a=a++(rj s row []).map f
 |[],row,a=>by
  show VB f row a=a++(bC row []).map f
  unfold VB bC;split<;>simp
 |c::t,row,a=>by
  have key: ∀(t row:qn) (o:S qn),rj t row o=o++rj t row []:=by
   intro t;induction t with
   |nil=>intro row o;show bC row o=o++bC row [];unfold bC;split<;>simp
   |cons c t b=>
    intro row o;unfold rj;cases rv c with
    |some x=>exact b _ _
    |none=>
     dsimp only;rw [b [] (bC row o),b [] (bC row [])];unfold bC;split<;>simp
  unfold ZU rj;cases rv c with
  |some x=>exact kf f t _ _
  |none=>
   dsimp only;rw [kf f t [] (VB f row a),key t [] (bC row [])];unfold VB bC;split<;>simp
theorem EX.push {a:I} {n b:O} {A d:q'} {x:AB} {o:Obj} (i:U bs=n) (m:F' W g 30 #[Z A n c]) (l:xp W b0 5 1 (Z A n c) n (bs.map B8)) (j:b0<=g) (f:b0<=(W:O)) (h:(W.alloc o).grownBy a (A.map (·.block))) (h4:xp a b0 5 1 (Z d (n+1) b) (n+1) (bs.map B8++[B8 x])):
  (i' a g=J (Z A n c)/\a.frozen? g=false)/\EX (a.setCell g (Z d (n+1) b)) b0 g (bs++[x])/\jO [30,5] b0 W (a.setCell g (Z d (n+1) b)):=by
 have h0:=(qZ _ W).alloc (qx _) o;have o1:=qG l h0;have t:jO [30,5] b0 W a:=(jO.fresh h0 f).grown o1 s8 (qx _) (qv f h0.size) h;have s:jO [5] b0 W a:=(jO.fresh h0 f).grown o1 s8 (qx _) (qv f h0.size) h;have e:=s.blk m FV;refine⟨⟨by rw [e.cell 0];simp,e.frozen 0⟩,⟨d,b, ?_, ?_,j⟩,t.zh e s8 j 0 _⟩
 ·have:=e.zh 0 (Z d (n+1) b);rw [qK,zJ,i];simpa using this
 ·rw [qK,zJ,i,qg];exact((qE.refl [g] a).zh (p:= g) (qy.2 rfl) _).own h4 (λk q r=>qT h4 e FV k q (qy.1 r))
theorem WS.Oh {b:I} {e:O} {d:la} {f:qn} {i:S qn} (h:WS W b0 c e g d bs i) (j:EX b b0 c f) (a:jO [30,5] b0 W b):WS b b0 c e g d f i:=
 ⟨j,a.blk h.fn FV,h.outs.keep a FV FV,qv h.bs a.size⟩
theorem UB (gf:O) (f:qn->qn) (iL:Told gf f) (eg: ∀args w,(callFunc gf args).run prog w= .ok (.enter gf args) w) (W:I) (b0 g:O) (s:qn) (a:S qn) (h:ug W b0 g a) (F:b0<=(W:O)) (K:U a+U s<=90000):
  xG 134 #[Lj s, .func (.func gf) #[] #[mJ g]] W λe qj=>e=t' (BA #[])/\ug qj b0 g (ZU f s [] a)/\r' b0 W qj/\U (ZU f s [] a)<=U a+U s+1:=by
 obtain⟨i0,hi,uK,E,cL⟩:=xt xR;obtain⟨D,B⟩: ∃D:ByteArray,D=⟨s.toArray⟩:=⟨_,rfl⟩;have za:D.size=U s:=by rw [B];simp [ByteArray.size]
 have cB:=T (λn h W=>Yw D s B n h W);obtain⟨R,L⟩:=zn (ZU f s [] a);rw [<-L];have ck:G (ZU f (s.drop 0) [] a=R):=L.symm;unfold Lj;rw [<-B];clear L B;have l:=λW gr gw bs a h K u'=>T (mN gf f iL eg W b0 gr gw g bs a h K u');replace l:=T l;obtain⟨N,i⟩:=zn (U s);rw [<-i] at za K⊢;replace i:=T i;have Q:jO [] b0 W (W (Y #[.func (.func gf) #[] #[mJ g]] 219)):=(jO.refl _ _ _).alloc F _;have iv:G (WS ((W (Y #[.func (.func gf) #[] #[mJ g]] 219)) (Y #[z8] 30)) b0 ((W:O)+1) (W:O) g (.func (.func gf) #[] #[mJ g]) [] a):=by
  have cK:b0<=(W (Y #[.func (.func gf) #[] #[mJ g]] 219):O):=qv F s8;have kx:=Q.alloc cK (Y #[z8] 30);refine⟨⟨none,0, ?_,qP _ _ _ _,M⟩,(F'.new W _ _).alloc _,h.keep kx s8 s8,qv cK s8⟩;have:=F'.new (W (Y #[.func (.func gf) #[] #[mJ g]] 219)) 30 #[z8];simpa using this
 have d:G (r' b0 W ((W (Y #[.func (.func gf) #[] #[mJ g]] 219)) (Y #[z8] 30))):=(Q.alloc (qv F s8) _).below;clear Q h;go_in;go_wp2_with fail;generalize (W (Y #[.func (.func gf) #[] #[mJ g]] 219)) (Y #[z8] 30)=w0 at*;go_loopw [12] (λih wr=> ∃(k:O) (row:qn) (o:S qn),ih=(k:la)/\k<=N/\U row<=k/\U o<=U a+k/\G (ZU f (s.drop k) row o=R)/\G (WS wr b0 ((W:O)+1) (W:O) g (.func (.func gf) #[] #[mJ g]) row o)/\G (r' b0 W wr)) (λih _=>N-(intOf ih).toNat)
 ·exact⟨0,[],a,rfl,qp _,qx _,qx _,ck,iv,d⟩
 ·obtain⟨k,row,o,rfl,hk,z',ho,t,HS,d⟩:=hrel;by_cases ln:k<N
  ·have D':=j' k N;have hx:=cB k (i.out▸ln);have b:=t.out;rw [EV f s row o k (i.out▸ln)] at b;generalize s[k]'(i.out▸ln)=z at*;have j:=λW=>T (tU z W);have p':=Bj f row o;obtain⟨y,P⟩:=zn (rv z);rw [<-P] at j b;replace P:=T P;cases y with
   |some x=>
    rw [show(some x).getD (0:AB)=x from rfl,show(some x).isSome=true from rfl] at j;obtain⟨A,c,r,u,m'⟩:=HS.row;have r0:=r.cell 0;have kr:=r.frozen 0;simp only [qR,qt] at r0;generalize C:U row=n at*;replace C:=T C;have d':n+1<=maxLen:=SJ;have m:(n+1)*1<=140737488355328:=M;have r:=T r;have u:=T u;replace b:G (ZU f (s.drop (k+1)) (row++[x]) o=R):=b;clear t;go_wp2_with fail;refine Ω (j _).out ?_;clear j;go_wp2_with (at_builtin;refine qF _ rfl (.tmp 23) (.tmp 25) 30 rfl b0 5 i0 (gR 0) 1 1 qu hi uK E cL rfl M A n c _ rfl (u.alloc _) ((wr:O)+1) (wr:O) 1 1 [B8 x] rfl (zU _ _ _) (IB rfl) d' m (qv HS.bs s8) ?_;intro A3 c3 w3 cY X _;obtain⟨⟨j3,k3⟩,h3,v⟩:=EX.push C r u m' HS.bs X cY;replace h3:=T (HS.out.Oh h3 v);replace v:=T (d.trans v.below);clear cY X);refine xk ?_;exact⟨k+1,row++[x],o,xg,M,by rw [qK,C.out];simp;omega,M,b,h3,v⟩
   |none=>
    rw [show(none:Option AB).getD (0:AB)=0 from rfl,show(none:Option AB).isSome=false from rfl] at j;have q:=l wr ((W:O)+1) (W:O) row o HS M M;replace b:G (ZU f (s.drop (k+1)) [] (VB f row o)=R):=b;clear t;go_wp2_with fail;refine Ω (j _).out ?_;clear j;go_wp2_with fail;refine zC q ?_;rintro w2 ⟨p,m⟩;have hh:=T p;have H:=T (d.trans m);clear q p m HS d;go_wp2_with fail;refine xk ?_;exact⟨k+1,[],VB f row o,xg,M,s8,M,b,hh,H⟩
  ·obtain rfl:k=N:=M;have q:=l wr ((W:O)+1) (W:O) row o HS M M;have p':=Bj f row o;have HF:G (R=VB f row o):=by rw [Hid,<-t.out,zD (by rw [<-i.out];exact qx _)];rfl
   clear t;go_wp2_with fail;refine zC q ?_;rintro w2 ⟨p,m⟩;have hh:=T p;have H:=T (d.trans m);clear q p m HS d;go_wp2;go_end0;rw [HF.out];exact⟨rfl,hh.outs,H,M⟩
theorem I_:Told 135 id:=λW b0 g b s h a c _=>tE W _ g b s h a c
theorem lz:Told 136 (64:: ·):=λW b0 g b s h a c d=>tR W _ g b s h a c M
theorem mi (r:JH):G1 r=Go.Lib.compact (srt (ZU (64:: ·) r.src [] (ZU id r.txt [] []))):=by
 unfold srt;rw [eh,kf,kf];simp [G1,St]
def Fl (W:I) (r:JH) (e:Ending) (a:I):Prop:= ∃A c,e=t' (Z A (U (G1 r)) c)/\xp a W 9 1 (Z A (U (G1 r)) c) (U (G1 r)) ((G1 r).map Lj)/\r' W W a
theorem S0 (r:JH) (W:I) (h1:U r.src<=4000) (h2:U r.txt<=4000):
  xG 92 #[.agg (VF r).toArray] W (Fl W r):=by
 unfold Fl;rw [mi];have s:r' W W (W (Y (VF r).toArray 45)):=j1 _;have d:=(F'.new W 45 (VF r).toArray).alloc (Y #[z8] 99);have f:r' W W ((W (Y (VF r).toArray 45)) (Y #[z8] 99)):=s.alloc s8 _;have a:ug ((W (Y (VF r).toArray 45)) (Y #[z8] 99)) ((W:O)+1) ((W:O)+1) []:=by
  refine⟨none,0, ?_,qP _ _ _ _,qx _⟩;have:=F'.new (W (Y (VF r).toArray 45)) 99 #[z8];simpa using this
 have b:(W:O)+1<=((W (Y (VF r).toArray 45)) (Y #[z8] 99):O):=s8;have k:=λu a w=>T (UB 135 id I_ (enters_of func135 AL rfl) u ((W:O)+1) ((W:O)+1) r.txt [] a w SZ);have i:=λu o a w (hl:U o<=10000)=>T (UB 136 (64:: ·) lz (enters_of func136 AL rfl) u ((W:O)+1) ((W:O)+1) r.src o a w M);replace k:=T k;replace i:=T i;have X:(VF r)[2]? =J (Lj r.src):=rfl;have cY:(VF r)[3]? =J (Lj r.txt):=rfl;have j:=d.cell 2;have m:=d.cell 3;rw [qR,X] at j;rw [qR,cY] at m;have Q:(VF r).toArray= #[.int .u64 (r.time:V),gR (r.level:V),Lj r.src,Lj r.txt]:=rfl;rw [Q] at s d f a b j m⊢;generalize ZU id r.txt [] []=o1 at*;obtain⟨qj,l⟩:=zn (Go.Lib.compact (srt (ZU (64:: ·) r.src [] o1)));rw [<-l];replace l:=T l;unfold Lj at*;generalize (ByteArray.mk r.txt.toArray)=cB,(ByteArray.mk r.src.toArray)=iL,(r.time:V)=tm,(r.level:V)=lv at*;revert d f a b;refine yb ?_;intro d f a b;clear s Q X cY;go_in;go_wp2_with fail;generalize (W (Y #[.int .u64 tm,gR lv, .string iL, .string cB] 45)) (Y #[z8] 99)=w1 at*;refine zC (k w1 a b).out ?_;rintro L ⟨N,g,cK⟩;have d':U o1<=10000:=by simp at cK;omega
 have ih:=T N;have uK:=T (f.trans (g.mono (jv _)));have y:(W:O)+1<=(L:O):=qv b g.size;have u':=(g.cell (p:=⟨W,2,none⟩) (ze _)).trans j;clear N g cK j m;go_wp2_with fail;refine zC (i L o1 ih y d').out ?_;rintro B ⟨p',x,G'⟩;generalize ZU (64:: ·) r.src [] o1=o2 at*;obtain⟨A,c,q,C,-⟩:=p';have E:=q.cell 0;simp only [qR,qt] at E;have e:=T (uK.trans (x.mono (jv _)));have v:(W:O)+1<=(B:O):=qv y x.size;have D':U o2<=100000:=M;have H:=T (Sl A o2 c ((W:O)+1) o2 B C M v);have iv:=Wf o2;generalize R:U o2=n at*;replace R:=T R;replace iv:=T iv;have cL:=T q;clear y u' q C x;go_wp2_with fail;refine zC H ?_;rintro z ⟨K,h⟩;have D:=(h.blk cL FV).cell 0;simp only [qR,qt] at D;have hh:=T (e.trans (h.below.mono (jv _)));have F:(W:O)+1<=(z:O):=qv v h.size;have t:=T (SL A n c ((W:O)+1) (srt o2) z K M F);rw [<-l.out] at t;clear K h v E;go_wp2_with fail;refine zC t ?_;rintro w5 ⟨P,ln⟩;have z':=T (qi P (jv _));have m':=T (hh.trans (ln.below.mono (jv _)));clear P ln F D;go_wp2;go_ret;exact⟨A,c,rfl,z',m'⟩
end
end Go.Proofs.YtfnlfpcfkbdcmaaGreatDoor
