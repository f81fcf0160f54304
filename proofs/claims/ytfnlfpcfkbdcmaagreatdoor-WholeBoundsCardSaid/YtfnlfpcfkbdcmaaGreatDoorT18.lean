import Derived.Test.YtfnlfpcfkbdcmaaGreatDoorT15
import Derived.Test.YtfnlfpcfkbdcmaaGreatDoorT16
set_option linter.unusedSimpArgs false
set_option linter.unusedVariables false
set_option maxRecDepth 100000
set_option maxHeartbeats 0
open Go.Proofs.Tryz
namespace Go.Proofs.YtfnlfpcfkbdcmaaGreatDoor
open Go.RowKit
section
variable {A b:q'}{E:TypeId}{base base' c d e f l n q s:O}{leaf:S (O×Bool)}{os:S O}{w w':I}
theorem xz {size:O} {d:TypeId} {g i:S la} (h:xp w base E size (Z A n c) n g) (m:xp w base' d l (Z b e f) e i) (o:E≠d): ∀k∈K' A,k∉K' b:=λk q j=>by
 obtain⟨t,s,p⟩:=jV h k (ZO.1 q);obtain⟨u,r,a⟩:=jV m k (ZO.1 j);rw [p] at a;injection a with a
 injection a with _ ht
 exact o ht
theorem b_ {size o:O} {e:TypeId} {a:q'} {b l:S la} (h:xp w base E size (Z A n c) n b) (g:xp w base' e o (Z a d f) d l) (j:E≠e) (m:w.grownBy w' (a.map (·.block))):xp w' base E size (Z A n c) n b:=
 ((qE.refl (K' a) w).grown m λk i=> .inl i).own h (xz h g j)
def I9 (w:I) (v:la) (R:S (O×Bool)):Prop:= ∃A c,v=Z A R c/\xp w 0 319 2 (Z A R c) R (yC R)
def Rws (w:I) (base:O) (A:q') (q c:O) (leaf:S (O×Bool)):Prop:=
 ∃vs,xp w base 314 1 (Z A q c) q vs/\ ∀k,k<q-> ∃v,vs[k]? =some v/\I9 w v (vi leaf k)
theorem Rws.below (h:Rws w base A q c leaf) (a:r' w w w'):Rws w' base A q c leaf:=by
 obtain⟨vs,d,b⟩:=h;refine⟨vs,qG d a,λk e=> ?_⟩;obtain⟨v,h1,f,c1,h2,h3⟩:=b k e;exact⟨v,h1,f,_,h2,qG h3 a⟩
theorem Rws.at_ {k:O} (h:Rws w base A q c leaf) (f:k<q): ∃b a c1,A=some ⟨b,0,none⟩/\i' w ⟨b,k,none⟩=J (Z a (U (vi leaf k)) c1)/\xp w 0 319 2 (Z a (U (vi leaf k)) c1) (U (vi leaf k)) (yC (vi leaf k)):=by
 obtain⟨vs,d,e⟩:=h;obtain⟨b,rfl⟩:=Zx d M;obtain⟨v,h1,a,c1,rfl,h3⟩:=e k f;exact⟨b,a,_,rfl,by rw [(VQ d M).1,h1],h3⟩
theorem Rws.push {e:q'} {c1:O} {o:Obj} {vs:S la} (a:xp w base 314 1 (Z A q c) q vs) (g: ∀k,k<q-> ∃v,vs[k]? =some v/\I9 w v (vi leaf k)) (R:O) (j:R=U (vi leaf q)) (h:xp w 0 319 2 (Z b R c1) R (yC (vi leaf q))) (f:(w.alloc o).grownBy w' (A.map (·.block))) (i:xp w' base 314 1 (Z e (q+1) d) (q+1) (vs++[Z b R c1])):Rws w' base e (q+1) d leaf:=by
 subst j;have n:=a.1;refine⟨_,i,λk p=> ?_⟩;by_cases m:k<q
 ·obtain⟨v,h2,l,c2,h3,h4⟩:=g k m;refine⟨v,by rw [q_ M];exact h2,l,_,h3,b_ (h4.alloc o) (a.alloc o) FV f⟩
 ·obtain rfl:k=q:=M;refine⟨_,by rw [qm M,show k-U vs=0 by omega];rfl,b,_,rfl,b_ (h.alloc o) (a.alloc o) FV f⟩
theorem mS:(prog.info? 314).map (λi=>(i.zero,i.size,i.bytes))=J (some (Z none 0 0),1,24):=AL
theorem Bq (os:S O) (x:O): ∀l,(XU os x l).Perm (x::l)
 |[]=>List.Perm.refl _
 |y::t=>by
  unfold XU;split
  ·exact((Bq os x t).cons y).trans (List.Perm.swap x y t)
  ·exact List.Perm.refl _
theorem Fi (os:S O): ∀l a,(YO os a l).Perm (l++a)
 |[],a=>List.Perm.refl _
 |x::t,a=>(Fi os t _).trans (((Bq os x a).append_left t).trans List.perm_middle)
theorem kP: ∀(os:S O) (i:O),(vA i os).Nodup
 |[],i=>List.nodup_nil
 |n::t,i=>by
  unfold vA;split
  ·exact List.nodup_cons.2 ⟨λh=>by have:=Yq t _ i h;omega,kP t (i+1)⟩
  ·exact kP t _
theorem FI (os:S O):(dT os).Nodup:=by
 unfold dT;have:=Fi os (vA 0 os) [];rw [jx] at this;exact((List.reverse_perm _).trans this).nodup_iff.2 (kP _ 0)
theorem tA (ns:S O) (i:O):H6 (ns++[0]) i=H6 ns i:=by unfold H6;simp
theorem kU (ns:S O) (q i:O):H6 (ns++[q]) i=H6 ns i+if i<q then 1 else 0:=by
 unfold H6;rw [vx,qK];congr 1;by_cases h:i<q<;>simp [h]
theorem mn (ns:S O) (i:O):H6 ns i<=U ns:=jN _ _
theorem EZ (no:O) (a ns:S O):ZL no a (ns++[0])=ZL no a ns:=by unfold ZL;simp only [tA]
theorem kd (no:O) (a ns:S O):U (ZL no a ns)=no:=by simp [ZL]
theorem Ph (no:O) (a ns:S O) (b:s<no):(ZL no a ns)[s]? =J (if s∈a then UInt8.ofNat (H6 ns (a.idxOf s)) else 0):=by simp [ZL,b]
theorem te (no:O) (b:S O):ZL no b []=List.replicate no 0:=by
 apply zm;intro s;by_cases a:s<no
 ·rw [Ph _ _ _ a,jF,qk a];simp [H6]
 ·rw [qO (by rw [kd];omega),qO SZ]
theorem EJ {no:O} {a ns:S O} (i:a.Nodup) (c:a[q]? =some s) (j:s<no):ZL no a (ns++[q+1])=(ZL no a (ns++[q])).set s (UInt8.ofNat (H6 ns q+1)):=by
 have g:q<U a:=by
  rcases jE q (U a) with h|h
  ·exact h
  ·rw [qO h] at c;cases c
 have f:a[q]=s:=by rw [qX g] at c;exact zy c
 have k:a.idxOf s=q:=by rw [<-f];exact List.Nodup.idxOf_getElem i q g
 apply zm;intro t;by_cases ht:t<no
 ·rw [Ph _ _ _ ht,vD];by_cases d:s=t
  ·subst d;rw [qk rfl,qk (zQ c),qk (by rw [kd];exact j),k,kU,qk (ze q)]
  ·rw [qJ d,Ph _ _ _ ht];by_cases b:t∈a
   ·rw [qk b,qk b,kU,kU];have l:a.idxOf t≠q:=λe=>by
     have h1:=List.idxOf_lt_length_of_mem b;have h2:=List.getElem_idxOf h1;simp only [e] at h2;exact d (by rw [<-f];exact h2)
    congr 3;by_cases h:a.idxOf t<q
    ·rw [qk h,qk M]
    ·rw [qJ h,qJ M]
   ·rw [qJ b,qJ b]
 ·rw [qO (by rw [kd];omega),qO (by rw [xE,kd];omega)]
def Wg (w:I) (os:S O) (no:O) (e:Ending) (w':I):Prop:= ∃b a,e=t' (BA #[Z b no a,()])/\xp w' w 5 1 (Z b no a) no ((X6 os 15).map B8)/\r' w w w'
theorem tN (h:U (dT os)=0):X6 os 15=List.replicate os 0:=by unfold X6;rw [qk h]
theorem S3 {s:O} (h:U (dT os)=1) (a:(dT os)[0]? =some s):X6 os 15=(List.replicate os 0).set s 1:=by
 unfold X6;rw [qJ M,qk h];congr 1;cases b:dT os with
 |nil=>rw [b] at h;cases h
 |cons x t=>rw [b] at a;simpa using a
theorem tM (h:2<=U (dT os)):X6 os 15=ZL os (dT os) ((List.range 15).map (aO (Hn os (dT os)) 14)):=by
 unfold X6;rw [qJ M,qJ M];have a:U (Hn os (dT os))=U (dT os):=by simp [Hn]
 have h1:=Wu (Hn os (dT os)) 14;have h2:=Ey (Hn os (dT os)) _ 15 0 rfl;rw [show(15-1:O)=14 from rfl,h1,<-a];have h3:Hs (Hn os (dT os)) 14 0=2*U (Hn os (dT os))-2:=rfl;rw [<-h3,h2];simp
theorem mI (Ao:Option Addr) (no co B:O) (os:S O) (w:I) (h:E' w B 1 Ao no (os.map Qb)) (hB:B<=(w:O)) (hno:no<=300) (hf:mr os) (hos: ∀x∈os,x<=1000000):
  xG 171 #[Z Ao no co,e' 15] w (Wg w os no):=by
 obtain⟨i0,hi,iL,m',hz2⟩:=qA xR;obtain⟨i1,hj,Y',hx1,hx2⟩:=qA mS;have cL:=T (mR Ao no co B os w h hB hno hf);have H:=T h;have o:=T hB;have N:=T h.len;have HOS:=T hos;have hno3: ¬(300:V)<(no:V):=M;have hb1:i0.bytes*no<=281474976710656:=by rw [hz2];omega
 have U':no<=maxLen:=SJ;have hm300:U (dT os)<=300:=by rw [e_];have:=uF os 0;have:=N.out;omega
 replace hi:=T hi;replace iL:=T iL;replace m':=T m';replace hz2:=T hz2;replace hj:=T hj;replace Y':=T Y';replace hx1:=T hx1;replace hx2:=T hx2;clear h hB hf hos;obtain⟨m,hm⟩: ∃m,m=U (dT os):=⟨_,rfl⟩;rw [<-hm] at cL hm300;have P:=T hm;clear hm;have hsh: ¬(32768:V)<(m:V):=M;by_cases hm1:m=1
 focus
  subst hm1
  have hul:U (dT os)=1:=P.symm;obtain⟨s,d⟩: ∃s,(dT os)[0]? =some s:=⟨_,qX M⟩;have R:=T (S3 hul d);have uK:=Fo (zQ d);rw [N.out] at uK;replace d:=T d;clear hul
 rotate_left
 focus
  by_cases hm0:m=0
  ·subst hm0
   have R:=T (tN P.symm);clear hm1;go_enter func171,ntmps171
   go_wp2_with fail;refine cL.mono ?_;rintro e n ⟨As,cs,rfl,F,ln⟩;have C:=T ln;clear cL F ln;have E:G ((w:O)<=(n:O)):=C.size
   go_wp2_with (at_make;refine xP _ rfl _ _ 30 rfl w 5 i0 (gR 0) 1 qu hi iL m' .i64 .i64 _ _ no rfl rfl rfl rfl hb1 U' E ?_;intro hh a z;have A:=T (C.grown z E (λk l=>by cases l));replace a:=T a;clear z)
   have W:G (xp hh w 5 1 (Z n no no) no ((X6 os 15).map B8)):=by
    rw [R.out,N.out,yP];have D:=a.out;have e:(madeCells (Value.int .u8 0).cells (no*1)).toList=List.replicate no (gR 0):=by rw [z_];exact xf _ _
    rw [e] at D;exact D
   clear a
   go_ret2;exact⟨_,_,rfl,W.out,A.out⟩
  focus
   have hm2:2<=m:=M
   have R:=T (tM (by rw [<-P.out];exact hm2))
   have hm1': ¬(m:V)=1:=M;have hm2': ¬(m:V)<2:=M;clear hm1 hm0
  rotate_left
 rotate_left
 all_goals
  go_enter func171,ntmps171
  go_wp2_with fail;refine cL.mono ?_;rintro e n ⟨As,cs,rfl,F,ln⟩;obtain⟨iv,rfl⟩:=Zx F M
  have D':=T F;have C:=T ln;clear cL F ln;have E:G ((w:O)<=(n:O)):=C.size
 ·go_wp2_with (at_make;refine xP _ rfl _ _ 30 rfl w 5 i0 (gR 0) 1 qu hi iL m' .i64 .i64 _ _ no rfl rfl rfl rfl hb1 U' E ?_;intro hh a z;have A:=T (C.grown z E (λk l=>by cases l));have qj:=T (D'.kept z (.inr (by simp [Value.ownBlock])));have c3:i' hh iv=J (s:la):=(by rw [(xU qj.out (Nat.succ_pos 0)).1,qD,d.out];rfl);have o3:=xU a uK;rw [qX (by have:=a.1;omega)] at o3;obtain⟨o3,f3⟩:=o3;replace a:=T a;clear z)
  have D:=Qn (k:=s) a (gR 1);have HB5:=T (A.setCell (p:=⟨n,s,none⟩) E (gR 1));have W:G (xp (hh.setCell ⟨n,s,none⟩ (gR 1)) w 5 1 (Z n no no) no ((X6 os 15).map B8)):=by
   rw [R.out,N.out,JY,yP];have e:(madeCells (Value.int .u8 0).cells (no*1)).toList=List.replicate no (gR 0):=by rw [z_];exact xf _ _
   rw [e] at D;exact D
  clear D a A qj
  go_wp2_with fail
  go_ret2;exact⟨_,_,rfl,W.out,HB5.out⟩
 ·go_wp2_with (at_make;refine xP _ rfl _ _ 30 rfl w 5 i0 (gR 0) 1 qu hi iL m' .i64 .i64 _ _ no rfl rfl rfl rfl hb1 U' E ?_;intro hh a z;have A:=T (C.grown z E (λk l=>by cases l));have qj:=T (D'.kept z (.inr (by simp [Value.ownBlock])));replace a:=T a;clear z)
  have HO3:G (xp hh w 5 1 (Z n no no) no (List.replicate no (gR 0))):=by
   have D:=a.out;have e:(madeCells (Value.int .u8 0).cells (no*1)).toList=List.replicate no (gR 0):=by rw [z_];exact xf _ _
   rw [e] at D;exact D
  clear a D' C;generalize (n:O)=c at*
  have KL:=T (tF Ao iv no co B m cs hh os (dT os) hh (H.below (A.mono o)) (qv o A.size) (E'.zY qj) (qx _) M M (λx f=>by have:=Fo f;have:=N.out;omega) (λx f=>by have:=HOS.out x f;omega))
  refine KL.mono ?_;rintro e b ⟨ih,K,rfl,d',u'⟩;obtain⟨L,hL⟩: ∃L,L=Hn os (dT os):=⟨_,rfl⟩;rw [<-hL] at d' R;have hLl:U L=m:=by rw [hL,P.out];simp [Hn]
  have hLt:G (∀x∈L,x.2=true):=by rw [hL];exact Ev _ _
  have hLw:G (∀x∈L,x.1<=1000000):=by
   rw [hL,Hid];intro x f;unfold Hn at f;obtain⟨y,_,rfl⟩:=jB.1 f;show os.getD y 0<=_;rw [qd];cases hy:os[y]?with
   |none=>simp
   |some v=>exact HOS v (zQ hy)
  have HLO:=T d';have Q':=T (A.trans (u'.mono A.size));have HS4:=T (qG qj u');have HO4:=T (qG HO3 u');have h34:=T u'.size;have ck:=T hLl;clear KL d' u' A qj HO3 hL hLl;have HRW:G (Rws (b (Y #[Z ih m K] 314)) b b 1 1 L):=by
   refine⟨[Z ih m K],⟨rfl, .inr ⟨b,1,_,rfl,qx _,F'.new b _ _,qx _,SJ,rfl,rfl⟩⟩,λk l=> ?_⟩;obtain rfl:k=0:=M;have h1:xp b 0 319 2 (Z ih L K) L (yC L):=by rw [ck.out];exact qi HLO (qp _)
   exact⟨_,rfl,ih,K,by rw [show vi L 0=L from rfl,ck.out],h1.alloc _⟩
  have HBn:G (r' b b (b (Y #[Z ih m K] 314))):=(qZ _ _).alloc (qx _) _
  go_wp2_with fail;generalize b (Y #[Z ih m K] 314)=w5 at*
  go_loopw [9] (λv9 wr=> ∃(k cr:O) (Ar:Option Addr),v9=Z Ar (k+1) cr/\k<=14/\G (Rws wr b Ar (k+1) cr L)/\G (r' b b wr)) (λv9 _=>15-Y8 v9)
  case atStart=>exact⟨0,1,_,rfl,M,HRW,HBn⟩
  case round=>
   clear HRW HBn;obtain⟨k,cr,Ar,rfl,l,HR,o⟩:=hrel;by_cases hlt:k<14
   ·have hlt':(k:V)+1<15:=M
    obtain⟨cY,A1,c1,rfl,M',X⟩:=HR.at_ (show k<k+1 by omega)
    have hll2:xp wr 0 319 2 (Z ih m K) m (yC L):=qG (qi HLO (qp _)) o.out;have J':=CF L k;rw [ck.out] at J';have KN:=T (mw ih A1 m K (U (vi L k)) c1 L (vi L k) wr hll2 X M M (λx f=>by
     have h1:=Wd L 1000000 hLw k x f;have h2:2^k<=2^14:=zZ M M;have h3:=yz 1000000 h2;have e:1000000*2^14=16384000000:=rfl;omega))
    have hnr:YY L (vi L k)=vi L (k+1):=rfl;rw [hnr] at KN;generalize U (vi L k)=lk at*
    have hk1:((k:V)+1)-1=(k:V):=M;clear X hll2 J' hnr
    go_wp2_with fail;refine KN.mono ?_;rintro e w6 ⟨A6,c6,rfl,ho6,hB6⟩;have HR6:=HR.below hB6;obtain⟨vs,N9,hvv⟩:=HR6;have z':=T N9;have HVV:=T hvv;have W:=T (qi ho6 (qp _));have p':=T (o.trans (hB6.mono o.size));have hsz6:G ((b:O)<=(w6:O)):=p'.size;have hv1:(k+1)+1<=maxLen:=SJ
    have hv2:((k+1)+1)*24<=140737488355328:=M;clear KN N9 hvv ho6 hB6 HR o M';generalize hR6:U (vi L (k+1))=R6 at*
    replace hR6:=T hR6
    go_wp2_with (at_builtin;refine qF _ rfl (.tmp 57) (.tmp 66) 316 rfl b 314 i1 (Z none 0 0) 1 24 underlying316 hj Y' hx1 hx2 rfl M cY (k+1) cr vs rfl (z'.alloc _) ((w6:O)+1) w6 1 1 [Z A6 R6 c6] rfl (zU _ _ _) (IB rfl) hv1 hv2 (qv hsz6 s8) ?_;intro A7 c7 w7 G' hg7 hs7;replace G':=T G';have hg7b:=T hg7;have HB7:=T (zG (p'.alloc p'.size (Y #[Z A6 R6 c6] 314)) hg7 (z'.alloc _) (qv p'.size s8));clear hg7 hs7)
    have HR7:G (Rws w7 b A7 (k+1+1) c7 L):=Rws.push z' HVV R6 hR6.symm W hg7b G'.out;clear z' HVV W p' G' hg7b
    go_wp2_with fail;go_roundw
    case rel=>exact⟨k+1,c7,A7,s8,M,HR7,HB7⟩
    case measure=>simp [Y8];omega
   ·have hk14:k=14:=M
    subst hk14;obtain⟨W2,hW2⟩: ∃W2,W2=wr:=⟨_,rfl⟩;subst hW2;have HS2:=T (qG HS4 o);have cB:=T (qG HO4 o);have HB2:=T (Q'.trans (o.mono Q'.size));have hgo:G ((w:O)<=c):=(zj cB c (by simp [K'])).1
    have hgs:G (iv≠c):=λe=>xz HS2 cB FV iv (by simp [K']) (by simp [K',e])
    clear o HS4 HO4 Q'
    go_wp2_with fail;go_loopw [10,11] (λv10 P' wr=> ∃(j:O) (i:V),v10=e' (Hs L 14 j:O)/\P'=(i:la)/\G (i+(j:V)=14)/\j<=15/\G (xp wr w 5 1 (Z c no no) no ((ZL no (dT os) ((List.range j).map (aO L 14))).map B8))/\G (qE [c] W2 wr)) (λ_ P' _=>((intOf P')+1).toNat)
    case atStart=>
     refine⟨0,14, ?_, ?_,by rw [Hid];omega,M, ?_,qE.refl _ _⟩
     ·show Value.int .i64 _=Value.int .i64 ((2*U L-2:O):V)
      rw [ck.out];congr 1;omega
     ·first|rfl|go_num|simp
     ·rw [show(List.range 0).map (aO L 14)=[] from rfl,te,yP]
      exact cB.out
    case round=>
     obtain⟨j,i,rfl,rfl,hij,hj15,u,g⟩:=hrel;have hijo:=hij.out;by_cases hj14:j<=14
     ·obtain⟨r,hr⟩: ∃r:O,r=14-j:=⟨_,rfl⟩
      obtain rfl:i=(r:V):=M;obtain⟨cY,A1,c1,hAr,M',X⟩:=HR.at_ (show r<14+1 by omega)
      subst hAr;have hgrgo:cY≠c:=by
       obtain⟨vs,N9,_⟩:=HR.out;exact λe=>xz N9 cB FV cY (by simp [K']) (by simp [K',e])
      have htk:=iJ hLt (by rw [ck.out];exact hm300) j hj14
      rw [<-hr] at htk;have J':=CF L r;have hrl2:=Sm (leaf:=L) r;rw [ck.out] at J' hrl2;have Z':aO L 14 j=QX ((vi L r).take (Hs L 14 j)):=by unfold aO;rw [<-hr]
      have X':Hs L 14 (j+1)=2*(Hs L 14 j-aO L 14 j):=rfl;have I':(List.range (j+1)).map (aO L 14)=(List.range j).map (aO L 14)++[aO L 14 j]:=by rw [jA,qg];rfl
      have hcell2:i' wr ⟨cY,r,none⟩=J (Z A1 (U (vi L r)) c1):=g.cell (p:=⟨cY,r,none⟩) (by simpa using hgrgo) M'
      have hcap:=jC X;obtain⟨ns,hnsE⟩: ∃ns,ns=(List.range j).map (aO L 14):=⟨_,rfl⟩;rw [<-hnsE] at u I';have hnsl:U ns=j:=by rw [hnsE];simp
      have HO':G (xp wr w 5 1 (Z c no no) no ((ZL no (dT os) (ns++[0])).map B8)):=by rw [EZ];exact u.out
      have hrow2:=T X;replace Z':=T Z';replace X':=T X';replace I':=T I';replace hr:=T hr;generalize Hs L 14 j=t at*
      generalize U (vi L r)=lr at*
      obtain⟨h15,h16⟩:=hcap;have hr0:(r:V)<14+1:=M;have htc:(t:V)<=(c1:V):=M;obtain⟨W3,hW3⟩: ∃W3,W3=wr:=⟨_,rfl⟩;subst hW3;clear X M' hijo u hnsE
      go_wp2_with fail;go_loopw [12,86] (λv12 v86 wr=> ∃(p q:O),v12=(q:la)/\v86=(p:la)/\p<=t/\q<=p/\G (q=QX ((vi L r).take p))/\G (xp wr w 5 1 (Z c no no) no ((ZL no (dT os) (ns++[q])).map B8))/\G (qE [c] W2 wr)) (λ_ v86 _=>t-(intOf v86).toNat)
      case atStart=>exact⟨0,0,rfl,rfl,qp _,qx _,by simp [Hid,QX],HO',g⟩
      case round=>
       clear HO' g hcell2;obtain⟨p,q,rfl,rfl,hp,hqp,Q,u,g⟩:=hrel;by_cases hlt:p<t
       ·have hlt':(p:V)<(t:V):=M
        have S':=g.own hrow2 (xz hrow2 cB FV);obtain⟨gx,x,rfl,f,x1,x2⟩:=UH S' (show p<lr by omega)
        have O':(vi L r).take (p+1)=(vi L r).take p++[x]:=by rw [qs,f];rfl
        have cK:QX ((vi L r).take (p+1))=q+if x.2=true then 1 else 0:=by
         rw [O'];unfold QX at Q⊢;rw [vx,qK,<-Q.out];cases h:x.2<;>simp [QQ,h]
        cases N6:x.2
        ·rw [N6] at x2 cK
         have OX:G (q=QX ((vi L r).take (p+1))):=by rw [Hid,cK];simp
         clear cK O' f N6 Q S'
         go_wp2_with fail;go_roundw
         case rel=>exact⟨p+1,q,rfl,by first|rfl|simp,M,M,OX,u.alloc _,g.alloc _⟩
         case measure=>simp [intOf];omega
        ·rw [N6] at x2 cK
         have OX:G (q+1=QX ((vi L r).take (p+1))):=by rw [Hid,cK];simp
         have hqm:q<m:=by
          have h1:=tC (vi L r) (p+1);have:=OX.out;omega
         obtain⟨s,d⟩: ∃s,(dT os)[q]? =some s:=⟨_,qX (by rw [<-P.out];exact hqm)⟩
         have uK:=Fo (zQ d);rw [N.out] at uK;have hst:=EJ (no:=no) (ns:=ns) (FI os) d uK;have d':=mn ns q;have hSr:=g.own HS2 (λk l=>by simp [K'] at l;subst l;simpa using hgs.out)
         have csq:i' (wr (Y #[.int .u64 (x.1:V), .bool true] 319)) ⟨iv,q,none⟩=J (s:la):=by
          rw [(xU (hSr.alloc _) hqm).1,qD,d];rfl
         have N':=u.alloc (Y #[.int .u64 (x.1:V), .bool true] 319);have hidx:(dT os).idxOf s=q:=by
          have hql:q<U (dT os):=by rw [<-P.out];exact hqm
          have e:(dT os)[q]=s:=by rw [qX hql] at d;exact zy d
          rw [<-e];exact List.Nodup.idxOf_getElem (FI os) q hql
         have co:i' (wr (Y #[.int .u64 (x.1:V), .bool true] 319)) ⟨c,s,none⟩=J (gR (H6 ns q:O)):=by
          rw [(xU N' uK).1,qD,Ph _ _ _ uK,qk (zQ d),hidx,kU,qJ (Nat.lt_irrefl q)];show some (Value.int .u8 ((UInt8.ofNat (H6 ns q+0)).toNat:V))=_;rw [zS,jk M];rfl
         have cf:(wr (Y #[.int .u64 (x.1:V), .bool true] 319)).frozen? ⟨c,s,none⟩=false:=(xU N' uK).2;have hOn:G (xp ((wr (Y #[.int .u64 (x.1:V), .bool true] 319)).setCell ⟨c,s,none⟩ (gR ((H6 ns q+1:O):V))) w 5 1 (Z c no no) no ((ZL no (dT os) (ns++[q+1])).map B8)):=by
          have h1:=Qn (k:=s) N' (gR ((H6 ns q+1:O):V));rw [Hid,hst,JY];have e:B8 (UInt8.ofNat (H6 ns q+1))=gR ((H6 ns q+1:O):V):=by
           unfold B8;rw [zS,jk M]
          rw [e];exact h1
         have hMn:=T ((g.alloc (Y #[.int .u64 (x.1:V), .bool true] 319)).zh (p:=⟨c,s,none⟩) (qy.2 rfl) (gR ((H6 ns q+1:O):V)));have hlo15:H6 ns q<=15:=M;have hsn':(s:V)<(no:V):=M;have hqm':(q:V)<(m:V):=M;generalize H6 ns q=lo at*
         have hw8:IntKind.u8.wrap ((lo:V)+1)=(lo:V)+1:=by rw [va];omega
         clear cK O' f N6 Q S' d hst hSr N' hidx u g d'
         go_wp2_with fail;go_roundw
         case rel=>exact⟨p+1,q+1,by first|rfl|simp,by first|rfl|simp,M,M,OX,by simpa using hOn,by simpa using hMn⟩
         case measure=>simp [intOf];omega
       ·have hge: ¬(p:V)<(t:V):=M
        obtain rfl:p=t:=M;have hqn:G (q=aO L 14 j):=by rw [Hid,Z'.out];exact Q.out
        have hO9:G (xp wr w 5 1 (Z c no no) no ((ZL no (dT os) ((List.range (j+1)).map (aO L 14))).map B8)):=by rw [Hid,I'.out,<-hqn.out];exact u.out
        have ht9:G (2*((p:V)-(q:V))=((Hs L 14 (j+1):O):V)):=by rw [Hid,X'.out,<-hqn.out];omega
        clear u Q
        go_wp2_with fail;go_roundw
        case rel=>exact⟨j+1,(r:V)-1,by rw [<-ht9.out],by go_num,by have:=hij.out;rw [Hid];omega,M,hO9,g⟩
        case measure=>simp [intOf]
     ·obtain rfl:j=15:=M
      obtain rfl:i= -1:=M;have HO9:G (xp wr w 5 1 (Z c no no) no ((X6 os 15).map B8)):=by rw [R.out,N.out];exact u.out
      have HB9:G (r' w w wr):=HB2.trans (g.below (λk l=>by rw [qy.1 l];exact hgo) HB2.size)
      clear hijo u g
      go_wp2_with fail
      go_ret2;exact⟨_,_,rfl,HO9.out,HB9.out⟩
theorem BZ (A0:q') (n c0 B:O) (bs:qn) (w:I) (h:E' w B 1 A0 n (bs.map B8)) (hB:B<=(w:O)) (hok:gk bs=0):
  xG 173 #[Z A0 n c0] w λe w'=> ∃g,e=t' (BA #[mJ (some ⟨g,0,none⟩),()])/\_e w' g w (w':O) bs/\r' w w w':=by
 obtain⟨i0,hi,iz0,iz1,iz2⟩:=xt Pf;have KC:=T (Ck A0 n c0 B bs w h hB);have H:=T h;have BB:=T hB;have d':=T h.len;obtain⟨hn3,hokl,hall⟩:=ZT hok;have hn300:n<=300:=by rw [<-d'.out];exact hn3
 have HOK:=T hok;unfold FN YW at KC;rw [hok,qk rfl] at KC;have hcl:=PD bs;rw [hcl,d'.out] at KC;replace hall:=T hall;clear h hB hok hn3 hokl hcl;go_in;go_wp2_with fail;refine KC.mono ?_;rintro e w1 ⟨Ac,C,rfl,hco,hB1⟩;have HCO:=T hco;have HB1:=T hB1;have KL:=T (yV A0 n c0 B bs w1 (H.below (hB1.mono BB)) (qv BB hB1.size) M);unfold jQ at KL;clear hco hB1;go_wp2_with fail;refine KL.mono ?_;rintro e P ⟨E,F,rfl,hlo,hB2⟩;have HLO:G (xp P w 5 1 (Z E n F) n (bs.map B8)):=qi hlo HB1.size;have HCO2:=T (qG HCO hB2);have iv:=T (HB1.trans (hB2.mono HB1.size));clear hlo hB2;go_wp2_with fail;rw [Mz];have HS0:G (HS (P (Y (VR (Z E n F) (Z Ac n C) (λ_=>0) (λ_=>0) (λ_=> Z none 0 0)) 266)) P w (Z E n F) (Z Ac n C) (λ_=>0) (λ_=>0) (λ_=>0) (λ_=>none) (λ_=>0) (λ_=>[])):=
  ⟨F'.new P _ _,λl _=>qP _ _ _ _,λl l' _ _ _ k a=>by simp [K'] at a⟩
 have N:G (r' w w (P (Y (VR (Z E n F) (Z Ac n C) (λ_=>0) (λ_=>0) (λ_=> Z none 0 0)) 266))):=iv.alloc iv.size _;have HLO3:G (xp (P (Y (VR (Z E n F) (Z Ac n C) (λ_=>0) (λ_=>0) (λ_=> Z none 0 0)) 266)) w 5 1 (Z E n F) n (bs.map B8)):=HLO.alloc _;have HCO3:G (xp (P (Y (VR (Z E n F) (Z Ac n C) (λ_=>0) (λ_=>0) (λ_=> Z none 0 0)) 266)) w 25 1 (Z Ac n C) n ((Xt bs).map _h)):=HCO2.alloc _;have Q':G ((w:O)<=(P:O)):=iv.size;generalize P (Y (VR (Z E n F) (Z Ac n C) (λ_=>0) (λ_=>0) (λ_=> Z none 0 0)) 266)=w3,(P:O)=g at*;go_loopw [25] (λv25 wr=> ∃(i:O) (q m:O->O) (A:O->q') (c:O->O) (b:O->S O),v25=(i:la)/\i<=n/\G (HS wr g w (Z E n F) (Z Ac n C) q m m A c b)/\G (r' w w wr)/\G (xp wr w 5 1 (Z E n F) n (bs.map B8))/\G (xp wr w 25 1 (Z Ac n C) n ((Xt bs).map _h))/\G (∀l,b l=Fs (bs.take i) l)/\G (∀l,m l=U (b l))/\G (∀l,q l=VD bs i l)) (λv25 _=>n-(intOf v25).toNat)
 ·exact⟨0,λ_=>0,λ_=>0,λ_=>none,λ_=>0,λ_=>[],rfl,qp _,HS0,N,HLO3,HCO3,by rw [Hid];intro l;simp [Fs,J6],y8,by rw [Hid];intro l;simp [VD,Fs,J6]⟩
 ·clear HS0 N HLO3 HCO3;obtain⟨i,q,m,A,c,b,rfl,hi_,v,HB,cB,Q,R,L,HQ⟩:=hrel;by_cases hlt:i<n
  ·have hlt':=j' i n;obtain⟨ad,z,hAd,-,hz,hcell⟩:=(H.below (HB.mono BB)).byte hlt;subst hAd;have htk:bs.take (i+1)=bs.take i++[z]:=by rw [qs,hz];rfl
   have htl:U (bs.take i)=i:=by rw [qh,d'.out];omega
   have hz15:=hall z (zQ hz);by_cases P':z.toNat=0
   ·have hz0':((z.toNat:V)==0)=true:=by simp [P']
    have hze:(z.toNat:V)=0:=M;have HX2:G (∀l,b l=Fs (bs.take (i+1)) l):=λl=>by rw [htk,BQ l z _ P'];exact R l
    have M':G (∀l,q l=VD bs (i+1) l):=λl=>by
     have e:Fs (bs.take (i+1)) l=Fs (bs.take i) l:=by rw [htk,BQ l z _ P']
     rw [HQ.out l];unfold VD;rw [e]
    rw [hze] at hcell;clear htk htl hz P' R HQ hz0' hze;go_wp2_with fail;refine xk ?_;exact⟨i+1,q,m,A,c,b,xg,M,v,HB,cB,Q,HX2,L,M'⟩
   ·obtain⟨l,hl⟩:=zn z.toNat;have U':G (∀j,Fs (bs.take (i+1)) j=b j++if l=j then [i] else []):=λj=>by rw [htk,nQ j z _ P',htl,R.out j,hl]
    rw [<-hl] at hcell hz15 P';obtain⟨iL,u,hAc,-,hu,hcx⟩:=(E'.zY Q).at_ hlt;subst hAc;obtain⟨x,hx,rfl⟩:=LX _h _ _ _ hu;have hxg:G ((Xt bs).getD i 0=x):=by rw [Hid,qd,hx];rfl
    unfold _h at hcx;have hx16:x<65536:=by rw [<-hxg.out];exact Ek bs i
    have f:l<16:=M;have cF:=v.lQ f;have cM:=v.iV f;have c1:i' wr ⟨g,1,none⟩=J (Z (some iL) n C):=by rw [v.blk.cell 1,ml]
    have fF:wr.frozen? ⟨g,2+l,none⟩=false:=v.blk.frozen _;have fM:wr.frozen? ⟨g,18+l,none⟩=false:=v.blk.frozen _;have hl16':(l:V)<16:=M;have hl0:=xi l;have wl:DW (l:V)=(l:V):=SX;have wx:DW (x:V)=(x:V):=SX;have hlz:((l:V)==0)=false:=SZ;have hml:m l<=300:=by
     rw [L.out l,R.out l];refine qv ?_ hn300;unfold Fs;split
     ·simp
     ·refine qv (F0 l _ _) ?_;rw [htl];omega
    have wi:DW (i:V)=(i:V):=SX;have hi0:=xi i;clear htk htl hz hl hu hx;have hMl:=zn (m l);by_cases O':m l=0
    focus
     have hm0':((m l:V)==0)=true:=by simp [O']
     have S':b l=[]:=xq.1 ((L l).symm.trans O');have M':G (∀j,(if j=l then x else q j)=VD bs (i+1) j):=λj=>by
      unfold VD;rw [U'.out j];by_cases h:j=l
      ·subst h;rw [qk rfl,qk rfl,S',xY,qJ (List.cons_ne_nil _ _),List.headD_cons,hxg.out]
      ·rw [qJ h,qJ (λe:l=j=>h e.symm),jx,HQ.out j,R.out j];rfl
     have cM0:=cM;rw [O'] at cM0;have HML:G (m l=0):=O';clear S' HQ O';generalize r:m l=uK at*;replace r:=T r;clear cM;go_wp2_with fail;refine zv 10 (λW=>i' W ⟨g,1,none⟩=J (Z (some iL) n C)/\i' W (iL.add i)=J (.int .u16 x)) AL ⟨c1,hcx⟩ (λln=> ?_);refine Z6 [0,1,2,3,4] (a':= ?_) ?_;refine zq [5] (a':= ?_) ?_;refine Z6 [6,7,8,9] (a':= ?_) ?_;refine j4 10 rfl AL FV SQ (λK d=> ?_);go_simp;refine d _ _ ?_;clear d K;try simp only [Act.put,qQ,qY,qV]
     refine zV AL ?_ _;have hh:G (HS (wr.setCell ⟨g,2+l,none⟩ x).drew g w (Z E n F) (Z (some iL) n C) (λj=>if j=l then x else q j) m m A c b):=(v.out.Lk f x).drew;have iv:G (r' w w (wr.setCell ⟨g,2+l,none⟩ x).drew):=(HB.setCell (p:=⟨g,2+l,none⟩) Q' _).drew;have hS2:qE [g] wr (wr.setCell ⟨g,2+l,none⟩ x).drew:=((qE.refl [g] wr).zh (p:=⟨g,2+l,none⟩) (qy.2 rfl) _).drew;have u':=T (hS2.own cB (λk a=>by simpa using qT cB v.blk FV k a));have D':=T (hS2.own Q (λk a=>by simpa using qT Q v.blk FV k a));clear ln hS2 v HB cB Q c1 hcx cF fF fM cM0;generalize (wr.setCell ⟨g,2+l,none⟩ x).drew=wk at*;generalize hqq:(λj=>if j=l then x else q j)=q2 at hh;replace M':G (∀j,q2 j=VD bs (i+1) j):=λj=>by rw [<-hqq];exact M' j
     have cM:=hh.iV f;rw [r.out] at cM;clear hqq;have fM:wk.frozen? ⟨g,18+l,none⟩=false:=hh.blk.frozen _;have wM:DW ((uK:V)+1)=(uK:V)+1:=SX;go_wp2_with fail;refine zv 10 (λW=>i' W ⟨g,18+l,none⟩=J (uK:la)) AL cM (λln=> ?_);refine Z6 [0,1,2,3,4] (a':= ?_) ?_;refine zq [5] (a':= ?_) ?_;refine Z6 [6,7,8,9] (a':= ?_) ?_;refine j4 10 rfl AL FV SQ (λK d=> ?_);go_simp;refine d _ _ ?_;clear d K;try simp only [Act.put,qQ,qY,qV]
     refine zV AL ?_ _;have D:G (HS (wk.setCell ⟨g,18+l,none⟩ (e' ((uK:V)+1))).drew g w (Z E n F) (Z (some iL) n C) q2 (λj=>if j=l then uK+1 else m j) m A c b):=(hh.lj f (uK+1)).drew;have N:G (r' w w (wk.setCell ⟨g,18+l,none⟩ (e' ((uK:V)+1))).drew):=(iv.setCell (p:=⟨g,18+l,none⟩) Q' _).drew;have N6:qE [g] wk (wk.setCell ⟨g,18+l,none⟩ (e' ((uK:V)+1))).drew:=((qE.refl [g] wk).zh (p:=⟨g,18+l,none⟩) (qy.2 rfl) _).drew;have m':=T (N6.own u' (λk a=>by simpa using qT u' hh.blk FV k a));have I':=T (N6.own D' (λk a=>by simpa using qT D' hh.blk FV k a));clear ln N6 hh cM fM wM;generalize (wk.setCell ⟨g,18+l,none⟩ (e' ((uK:V)+1))).drew=o at*;have cS:=D.out.WH f;have fS:o.frozen? ⟨g,34+l,none⟩=false:=D.blk.frozen _;have HO:=T (D.own l f);rw [r.out] at cS HO;have hm1:uK+1<=maxLen:=SJ;have hm2:(uK+1)*8<=140737488355328:=M;go_wp2_with fail;refine zv 14 (λW=>i' W ⟨g,34+l,none⟩=J (Z (A l) uK (c l))) AL cS (λln=> ?_);refine Z6 [0,1,2,3,4,5,6] (a':= ?_) ?_;refine zq [7] (a':= ?_) ?_;refine Z6 [8,11,12] (a':= ?_) ?_;have ih:HS (o.drew (Y #[i] 3)) g w (Z E n F) (Z (some iL) n C) q2 (λj=>if j=l then uK+1 else m j) m A c b:=D.drew.fresh (j1 _)
    rotate_left
    focus
     have hm0':((m l:V)==0)=false:=SZ;have M':G (∀j,q j=VD bs (i+1) j):=λj=>by
      unfold VD;rw [U'.out j,HQ.out j];unfold VD;rw [<-R.out j];by_cases h:l=j
      ·subst h;have S':b l≠[]:=λe=>O' (by rw [L.out l,e];rfl);rw [qk rfl,qJ S',qJ (by simp [S'])];cases hxl:b l with
       |nil=>exact absurd hxl S'
       |cons y t=>rfl
      ·rw [qJ h,jx]
     generalize r:m l=uK at*;replace r:=T r;clear HQ c1 hcx cF fF fM;have hh:=v;have iv:=HB;have u':=cB;have D':=Q;clear v HB cB Q;have fM:wr.frozen? ⟨g,18+l,none⟩=false:=hh.blk.frozen _;have wM:DW ((uK:V)+1)=(uK:V)+1:=SX;go_wp2_with fail;refine zv 10 (λW=>i' W ⟨g,18+l,none⟩=J (uK:la)) AL cM (λln=> ?_);refine Z6 [0,1,2,3,4] (a':= ?_) ?_;refine zq [5] (a':= ?_) ?_;refine Z6 [6,7,8,9] (a':= ?_) ?_;refine j4 10 rfl AL FV SQ (λK d=> ?_);go_simp;refine d _ _ ?_;clear d K;try simp only [Act.put,qQ,qY,qV]
     refine zV AL ?_ _;have D:G (HS (wr.setCell ⟨g,18+l,none⟩ (e' ((uK:V)+1))).drew g w (Z E n F) (Z (some iL) n C) q (λj=>if j=l then uK+1 else m j) m A c b):=(hh.lj f (uK+1)).drew;have N:G (r' w w (wr.setCell ⟨g,18+l,none⟩ (e' ((uK:V)+1))).drew):=(iv.setCell (p:=⟨g,18+l,none⟩) Q' _).drew;have N6:qE [g] wr (wr.setCell ⟨g,18+l,none⟩ (e' ((uK:V)+1))).drew:=((qE.refl [g] wr).zh (p:=⟨g,18+l,none⟩) (qy.2 rfl) _).drew;have m':=T (N6.own u' (λk a=>by simpa using qT u' hh.blk FV k a));have I':=T (N6.own D' (λk a=>by simpa using qT D' hh.blk FV k a));clear ln N6 hh iv u' D' cM fM wM;generalize (wr.setCell ⟨g,18+l,none⟩ (e' ((uK:V)+1))).drew=o at*;have cS:=D.out.WH f;have fS:o.frozen? ⟨g,34+l,none⟩=false:=D.blk.frozen _;have HO:=T (D.own l f);rw [r.out] at cS HO;have hm1:uK+1<=maxLen:=SJ;have hm2:(uK+1)*8<=140737488355328:=M;go_wp2_with fail;refine zv 14 (λW=>i' W ⟨g,34+l,none⟩=J (Z (A l) uK (c l))) AL cS (λln=> ?_);refine Z6 [0,1,2,3,4,5,6] (a':= ?_) ?_;refine zq [7] (a':= ?_) ?_;refine Z6 [8,11,12] (a':= ?_) ?_;have ih:HS (o.drew (Y #[i] 3)) g w (Z E n F) (Z (some iL) n C) q (λj=>if j=l then uK+1 else m j) m A c b:=D.drew.fresh (j1 _)
    rotate_left
    all_goals
     have cL:xp (o.drew (Y #[i] 3)) w 3 1 (Z (A l) uK (c l)) uK ((b l).map NV):=by
      have:=ih.own l f;rw [r.out] at this;exact this
     have cA:=ih.WH f;rw [r.out] at cA;have N9:(w:O)<=(o.drew (Y #[i] 3):O):=qv N.size s8;have X':=N.size;refine IA 9 rfl AL SQ (λK d=> ?_);go_simp;skip;refine d _ _ (cA) (λln=>xb ?_);clear d K;refine QY 10 rfl AL (λK d=> ?_)
     (refine jm _ rfl (.tmp 66) (.tmp 68) 62 rfl w 3 i0 () 1 8 jj hi iz0 iz1 iz2 rfl M (A l) uK (c l) _ rfl cL ((o:O)+1) o 1 1 [e' (i:V)] rfl (zU _ _ _) (IB rfl) hm1 hm2 N9 ?_;intro ck X s OX qj hs6;have cK:qE (K' (A l)) (o.drew (Y #[i] 3)) s:=(qE.refl _ _).grown qj (λk a=> .inl a);have z':=cK.blk ih.blk (λa=>ih.fpg f g a rfl);have Z':i' s ⟨g,34+l,none⟩=J (Z (A l) uK (c l)):=(by rw [z'.cell,Cg _ _ _ _ _ f,r.out]);have hf6:s.frozen? ⟨g,34+l,none⟩=false:=z'.frozen _)
     refine d _ _ (Z') (λln=>xb ?_);clear d K;refine Z6 [13] (a':= ?_) ?_;refine j4 14 rfl AL FV SQ (λK d=> ?_);go_simp;refine d _ _ ?_;clear d K;try simp only [Act.put,qQ,qY,qV]
     refine zV AL ?_ _;rw [<-r.out] at OX;have cY:=HS.push D.drew f OX qj hs6;rw [<-r.out] at cY⊢;have hne:g∉K' (A l):=λa=>ih.fpg f g a rfl;have Y':r' w w (o.drew (Y #[i] 3)):=N.drew.alloc X' _;have HB7:G (r' w w (s.setCell ⟨g,34+l,none⟩ (Z ck (m l+1) X))):=((zG Y' qj cL N9).setCell (p:=⟨g,34+l,none⟩) Q' _);have G':qE [g] s (s.setCell ⟨g,34+l,none⟩ (Z ck (m l+1) X)):=(qE.refl [g] s).zh (p:=⟨g,34+l,none⟩) (qy.2 rfl) _;have p':qE [] o (o.drew (Y #[i] 3)):=qE.jq (((qZ _ _).drew).alloc (qx _) _);have N':=p'.own m' s8;have J':=p'.own I' s8;have HL7:=T (G'.own (cK.own N' (xz N' cL FV)) (λk a=>by simpa using qT m' D.blk FV k a));have HC7:=T (G'.own (cK.own J' (xz J' cL FV)) (λk a=>by simpa using qT I' D.blk FV k a));have HX7:G (∀j,(λj=>if j=l then b l++[i] else b j) j=Fs (bs.take (i+1)) j):=λj=>by
      rw [U'.out j];by_cases h:j=l
      ·subst h;simp
      ·rw [qJ (λe:l=j=>h e.symm)];simp [h]
     have HM7:G (∀j,(λj=>if j=l then m l+1 else m j) j=U ((λj=>if j=l then b l++[i] else b j) j)):=λj=>by
      by_cases h:j=l
      ·subst h;simp [L.out]
      ·simp only [h,if_false];exact L j
     replace cY:=T cY
    focus clear Y' G' p' N' J' cK z' Z' hf6 OX qj hs6 ih cL R L cS fS cA ln hne N9 X'
    rotate_left
    focus clear Y' G' p' N' J' cK z' Z' hf6 OX qj hs6 ih cL R L cS fS cA ln hne N9 X'
    rotate_left
    all_goals
     generalize s.setCell ⟨g,34+l,none⟩ (Z ck (m l+1) X)=w7,(λj=>if j=l then m l+1 else m j)=m2,(λj=>if j=l then ck else A j)=Ax,(λj=>if j=l then X else c j)=cx,(λj=>if j=l then b l++[i] else b j)=xs2 at*;go_wp2_with fail
    ·refine xk ?_;exact⟨i+1,q2,m2,Ax,cx,xs2,xg,M,cY,HB7,HL7,HC7,HX7,HM7,M'⟩
    ·refine xk ?_;exact⟨i+1,q,m2,Ax,cx,xs2,xg,M,cY,HB7,HL7,HC7,HX7,HM7,M'⟩
  ·obtain rfl:i=n:=M;have hge:=vc i i;have hxs: ∀l,b l=Fs bs l:=λl=>by rw [R.out l,<-d'.out,jP]
   have hq:q=Ho bs:=funext λl=>by rw [HQ.out l,<-d'.out,tI]
   have hm:m=H4 bs:=funext λl=>by rw [L.out l,hxs l];rfl
   have hlt': ∀(l:O),l<16-> ∀k∈K' (A l),k<(wr:O):=λl hl k a=>(zj (v.own l hl) k a).2;have hlL: ∀k∈K' E,k<(wr:O):=λk a=>(zj cB k a).2;have hlC: ∀k∈K' Ac,k<(wr:O):=λk a=>(zj Q k a).2;have hgl:=v.blk.lt;have HCDR:G (_e wr g w (wr:O) bs):=by
    refine⟨⟨E,Ac,F,C,λl=> Z (A l) (m l) (c l), ?_, ?_, ?_,λl hl=> ?_⟩,Q',hgl,HOK⟩
    ·rw [d'.out,<-hq,<-hm];exact v.blk
    ·rw [d'.out];exact⟨cB,hlL⟩
    ·rw [d'.out];exact⟨Q,hlC⟩
    ·exact⟨A l,c l,by rw [hm],by rw [<-hm,<-hxs l];exact v.own l hl,hlt' l hl⟩
   clear hxs hq hm hlt' hlL hlC hgl v cB Q R L HQ;go_wp2;go_ret2;exact⟨g,rfl,HCDR,HB⟩
theorem Pc (s:Bw) (x:O) (n:V):(PR s x n).n<=s.n+64:=by
 unfold PR;split
 ·rename_i h;rw [YH];unfold Sc at h;split at h
  ·cases h
  ·omega
 ·omega
theorem VM (ls:qn) (s:Bw) (x:V):(HU ls s x).n<=s.n+64:=by
 unfold HU;split
 ·omega
 ·exact Pc _ _ _
theorem ke: ∀(f:O) (s:Bw) (l:qn),(QR f s l).n<=s.n+10*f
 |0,s,l=>by simp [QR]
 |f+1,s,[]=>by show s.n<=_;omega
 |f+1,s,x::t=>by
  unfold QR;split
  ·have:=ke f (Jh s x.toNat 4) t
   rw [YH] at this;omega
  ·have:=ke f (Jh (Jh s 0 4) (XT 63 t) 6) (t.drop (XT 63 t))
   rw [YH,YH] at this;omega
theorem DZ (s:Bw) (l:qn):(C4 s l).n<=s.n+10*U l:=by
 unfold C4;split
 ·exact ke _ _ _
 ·omega
theorem nK (ls lf:qn) (s:Bw) (t:O×O×O):(DT ls lf s t).n<=s.n+256:=by
 unfold DT;split
 ·have:=VM ls s (pd t).1;omega
 ·have h1:=VM ls s (pd t).1;generalize HU ls s (pd t).1=a at*;have h2:=Pc a (pd t).2.1 (((pd t).1:V)-257);generalize PR a (pd t).2.1 (((pd t).1:V)-257)=b at*;have h3:=VM lf b (pd t).2.2.1;generalize HU lf b (pd t).2.2.1=c at*;have h4:=Pc c (pd t).2.2.2 (pd t).2.2.1;omega
def EH (W:I) (g:O) (t:TypeId) (rest:S la) (A:q') (s:Bw) (ls:qn) (e:Ending) (a:I):Prop:=
 ∃c lo hi b d,e=t' (mJ (some ⟨c,0,none⟩))/\_e a c lo hi ls/\(W:O)<=lo/\hi<=(a:O)/\Wr a g t rest b d (C4 s ls)/\XP W a g A b/\ ∀k∈g::K' b,k<lo
theorem Wr.far {W:I} {g cap:O} {t:TypeId} {rest:S la} {A:q'} {s:Bw} (h:Wr W g t rest A cap s): ∀k∈g::K' A,k<(W:O):=λk a=>by
 rcases qL.1 a with rfl|a
 ·exact h.blk.lt
 ·exact(zj h.own k a).2
theorem DJ (W:I) (g:O) (t:TypeId) (rest:S la) (A:q') (cap:O) (s:Bw) (l:q') (no ln B:O) (os:S O) (D:Wr W g t rest A cap s) (h:E' W B 1 l no (os.map Qb)) (X:B<=(W:O)) (Q:no<=300) (F:mr os) (L: ∀x∈os,x<=1000000) (ck:s.n<=400000000) (K:gk (X6 os 15)=0):
  xG 120 #[mJ g,Z l no ln] W (EH W g t rest A s (X6 os 15)):=by
 have o:=T (mI l _ ln B _ W h X Q F L);have f:=T D;have ih:=T K;clear h F L K D;unfold Wg at o;generalize X6 os 15=ls at*;go_in;go_wp2_with fail;refine o.mono ?_;rintro e H ⟨v,z,rfl,i,m⟩;have hh:=T (f.fresh m);have p:=T i;have N:G (Off v (g::K' A)):=λiv cY a=>by
  subst cY;have:=(zj i iv.block (by simp [K'])).1;have:=f.far _ a;omega
 have c:=T (CU H g t _ A _ s v _ z H _ hh (E'.zY i) (qx _) N M);have b:=T m;rw [ih.out] at c;unfold XX at c;clear i m;go_wp2_with fail;refine zC c ?_;rintro q ⟨cK,R,C,u⟩;have E:=T (u.jZ.own p (λk a P=>by
  have:=(zj p k a).1;have:=f.far _ P;omega))
 have uK:=T (BZ v _ z q _ q (E'.zY E) (qx _) ih);have j:=T C;have d:=T u;clear C u;go_wp2_with fail;refine uK.mono ?_;rintro e w ⟨cL,rfl,y,r⟩;have qj:G (EH W g t rest A s ls (t' (mJ cL)) w):=
  ⟨cL,q,w,cK,R,rfl,y,qv b.size d.jZ.size,qx _,j.fresh r,
   ⟨((qE.jq b).trans d.jZ (λk a=> .inl a)).fresh r,λk a=>(d.fp k a).imp id (λh2=>qv b.size h2)⟩,j.far⟩
 clear y r j d b;go_wp2;go_ret;exact qj.out
def PT (g:O):Value:=mJ g
structure TW (W:I) (g:O) (A:q') (cap:O) (s:Bw) (gs los his:O) (ls:qn) (gf lof hif:O) (lf:qn):Prop where
 wr:Wr W g 190 [PT gs,PT gf] A cap s
 cs:_e W gs los his ls
 cf:_e W gf lof hif lf
 sep: ∀k∈g::K' A,(k<los\/his<=k)/\(k<lof\/hif<=k)
 hs:his<=(W:O)
 hf:hif<=(W:O)
end
section
variable {A A':q'}{N at2 at_ cap cap' e g gf gr gs gt hif his l lof los x:O}{W W':I}{b bs lf ls:qn}{s s':Bw}{v1 v2:la}
theorem TW.step (h:TW W g A cap s gs los his ls gf lof hif lf) (c:Wr W' g 190 [PT gs,PT gf] A' cap' s') (a:XP W W' g A A'):TW W' g A' cap' s' gs los his ls gf lof hif lf:=
 ⟨c,h.cs.jZ a.jZ (λk a=>(h.sep k a).1),h.cf.jZ a.jZ (λk a=>(h.sep k a).2),λk b=>by
  rcases qL.1 b with rfl|b
  ·exact h.sep _ (qo ..)
  ·rcases a.fp k b with h1|h1
   ·exact h.sep k (qM _ h1)
   ·exact⟨.inr (qv h.hs h1), .inr (qv h.hf h1)⟩,
  qv h.hs a.jZ.size,qv h.hf a.jZ.size⟩
theorem TW.fresh (h:TW W g A cap s gs los his ls gf lof hif lf) (a:r' W W W'):TW W' g A cap s gs los his ls gf lof hif lf:=
 h.step (h.wr.fresh a) ⟨qE.jq a,λ_ h=> .inl h⟩
theorem TW.drew (h:TW W g A cap s gs los his ls gf lof hif lf):TW W.drew g A cap s gs los his ls gf lof hif lf:=h.fresh ((Dr.refl W|>.drewN 1).below _)
theorem TW.XZ (h:TW W g A cap s gs los his ls gf lof hif lf):i' W ⟨g,2,none⟩=J (PT gs):=by rw [h.wr.blk.cell 2];simp
theorem TW.lX (h:TW W g A cap s gs los his ls gf lof hif lf):i' W ⟨g,3,none⟩=J (PT gf):=by rw [h.wr.blk.cell 3];simp
theorem TW.lV (h:TW W g A cap s gs los his ls gf lof hif lf) (x:V) (b:s.n<=900000000):
  xG 122 #[PT gs,PT g,x] W (XX W g 190 [PT gs,PT gf] A (e' (N3 ls x)) (HU ls s x)):=
 Bv W _ _ _ _ g _ _ A _ s x h.cs h.wr b (λk a=>(h.sep k a).1)
theorem TW.Lp (h:TW W g A cap s gs los his ls gf lof hif lf) (x:V) (b:s.n<=900000000):
  xG 122 #[PT gf,PT g,x] W (XX W g 190 [PT gs,PT gf] A (e' (N3 lf x)) (HU lf s x)):=
 Bv W _ _ _ _ g _ _ A _ s x h.cf h.wr b (λk a=>(h.sep k a).2)
theorem nk {t:O×O×O} (h:Bp t):(pd t).2.1<65536/\(pd t).2.2.2<65536:=by
 obtain⟨lt,a,b⟩:=t;obtain⟨h1,h2⟩:=h;dsimp only at h1 h2;unfold pd;dsimp only;by_cases h0:a=0
 ·rw [qk h0];exact⟨by show 0<65536;omega,by show 0<65536;omega⟩
 ·rw [qJ h0];unfold YB at h2;rw [qJ M] at h2;have:=xD h2;exact⟨vQ (Qd _ _) M,vQ (Qd _ _) M⟩
theorem Eb (W:I) (g:O) (A:q') (cap:O) (s:Bw) (D Y' P':O) (ls:qn) (gf O' hif:O) (lf:qn) (t:O×O×O) (h:TW W g A cap s D Y' P' ls gf O' hif lf) (ht:Bp t) (hl:s.n<=800000000):
  xG 121 #[PT g, .agg #[gR (t.1:V),(t.2.1:V),(t.2.2:V)]] W (XX W g 190 [PT D,PT gf] A (BA #[]) (DT ls lf s t)):=by
 have F:=λW=>T (BP t W ht);have H:=T h;obtain⟨N6,Z',Q'⟩:=EG ht;obtain⟨N9,S'⟩:=nk ht;obtain⟨K,j⟩:=zn (DT ls lf s t);rw [<-j];unfold DT at j;replace j:=T j;unfold pcT pcC at F;generalize pd t=pp at*;obtain⟨a,d,c,i⟩:=pp;obtain⟨t0,t1,t2⟩:=t;dsimp only at F N6 Z' Q' N9 S' j⊢;clear h ht;have x:G (∀g,PT g=mJ (some ⟨g,0,none⟩)):=λ_=>rfl;rw [x.out g];go_in;go_wp2_with fail;refine zC (F _).out ?_;intro q N;have qj:=(H.fresh (j1 _)).fresh N;have C:=T (qj.fresh (j1 (Y #[a,d,c,i] 254)));have HK:G (XP W (q (Y #[a,d,c,i] 254)) g A A):=⟨((((qE.refl _ W).alloc _).fresh N).alloc _),λ_ h=> .inl h⟩;have L:G (F' (q (Y #[a,d,c,i] 254)) q 254 #[a,d,c,i]):=F'.new _ _ _;have u:G ((q:O)∉g::K' A):=λl=>by
  have:=qj.wr.far _ l;omega
 have c2:=C.out.XZ;have q0:=L.cell 0;clear qj N F;have y:=T (C.drew.lV (a:V) M);rw [x.out D] at c2 y;rw [x.out g] at y;unfold XX at y;go_wp2_with fail;generalize q (Y #[a,d,c,i] 254)=w2,(q:O)=b at*;refine zv 10 (λW=>i' W ⟨g,2,none⟩=J (mJ D)/\i' W b=J (a:la)) AL ⟨c2,q0⟩ (λf=> ?_);refine zq [0,1,2,3,4,5] (a':= ?_) ?_;refine zq [6,7,8] (a':= ?_) ?_;refine vf 9 y ?_;rintro e cK ⟨rfl,A3,z',cY,m⟩;refine⟨_,rfl,(⟨(by rw [cY.blk.cell 2];simp [PT]),m.jZ.cell (p:= b) u q0⟩),λf=> ?_⟩;refine zV AL ?_ _;have hh:=T (C.drew.step cY m);have v:=T (m.jZ.blk L.drew u);have iL:=T (HK.drew.trans m);have o:G (b∉g::K' A3):=λl=>by
  rcases qL.1 l with h|h
  ·exact u (by rw [h];exact qo ..)
  ·rcases m.fp _ h with h|h
   ·exact u (qM _ h)
   ·have:=L.lt;have e:(w2.drew:O)=(w2:O):=rfl;omega
 have cB:G ((HU ls s (a:V)).n<=800000064):=by have:=VM ls s (a:V);rw [Hid];omega
 clear cY m c2 q0 f;have q0:=v.cell 0;by_cases m':a<256
 ·have X':(a:V)<256:=M;have ln:G (K=HU ls s (a:V)):=by rw [Hid,j.out,qk m']
  go_wp2;go_end0;unfold XX;rw [ln.out];exact⟨rfl,A3,z',hh.wr,iL⟩
 ·have X': ¬(a:V)<256:=M;have ln:G (K=PR (HU lf (PR (HU ls s (a:V)) d ((a:V)-257)) (c:V)) i (c:V)):=by rw [Hid,j.out,qJ m']
  generalize HU ls s (a:V)=uK at*;have wl:IntKind.u64.wrap (d:V)=(d:V):=by rw [qS];omega
  have wf:IntKind.u64.wrap (i:V)=(i:V):=by rw [qS];omega
  have wm:DW ((a:V)-257)=(a:V)-257:=SX;have q1:=v.cell 1;have Q:=T (V_ cK.drew g _ _ A3 z' uK d ((a:V)-257) hh.drew.wr M (by have:=cB.out;omega));unfold XX at Q;go_wp2_with fail;refine zv 10 (λW=>i' W b=J (a:la)/\i' W ⟨b,1,none⟩=J (d:la)) AL ⟨q0,q1⟩ (λf=> ?_);refine zq [0,1,2,3,4,5] (a':= ?_) ?_;refine zq [6,7,8] (a':= ?_) ?_;refine vf 9 Q ?_;rintro e w4 ⟨rfl,A4,cap4,M',k⟩;refine⟨_,rfl,(⟨k.jZ.cell (p:= b) o q0,k.jZ.cell (p:=⟨b,1,none⟩) o q1⟩),λf=> ?_⟩;refine zV AL ?_ _;have ih:=T (hh.drew.step M' k);have E:=T (k.jZ.blk v.drew o);have I':=T (iL.drew.trans k);have z:G (b∉g::K' A4):=λl=>by
   rcases qL.1 l with h|h
   ·exact o (by rw [h];exact qo ..)
   ·rcases k.fp _ h with h|h
    ·exact o (qM _ h)
    ·have:=v.lt;have e:(cK.drew:O)=(cK:O):=rfl;omega
  have ck:G ((PR uK d ((a:V)-257)).n<=800000128):=by have:=Pc uK d ((a:V)-257);have:=cB.out;rw [Hid];omega
  clear M' k q0 q1 f wl wm;generalize PR uK d ((a:V)-257)=cL at*;have q2:=E.cell 2;have X:=ih.lX;have w:=T (ih.drew.Lp (c:V) (by have:=ck.out;omega));rw [x.out gf] at X w;rw [x.out g] at w;unfold XX at w;go_wp2_with fail;refine zv 10 (λW=>i' W ⟨g,3,none⟩=J (mJ gf)/\i' W ⟨b,2,none⟩=J (c:la)) AL ⟨X,q2⟩ (λf=> ?_);refine zq [0,1,2,3,4,5] (a':= ?_) ?_;refine zq [6,7,8] (a':= ?_) ?_;refine vf 9 w ?_;rintro e w5 ⟨rfl,A5,U',P,r⟩;refine⟨_,rfl,(⟨(by rw [P.blk.cell 3];simp [PT]),r.jZ.cell (p:=⟨b,2,none⟩) z q2⟩),λf=> ?_⟩;refine zV AL ?_ _;have u':=T (ih.drew.step P r);have d':=T (r.jZ.blk E.drew z);have p':=T (I'.drew.trans r);have R:G (b∉g::K' A5):=λl=>by
   rcases qL.1 l with h|h
   ·exact z (by rw [h];exact qo ..)
   ·rcases r.fp _ h with h|h
    ·exact z (qM _ h)
    ·have:=E.lt;have e:(w4.drew:O)=(w4:O):=rfl;omega
  have G':G ((HU lf cL (c:V)).n<=800000192):=by have:=VM lf cL (c:V);have:=ck.out;rw [Hid];omega
  clear P r q2 X f;generalize HU lf cL (c:V)=s5 at*;have q2:=d'.cell 2;have q3:=d'.cell 3;have iv:=T (V_ w5.drew g _ _ A5 U' s5 i (c:V) u'.drew.wr M (by have:=G'.out;omega));unfold XX at iv;go_wp2_with fail;refine zv 9 (λW=>i' W ⟨b,2,none⟩=J (c:la)/\i' W ⟨b,3,none⟩=J (i:la)) AL ⟨q2,q3⟩ (λf=> ?_);refine zq [0,1,2,3,4,5] (a':= ?_) ?_;refine zq [6,7] (a':= ?_) ?_;refine vf 8 iv ?_;rintro e w6 ⟨rfl,A6,OX,J',B⟩;refine⟨_,rfl,(⟨B.jZ.cell (p:=⟨b,2,none⟩) R q2,B.jZ.cell (p:=⟨b,3,none⟩) R q3⟩),λf=> ?_⟩;refine zV AL ?_ _;have D':=T J';have N':=T (p'.drew.trans B);rw [<-ln.out] at D';clear J' B q2 q3 f;go_wp2;go_end0;exact⟨rfl,A6,OX,D',N'⟩
theorem MY {s:O} (h:SC bs x l=some s):s<U bs:=by
 unfold SC at h;split at h
 ·cases h
 ·rename_i h2;have h3:x-Ho bs l<U (Fs bs l):=by
   have:H4 bs l=U (Fs bs l):=rfl;omega
  rw [qd,qX h3] at h;have h4:(Fs bs l)[x-Ho bs l]=s:=zy h;have h5:=zx h3;rw [h4] at h5;unfold Fs at h5;split at h5
  ·cases h5
  ·have:=uh l _ 0 s h5;omega
theorem gy {there:O}: ∀(f l s k:O),Kg bs x there f l=J (s,k)->s<U bs
 |0,_,_,_,h=>by simp [Kg] at h
 |f+1,l,s,k,h=>by
  unfold Kg at h;split at h
  ·cases h
  ·cases a:SC bs (x/2^(15-l)) l with
   |none=>rw [a] at h;exact gy f _ s k h
   |some b=>
    rw [a] at h;have:b=s:=by injection h with h;exact zo Prod.fst h
    rw [<-this];exact MY a
theorem gQ {b:qn} {at_:O} (h:G5 bs b at_=0): ∃s:O,s<U bs/\b9 bs b at_=(s:V):=by
 unfold G5 at h;unfold b9;cases a:DR bs b at_ with
 |none=>rw [a] at h;dsimp only at h;split at h<;>cases h
 |some p=>exact⟨_,gy _ 1 _ _ a,rfl⟩
theorem uc (b:qn) (n:O): ∀(f at_:O) (a:qn) (c:Bool),U a<=n->n-U a<=f->(Rj b n f at_ a c).1=0->(Rj b n f at_ a c).2.1.length=n/\gk (Rj b n f at_ a c).2.1=0
 |0,at_,a,c,h1,h2,h=>by
  unfold Rj at h⊢;dsimp only at h⊢;split at h
  ·cases h
  ·rename_i d
   rw [qJ d];exact⟨M,by simpa using d⟩
 |f+1,at_,a,c,h1,h2,h=>by
  rw [Rj.eq_2] at h⊢;by_cases e:n<=U a
  ·rw [qk e] at h⊢
   dsimp only at h⊢;split at h
   ·cases h
   ·rename_i d
    rw [qJ d];exact⟨M,by simpa using d⟩
  ·rw [qJ e] at h⊢
   by_cases h4:kq b at_<4
   ·rw [qk h4] at h;cases h
   ·rw [qJ h4] at h⊢
    by_cases h5:kM b at_ 4≠0
    ·rw [qk h5] at h⊢
     exact uc b n f _ _ _ (by rw [qK];show _+1<=n;omega) (by rw [qK];show n-(_+1)<=f;omega) h
    ·rw [qJ h5] at h⊢
     by_cases h6:kq b (at_+4)<6
     ·rw [qk h6] at h;cases h
     ·rw [qJ h6] at h⊢
      by_cases h7:c=true\/n-U a<=kM b (at_+4) 6
      ·rw [qk h7] at h;cases h
      ·rw [qJ h7] at h⊢
       exact uc b n f _ _ _ (by rw [qK,zT];omega) (by rw [qK,zT];omega) h
theorem Ue {b:qn} {n at_:O} (h:(gq b n at_).1=0):(gq b n at_).2.1.length=n/\gk (gq b n at_).2.1=0:=
 uc b n n _ _ _ (qp _) s8 h
structure TR0 (W:I) (gt gr:O) (v1 v2:la) (A:q') (N cap:O) (b:qn) (at_:O):Prop where
 blk:F' W gt 382 #[PT gr,v1,v2]
 rd:Rd W gr A N cap b at_
 ne:gt≠gr
theorem TR0.step (h:TR0 W gt gr v1 v2 A N cap b at_) (a:Rd W' gr A N cap b at2) (c:qE [gr] W W'):TR0 W' gt gr v1 v2 A N cap b at2:=
 ⟨c.blk h.blk (by simpa using h.ne),a,h.ne⟩
theorem TR0.cell (h:TR0 W gt gr v1 v2 A N cap b at_):i' W gt=J (mJ gr)/\i' W ⟨gt,1,none⟩=some v1/\i' W ⟨gt,2,none⟩=some v2:=⟨h.blk.cell 0,h.blk.cell 1,h.blk.cell 2⟩
def EA (W:I) (c:O) (A:q') (N cap:O) (b:qn) (r:V×qn×O) (e:Ending) (a:I):Prop:=
 Rd a c A N cap b r.2.2/\qE [c] W a/\((r.1≠0/\e=t' (BA #[mJ none,e' r.1]))\/
  (r.1=0/\ ∃d lo hi,e=t' (BA #[PT d,()])/\_e a d lo hi r.2.1/\(W:O)<=lo/\hi<=(a:O)))
theorem DY (W:I) (t c:O) (B C:la) (A:q') (N cap at_ n:O) (b:qn) (F:n<=300) (h:TR0 W t c B C A N cap b at_):
  xG 267 #[PT t,n] W (EA W c A N cap b (gq b n at_)):=by
 have a:=T (EK W c A N _ _ n b F h.rd);have c0:=h.cell.1;have k:= Ue (b:=b) (n:=n) (at_:=at_);unfold uG at a;unfold PT;generalize gq b n at_=r at*;obtain⟨f,j,w⟩:=r;dsimp only at a k;clear h;by_cases h0:f=0
 focus
  obtain⟨-,x⟩:=k h0;have E:=T x;subst h0;clear k x
 rotate_left
 focus
  have H:((f:V)==0)=false:=by simp;exact h0
  have K:((f:V) !=0)=true:=by simp;exact h0
  have s:=T h0;clear k
 rotate_left
 all_goals
  go_in;go_wp2_with fail;refine a.mono ?_;rintro e l ⟨v,c1,rfl,i,d,g⟩
 ·have y:=T (BZ v j c1 l j l (E'.zY i) (qx _) E);have u:=T d;have o:=T g;clear i d g c0;go_wp2_with fail;refine y.mono ?_;rintro e D ⟨z,rfl,q,m⟩;have p:G (EA W c A N cap b (0,j,w) (t' (BA #[mJ z,()])) D):=
   ⟨u.fresh m,o.fresh m, .inr ⟨rfl,z,_,_,rfl,q,o.size,qx _⟩⟩
  clear q m;go_wp2;go_ret2;exact p.out
 ·have p:G (EA W c A N cap b (f,j,w) (t' (BA #[mJ none,f])) l):=⟨d,g, .inl ⟨s,rfl⟩⟩;clear i d g c0;go_wp2;go_ret2;exact p.out
theorem Js (w:I) (g:O) (a:Array la):qE [g] w (w.setRow g a):=
 ⟨rfl,rfl,rfl,by rw [Xk];exact qx _,λk c b=>QO w g k a (λe=>b (by rw [e];exact qy.2 rfl))⟩
structure TR (W:I) (gt gr:O) (A:q') (N cap:O) (b:qn) (at_:O) (gs los his:O) (ls:qn) (gf lof hif:O) (lf:qn):Prop where
 t0:TR0 W gt gr (PT gs) (PT gf) A N cap b at_
 cs:_e W gs los his ls
 cf:_e W gf lof hif lf
 s1:gr<los\/his<=gr
 s2:gr<lof\/hif<=gr
 lS:U ls=265
 lF:U lf=12
theorem TR.step (h:TR W gt gr A N cap b at_ gs los his ls gf lof hif lf) (d:Rd W' gr A N cap b at2) (a:qE [gr] W W'):TR W' gt gr A N cap b at2 gs los his ls gf lof hif lf:=
 ⟨h.t0.step d a,h.cs.jZ a (λk c=>by rw [qy.1 c];exact h.s1),h.cf.jZ a (λk c=>by rw [qy.1 c];exact h.s2),h.s1,h.s2,h.lS,h.lF⟩
theorem TR.fresh (h:TR W gt gr A N cap b at_ gs los his ls gf lof hif lf) (a:r' W W W'):TR W' gt gr A N cap b at_ gs los his ls gf lof hif lf:=h.step (h.t0.rd.fresh a) (qE.jq a)
theorem TR.drew (h:TR W gt gr A N cap b at_ gs los his ls gf lof hif lf):TR W.drew gt gr A N cap b at_ gs los his ls gf lof hif lf:=h.fresh ((Dr.refl W|>.drewN 1).below _)
theorem TR.DR (h:TR W gt gr A N cap b at_ gs los his ls gf lof hif lf):xG 285 #[mJ gf,mJ gr] W (nz W gr A N cap b lf at_):=By W gf lof hif lf gr A N cap at_ b h.cf h.t0.rd
theorem TR.LP (h:TR W gt gr A N cap b at_ gs los his ls gf lof hif lf):xG 285 #[mJ gs,mJ gr] W (nz W gr A N cap b ls at_):=By W gs los his ls gr A N cap at_ b h.cs h.t0.rd
def Bu (W:I) (a:O) (A:q') (N cap:O) (b:qn) (r:V×(O×V×V)×O) (e:Ending) (c:I):Prop:=
 e=t' (BA #[.agg (QJ r.2.1.1 r.2.1.2.1 r.2.1.2.2),e' r.1])/\Rd c a A N cap b r.2.2/\qE [a] W c
theorem JS {W w:I} {a N cap:O} {A:q'} {b:qn} (f:Rd w a A N cap b e) (h:qE [a] W w) (i:a<(W:O)) (g: ∀k∈K' A,k<(W:O)) (d:Array la):
  Rd (w.setRow W d) a A N cap b e/\qE [a] W (w.setRow W d):=
 ⟨f.jZ (Js _ _ _) (by rw [qy];omega) (λk c=>by rw [qy];have:=g k c;omega),
  h.trans (Js _ _ _) (λk c=> .inr (by rw [qy.1 c];exact qx _))⟩
theorem Ee (W:I) (d i:O) (A:q') (N cap:O) (b:qn) (at_ gs Q' P':O) (ls:qn) (gf O' S':O) (lf:qn) (sym:O) (h:TR W d i A N cap b at_ gs Q' P' ls gf O' S' lf) (h1:257<=sym) (h2:sym<265):
  xG 286 #[PT d,sym] W (Bu W i A N cap b (YC lf b sym at_)):=by
 have H:=T h;obtain⟨R,v⟩:=zn (YC lf b sym at_);rw [<-v];unfold YC at v;replace v:=T v;have cB:G (i<(W:O)):=h.t0.rd.blk.lt;have u':G (∀k∈K' A,k<(W:O)):=λk x=>(zj h.t0.rd.own k x).2;have p':=h.lF;have n:=T (h.fresh (j1 (Y #[gR 0,(),()] 193)));have y:G (qE [i] W (W (Y #[gR 0,(),()] 193))):=(qE.refl _ W).alloc _;have L:G (F' (W (Y #[gR 0,(),()] 193)) (W:O) 193 (QJ 0 0 0)):=by
  have h:=F'.new W 193 (QJ 0 0 0);rw [Hid];simpa [QJ] using h
 have u:G ((W:O)≠i):=by have:=cB.out;rw [Hid];omega
 unfold PT;obtain⟨k,x⟩:=zn (sym-257);rw [<-x] at v;have Z':(sym:V)-257=(k:V):=M;have hk8:k<8:=M;have wk:DW (k:V)=(k:V):=SX;clear h;by_cases cK:kq b at_<k
 ·have iv:=T (v.out.trans (qk cK));have m:=T (D_ n.t0.rd (k:=k) M cK);have c0:=n.t0.cell.1;unfold JD at m;replace x:=T x;clear cK p';go_in;go_wp2_with fail;refine zC m ?_;rintro t ⟨j,a⟩;have r:=T (a.blk L (by simpa using u.out));have cL:=T j;have Q:=T (y.then a);clear j a c0;go_wp2_with (first|(refine qC rfl 193 _ _ rfl (W:O) (QJ 0 0 0) rfl rfl 193 (QJ 0 0 0) r.out vq rfl (X5 _ _ _) ?_));refine qW (zN rfl _ _ (W:O) (QJ 0 0 0) (e' 1) rfl rfl (qN _ (W:O) 193 _ (QJ 0 0 0) (0,0) _ (r.row _) jc rfl vq)) rfl ?_;unfold Bu;rw [iv.out];exact⟨rfl,JS cL Q cB u' _⟩
 have iL:=Zr b at_ k;have m:=T (Uc n.t0.rd (k:=k) M cK);have c0:=n.t0.cell.1;unfold JD at m;have o:=v.out;rw [qJ cK] at o;generalize D':kM b at_ k=X at*;obtain⟨l,N'⟩:=zn (at_+k);rw [<-N'] at o m;have q:=λt (h:Rd t i A N cap b l) (hm:qE [i] (W (Y #[gR 0,(),()] 193)) t)=>T (n.step h hm).drew.DR;unfold nz JD at q;replace q:=T q;replace x:=T x;clear N' cK;by_cases s:G5 lf b l=0
 focus
  obtain⟨c,hc,I'⟩:=gQ s;rw [p'] at hc;rw [qJ (by simpa using s),I',show((c:O):V).toNat=c from rfl] at o;rw [s,I'] at q;generalize Hr lf b l=P at*;have wc:DW (c:V)=(c:V):=SX;clear s I' p';by_cases ck:kq b P<c
  focus
   have iv:=T (o.trans (qk ck));have B:=T (λw (h:Rd w i A N cap b P)=>D_ h (k:=c) M ck);unfold JD at B;clear o ck iL D'
  rotate_left
  focus
   rw [qJ ck] at o;have G':=Zr b P c;have B:=T (λw (h:Rd w i A N cap b P)=>Uc h (k:=c) M ck);unfold JD at B;generalize OX:kM b P c=qj at*;obtain⟨a4,M'⟩:=zn (P+c);rw [<-M'] at o B;have iv:G (R=(0,(0,((2+2^(sym-257)+X:O):V),((2^c+qj:O):V)),a4)):=by rw [Hid,o,<-x.out]
   have KJ:=λw=>T (MV sym X c qj w h1 h2 (by rw [<-x.out];exact iL) hc G');have Y':X<256:=qB iL (by have:=zZ (show 0<2 by omega) (show k<=8 by omega);simpa using this);have hyb:qj<4096:=qB G' (by have:=zZ (show 0<2 by omega) (show c<=12 by omega);simpa using this);have wx:DW (X:V)=(X:V):=SX;have wy:DW (qj:V)=(qj:V):=SX;generalize ((2+2^(sym-257)+X:O):V)=LL,((2^c+qj:O):V)=DD at*;clear o ck M' iL D' G' OX
  rotate_left
 rotate_left 2
 focus
  have iv:=T (o.trans (qk s));have N9:Hr lf b l=l:=by
   unfold G5 at s;unfold Hr;cases hf:DR lf b l with
   |none=>rfl
   |some p=>rw [hf] at s;exact absurd rfl s
  rw [N9] at q;have X':((G5 lf b l)==0)=false:=by simpa using s
  have U':((G5 lf b l) !=0)=true:=by simpa using s
  generalize G5 lf b l=E,b9 lf b l=cY at*;clear N9 o p' iL D'
 rotate_left
 all_goals
  go_in;go_wp2_with fail;refine zC m ?_;rintro t ⟨j,a⟩;have g:=T (n.step j a);have F:=T (y.then a);have hh:=T (a.blk L (by simpa using u.out));have D:=T (q t j a).out;obtain⟨q0,q1,q2⟩:=g.t0.cell;clear j a c0;unfold PT at q1 q2;go_wp2_with fail;refine zv 14 (λW=>i' W d=J (mJ i)/\i' W ⟨d,2,none⟩=J (mJ gf)) AL ⟨q0,q2⟩ (λih=> ?_);refine zq [0,1,2,3,4,5] (a':= ?_) ?_;refine zq [6,7] (a':= ?_) ?_;refine vf 8 D ?_;rintro e w3 ⟨rfl,K,f⟩;refine⟨_,rfl,(⟨f.cell (p:= d) (by simpa using g.t0.ne) q0,f.cell (p:=⟨d,2,none⟩) (by simpa using g.t0.ne) q2⟩),λih=> ?_⟩;refine zq [9,10,11,12,13] (a':= ?_) ?_;refine zV AL ?_ _;have z:=T K;have C:=T (F.drew.then f);have ln:=T (f.blk hh.drew (by simpa using u.out));have c3:i' w3 d=J (mJ i):=f.cell (p:= d) (by simpa using g.t0.ne) q0;clear K f q0 q1 q2 ih
 focus
  go_wp2_with fail;refine zC (B _ z) ?_;rintro w4 ⟨d',uK⟩;have r:=T (uK.blk ln (by simpa using u.out));have cL:=T d';have Q:=T (C.then uK);clear d' uK c3
 rotate_left
 ·go_wp2_with fail;refine zC (B _ z) ?_;rintro w4 ⟨d',uK⟩;have z':=T (uK.blk ln (by simpa using u.out));have N6:=T d';have J':=T (C.then uK);clear d' uK c3;go_wp2_with fail;refine zC (KJ _).out ?_;intro w5 m';have r:=T (z'.below m' z'.lt);have cL:=T (N6.fresh m');have Q:=T (J'.fresh m');clear KJ m';go_wp2_with (first|(refine qC rfl 193 _ _ rfl (W:O) (QJ 0 LL DD) rfl rfl 193 (QJ 0 0 0) r.out vq rfl (X5 _ _ _) ?_));refine qW (zN rfl _ _ (W:O) (QJ 0 LL DD) () rfl rfl (qN _ (W:O) 193 _ (QJ 0 LL DD) (0,0) _ (r.row _) jc rfl vq)) rfl ?_;unfold Bu;rw [iv.out];exact⟨rfl,JS cL Q cB u' _⟩
 focus have r:=ln;have cL:=z;have Q:=C;clear c3
 rotate_left
 all_goals
  go_wp2_with (first|(refine qC rfl 193 _ _ rfl (W:O) (QJ 0 0 0) rfl rfl 193 (QJ 0 0 0) r.out vq rfl (X5 _ _ _) ?_))
 ·refine qW (zN rfl _ _ (W:O) (QJ 0 0 0) (e' 1) rfl rfl (qN _ (W:O) 193 _ (QJ 0 0 0) (0,0) _ (r.row _) jc rfl vq)) rfl ?_;unfold Bu;rw [iv.out];exact⟨rfl,JS cL Q cB u' _⟩
 ·refine qW (zN rfl _ _ (W:O) (QJ 0 0 0) E rfl rfl (qN _ (W:O) 193 _ (QJ 0 0 0) (0,0) _ (r.row _) jc rfl vq)) rfl ?_;unfold Bu;rw [iv.out];exact⟨rfl,JS cL Q cB u' _⟩
theorem vI {a:Func} {p s r:Tmp} {b:TypeId} (h:a.results= #[.cell p b, .tmp s, .tmp r]) (tmps:Array la) (w:I) (g:O) (c:Array la) (v u:la)
  (k:tmps.getD p undef=mJ g) (i:tmps.getD s undef=v) (d:tmps.getD r undef=u) (e:(loadVar b g).run prog w= .ok (.agg c) w):
  (results a tmps).run prog w= .ok (BA #[.agg c,v,u]) w:=by
 have l:tmps[p]?.getD undef=mJ g:=by simpa using k
 have j:tmps[s]?.getD undef=v:=by simpa using i
 have f:tmps[r]?.getD undef=u:=by simpa using d
 simp [results,h,l,j,f,asAddr,e]
def dh (W:I) (a:O) (A:q') (N cap:O) (b:qn) (r:V×Bool×(O×V×V)×O) (e:Ending) (c:I):Prop:=
 e=t' (BA #[.agg (QJ r.2.2.1.1 r.2.2.1.2.1 r.2.2.1.2.2), .bool r.2.1,e' r.1])/\Rd c a A N cap b r.2.2.2/\qE [a] W c
theorem EE (W:I) (c l:O) (A:q') (N cap:O) (b:qn) (at_ z hh iv:O) (ls:qn) (gf P qj:O) (lf:qn) (h:TR W c l A N cap b at_ z hh iv ls gf P qj lf):
  xG 268 #[PT c] W (dh W l A N cap b (XR ls lf b at_)):=by
 have H:=T h;obtain⟨R,g⟩:=zn (XR ls lf b at_);rw [<-g];unfold XR at g;have v:G (l<(W:O)):=h.t0.rd.blk.lt;have B:G (∀k∈K' A,k<(W:O)):=λk hk=>(zj h.t0.rd.own k hk).2;have Q:=h.lS;have d:=T (h.fresh (j1 (Y #[gR 0,(),()] 193)));have r:G (qE [l] W (W (Y #[gR 0,(),()] 193))):=(qE.refl _ W).alloc _;have u:G (F' (W (Y #[gR 0,(),()] 193)) (W:O) 193 (QJ 0 0 0)):=by
  have h:=F'.new W 193 (QJ 0 0 0);rw [Hid];simpa [QJ] using h
 have C:G ((W:O)≠l):=by have:=v.out;rw [Hid];omega
 obtain⟨q0,q1,q2⟩:=d.t0.cell;have j:=T d.drew.LP;unfold nz JD at j;unfold PT at q1 q2⊢;clear h q2;by_cases n:G5 ls b at_=0
 focus
  obtain⟨s,ih,cL⟩:=gQ n;rw [Q] at ih;rw [qJ (by simpa using n),cL,show((s:O):V).toNat=s from rfl] at g;rw [n,cL] at j;generalize Hr ls b at_=F at*;clear n cL Q;by_cases cK:s=256
  focus
   subst cK;have y:G (R=(0,false,(0,0,0),F)):=by rw [Hid,g,qk (show((256:O):V)=256 from rfl)]
   clear g;rw [show(((256:O):O):V)=256 from rfl] at j
  rotate_left
  focus
   rw [qJ M] at g;have J':((s:V)==256)=false:=SZ;have I': ¬(s:V)=256:=M;by_cases u':s<256
   focus
    have y:=T (g.trans (qk M));have z':(s:V)<256:=M;have ws:IntKind.u8.wrap (s:V)=(s:V):=by rw [va];omega
    clear g ih cK
   rotate_left
   focus
    rw [qJ M] at g;have z': ¬(s:V)<256:=M;obtain⟨uK,L⟩:=zn (YC lf b s F);rw [<-L] at g;have D:=T (λw (h:TR w c l A N cap b F z hh iv ls gf P qj lf)=>Ee w c l A N cap b F z hh iv ls gf P qj lf s h M ih);rw [<-L] at D;unfold Bu PT at D;obtain⟨E,⟨o,q,l2⟩,a4⟩:=uK;have y:G (R=(E,decide (E=0),(o,q,l2),a4)):=g;dsimp only at D;clear g ih cK L u'
   rotate_left
  rotate_left 2
 rotate_left 3
 focus
  have ck:Hr ls b at_=at_:=by
   unfold G5 at n;unfold Hr;cases hf:DR ls b at_ with
   |none=>rfl
   |some p=>rw [hf] at n;exact absurd rfl n
  have y:G (R=(G5 ls b at_,false,(0,0,0),at_)):=by rw [Hid,g,qk n,ck]
  rw [ck] at j;have G':((G5 ls b at_)==0)=false:=by simpa using n
  have D':((G5 ls b at_) !=0)=true:=by simpa using n
  generalize G5 ls b at_=E,b9 ls b at_=cY at*;clear ck g Q
 rotate_left
 all_goals
  go_in;go_wp2_with fail;refine zv 14 (λW=>i' W c=J (mJ l)/\i' W ⟨c,1,none⟩=J (mJ z)) AL ⟨q0,q1⟩ (λm=> ?_);refine zq [0,1,2,3,4,5] (a':= ?_) ?_;refine zq [6,7] (a':= ?_) ?_;refine vf 8 j ?_;rintro e ln ⟨rfl,f,a⟩;refine⟨_,rfl,(⟨a.cell (p:= c) (by simpa using d.t0.ne) q0,a.cell (p:=⟨c,1,none⟩) (by simpa using d.t0.ne) q1⟩),λm=> ?_⟩;refine zq [9,10,11,12,13] (a':= ?_) ?_;refine zV AL ?_ _;have H3:=T (d.drew.step f a);have x:=T f;have t:=T (r.drew.then a);have i:=T (a.blk u.drew (by simpa using C.out));clear f a q0 q1 m
 rotate_left
 ·go_wp2_with (first|(refine qC rfl 193 _ _ rfl (W:O) (QJ s 0 0) rfl rfl 193 (QJ 0 0 0) i.out vq rfl (X5 _ _ _) ?_));refine qW (vI rfl _ _ (W:O) (QJ s 0 0) true () rfl rfl rfl (qN _ (W:O) 193 _ (QJ s 0 0) (0,0) _ (i.row _) jc rfl vq)) rfl ?_;unfold dh;rw [y.out];exact⟨rfl,JS x t v B _⟩
 ·have m':=T (D ln H3);go_wp2_with fail;refine zC m' ?_;rintro w4 ⟨iL,K⟩;have p':=T iL;have d':=T (t.then K);have cB:=T (K.blk i (by simpa using C.out));clear iL K i;have X:=T (cB.row (QJ o q l2));go_wp2_with (first|(refine qC rfl 193 _ _ rfl (W:O) (QJ o q l2) rfl rfl 193 (QJ 0 0 0) cB.out vq rfl (X5 _ _ _) ?_)|(refine ja rfl 193 _ rfl (W:O) rfl 193 (QJ o q l2) (0,0) _ X.out jc rfl vq ?_)|(refine qC rfl 193 _ _ rfl (W:O) (QJ o q l2) rfl rfl 193 (QJ o q l2) X.out vq rfl (X5 _ _ _) ?_));refine qW (vI rfl _ _ (W:O) (QJ o q l2) (.bool (decide (E=0))) E rfl ?_ rfl (qN _ (W:O) 193 _ (QJ o q l2) (0,0) _ (X.row _) jc rfl vq)) rfl ?_
  ·first|rfl|simp
  unfold dh;rw [y.out];exact⟨rfl,JS (JS p' d' v B _).1 (JS p' d' v B _).2 v B _⟩
 rotate_left
 all_goals
  go_wp2_with (first|(refine ja rfl 193 _ rfl (W:O) rfl 193 (QJ 0 0 0) (0,0) _ i.out jc rfl vq ?_)|(refine qC rfl 193 _ _ rfl (W:O) (QJ 0 0 0) rfl rfl 193 (QJ 0 0 0) i.out vq rfl (X5 _ _ _) ?_))
 ·refine qW (vI rfl _ _ (W:O) (QJ 0 0 0) false () rfl rfl rfl (qN _ (W:O) 193 _ (QJ 0 0 0) (0,0) _ (i.row _) jc rfl vq)) rfl ?_;unfold dh;rw [y.out];exact⟨rfl,JS x t v B _⟩
 ·refine qW (vI rfl _ _ (W:O) (QJ 0 0 0) false E rfl rfl rfl (qN _ (W:O) 193 _ (QJ 0 0 0) (0,0) _ (i.row _) jc rfl vq)) rfl ?_;unfold dh;rw [y.out];exact⟨rfl,JS x t v B _⟩
end
end Go.Proofs.YtfnlfpcfkbdcmaaGreatDoor
