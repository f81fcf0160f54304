import Derived.Test.YtfnlfpcfkbdcmaaGreatDoorT09
import Derived.Test.YtfnlfpcfkbdcmaaGreatDoorT11
set_option linter.unusedSimpArgs false
set_option linter.unusedVariables false
set_option maxRecDepth 100000
set_option maxHeartbeats 0
open Go.Proofs.Tryz
namespace Go.Proofs.YtfnlfpcfkbdcmaaGreatDoor
open Go.RowKit
variable {c g no:O}{os:S O}{w:I}
def Qb (x:O):Value:= .int .u32 (x:V)
def Og (x y:O):Int:=if x<y then-1 else if y<x then 1 else 0
theorem eI (x:O) (w:I):xG 264 #[.int .u32 x] w λe w'=>e=t' false/\w=w':=by
 go_wp2;go_ret;exact⟨rfl,rfl⟩
theorem Ge (x y:O) (w:I):xG 240 #[.int .u32 x, .int .u32 y] w λe w'=>e=t' (e' (Og x y))/\w=w':=by
 have K:=λx=>T (eI x);unfold Og;by_cases h1:x<y
 focus
  have b:=j' x y;rw [qk h1]
 rotate_left
 focus
  rw [qJ h1];by_cases h2:y<x
  focus
   have a:=j' y x;rw [qk h2]
  rotate_left
  focus
   rw [qJ h2]
 all_goals
  go_in;go_wp2_with fail;refine Ω ((K x).out _) ?_;go_wp2_with fail;refine Ω ((K y).out _) ?_;go_wp2;go_ret;exact⟨rfl,rfl⟩
structure OfK (w:I) (bo:O) (Ao:q') (no co:O) (os:S O):Prop where
 cell:i' w bo=J (Z Ao no co)
 reads: ∃B,E' w B 1 Ao no (os.map Qb)
theorem OfK.jZ {l:S O} {w':I} {d:q'} (h:OfK w c d no g os) (f:qE l w w') (m:c∉l) (k:Off d l):OfK w' c d no g os:=by
 obtain⟨B,a⟩:=h.reads;refine⟨f.cell m h.cell,B, ?_⟩;rcases zA no with h0|h0
 ·subst h0;exact⟨a.1,λh=>absurd h M⟩
 ·obtain⟨o,e,q,j⟩:=a.2 h0;have n:0<U (os.map Qb):=by have:=a.1;omega
  have i:=yM (j 0 _ (qX n));rw [xF] at i;exact a.mB λr b=>by
   rw [e] at b;injection b with b;subst b;exact f.block _ i (k o e)
theorem OfK.drewN {b:O} {a:q'} (h:OfK w b a no c os) (n:O):OfK (w.drewN n) b a no c os:=h.jZ ((qE.refl [] w).drewN n) s8 (λ_ _=>s8)
theorem OfK.at_ {i x:O} {b:q'} (h:OfK w i b no g os) (k:x<no): ∃a,b=some a/\i' w (a.add x)=J (.int .u32 ((os.getD x 0:O):V)):=by
 obtain⟨B,c⟩:=h.reads;obtain⟨a,u,e,l,f,d⟩:=c.at_ k;obtain⟨y,j,rfl⟩:=LX _ _ x u f;exact⟨a,e,by rw [d,qd,j];rfl⟩
theorem Ss (w:I) (d no i x y:O) (g:q') (os:S O) (h:OfK w d g no i os) (c:x<no) (f:y<no) (n:no<=1000000):
  xG 239 #[x,y,mJ d] w λe w'=>e=t' (e' (Og (os.getD x 0) (os.getD y 0)))/\Dr w w':=by
 obtain⟨o,rfl,v⟩:=h.at_ c;obtain⟨m,j,p⟩:=h.at_ f;obtain rfl:=zy j;have s:=h.cell;have K:=T (Ge (os.getD x 0) (os.getD y 0));generalize os.getD x 0=a,os.getD y 0=b at*;have r:=j' x no;have u:=j' y no;have t:=xi x;have q:=xi y;clear h c f;go_wp2;go_quiet ((go_at_call 240;exact Kj (K.out _)));go_wp2;go_ret;exact⟨rfl,⟨_,rfl⟩⟩
theorem nX:(prog.info? 92).map (λi=>(i.zero,i.size,i.bytes))=J (some (.int .u32 0),1,4):=AL
theorem Vt {P:Program} (w:I) {o:Oper} {a:Act} {K:Act->I->Prop} {Q:Exit->Act->I->Prop}
  (l c:Operand) (t:TypeId) (m:o.op=Op.makeSlice t l c)
  (base:O) (e:TypeId) (i:TypeInfo) (z:la) (size:O) (h1:P.underlying t=J (.slice e)) (h2:P.info? e=some i) (h3:i.zero=some z) (h4:i.size=size)
  (kl kc:IntKind) (n:O) (g:a.eval l= .int kl (n:V)) (d:a.eval c= .int kc (n:V)) (j:i.bytes*n<=281474976710656) (k:n<=maxLen) (p:base<=(w:O))
  (h: ∀w',xp w' base e size (Z w n n) n (madeCells z.cells (n*size)).toList->w.grownBy w' none->K (a.put o.dst (Z w n n)) w'):
  Oper.wp P o a w K Q:=by
 obtain⟨w',b,q,f⟩:=run_make_full w _ t e i z _ h1 h2 h3 h4 kl kc n j k p;unfold Oper.wp;simp [execOp,m,g,d,b,Result.andThen];exact h _ q f
def Ky (l:S (O×O×O)) (s:O):Nat:=U (l.filter λt=>(pd t).1==s)
def pX (l:S (O×O×O)) (s:O):Nat:=U (l.filter λt=>decide (256<(pd t).1)&&((pd t).2.2.1==s))
theorem nV (l:S (O×O×O)) (t:O×O×O) (s:O):Ky (l++[t]) s=if s=(pd t).1 then Ky l (pd t).1+1 else Ky l s:=by
 unfold Ky;rw [vx,qK];by_cases h:s=(pd t).1
 ·subst h;simp
 ·have a: ¬(pd t).1=s:=λe=>h e.symm;rw [qJ h];simp [QQ,a]
theorem nY (l:S (O×O×O)) (t:O×O×O) (s:O):pX (l++[t]) s=if 256<(pd t).1/\s=(pd t).2.2.1 then pX l (pd t).2.2.1+1 else pX l s:=by
 unfold pX;rw [vx,qK];by_cases h1:256<(pd t).1
 ·by_cases h:s=(pd t).2.2.1
  ·subst h;simp [h1]
  ·have a: ¬(pd t).2.2.1=s:=λe=>h e.symm;rw [qJ (λe=>h e.2)];simp [QQ,h1,a]
 ·rw [qJ (λe=>h1 e.1)];simp [QQ,h1]
theorem EG {t:O×O×O} (h:Bp t):(pd t).1<265/\(pd t).1≠256/\(pd t).2.2.1<12:=by
 obtain⟨lt,a,c⟩:=t;obtain⟨h1,h2⟩:=h;dsimp only at h1 h2;unfold pd;dsimp only;by_cases h0:a=0
 ·rw [qk h0];exact⟨by show lt<265;omega,by show lt≠256;omega,by show 0<12;omega⟩
 ·rw [qJ h0];unfold YB at h2;rw [qJ M] at h2;have:=xD h2;have d:=(Nat.log2_lt (n:=a-2) (k:=8) M).2 M;have b:=(Nat.log2_lt (n:=c) (k:=12) M).2 M;exact⟨by show 257+_<265;omega,by show 257+_≠256;omega,b⟩
theorem uB (N:O) (f:O->O) (k v:O) (b:k<N):(((List.range N).map f).map Qb).set k (Qb v)=((List.range N).map λj=>if j=k then v else f j).map Qb:=by
 apply zm;intro i;rw [vD];by_cases h:k=i
 ·subst h;simp [b]
 ·rw [qJ h];simp only [qD];by_cases hi:i<N
  ·have a: ¬i=k:=λe=>h e.symm;rw [jJ hi];simp [a]
  ·rw [qO (by simpa using hi)];rfl
theorem fQ (N:O):(madeCells (Value.int .u32 0).cells (N*1)).toList=((List.range N).map λ_=>0).map Qb:=by
 rw [z_];apply zm;intro i;simp only [qD];by_cases hi:i<N
 ·rw [jJ hi];have:=Nat.mod_one i;simp [madeCells,Value.cells,hi,Qb,this]
 ·rw [qO (by simpa [madeCells] using hi),qO (by simpa using hi)];rfl
theorem Eh (A:q') (c B:O) (l:S (O×O×O)) (w:I) (h:E' w B 3 A l (QN l)) (hB:B<=(w:O)) (hl:U l<=100000) (hok: ∀t∈l,Bp t):
  xG 119 #[Z A l c] w λe w'=> ∃A1 c1 A2 c2,e=t' (BA #[Z A1 265 c1,Z A2 12 c2,()])/\xp w' w 92 1 (Z A1 265 c1) 265 ((pz l).map Qb)/\xp w' w 92 1 (Z A2 12 c2) 12 ((LW l).map Qb)/\r' w w w':=by
 obtain⟨R,hi,P,cK,N6⟩:=xt nX;have H:=T h;have HOK:=T hok;have HB0:=T hB;clear h hok hB;have b265:R.bytes*265<=281474976710656:=by rw [N6.out];decide
 have b12:R.bytes*12<=281474976710656:=by rw [N6.out];decide
 go_in;go_wp2_with fail;refine zv 4 (λ_=>True) AL trivial (λqj=> ?_);refine dV 0 1 rfl rfl AL SQ SQ (λK v=> ?_) (λK v=> ?_);refine Vt _ _ _ 180 rfl w 92 R (.int .u32 0) 1 Xj hi P cK .i64 .i64 265 rfl rfl b265 FV (qx _) ?_;intro r N C;refine v _ _ trivial (λqj=>xb ?_);clear v K;refine zq [2] (a':= ?_) ?_;refine IA 1 rfl AL SQ (λK v=> ?_);refine Vt _ _ _ 180 rfl w 92 R (.int .u32 0) 1 Xj hi P cK .i64 .i64 12 rfl rfl b12 FV C.size ?_;intro z d' D;refine v _ _ trivial (λqj=>xb ?_);clear v K;refine zq [3] (a':= ?_) ?_;refine zV AL ?_ _;have ln:r' w w r:=(qZ _ _).drew.grown C (qx _) (λk u=>by cases u);have ih:=(qZ _ _).grown D (qx _) (λk u=>by cases u);have Y':(w:O)<(r:O):=(yZ N).2.2.2.2.choose_spec.1.lt;have o:G (xp z w 92 1 (Z w 265 265) 265 (((List.range 265).map λ_=>0).map Qb)):=by rw [Hid,<-fQ];exact qG N ih
 have q:G (xp z w 92 1 (Z r 12 12) 12 (((List.range 12).map λ_=>0).map Qb)):=by rw [Hid,<-fQ];exact d'
 have HB2:=T (ln.trans (ih.mono ln.size));have E:G ((w:O)≠(r:O)):=by rw [Hid];omega
 rw [show (w.drew:O)=(w:O) from rfl];obtain⟨b,Q⟩:=zn (w:O);obtain⟨i,g⟩:=zn (r:O);clear N C d' D ln ih Y' qj;rw [<-g] at q E⊢;clear g;rw [<-Q] at E⊢;replace o:G (xp z w 92 1 (Z b 265 265) 265 (((List.range 265).map λ_=>0).map Qb)):=by rw [Q];exact o
 clear Q;rotate_left;refine Vt _ _ _ 180 rfl w 92 R (.int .u32 0) 1 Xj hi P cK .i64 .i64 12 rfl rfl b12 FV (qx _) ?_;intro r N C;refine v _ _ trivial (λqj=>xb ?_);clear v K;refine IA 0 rfl AL SQ (λK v=> ?_);refine Vt _ _ _ 180 rfl w 92 R (.int .u32 0) 1 Xj hi P cK .i64 .i64 265 rfl rfl b265 FV C.size ?_;intro z d' D;refine v _ _ trivial (λqj=>xb ?_);clear v K;refine zq [2,3] (a':= ?_) ?_;refine zV AL ?_ _;have ln:r' w w r:=(qZ _ _).drew.grown C (qx _) (λk u=>by cases u);have ih:=(qZ _ _).grown D (qx _) (λk u=>by cases u);have Y':(w:O)<(r:O):=(yZ N).2.2.2.2.choose_spec.1.lt;have o:G (xp z w 92 1 (Z r 265 265) 265 (((List.range 265).map λ_=>0).map Qb)):=by rw [Hid,<-fQ];exact d'
 have q:G (xp z w 92 1 (Z w 12 12) 12 (((List.range 12).map λ_=>0).map Qb)):=by rw [Hid,<-fQ];exact qG N ih
 have HB2:=T (ln.trans (ih.mono ln.size));have E:G ((r:O)≠(w:O)):=by rw [Hid];omega
 rw [show (w.drew:O)=(w:O) from rfl];obtain⟨b,Q⟩:=zn (r:O);obtain⟨i,g⟩:=zn (w:O);clear N C d' D ln ih Y' qj;rw [<-Q] at o E⊢;clear Q;rw [<-g] at E⊢;replace q:G (xp z w 92 1 (Z i 12 12) 12 (((List.range 12).map λ_=>0).map Qb)):=by rw [g];exact q
 clear g;rotate_left;all_goals
  have I':=(yZ o).1;have OX:=(yZ q).1;replace I':=T I';replace OX:=T OX;go_wp2;go_loopw [15] (λX' wr=> ∃k:O,X'=(k:la)/\k<=U l/\G (r' w w wr)/\G (xp wr w 92 1 (Z b 265 265) 265 (((List.range 265).map (Ky (l.take k))).map Qb))/\G (xp wr w 92 1 (Z i 12 12) 12 (((List.range 12).map (pX (l.take k))).map Qb))) (λX' _=>U l-(intOf X').toNat)
  ·exact⟨0,rfl,qp _,HB2,o,q⟩
  ·obtain⟨k,rfl,u,L,o,q⟩:=hrel;by_cases N':k<U l
   ·have hlt':(k:V)<U l:=M;obtain⟨ad,rfl,_,y0,y1,y2⟩:=F7 (H.below (L.mono HB0)) k N';have KS:=λW=>T (BP l[k] W (HOK _ (zx N')));obtain⟨cB,hp2,u'⟩:=EG (HOK _ (zx N'));have htk:G (l.take (k+1)=l.take k++[l[k]]):=by rw [Hid,qs,qX N'];rfl
    have O':G (∀s,Ky (l.take (k+1)) s=if s=(pd l[k]).1 then Ky (l.take k) (pd l[k]).1+1 else Ky (l.take k) s):=λs=>by rw [htk.out,nV]
    have G':G (∀s,pX (l.take (k+1)) s=if 256<(pd l[k]).1/\s=(pd l[k]).2.2.1 then pX (l.take k) (pd l[k]).2.2.1+1 else pX (l.take k) s):=λs=>by rw [htk.out,nY]
    unfold pcT pcC at KS;generalize pd l[k]=pp at*;obtain⟨a,n,d,m⟩:=pp;dsimp only at KS cB hp2 u' O' G';generalize l[k].1=t0,l[k].2.1=t1,l[k].2.2=t2 at*;have hx:Ky (l.take k) a<=100000:=qv (jN _ _) (by rw [qh];omega);have hy:pX (l.take k) d<=100000:=qv (jN _ _) (by rw [qh];omega);have C:=(xU (k:=a) o cB).1;have D:=(xU (k:=d) q u').1;rw [vC,qD,jJ cB] at C;rw [vC,qD,jJ u'] at D;have hm1:G ((((List.range 265).map (Ky (l.take k))).map Qb).set a (Qb (Ky (l.take k) a+1))=((List.range 265).map (Ky (l.take (k+1)))).map Qb):=by
     rw [Hid,uB _ _ _ _ cB];exact zo (List.map Qb) (jX λj _=>(O' j).symm)
    have S':G (256<a->(((List.range 12).map (pX (l.take k))).map Qb).set d (Qb (pX (l.take k) d+1))=((List.range 12).map (pX (l.take (k+1)))).map Qb):=λX=>by
     rw [uB _ _ _ _ u'];exact zo (List.map Qb) (jX λj _=>by rw [G'.out j];simp [X])
    have Z':G (¬256<a->((List.range 12).map (pX (l.take k))).map Qb=((List.range 12).map (pX (l.take (k+1)))).map Qb):=λX=>by
     exact zo (List.map Qb) (jX λj _=>by rw [G'.out j];simp [X])
    clear O' G';generalize M':((List.range 265).map (Ky (l.take (k+1)))).map Qb=S1 at*;replace M':=T M';generalize N9:((List.range 12).map (pX (l.take (k+1)))).map Qb=F1 at*;replace N9:=T N9;generalize m':Ky (l.take k) a=x,hyy:pX (l.take k) d=y at*;have iL:i' wr ⟨b,a,none⟩=J (.int .u32 (x:V)):=by rw [C];show some (Qb (Ky (l.take k) a))=_;rw [m'];rfl
    have z':i' wr ⟨i,d,none⟩=J (.int .u32 (y:V)):=by rw [D];show some (Qb (pX (l.take k) d))=_;rw [hyy];rfl
    replace iL:=T iL;replace z':=T z';clear C D m' hyy;have ps0:=xi a;have ps1:(a:V)<265:=M;have pd0:=xi d;have pd1:(d:V)<12:=M;have wx:IntKind.u32.wrap ((x:V)+1)=(x:V)+1:=by rw [IntKind.wrap_u32];omega
    have wy:IntKind.u32.wrap ((y:V)+1)=(y:V)+1:=by rw [IntKind.wrap_u32];omega
    have hszr:=T L.size;go_wp2_with fail;refine zC (KS _).out ?_;intro f hB4;have cL:=((qZ (wr:O) wr).alloc (qx _) _).trans (hB4.mono s8);have P':=T (L.trans (cL.mono hszr));have p':=T (qG o cL);have J':=T (qG q cL);have hl1:=(yZ p').2.2.2.2.choose_spec.1.lt;have hl2:=(yZ J').2.2.2.2.choose_spec.1.lt;have Q':r' f f (f (Y #[a,n,d,m] 254)):=j1 _;have c1:i' (f (Y #[a,n,d,m] 254)) ⟨b,a,none⟩=J (.int .u32 (x:V)):=by
     rw [Q'.cell (p:=⟨b,a,none⟩) hl1,cL.cell (p:=⟨b,a,none⟩) (yZ o.out).2.2.2.2.choose_spec.1.lt];exact iL.out
    have f1:=(xU (k:=a) (p'.alloc (Y #[a,n,d,m] 254)) cB).2;have q0:i' (f (Y #[a,n,d,m] 254)) (f:O)=J (a:la):=(F'.new f 254 #[a,n,d,m]).cell 0;have iv:Qb (x+1)= .int .u32 ((x:V)+1):=by unfold Qb;rw [xe];rfl
    have e2:Qb (y+1)= .int .u32 ((y:V)+1):=by unfold Qb;rw [xe];rfl
    have cY:xp (f.setCell ⟨b,a,none⟩ (.int .u32 ((x:V)+1))) w 92 1 (Z b 265 265) 265 S1:=by rw [<-hm1.out,iv];exact Qn p' _
    have uK:qE [b] f (f.setCell ⟨b,a,none⟩ (.int .u32 ((x:V)+1))):=(qE.refl [b] _).zh (p:=⟨b,a,none⟩) (qy.2 rfl) _;have F:=uK.own J' (λk' u=>by have e:k'=i:=(by simpa [K'] using u);rw [e,qy];exact λe=>E.out e.symm);have hh:G (r' w w (f.setCell ⟨b,a,none⟩ (.int .u32 ((x:V)+1)))):=P'.setCell (p:=⟨b,a,none⟩) I' _;have D':=F'.new (f.setCell ⟨b,a,none⟩ (.int .u32 ((x:V)+1))) 254 #[a,n,d,m];rw [show(f.setCell ⟨b,a,none⟩ (.int .u32 ((x:V)+1))).heap.size=(f:O) by simp] at D';have q5:i' ((f.setCell ⟨b,a,none⟩ (.int .u32 ((x:V)+1))) (Y #[a,n,d,m] 254)) (f:O)=J (a:la):=D'.cell 0;have hsz5:=T hh.size;by_cases X:256<a
    ·have hgt':(256:V)<(a:V):=M;have q6:i' ((f.setCell ⟨b,a,none⟩ (.int .u32 ((x:V)+1))) (Y #[a,n,d,m] 254)) ⟨f,2,none⟩=J (d:la):=D'.cell 2;have c2:i' ((f.setCell ⟨b,a,none⟩ (.int .u32 ((x:V)+1))) (Y #[a,n,d,m] 254)) ⟨i,d,none⟩=J (.int .u32 (y:V)):=by
      refine(uK.alloc (Y #[a,n,d,m] 254)).cell (p:=⟨i,d,none⟩) (by simp only [qy];exact λe=>E.out e.symm) ?_;rw [cL.cell (p:=⟨i,d,none⟩) (yZ q.out).2.2.2.2.choose_spec.1.lt];exact z'.out
     have f2:=(xU (k:=d) (F.alloc (Y #[a,n,d,m] 254)) u').2;have HOt2:xp ((f.setCell ⟨b,a,none⟩ (.int .u32 ((x:V)+1))).setCell ⟨i,d,none⟩ (.int .u32 ((y:V)+1))) w 92 1 (Z i 12 12) 12 F1:=by rw [<-S'.out X,e2];exact Qn F _
     have hM6:qE [i] (f.setCell ⟨b,a,none⟩ (.int .u32 ((x:V)+1))) ((f.setCell ⟨b,a,none⟩ (.int .u32 ((x:V)+1))).setCell ⟨i,d,none⟩ (.int .u32 ((y:V)+1))):=(qE.refl [i] _).zh (p:=⟨i,d,none⟩) (qy.2 rfl) _;have HOt1:=hM6.own cY (λk' u=>by have e:k'=b:=(by simpa [K'] using u);rw [e,qy];exact E);have U':r' w w ((f.setCell ⟨b,a,none⟩ (.int .u32 ((x:V)+1))).setCell ⟨i,d,none⟩ (.int .u32 ((y:V)+1))):=hh.setCell (p:=⟨i,d,none⟩) OX _;have HB6':=T (U'.alloc U'.size (Y #[a,n,d,m] 254));have HO16:=T (HOt1.alloc (Y #[a,n,d,m] 254));have HO26:=T (HOt2.alloc (Y #[a,n,d,m] 254));clear uK hM6 cY F HOt1 HOt2 D' cL Q' KS iv e2 o q L U';go_wp2_with fail;refine xk ?_;exact⟨k+1,xg,M,HB6',by rw [M'.out];exact HO16,by rw [N9.out];exact HO26⟩
    ·rw [Z'.out X] at F;have HO15:=T (cY.alloc (Y #[a,n,d,m] 254));have HO25:=T (F.alloc (Y #[a,n,d,m] 254));have HB5':=T (hh.alloc hsz5 (Y #[a,n,d,m] 254));clear cY F uK D' cL Q' KS iv e2 o q L;go_wp2_with fail;refine xk ?_;exact⟨k+1,xg,M,HB5',by rw [M'.out];exact HO15,by rw [N9.out];exact HO25⟩
   ·obtain rfl:k=U l:=M;rw [jP] at o q;have hx:Ky l 256<=100000:=qv (jN _ _) hl;have hc:=(xU (k:=256) o FV).1;rw [vC,qD,jJ FV] at hc;have hfin:G ((((List.range 265).map (Ky l)).map Qb).set 256 (Qb (Ky l 256+1))=(pz l).map Qb):=by
     rw [Hid,uB _ _ _ _ FV];unfold pz;refine zo (List.map Qb) (jX λj _=> ?_);by_cases h:j=256
     ·subst h;rfl
     ·rw [qJ h,qJ h];rfl
    have hfar:G (((List.range 12).map (pX l)).map Qb=(LW l).map Qb):=rfl;rw [hfar.out] at q;generalize m':Ky l 256=x at*;have c1:i' wr ⟨b,256,none⟩=J (.int .u32 (x:V)):=by rw [hc];show some (Qb (Ky l 256))=_;rw [m'];rfl
    have f1:=(xU (k:=256) o FV).2;have wx:IntKind.u32.wrap ((x:V)+1)=(x:V)+1:=by rw [IntKind.wrap_u32];omega
    have iv:Qb (x+1)= .int .u32 ((x:V)+1):=by unfold Qb;rw [xe];rfl
    have cY:G (xp (wr.setCell ⟨b,256,none⟩ (.int .u32 ((x:V)+1))) w 92 1 (Z b 265 265) 265 ((pz l).map Qb)):=by rw [Hid,<-hfin.out,iv];exact Qn o _
    have uK:qE [b] wr (wr.setCell ⟨b,256,none⟩ (.int .u32 ((x:V)+1))):=(qE.refl [b] _).zh (p:=⟨b,256,none⟩) (qy.2 rfl) _;have F:=T (uK.own q (λk' u=>by have e:k'=i:=(by simpa [K'] using u);rw [e,qy];exact λe=>E.out e.symm));have hh:G (r' w w (wr.setCell ⟨b,256,none⟩ (.int .u32 ((x:V)+1)))):=L.setCell (p:=⟨b,256,none⟩) I' _;clear uK iv m' hc o q L hx;go_wp2;go_ret3;exact⟨_,_,_,_,rfl,cY,F,hh⟩
end Go.Proofs.YtfnlfpcfkbdcmaaGreatDoor
