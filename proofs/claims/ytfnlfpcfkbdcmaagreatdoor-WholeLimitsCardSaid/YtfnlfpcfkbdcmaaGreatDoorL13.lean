import Derived.Test.YtfnlfpcfkbdcmaaGreatDoorL09
import Derived.Test.YtfnlfpcfkbdcmaaGreatDoorL10
import Derived.Test.YtfnlfpcfkbdcmaaGreatDoorL11
import Derived.Laws.Cover1
import Derived.Lib.SlicesCompact
import Derived.Shelf.SortM.Plain
import Derived.Shelf.SortM.SortNone
import Derived.Shelf.SlicesG.CompactS
import Derived.Ground.SlgmProg
import Derived.Ground.SlgnProg
import Derived.Sort.OwnSorted
import Derived.Shelf.SlIter.Nil
import Derived.Ground.GgzProg
import Derived.Maps.OwnRows
import Derived.Sort.KeysCollected
import Derived.ArgAppend
import Derived.Lib.LaidTab
import Derived.LaidMore
import Derived.Stop.Joined
import Derived.ShutString
import Derived.Deep.Matrix
import Derived.Deep.Slices
set_option linter.unusedSimpArgs false
set_option linter.unusedVariables false
set_option maxRecDepth 100000
set_option maxHeartbeats 0
open Go.Proofs.Tryz
namespace Go.Proofs.YtfnlfpcfkbdcmaaGreatDoor
open Go.RowKit
section
variable {A a:q'}{E t:TypeId}{W W' W2 w:World}{b b0 c g n no:Nat}{l l':List TypeId}{os:List Nat}
def C32 (x:Nat):Value:= .int .u32 (x:Int)
def Og (x y:Nat):Int:=if x<y then-1 else if y<x then 1 else 0
theorem eI (x:Nat) (w:World):Calls prog 264 #[.int .u32 x] w λe w'=>e= .returned false/\w=w':=by
 go_wp2;go_ret;exact⟨rfl,rfl⟩
theorem Ge (x y:Nat) (w:World):Calls prog 240 #[.int .u32 x, .int .u32 y] w λe w'=>e= .returned (.int .i64 (Og x y))/\w=w':=by
 have K:=λx=>qj (eI x);unfold Og;by_cases h1:x<y
 focus
  have b:=j' x y;rw [qk h1]
 rotate_left
 focus
  rw [qJ h1];by_cases h2:y<x
  focus
   have a:=j' y x;rw [qk h2]
  rotate_left
  focus
   rw [qJ h2]
 all_goals
  go_in;go_wp2_with fail;refine Ω ((K x).out _) ?_;go_wp2_with fail;refine Ω ((K y).out _) ?_;go_wp2;go_ret;exact⟨rfl,rfl⟩
structure OfK (w:World) (bo:Nat) (Ao:q') (no co:Nat) (os:List Nat):Prop where
 cell:w.cell? bo=some (.slice Ao no co)
 reads: ∃B,Reads w B 1 Ao no (os.map C32)
theorem OfK.jZ {l:List Nat} {w':World} {d:q'} (h:OfK w c d no g os) (f:qE l w w') (m:c∉l) (k:Off d l):OfK w' c d no g os:=by
 obtain⟨B,a⟩:=h.reads;refine⟨f.cell m h.cell,B, ?_⟩;rcases zA no with h0|h0
 ·subst h0;exact⟨a.1,λh=>absurd h uK⟩
 ·obtain⟨o,e,q,j⟩:=a.2 h0;have n:0<(os.map C32).length:=by have:=a.1;omega
  have i:=yM (j 0 _ (qX n));rw [xF] at i;exact a.mB λr b=>by
   rw [e] at b;injection b with b;subst b;exact f.block _ i (k o e)
theorem OfK.drewN (h:OfK w b a no c os) (n:Nat):OfK (w.drewN n) b a no c os:=h.jZ ((qE.refl [] w).drewN n) s8 (λ_ _=>s8)
theorem OfK.drew (h:OfK w b a no c os):OfK w.drew b a no c os:=h.jZ ((qE.refl [] w).drew) s8 (λ_ _=>s8)
theorem OfK.len {d:Nat} (h:OfK w c a no d os):os.length=no:=by obtain⟨B,b⟩:=h.reads;exact b.len
theorem OfK.at_ {i x:Nat} {b:q'} (h:OfK w i b no g os) (k:x<no): ∃a,b=some a/\w.cell? (a.add x)=some (.int .u32 ((os.getD x 0:Nat):Int)):=by
 obtain⟨B,c⟩:=h.reads;obtain⟨a,u,e,l,f,d⟩:=c.at_ k;obtain⟨y,j,rfl⟩:=get_map _ _ x u f;exact⟨a,e,by rw [d,qd,j];rfl⟩
theorem Ss (w:World) (d no i x y:Nat) (g:q') (os:List Nat) (h:OfK w d g no i os) (c:x<no) (f:y<no) (n:no<=1000000):
  Calls prog 239 #[x,y, .pointer d] w λe w'=>e= .returned (.int .i64 (Og (os.getD x 0) (os.getD y 0)))/\Dr w w':=by
 obtain⟨o,rfl,v⟩:=h.at_ c;obtain⟨m,j,p⟩:=h.at_ f;obtain rfl:=zy j;have s:=h.cell;have K:=qj (Ge (os.getD x 0) (os.getD y 0));generalize os.getD x 0=a,os.getD y 0=b at*;have r:=j' x no;have u:=j' y no;have t:=xi x;have q:=xi y;clear h c f;go_wp2;go_quiet ((go_at_call 240;exact Kj (K.out _)));go_wp2;go_ret;exact⟨rfl,⟨_,rfl⟩⟩
theorem nX:(prog.info? 92).map (λi=>(i.zero,i.size,i.bytes))=some (some (.int .u32 0),1,4):=AL
theorem Vt {P:Program} (w:World) {o:Oper} {a:Act} {K:Act->World->Prop} {Q:Exit->Act->World->Prop}
  (l c:Operand) (t:TypeId) (m:o.op=Op.makeSlice t l c)
  (base:Nat) (e:TypeId) (i:TypeInfo) (z:Value) (size:Nat) (h1:P.underlying t=some (.slice e)) (h2:P.info? e=some i) (h3:i.zero=some z) (h4:i.size=size)
  (kl kc:IntKind) (n:Nat) (g:a.eval l= .int kl (n:Int)) (d:a.eval c= .int kc (n:Int)) (j:i.bytes*n<=281474976710656) (k:n<=maxLen) (p:base<=w.heap.size)
  (h: ∀w',w'.ownsRow base e size (.slice w n n) n (madeCells z.cells (n*size)).toList->w.grownBy w' none->K (a.put o.dst (.slice w n n)) w'):
  Oper.wp P o a w K Q:=by
 obtain⟨w',b,q,f⟩:=run_make_full w _ t e i z _ h1 h2 h3 h4 kl kc n j k p;unfold Oper.wp;simp [execOp,m,g,d,b,Result.andThen];exact h _ q f
def Ky (l:List (Nat×Nat×Nat)) (s:Nat):Nat:=(l.filter λt=>(Qo t).1==s).length
def pX (l:List (Nat×Nat×Nat)) (s:Nat):Nat:=(l.filter λt=>decide (256<(Qo t).1)&&((Qo t).2.2.1==s)).length
theorem nV (l:List (Nat×Nat×Nat)) (t:Nat×Nat×Nat) (s:Nat):Ky (l++[t]) s=if s=(Qo t).1 then Ky l (Qo t).1+1 else Ky l s:=by
 unfold Ky;rw [vx,qK];by_cases h:s=(Qo t).1
 ·subst h;simp
 ·have a: ¬(Qo t).1=s:=λe=>h e.symm;rw [qJ h];simp [QQ,a]
theorem nY (l:List (Nat×Nat×Nat)) (t:Nat×Nat×Nat) (s:Nat):pX (l++[t]) s=if 256<(Qo t).1/\s=(Qo t).2.2.1 then pX l (Qo t).2.2.1+1 else pX l s:=by
 unfold pX;rw [vx,qK];by_cases h1:256<(Qo t).1
 ·by_cases h:s=(Qo t).2.2.1
  ·subst h;simp [h1]
  ·have a: ¬(Qo t).2.2.1=s:=λe=>h e.symm;rw [qJ (λe=>h e.2)];simp [QQ,h1,a]
 ·rw [qJ (λe=>h1 e.1)];simp [QQ,h1]
theorem EG {t:Nat×Nat×Nat} (h:Bp t):(Qo t).1<265/\(Qo t).1≠256/\(Qo t).2.2.1<12:=by
 obtain⟨lt,a,c⟩:=t;obtain⟨h1,h2⟩:=h;dsimp only at h1 h2;unfold Qo;dsimp only;by_cases h0:a=0
 ·rw [qk h0];exact⟨by show lt<265;omega,by show lt≠256;omega,by show 0<12;omega⟩
 ·rw [qJ h0];unfold YB at h2;rw [qJ uK] at h2;have:=xD h2;have d:=(Nat.log2_lt (n:=a-2) (k:=8) uK).2 uK;have b:=(Nat.log2_lt (n:=c) (k:=12) uK).2 uK;exact⟨by show 257+_<265;omega,by show 257+_≠256;omega,b⟩
theorem uB (N:Nat) (f:Nat->Nat) (k v:Nat) (b:k<N):(((List.range N).map f).map C32).set k (C32 v)=((List.range N).map λj=>if j=k then v else f j).map C32:=by
 apply zm;intro i;rw [vD];by_cases h:k=i
 ·subst h;simp [b]
 ·rw [qJ h];simp only [qD];by_cases hi:i<N
  ·have a: ¬i=k:=λe=>h e.symm;rw [jJ hi];simp [a]
  ·rw [qO (by simpa using hi)];rfl
theorem fQ (N:Nat):(madeCells (Value.int .u32 0).cells (N*1)).toList=((List.range N).map λ_=>0).map C32:=by
 rw [z_];apply zm;intro i;simp only [qD];by_cases hi:i<N
 ·rw [jJ hi];have:=Nat.mod_one i;simp [madeCells,Value.cells,hi,C32,this]
 ·rw [qO (by simpa [madeCells] using hi),qO (by simpa using hi)];rfl
theorem Eh (A:q') (c B:Nat) (l:List (Nat×Nat×Nat)) (w:World) (h:Reads w B 3 A l (QN l)) (hB:B<=w.heap.size) (hl:l.length<=100000) (hok: ∀t∈l,Bp t):
  Calls prog 119 #[.slice A l c] w λe w'=> ∃A1 c1 A2 c2,e= .returned (.tuple #[.slice A1 265 c1, .slice A2 12 c2,()])/\w'.ownsRow w 92 1 (.slice A1 265 c1) 265 ((pz l).map C32)/\w'.ownsRow w 92 1 (.slice A2 12 c2) 12 ((LW l).map C32)/\Below w w w':=by
 obtain⟨R,hi,P,U,N6⟩:=xt nX;have H:=qj h;have HOK:=qj hok;have HB0:=qj hB;clear h hok hB;have b265:R.bytes*265<=281474976710656:=by rw [N6.out];decide
 have b12:R.bytes*12<=281474976710656:=by rw [N6.out];decide
 go_in;go_wp2_with fail;refine zv 4 (λ_=>True) AL trivial (λT=> ?_);refine dV 0 1 rfl rfl AL SQ SQ (λK v=> ?_) (λK v=> ?_);refine Vt _ _ _ 180 rfl w 92 R (.int .u32 0) 1 Xj hi P U .i64 .i64 265 rfl rfl b265 FV (qx _) ?_;intro r N C;refine v _ _ trivial (λT=>xg ?_);clear v K;refine zq [2] (a':= ?_) ?_;refine carried 1 rfl AL SQ (λK v=> ?_);refine Vt _ _ _ 180 rfl w 92 R (.int .u32 0) 1 Xj hi P U .i64 .i64 12 rfl rfl b12 FV C.size ?_;intro z d' D;refine v _ _ trivial (λT=>xg ?_);clear v K;refine zq [3] (a':= ?_) ?_;refine zV AL ?_ _;have G:Below w w r:=(qZ _ _).drew.grown C (qx _) (λk u=>by cases u);have I:=(qZ _ _).grown D (qx _) (λk u=>by cases u);have Y':w.heap.size<r.heap.size:=(yZ N).2.2.2.2.choose_spec.1.lt;have o:Hid (z.ownsRow w 92 1 (.slice w 265 265) 265 (((List.range 265).map λ_=>0).map C32)):=by rw [Hid,<-fQ];exact qG N I
 have q:Hid (z.ownsRow w 92 1 (.slice r 12 12) 12 (((List.range 12).map λ_=>0).map C32)):=by rw [Hid,<-fQ];exact d'
 have HB2:=qj (G.trans (I.mono G.size));have E:Hid (w.heap.size≠r.heap.size):=by rw [Hid];omega
 rw [show w.drew.heap.size=w.heap.size from rfl];obtain⟨b,Q⟩:=j1 w.heap.size;obtain⟨i,Y⟩:=j1 r.heap.size;clear N C d' D G I Y' T;rw [<-Y] at q E⊢;clear Y;rw [<-Q] at E⊢;replace o:Hid (z.ownsRow w 92 1 (.slice b 265 265) 265 (((List.range 265).map λ_=>0).map C32)):=by rw [Q];exact o
 clear Q;rotate_left;refine Vt _ _ _ 180 rfl w 92 R (.int .u32 0) 1 Xj hi P U .i64 .i64 12 rfl rfl b12 FV (qx _) ?_;intro r N C;refine v _ _ trivial (λT=>xg ?_);clear v K;refine carried 0 rfl AL SQ (λK v=> ?_);refine Vt _ _ _ 180 rfl w 92 R (.int .u32 0) 1 Xj hi P U .i64 .i64 265 rfl rfl b265 FV C.size ?_;intro z d' D;refine v _ _ trivial (λT=>xg ?_);clear v K;refine zq [2,3] (a':= ?_) ?_;refine zV AL ?_ _;have G:Below w w r:=(qZ _ _).drew.grown C (qx _) (λk u=>by cases u);have I:=(qZ _ _).grown D (qx _) (λk u=>by cases u);have Y':w.heap.size<r.heap.size:=(yZ N).2.2.2.2.choose_spec.1.lt;have o:Hid (z.ownsRow w 92 1 (.slice r 265 265) 265 (((List.range 265).map λ_=>0).map C32)):=by rw [Hid,<-fQ];exact d'
 have q:Hid (z.ownsRow w 92 1 (.slice w 12 12) 12 (((List.range 12).map λ_=>0).map C32)):=by rw [Hid,<-fQ];exact qG N I
 have HB2:=qj (G.trans (I.mono G.size));have E:Hid (r.heap.size≠w.heap.size):=by rw [Hid];omega
 rw [show w.drew.heap.size=w.heap.size from rfl];obtain⟨b,Q⟩:=j1 r.heap.size;obtain⟨i,Y⟩:=j1 w.heap.size;clear N C d' D G I Y' T;rw [<-Q] at o E⊢;clear Q;rw [<-Y] at E⊢;replace q:Hid (z.ownsRow w 92 1 (.slice i 12 12) 12 (((List.range 12).map λ_=>0).map C32)):=by rw [Y];exact q
 clear Y;rotate_left;all_goals
  have I':=(yZ o).1;have OX:=(yZ q).1;replace I':=qj I';replace OX:=qj OX;go_wp2;go_loopw [15] (λX' wr=> ∃k:Nat,X'=(k:Value)/\k<=l.length/\Hid (Below w w wr)/\Hid (wr.ownsRow w 92 1 (.slice b 265 265) 265 (((List.range 265).map (Ky (l.take k))).map C32))/\Hid (wr.ownsRow w 92 1 (.slice i 12 12) 12 (((List.range 12).map (pX (l.take k))).map C32))) (λX' _=>l.length-(intOf X').toNat)
  ·exact⟨0,rfl,qp _,HB2,o,q⟩
  ·obtain⟨k,rfl,u,L,o,q⟩:=hrel;by_cases N':k<l.length
   ·have hlt':(k:Int)<l.length:=uK;obtain⟨ad,rfl,_,y0,y1,y2⟩:=F7 (H.below (L.mono HB0)) k N';have KS:=λW=>qj (BP l[k] W (HOK _ (zx N')));obtain⟨Z,hp2,u'⟩:=EG (HOK _ (zx N'));have htk:Hid (l.take (k+1)=l.take k++[l[k]]):=by rw [Hid,qs,qX N'];rfl
    have O':Hid (∀s,Ky (l.take (k+1)) s=if s=(Qo l[k]).1 then Ky (l.take k) (Qo l[k]).1+1 else Ky (l.take k) s):=λs=>by rw [htk.out,nV]
    have G':Hid (∀s,pX (l.take (k+1)) s=if 256<(Qo l[k]).1/\s=(Qo l[k]).2.2.1 then pX (l.take k) (Qo l[k]).2.2.1+1 else pX (l.take k) s):=λs=>by rw [htk.out,nY]
    unfold pcT pcC at KS;generalize Qo l[k]=pp at*;obtain⟨a,n,d,m⟩:=pp;dsimp only at KS Z hp2 u' O' G';generalize l[k].1=t0,l[k].2.1=t1,l[k].2.2=t2 at*;have hx:Ky (l.take k) a<=100000:=qv (jN _ _) (by rw [qh];omega);have hy:pX (l.take k) d<=100000:=qv (jN _ _) (by rw [qh];omega);have C:=(xU (k:=a) o Z).1;have D:=(xU (k:=d) q u').1;rw [vC,qD,jJ Z] at C;rw [vC,qD,jJ u'] at D;have hm1:Hid ((((List.range 265).map (Ky (l.take k))).map C32).set a (C32 (Ky (l.take k) a+1))=((List.range 265).map (Ky (l.take (k+1)))).map C32):=by
     rw [Hid,uB _ _ _ _ Z];exact zo (List.map C32) (jX λj _=>(O' j).symm)
    have S':Hid (256<a->(((List.range 12).map (pX (l.take k))).map C32).set d (C32 (pX (l.take k) d+1))=((List.range 12).map (pX (l.take (k+1)))).map C32):=λX=>by
     rw [uB _ _ _ _ u'];exact zo (List.map C32) (jX λj _=>by rw [G'.out j];simp [X])
    have Z':Hid (¬256<a->((List.range 12).map (pX (l.take k))).map C32=((List.range 12).map (pX (l.take (k+1)))).map C32):=λX=>by
     exact zo (List.map C32) (jX λj _=>by rw [G'.out j];simp [X])
    clear O' G';generalize M':((List.range 265).map (Ky (l.take (k+1)))).map C32=S1 at*;replace M':=qj M';generalize N9:((List.range 12).map (pX (l.take (k+1)))).map C32=F1 at*;replace N9:=qj N9;generalize m':Ky (l.take k) a=x,hyy:pX (l.take k) d=y at*;have iL:wr.cell? ⟨b,a,none⟩=some (.int .u32 (x:Int)):=by rw [C];show some (C32 (Ky (l.take k) a))=_;rw [m'];rfl
    have z':wr.cell? ⟨i,d,none⟩=some (.int .u32 (y:Int)):=by rw [D];show some (C32 (pX (l.take k) d))=_;rw [hyy];rfl
    replace iL:=qj iL;replace z':=qj z';clear C D m' hyy;have ps0:=xi a;have ps1:(a:Int)<265:=uK;have pd0:=xi d;have pd1:(d:Int)<12:=uK;have wx:IntKind.u32.wrap ((x:Int)+1)=(x:Int)+1:=by rw [IntKind.wrap_u32];omega
    have wy:IntKind.u32.wrap ((y:Int)+1)=(y:Int)+1:=by rw [IntKind.wrap_u32];omega
    have hszr:=qj L.size;go_wp2_with fail;refine zC (KS _).out ?_;intro f hB4;have O:=((qZ wr.heap.size wr).alloc (qx _) _).trans (hB4.mono s8);have P':=qj (L.trans (O.mono hszr));have p':=qj (qG o O);have J':=qj (qG q O);have hl1:=(yZ p').2.2.2.2.choose_spec.1.lt;have hl2:=(yZ J').2.2.2.2.choose_spec.1.lt;have Q':Below f f (f.alloc (.cells #[a,n,d,m] 254)):=z8 _;have c1:(f.alloc (.cells #[a,n,d,m] 254)).cell? ⟨b,a,none⟩=some (.int .u32 (x:Int)):=by
     rw [Q'.cell (p:=⟨b,a,none⟩) hl1,O.cell (p:=⟨b,a,none⟩) (yZ o.out).2.2.2.2.choose_spec.1.lt];exact iL.out
    have f1:=(xU (k:=a) (p'.alloc (.cells #[a,n,d,m] 254)) Z).2;have q0:(f.alloc (.cells #[a,n,d,m] 254)).cell? f.heap.size=some (a:Value):=(Blk.new f 254 #[a,n,d,m]).cell 0;have S:C32 (x+1)= .int .u32 ((x:Int)+1):=by unfold C32;rw [xe];rfl
    have e2:C32 (y+1)= .int .u32 ((y:Int)+1):=by unfold C32;rw [xe];rfl
    have V:(f.setCell ⟨b,a,none⟩ (.int .u32 ((x:Int)+1))).ownsRow w 92 1 (.slice b 265 265) 265 S1:=by rw [<-hm1.out,S];exact Qn p' _
    have M:qE [b] f (f.setCell ⟨b,a,none⟩ (.int .u32 ((x:Int)+1))):=(qE.refl [b] _).zh (p:=⟨b,a,none⟩) (qy.2 rfl) _;have F:=M.own J' (λk' u=>by have e:k'=i:=(by simpa [fpS] using u);rw [e,qy];exact λe=>E.out e.symm);have J:Hid (Below w w (f.setCell ⟨b,a,none⟩ (.int .u32 ((x:Int)+1)))):=P'.setCell (p:=⟨b,a,none⟩) I' _;have D':=Blk.new (f.setCell ⟨b,a,none⟩ (.int .u32 ((x:Int)+1))) 254 #[a,n,d,m];rw [show(f.setCell ⟨b,a,none⟩ (.int .u32 ((x:Int)+1))).heap.size=f.heap.size by simp] at D';have q5:((f.setCell ⟨b,a,none⟩ (.int .u32 ((x:Int)+1))).alloc (.cells #[a,n,d,m] 254)).cell? f.heap.size=some (a:Value):=D'.cell 0;have hsz5:=qj J.size;by_cases X:256<a
    ·have hgt':(256:Int)<(a:Int):=uK;have q6:((f.setCell ⟨b,a,none⟩ (.int .u32 ((x:Int)+1))).alloc (.cells #[a,n,d,m] 254)).cell? ⟨f,2,none⟩=some (d:Value):=D'.cell 2;have c2:((f.setCell ⟨b,a,none⟩ (.int .u32 ((x:Int)+1))).alloc (.cells #[a,n,d,m] 254)).cell? ⟨i,d,none⟩=some (.int .u32 (y:Int)):=by
      refine(M.alloc (.cells #[a,n,d,m] 254)).cell (p:=⟨i,d,none⟩) (by simp only [qy];exact λe=>E.out e.symm) ?_;rw [O.cell (p:=⟨i,d,none⟩) (yZ q.out).2.2.2.2.choose_spec.1.lt];exact z'.out
     have f2:=(xU (k:=d) (F.alloc (.cells #[a,n,d,m] 254)) u').2;have HOt2:((f.setCell ⟨b,a,none⟩ (.int .u32 ((x:Int)+1))).setCell ⟨i,d,none⟩ (.int .u32 ((y:Int)+1))).ownsRow w 92 1 (.slice i 12 12) 12 F1:=by rw [<-S'.out X,e2];exact Qn F _
     have hM6:qE [i] (f.setCell ⟨b,a,none⟩ (.int .u32 ((x:Int)+1))) ((f.setCell ⟨b,a,none⟩ (.int .u32 ((x:Int)+1))).setCell ⟨i,d,none⟩ (.int .u32 ((y:Int)+1))):=(qE.refl [i] _).zh (p:=⟨i,d,none⟩) (qy.2 rfl) _;have HOt1:=hM6.own V (λk' u=>by have e:k'=b:=(by simpa [fpS] using u);rw [e,qy];exact E);have U':Below w w ((f.setCell ⟨b,a,none⟩ (.int .u32 ((x:Int)+1))).setCell ⟨i,d,none⟩ (.int .u32 ((y:Int)+1))):=J.setCell (p:=⟨i,d,none⟩) OX _;have HB6':=qj (U'.alloc U'.size (.cells #[a,n,d,m] 254));have HO16:=qj (HOt1.alloc (.cells #[a,n,d,m] 254));have HO26:=qj (HOt2.alloc (.cells #[a,n,d,m] 254));clear M hM6 V F HOt1 HOt2 D' O Q' KS S e2 o q L U';go_wp2_with fail;refine xk ?_;exact⟨k+1,xb,uK,HB6',by rw [M'.out];exact HO16,by rw [N9.out];exact HO26⟩
    ·rw [Z'.out X] at F;have HO15:=qj (V.alloc (.cells #[a,n,d,m] 254));have HO25:=qj (F.alloc (.cells #[a,n,d,m] 254));have HB5':=qj (J.alloc hsz5 (.cells #[a,n,d,m] 254));clear V F M D' O Q' KS S e2 o q L;go_wp2_with fail;refine xk ?_;exact⟨k+1,xb,uK,HB5',by rw [M'.out];exact HO15,by rw [N9.out];exact HO25⟩
   ·obtain rfl:k=l.length:=uK;rw [jP] at o q;have hx:Ky l 256<=100000:=qv (jN _ _) hl;have hc:=(xU (k:=256) o FV).1;rw [vC,qD,jJ FV] at hc;have hfin:Hid ((((List.range 265).map (Ky l)).map C32).set 256 (C32 (Ky l 256+1))=(pz l).map C32):=by
     rw [Hid,uB _ _ _ _ FV];unfold pz;refine zo (List.map C32) (jX λj _=> ?_);by_cases h:j=256
     ·subst h;rfl
     ·rw [qJ h,qJ h];rfl
    have hfar:Hid (((List.range 12).map (pX l)).map C32=(LW l).map C32):=rfl;rw [hfar.out] at q;generalize m':Ky l 256=x at*;have c1:wr.cell? ⟨b,256,none⟩=some (.int .u32 (x:Int)):=by rw [hc];show some (C32 (Ky l 256))=_;rw [m'];rfl
    have f1:=(xU (k:=256) o FV).2;have wx:IntKind.u32.wrap ((x:Int)+1)=(x:Int)+1:=by rw [IntKind.wrap_u32];omega
    have S:C32 (x+1)= .int .u32 ((x:Int)+1):=by unfold C32;rw [xe];rfl
    have V:Hid ((wr.setCell ⟨b,256,none⟩ (.int .u32 ((x:Int)+1))).ownsRow w 92 1 (.slice b 265 265) 265 ((pz l).map C32)):=by rw [Hid,<-hfin.out,S];exact Qn o _
    have M:qE [b] wr (wr.setCell ⟨b,256,none⟩ (.int .u32 ((x:Int)+1))):=(qE.refl [b] _).zh (p:=⟨b,256,none⟩) (qy.2 rfl) _;have F:=qj (M.own q (λk' u=>by have e:k'=i:=(by simpa [fpS] using u);rw [e,qy];exact λe=>E.out e.symm));have J:Hid (Below w w (wr.setCell ⟨b,256,none⟩ (.int .u32 ((x:Int)+1)))):=L.setCell (p:=⟨b,256,none⟩) I' _;clear M S m' hc o q L hx;go_wp2;go_ret3;exact⟨_,_,_,_,rfl,V,F,J⟩
theorem vW (x:Nat) (w:World) (J:x<18446744073709551616):Calls prog 31 #[.int .u64 x] w (jQ 5 w (xv x).length ((xv x).map B8)):=by
 unfold jQ;obtain⟨E,hi,o,j,p⟩:=xt xR;go_wp2;go_loopw [0,3] (λG t wr=> ∃(y f n c:Nat) (A:q') (l:qn),G= .int .u64 (y:Nat)/\t= .slice A n c/\f<=9/\n+f=9/\y<2^(7*f+1)/\Hid (l++uo f y=xv x)/\Hid (Below w w wr)/\Hid (wr.ownsRow w 5 1 (.slice A n c) n (l.map B8))) (λ_ t _=>10-Y8 t)
 ·exact⟨x,9,0,0,none,[],rfl,rfl,uK,rfl,uK,rfl,qZ _ _,qP _ _ _ _⟩
 ·obtain⟨y,f,n,c,A,l,rfl,rfl,M,K,i,k,a,g⟩:=hrel;have L:y<18446744073709551616:=by
   have h2:2^(7*f+1)<=2^64:=zZ uK uK;omega
  by_cases D:y<128
  ·have H: ¬(128:Int)<=(y:Int):=uK;have s:n+1<=maxLen:=SJ;have z:(n+1)*1<=140737488355328:=uK;have m:Hid (xv x=l++[UInt8.ofNat y]):=by
    rw [Hid,<-k.out];cases f with
    |zero=>rfl
    |succ f=>unfold uo;rw [qk D]
   have B:Hid (l.length=n):=by have:=g.out.1;rw [Hid];simpa using this
   have v:(y:Int)=((UInt8.ofNat y).toNat:Int):=by rw [zS];omega
   replace v:=qj v;clear i k;go_wp2_with (at_builtin;refine qF _ rfl (.tmp 14) (.tmp 17) 30 rfl w 5 E (.int .u8 0) 1 1 qu hi o j p rfl uK A n c _ rfl (g.alloc _) (wr.heap.size+1) _ 1 1 _ rfl (zU _ _ _) (one_one rfl) s z (show w.heap.size<=(wr.alloc (.cells #[.int .u8 (y:Int)] 5)).heap.size from qv a.size s8) ?_;intro C r q b h u;have d:=zG (a.alloc a.size _) h (g.alloc _) (show w.heap.size<=(wr.alloc (.cells #[.int .u8 (y:Int)] 5)).heap.size from qv a.size s8);replace b:=qj b;replace d:=qj d;clear h u);go_ret;rw [v.out] at b;refine⟨C,r,by rw [m.out,qK,B.out];rfl, ?_,d⟩;rw [m.out,qK,B.out,qg];exact b.out
  ·have H:(128:Int)<=(y:Int):=uK;have s:n+1<=maxLen:=SJ;have z:(n+1)*1<=140737488355328:=uK;have I:=OU y;cases f with
   |zero=>exact absurd i uK
   |succ f=>
   have m:Hid (l++[UInt8.ofNat (y%128+128)]++uo f (y/128)=xv x):=by
    rw [Hid,<-k.out];show _=l++(if y<128 then _ else _);rw [qJ D];simp
   have F:y/128<2^(7*f+1):=by
    rw [Nat.div_lt_iff_lt_mul uK];rw [show 7*(f+1)+1=7*f+1+7 by omega,Nat.pow_add] at i;exact i
   clear i k;go_wp2_with (at_builtin;refine qF _ rfl (.tmp 6) (.tmp 10) 30 rfl w 5 E (.int .u8 0) 1 1 qu hi o j p rfl uK A n c _ rfl (g.alloc _) (wr.heap.size+1) _ 1 1 _ rfl (zU _ _ _) (one_one rfl) s z (show w.heap.size<=(wr.alloc (.cells #[.int .u8 ((UInt8.ofNat (y%128+128)).toNat:Int)] 5)).heap.size from qv a.size s8) ?_;intro C r q b h u;have d:=zG (a.alloc a.size _) h (g.alloc _) (show w.heap.size<=(wr.alloc (.cells #[.int .u8 ((UInt8.ofNat (y%128+128)).toNat:Int)] 5)).heap.size from qv a.size s8);replace b:=qj b;replace d:=qj d;clear h u);go_roundw
   case rel=>exact⟨y/128,f,n+1,r,C,l++[UInt8.ofNat (y%128+128)],s8,rfl,uK,uK,F,m,d,by rw [qg];exact b⟩
   case measure=>simp [Y8];omega
theorem tP (S:ByteArray) (L:Nat) (c:List Value) (w:World) (t:S.size<=1000000000) (v:L<=10) (f:Hid (Calls prog 31 #[.int .u64 (S.size:Int)] w (jQ 5 w L c))):
  Calls prog 84 #[.string S] w (jQ 5 w (L+S.size) (c++Go.Lib.strCells S)):=by
 obtain⟨p,hi,g,b,h⟩:=qA xR;unfold jQ at f⊢;have m:L+S.size<=maxLen:=SJ;have r:L+S.size<=140737488355328:=uK;revert hi g b h;refine yl ?_;intro hi g b h;go_in;go_wp2_with fail;refine f.mono ?_;rintro e s ⟨n,c1,rfl,i⟩;have a:=qj i;clear i f;go_wp2_with (first|(at_builtin;refine Go.Lib.wpList_append_own_string _ rfl (.tmp 6) (.tmp 7) 30 9 rfl w 5 p qu ju hi.out g.out b.out h.out _ L c rfl a.out.1 S rfl m r a.out.2.size ?_;intro o q k j u));have l:s.grownBy q (Value.slice n L c1).ownBlock:=j;rw [jH] at l;clear j;go_ret;obtain⟨d,c2,rfl⟩: ∃d c2,o= .slice d (L+S.size) c2:=Hq k;exact⟨d,_,rfl,k,zG a.out.2 l a.out.1 a.out.2.size⟩
theorem Yd (s:qn) (w:World) (a:s.length<=1000000000):Calls prog 84 #[STR s] w (jQ 5 w (UQ s).length ((UQ s).map B8)):=by
 have h:=tP ⟨s.toArray⟩ _ _ w a (jn s).2 (vW s w uK);unfold UQ;rw [qK,qg];exact h
structure jO (l:List TypeId) (b0:Nat) (W W':World):Prop where
 below:Below b0 W W'
 kept: ∀(k:Nat) (cs:Array Value) (t:TypeId) (fr:Nat×Nat),W.heap[k]? =some (.cells cs t fr)->t∉l->W'.heap[k]? =some (.cells cs t fr)
theorem jO.refl (l:List TypeId) (b0:Nat) (W:World):jO l b0 W W:=⟨qZ _ _,λ_ _ _ _ h _=>h⟩
theorem jO.trans (h:jO l b0 W W') (b:jO l b0 W' W2):jO l b0 W W2:=⟨h.below.trans b.below,λk c t a d ht=>b.kept k c t a (h.kept k c t a d ht) ht⟩
theorem jO.mono (h:jO l b0 W W') (a: ∀t∈l,t∈l'):jO l' b0 W W':=⟨h.below,λk c t b d ht=>h.kept k c t b d λe=>ht (a t e)⟩
theorem jO.fresh (h:Below W W W') (b:b0<=W.heap.size):jO l b0 W W':=⟨h.mono b,λk d t c a _=>(h.block k (jz a)).trans a⟩
theorem jO.alloc (h:jO l b0 W W') (a:b0<=W'.heap.size) (o:Obj):jO l b0 W (W'.alloc o):=h.trans (jO.fresh (z8 o) a)
theorem jO.dr (h:jO l b0 W W') (a:Dr W' W2):jO l b0 W W2:=h.trans ⟨a.below _,λk d t c b _=>by obtain⟨n,rfl⟩:=a;exact b⟩
theorem jO.zh {b:Array Value} (h:jO l b0 W W') (c:Blk W' g t b) (ht:t∈l) (f:b0<=g) (i:Nat) (u:Value):jO l b0 W (W'.setCell ⟨g,i,none⟩ u):=
 h.trans ⟨(qZ _ _).setCell f u,λk o n m a j=>(jT W' ⟨g,i,none⟩ u k (by
  intro e;have d:W'.heap[g]? =some (.cells b t (0,0)):=c;rw [show k=g from e,d] at a
  injection a with a
  injection a with _ a
  exact j (a▸ht))).trans a⟩
theorem jO.grown {size:Nat} {m:List Value} (h:jO l b0 W W') (f:W'.ownsRow b E size (.slice A n c) n m) (j:E∈l) (i:b0<=b) (o:b0<=W'.heap.size) (g:W'.grownBy W2 (A.map (·.block))):jO l b0 W W2:=
 h.trans ⟨(qZ _ _).grown g o (λk d=>qv i (zj f k (ZO.2 d)).1),λk r t q d ht=>(g.block k (jz d) λe=>by
  obtain⟨s,p,a⟩:=jV f k e.symm;rw [d] at a;injection a with a
  injection a with _ a
  exact ht (a▸j)).trans d⟩
theorem jO.blk {a:Array Value} (h:jO l b0 W W') (b:Blk W g t a) (ht:t∉l):Blk W' g t a:=h.kept g a t _ b ht
theorem jO.own {size:Nat} {f:List Value} (h:jO l b0 W W') (e:W.ownsRow b E size (.slice A n c) n f) (ht:E∉l):W'.ownsRow b E size (.slice A n c) n f:=
 zI e λa g=>by
  obtain⟨j,i,d⟩:=jV e _ (by rw [g];rfl)
  rw [d];exact h.kept _ _ _ _ d ht
theorem jO.size (h:jO l b0 W W'):W.heap.size<=W'.heap.size:=h.below.size
def ug (W:World) (b0 g:Nat) (a:List qn):Prop:= ∃A c,Blk W g 99 #[.slice A a c]/\W.ownsRow b0 9 1 (.slice A a c) a (a.map STR)/\b0<=g
theorem ug.keep {l:List TypeId} {b0:Nat} {W d:World} {e:List qn} (h:ug W b0 g e) (a:jO l b W d) (h1:99∉l) (h2:9∉l):ug d b0 g e:=by
 obtain⟨A,c,i,f,j⟩:=h;exact⟨A,c,a.blk i h1,a.own f h2,j⟩
theorem ug.push {W a:World} {b0:Nat} {d:q'} {f:List qn} {s:qn} {o:Obj} (j:f.length=n) (q:Blk W g 99 #[.slice A n c]) (m:W.ownsRow b0 9 1 (.slice A n c) n (f.map STR)) (l:b0<=g) (e:b0<=W.heap.size) (i:(W.alloc o).grownBy a (A.map (·.block))) (h4:a.ownsRow b0 9 1 (.slice d (n+1) b) (n+1) (f.map STR++[STR s])):
  ug (a.setCell g (.slice d (n+1) b)) b0 g (f++[s])/\jO [99,9] b0 W (a.setCell g (.slice d (n+1) b)):=by
 have h0:=(qZ _ W).alloc (qx _) o;have o1:=qG m h0;have v:jO [99,9] b0 W a:=(jO.fresh h0 e).grown o1 s8 (qx _) (qv e h0.size) i;have u:jO [9] b0 W a:=(jO.fresh h0 e).grown o1 s8 (qx _) (qv e h0.size) i;have h:=u.blk q FV;refine⟨⟨d,b, ?_, ?_,l⟩,v.zh h s8 l 0 _⟩
 ·have:=h.zh 0 (.slice d (n+1) b);rw [qK,zJ,j];simpa using this
 ·rw [qK,zJ,j,qg];exact((qE.refl [g] a).zh (p:= g) (qy.2 rfl) _).own h4 (λk r t=>qT h4 h FV k r (qy.1 t))
end
section
open Go.Sort Go.Shelf
def Si:Go.Shelf.Ren:=⟨fun|6=>137|8=>180|9=>184|19=>210|20=>211|21=>212|22=>213|23=>214|24=>215|25=>216|26=>217|27=>218|28=>219|29=>220|36=>243|31=>244|32=>245|37=>246|38=>247|39=>248|41=>265|n=>n,fun|27=>99|29=>9|3=>3|32=>88|26=>99|0=>0|44=>92|46=>43|4=>4|36=>327|35=>326|41=>267|5=>5|9=>9|53=>356|57=>359|63=>376|64=>201|n=>n,fun|n=>n⟩
theorem WD:Go.Proofs.SlLaysM.n6 prog Si:={
 mixed:=AL,
 f6:=⟨ "slices.Sort[[]string,string]",FV,func137.trans (zo _ AL)⟩,
 f8:=func180.trans (zo _ AL),
 f9:=⟨ "slices.pdqsortOrdered[string]",FV,func184.trans (zo _ AL)⟩,
 f19:=func210.trans (zo _ AL),
 f20:=func211.trans (zo _ AL),
 f21:=⟨ "slices.insertionSortOrdered[string]",FV,func212.trans (zo _ AL)⟩,
 f22:=⟨ "slices.heapSortOrdered[string]",FV,func213.trans (zo _ AL)⟩,
 f23:=⟨ "slices.breakPatternsOrdered[string]",FV,func214.trans (zo _ AL)⟩,
 f24:=⟨ "slices.choosePivotOrdered[string]",FV,func215.trans (zo _ AL)⟩,
 f25:=⟨ "slices.reverseRangeOrdered[string]",FV,func216.trans (zo _ AL)⟩,
 f26:=⟨ "slices.partialInsertionSortOrdered[string]",FV,func217.trans (zo _ AL)⟩,
 f27:=⟨ "cmp.Less[string]",FV,func218.trans (zo _ AL)⟩,
 f28:=⟨ "slices.partitionEqualOrdered[string]",FV,func219.trans (zo _ AL)⟩,
 f29:=⟨ "slices.partitionOrdered[string]",FV,func220.trans (zo _ AL)⟩,
 f31:=func244.trans (zo _ AL),
 f32:=func245.trans (zo _ AL),
 f36:=⟨ "slices.siftDownOrdered[string]",FV,func243.trans (zo _ AL)⟩,
 f37:=⟨ "slices.medianAdjacentOrdered[string]",FV,func246.trans (zo _ AL)⟩,
 f38:=⟨ "slices.medianOrdered[string]",FV,func247.trans (zo _ AL)⟩,
 f39:=⟨ "cmp.isNaN[string]",FV,func248.trans (zo _ AL)⟩,
 f41:=⟨ "slices.order2Ordered[string]",FV,func265.trans (zo _ AL)⟩,
 t0:=underlying0,
 a0:=isAgg0,
 z0:=sizeOf0,
 v0:=zeroValue0,
 t3:=yu,
 a3:=isAgg3,
 z3:=sizeOf3,
 v3:=zeroValue3,
 t4:=underlying4,
 a4:=isAgg4,
 z4:=sizeOf4,
 v4:=zeroValue4,
 t5:=xS,
 a5:=isAgg5,
 z5:=sizeOf5,
 v5:=zeroValue5,
 t9:=ju,
 a9:=isAgg9,
 z9:=sizeOf9,
 v9:=J5,
 t26:=jD,
 a26:=isAgg99,
 z26:=sizeOf99,
 v26:=zeroValue99,
 t27:=jD,
 a27:=isAgg99,
 z27:=sizeOf99,
 v27:=zeroValue99,
 t29:=ju,
 a29:=isAgg9,
 z29:=sizeOf9,
 v29:=J5,
 t32:=underlying88,
 a32:=isAgg88,
 z32:=sizeOf88,
 v32:=zeroValue88,
 t35:=underlying326,
 a35:=isAgg326,
 z35:=sizeOf326,
 v35:=zeroValue326,
 t36:=underlying327,
 a36:=isAgg327,
 z36:=sizeOf327,
 v36:=zeroValue327,
 t41:=underlying267,
 a41:=isAgg267,
 z41:=sizeOf267,
 v41:=zeroValue267,
 t44:=underlying92,
 a44:=isAgg92,
 z44:=sizeOf92,
 v44:=zeroValue92,
 t46:=underlying43,
 a46:=isAgg43,
 z46:=sizeOf43,
 v46:=zeroValue43,
 t53:=underlying356,
 a53:=isAgg356,
 z53:=sizeOf356,
 v53:=zeroValue356,
 t57:=underlying359,
 a57:=isAgg359,
 z57:=sizeOf359,
 v57:=zeroValue359,
 t63:=underlying376,
 a63:=isAgg376,
 z63:=sizeOf376,
 v63:=zeroValue376,
 t64:=underlying201,
 a64:=isAgg201,
 z64:=sizeOf201,
 v64:=zeroValue201}
def SI:Go.Shelf.Ren:=⟨fun|44=>138|n=>n,fun|25=>99|26=>9|3=>3|4=>4|0=>0|n=>n,fun|n=>n⟩
theorem iX:Go.Proofs.SlLaysN.n44 prog SI:={
 mixed:=AL,
 f44:=⟨ "slices.Compact[[]string,string]",FV,func138.trans (zo _ AL)⟩,
 t0:=underlying0,
 a0:=isAgg0,
 z0:=sizeOf0,
 v0:=zeroValue0,
 t3:=yu,
 a3:=isAgg3,
 z3:=sizeOf3,
 v3:=zeroValue3,
 t4:=underlying4,
 a4:=isAgg4,
 z4:=sizeOf4,
 v4:=zeroValue4,
 t25:=jD,
 a25:=isAgg99,
 z25:=sizeOf99,
 v25:=zeroValue99,
 t26:=ju,
 a26:=isAgg9,
 z26:=sizeOf9,
 v26:=J5,
 i26:=by kernel_rfl}
theorem tT (zs:List qn):(Go.Lib.compact zs).length<=zs.length:=by
 unfold Go.Lib.compact Go.Lib.compactUpTo;rw [zH];exact qv (jN _ _) s8
theorem tW (l:List qn):l.map encStr=l.map STR:=rfl
def srt (l:List qn):List qn:=l.mergeSort λx y=>decide (x<=y)
theorem Wf (l:List qn):(srt l).length=l.length:=List.length_mergeSort l
theorem Sl (A:q') (n c b0:Nat) (a:List qn) (W:World) (h:W.ownsRow b0 9 1 (.slice A n c) n (a.map STR)) (q:n<=1000000000) (j:b0<=W.heap.size):
  Calls prog 137 #[.slice A n c] W λe f=>e= .returned (.tuple #[])/\f.ownsRow b0 9 1 (.slice A n c) n ((srt a).map STR)/\jO [9] b0 W f:=by
 have d:a.length=n:=by have:=h.1;simpa using this
 rcases zA n with rfl|o
 ·have k:=xq.1 d;subst k;refine(AnyM.slices_Sort_string_none WD A c W).mono ?_;rintro e w' ⟨rfl,rfl⟩;exact⟨rfl,by simpa [srt] using h,jO.refl _ _ _⟩
 ·obtain⟨g,rfl⟩:=Kq h o;obtain⟨p,h1,h2,h3,r,b,h4,h5⟩:=yZ h;subst d;have l:=holds_of_block b h5;refine(AnyM.slices_Sort_string WD g 0 c a W l b.lt uK).mono ?_;rintro e w' ⟨rfl,m,os,rfl⟩;have i:=ownsRow_sorted (os:=os) (n:=m) (Wf a) p b h1 h2 uK;exact⟨rfl,i,(jO.refl _ _ _).grown h s8 (qx _) j (grownBy_sorted _)⟩
theorem SL (A:q') (n c b0:Nat) (a:List qn) (W:World) (h:W.ownsRow b0 9 1 (.slice A n c) n (a.map STR)) (C:n<=1000000000) (u:b0<=W.heap.size):
  Calls prog 138 #[.slice A n c] W λe d=>e= .returned (.slice A (Go.Lib.compact a).length c)/\d.ownsRow b0 9 1 (.slice A (Go.Lib.compact a).length c) (Go.Lib.compact a).length ((Go.Lib.compact a).map STR)/\jO [9] b0 W d:=by
 have f:a.length=n:=by have:=h.1;simpa using this
 rcases zA n with rfl|s
 ·have j:=xq.1 f;subst j;refine(AnyG.slices_Compact_string_empty iX A c W).mono ?_;rintro e w' ⟨rfl,rfl⟩;exact⟨rfl,h,jO.refl _ _ _⟩
 ·obtain⟨g,rfl⟩:=Kq h s;obtain⟨l,h1,h2,h3,B,i,h4,h5⟩:=yZ h;subst f;have o:=holds_of_block i h5;have v:=tT a;refine(AnyG.slices_Compact_string iX g 0 c a W o uK h1).mono ?_;rintro e w' ⟨rfl,q,rfl⟩;have p:(Go.Lib.compact a++List.replicate (a.length-(Go.Lib.compact a).length) []).length=a.length:=SZ;have b:=ownsRow_sorted (os:= #[]) (n:=q) p l i h1 h2 uK;rw [grow_empty] at b;refine⟨rfl, ?_,(jO.refl _ _ _).grown h s8 (qx _) u (by have:=grownBy_sorted (w:=W) (g:=g) (n:=q) (os:= #[]) (Go.Lib.compact a++List.replicate (a.length-(Go.Lib.compact a).length) []).toArray;rwa [grow_empty] at this)⟩;obtain⟨m,D,x,y,t,r,z,k⟩:=yZ b;refine⟨s8, .inr ⟨g,c,t,rfl,m,r,uK,x,uK, ?_⟩⟩;have:=zo (List.take (Go.Lib.compact a).length) k;rw [List.take_take,vZ v] at this;rw [z_,this,qg,ZV s8,qH s8];rfl
end
section
open Go.Maps Go.Sort Go.Shelf
def Bt:Go.Shelf.Ren:=⟨fun|7=>94|10=>140|n=>n,fun|23=>141|26=>9|3=>62|28=>145|0=>0|27=>144|33=>222|4=>4|n=>n,fun|n=>n⟩
theorem iU:Go.Proofs.SlLaysZ.n7 prog Bt:={
 mixed:=AL,
 f7:=⟨ "maps.Keys[map[string][]int,string,[]int]",FV,func94.trans (zo _ AL)⟩,
 f10:=⟨ "maps.Keys[map[string][]int,string,[]int]$1",FV,func140.trans (zo _ AL)⟩,
 t0:=underlying0,
 a0:=isAgg0,
 z0:=sizeOf0,
 v0:=zeroValue0,
 t4:=underlying4,
 a4:=isAgg4,
 z4:=sizeOf4,
 v4:=zeroValue4,
 t23:=underlying141,
 a23:=isAgg141,
 z23:=sizeOf141,
 v23:=zeroValue141,
 t26:=ju,
 a26:=isAgg9,
 z26:=sizeOf9,
 v26:=J5,
 t27:=underlying144,
 a27:=isAgg144,
 z27:=sizeOf144,
 v27:=zeroValue144,
 t28:=underlying145,
 a28:=isAgg145,
 z28:=sizeOf145,
 v28:=zeroValue145,
 t33:=underlying222,
 a33:=isAgg222,
 z33:=sizeOf222,
 v33:=zeroValue222}
def DP:Go.Shelf.Ren:=⟨fun|6=>93|8=>139|9=>137|11=>185|13=>180|12=>184|23=>210|24=>211|14=>212|15=>213|16=>214|17=>215|18=>216|19=>217|20=>218|21=>219|22=>220|25=>243|26=>244|27=>245|28=>246|29=>247|30=>248|31=>265|n=>n,fun|26=>9|28=>145|24=>99|0=>0|3=>3|37=>88|48=>92|50=>43|4=>4|40=>327|39=>326|45=>267|5=>5|9=>9|51=>356|55=>359|57=>376|58=>201|33=>222|n=>n,fun|n=>n⟩
theorem OM:Go.Proofs.SlLaysZ.n6 prog DP:={
 mixed:=AL,
 f6:=⟨ "slices.Sorted[string]",FV,func93.trans (zo _ AL)⟩,
 f8:=⟨ "slices.Collect[string]",FV,func139.trans (zo _ AL)⟩,
 f11:=⟨ "slices.AppendSeq[[]string,string]",FV,func185.trans (zo _ AL)⟩,
 t0:=underlying0,
 a0:=isAgg0,
 z0:=sizeOf0,
 v0:=zeroValue0,
 t24:=jD,
 a24:=isAgg99,
 z24:=sizeOf99,
 v24:=zeroValue99,
 t26:=ju,
 a26:=isAgg9,
 z26:=sizeOf9,
 v26:=J5,
 t28:=underlying145,
 a28:=isAgg145,
 z28:=sizeOf145,
 v28:=zeroValue145,
 i26:=by kernel_rfl}
theorem Ih (m:Nat):AnyZ.SortsIn prog DP Fence.wide m:=
 ⟨λblk off cap ss W b c a=>Qz.2 (AnyM.slices_Sort_string WD _ _ _ _ W b c a),
  λp cap W=>Qz.2 (AnyM.slices_Sort_string_none WD p _ W)⟩
theorem nO (a:Option Nat) (W:World):Calls prog 94 #[.map a] W λe w'=>e= .returned (.func (.func 140) #[] #[.pointer W])/\w'=W.alloc (.cells #[.map a] 141):=
 (Qz (n:=5)).1 (AnyZ.keys_in iU _ 5 trivial rfl a W)
theorem E8 (b d:Nat) (a:DataW Unit) (R:Value->Option (DataW Unit×List MemPlace)) (w:World) (c:w.ownsMap prog 9 R b d a) (j:Maps.size a<=maxLen) (h:Maps.size a*16<=140737488355328):
  Calls prog 93 #[.func (.func 140) #[] #[.pointer w]] (w.alloc (.cells #[.map (some b)] 141)) λe w'=> ∃(v:Value) (ss:List qn),e= .returned v/\ss.Perm (strKeys a)/\
   w'.ownsRow (w.alloc (.cells #[.map (some b)] 141)).heap.size 9 1 v ss.length ((ss.mergeSort (λx y=>decide (x<=y))).map encStr)/\Below (w.alloc (.cells #[.map (some b)] 141)).heap.size (w.alloc (.cells #[.map (some b)] 141)) w':=by
 have p:=c.lt;have k:SeqGives Fence.wide 2 prog 140 #[.pointer w] encStr (λss=>ss.Perm (strKeys a)) (Maps.size a) (w.alloc (.cells #[.map (some b)] 141)):=
  AnyZ.keys_gives {iU with} _ _ trivial rfl uK w b d a _ s8 s8 (by
   obtain⟨l,o,g,f,m,i⟩:=c;exact⟨l,o,(Below.heap_alloc _ _ b p).trans g,f,m,i⟩)
 refine((Qz (n:=5)).1 (AnyZ.sorted_in OM _ 5 trivial trivial trivial trivial rfl uK (Ih _) (enters_of func137 AL rfl) _ _ trivial (enters_of func140 AL rfl) _ _ j h _ k)).mono ?_;rintro e w' ⟨v,ss,h1,h2,h3,h4,h5⟩;exact⟨v,_,h1,h2,h3,h5⟩
end
theorem ow (os:Os) (args:Array Value):laidMetH prog Rows.wholeTotalRow.laid ((World.doorLaid prog 400 os).forCall (λ_ _=>0) ⟨#[],args,[]⟩).memory:=
 laidMetH_of_parts3 (fuel:=8) (laidMet_of_run' 8 AL AL) AL AL
def Io:List Int:=[0,498536548,997073096,651767980,1994146192,1802195444,1303535960,1342533948,3988292384,4027552580,3604390888,3412177804,2607071920,2262029012,2685067896,3183342108]
theorem iq: ∀i,i<16->Io[i]? =some ((kq 4 i:Nat):Int):=by
 intro i hi;have h: ∀i:Fin 16,Io[i.val]? =some ((kq 4 i.val:Nat):Int):=by decide+kernel
 exact h ⟨i,hi⟩
theorem Rz {W:World} (h:laidMetH prog Rows.wholeTotalRow.laid W):Tab W:=by
 rw [MakeChecks.laidMetH_plain _ _ _ AL] at h;obtain⟨n,⟨l,f,a,m,o,q0,b,g,j,k,_,_⟩,_⟩:=h;obtain rfl:0=l:=zy (Eq.trans AL b);obtain rfl:204=f:=zy (Eq.trans AL g);have d:=Lib.cells_of_tab (zs:=Io) underlying204 underlying92 AL AL k;intro i hi;have c:=World.var?_cell b j i;rw [c];have e:a[i]? =a.toList[i]? :=s8;rw [e,d,qD,iq i hi];rfl
section
open Go.ChangeShapes Go.WideShapes Go.ChangeAt
theorem qqG {a:Int} (h:(Lit.int .u16 a).wf=true): ∃n:Nat,a=(n:Int)/\n<65536:=by
 have h2:=bounds_u16 h;exact⟨a.toNat,uK,uK⟩
end
end Go.Proofs.YtfnlfpcfkbdcmaaGreatDoor
