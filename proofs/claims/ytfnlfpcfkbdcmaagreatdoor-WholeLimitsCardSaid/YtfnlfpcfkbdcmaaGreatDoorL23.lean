import Derived.Test.YtfnlfpcfkbdcmaaGreatDoorL18
import Derived.Test.YtfnlfpcfkbdcmaaGreatDoorL19
set_option linter.unusedSimpArgs false
set_option linter.unusedVariables false
set_option maxRecDepth 100000
set_option maxHeartbeats 0
open Go.Proofs.Tryz
namespace Go.Proofs.YtfnlfpcfkbdcmaaGreatDoor
open Go.RowKit
variable {Ah Al c:q'}{W W' W4 w w' w2:World}{a b base ch cl g nh nl wd x:Nat}{hs l l' ls:List Nat}{t:TypeId}
def LV (x:Nat):Value:= .int .u16 (x:Int)
def hiL (b:Nat) (a:List Nat):List Nat:=a.map (λx=>x/2^b)
def loL (b:Nat) (a:List Nat):List Nat:=a.map (λx=>x%2^b)
theorem Ot (a:Nat) (b:List Nat) (x:Nat):hiL a (b++[x])=hiL a b++[x/2^a]:=qg ..
theorem OT (a:Nat) (b:List Nat) (x:Nat):loL a (b++[x])=loL a b++[x%2^a]:=qg ..
theorem BH:(prog.info? 25).map (λi=>(i.zero,i.size,i.bytes))=some (some (.int .u16 0),1,2):=AL
theorem XM:(prog.info? 3).map (λi=>(i.zero,i.size,i.bytes))=some (some (.int .i64 0),1,8):=AL
structure Ovr (base:Nat) (l:List Nat) (w w':World):Prop where
 os:w'.os=w.os
 tape:w'.tape=w.tape
 output:w'.output=w.output
 size:w.heap.size<=w'.heap.size
 block: ∀k,k<w.heap.size->k<base->k∉l->w'.heap[k]? =w.heap[k]?
theorem Ovr.refl (base:Nat) (l:List Nat) (w:World):Ovr base l w w:=⟨rfl,rfl,rfl,qx _,λ_ _ _ _=>rfl⟩
theorem Ovr.fY (h:qE l' w w') (c: ∀k∈l',k∈l\/base<=k):Ovr base l w w':=⟨h.os,h.tape,h.output,h.size,λk a d b=>h.block k a λe=>(c k e).elim b λh2=>uK⟩
theorem Ovr.trans (h:Ovr base l w w') (a:Ovr base l w' w2):Ovr base l w w2:=
 ⟨a.os.trans h.os,a.tape.trans h.tape,a.output.trans h.output,qv h.size a.size,λk d c b=>(a.block k (qB d h.size) c b).trans (h.block k d c b)⟩
theorem Ovr.fresh (h:Ovr base l w w') (a:Below w' w' w2):Ovr base l w w2:=h.trans ⟨a.os,a.tape,a.output,a.size,λk b _ _=>a.block k b⟩
theorem Ovr.jZ (h:Ovr base l w w') (c:w.heap.size<=base):qE l w w':=⟨h.os,h.tape,h.output,h.size,λk b a=>h.block k b uK a⟩
theorem Ovr.below {B:Nat} (h:Ovr base l w w') (c:B<=w.heap.size) (b:B<=base) (a: ∀k∈l,B<=k):Below B w w':=⟨h.os,h.tape,h.output,h.size,λk d=>h.block k uK uK λe=>by have:=a k e;omega⟩
theorem Ovr.blk {g:Nat} {t:TypeId} {a:Array Value} (h:Ovr base l w w') (b:Blk w g t a) (c:g<base) (d:g∉l):Blk w' g t a:=(h.block g b.lt c d).trans b
theorem Ovr.own {size n c:Nat} {A:q'} {E:TypeId} {f:List Value} (h:Ovr base l w w') (e:w.ownsRow b E size (.slice A n c) n f) (i: ∀k∈fpS A,k<base/\k∉l):w'.ownsRow b E size (.slice A n c) n f:=
 zI e λa d=>by
  obtain⟨m,j,g⟩:=jV e _ (by rw [d];rfl)
  have h2:=i _ (ZO.2 (by rw [d];rfl))
  exact h.block _ (jz g) h2.1 h2.2
structure Pt (W:World) (base g:Nat) (t:TypeId) (wd:Nat) (Ah:q') (nh ch:Nat) (hs:List Nat) (Al:q') (nl cl:Nat) (ls:List Nat):Prop where
 blk:Blk W g t #[wd, .slice Ah nh ch, .slice Al nl cl]
 oh:W.ownsRow base 3 1 (.slice Ah nh ch) nh (hs.map NV)
 ol:W.ownsRow base 25 1 (.slice Al nl cl) nl (ls.map LV)
 t1:3≠t
 t2:25≠t
 bs:base<=W.heap.size
theorem Pt.jZ (h:Pt W base g t wd Ah nh ch hs Al nl cl ls) (a:qE l W W') (e:g∉l) (d: ∀k∈l,k<base):Pt W' base g t wd Ah nh ch hs Al nl cl ls:=
 ⟨a.blk h.blk e,a.own h.oh (λk b c=>by have:=(zj h.oh k b).1;have:=d k c;omega),a.own h.ol (λk b c=>by have:=(zj h.ol k b).1;have:=d k c;omega),h.t1,h.t2,qv h.bs a.size⟩
theorem Pt.fresh (h:Pt W base g t wd Ah nh ch hs Al nl cl ls) (a:Below W W W'):Pt W' base g t wd Ah nh ch hs Al nl cl ls:=h.jZ (qE.jq (l:=[]) a) s8 s8
theorem Pt.drew (h:Pt W base g t wd Ah nh ch hs Al nl cl ls):Pt W.drew base g t wd Ah nh ch hs Al nl cl ls:=h.fresh ((Dr.refl W|>.drewN 1).below _)
theorem Pt.hi (h:Pt W base g t wd Ah nh ch hs Al nl cl ls) (o:Obj) (m:(W.alloc o).grownBy W4 (Ah.map (·.block))) (j:W4.ownsRow base 3 1 (.slice c (nh+1) b) (nh+1) (hs.map NV++[NV x])):
  Pt (W4.setCell ⟨g,1,none⟩ (.slice c (nh+1) b)) base g t wd c (nh+1) b (hs++[x]) Al nl cl ls/\Ovr base [g] W (W4.setCell ⟨g,1,none⟩ (.slice c (nh+1) b)):=by
 have h1:=h.fresh ((qZ _ W).alloc (qx _) o);have d:=(qE.refl _ _).grown m (λk a=> .inl a);have i:=d.blk h1.blk (λa=>qT h1.oh h1.blk h1.t1 g a rfl);have l:=d.own h1.ol (xz h1.ol h1.oh FV);have f:qE [g] W4 (W4.setCell ⟨g,1,none⟩ (.slice c (nh+1) b)):=(qE.refl _ _).zh (p:=⟨g,1,none⟩) (qy.2 rfl) _;refine⟨⟨?_, ?_, ?_,h.t1,h.t2, ?_⟩, ?_⟩
 ·have:=i.zh 1 (.slice c (nh+1) b);simpa using this
 ·rw [qg];exact f.own j (λk a e=>qT j i h.t1 k a (qy.1 e))
 ·exact f.own l (λk a e=>qT l i h.t2 k a (qy.1 e))
 ·rw [zO];exact qv h1.bs d.size
 ·refine((Ovr.refl base [g] W).fresh ((qZ _ W).alloc (qx _) o)).trans ((Ovr.fY d (λk a=> .inr (zj h1.oh k a).1)).trans (Ovr.fY f (λk a=> .inl a)))
theorem Pt.lo (h:Pt W base g t wd Ah nh ch hs Al nl cl ls) (o:Obj) (m:(W.alloc o).grownBy W4 (Al.map (·.block))) (j:W4.ownsRow base 25 1 (.slice c (nl+1) b) (nl+1) (ls.map LV++[LV x])):
  Pt (W4.setCell ⟨g,2,none⟩ (.slice c (nl+1) b)) base g t wd Ah nh ch hs c (nl+1) b (ls++[x])/\Ovr base [g] W (W4.setCell ⟨g,2,none⟩ (.slice c (nl+1) b)):=by
 have h1:=h.fresh ((qZ _ W).alloc (qx _) o);have d:=(qE.refl _ _).grown m (λk a=> .inl a);have i:=d.blk h1.blk (λa=>qT h1.ol h1.blk h1.t2 g a rfl);have l:=d.own h1.oh (xz h1.oh h1.ol FV);have f:qE [g] W4 (W4.setCell ⟨g,2,none⟩ (.slice c (nl+1) b)):=(qE.refl _ _).zh (p:=⟨g,2,none⟩) (qy.2 rfl) _;refine⟨⟨?_, ?_, ?_,h.t1,h.t2, ?_⟩, ?_⟩
 ·have:=i.zh 2 (.slice c (nl+1) b);simpa using this
 ·exact f.own l (λk a e=>qT l i h.t1 k a (qy.1 e))
 ·rw [qg];exact f.own j (λk a e=>qT j i h.t2 k a (qy.1 e))
 ·rw [zO];exact qv h1.bs d.size
 ·refine((Ovr.refl base [g] W).fresh ((qZ _ W).alloc (qx _) o)).trans ((Ovr.fY d (λk a=> .inr (zj h1.ol k a).1)).trans (Ovr.fY f (λk a=> .inl a)))
theorem Pt.c0 (h:Pt W base g t wd Ah nh ch hs Al nl cl ls):W.cell? g=some (wd:Value):=by rw [h.blk.cell 0];simp
theorem Pt.c1 (h:Pt W base g t wd Ah nh ch hs Al nl cl ls):W.cell? ⟨g,1,none⟩=some (.slice Ah nh ch):=by rw [h.blk.cell 1];simp
theorem Pt.c2 (h:Pt W base g t wd Ah nh ch hs Al nl cl ls):W.cell? ⟨g,2,none⟩=some (.slice Al nl cl):=by rw [h.blk.cell 2];simp
theorem Pt.WW (h:Pt W base g t wd Ah nh ch hs Al nl cl ls) (o:Obj) {b:q'} (e:(W.alloc o).grownBy W4 (Ah.map (·.block))) (f:W4.ownsRow base 3 1 (.slice b (nh+1) a) (nh+1) (hs.map NV++[NV x])):
  (W4.cell? g=some (wd:Value)/\W4.cell? ⟨g,1,none⟩=some (.slice Ah nh ch)/\W4.frozen? ⟨g,1,none⟩=false)/\Pt (W4.setCell ⟨g,1,none⟩ (.slice b (nh+1) a)) base g t wd b (nh+1) a (hs++[x]) Al nl cl ls/\Ovr base [g] W (W4.setCell ⟨g,1,none⟩ (.slice b (nh+1) a)):=by
 have h1:=h.fresh ((qZ _ W).alloc (qx _) o);have d:=((qE.refl (fpS Ah) (W.alloc o)).grown e (λk c=> .inl c)).blk h1.blk (λc=>qT h1.oh h1.blk h1.t1 g c rfl);exact⟨⟨by rw [d.cell 0];simp,by rw [d.cell 1];simp,d.frozen 1⟩,h.hi o e f⟩
theorem Pt.lU (h:Pt W base g t wd Ah nh ch hs Al nl cl ls) (o:Obj) {b:q'} (e:(W.alloc o).grownBy W4 (Al.map (·.block))) (f:W4.ownsRow base 25 1 (.slice b (nl+1) a) (nl+1) (ls.map LV++[LV x])):
  (W4.cell? g=some (wd:Value)/\W4.cell? ⟨g,2,none⟩=some (.slice Al nl cl)/\W4.frozen? ⟨g,2,none⟩=false)/\Pt (W4.setCell ⟨g,2,none⟩ (.slice b (nl+1) a)) base g t wd Ah nh ch hs b (nl+1) a (ls++[x])/\Ovr base [g] W (W4.setCell ⟨g,2,none⟩ (.slice b (nl+1) a)):=by
 have h1:=h.fresh ((qZ _ W).alloc (qx _) o);have d:=((qE.refl (fpS Al) (W.alloc o)).grown e (λk c=> .inl c)).blk h1.blk (λc=>qT h1.ol h1.blk h1.t2 g c rfl);exact⟨⟨by rw [d.cell 0];simp,by rw [d.cell 2];simp,d.frozen 2⟩,h.lo o e f⟩
def PtI (W:World) (base g:Nat) (t:TypeId) (b:Nat) (a:List Nat):Prop:= ∃Ah ch Al cl,Pt W base g t b Ah a ch (hiL b a) Al a cl (loL b a)
def ME (W:World) (base g:Nat) (t:TypeId) (c:Nat) (b:List Nat) (e:Ending) (a:World):Prop:=e= .returned (.tuple #[])/\PtI a base g t c b/\Ovr base [g] W a
theorem Mr (x a:Nat) (c:x<9223372036854775808) (b:a<=14):bits .and .i64 (x:Int) (((2^a-1:Nat)):Int)=((x%2^a:Nat):Int):=by
 have h1:2^a<=2^14:=zZ uK b;rw [a8 x _ c uK,Nat.and_two_pow_sub_one_eq_mod]
theorem F8 {W:World} {g cap:Nat} {t:TypeId} {b c:Value} {A:q'} {s:Bw} (h:Wr W g t [b,c] A cap s) (u:Value):
  Wr (W.setCell ⟨g,2,none⟩ u) g t [u,c] A cap s/\Wr (W.setCell ⟨g,3,none⟩ u) g t [b,u] A cap s:=by
 refine⟨⟨?_,((qE.refl [g] W).zh (p:=⟨g,2,none⟩) (qy.2 rfl) u).own h.own (λk a=>by simpa using h.fp k a),h.ok,h.ne⟩,
  ⟨?_,((qE.refl [g] W).zh (p:=⟨g,3,none⟩) (qy.2 rfl) u).own h.own (λk a=>by simpa using h.fp k a),h.ok,h.ne⟩⟩
 ·have:=h.blk.zh 2 u;simpa using this
 ·have:=h.blk.zh 3 u;simpa using this
structure Sq (l:List (Nat×Nat×Nat)):Prop where
 ok: ∀t∈l,Bp t
 len:l.length<=32768
 fewS:mr (pz l)
 fewF:mr (LW l)
 ckS:Y2 (P1 l)=0
 ckF:Y2 (de l)=0
theorem MJ (l:List (Nat×Nat×Nat)) (h:l.length<=32768): ∀x∈pz l,x<=1000000:=by
 intro x a;unfold pz at a;obtain⟨s,-,rfl⟩:=jB.1 a;have:=jN (λt=>(Qo t).1==s) l;split<;>omega
theorem MX (l:List (Nat×Nat×Nat)) (h:l.length<=32768): ∀x∈LW l,x<=1000000:=by
 intro x a;unfold LW at a;obtain⟨s,-,rfl⟩:=jB.1 a;have:=jN (λt=>decide (256<(Qo t).1)&&((Qo t).2.2.1==s)) l;omega
theorem EB (A:q') (c B:Nat) (l:List (Nat×Nat×Nat)) (w:World) (h:Reads w B 3 A l (QN l)) (C:B<=w.heap.size) (x:Sq l):
  Calls prog 86 #[.slice A l c] w λe w'=> ∃r c',e= .returned (.tuple #[.slice r (G2 l).length c',()])/\yG w w' 5 r (G2 l).length c' ((G2 l).map B8):=by
 have KC:=qj (Eh A c B l w h C (by have:=x.len;omega) x.ok);have H:=qj h;have HB0:=qj C;have m:=qj x;have hlen: ¬(32768:Int)<(l.length:Int):=by have:=x.len;omega
 have U':=x.len;obtain⟨bs,t⟩:=j1 (G2 l);rw [<-t];replace t:=qj t;clear h C x;go_in;go_wp2_with fail;refine KC.mono ?_;rintro e d ⟨A1,c1,A2,c2,rfl,ho1,U,y⟩;have HS1:=qj (Reads.zY ho1);have S':=qj U;have N':Hid (Wr (d.alloc (.cells #[zn,(), .pointer none, .pointer none] 190)) d 190 [.pointer none, .pointer none] none 0 ⟨[],0⟩):=
  ⟨Blk.new d _ _,qP _ _ _ _,rfl,FV⟩
 have R:Hid (Below w w (d.alloc (.cells #[zn,(), .pointer none, .pointer none] 190))):=y.alloc y.size _;have HS2:Hid (Reads (d.alloc (.cells #[zn,(), .pointer none, .pointer none] 190)) d 1 A1 265 ((pz l).map C32)):=HS1.below (z8 _);have HO3:Hid ((d.alloc (.cells #[zn,(), .pointer none, .pointer none] 190)).ownsRow w 92 1 (.slice A2 12 c2) 12 ((LW l).map C32)):=S'.alloc _;have o:Hid (w.heap.size<=d.heap.size/\d.heap.size<(d.alloc (.cells #[zn,(), .pointer none, .pointer none] 190)).heap.size):=⟨y.size,s8⟩;have p':=qj (λk a=>(zj U k a).2);clear ho1 U y;go_wp2_with fail;generalize d.alloc (.cells #[zn,(), .pointer none, .pointer none] 190)=w2,d.heap.size=g at*;have KA:=qj (DJ w2 g _ _ none 0 ⟨[],0⟩ A1 265 c1 g (pz l) N' HS2 (zr o.out.2) uK m.fewS (MJ l U') (by show(0:Nat)<=_;omega) m.ckS);have HCS:=qj m.ckS;have HCF:=qj m.ckF;replace t:Hid (bs=(pd (P1 l) (l.foldl (DT (P1 l) (de l)) (dc (dc ⟨[],0⟩ (P1 l)) (de l))) 256).b):=t;have KB:=qj (λW rest A cap s (hw:Wr W g 190 rest A cap s) B h C hs=>DJ W g _ rest A cap s A2 12 c2 B (LW l) hw h C uK m.fewF (MX l U') hs m.ckF);rw [show X6 (pz l) 15=P1 l from rfl] at KA;rw [show X6 (LW l) 15=de l from rfl] at KB;have hlS:=(ZT HCS).1;have hlF:=(ZT HCF).1;generalize P1 l=ls,de l=lf at*;have d':Hid ((dc ⟨[],0⟩ ls).n<=3000):=by have:=DZ ⟨[],0⟩ ls;rw [Hid];exact qv this (by show 0+_<=_;omega)
 have hs5:Hid ((dc (dc ⟨[],0⟩ ls) lf).n<=6000):=by have:=DZ (dc ⟨[],0⟩ ls) lf;have:=d'.out;rw [Hid];omega
 refine KA.mono ?_;rintro e j ⟨i,Q,K,A3,cap3,rfl,hcs,hlo,Q',M,F,z'⟩;have fc2:j.cell? ⟨g,2,none⟩=some (.pointer none):=by rw [M.blk.cell 2];simp
 have ff2:=M.blk.frozen 2;have V:=z' g (qo ..);have Z:qE [g] j (j.setCell ⟨g,2,none⟩ (.pointer i)):=(qE.refl [g] j).zh (p:=⟨g,2,none⟩) (qy.2 rfl) _;have Z':=qj (F8 M (.pointer i)).1;have HC4:=qj (hcs.jZ Z (λk a=>by rw [qy.1 a];exact .inl V));have HO4:=qj (Z.own (F.jZ.own HO3 (λk a S=>by have:=p' k a;simp [fpS] at S;omega)) (λk a S=>by have:=p' k a;rw [qy.1 S] at this;omega));have G:Hid (Below w w (j.setCell ⟨g,2,none⟩ (.pointer i))):=(R.trans (F.jZ.below (λk a=>by simp [fpS] at a;rw [a];exact o.out.1) R.size)).setCell (p:=⟨g,2,none⟩) o.out.1 _;have J':Hid (∀k∈g::fpS A3,w.heap.size<=k):=λk a=>by
  rcases qL.1 a with h|h
  ·rw [h];exact o.out.1
  ·rcases F.fp k h with h|h
   ·simp [fpS] at h
   ·have:=R.size;omega
 have m':Hid (K<=(j.setCell ⟨g,2,none⟩ (.pointer i)).heap.size):=by rw [Hid];simpa using Q'
 have iL:=qj z';clear hcs hlo Q' M F z' Z;go_wp2_with fail;generalize j.setCell ⟨g,2,none⟩ (.pointer i)=w4 at*;clear fc2 ff2;have OX:=qj (KB w4 _ A3 cap3 _ Z' w4 (Reads.zY HO4) (qx _) (by have:=d'.out;omega));refine OX.mono ?_;rintro e f ⟨gf,I,M',Y,cap5,rfl,X',hlo5,hhi5,J,v,T⟩;have fc3:f.cell? ⟨g,3,none⟩=some (.pointer none):=by rw [J.blk.cell 3];simp
 have ff3:=J.blk.frozen 3;have hg5:=T g (qo ..);have X:qE [g] f (f.setCell ⟨g,3,none⟩ (.pointer gf)):=(qE.refl [g] f).zh (p:=⟨g,3,none⟩) (qy.2 rfl) _;have u':(f.setCell ⟨g,3,none⟩ (.pointer gf)).heap.size=f.heap.size:=s8;have O':Hid (TW (f.setCell ⟨g,3,none⟩ (.pointer gf)) g Y cap5 (dc (dc ⟨[],0⟩ ls) lf) i Q K ls gf I M' lf):=
  ⟨(F8 J (.pointer gf)).2,
   (HC4.jZ v.jZ (λk a=> .inl (iL k a))).jZ X (λk a=>by rw [qy.1 a];exact .inl V),
   X'.jZ X (λk a=>by rw [qy.1 a];exact .inl hg5),
   λk a=>⟨by
    rcases qL.1 a with h|h
    ·rw [h];exact .inl V
    ·rcases v.fp k h with h|h
     ·exact .inl (iL k (qM _ h))
     ·exact .inr (qv m' h), .inl (T k a)⟩,
   by rw [u'];exact qv m' v.jZ.size,by rw [u'];exact hhi5⟩
 have HB6:Hid (Below w w (f.setCell ⟨g,3,none⟩ (.pointer gf))):=(G.trans (v.jZ.below J' G.size)).setCell (p:=⟨g,3,none⟩) o.out.1 _;have HL6:Hid (∀k∈g::fpS Y,w.heap.size<=k):=λk a=>by
  rcases qL.1 a with h|h
  ·rw [h];exact o.out.1
  ·rcases v.fp k h with h|h
   ·exact J' k (qM _ h)
   ·have:=G.size;omega
 clear X' hlo5 hhi5 J v T X u' iL;generalize dc (dc ⟨[],0⟩ ls) lf=s0 at*;go_wp2_with fail;generalize f.setCell ⟨g,3,none⟩ (.pointer gf)=w6 at*;clear fc3 ff3;go_loopw [38] (λN6 wr=> ∃(k G':Nat) (r:q') (s:Bw),N6=(k:Value)/\k<=l.length/\Hid (TW wr g r G' s i Q K ls gf I M' lf)/\Hid (s=(l.take k).foldl (DT ls lf) s0)/\Hid (s.n<=6000+256*k)/\Hid (Below w w wr)/\Hid (∀k∈g::fpS r,w.heap.size<=k)) (λN6 _=>l.length-(intOf N6).toNat)
 ·exact⟨0,cap5,Y,s0,rfl,qp _,O',rfl,by simpa using hs5,HB6,HL6⟩
 ·obtain⟨k,G',r,s,rfl,a,z,HS,HN,q,D⟩:=hrel;have hn:=HN.out;by_cases D':k<l.length
  ·have hlt':(k:Int)<(l.length:Int):=uK;obtain⟨ad,rfl,_,y0,y1,y2⟩:=F7 (H.below (q.mono HB0)) k D';have htk:l.take (k+1)=l.take k++[l[k]]:=by rw [qs,qX D'];rfl
   have hS2:Hid (DT ls lf s l[k]=(l.take (k+1)).foldl (DT ls lf) s0):=by rw [Hid,htk,List.foldl_append,<-HS.out];rfl
   have hN2:Hid ((DT ls lf s l[k]).n<=6000+256*(k+1)):=by have:=nK ls lf s l[k];rw [Hid];omega
   have N9:=qj (z.fresh (z8 (.cells #[.int .u8 ((l[k].1:Nat):Int),((l[k].2.1:Nat):Int),((l[k].2.2:Nat):Int)] 193)));have KT:=qj (Eb _ g r G' s i Q K ls gf I M' lf l[k] N9 (m.ok _ (zx D')) uK);have u:=qj (q.alloc q.size (.cells #[.int .u8 ((l[k].1:Nat):Int),((l[k].2.1:Nat):Int),((l[k].2.2:Nat):Int)] 193));generalize DT ls lf s l[k]=s2,l[k].1=t0,l[k].2.1=t1,l[k].2.2=t2 at*;unfold XX PT at KT;clear htk HS HN hn;go_wp2_with fail;refine zC KT ?_;rintro w8 ⟨A8,cap8,hw8,O⟩;have HT8:=qj (N9.step hw8 O);have HB8:=qj (u.trans (O.jZ.below D u.size));have HL8:Hid (∀k∈g::fpS A8,w.heap.size<=k):=λk a=>by
    rcases qL.1 a with h|h
    ·rw [h];exact o.out.1
    ·rcases O.fp k h with h|h
     ·exact D k (qM _ h)
     ·have:=u.size;omega
   clear q D z hw8 O;go_wp2_with fail;refine xk ?_;exact⟨k+1,cap8,A8,s2,xb,uK,HT8,hS2,hN2,HB8,HL8⟩
  ·obtain rfl:k=l.length:=uK;rw [jP] at HS;have hbs2:Hid (bs=(pd ls s 256).b):=by rw [Hid,HS.out];exact t.out
   have hn8:(pd ls s 256).n<=9000000:=by have:=VM ls s 256;omega
   have N:=qj (z.drew.lV 256 uK);have c2:=z.out.XZ;unfold PT at c2 N;unfold XX at N;clear HS HN;generalize pd ls s 256=s9 at*;go_wp2_with fail;refine zv 8 (λW=>W.cell? ⟨g,2,none⟩=some (.pointer i)) AL c2 (λhHeld=> ?_);refine zq [0,1,2,3,4,5,6] (a':= ?_) ?_;refine vf 7 N ?_;rintro e w9 ⟨rfl,A9,cap9,P,P'⟩;refine⟨_,rfl,((by rw [P.blk.cell 2];simp)),λhHeld=> ?_⟩;refine zV AL ?_ _;have E:=qj (FM w9 g _ _ A9 cap9 s9 P (by have:=P.ok;unfold Bw.ok at this;omega));have L:=qj (q.drew.trans (P'.jZ.below D q.drew.size));rw [<-hbs2.out] at E;unfold jQ at E;clear P P' z q D c2 hHeld;go_wp2_with fail;refine E.mono ?_;rintro e w10 ⟨A10,Y',rfl,I'⟩;have HF:Hid (yG w w10 5 A10 bs Y' (bs.map B8)):=⟨qi I'.1 L.size,L.trans (I'.2.mono L.size)⟩;clear I';go_wp2;go_ret2;exact⟨A10,Y',rfl,HF⟩
theorem Ec (W:World) (b:TypeId) (a:List (q'×Nat×Nat×qn)) (h: ∀p∈a,Reads W W 1 p.1 p.2.1 (p.2.2.2.map B8)):
  UX (W.alloc (.cells (a.map λp=>Value.slice p.1 p.2.1 p.2.2.1).toArray b)) (W.alloc (.cells (a.map λp=>Value.slice p.1 p.2.1 p.2.2.1).toArray b)).heap.size W a (a.map λp=>p.2.2.2.map B8):=by
 refine⟨s8,λj c=> ?_⟩;have i:=zx c;refine⟨ W.heap.size,a[j].1,a[j].2.1,a[j].2.2.1,a[j].2.2.2.map B8,rfl, ?_, ?_, ?_,YR _⟩
 ·rw [qD,qX c];rfl
 ·have e:(W.heap.size:Addr).add j=⟨W,j,none⟩:=by unfold Addr.add;split<;>simp_all
  rw [e,(Blk.new W b _).cell j];simp [c]
 ·obtain⟨h1,h2⟩:=(h _ i).below (((qZ W W).alloc (qx _) _));exact⟨h1,λd=>by obtain⟨l,k,g,f⟩:=h2 d;exact⟨l,k,qB g s8,f⟩⟩
theorem fZ (W:World) (c:Nat) (a:List (q'×Nat×Nat×qn)) (h: ∀p∈a,Reads W W 1 p.1 p.2.1 (p.2.2.2.map B8)) (j:a.length<=1000) (ht:((a.map λp=>p.2.2.2).flatten).length<=1000000000):
  Calls prog 30 #[.slice W a c] (W.alloc (.cells (a.map λp=>Value.slice p.1 p.2.1 p.2.2.1).toArray 30)) (jQ 5 (W.alloc (.cells (a.map λp=>Value.slice p.1 p.2.1 p.2.2.1).toArray 30)) ((a.map λp=>p.2.2.2).flatten).length (((a.map λp=>p.2.2.2).flatten).map B8)):=by
 have e:(a.map λp=>p.2.2.2.map B8).flatten=((a.map λp=>p.2.2.2).flatten).map B8:=by
  rw [List.map_flatten,vC];rfl
 have b:total (a.map λp=>p.2.2.2.map B8)=((a.map λp=>p.2.2.2).flatten).length:=by unfold total;rw [e,zH]
 have K:=uU W a c _ _ uK (by rw [b];exact ht) (Ec W 30 a h);rw [b,e] at K;refine K.mono ?_;rintro k w' ⟨g,d,rfl,f,i⟩;exact⟨g,d,rfl,f,i⟩
theorem Xe (W:World) (c e h:q') (a b n3 c1 c2 i:Nat) (f d g:qn) (h1:Reads W W 1 c a (f.map B8)) (h2:Reads W W 1 e b (d.map B8)) (h3:Reads W W 1 h n3 (g.map B8)) (ht:a+b+n3<=1000000000):
  Calls prog 30 #[.slice W 3 3] (W.alloc (.cells #[.slice c a c1, .slice e b c2, .slice h n3 i] 30)) (jQ 5 (W.alloc (.cells #[.slice c a c1, .slice e b c2, .slice h n3 i] 30)) (f++d++g).length ((f++d++g).map B8)):=by
 have m:=h1.len;have l:=h2.len;have k:=h3.len;have K:=fZ W 3 [(c,a,c1,f),(e,b,c2,d),(h,n3,i,g)] (by
  intro p j;simp only [qL,xj,Ze] at j;rcases j with rfl|rfl|rfl
  ·exact h1
  ·exact h2
  ·exact h3) s8 SZ
 simpa [jY] using K
theorem Yz (W:World) (c e:q') (b a c1 c2:Nat) (f d:qn) (h1:Reads W W 1 c b (f.map B8)) (h2:Reads W W 1 e a (d.map B8)) (ht:b+a<=1000000000):
  Calls prog 30 #[.slice W 2 2] (W.alloc (.cells #[.slice c b c1, .slice e a c2] 30)) (jQ 5 (W.alloc (.cells #[.slice c b c1, .slice e a c2] 30)) (f++d).length ((f++d).map B8)):=by
 have i:=h1.len;have h:=h2.len;have K:=fZ W 2 [(c,b,c1,f),(e,a,c2,d)] (by
  intro p g;simp only [qL,xj,Ze] at g;rcases g with rfl|rfl
  ·exact h1
  ·exact h2) s8 SZ
 simpa using K
def iY (w:World) (n m:Nat) (r:List Value) (e:Ending) (w':World):Prop:= ∃b a,e= .returned (.tuple #[.slice b m a, .bool (decide (m<n))])/\yG w w' 5 b m a r
theorem EC (A:q') (n c B:Nat) (bs:qn) (w:World) (h:Reads w B 1 A n (bs.map B8)) (q:B<=w.heap.size) (y:n<=32768) (j:Sq (P9 bs)):
  Calls prog 54 #[.slice A n c] w (iY w n (Kh bs).length ((Kh bs).map B8)):=by
 have i:=qj (MZ A n c B _ w h q uK);have v:=qj j;have r:Hid (Kh bs=G2 (P9 bs)):=rfl;rw [r.out];generalize P9 bs=l at*;clear h q j;go_in;go_wp2_with fail;refine i.mono ?_;rintro e k ⟨t,c1,rfl,f,m⟩;have o:=qj (EB t c1 k l k (Reads.zY f) (qx _) v);have a:=qj m;clear f m;generalize G2 l=s at*;go_wp2_with fail;refine o.mono ?_;rintro e u ⟨b,c2,rfl,d⟩;have g:Hid (yG w u 5 b s c2 (s.map B8)):=⟨qi d.1 a.size,a.trans (d.2.mono a.size)⟩;clear d;by_cases p:s.length<n
 ·have x:(s.length:Int)<(n:Int):=uK;go_wp2;go_ret2;refine⟨b,c2, ?_,g⟩;rw [qw p];rfl
 ·go_wp2;go_ret2;refine⟨b,c2, ?_,g⟩;rw [qc p];rfl
theorem Bc (b:qn) (w:Nat): ∀(i a:Nat),Ka b w (i+1) a=Ka b w i a++[QF b (a+i*w) w]
 |0,a=>by simp [Ka]
 |i+1,a=>by
  show QF b a w::Ka b w (i+1) (a+w)=QF b a w::Ka b w i (a+w)++[_]
  rw [Bc b w i (a+w),vo,show w+i*w=(i+1)*w by rw [ql,Nat.add_comm]];rfl
theorem Ut (b:qn) (w:Nat): ∀(i a:Nat),(Ka b w i a).length=i
 |0,a=>rfl
 |i+1,a=>by show(Ka b w i (a+w)).length+1=i+1;rw [Ut b w i]
def uz (b:qn) (w n i a:Nat):List Nat:=Ka b w i a++List.replicate (n-i) 0
theorem nE (b:qn) (w n i a:Nat) (h:i<n):(uz b w n i a).set i (QF b (a+i*w) w)=uz b w n (i+1) a:=by
 unfold uz;have c:=Ut b w i a;rw [Bc,Qh (h:=by omega),c,xO,show n-i=(n-(i+1))+1 by omega,List.replicate_succ,jY];rfl
theorem Ws {b:qn} {at_ w:Nat} (h:w<=q7 b at_) (c:w<=14):U7 b at_ (w:Int)=0/\gq b at_ (w:Int)=QF b at_ w/\gk b at_ (w:Int)=at_+w:=by
 have a:U7 b at_ (w:Int)=0:=by unfold U7;rw [qJ uK,qJ uK]
 refine⟨a, ?_, ?_⟩
 ·unfold gq;rw [qk a];rfl
 ·unfold gk;rw [qk a];rfl
def iP (W:World) (h:Nat) (A:q') (N cap:Nat) (b:qn) (n a c:Nat) (e:Ending) (d:World):Prop:=
 (q7 b c<n*a/\e= .returned (.tuple #[zn, .int .i64 1])/\Below W W d)\/
 (n*a<=q7 b c/\ ∃g f,e= .returned (.tuple #[.slice g n f,()])/\d.ownsRow W 25 1 (.slice g n f) n ((Ka b a n c).map LV)/\Rd d h A N cap b (c+n*a)/\qE [h] W d)
theorem Tk (W:World) (d:Nat) (A:q') (N cap:Nat) (b:qn) (n a c:Nat) (h:Rd W d A N cap b c) (h1:1<=n) (hn:n<=20000) (J:a<=14):
  Calls prog 271 #[.pointer d,n,a] W (iP W d A N cap b n a c):=by
 obtain⟨j0,O,T,L,Q⟩:=xt BH;have s:=qj (XV W d A N _ c b h);have Y':=xA hn J;have z':(n:Int)*(a:Int)=((n*a:Nat):Int):=(zB _ _).symm;have hle:=h.le;have Z':=h.lim;have N6:q7 b c<=8000000000:=by unfold q7;rw [h.len];omega
 have H:=qj h;have P':=qj h.blk.lt;obtain⟨P,r⟩:=j1 (n*a);rw [<-r] at Y' z';unfold iP;rw [<-r];obtain⟨lf,B⟩:=j1 (q7 b c);rw [<-B] at s N6⊢;replace r:=qj r;replace B:=qj B;clear h hle Z';by_cases hlt:lf<P
 ·have hlt':=j' lf P;go_in;go_wp2_with fail;refine zC s ?_;intro j g;have HB:=qj (g.below W);clear g;go_wp2;go_ret2;exact .inl ⟨hlt,rfl,HB⟩
 ·have G':n<=maxLen:=SJ;have Z:Hid ((madeCells (Value.int .u16 0).cells (n*1)).toList=(uz b a n 0 c).map LV):=by
   rw [Hid,z_];show(madeCells #[Value.int .u16 0] n).toList=_;rw [xf];simp [uz,Ka,LV]
  go_in;go_wp2_with fail;refine zC s ?_;intro j g;have H1:=qj (H.dr g);have V:=qj (Zp (l:=[d]) g);have I:=g.size;clear g;go_wp2_with (at_make;refine xP _ rfl _ _ 212 rfl j 25 j0 (.int .u16 0) 1 underlying212 O T L .i64 .i64 _ _ n rfl rfl rfl rfl (by rw [Q.out];omega) G' (qx _) ?_;intro X G D';rw [Z.out] at G;have w:=qj G;have S:=qj ((qZ j j).grown D' (qx _) (λk q=>by cases q));clear G D');rw [I] at w;have p':Hid (Rd X d A N cap b (c+0*a)):=by rw [Hid,jd,v_];exact H1.fresh S.out
  have u':=qj (V.fresh S.out);have iL:=r;clear I G' z';obtain⟨f,t⟩:=j1 W.heap.size;rw [<-t] at w⊢;replace t:=qj t;go_loopw [22] (λK wr=> ∃i:Nat,K=(i:Value)/\i<=n/\Hid (wr.ownsRow f 25 1 (.slice (some ⟨f,0,none⟩) n n) n ((uz b a n i c).map LV))/\Hid (Rd wr d A N cap b (c+i*a))/\Hid (qE [d] W wr)) (λK _=>n-(intOf K).toNat)
  ·exact⟨0,rfl,qp _,w,p',u'⟩
  ·obtain⟨i,rfl,hi,m,o,C⟩:=hrel;by_cases M:i<n
   ·have hlt3:=j' i n;have hi0:=xi i;have d':a<=q7 b (c+i*a):=by
     have e1:(i+1)*a<=n*a:=zk _ M;rw [ql] at e1;have e2:=B.out;have e3:=iL.out;unfold q7 at e2⊢;omega
    obtain⟨ge,gv,U⟩:=Ws d' J;have z:=qj (UF _ d A N _ _ b (a:Int) o);rw [ge,gv,U] at z;unfold JD at z;have m':=Zr b (c+i*a) a;have D:=nE b a n i c M;have J':2^a<=2^14:=zZ uK J;have M':QF b (c+i*a) a<65536:=qB m' (qv J' FV);have Q':Hid (c+i*a+a=c+(i+1)*a):=by rw [Hid,ql,vo]
    generalize QF b (c+i*a) a=x at*;have wx:IntKind.u16.wrap (x:Int)=(x:Int):=by rw [IntKind.wrap_u16];omega
    have S':Hid (f≠d):=λe=>qT m o.blk FV f (by simp [fpS]) e;replace D:=qj D;clear d' ge gv U m' J';go_wp2_with fail;refine zC z ?_;rintro u ⟨I',R⟩;have F:Hid (Rd u d A N cap b (c+(i+1)*a)):=by rw [Hid,<-Q'.out];exact I'
    have v:=qj (R.own m (λk q E=>qT m o.blk FV k q (qy.1 E)));have Y:=qj (C.then R);obtain⟨ec,ef⟩:=xU v M;have O': ∃y,((uz b a n i c).map LV)[i]? =some (.int .u16 (y:Int)):=by
     have hl:i<(uz b a n i c).length:=by have:=v.out.1;simp at this;omega
     exact⟨_,by rw [qD,qX hl];rfl⟩
    obtain⟨y,hy⟩:=O';rw [hy] at ec;have X':Hid ((u.setCell ⟨f,i,none⟩ (.int .u16 (x:Int))).ownsRow f 25 1 (.slice f n n) n ((uz b a n (i+1) c).map LV)):=by
     have:=Qn (k:=i) v (.int .u16 (x:Int));rw [Hid,<-D.out,JY];exact this
    have U':Hid (Rd (u.setCell ⟨f,i,none⟩ (.int .u16 (x:Int))) d A N cap b (c+(i+1)*a)):=
     F.jZ ((qE.refl [f] u).zh (qy.2 rfl) _) (λe=>S'.out (qy.1 e).symm) (λk q E=>by
      rw [qy.1 E] at q;exact xz v F.own FV f (by simp [fpS]) q)
    have N9:Hid (qE [d] W (u.setCell ⟨f,i,none⟩ (.int .u16 (x:Int)))):=Y.out.IZ (by rw [<-t.out];exact qx _) _;clear I' R m o C hy M';go_wp2_with fail;refine xk ?_;exact⟨i+1,xb,uK,X',U',N9⟩
   ·obtain rfl:i=n:=uK;have hge:=vv i i;have HOF:Hid (wr.ownsRow W 25 1 (.slice f i i) i ((Ka b a i c).map LV)):=by
     have h:=m.out;unfold uz at h;rw [xO,List.replicate_zero,jx] at h;rw [Hid,<-t.out];exact h
    have HRF:Hid (Rd wr d A N cap b (c+P)):=by rw [Hid,iL.out];exact o.out
    clear m o;go_wp2;go_ret2;exact⟨uK,_,_,rfl,HOF,HRF,C⟩
def Yj (r:Rec):Prop:=r.time<18446744073709551616/\r.level<256/\r.src.length<=100000000/\r.txt.length<=100000000
theorem DX (s:qn):(UQ s).length<=s.length+10:=by
 unfold UQ;rw [qK];have:=(jn s).2;omega
theorem F9 (p':Bool) (r:Rec) (w:World) (h:Yj r):
  Calls prog 52 #[p', .agg #[.int .u64 (r.time:Int), .int .u8 (r.level:Int), .string ⟨r.src.toArray⟩, .string ⟨r.txt.toArray⟩]] w (jQ 5 w (Dn p' r).length ((Dn p' r).map B8)):=by
 obtain⟨i0,hi,z',D',G'⟩:=xt QB;obtain⟨S',hlv,hsl,htl⟩:=h;have R:=λW=>qj (Yd r.src W uK);have S:=λW=>qj (Yd r.txt W uK);have KN:=λW=>qj (vW _ W S');have Z':=DX r.src;have ht1:=DX r.txt;have Y':=(jn r.time).2;obtain⟨H,T⟩:=j1 (Dn p' r);rw [<-T];unfold Dn at T;unfold STR at R S;unfold jQ at R S KN;have O':((UInt8.ofNat r.level).toNat:Int)=(r.level:Int):=by rw [zS];omega
 generalize (⟨r.src.toArray⟩:ByteArray)=J,(⟨r.txt.toArray⟩:ByteArray)=S2,UQ r.src=u,UQ r.txt=I,xv r.time=l,hy:UInt8.ofNat r.level=y at*;have X':Hid ([B8 y]=[.int .u8 (r.level:Int)]):=by rw [Hid,<-O'];rfl
 generalize r.time=O,r.level=m at*;have s:Hid (Blk (w.alloc (.cells #[.int .u64 (O:Int), .int .u8 (m:Int), .string J, .string S2] 45)) w 45 #[.int .u64 (O:Int), .int .u8 (m:Int), .string J, .string S2]):=Blk.new _ _ _;have d':Hid (Below w w (w.alloc (.cells #[.int .u64 (O:Int), .int .u8 (m:Int), .string J, .string S2] 45))):=z8 _;clear O';cases p'
 focus
  have I':Hid (H=[]++u++I):=by rw [Hid,T];rfl
  clear T KN Y'
 rotate_left
 focus
  have I':Hid (H=l++[y]++u++I):=by rw [Hid,T];simp
  clear T
 rotate_left
 all_goals
  go_in;go_wp2_with fail;generalize w.alloc (.cells #[.int .u64 (O:Int), .int .u8 (m:Int), .string J, .string S2] 45)=c at*
 ·have V:=qj s.lt;have A:=s.cell 2;have k3:=s.cell 3;simp only [qR,yN,qt] at A k3;refine zv 10 (λW=>W.cell? ⟨w,2,none⟩=some (.string J)/\W.cell? ⟨w,3,none⟩=some (.string S2)) AL ⟨A,k3⟩ (λd=> ?_);refine zq [0,1,2,4,5] (a':= ?_) ?_;refine carried 3 rfl AL SQ (λK a=> ?_);go_simp
  (go_at_call 84;((with_reducible refine((R _).out).mono ?_);rintro e g ⟨o,c1,rfl,b⟩);have n: ∀{i:Nat} {v:Value},c.cell? ⟨w,i,none⟩=some v->g.cell? ⟨w,i,none⟩=some v:=λ{i v} k=>(b.2.cell (p:=⟨w,i,none⟩) V.out).trans k)
  refine a _ _ (⟨n A,n k3⟩) (λd=>xg ?_);clear a K;refine carried 6 rfl AL SQ (λK a=> ?_);go_simp
  (go_at_call 84;((with_reducible refine((S _).out).mono ?_);rintro e j ⟨A2,c2,rfl,f⟩);have q:=qB V.out b.2.size;have x: ∀{i:Nat} {v:Value},g.cell? ⟨w,i,none⟩=some v->j.cell? ⟨w,i,none⟩=some v:=λ{i v} k=>(f.2.cell (p:=⟨w,i,none⟩) q).trans k)
  refine a _ _ (⟨x (n A),x (n k3)⟩) (λd=>xg ?_);clear a K;have L:=d'.drew.trans (b.2.mono (show w.heap.size<=c.drew.heap.size from d'.size));have P:=qj (L.trans (f.2.mono L.size));have U:Reads j j 1 none 0 (([]:qn).map B8):=Reads.none_;have Z:=(b.reads.below f.2).more f.2.size;have F:=qj (Xe j _ o A2 0 u I 0 c1 c2 _ u I U Z f.reads uK);rw [<-I'.out] at F;unfold jQ at F;have E:=qj (P.alloc P.size (.cells #[zn, .slice o u c1, .slice A2 I c2] 30));refine carried 7 rfl AL SQ (λK a=> ?_);go_simp;skip;refine a _ _ (⟨(((qZ _ j).alloc (qx _) _).cell (p:=⟨w,2,none⟩) (qB q f.2.size)).trans (x (n A)),(((qZ _ j).alloc (qx _) _).cell (p:=⟨w,3,none⟩) (qB q f.2.size)).trans (x (n k3))⟩) (λd=>xg ?_);clear a K;refine vf 8 F ?_;rintro e w4 ⟨A4,c4,rfl,z⟩;refine⟨_,rfl,(⟨(z.2.cell (p:=⟨w,2,none⟩) (qB q (qv f.2.size s8))).trans d.1,(z.2.cell (p:=⟨w,3,none⟩) (qB q (qv f.2.size s8))).trans d.2⟩),λd=> ?_⟩;refine zq [9] (a':= ?_) ?_;refine zV AL ?_ _;have HF:Hid (yG w w4 5 A4 H c4 (H.map B8)):=⟨qi z.1 E.size,E.trans (z.2.mono E.size)⟩;clear L U Z z b f n x q d R S;go_wp2;go_ret;exact⟨A4,c4,rfl,HF⟩
 ·have B:=qj s.lt;have G:=s.cell 0;have D:=s.cell 1;simp only [qR,yN,qt] at G D;have Q':l.length+1<=maxLen:=SJ;have N9:(l.length+1)*1<=140737488355328:=uK;refine zv 8 (λW=>W.cell? w.heap.size=some (.int .u64 (O:Int))/\W.cell? ⟨w,1,none⟩=some (.int .u8 (m:Int))) AL ⟨G,D⟩ (λd=> ?_);refine zq [0,1,3,4] (a':= ?_) ?_;refine dV 2 5 rfl rfl AL SQ SQ (λK a=> ?_) (λK a=> ?_);go_simp
  (go_at_call 31;((with_reducible refine((KN _).out).mono ?_);rintro e g ⟨o,c1,rfl,b⟩))
  have N:g.ownsRow c 5 1 (.slice o l c1) l (l.map B8):=b.1;have C: ∀{i:Nat} {v:Value},c.cell? ⟨w,i,none⟩=some v->g.cell? ⟨w,i,none⟩=some v:=λ{i v} k=>(b.2.cell (p:=⟨w,i,none⟩) B).trans k;refine a _ _ ⟨C G,C D⟩ (λd=>xg ?_);clear a K;refine carried 5 rfl AL SQ (λK a=> ?_);go_simp;skip;refine a _ _ (⟨(((qZ _ g).alloc (qx _) _).cell (p:= w.heap.size) (qB B b.2.size)).trans (C G),(((qZ _ g).alloc (qx _) _).cell (p:=⟨w,1,none⟩) (qB B b.2.size)).trans (C D)⟩) (λd=>xg ?_);clear a K;refine QY 6 rfl AL (λK a=> ?_)
  (refine jm _ rfl (.tmp 9) (.tmp 12) 30 rfl c 5 i0 (.int .u8 0) 1 1 qu hi z' D' G' rfl uK o l c1 _ rfl (N.alloc _) (g.heap.size+1) g 1 1 [.int .u8 (m:Int)] rfl (zU g _ _) (one_one rfl) Q' N9 (qv b.2.size s8) ?_;intro Y c5 t iL m' J';have M:Below c c t:=zG ((Yt b.2).alloc (Yt b.2).size _) m' (N.alloc _) (qv b.2.size s8);have Q: ∀{i:Nat} {v:Value},c.cell? ⟨w,i,none⟩=some v->t.cell? ⟨w,i,none⟩=some v:=λ{i v} k=>(M.cell (p:=⟨w,i,none⟩) B).trans k)
  refine a _ _ (⟨Q G,Q D⟩) (λd=>xg ?_);clear a K;refine zq [7] (a':= ?_) ?_;refine zV AL ?_ _;have N6:=qj iL;have u':=qj M;clear iL M Q m' J' N C b d;rotate_left;go_simp;have X:Below c c (c.drew.alloc (.cells #[.int .u8 (m:Int)] 5)):=((qZ _ c).drew).alloc (qx _) _;have j0: ∀{i:Nat} {v:Value},c.cell? ⟨w,i,none⟩=some v->(c.drew.alloc (.cells #[.int .u8 (m:Int)] 5)).cell? ⟨w,i,none⟩=some v:=λ{i v} k=>(X.cell (p:=⟨w,i,none⟩) B).trans k;refine a _ _ ⟨j0 G,j0 D⟩ (λd=>xg ?_);clear a K;refine carried 2 rfl AL SQ (λK a=> ?_);go_simp
  (go_at_call 31;((with_reducible refine((KN _).out).mono ?_);rintro e g ⟨o,c1,rfl,b⟩);have N:=qi b.1 X.size;have N':Reads g (c.heap.size+1) 1 c 1 [.int .u8 (m:Int)]:=(zU c.drew _ _).below (b.2.mono s8);have C: ∀{i:Nat} {v:Value},(c.drew.alloc (.cells #[.int .u8 (m:Int)] 5)).cell? ⟨w,i,none⟩=some v->g.cell? ⟨w,i,none⟩=some v:=λ{i v} k=>(b.2.cell (p:=⟨w,i,none⟩) (qB B.out X.size)).trans k)
  refine a _ _ (⟨C (j0 G),C (j0 D)⟩) (λd=>xg ?_);clear a K;refine QY 6 rfl AL (λK a=> ?_)
  (refine jm _ rfl (.tmp 9) (.tmp 12) 30 rfl c 5 i0 (.int .u8 0) 1 1 qu hi z' D' G' rfl uK o l c1 _ rfl N (c.heap.size+1) c 1 1 [.int .u8 (m:Int)] rfl N' (one_one rfl) Q' N9 (qv s8 b.2.size) ?_;intro Y c5 t iL m' J';have M:=zG (X.trans (b.2.mono s8)) m' N (qv s8 b.2.size);have Q: ∀{i:Nat} {v:Value},c.cell? ⟨w,i,none⟩=some v->t.cell? ⟨w,i,none⟩=some v:=λ{i v} k=>(M.cell (p:=⟨w,i,none⟩) B).trans k)
  refine a _ _ (⟨Q G,Q D⟩) (λd=>xg ?_);clear a K;refine zq [7] (a':= ?_) ?_;refine zV AL ?_ _;have N6:=qj iL;have u':=qj M;clear iL M Q m' J' N N' C j0 b d X;rotate_left;all_goals
   have OX:=qj (s.below u' B.out);have P':=qj (d'.trans (u'.mono d'.size));have U':Hid (Reads t t 1 Y (l.length+1) ((l++[y]).map B8)):=by
    have:=Reads.zY N6.out;rw [<-X'.out] at this;rw [Hid,qg];exact this
   clear G D;have s:=OX;generalize M':l.length+1=nn at*;replace M':=qj M';have hnb:nn<=20:=by have:=M'.out;omega
   go_wp2_with fail;have V:=qj s.lt;have A:=s.cell 2;have k3:=s.cell 3;simp only [qR,yN,qt] at A k3;refine zv 10 (λW=>W.cell? ⟨w,2,none⟩=some (.string J)/\W.cell? ⟨w,3,none⟩=some (.string S2)) AL ⟨A,k3⟩ (λd=> ?_);refine zq [0,1,2,4,5] (a':= ?_) ?_;refine carried 3 rfl AL SQ (λK a=> ?_);go_simp
   (go_at_call 84;((with_reducible refine((R _).out).mono ?_);rintro e g ⟨o,c1,rfl,b⟩);have n: ∀{i:Nat} {v:Value},t.cell? ⟨w,i,none⟩=some v->g.cell? ⟨w,i,none⟩=some v:=λ{i v} k=>(b.2.cell (p:=⟨w,i,none⟩) V.out).trans k)
   refine a _ _ (⟨n A,n k3⟩) (λd=>xg ?_);clear a K;refine carried 6 rfl AL SQ (λK a=> ?_);go_simp
   (go_at_call 84;((with_reducible refine((S _).out).mono ?_);rintro e j ⟨A2,c2,rfl,f⟩);have q:=qB V.out b.2.size;have x: ∀{i:Nat} {v:Value},g.cell? ⟨w,i,none⟩=some v->j.cell? ⟨w,i,none⟩=some v:=λ{i v} k=>(f.2.cell (p:=⟨w,i,none⟩) q).trans k)
   refine a _ _ (⟨x (n A),x (n k3)⟩) (λd=>xg ?_);clear a K;have L:=P'.drew.trans (b.2.mono (show w.heap.size<=t.drew.heap.size from P'.size));have P:=qj (L.trans (f.2.mono L.size));have U:=((((U'.drew.below b.2).more b.2.size).below f.2).more f.2.size);have Z:=(b.reads.below f.2).more f.2.size;have F:=qj (Xe j _ o A2 _ u I c5 c1 c2 _ u I U Z f.reads uK);rw [<-I'.out] at F;unfold jQ at F;have E:=qj (P.alloc P.size (.cells #[.slice Y nn c5, .slice o u c1, .slice A2 I c2] 30));refine carried 7 rfl AL SQ (λK a=> ?_);go_simp;skip;refine a _ _ (⟨(((qZ _ j).alloc (qx _) _).cell (p:=⟨w,2,none⟩) (qB q f.2.size)).trans (x (n A)),(((qZ _ j).alloc (qx _) _).cell (p:=⟨w,3,none⟩) (qB q f.2.size)).trans (x (n k3))⟩) (λd=>xg ?_);clear a K;refine vf 8 F ?_;rintro e w4 ⟨A4,c4,rfl,z⟩;refine⟨_,rfl,(⟨(z.2.cell (p:=⟨w,2,none⟩) (qB q (qv f.2.size s8))).trans d.1,(z.2.cell (p:=⟨w,3,none⟩) (qB q (qv f.2.size s8))).trans d.2⟩),λd=> ?_⟩;refine zq [9] (a':= ?_) ?_;refine zV AL ?_ _;have HF:Hid (yG w w4 5 A4 H c4 (H.map B8)):=⟨qi z.1 E.size,E.trans (z.2.mono E.size)⟩;clear L U Z z b f n x q d R S;go_wp2;go_ret;exact⟨A4,c4,rfl,HF⟩
theorem XY (p:Nat) (h:p<=1000000000):IntKind.i64.wrap (p:Int)=(p:Int):=SX
theorem Bb (W:World) (base g a x:Nat) (t:TypeId) (c:List Nat) (h:PtI W base g t a c) (hx:x<=20000) (I:a<=14) (hn:c.length<=20000):
  Calls prog 131 #[.pointer g,x] W (ME W base g t a (c++[x])):=by
 obtain⟨O,ch,Y,G,p⟩:=h;obtain⟨i0,hi,C,s,D⟩:=qA XM;obtain⟨D',B,A,E,w⟩:=qA BH;replace hi:=qj hi;replace C:=qj C;replace s:=qj s;replace D:=qj D;replace B:=qj B;replace A:=qj A;replace E:=qj E;replace w:=qj w;have z:2^a<=2^14:=zZ uK I;have Q:1<=2^a:=Nat.one_le_two_pow;have hq:=Pd x a;have OX:x/2^a<=x:=xr _ _;have M':x%2^a<2^a:=xC _ Q;have I':=Mr x a uK I;have N6:IntKind.i64.wrap ((2:Int)^a)=((2^a:Nat):Int):=by
  rw [show((2:Int)^a)=((2^a:Nat):Int) by rw [j6];rfl];exact XY _ (qv z FV)
 have R:(((2^a:Nat):Int)-1)=((2^a-1:Nat):Int):=uK;have T:Hid (hiL a (c++[x])=hiL a c++[x/2^a]/\loL a (c++[x])=loL a c++[x%2^a]):=⟨Ot _ _ _,OT _ _ _⟩;have hL:Hid ((c++[x]).length=c.length+1):=by rw [Hid,qK];rfl
 generalize z':c++[x]=N' at*
 clear z';have w1:IntKind.u16.wrap ((x%2^a:Nat):Int)=((x%2^a:Nat):Int):=by rw [IntKind.wrap_u16];omega
 obtain⟨f,r⟩: ∃f,f=2^a-1:=⟨_,rfl⟩;rw [<-r] at I' R;generalize x/2^a=N at*
 generalize x%2^a=M at*
 generalize 2^a=pw at*
 have y:f<=16384:=by rw [r];exact qv (Qd _ _) z
 have N9:IntKind.i64.wrap ((pw:Int)-1)=(f:Int):=by rw [R];exact XY _ (qv y FV)
 have O':=XY f (qv y FV);generalize c.length=n at*
 generalize hiL a c=hs at*
 generalize loL a c=ls at*
 have L:n+1<=maxLen:=SJ;have G':(n+1)*8<=140737488355328:=uK;have J':(n+1)*2<=140737488355328:=uK;have c0:=p.c0;have c1:=p.c1;have U:Hid (Ovr base [g] W W.drew):=(Ovr.refl _ _ _).fresh (((Dr.refl W).drewN 1).below _);have u:=qj p.drew;clear p r y z Q;go_enter func131,ntmps131
 go_wp2_with fail;refine zv 13 (λi=>i.cell? g=some (a:Value)/\i.cell? ⟨g,1,none⟩=some (.slice O n ch)) AL ⟨c0,c1⟩ (λe=> ?_)
 generalize W.drew=l at*
 refine zq [0,1,2,3,4,5] (a':= ?_) ?_;refine zq [6,7,8,9,10] (a':= ?_) ?_;refine carried 11 rfl AL SQ (λK b=> ?_);go_simp
 (have d:=u.fresh ((qZ _ l).alloc (qx _) (.cells #[N] 3)))
 refine b _ _ (⟨d.c0,d.c1⟩) (λe=> ?_);clear b K;try simp only [Act.put,qQ,qY,qV]
 refine QY 12 rfl AL (λK b=> ?_)
 (refine jm _ rfl (.tmp 8) (.tmp 15) 62 rfl base 3 i0 () 1 8 jj hi C s D rfl uK O n ch _ rfl d.oh (l.heap.size+1) l 1 1 [.int .i64 (N:Int)] rfl (zU l _ _) (one_one rfl) L G' d.bs ?_;intro A3 H w3 S V _;obtain⟨⟨j,k,F⟩,h3,o3⟩:=u.out.WW _ V S)
 refine b _ _ (⟨j,k⟩) (λe=> ?_);clear b K;try simp only [Act.put,qQ,qY,qV]
 refine j4 13 rfl AL FV SQ (λK b=> ?_);go_simp;refine b _ _ ?_;clear b K;try simp only [Act.put,qQ,qY,qV]
 refine j4 14 rfl AL FV SQ (λK b=> ?_);go_simp;refine b _ _ ?_;clear b K;try simp only [Act.put,qQ,qY,qV]
 refine j4 15 rfl AL FV SQ (λK b=> ?_);go_simp;refine b _ _ ?_;clear b K;try simp only [Act.put,qQ,qY,qV]
 refine zV AL ?_ _;have o:=qj h3;have m':=qj (U.trans o3);clear d S V h3 o3 j k F e u U c0 c1;generalize w3.setCell ⟨g,1,none⟩ (.slice A3 (n+1) H)=q at*
 have c0:=o.c0;have c2:=o.c2;have Z:Hid (Ovr base [g] W q.drew):=m'.fresh (((Dr.refl q).drewN 1).below _);have v:=qj o.drew;clear o m'
 go_wp2_with fail;refine zv 16 (λi=>i.cell? g=some (a:Value)/\i.cell? ⟨g,2,none⟩=some (.slice Y n G)) AL ⟨c0,c2⟩ (λe=> ?_)
 generalize q.drew=m at*
 refine zq [0,1,2,3,4,5] (a':= ?_) ?_;refine zq [6,7,8,9,10,11] (a':= ?_) ?_;refine zq [12,13] (a':= ?_) ?_;refine carried 14 rfl AL SQ (λK b=> ?_);go_simp
 (have d:=v.fresh ((qZ _ m).alloc (qx _) (.cells #[.int .u16 (M:Int)] 25)))
 refine b _ _ (⟨d.c0,d.c2⟩) (λe=> ?_);clear b K;try simp only [Act.put,qQ,qY,qV]
 refine QY 15 rfl AL (λK b=> ?_)
 (refine jm _ rfl (.tmp 23) (.tmp 33) 212 rfl base 25 D' (.int .u16 0) 1 2 underlying212 B A E w rfl uK Y n G _ rfl d.ol (m.heap.size+1) m 1 1 [.int .u16 (M:Int)] rfl (zU m _ _) (one_one rfl) L J' d.bs ?_;intro J P w6 d' iL _;obtain⟨⟨j,k,F⟩,h6,X⟩:=v.lU _ iL d')
 refine b _ _ (⟨j,k⟩) (λe=> ?_);clear b K;try simp only [Act.put,qQ,qY,qV]
 refine j4 16 rfl AL FV SQ (λK b=> ?_);go_simp;refine b _ _ ?_;clear b K;try simp only [Act.put,qQ,qY,qV]
 refine j4 17 rfl AL FV SQ (λK b=> ?_);go_simp;refine b _ _ ?_;clear b K;try simp only [Act.put,qQ,qY,qV]
 refine j4 18 rfl AL FV SQ (λK b=> ?_);go_simp;refine b _ _ ?_;clear b K;try simp only [Act.put,qQ,qY,qV]
 refine zV AL ?_ _;have u':=qj h6;have p':=qj (Z.trans X);clear d d' iL h6 X j k F e v Z c0 c2;generalize w6.setCell ⟨g,2,none⟩ (.slice J (n+1) P)=w7 at*
 go_wp2_with fail
 go_end0
 refine⟨rfl,⟨A3,H,J,P, ?_⟩,p'.out⟩;rw [T.out.1,T.out.2,hL.out];exact u'.out
end Go.Proofs.YtfnlfpcfkbdcmaaGreatDoor
