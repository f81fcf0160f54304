import Derived.Test.YtfnlfpcfkbdcmaaGreatDoorL18
import Derived.Test.YtfnlfpcfkbdcmaaGreatDoorL19
import Derived.Test.YtfnlfpcfkbdcmaaGreatDoorL20
set_option linter.unusedSimpArgs false
set_option linter.unusedVariables false
set_option maxRecDepth 100000
set_option maxHeartbeats 0
open Go.Proofs.Tryz
namespace Go.Proofs.YtfnlfpcfkbdcmaaGreatDoor
open Go.RowKit
variable {A Ah At a c:q'}{N base ch ct d g i nh nt:Nat}{W W' W4:World}{b s:qn}{hs:List Value}{l:List Nat}{out:List qn}{size:Int}{v:Value}
theorem gE (b:qn) (m:Nat) (c:Cu):(xa b m c).1.length<=m:=by
 unfold xa;dsimp only;split
 ·exact qp _
 ·have:=Yi (b.drop c.at_) m uK;rw [qh];omega
theorem CM (W:World) (g:Nat) (A:Option Addr) (N cap:Nat) (b a:List UInt8) (first:Bool) (c:Cu) (h:Cur W g A N cap b c) (hw:a.length<=1000):
  Calls prog 255 #[.pointer g,STR a, .bool first] W (jS W g A N cap b (STR (JE b a first c).1) (JE b a first c).2):=by
 obtain⟨Q,I⟩: ∃Q:ByteArray,Q=⟨a.toArray⟩:=⟨_,rfl⟩;have za:Q.size=a.length:=by rw [I];simp [ByteArray.size]
 rw [show STR a= .string Q by rw [I];rfl]
 replace I:=qj I;cases first with
 |true=>
 rw [tY];obtain⟨G,J⟩: ∃G,G=V8 a true 0 (xa b 25 c):=⟨_,rfl⟩;rw [<-J];obtain⟨n,I'⟩: ∃n,n=0:=⟨0,rfl⟩;obtain⟨c1,L⟩: ∃c1,c1=c:=⟨_,rfl⟩;obtain⟨m,d'⟩: ∃m,m=W:=⟨_,rfl⟩;have p:Hid (V8 a true n (xa b 25 c1)=G):=by rw [Hid,J,I',L]
 have V:Hid (Cur m g A N cap b c1):=by rw [Hid,d',L];exact h
 have R:Hid (qE [g] W m):=by rw [Hid,d'];exact qE.refl _ _
 have Z:=qj (gE b 25 c1);have O:Hid (∀m,Cur m g A N cap b c1->_):=λm h=>pB m g A N cap b c1 25 h uK;have hn:n<=a.length:=uK;have OX:(n:Int)=0:=uK;go_enter func255,ntmps255
 go_wp2_with fail;rw [<-d'];clear J h L;generalize X:xa b 25 c1=tc at*
 obtain⟨r,c2⟩:=tc;replace X:=qj X;have B:=qj (O.out m V);unfold jS STR at B;dsimp only at B;refine B.mono ?_;rintro e U ⟨rfl,F,S⟩;have M:=qj F;have z:=qj (R.then S);have i:=qj (jg U g A N cap b c2 F);have j:=qj (yB U g A N cap b c2 2 F);clear O B F S V R;by_cases w:c2.err=0
 ·have hF:=p.out
  unfold V8 at hF;dsimp only at hF;rw [qJ (by simpa using w)] at hF
  rw [w] at i;have p':=Z.out;dsimp only at p';have m': ∀W,(Op.stringOp .add ByteArray.empty (ByteArray.mk r.toArray)).run prog W= .ok (.string ⟨(a.take n++r).toArray⟩) W:=λW=>by rw [I'];exact pC [] r s8 uK W
  obtain⟨s,D⟩: ∃s,s=a.take n++r:=⟨_,rfl⟩;rw [<-D] at hF m';have d:=λW=>qj (pA a s W);have o:=λW=>qj (kV a s W uK (by rw [D,qK,qh];omega))
  have tr:(ByteArray.mk r.toArray).toList=r:=Ja r;unfold STR at d o;rw [<-I.out] at d o;generalize (ByteArray.mk (a.take n).toArray)=ST at*
  generalize (ByteArray.mk r.toArray)=SR at*
  generalize t:(ByteArray.mk s.toArray)=M' at*
  replace D:=qj D;replace t:=qj t;by_cases k:r=[]
  ·have e1:(r==([]:List UInt8))=true:=by simpa using k
   have f:Hid (G=(s,vP c2 2)):=by rw [Hid,<-hF,qk (.inl k)]
   clear hF p k d o
   go_wp2_with fail;refine i.mono ?_;rintro e w' ⟨rfl,rfl⟩
   go_wp2_with fail;refine j.mono ?_;rintro e K ⟨rfl,u,v⟩;have x:=qj u;have y:=qj (z.then v);clear i j u v
   go_wp2_with fail;go_ret;rw [f.out];unfold jS STR;rw [t.out];exact⟨rfl,x.out,y.out⟩
  ·have e1:(r==([]:List UInt8))=false:=by simpa using k
   by_cases C:dm a s=false
   focus
    have f:Hid (G=(s,vP c2 2)):=by rw [Hid,<-hF,qk (.inr (.inl C))]
    rw [C] at d;clear hF p k o
   rotate_left
   focus
    have iL:dm a s=true:=by simpa using C
    rw [iL] at d;have f:Hid (G=(s,c2)):=by rw [Hid,<-hF,qJ (by rintro(h|h|⟨h,_⟩);exact k h;exact C h;cases h)]
    clear hF p k j
   rotate_left
   all_goals
    go_wp2_with fail;refine i.mono ?_;rintro e w' ⟨rfl,rfl⟩
    go_wp2_with fail;refine(d _).out.mono ?_;rintro e w' ⟨rfl,rfl⟩
    go_wp2_with fail
   ·refine j.mono ?_;rintro e K ⟨rfl,u,v⟩;have x:=qj u;have y:=qj (z.then v);clear i j d u v
    go_wp2_with fail;go_ret;rw [f.out];unfold jS STR;rw [t.out];exact⟨rfl,x.out,y.out⟩
   ·go_ret;rw [f.out];unfold jS STR;rw [t.out];exact⟨rfl,M.out,z.out⟩
 ·have f:Hid (G=([],c2)):=by rw [Hid,<-p.out];unfold V8;rw [qk (by simpa using w)]
  have N9:(c2.err==0)=false:=by simpa using w
  clear p j;generalize T:c2.err=E at*
  replace T:=qj T;clear w
  go_wp2_with fail;refine i.mono ?_;rintro e w' ⟨rfl,rfl⟩
  go_wp2_with fail;go_ret;rw [f.out];exact⟨rfl,M.out,z.out⟩
 |false=>
 rw [eH];have Y:=qj (yK W g A N cap b c (a.length:Nat) h uK);have z':=vX b (a.length:Nat) c uK;generalize jU b (a.length:Nat) c=ic at*
 obtain⟨n,c1⟩:=ic;dsimp only at z' Y⊢;obtain⟨G,J⟩: ∃G,G=V8 a false n (xa b 25 c1):=⟨_,rfl⟩;rw [<-J];have p:Hid (V8 a false n (xa b 25 c1)=G):=J.symm;have Z:=qj (gE b 25 c1);have O:Hid (∀m,Cur m g A N cap b c1->_):=λm h=>pB m g A N cap b c1 25 h uK;have hn:n<=a.length:=uK;unfold jS at Y;clear J z' h;go_enter func255,ntmps255
 go_wp2_with fail;refine Y.mono ?_;rintro e m ⟨rfl,L,D'⟩;have V:=qj L;have R:=qj D';clear Y L D'
 go_wp2_with fail;generalize X:xa b 25 c1=tc at*
 obtain⟨r,c2⟩:=tc;replace X:=qj X;have B:=qj (O.out m V);unfold jS STR at B;dsimp only at B;refine B.mono ?_;rintro e U ⟨rfl,F,S⟩;have M:=qj F;have z:=qj (R.then S);have i:=qj (jg U g A N cap b c2 F);have j:=qj (yB U g A N cap b c2 2 F);clear O B F S V R;by_cases w:c2.err=0
 ·have hF:=p.out
  unfold V8 at hF;dsimp only at hF;rw [qJ (by simpa using w)] at hF
  rw [w] at i;have P':=λW=>tu Q a I n hn W;have p':=Z.out;dsimp only at p';have m':=λW=>pC (P:=prog) (a.take n) r (by rw [qh];omega) uK W
  obtain⟨s,D⟩: ∃s,s=a.take n++r:=⟨_,rfl⟩;rw [<-D] at hF m';have d:=λW=>qj (pA a s W);have o:=λW=>qj (kV a s W uK (by rw [D,qK,qh];omega))
  have tr:(ByteArray.mk r.toArray).toList=r:=Ja r;unfold STR at d o;rw [<-I.out] at d o;generalize (ByteArray.mk (a.take n).toArray)=ST at*
  generalize (ByteArray.mk r.toArray)=SR at*
  generalize t:(ByteArray.mk s.toArray)=M' at*
  replace D:=qj D;replace t:=qj t;by_cases k:r=[]
  ·have e1:(r==([]:List UInt8))=true:=by simpa using k
   have f:Hid (G=(s,vP c2 2)):=by rw [Hid,<-hF,qk (.inl k)]
   clear hF p k d o
   go_wp2_with fail;refine i.mono ?_;rintro e w' ⟨rfl,rfl⟩
   go_wp2_with fail;refine j.mono ?_;rintro e K ⟨rfl,u,v⟩;have x:=qj u;have y:=qj (z.then v);clear i j u v
   go_wp2_with fail;go_ret;rw [f.out];unfold jS STR;rw [t.out];exact⟨rfl,x.out,y.out⟩
  ·have e1:(r==([]:List UInt8))=false:=by simpa using k
   by_cases C:dm a s=false
   focus
    have f:Hid (G=(s,vP c2 2)):=by rw [Hid,<-hF,qk (.inr (.inl C))]
    rw [C] at d;clear hF p k o
   rotate_left
   focus
    have iL:dm a s=true:=by simpa using C
    rw [iL] at d;by_cases hq:kB a s=n
    focus
     rw [hq] at o
     have f:Hid (G=(s,c2)):=by rw [Hid,<-hF,qJ (by rintro(h|h|⟨_,h⟩);exact k h;exact C h;exact h hq)]
     clear hF p k j
    rotate_left
    focus
     have f:Hid (G=(s,vP c2 2)):=by rw [Hid,<-hF,qk (.inr (.inr ⟨rfl,hq⟩))]
     have O':((kB a s:Int)==(n:Int))=false:=SZ;have N': ¬(kB a s:Int)=(n:Int):=uK;clear hF p k j;generalize kB a s=q at*
    rotate_left
   rotate_left 2
   all_goals
    go_wp2_with fail;refine i.mono ?_;rintro e w' ⟨rfl,rfl⟩
    go_wp2_with fail;refine(d _).out.mono ?_;rintro e w' ⟨rfl,rfl⟩
    go_wp2_with fail
   ·refine j.mono ?_;rintro e K ⟨rfl,u,v⟩;have x:=qj u;have y:=qj (z.then v);clear i j d u v
    go_wp2_with fail;go_ret;rw [f.out];unfold jS STR;rw [t.out];exact⟨rfl,x.out,y.out⟩
   rotate_left
   rotate_left
   all_goals
    refine(o _).out.mono ?_;rintro e K ⟨rfl,H⟩;have x:=qj (M.fresh (H.below _));have y:=qj (z.then (Zp (l:=[g]) H))
   ·clear o H
    go_wp2_with fail;go_ret;rw [f.out];unfold jS STR;rw [t.out];exact⟨rfl,x.out,y.out⟩
   ·have j:=qj (yB K g A N cap b c2 2 x);clear o H i
    go_wp2_with fail;refine j.mono ?_;rintro e w4 ⟨rfl,G',u'⟩;have J':=qj G';have N6:=qj (y.then u');clear j d G' u'
    go_wp2_with fail;go_ret;rw [f.out];unfold jS STR;rw [t.out];exact⟨rfl,J'.out,N6.out⟩
 ·have f:Hid (G=([],c2)):=by rw [Hid,<-p.out];unfold V8;rw [qk (by simpa using w)]
  have N9:(c2.err==0)=false:=by simpa using w
  clear p j;generalize T:c2.err=E at*
  replace T:=qj T;clear w
  go_wp2_with fail;refine i.mono ?_;rintro e w' ⟨rfl,rfl⟩
  go_wp2_with fail;go_ret;rw [f.out];exact⟨rfl,M.out,z.out⟩
structure Dt (W:World) (base g:Nat) (size:Int) (At:q') (nt ct:Nat) (out:List qn) (Ah:q') (nh ch:Nat) (hs:List Value):Prop where
 blk:Blk W g 343 #[.slice At nt ct,size, .slice Ah nh ch]
 ot:W.ownsRow base 9 1 (.slice At nt ct) nt (out.map STR)
 oh:W.ownsRow base 9 1 (.slice Ah nh ch) nh hs
 ap: ∀k∈fpS At,k∉fpS Ah
 bs:base<=W.heap.size
 gb:base<=g
theorem Dt.jZ (h:Dt W base g size At nt ct out Ah nh ch hs) (a:qE l W W') (b:g∉l) (h1: ∀k∈fpS At,k∉l) (h2: ∀k∈fpS Ah,k∉l):Dt W' base g size At nt ct out Ah nh ch hs:=
 ⟨a.blk h.blk b,a.own h.ot h1,a.own h.oh h2,h.ap,qv h.bs a.size,h.gb⟩
theorem Dt.fresh (h:Dt W base g size At nt ct out Ah nh ch hs) (a:Below W W W'):Dt W' base g size At nt ct out Ah nh ch hs:=h.jZ (qE.jq (l:=[]) a) s8 s8 s8
theorem Dt.cur {cap:Nat} {c:Cu} (h:Dt W base g size At nt ct out Ah nh ch hs) (a:Cur W i A N cap b c) (j:qE [i] W W'):Dt W' base g size At nt ct out Ah nh ch hs:=
 h.jZ j (λe=>h.blk.ne_ a.blk FV (qy.1 e)) (λk d f=>qT h.ot a.blk FV k d (qy.1 f)) (λk d f=>qT h.oh a.blk FV k d (qy.1 f))
theorem Dt.lD (h:Dt W base g size At nt ct out Ah nh ch hs) (o:Obj) (m:(W.alloc o).grownBy W4 (At.map (·.block))) (j:W4.ownsRow base 9 1 (.slice c (nt+1) d) (nt+1) (out.map STR++[STR s])) (n:JU (W.alloc o) At c):
  Dt (W4.setCell g (.slice c (nt+1) d)) base g size c (nt+1) d (out++[s]) Ah nh ch hs/\Below base W (W4.setCell g (.slice c (nt+1) d)):=by
 have h1:=h.fresh ((qZ _ W).alloc (qx _) o);have e:=(qE.refl _ _).grown m (λk a=> .inl a);have i:=e.blk h1.blk (λa=>qT h1.ot h1.blk FV g a rfl);have l:=e.own h1.oh (λk a b=>h1.ap k b a);have f:qE [g] W4 (W4.setCell g (.slice c (nt+1) d)):=(qE.refl _ _).zh (p:= g) (qy.2 rfl) _;refine⟨⟨?_, ?_, ?_, ?_, ?_,h.gb⟩, ?_⟩
 ·have:=i.zh 0 (.slice c (nt+1) d);simpa using this
 ·rw [qg];exact f.own j (λk a b=>qT j i FV k a (qy.1 b))
 ·exact f.own l (λk a b=>qT l i FV k a (qy.1 b))
 ·intro k a b;rcases Y9 n k a with h2|h2
  ·exact h.ap k h2 b
  ·have:=(zj h1.oh k b).2;omega
 ·rw [zO];exact qv h1.bs e.size
 ·have h0:=(qZ _ W).alloc h.bs o;exact(h0.trans (e.below (λk a=>(zj h1.ot k a).1) h1.bs)).trans (f.below (λk a=>by rw [qy.1 a];exact h.gb) (qv h1.bs e.size))
theorem Dt.lG (h:Dt W base g size At nt ct out Ah nh ch hs) (o:Obj) (m:(W.alloc o).grownBy W4 (Ah.map (·.block))) (j:W4.ownsRow base 9 1 (.slice c (nh+1) d) (nh+1) (hs++[v])) (n:JU (W.alloc o) Ah c):
  Dt (W4.setCell ⟨g,2,none⟩ (.slice c (nh+1) d)) base g size At nt ct out c (nh+1) d (hs++[v])/\Below base W (W4.setCell ⟨g,2,none⟩ (.slice c (nh+1) d)):=by
 have h1:=h.fresh ((qZ _ W).alloc (qx _) o);have e:=(qE.refl _ _).grown m (λk a=> .inl a);have i:=e.blk h1.blk (λa=>qT h1.oh h1.blk FV g a rfl);have l:=e.own h1.ot (λk a b=>h1.ap k a b);have f:qE [g] W4 (W4.setCell ⟨g,2,none⟩ (.slice c (nh+1) d)):=(qE.refl _ _).zh (p:=⟨g,2,none⟩) (qy.2 rfl) _;refine⟨⟨?_, ?_, ?_, ?_, ?_,h.gb⟩, ?_⟩
 ·have:=i.zh 2 (.slice c (nh+1) d);simpa using this
 ·exact f.own l (λk a b=>qT l i FV k a (qy.1 b))
 ·exact f.own j (λk a b=>qT j i FV k a (qy.1 b))
 ·intro k a b;rcases Y9 n k b with h2|h2
  ·exact h.ap k a h2
  ·have:=(zj h1.ot k a).2;omega
 ·rw [zO];exact qv h1.bs e.size
 ·have h0:=(qZ _ W).alloc h.bs o;exact(h0.trans (e.below (λk a=>(zj h1.oh k a).1) h1.bs)).trans (f.below (λk a=>by rw [qy.1 a];exact h.gb) (qv h1.bs e.size))
theorem Dt.stepT {l cap:Nat} {c:Cu} (h:Dt W base g size At nt ct out Ah nh ch hs) (r:Cur W l A N cap b c) (o:Obj) {S:ByteArray} (v:ByteArray.mk s.toArray=S) (q:(W.alloc o).grownBy W4 (At.map (·.block))) (t:W4.ownsRow base 9 1 (.slice a (nt+1) i) (nt+1) (out.map STR++[.string S])) (w:JU (W.alloc o) At a):
  (W4.cell? g=some (.slice At nt ct)/\W4.frozen? g=false/\W4.cell? ⟨g,2,none⟩=some (.slice Ah nh ch)/\W4.frozen? ⟨g,2,none⟩=false)/\Dt (W4.setCell g (.slice a (nt+1) i)) base g size a (nt+1) i (out++[s]) Ah nh ch hs/\Below base W (W4.setCell g (.slice a (nt+1) i))/\Cur (W4.setCell g (.slice a (nt+1) i)) l A N cap b c:=by
 subst v;have h0:=(qZ _ W).alloc (qx _) o;have h1:=h.fresh h0;have q1:=r.fresh h0;have m:=(qE.refl _ _).grown q (λk f=> .inl f);have d:=m.blk h1.blk (λf=>qT h1.ot h1.blk FV g f rfl);have j:=q1.jZ m (λe=>qT h1.ot q1.blk FV l e rfl) (xz q1.own h1.ot FV);have n:=h.lD o q t w;refine⟨⟨by rw [d.cell 0];simp,d.frozen 0,by rw [d.cell 2];simp,d.frozen 2⟩,n.1,n.2,j.jZ ((qE.refl [g] W4).zh (qy.2 rfl) _) (λe=>j.blk.ne_ d FV (qy.1 e)) (λk f u=>qT j.own d FV k f (qy.1 u))⟩
theorem Dt.WW {l cap:Nat} {c:Cu} (h:Dt W base g size At nt ct out Ah nh ch hs) (r:Cur W l A N cap b c) (o:Obj) {f:Nat} (q:(W.alloc o).grownBy W4 (Ah.map (·.block))) (s:W4.ownsRow base 9 1 (.slice a (nh+1) f) (nh+1) (hs++[v])) (u:JU (W.alloc o) Ah a):
  (W4.cell? ⟨g,2,none⟩=some (.slice Ah nh ch)/\W4.frozen? ⟨g,2,none⟩=false)/\Dt (W4.setCell ⟨g,2,none⟩ (.slice a (nh+1) f)) base g size At nt ct out a (nh+1) f (hs++[v])/\Below base W (W4.setCell ⟨g,2,none⟩ (.slice a (nh+1) f))/\Cur (W4.setCell ⟨g,2,none⟩ (.slice a (nh+1) f)) l A N cap b c:=by
 have h0:=(qZ _ W).alloc (qx _) o;have h1:=h.fresh h0;have q1:=r.fresh h0;have m:=(qE.refl _ _).grown q (λk d=> .inl d);have i:=m.blk h1.blk (λd=>qT h1.oh h1.blk FV g d rfl);have j:=q1.jZ m (λe=>qT h1.oh q1.blk FV l e rfl) (xz q1.own h1.oh FV);have n:=h.lG o q s u;refine⟨⟨by rw [i.cell 2];simp,i.frozen 2⟩,n.1,n.2,j.jZ ((qE.refl [g] W4).zh (qy.2 rfl) _) (λe=>j.blk.ne_ i FV (qy.1 e)) (λk d t=>qT j.own i FV k d (qy.1 t))⟩
def DtI (W:World) (base g:Nat) (size:Int) (a:List qn) (b:Nat):Prop:= ∃At ct Ah ch hs,Dt W base g size At a ct a Ah b ch hs
theorem ue (b:qn) (n:Nat) (first:Bool) (c:Cu) (a:List qn):QV b (n+1) first c a=if(JE b (a.getLastD []) first c).2.err≠0 then((JE b (a.getLastD []) first c).2.err,a) else QV b n false (JE b (a.getLastD []) first c).2 (a++[(JE b (a.getLastD []) first c).1]):=rfl
def px (a:List qn):Prop:= ∀s∈a,s.length<=50
theorem Dp (b a:qn) (first:Bool) (c:Cu) (e:(JE b a first c).2.err=0):(JE b a first c).1.length<=25:=by
 have key: ∀n r,(V8 a first n r).2.err=0->(V8 a first n r).1.length<=25:=by
  intro n r h;unfold V8 at h⊢;split at h
  ·rename_i h1;rw [qk h1];exact qp _
  ·rename_i h1;rw [qJ h1];dsimp only at h⊢;split at h
   ·exact absurd h (dB FV)
   ·rename_i h2;have d:dm a (a.take n++r.1)=true:=by
     cases f:dm a (a.take n++r.1)
     ·exact absurd (.inr (.inl f)) h2
     ·rfl
    unfold dm at d;simp only [zR,zd] at d;exact d.2.1
 cases first
 ·exact key _ _ e
 ·exact key 0 _ e
theorem Uw (W:World) (base g B k nh c:Nat) (size:Int) (Ab:q') (N:Nat) (b:qn) (Z:List qn) (h:DtI W base g size Z nh) (hr:Reads W B 1 Ab N (b.map B8)) (hB:B<=W.heap.size) (hN:N<=1000000000) (hk:k<=100) (hol:Z.length<=2000000) (hnh:nh<=2000000) (hsh:px Z):
  Calls prog 231 #[.pointer g, .slice Ab N c,k] W λe W'=>e= .returned (.int .i64 (QV b k true ⟨0,0⟩ Z).1)/\(∃j,DtI W' base g size (QV b k true ⟨0,0⟩ Z).2 j/\j<=nh+1)/\Below base W W':=by
 obtain⟨i0,hi,d',iL,p'⟩:=xt XJ;have KN:=qj (Qk _ N c B b W hr hB hN);obtain⟨R,hR⟩:=j1 (QV b k true ⟨0,0⟩ Z);rw [<-hR];have HG0:Hid (QV b k (decide ((0:Nat)=0)) ⟨0,0⟩ Z=R):=hR.symm;have H:=qj h;have m':=qj hsh;have hbsW:base<=W.heap.size:=by obtain⟨_,_,_,_,_,hd⟩:=h;exact hd.bs
 clear h hr hR hsh;go_in;go_wp2_with fail;refine KN.mono ?_;rintro e w1 ⟨gc,A,cap,rfl,hc,hgc,hfA,U'⟩;have C:=qj hc;have u:Hid (DtI w1 base g size Z nh):=by
  obtain⟨At,ct,Ah,ch,hs,hd⟩:=H.out;exact⟨_,_,_,_,_,hd.fresh U'⟩
 have HB1:=qj (U'.mono hbsW);have N6:Hid (base<=gc):=qv hbsW hgc;clear hc hgc hfA U';go_wp2;go_loopw [15] (λv15 wr=> ∃(i f j:Nat) (J:Cu) (o:List qn),v15=(i:Value)/\i+f=k/\o.length<=Z.length+i/\j<=nh+(if i=0 then 0 else 1)/\Hid (px o)/\Hid (QV b f (decide (i=0)) J o=R)/\Hid (Cur wr gc A N cap b J)/\Hid (DtI wr base g size o j)/\Hid (Below base W wr)) (λv15 _=>k-(intOf v15).toNat)
 ·exact⟨0,k,nh,⟨0,0⟩,Z,rfl,uK,qx _,s8,m',HG0,C,u,HB1⟩
 ·obtain⟨i,f,j,J,o,rfl,hif,hlo,Z',m',HG,C,HDI,HB⟩:=hrel;have G':j<=nh+1:=by split at Z'<;>omega
  obtain⟨At,ct,Ah,ch,hs,hd⟩:=HDI.out;have u:=qj hd;clear HDI hd;by_cases hlt:i<k
  ·have hlt':=j' i k;obtain⟨f,rfl⟩: ∃f',f=f'+1:=⟨f-1,uK⟩;have m:=HG.out;rw [ue] at m;have hsw:(o.getLastD []).length<=50:=by
    rcases List.eq_nil_or_concat o with rfl|⟨o',x,rfl⟩
    ·simp
    ·rw [JG];simp;exact m' _ s8
   have KX:=λ(W':World) (first:Bool) (hc:Cur W' gc A N cap b J)=>CM _ _ A N _ b (o.getLastD []) first J hc uK
   replace KX:=qj KX;have w:=Dp b (o.getLastD []) (decide (i=0)) J;have hlast:o=[]\/ ∃z,o.length=z+1/\(o.map STR)[z]? =some (STR (o.getLastD [])):=by
    rcases List.eq_nil_or_concat o with rfl|⟨o',x,rfl⟩
    ·exact .inl rfl
    ·refine .inr ⟨o',s8, ?_⟩;rw [JG];simp
   generalize Q':o.getLastD []=S' at*;have c0:=u.blk.cell 0;simp only [qR,qt] at c0;generalize M:o.length=n at*;replace M:=qj M;replace m:=qj m;clear HG;rcases hlast with X'|⟨z,hn1,hx⟩
   focus
    obtain rfl:n=0:=by rw [<-M.out,X'];rfl
    have hws:S'=[]:=by rw [<-Q',X'];rfl
    subst hws;clear Q' X';by_cases P':i=0
    focus
     subst P';have T:decide ((0:Nat)=0)=true:=rfl;rw [T] at m w;clear T;have q:=qj (KX _ true C);unfold jS STR at q;generalize JE b [] true J=nx at*
    rotate_left
    focus
     have hi1:((i:Int)==0)=false:=by rw [zE];omega
     have hi2: ¬(i:Int)=0:=uK;have T:decide (i=0)=false:=qc P';rw [T] at m w;clear T;have q:=qj (KX wr false C);unfold jS STR at q;generalize JE b [] false J=nx at*
    rotate_left
   rotate_left 2
   focus
    subst hn1;have hn1':(0:Int)<((z+1:Nat):Int):=uK;obtain⟨ga,rfl⟩:=Kq u.ot (Nat.succ_pos _);obtain⟨y0,-⟩:=xU u.ot (show z<z+1 by omega);rw [hx] at y0;unfold STR at y0;have hsub:(((z+1:Nat):Int)-1)=(z:Int):=uK;replace Q':=qj Q';clear hx;by_cases P':i=0
    focus
     subst P';have T:decide ((0:Nat)=0)=true:=rfl;rw [T] at m w;clear T;go_wp2;go_quiet (fail);have u':=qj (C.fresh ((Dr.refl wr|>.drewN nq).below _));have I':=qj (u.fresh ((Dr.refl wr|>.drewN nq).below _));have O':=qj (HB.trans ((Dr.refl wr|>.drewN nq).below base));generalize wr.drewN nq=wq at*;have q:=qj (KX wq true u');clear C HB c0 y0;unfold jS STR at q;generalize JE b S' true J=nx at*
    rotate_left
    focus
     have hi1:((i:Int)==0)=false:=by rw [zE];omega
     have hi2: ¬(i:Int)=0:=uK;have T:decide (i=0)=false:=qc P';rw [T] at m w;clear T;go_wp2;go_quiet (fail);have u':=qj (C.fresh ((Dr.refl wr|>.drewN nq).below _));have I':=qj (u.fresh ((Dr.refl wr|>.drewN nq).below _));have O':=qj (HB.trans ((Dr.refl wr|>.drewN nq).below base));generalize wr.drewN nq=wq at*;have q:=qj (KX wq false u');clear C HB c0 y0;unfold jS STR at q;generalize JE b S' false J=nx at*
    rotate_left
   rotate_left 2
   all_goals
    obtain⟨s,a⟩:=nx;dsimp only at q m w;generalize G:(ByteArray.mk s.toArray)=L at*;replace G:=qj G;go_wp2_with fail;refine zC q ?_;rintro y ⟨v,t⟩;have D':=qj v
   focus
    have d:=qj (u.cur C t);have K:=qj (HB.trans (t.below (λk hk=>by rw [qy.1 hk];exact N6) u.bs));have p:=qj (jg y _ A N _ b a v);clear v t C HB c0;by_cases l:a.err=0
    focus
     have hs25:=w l;have r:=m.out;rw [qJ (by simpa using l)] at r;replace r:=qj r;rw [l] at p;have c0:=d.blk.cell 0;simp only [qR,qt] at c0;have M':0+1<=maxLen:=SJ;have z':(0+1)*16<=140737488355328:=uK;clear w;go_wp2_with fail;refine Ω p ?_;have V:=qj (show(o++[s]).length=0+1 by rw [qK,M.out];rfl);have Y:True:=trivial;have hb3:j+1<=maxLen:=SJ;have hb4:(j+1)*16<=140737488355328:=uK;go_wp2_with (first|(at_builtin;refine qF _ rfl (.tmp 54) (.tmp 56) 99 rfl base 9 i0 (.string "".toUTF8) 1 16 jD hi.out d'.out iL.out p'.out rfl uK At _ ct _ rfl (d.out.ot.alloc _) (y.heap.size+1) y 1 1 [.string L] rfl (zU _ _ _) (one_one rfl) M' z' (qv d.out.bs s8) ?_;clear Y;intro X U S P O Q;obtain⟨⟨j3,k3,x3,y3⟩,h3,F,D⟩:=d.out.stepT D'.out _ G.out O P Q;replace h3:=qj h3;replace F:=qj (K.out.trans F);replace D:=qj D;clear P O Q)|(at_builtin;refine qF _ rfl (.tmp 67) (.tmp 69) 99 rfl base 9 i0 (.string "".toUTF8) 1 16 jD hi.out d'.out iL.out p'.out rfl uK Ah j ch _ rfl (h3.out.oh.alloc _) (S.heap.size+1) S 1 1 [.string L] rfl (by have:=zU (S.setCell g (.slice X (0+1) U)) (.string L) 9;rwa [zO] at this) (one_one rfl) hb3 hb4 (qv h3.out.bs s8) ?_;intro A5 c5 w5 N9 N' OX;obtain⟨⟨j5,k5⟩,h5,b5,d5⟩:=h3.out.WW D.out _ N' N9 OX;replace h5:=qj h5;replace b5:=qj (F.out.trans b5);replace d5:=qj d5;clear N9 N' OX));have gA:=trivial
    rotate_left
    focus have gB:=trivial
   rotate_left 2
   focus
    have d:=qj (u.cur C t);have K:=qj (HB.trans (t.below (λk hk=>by rw [qy.1 hk];exact N6) u.bs));have p:=qj (jg y _ A N _ b a v);clear v t C HB c0;by_cases l:a.err=0
    focus
     have hs25:=w l;have r:=m.out;rw [qJ (by simpa using l)] at r;replace r:=qj r;rw [l] at p;have c0:=d.blk.cell 0;simp only [qR,qt] at c0;have M':0+1<=maxLen:=SJ;have z':(0+1)*16<=140737488355328:=uK;clear w;go_wp2_with fail;refine Ω p ?_;have V:=qj (show(o++[s]).length=0+1 by rw [qK,M.out];rfl);have Y:True:=trivial;go_wp2_with (at_builtin;refine qF _ rfl (.tmp 54) (.tmp 56) 99 rfl base 9 i0 (.string "".toUTF8) 1 16 jD hi d' iL p' rfl uK At _ ct _ rfl (d.ot.alloc _) (y.heap.size+1) y 1 1 [.string L] rfl (zU _ _ _) (one_one rfl) M' z' (qv d.bs s8) ?_;clear Y;intro X U S P O Q;obtain⟨⟨j3,k3,x3,y3⟩,h3,F,D⟩:=d.stepT D' _ G O P Q;replace h3:=qj h3;replace F:=qj (K.trans F);replace D:=qj D;clear P O Q);have J':Hid (px (o++[s])):=λx hx=>(zt.1 hx).elim (m' x) λh=>by rw [qy.1 h];omega
     have HI:Hid (DtI (S.setCell g (.slice X (0+1) U)) base g size (o++[s]) j):=⟨X,U,_,_,_,by rw [V.out];exact h3⟩
    rotate_left
    focus have gB:=trivial
   rotate_left 2
   focus
    have d:=qj (I'.cur u' t);have K:=qj (O'.trans (t.below (λk hk=>by rw [qy.1 hk];exact N6) I'.bs));have p:=qj (jg y _ A N _ b a v);clear v t;by_cases l:a.err=0
    focus
     have hs25:=w l;have r:=m.out;rw [qJ (by simpa using l)] at r;replace r:=qj r;rw [l] at p;have c0:=d.blk.cell 0;simp only [qR,qt] at c0;have M':z+1+1<=maxLen:=SJ;have z':(z+1+1)*16<=140737488355328:=uK;clear w;go_wp2_with fail;refine Ω p ?_;have V:=qj (show(o++[s]).length=z+1+1 by rw [qK,M.out];rfl);have Y:True:=trivial;have hb3:j+1<=maxLen:=SJ;have hb4:(j+1)*16<=140737488355328:=uK;go_wp2_with (first|(at_builtin;refine qF _ rfl (.tmp 54) (.tmp 56) 99 rfl base 9 i0 (.string "".toUTF8) 1 16 jD hi.out d'.out iL.out p'.out rfl uK ga _ ct _ rfl (d.out.ot.alloc _) (y.heap.size+1) y 1 1 [.string L] rfl (zU _ _ _) (one_one rfl) M' z' (qv d.out.bs s8) ?_;clear Y;intro X U S P O Q;obtain⟨⟨j3,k3,x3,y3⟩,h3,F,D⟩:=d.out.stepT D'.out _ G.out O P Q;replace h3:=qj h3;replace F:=qj (K.out.trans F);replace D:=qj D;clear P O Q)|(at_builtin;refine qF _ rfl (.tmp 67) (.tmp 69) 99 rfl base 9 i0 (.string "".toUTF8) 1 16 jD hi.out d'.out iL.out p'.out rfl uK Ah j ch _ rfl (h3.out.oh.alloc _) (S.heap.size+1) S 1 1 [.string L] rfl (by have:=zU (S.setCell g (.slice X (z+1+1) U)) (.string L) 9;rwa [zO] at this) (one_one rfl) hb3 hb4 (qv h3.out.bs s8) ?_;intro A5 c5 w5 N9 N' OX;obtain⟨⟨j5,k5⟩,h5,b5,d5⟩:=h3.out.WW D.out _ N' N9 OX;replace h5:=qj h5;replace b5:=qj (F.out.trans b5);replace d5:=qj d5;clear N9 N' OX));have gA:=trivial
    rotate_left
    focus have gC:=trivial
   rotate_left 2
   focus
    have d:=qj (I'.cur u' t);have K:=qj (O'.trans (t.below (λk hk=>by rw [qy.1 hk];exact N6) I'.bs));have p:=qj (jg y _ A N _ b a v);clear v t;by_cases l:a.err=0
    focus
     have hs25:=w l;have r:=m.out;rw [qJ (by simpa using l)] at r;replace r:=qj r;rw [l] at p;have c0:=d.blk.cell 0;simp only [qR,qt] at c0;have M':z+1+1<=maxLen:=SJ;have z':(z+1+1)*16<=140737488355328:=uK;clear w;go_wp2_with fail;refine Ω p ?_;have V:=qj (show(o++[s]).length=z+1+1 by rw [qK,M.out];rfl);have Y:True:=trivial;go_wp2_with (at_builtin;refine qF _ rfl (.tmp 54) (.tmp 56) 99 rfl base 9 i0 (.string "".toUTF8) 1 16 jD hi d' iL p' rfl uK ga _ ct _ rfl (d.ot.alloc _) (y.heap.size+1) y 1 1 [.string L] rfl (zU _ _ _) (one_one rfl) M' z' (qv d.bs s8) ?_;clear Y;intro X U S P O Q;obtain⟨⟨j3,k3,x3,y3⟩,h3,F,D⟩:=d.stepT D' _ G O P Q;replace h3:=qj h3;replace F:=qj (K.trans F);replace D:=qj D;clear P O Q);have J':Hid (px (o++[s])):=λx hx=>(zt.1 hx).elim (m' x) λh=>by rw [qy.1 h];omega
     have HI:Hid (DtI (S.setCell g (.slice X (z+1+1) U)) base g size (o++[s]) j):=⟨X,U,_,_,_,by rw [V.out];exact h3⟩
    rotate_left
    focus have gC:=trivial
   all_goals first
    |clear gA
     have J':Hid (px (o++[s])):=λx hx=>(zt.1 hx).elim (m' x) λh=>by rw [qy.1 h];omega
     have HI:Hid (DtI (w5.setCell ⟨g,2,none⟩ (.slice A5 (j+1) c5)) base g size (o++[s]) (j+1)):=⟨X,U,A5,c5,_,by rw [V.out];exact h5⟩;refine xk ?_;exact⟨1,f,j+1,a,o++[s],xb,uK,by rw [V.out];omega,by simp at Z'⊢;omega,J',r,d5,HI,b5⟩
    |clear gB
     have HR:Hid (R=(a.err,o)):=by rw [Hid,<-m.out,qk (by simpa using l)]
     have Y':(a.err==0)=false:=by simpa using l
     generalize I:a.err=E at*;clear l;go_wp2_with fail;refine Ω p ?_;go_wp2;go_ret;rw [HR.out];refine⟨rfl,⟨j,⟨At,ct,Ah,ch,hs, ?_⟩,G'⟩,K⟩;rw [M.out];exact d.out
    |clear gC
     have HR:Hid (R=(a.err,o)):=by rw [Hid,<-m.out,qk (by simpa using l)]
     have Y':(a.err==0)=false:=by simpa using l
     generalize I:a.err=E at*;replace I:=qj I;clear l;go_wp2_with fail;refine Ω p ?_;go_wp2;go_ret;rw [HR.out];refine⟨rfl,⟨j,⟨ga,ct,Ah,ch,hs, ?_⟩,G'⟩,K⟩;rw [M.out];exact d.out
    |have HG4:Hid (QV b f (decide (i+1=0)) a (o++[s])=R):=by rw [Hid,show decide (i+1=0)=false from qc uK];exact r.out
     refine xk ?_;exact⟨i+1,f,j,a,o++[s],xb,uK,by rw [V.out];omega,by rw [qJ uK];exact G',J',HG4,D,HI,F⟩
  ·obtain rfl:i=k:=uK;obtain rfl:f=0:=uK;have p:=qj (uu _ _ A N _ b J C);have HR:Hid (R=((PW b J).err,o)):=by rw [Hid,<-HG.out];rfl
   unfold jS at p;generalize PW b J=a at*;generalize I:a.err=E at*;clear HG;go_wp2_with fail;refine zC p ?_;rintro y ⟨v,t⟩;have d:=qj (u.cur C t);have K:=qj (HB.trans (t.below (λk hk=>by rw [qy.1 hk];exact N6) u.bs));clear v t;go_wp2;go_ret;rw [HR.out];exact⟨rfl,⟨j,⟨At,ct,Ah,ch,hs,d⟩,G'⟩,K⟩
theorem QM {a:Func} {t u v x:Tmp} (h:a.results= #[.tmp t, .tmp u, .tmp v, .tmp x]) (tmps:Array Value) (P:Program) (w:World):
  (results a tmps).run P w= .ok (.tuple #[tmps.getD t undef,tmps.getD u undef,tmps.getD v undef,tmps.getD x undef]) w:=by
 simp [results,h]
def fV (w:World) (r:Int×List Nat×qn×Nat) (e:Ending) (w':World):Prop:=
 ∃c d a b,e= .returned (.tuple #[.slice c r.2.1.length d, .slice a r.2.2.1.length b,(r.2.2.2:Int), .int .i64 r.1])/\w'.ownsRow w 43 1 (.slice c r.2.1.length d) r.2.1.length (r.2.1.map V64)/\
  w'.ownsRow w 5 1 (.slice a r.2.2.1.length b) r.2.2.1.length (r.2.2.1.map B8)/\Below w w w'
theorem CN (t:Option Addr) (n N c B:Nat) (b:List UInt8) (w:World) (h:Reads w B 1 t N (b.map B8)) (Y:B<=w.heap.size) (hN:N<=100000000) (Z:n<=20000):
  Calls prog 196 #[n, .slice t N c] w (fV w (ZG n b)):=by
 have KN:=qj (Qk t N c B b w h Y uK);obtain⟨R,a⟩: ∃R,R=ZG n b:=⟨_,rfl⟩;rw [<-a];unfold ZG at a;rw [qJ uK,zc] at a;dsimp only at a;replace a:=qj a;have I': ¬(n:Int)<0:=uK;have D': ¬(20000:Int)<(n:Int):=uK;have N6:decide ((n:Int)<0)=false:=qc I';have M':decide ((20000:Int)<(n:Int))=false:=qc D';clear h Y;go_enter func196,ntmps196
 go_wp2_with fail;refine KN.mono ?_;rintro e m ⟨d,A,cap,rfl,D,U,iL,v⟩;have I:=D.fresh ((qZ _ _).alloc (qx _) (.cells #[.pointer d] 293));have i:Below w w (m.alloc (.cells #[.pointer d] 293)):=v.alloc v.size _;have j:Blk (m.alloc (.cells #[.pointer d] 293)) m 293 #[.pointer d]:=Blk.new _ _ _;have d':d<m.heap.size:=D.blk.lt;have p:=qj (CS _ d A N cap n b ⟨0,0⟩ I Z);have z:=qj (λW c h=>GN W d A N cap n b c h Z);unfold Ww at p;unfold Me at z;generalize hT:Q4 b n 0 ⟨0,0⟩ []=T at*
 obtain⟨ts,K⟩:=T;dsimp only at a p;have s:=λW h=>qj (z.out W K h);generalize hV:xx b n (n+1) K []=V at*
 obtain⟨ls,f⟩:=V;dsimp only at a s;clear KN z hT hV iL v D;have y:=qj d';have P:=qj U;replace i:=qj i;replace j:=qj j;clear I d' U
 go_wp2_with fail;refine p.mono ?_;rintro e w3 ⟨S,ct,rfl,C,L,x⟩;have q:=qj (x.blk j (by rw [qy];have:=y.out;omega))
 have r:=qj (i.trans (x.below (λk g=>by rw [qy.1 g];exact P) i.size))
 have J:=qj (qi C i.size);have z':Hid (m.heap.size<w3.heap.size):=q.lt;have O:=qj ((s _ L).out);have Q:Hid (∀k∈fpS S,k≠d):=λk g e=>by have:=(zj C k g).1;have:=j.lt;have:=y.out;omega
 have q3:=q.cell 0;simp only [qR,qt] at q3;clear p s C L x j i
 go_wp2_with fail;refine O.mono ?_;rintro e H ⟨Al,cl,rfl,M,F,o⟩;have G':=qj (o.blk q (by rw [qy];have:=y.out;omega))
 have X:=qj (r.trans (o.below (λk g=>by rw [qy.1 g];exact P) r.size))
 have u':=qj (qi M r.size);have p':=qj (o.own J (λk g m'=>Q.out k g (qy.1 m')));have u:=qj (jg H d A N cap b f F);have KA:=qj (JJ H d A N cap b f F);have q4:=G'.cell 0;simp only [qR,qt] at q4;clear O M F o q r J q3 Q z';by_cases l:f.err=0
 focus
  have G:Hid (R=(0,ts,ls,f.at_)):=by rw [Hid,a.out,qJ (by simpa using l)]
  rw [l] at u;clear a l
  go_wp2_with fail;refine u.mono ?_;rintro e w' ⟨rfl,rfl⟩
  go_wp2_with fail;refine KA.mono ?_
 rotate_left
 focus
  have G:Hid (R=(f.err,[],[],0)):=by rw [Hid,a.out,qk (by simpa using l)]
  have J':(f.err==0)=false:=by simpa using l
  generalize f.err=E at*
  clear a
  go_wp2_with fail;refine u.mono ?_
 rotate_left
 all_goals
  rintro e w' ⟨rfl,rfl⟩
  go_wp2_with fail;refine qW (QM rfl _ _ _) rfl ?_;unfold fV;rw [G.out]
 ·exact⟨S,ct,Al,cl,rfl,p'.out,u'.out,X.out⟩
 ·exact⟨none,0,none,0,rfl,qP _ _ _ _,qP _ _ _ _,X.out⟩
theorem nI (b:qn) (h:b.length=4):(Yb b 4 ⟨0,0⟩).1=vk b:=by
 unfold Yb;rw [qJ uK];show vk (if(0:Int)≠0\/Xv b 4 ⟨0,0⟩≠0 then [] else(b.drop 0).take 4)=_;have:Xv b 4 ⟨0,0⟩=0:=by
  unfold Xv;rw [qJ uK,qJ (by rw [Zy,h];omega)]
 rw [qJ (by rw [this];simp),Zy,qH uK]
def iD (W:World) (B:Nat) (r:Int×qn×qn) (e:Ending) (a:World):Prop:=
 ∃c c1 b c2,e= .returned (.tuple #[.slice c r.2.1.length c1, .slice b r.2.2.length c2, .int .i64 r.1])/\Reads a B 1 c r.2.1.length (r.2.1.map B8)/\r.2.1.length<=c1/\c1<=maxLen/\a.ownsRow W 5 1 (.slice b r.2.2.length c2) r.2.2.length (r.2.2.map B8)/\Below W W a
theorem Oo (b:qn) (m k s:Nat) (d:b.length=m+4) (a:vk (b.drop m)=k) (c:s+k=m):pg b=(QH ((b.drop s).take k),b.take s,vR ((b.drop s).take k)):=by
 unfold pg;rw [qJ uK,show b.length-4=m by omega,a,qJ uK,show m-k=s by omega]
theorem C8 (A:Option Addr) (n c B:Nat) (b:List UInt8) (W:World) (ht:Tab W) (h:Reads W B 1 A n (b.map B8)) (F:B<=W.heap.size) (hc:n<=c) (hm:c<=maxLen) (hn:n<=1000000000):
  Calls prog 158 #[.slice A n c] W (iD W B (pg b)):=by
 have r:=h.len;obtain⟨R,d⟩: ∃R,R=pg b:=⟨_,rfl⟩;rw [<-d];by_cases h4:n<4
 ·have w:Hid (R=(1,[],[])):=by rw [Hid,d];unfold pg;rw [qk uK]
  have y:(n:Int)-4<0:=uK;clear ht d r h;go_enter func158,ntmps158
  go_wp2_with fail
  go_ret3;rw [w.out];exact⟨none,0,none,0,rfl,Reads.none_,qx _,FV,qP _ _ _ _,qZ _ _⟩
 obtain⟨m,j⟩: ∃m,n=m+4:=⟨n-4,uK⟩;obtain⟨M,hi,M',z,N6⟩:=qA QB;have hcut:=jI (P:=prog) 30 5 M 1 qu hi z A n c m .i64 uK;rw [show n-m=4 by omega] at hcut
 have L:=qj (λ(s k:Nat) (h:s+k=m)=>Vo (P:=prog) 30 5 M 1 qu hi z A n c s m .i64 .i64 uK uK);have X:=qj (λ(s:Nat) (h:s<=c)=>Qm (P:=prog) 30 5 M 1 qu hi z A n c s .i64 h);have I:(b.drop m).length=4:=by rw [qI];omega
 have G:=qj (Qk (xo A c m 1) 4 (c-m) B (b.drop m) W (by have:=h.VC (k:=m) uK hc;rwa [show n-m=4 by omega] at this) F uK)
 have p:=qj (λa g o q (h:Cur a g o 4 q (b.drop m) ⟨0,0⟩)=>VW a g o 4 q (b.drop m) ⟨0,0⟩ 4 h uK uK);rw [show((4:Nat):Int)=4 from rfl] at p
 unfold jS at p;have C:=nI (b.drop m) I;have T:=Yy (b.drop m);rw [I] at T;have z':vk (b.drop m)<4294967296:=T;generalize iL:Yb (b.drop m) 4 ⟨0,0⟩=fx at*
 replace iL:=qj iL;obtain⟨k,cu⟩:=fx;dsimp only at C;rw [<-C] at z';have HK:Hid (vk (b.drop m)=k):=C.symm;have Z':(n:Int)-4=(m:Int):=uK;have S':(0:Int)<=(m:Int):=uK;have X': ¬(m:Int)<0:=uK;have OX:(m:Int)<=(n:Int):=uK;have Q':(m:Int)<=(c:Int):=uK;have U':wrap64 (k:Int)=(k:Int):=Kr _ uK;have H:=qj h;have O:=qj ht;replace j:=qj j;replace I:=qj I;replace r:=qj r;replace d:=qj d;clear h ht hi M' z N6 C T h4;generalize d':xo A c m 1=A1 at*
 replace d':=qj d';by_cases G':m<k
 focus
  have w:Hid (R=(1,[],[])):=by
   rw [Hid,d.out];unfold pg;have e:=r.out;have e2:=j.out;rw [qJ uK,show b.length-4=m by omega,HK.out,qk G']
  have I':(m:Int)<(k:Int):=uK;clear L X d O
 rotate_left
 focus
  obtain⟨s,y⟩: ∃s,s+k=m:=⟨m-k,uK⟩
  have w:Hid (R=(QH ((b.drop s).take k),b.take s,vR ((b.drop s).take k))):=by
   rw [Hid,d.out];exact Oo b m k s (by have e:=r.out;have e2:=j.out;omega) HK y
  have m':s<=n:=by have:=j.out;omega
  have N9:=L.out s k y;rw [show m-s=k by omega] at N9
  have O':=X.out s uK;have hsk:(m:Int)-(k:Int)=(s:Int):=uK;have I': ¬(m:Int)<(k:Int):=uK;have K:=qj (λa (Q:Below W.heap.size W a)=>Vr (xo A c s 1) k (c-s) ((b.drop s).take k) a (O.below Q O.pos) ((((H.below (Q.mono F)).VC m' hc).takeN (by have:=j.out;omega)).more (qv F Q.size)) (by have:=j.out;omega) uK uK)
  unfold Qr at K;have N:Hid ((b.take s).length=s):=by rw [Hid,qh,r.out];omega
  have J':Hid (∀a,Below W.heap.size W a->Reads a B 1 A s ((b.take s).map B8)):=λa h=>(H.below (h.mono F)).takeN m';have N':(0:Int)<=(s:Int):=uK;have P':(s:Int)<=(m:Int):=uK;have Y':(s:Int)<=(c:Int):=uK;generalize vR ((b.drop s).take k)=V at*
  generalize QH ((b.drop s).take k)=E at*
  generalize Z:xo A c s 1=A2 at*
  replace Z:=qj Z;replace y:=qj y;clear L X d
 rotate_left
 all_goals
  go_enter func158,ntmps158
  go_wp2_with fail;refine G.mono ?_;rintro e S ⟨g,o,q,rfl,v,l,-,t⟩;have x:=qj (p.out S g o q v);replace l:=qj l;have f:=qj t;clear G p v t
  go_wp2_with fail;refine x.mono ?_;rintro e D ⟨rfl,-,u⟩;have i:Hid (Below W.heap.size W D):=f.trans (u.below (λk U=>by rw [qy.1 U];exact l) f.size)
 ·clear x u f
  go_wp2_with fail
  go_ret3;rw [w.out];exact⟨none,0,none,0,rfl,Reads.none_,qx _,FV,qP _ _ _ _,i.out⟩
 ·have p':=qj (K.out D i);clear x u f K
  go_wp2_with fail;refine p'.mono ?_;rintro e Y ⟨A3,c3,rfl,J⟩;have u':Hid (Below W.heap.size W Y):=i.trans (J.2.mono i.size);have D':=qj (qi J.1 i.size);clear p' J i
  go_wp2_with fail
  go_ret3;rw [w.out];exact⟨A,c,A3,c3,by rw [N.out];rfl,by rw [N.out];exact J' Y u',by rw [N.out];omega,hm,D'.out,u'.out⟩
def OG (b0 g:Nat) (b:List qn) (W:World) (e:Ending) (a:World):Prop:=e= .returned (.tuple #[])/\ug a b0 g b/\jO [99,9] b0 W a
theorem tE (W:World) (b0 g:Nat) (d:List (List UInt8)) (s:List UInt8) (h:ug W b0 g d) (t:b0<=W.heap.size) (E:d.length<=100000):
  Calls prog 135 #[STR s, .pointer g] W (OG b0 g (d++[s]) W):=by
 obtain⟨A,c,a,b,f⟩:=h;obtain⟨x,hi,p,e,q⟩:=qA XJ;replace hi:=qj hi;replace p:=qj p;replace e:=qj e;replace q:=qj q;have c0:=a.cell 0;have B:=a.frozen 0;simp only [qR,qt] at c0;generalize o:d.length=n at*
 replace o:=qj o;have u:n+1<=maxLen:=SJ;have y:(n+1)*16<=140737488355328:=uK;replace a:=qj a;replace b:=qj b;replace f:=qj f;unfold STR;generalize r:(ByteArray.mk s.toArray)=j at*
 have v:Hid (STR s= .string j):=by rw [Hid,<-r];rfl
 clear r;go_enter func135,ntmps135
 go_wp2_with (at_builtin;refine qF _ rfl (.tmp 3) (.tmp 5) 99 rfl b0 9 x (.string "".toUTF8) 1 16 jD hi p e q rfl uK A n c _ rfl (b.alloc _) (W.heap.size+1) W 1 1 [.string j] rfl (zU _ _ _) (one_one rfl) u y (qv t s8) ?_;intro F D C l m _;rw [<-v.out] at l;have h3:=ug.push o a b f t m l;have i:=(((qE.refl (fpS A) _).grown m (λk a=> .inl a)).blk (a.alloc (.cells #[.string j] 9)) (λw=>qT b a FV g w rfl));have z:=i.cell 0;have k3:=i.frozen 0;simp only [qR,qt] at z;replace h3:=qj h3;clear l m i)
 go_end0
 exact⟨rfl,h3.out⟩
theorem tR (W:World) (b0 g:Nat) (d:List (List UInt8)) (s:List UInt8) (h:ug W b0 g d) (r:b0<=W.heap.size) (H:d.length<=100000) (C:s.length<=100000):
  Calls prog 136 #[STR s, .pointer g] W (OG b0 g (d++[64::s]) W):=by
 obtain⟨A,c,a,b,f⟩:=h;obtain⟨y,hi,o,e,p⟩:=qA XJ;replace hi:=qj hi;replace o:=qj o;replace e:=qj e;replace p:=qj p;have c0:=a.cell 0;have D:=a.frozen 0;simp only [qR,qt] at c0;generalize m:d.length=n at*
 replace m:=qj m;have t:n+1<=maxLen:=SJ;have z:(n+1)*16<=140737488355328:=uK;have x:=λW=>pC (P:=prog) [64] s s8 uK W;replace a:=qj a;replace b:=qj b;replace f:=qj f;unfold STR;rw [show([64]:List UInt8)++s=64::s from rfl,show([64]:List UInt8).toArray= #[64] from rfl] at x
 generalize v:(ByteArray.mk s.toArray)=G at*
 generalize q:(ByteArray.mk (64::s).toArray)=S2 at*
 have u:Hid (STR (64::s)= .string S2):=by rw [Hid,<-q];rfl
 clear v q C;go_enter func136,ntmps136
 go_wp2_with (at_builtin;refine qF _ rfl (.tmp 3) (.tmp 6) 99 rfl b0 9 y (.string "".toUTF8) 1 16 jD hi o e p rfl uK A n c _ rfl (b.alloc _) (W.heap.size+1) W 1 1 [.string S2] rfl (zU _ _ _) (one_one rfl) t z (qv r s8) ?_;intro I F E j l _;rw [<-u.out] at j;have h3:=ug.push m a b f r l j;have i:=(((qE.refl (fpS A) _).grown l (λk a=> .inl a)).blk (a.alloc (.cells #[.string S2] 9)) (λw=>qT b a FV g w rfl));have B:=i.cell 0;have k3:=i.frozen 0;simp only [qR,qt] at B;replace h3:=qj h3;clear j l i)
 go_end0
 exact⟨rfl,h3.out⟩
def EX (W:World) (b0 g:Nat) (bs:qn):Prop:= ∃A c,Blk W g 30 #[.slice A bs c]/\W.ownsRow b0 5 1 (.slice A bs c) bs (bs.map B8)/\b0<=g
theorem Bz {w:World} {base n c:Nat} {E:TypeId} {A:q'} {f:List Value} (h:w.ownsRow base E 1 (.slice A n c) n f):w.ownsRow base E 1 (.slice A 0 c) 0 []:=by
 obtain⟨l,⟨h0,h1⟩|⟨k,cap,cur,a,d,b,h1,h2,h3,h4⟩⟩:=h
 ·injection h0 with i m e;subst i;subst e;exact qP _ _ _ _
 ·injection a with g _ j;subst g;subst j;exact⟨rfl, .inr ⟨k,c,cur,rfl,d,b,qp _,h2,h3,s8⟩⟩
def VB (f:qn->qn) (row:qn) (a:List qn):List qn:=if row=[] then a else a++[f (row.take 24)]
def Told (gf:Nat) (f:qn->qn):Prop:= ∀(W:World) (b0 g:Nat) (a:List qn) (s:qn),ug W b0 g a->b0<=W.heap.size->a.length<=100000->s.length<=24->Calls prog gf #[STR s, .pointer g] W (OG b0 g (a++[f s]) W)
structure WS (W:World) (b0 gr gw g:Nat) (fv:Value) (bs:qn) (out:List qn):Prop where
 row:EX W b0 gr bs
 fn:Blk W gw 219 #[fv]
 outs:ug W b0 g out
 bs:b0<=W.heap.size
theorem mN (gf:Nat) (f:List UInt8->List UInt8) (Q:Told gf f) (eg: ∀args w,(callFunc gf args).run prog w= .ok (.enter gf args) w) (W:World) (b0 d t g:Nat) (bs:List UInt8) (i:List (List UInt8)) (h:WS W b0 d t g (.func (.func gf) #[] #[.pointer g]) bs i) (hl:i.length<=100000) (M':bs.length<=100000):
  Calls prog 182 #[.pointer d, .pointer t] W λe a=>e= .returned (.tuple #[])/\WS a b0 d t g (.func (.func gf) #[] #[.pointer g]) [] (VB f bs i)/\Below b0 W a:=by
 obtain⟨⟨A,c,k,l,j⟩,u,I,C⟩:=h;obtain⟨T,hi,X,v,Y⟩:=qA xR;have O:=k.cell 0;have kr:=k.frozen 0;simp only [qR,qt] at O;have N:=u.cell 0;simp only [qR,qt] at N;have z':=λW=>WX (P:=prog) 30 5 T 1 qu hi v A bs c 0 .i64 (qp _) W;rw [show((0:Nat):Int)=0 from rfl] at z'
 have x:=qj k;have G:=qj l;have F:=qj u;have E:=qj I;have D':=jC l;by_cases z:bs=[]
 ·subst z
  rw [show([]:List UInt8).length=0 from rfl] at*
  have HT:Hid (VB f [] i=i):=rfl;clear hi X v Y k l u I eg;go_enter func182,ntmps182
  go_wp2_with fail
  go_end0
  refine⟨rfl, ?_, ?_⟩
  ·rw [HT.out]
   have b:jO [30] b0 W (W.setCell d (.slice A 0 c)):=(jO.refl _ _ _).zh x s8 j 0 _;exact⟨⟨A,c,by simpa using x.zh 0 (.slice A 0 c),b.own (Bz G) FV,j⟩,b.blk F FV,E.keep b FV FV,by rw [zO];exact C⟩
  ·exact(qZ _ _).setCell (p:= d) j _
 ·have hp:0<bs.length:=JA.2 z
  have J':(0:Int)<(bs.length:Int):=uK;have hm:min (bs.length:Int) 24=((min bs.length 24:Nat):Int):=by omega
  have I':=λW=>WX (P:=prog) 30 5 T 1 qu hi v A bs c (min bs.length 24) .i64 uK W;have r: ∀a,jO [99,9] b0 W a->a.cell? t=some (.func (.func gf) #[] #[.pointer g])/\a.cell? d=some (.slice A bs c)/\(convert 30 9 (.slice A (min bs.length 24) c)).run prog a= .ok (.string ⟨(bs.take (min bs.length 24)).toArray⟩) a:=λa D=>
   ⟨by have:=(D.blk u FV).cell 0;simpa using this,by have:=(D.blk k FV).cell 0;simpa using this,Kf (P:=prog) (w:=a) (c:=c) 30 9 5 qu xS ju ((Reads.zY (D.own l FV)).takeN (xK _ _))⟩
  have hT:Hid (VB f bs i=i++[f (bs.take (min bs.length 24))]):=by
   rw [Hid,VB,qJ z];congr 3;rcases Nat.le_total bs 24 with h|h
   ·rw [vZ h,jP,qH h]
   ·rw [Nat.min_eq_right h]
  have u':(bs.take (min bs.length 24)).length<=24:=by rw [qh];omega
  have o:=λW hx hy=>qj (Q W b0 g i (bs.take (min bs.length 24)) hx hy hl u');replace o:=qj o;generalize bs.take (min bs.length 24)=s at*
  generalize L:min bs.length 24=m at*
  generalize M:bs.length=n at*
  replace L:=qj L;replace M:=qj M;replace r:=qj r;have J:jO [99,9] b0 W W.drew:=(jO.refl _ _ _).dr ((Dr.refl W).drewN 1);have y:=qj J;have R:=qj (E.keep ((jO.refl [] b0 W).dr ((Dr.refl W).drewN 1)) s8 s8);unfold OG STR at o;generalize Z:Value.func (.func gf) #[] #[.pointer g]=fv at*
  clear k l u I z hi X v Y Q J;subst Z;go_enter func182,ntmps182
  go_wp2_with fail;refine zv 8 (λa=>a.cell? t=some (.func (.func gf) #[] #[.pointer g])/\a.cell? d=some (.slice A n c)/\(convert 30 9 (.slice A m c)).run prog a= .ok (.string ⟨s.toArray⟩) a) AL (r.out _ y) (λS=> ?_)
  refine zq [0,1,2,3,4,5] (a':= ?_) ?_;refine zq [6] (a':= ?_) ?_;refine carried 7 rfl AL SQ (λK U=> ?_);go_simp
  (refine((o.out W.drew R C).out).mono ?_;rintro e H ⟨rfl,V,b⟩)
  refine U _ _ ((r.out _ (y.trans b))) (λS=> ?_);clear U K;try simp only [Act.put,qQ,qY,qV]
  refine zV AL ?_ _;have q:=qj (y.trans b);have B:=qj (q.blk x FV);have iL:=qj (q.own G FV);have p':=qj (q.blk F FV);have d':=qj V;have r2:=B.cell 0;have G':=B.frozen 0;simp only [qR,qt] at r2;have m':b0<=H.heap.size:=qv C q.size;clear b V S o r R y O kr N x G F E
  go_wp2_with fail
  go_end0
  refine⟨rfl, ?_,q.below.trans ((qZ _ _).setCell (p:= d) j _)⟩;rw [hT.out];have b:jO [30] b0 H (H.setCell d (.slice A 0 c)):=(jO.refl _ _ _).zh B s8 j 0 _;exact⟨⟨A,c,by simpa using B.zh 0 (.slice A 0 c),b.own (Bz iL) FV,j⟩,b.blk p' FV,d'.keep b FV FV,by rw [zO];exact m'⟩
end Go.Proofs.YtfnlfpcfkbdcmaaGreatDoor
