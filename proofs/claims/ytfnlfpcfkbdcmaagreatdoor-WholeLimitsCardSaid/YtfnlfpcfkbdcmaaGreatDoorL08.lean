import Derived.Test.YtfnlfpcfkbdcmaaGreatDoorL04
import Derived.Test.YtfnlfpcfkbdcmaaGreatDoorL05
set_option linter.unusedSimpArgs false
set_option linter.unusedVariables false
set_option maxRecDepth 100000
set_option maxHeartbeats 0
open Go.Proofs.Tryz
namespace Go.Proofs.YtfnlfpcfkbdcmaaGreatDoor
section
open Go.RowKit
variable {A:q'}{B cap g n:Nat}{W W':World}{b:qn}{c:Cu}{l:List Nat}
structure Cur (W:World) (g:Nat) (A:q') (n cap:Nat) (b:qn) (c:Cu):Prop where
 blk:Blk W g 161 #[.slice A n cap,c.at_,c.err]
 own:W.ownsRow 0 5 1 (.slice A n cap) n (b.map B8)
 le:c.at_<=n
 lim:n<=1000000000
theorem Cur.len (h:Cur W g A n cap b c):b.length=n:=by have:=h.own.1;simpa using this
theorem Cur.jZ (h:Cur W g A n cap b c) (a:qE l W W') (e:g∉l) (d: ∀k∈fpS A,k∉l):Cur W' g A n cap b c:=⟨a.blk h.blk e,a.own h.own d,h.le,h.lim⟩
theorem Cur.fresh (h:Cur W g A n cap b c) (a:Below W W W'):Cur W' g A n cap b c:=h.jZ (qE.jq (l:=[]) a) s8 s8
theorem Cur.dr (h:Cur W g A n cap b c) (a:Dr W W'):Cur W' g A n cap b c:=h.fresh (a.below _)
theorem Cur.fp (h:Cur W g A n cap b c): ∀k∈fpS A,k≠g:=qT h.own h.blk FV
theorem Cur.rest (h:Cur W g A n cap b c):Reads W W 1 (xo A cap c.at_ 1) (n-c.at_) ((b.drop c.at_).map B8):=(Reads.zY h.own).VC h.le (jC h.own).1
theorem Cur.VH (h:Cur W g A n cap b c):W.cell? g=some (.slice A n cap):=h.blk.cell 0
theorem Cur.V9 (h:Cur W g A n cap b c):W.cell? ⟨g,1,none⟩=some (c.at_:Value):=h.blk.cell 1
theorem Cur.XZ (h:Cur W g A n cap b c):W.cell? ⟨g,2,none⟩=some (c.err:Value):=h.blk.cell 2
theorem Cur.FB (h:Cur W g A n cap b c) (e:Int):Cur (W.setCell ⟨g,2,none⟩ e) g A n cap b ⟨c.at_,e⟩:=
 ⟨h.blk.zh 2 _,(qE.refl [g] W|>.zh (p:=⟨g,2,none⟩) (qy.2 rfl) e).own h.own (λk a=>by simp [h.fp k a]),h.le,h.lim⟩
theorem Cur.setAt (h:Cur W g A n cap b c) (a:Nat) (d:a<=n):Cur (W.setCell ⟨g,1,none⟩ a) g A n cap b ⟨a,c.err⟩:=
 ⟨h.blk.zh 1 _,(qE.refl [g] W|>.zh (p:=⟨g,1,none⟩) (qy.2 rfl) a).own h.own (λk e=>by simp [h.fp k e]),d,h.lim⟩
theorem Qk (A:q') (n c B:Nat) (bs:qn) (w:World) (h:Reads w B 1 A n (bs.map B8)) (p:B<=w.heap.size) (l:n<=1000000000):
  Calls prog 76 #[.slice A n c] w λe w'=> ∃g d j,e= .returned (.pointer (some ⟨g,0,none⟩))/\Cur w' g d n j bs ⟨0,0⟩/\w.heap.size<=g/\(∀k∈fpS d,w.heap.size<=k)/\Below w w w':=by
 have b:=qj (yV A n c B _ w h p uK);unfold jQ at b;go_in;go_wp2_with fail;refine b.mono ?_;rintro e f ⟨m,c1,rfl,i⟩;have a:=qj i;clear i h;go_wp2;go_ret;refine⟨f,m,_,rfl,⟨Blk.new f _ _,qi (qG a.out.1 (z8 _)) (qp _),qp _,l⟩,a.out.2.size,λk o=>(zj a.out.1 k o).1,a.out.2.alloc a.out.2.size _⟩
theorem Xa (W:World) (g:Nat) (A:q') (n cap:Nat) (b:qn) (c:Cu) (h:Cur W g A n cap b c):
  Calls prog 157 #[.pointer g] W λe W'=>e= .returned (.slice (xo A cap c.at_ 1) (n-c.at_) (cap-c.at_))/\Dr W W':=by
 obtain⟨j,hi,f,d,i⟩:=qA xR;have hcut:=jI _ 5 j 1 qu hi d A n cap _ .i64 h.le;have c0:=h.VH;have c1:=h.V9;have l:=h.le;generalize c.at_=a at*;clear h hi f d i;go_in;go_wp2_with fail;refine zv 10 (λW=>W.cell? g=some (.slice A n cap)/\W.cell? ⟨g,1,none⟩=some (a:Value)) AL ⟨c0,c1⟩ (λm=> ?_);refine zq [0,1,2,3,4,5] (a':= ?_) ?_;refine zq [6,7,8,9] (a':= ?_) ?_;refine zV AL ?_ _;go_wp2;go_ret;exact⟨rfl,⟨1,rfl⟩⟩
theorem pb (W:World) (g:Nat) (A:q') (n cap:Nat) (b:qn) (c:Cu) (h:Cur W g A n cap b c):
  Calls prog 112 #[.pointer g] W λe W'=>e= .returned ((n-c.at_:Nat):Int)/\Dr W W':=by
 have d:=qj (Xa W g A n _ b c h);clear h;go_in;go_wp2_with fail;refine zC d ?_;intro f a;replace a:=qj a;go_wp2;go_ret;exact⟨rfl,a⟩
theorem jg (W:World) (g:Nat) (A:q') (n cap:Nat) (b:qn) (c:Cu) (h:Cur W g A n cap b c):
  Calls prog 110 #[.pointer g] W λe W'=>e= .returned c.err/\W=W':=by
 have c2:=h.XZ;generalize c.err=a at*;clear h;go_wp2;go_ret;exact⟨rfl,rfl⟩
theorem JJ (W:World) (g:Nat) (A:q') (n cap:Nat) (b:qn) (c:Cu) (h:Cur W g A n cap b c):
  Calls prog 155 #[.pointer g] W λe W'=>e= .returned c.at_/\W=W':=by
 have c1:=h.V9;generalize (c.at_:Int)=a at*;clear h;go_wp2;go_ret;exact⟨rfl,rfl⟩
def jS (W:World) (g:Nat) (A:q') (n cap:Nat) (b:qn) (v:Value) (c:Cu) (e:Ending) (a:World):Prop:=e= .returned v/\Cur a g A n cap b c/\qE [g] W a
theorem yB (W:World) (g:Nat) (A:q') (n cap:Nat) (b:qn) (c:Cu) (d:Int) (h:Cur W g A n cap b c):
  Calls prog 109 #[.pointer g,d] W (jS W g A n cap b (.tuple #[]) (vP c d)):=by
 have c2:=h.XZ;have e:=h.blk.frozen 2;have H:=qj h;unfold vP;by_cases a:c.err=0
 ·rw [qk a];rw [a] at c2;clear h;go_wp2;go_end0;exact⟨rfl,H.out.FB d,(qE.refl [g] W).zh (p:=⟨g,2,none⟩) (qy.2 rfl) _⟩
 ·rw [qJ a];have i:(c.err==(0:Int))=false:=by simp [a]
  generalize c.err=f at*;clear h;go_wp2;go_end0;exact⟨rfl,H,qE.refl _ _⟩
def yt (W:World) (g f:Nat) (A:q') (n cap:Nat) (b:qn) (c:Cu) (k:Nat) (d:Int) (h:World->Prop) (e:Ending) (a:World):Prop:=
 if c.err=0 then e= .returned (.bool (decide (d=0)))/\Cur a g A n cap b (yO c k d)/\qE [g,f] W a/\h a else e= .returned false/\W=a
theorem mU (W:World) (g a:Nat) {cs:List Value} {F:Nat} (A:q') (n cap:Nat) (b:qn) (c:Cu) (h:Cur W g A n cap b c) (k:Nat) (f:Int) (B:World->Prop) (P:a≠g) (M:a∉fpS A)
  (K: ∀C,Dr W C->Calls prog F (.slice (xo A cap c.at_ 1) (n-c.at_) (cap-c.at_)::cs).toArray C λe t=>e= .returned (.tuple #[k,f])/\qE [a] C t/\B t)
  (I: ∀t j u,B t->B (t.setCell ⟨g,j,none⟩ u)) (o:f=0->c.at_+k<=n) (V:F=251/\cs=[.pointer a]\/(∃m,cs=[m,.pointer a])/\(F=151\/F=190\/F=252):=by simp):
  Calls prog 150 #[.pointer g, .func (.func F) #[] cs.toArray] W (yt W g a A n cap b c k f B):=by
 rcases V with⟨rfl,rfl⟩|⟨⟨z',rfl⟩,rfl|rfl|rfl⟩
 all_goals
  have y:=qj (jg W g A n _ b c h);have J:=qj (Xa W g A n _ b c h);have H:=qj h;have G:=qj K;have N:=qj I;have Y:=h.le;have X:=h.lim;clear K I;by_cases w:c.err=0
  focus
   have m:=qj w;rw [w] at y;by_cases z:f=0
   focus
    subst z;have Q:=o rfl;clear h o
   rotate_left
   focus
    have R:(f==(0:Int))=false:=by simp [z]
    have T:(f !=(0:Int))=true:=by simp [z]
    have L:=qj z;clear h o
   rotate_left
  rotate_left 2
  focus
   have m:=qj w;have R:(c.err==(0:Int))=false:=by simp [w]
   have T:(c.err !=(0:Int))=true:=by simp [w]
   clear h
  rotate_left
  all_goals
   go_enter yq,vH;go_wp2_with fail;refine Ω y ?_;go_wp2_with fail
  rotate_left;rotate_left
  ·go_ret;unfold yt;rw [qJ m.out];exact⟨rfl,rfl⟩
  all_goals
   refine zC J ?_;intro E d;have x:=qj (G E d);have s:=qj (H.dr d);have r:=qj (qE.jq (l:=[g,a]) (d.below W));clear d;go_wp2_with fail;refine zC x ?_;rintro S ⟨i,v⟩;have q:=qj (s.jZ i (by simpa using λe=>P e.symm) (λk o=>by simpa using λe:k=a=>M (e▸o)));have D:=qj (r.then (i.mono s8));have F:=qj v
  ·have c1:=q.out.V9;have V:=q.blk.frozen 1;clear i v;go_wp2;go_ret;unfold yt yO;rw [qk m.out,qJ (by simp [m.out]),qJ s8];have O:=q.setAt _ Q;rw [m.out] at O;exact⟨rfl,by simpa using O,D.zh (p:=⟨g,1,none⟩) s8 _,N.out _ _ _ F⟩
  ·have c2:=q.out.XZ;have U:=q.blk.frozen 2;clear i v;go_wp2;go_ret;unfold yt yO;rw [qk m.out,qJ (by simp [m.out]),qk L.out,qc L.out];exact⟨rfl,q.out.FB f,D.zh (p:=⟨g,2,none⟩) s8 _,N.out _ _ _ F⟩
theorem Sa (b:qn) (h:(Ki b).2.2≠0):(Ki b).1=0:=((PZ b 0 0).2.2 h).1
theorem eC (b:qn) (a:Int) (h:(Q0 b a).2.2≠0):(Q0 b a).1=0:=by
 unfold Q0 at h⊢;split
 ·rfl
 ·split
  ·rfl
  ·next h1 h2=>rw [qJ h1,qJ h2] at h;exact absurd rfl h
theorem ea (R:q') (m g B b:Nat) (a:qn) (v:Value) (W:World) (d:Reads W B 1 R m (a.map B8)) (i:m<=1000000000) (c:Blk W b 43 #[v]):
  Calls prog 251 #[.slice R m g, .pointer b] W λe f=>e= .returned (.tuple #[.int .i64 (Ki a).2.1, .int .i64 (Ki a).2.2])/\qE [b] W f/\Blk f b 43 #[.int .u64 (Ki a).1]:=by
 have h:=qj (eB R m g B a W d i);have c0:=c.cell 0;have l:=c.frozen 0;have j:=qj c;generalize Ki a=s at*;obtain⟨x,k,n⟩:=s;dsimp only at*;clear d c;go_in;go_wp2_with fail;refine Ω h ?_;go_wp2;go_ret2;exact⟨rfl,(qE.refl [b] _).zh (p:= b) s8 _,j.zh 0 _⟩
theorem Fc (W:World) (g:Nat) (A:q') (n cap:Nat) (b:qn) (c:Cu) (h:Cur W g A n cap b c):
  Calls prog 226 #[.pointer g] W (jS W g A n cap b (.int .u64 (X7 b c).1) (X7 b c).2):=by
 have t:=Blk.new W 43 #[.int .u64 0];have w:Below W W (W.alloc (.cells #[.int .u64 0] 43)):=z8 _;have h1:=h.fresh w;have v:W.heap.size≠g:=λe=>by have:=h.blk.lt;omega
 have E:W.heap.size∉fpS A:=λe=>by have:=(zj h.own _ e).2;omega
 have C:=wJ (b.drop c.at_);have D:=h.len;have a:=qj (mU _ g W A n _ b c h1 _ _ _ v E
  (λI B=>ea _ _ _ _ _ _ _ I ((h1.dr B).rest) (by have:=h.lim;omega) ((B.below _).block _ t.lt|>.trans t)) (λF j u K=>K.far v u) (λ_=>by rw [qI,D] at C;have:=h.le;omega))
 have m:=Sa (b.drop c.at_);unfold jS X7;generalize Ki (b.drop c.at_)=s at*;obtain⟨x,k,J⟩:=s;dsimp only at*;have H:=qj h1;have y:=qj w;clear h h1 w E C D;unfold yt at a;by_cases d:c.err=0
 ·simp only [qk d] at a;by_cases o:J=0
  focus
   subst o;rw [qw rfl] at a;have r:=qj d;clear m d;go_in;go_wp2_with fail;refine zC a ?_;rintro G ⟨i,f,q⟩;have c0:=q.cell 0;replace i:=qj i;replace f:=qj f;go_wp2;go_ret
  rotate_left
  focus
   rw [qc o] at a;have r:=qj d;have m:=qj (m o);clear d o;go_in;go_wp2_with fail;refine zC a ?_;rintro G ⟨i,f,q⟩;replace i:=qj i;replace f:=qj f;clear q;go_wp2;go_ret;rw [m.out]
  all_goals
   exact⟨rfl,i,(qE.jq (l:=[g]) y).trans f (λk z=>by rcases qL.1 z with e|e;exact .inl (by simp [e]);exact .inr (by simp at e;omega))⟩
 ·simp only [qJ d] at a;have r:=qj d;clear d;go_in;go_wp2_with fail;refine Ω a ?_;go_wp2;go_ret;unfold yO;try rw [qk r.out]
  try rw [qk r.out]
  exact⟨rfl,H,qE.jq y⟩
theorem dP (W:World) (a c:TypeId) (b d:Value) (e:a≠c\/True):
  Blk ((W.alloc (.cells #[b] a)).alloc (.cells #[d] c)) W a #[b]/\Blk ((W.alloc (.cells #[b] a)).alloc (.cells #[d] c)) (W.heap.size+1) c #[d]/\Below W W ((W.alloc (.cells #[b] a)).alloc (.cells #[d] c)):=by
 refine⟨(Blk.new W a #[b]).alloc _, ?_,(z8 _).alloc s8 _⟩;have h:=Blk.new (W.alloc (.cells #[b] a)) c #[d];rwa [vY] at h
theorem UD {W a b:World} {g c:Nat} (h:Below W W a) (f:qE [g,c] a b) (i:W.heap.size<=c):qE [g] W b:=
 (qE.jq (l:=[g]) h).trans f (λk d=>by rcases qL.1 d with e|e;exact .inl (by simp [e]);exact .inr (by simp at e;omega))
theorem eA (R:q') (m h B bm c:Nat) (b:qn) (a:Int) (v:Value) (W:World) (f:Reads W B 1 R m (b.map B8)) (n:m<=1000000000) (j:a<=9223372036854775807) (i:Blk W bm 3 #[a]) (d:Blk W c 3 #[v]):
  Calls prog 151 #[.slice R m h, .pointer bm, .pointer c] W λe g=>e= .returned (.tuple #[.int .i64 (Q0 b a).2.1, .int .i64 (Q0 b a).2.2])/\qE [c] W g/\Blk g c 3 #[.int .i64 (Q0 b a).1]:=by
 have l:=qj (d_ R m h B b a W f n j);have c1:=i.cell 0;have c0:=d.cell 0;have q:=d.frozen 0;have o:=qj d;generalize Q0 b a=s at*;obtain⟨x,k,r⟩:=s;dsimp only at*;clear f d i;go_in;go_wp2_with fail;refine Ω l ?_;go_wp2;go_ret2;exact⟨rfl,(qE.refl [c] _).zh (p:= c) s8 _,o.zh 0 _⟩
theorem yK (W:World) (g:Nat) (A:q') (n cap:Nat) (b:qn) (c:Cu) (a:Int) (h:Cur W g A n cap b c) (H:a<=9223372036854775807):
  Calls prog 107 #[.pointer g,a] W (jS W g A n cap b (.int .i64 (jU b a c).1) (jU b a c).2):=by
 obtain⟨r,v,z⟩:=dP W 3 3 a () (.inr trivial);have h1:=h.fresh z;have w:W.heap.size+1≠g:=λe=>by have:=h.blk.lt;omega
 have E:W.heap.size+1∉fpS A:=λe=>by have:=(zj h.own _ e).2;omega
 have C:=cX (b.drop c.at_) a;have D:=h.len;have d:=qj (mU _ g _ A n cap _ c h1 _ _ _ w E
  (λJ y=>eA _ _ _ _ _ _ _ a _ J ((h1.dr y).rest) (by have:=h.lim;omega) H ((y.below _).block _ r.lt|>.trans r) ((y.below _).block _ v.lt|>.trans v)) (λF j u L=>L.far w u) (λ_=>by rw [qI,D] at C;have:=h.le;omega))
 have m:=eC (b.drop c.at_) a;unfold jS jU;generalize Q0 (b.drop c.at_) a=s at*;obtain⟨x,k,K⟩:=s;dsimp only at*;have I:=qj h1;have B:=qj z;clear h h1 z E C D w;unfold yt at d;by_cases f:c.err=0
 ·simp only [qk f] at d;by_cases o:K=0
  ·subst o;rw [qw rfl] at d;have t:=qj f;clear m f;go_in;go_wp2_with fail;refine zC d ?_;rintro G ⟨l,i,q⟩;have c0:=q.cell 0;replace l:=qj l;replace i:=qj i;go_wp2;go_ret;exact⟨rfl,l,UD B i (jv _)⟩
  ·rw [qc o] at d;have t:=qj f;have m:=qj (m o);clear f o;go_in;go_wp2_with fail;refine zC d ?_;rintro G ⟨l,i,q⟩;replace l:=qj l;replace i:=qj i;clear q;go_wp2;go_ret;rw [m.out];exact⟨rfl,l,UD B i (jv _)⟩
 ·simp only [qJ f] at d;have t:=qj f;clear f;go_in;go_wp2_with fail;refine Ω d ?_;go_wp2;go_ret;unfold yO;try rw [qk t.out]
  try rw [qk t.out]
  exact⟨rfl,I,qE.jq B⟩
def mf (W:World) (b:Nat) (a:qn):Prop:= ∃A c,Blk W b 30 #[.slice A a c]/\W.ownsRow b 5 1 (.slice A a c) a (a.map B8)
theorem CQ (R:q') (m j bm a:Nat) (b:qn) (k:Int) (W:World) (f:Reads W W 1 R m (b.map B8)) (H:m<=1000000000) (G:m<=j) (d:Blk W bm 3 #[k]) (g:Blk W a 30 #[zn]):
  Calls prog 190 #[.slice R m j, .pointer bm, .pointer a] W λe w=>e= .returned (.tuple #[.int .i64 (if k<0\/(b.length:Int)<k then 0 else k), .int .i64 (if k<0 then 13 else if(b.length:Int)<k then 1 else 0)])/\qE [a] W w/\mf w a (if k<0\/(b.length:Int)<k then [] else b.take k.toNat):=by
 have c1:=d.cell 0;have h:=f.len;rw [h];have nil:mf W a []:=⟨_,0,g,qP _ _ _ _⟩;have i:=qj g;have o:=qj d;by_cases h0:k<0
 focus simp only [qk (show k<0\/(m:Int)<k from .inl h0),qk h0]
 rotate_left
 focus
  obtain⟨q,rfl⟩: ∃q:Nat,k=(q:Int):=⟨k.toNat,uK⟩;by_cases h1:m<q
  focus
   have n:=j' m q;have s: ¬(q:Int)<0:=uK;simp only [qk (show(q:Int)<0\/(m:Int)<q from .inr n),qJ s,qk n]
  rotate_left
  ·have n:=vv m q;have s: ¬(q:Int)<0:=uK;simp only [qJ (show¬((q:Int)<0\/(m:Int)<q) by omega),qJ s,qJ n];have u:=qj (yV R q j W _ W (f.takeN uK) (qx _) uK);unfold jQ at u;have F:=xi q;have E:=vc q j;have B:Hid ((b.take q).length=q):=by rw [Hid,qh,h];omega
   clear f h g d nil;go_in;go_wp2_with fail;refine u.mono ?_;rintro e I ⟨v,y,rfl,l⟩;have c:=i.below l.2 i.lt;have c0:=c.cell 0;have C:=c.frozen 0;have x:=o.below l.2 o.lt;have t:=Blk.ne_ o i FV;have D:=(x.far (p:= a) t (.slice v q y)).cell 0;have r:=qj l;replace c:=qj c;clear l x c1 t;go_wp2;go_ret2;have z:(b.take (q:Int).toNat).length=q:=by rw [zc];exact B
   refine⟨rfl,(qE.jq r.out.2).zh (p:= a) s8 _,v,y, ?_⟩;rw [z];exact⟨c.zh 0 _,((qE.refl [a] _).zh (p:= a) s8 _).own (qi r.out.1 (zr i.lt)) (λk A=>by rw [qy];exact qT r.out.1 c FV k A)⟩
 all_goals
  clear f h g d;go_wp2;go_ret2;exact⟨rfl,qE.refl _ _,nil⟩
end
section
open Go.RowKit Go.Maps
variable {A:q'}{B M b base c g m n:Nat}{a w w':World}{bs:qn}{e:TypeId}{f:List Value}
def ka (t:Nat×Nat×Nat):List Value:=[.int .u8 (t.1:Int), .int .i64 (t.2.1:Int), .int .i64 (t.2.2:Int)]
def QN (l:List (Nat×Nat×Nat)):List Value:=(l.map ka).flatten
theorem Ua (a b:List (Nat×Nat×Nat)):QN (a++b)=QN a++QN b:=by simp [QN]
theorem BV (t:Nat×Nat×Nat):QN [t]=ka t:=by simp [QN]
theorem Ed:(prog.info? 193).map (λi=>(i.zero,i.size,i.bytes))=some (some (.agg #[.int .u8 0,(),()]),3,24):=AL
theorem Pb:(prog.info? 193).map (·.size)=some 3:=AL
theorem Wc (t:Nat×Nat×Nat): ∀u∈ka t,u.oneCell'=true:=by
 intro u a;simp only [ka,qL,xj,Ze] at a;rcases a with rfl|rfl|rfl<;>rfl
theorem BY (w:World) (t:Nat×Nat×Nat) (a:TypeId):Reads (w.alloc (.cells (ka t).toArray a)) (w.heap.size+1) 3 w 1 (ka t):=by
 refine⟨rfl,λ_=>⟨_,rfl,ze _,λj u b=> ?_⟩⟩;have e:(w.heap.size:Addr).add j=⟨w,j,none⟩:=by unfold Addr.add;split<;>simp_all
 rw [e,(Blk.new w a (ka t).toArray).cell j];simpa using b
theorem BK {d:List Value} (h:w.ownsRow base 193 3 (.slice A n c) n d) (f:Qx w w'):w'.ownsRow base 193 3 (.slice A n c) n d:=by
 refine vT h λa e=> ?_;obtain⟨i,g,b⟩:=yk h _ (by rw [e];rfl);rw [f _ _ _ _ b FV FV,b]
theorem X4 {size:Nat} {b:List Value} (h:w.ownsRow base e size (.slice A n c) n b) (g:Below w w w'):w'.ownsRow base e size (.slice A n c) n b:=by
 refine vT h λa d=>g.block _ ?_;obtain⟨j,i,f⟩:=yk h _ (by rw [d];rfl);exact yF f
def Dy (w w':World):Prop:= ∀(k:Nat) (o:Obj),w.heap[k]? =some o->(∀(a:Array Value) (b:Nat×Nat),o≠ .cells a 193 b)->w'.heap[k]? =some o
theorem Chn.keep (h:Chn w base g bs m M A c) (b:Dy w w'):Chn w' base g bs m M A c:=by
 obtain⟨h1,h2,h3,h4,h5⟩:=h;refine⟨b g _ h1 (λf d e=>by injection e with _ e;exact absurd e FV),h2,h3, ?_,vT h5 λa k=> ?_⟩
 ·obtain⟨n,l,j⟩:=UC h4;exact X3 h4 ((b M _ j (λf d e=>by cases e)).trans j.symm)
 ·obtain⟨f,d,i⟩:=yk h5 _ (by rw [k];rfl);exact(b _ _ i (λf d e=>by injection e with _ e;exact absurd e FV)).trans i.symm
theorem Cc {d:Array Value} (f:Blk w b 193 d) (c:Array Value):Dy w (w.setRow b c):=λk o a e=>by
 have h:k≠b:=by
  rintro rfl;have g:w.heap[k]? =some (.cells d 193):=f;rw [g] at a;injection a with a
  exact e _ _ a.symm
 exact(QO w b k c h).trans a
theorem ED (h:w.ownsRow base 193 3 (.slice A n c) n f) (g:w.grownBy w' (A.map (·.block))):Dy w w':=λk o a b=>by
 refine(g.block k (yF a) λe=> ?_).trans a;obtain⟨j,i,d⟩:=yk h k e.symm;rw [d] at a;injection a with a
 exact b _ _ a.symm
theorem Ef (w:World) (o:Obj):Dy w (w.alloc o):=λk _ a _=>(heap_alloc_old w o (yF a)).trans a
theorem Dy.trans {b c:World} (h:Dy a b) (e:Dy b c):Dy a c:=λk o f d=>e k o (h k o f d) d
theorem tL {size:Nat} (h:w.ownsRow base e size (.slice A n c) n f) (i: ∀a,A=some a->a.block≠b) (d:Array Value):(w.setRow b d).ownsRow base e size (.slice A n c) n f:=
 vT h λa g=>QO w b _ d (i a g)
theorem lJ {W:World} {b0 i h:Nat} {b e:q'} {l:List Value} {o:Obj} (j:Below b0 w W) (d:b0<=W.heap.size) (k:Chn W b0 g bs i M b h) (c:W.ownsRow b0 193 3 (.slice e m n) m l) (f:(W.alloc o).grownBy a (e.map (·.block))):Below b0 w a/\Chn a b0 g bs i M b h:=
 ⟨zG (j.alloc d o) f (c.alloc o) (qv d s8),k.keep ((Ef W o).trans (ED (c.alloc o) f))⟩
theorem MZ (A:q') (n c B:Nat) (bs:qn) (w:World) (h:Reads w B 1 A n (bs.map B8)) (F:B<=w.heap.size) (hn:n<4294967296):
  Calls prog 87 #[.slice A n c] w λe w'=> ∃A' c',e= .returned (.slice A' (P9 bs).length c')/\w'.ownsRow w 193 3 (.slice A' (P9 bs).length c') (P9 bs).length (QN (P9 bs))/\Below w w w':=by
 have hl:=h.len;have H:=qj h;have L:=qj hl;obtain⟨i0,D',z',G',N6⟩:=xt Ed;have hz:=(jb (show(prog.info? 193).map (λi=>(i.zero,i.size))=some (some (.agg #[.int .u8 0,(),()]),3) by kernel_rfl)).1;have hmm:= @run_makeMap prog;clear h hl;go_in;go_wp2_with fail;have N9:Chn ((w.alloc (.map #[] 0)).alloc (.cells #[.map (some w.heap.size),zn] 200)) w (w.heap.size+1) bs 0 w none 0:=
  ⟨(by simpa using Blk.new (w.alloc (.map #[] 0)) 200 #[.map (some w.heap.size),zn]),jv _,qx _,(World.ownsMap_made w prog 269 _).alloc _,qP _ _ _ 1⟩
 have P':Below w w ((w.alloc (.map #[] 0)).alloc (.cells #[.map (some w.heap.size),zn] 200)):=(z8 _).alloc s8 _;generalize ((w.alloc (.map #[] 0)).alloc (.cells #[.map (some w.heap.size),zn] 200))=w0 at*;replace N9:=qj N9;replace P':=qj P';clear hmm;go_loopw [4,5] (λv4 G wr=> ∃(i r:Nat) (l:q') (d:List (Nat×Nat×Nat)),v4= .slice l d r/\G=(i:Value)/\i<=n/\d.length<=i/\Hid (d++gL bs i=P9 bs)/\Hid (Below w w wr)/\Hid (∃s q,Chn wr w (w.heap.size+1) bs i w s q)/\Hid (wr.ownsRow w 193 3 (.slice l d r) d (QN d))) (λ_ G _=>n-(intOf G).toNat)
 ·exact⟨0,0,none,[],rfl,rfl,uK,qx _,rfl,P',⟨none,0,N9⟩,qP _ _ _ 3⟩
 ·obtain⟨i,r,l,d,rfl,rfl,hi,hd,Z,T,HC,HO⟩:=hrel;by_cases m':i<n
  ·have hlt':(i:Int)<n:=uK;obtain⟨s,q,hC⟩:=HC.out;replace hC:=qj hC;clear HC;have Z':=H.below (T.mono F);obtain⟨ad,rfl,hcell⟩:=VZ Z' uK;have cx:=hcell i (by rw [L.out];exact m');generalize U':(bs.getD i 0).toNat=x at*;replace U':=qj U';clear hcell Z';have Y':=T.size;have X: ∀a,l=some a->a.block≠wr.heap.size:=λa ha e=>by
    obtain⟨cs,fr,hc⟩:=yk HO a.block (by rw [ha];rfl);have:=yF hc;omega
   replace X:=qj X;go_wp2_with fail;have t:Below w w (wr.alloc (.cells #[.int .u8 (x:Int),(),()] 193)):=T.alloc Y' _;have V:Chn (wr.alloc (.cells #[.int .u8 (x:Int),(),()] 193)) w (w.heap.size+1) bs i w s q:=hC.below (z8 _);have J':=X4 HO ((qZ wr.heap.size wr).alloc (qx _) (.cells #[.int .u8 (x:Int),(),()] 193));have iL:Blk (wr.alloc (.cells #[.int .u8 (x:Int),(),()] 193)) wr.heap.size 193 #[.int .u8 (x:Int),(),()]:=Blk.new _ _ _;generalize wr.alloc (.cells #[.int .u8 (x:Int),(),()] 193)=w1,wr.heap.size=g at*;revert t V J' iL;refine yl ?_;intro t V J' iL;refine(EP (some ad) n c B w i (w.heap.size+1) w q s bs w1 (H.below (t.mono F)) (qv F t.size) hi uK V).mono ?_;rintro e f ⟨b,d1,N,rfl,P⟩;have M':=qj (t.trans (P.mono t.size));have I':=qj (V.below P);have u':=qj (X4 J' P);have E:=qj (iL.below P iL.lt);replace N:=qj N;clear P T HO;by_cases h3:3<=b
   ·have h3':(3:Int)<=b:=uK;have p:Hid (3<=(DA bs i).1/\(DA bs i)=(b,d1)):=by
     rcases N.out with⟨h,e⟩|⟨_,e⟩
     ·exact⟨h,e.symm⟩
     ·injection e with e1 _;omega
    have HS:Hid (Fa bs i=b):=by
     unfold Fa;rw [qk p.out.1,p.out.2];rfl
    have U:Hid (GF bs i=(0,b,d1)):=by
     unfold GF;rw [qk p.out.1,p.out.2];rfl
    have Hend:i+b<=n:=by
     have h:=H6 bs i (by rw [L.out];exact m');rw [HS.out,L.out] at h;exact h
    have W:(f.setRow g #[.int .u8 0,b,d1]).heap.size=f.heap.size:=by rw [Xk]
    have o:Hid (Below w w (f.setRow g #[.int .u8 0,b,d1])):=zu M' Y' _;have O:Hid (Chn (f.setRow g #[.int .u8 0,b,d1]) w (w.heap.size+1) bs i w s q):=I'.keep (Cc E _);have M:Hid ((f.setRow g #[.int .u8 0,b,d1]).ownsRow w 193 3 (.slice l d r) d (QN d)):=tL u' X _;have Y:Hid (Blk (f.setRow g #[.int .u8 0,b,d1]) g 193 #[.int .u8 0,b,d1]):=E.row _;go_wp2_with (first
     |(refine ja rfl 193 _ rfl g rfl 193 #[.int .u8 0, .int .i64 (b:Int), .int .i64 (d1:Int)] (0,0) _ Y jc rfl Pb ?_)
     |(refine qC rfl 193 _ _ rfl g #[.int .u8 0, .int .i64 (b:Int), .int .i64 (d1:Int)] rfl rfl 193 #[.int .u8 (x:Int), .int .i64 0, .int .i64 0] E Pb rfl (by simp [Value.oneCell']) ?_)
     |(at_builtin;refine qF _ rfl (.tmp 35) (.tmp 37) 135 rfl w 193 i0 (.agg #[.int .u8 0, .int .i64 0, .int .i64 0]) 3 24 underlying135 D' z' G' N6 rfl uK l d r _ rfl (M.alloc _) ((f.setRow g #[.int .u8 0, .int .i64 (b:Int), .int .i64 (d1:Int)]).heap.size+1) (some ⟨(f.setRow g #[.int .u8 0, .int .i64 (b:Int), .int .i64 (d1:Int)]).heap.size,0,none⟩) 1 1 (ka (0,b,d1)) (by first|rfl|(rw [W];rfl)) (BY _ (0,b,d1) _) (Wc _) SJ uK (qv o.size s8) ?_;intro I D w3 m R OX;have S:=qj (lJ o o.size O M R);clear R OX;replace m:=qj m))
    have X':Hid ((d++[(0,b,d1)])++gL bs (i+b)=P9 bs):=by
     have h:=Z.out;rw [H8 bs i (by rw [L.out];exact m'),U.out,HS.out] at h;rw [jY];exact h
    have S':Hid (w3.ownsRow w 193 3 (.slice I (d.length+1) D) (d.length+1) (QN (d++[(0,b,d1)]))):=by
     rw [Ua,BV];exact m.out
    clear W Z N;go_loopw [5,40] (λG C wr=> ∃(k K:Nat) (u:q'),G= .int .i64 ((i+k:Nat):Int)/\C=(k:Value)/\k<=b/\Hid (Below w w wr)/\Hid (Chn wr w (w.heap.size+1) bs (i+k) w u K)/\Hid (wr.ownsRow w 193 3 (.slice I (d.length+1) D) (d.length+1) (QN (d++[(0,b,d1)])))) (λ_ C _=>b-(intOf C).toNat)
    ·exact⟨0,q,s,rfl,rfl,uK,S.out.1,S.out.2,S'⟩
    ·obtain⟨k,K,u,rfl,rfl,hk,j,y,z⟩:=hrel;by_cases hkl:k<b
     ·have hkl':(k:Int)<(b:Nat):=uK;have d':=qj (F4 (some ad) n c B w (i+k) (w.heap.size+1) w K u bs wr (H.below (j.mono F)) F j.size uK hn y);go_wp2_with fail;refine d'.mono ?_;rintro e w4 ⟨⟨v,rfl⟩,⟨A4,c4,J⟩,p',Q⟩;have N':=qj (j.trans p');have O':=qj (BK z Q);replace J:=qj J;clear p' Q j z y;go_wp2_with fail;refine xk ?_;exact⟨k+1,c4,A4,xh,xh,uK,N',J,O'⟩
     ·have Q':b=k:=uK;subst Q';go_wp2_with fail;refine xk ?_;exact⟨i+b,D,I,d++[(0,b,d1)],s8,xh,uK,SZ,X',j,⟨_,_,y⟩,by simpa [Hid] using z.out⟩
   ·have p:Hid ((DA bs i).1<3):=by
     rcases N.out with⟨h,e⟩|⟨h,_⟩
     ·rw [<-e] at h;exact absurd h h3
     ·exact h
    have HS:Hid (Fa bs i=1):=by
     unfold Fa;rw [qJ (by have:=p.out;omega)];rfl
    have U:Hid (GF bs i=(x,0,0)):=by
     unfold GF;rw [qJ (by have:=p.out;omega),U'.out];rfl
    have Hend:i+1<=n:=by
     have h:=H6 bs i (by rw [L.out];exact m');rw [HS.out,L.out] at h;exact h
    have W:(f).heap.size=f.heap.size:=rfl;have o:=qj M'.out;have O:=qj I'.out;have M:=qj u'.out;have Y:=qj E.out;go_wp2_with (first
     |(refine ja rfl 193 _ rfl g rfl 193 #[.int .u8 (x:Int), .int .i64 0, .int .i64 0] (0,0) _ Y jc rfl Pb ?_)
     |(refine qC rfl 193 _ _ rfl g #[.int .u8 0, .int .i64 (b:Int), .int .i64 (d1:Int)] rfl rfl 193 #[.int .u8 (x:Int), .int .i64 0, .int .i64 0] E Pb rfl (by simp [Value.oneCell']) ?_)
     |(at_builtin;refine qF _ rfl (.tmp 35) (.tmp 37) 135 rfl w 193 i0 (.agg #[.int .u8 0, .int .i64 0, .int .i64 0]) 3 24 underlying135 D' z' G' N6 rfl uK l d r _ rfl (M.alloc _) ((f).heap.size+1) (some ⟨(f).heap.size,0,none⟩) 1 1 (ka (x,0,0)) (by first|rfl|(rw [W];rfl)) (BY _ (x,0,0) _) (Wc _) SJ uK (qv o.size s8) ?_;intro I D w3 m R OX;have S:=qj (lJ o o.size O M R);clear R OX;replace m:=qj m))
    have X':Hid ((d++[(x,0,0)])++gL bs (i+1)=P9 bs):=by
     have h:=Z.out;rw [H8 bs i (by rw [L.out];exact m'),U.out,HS.out] at h;rw [jY];exact h
    have S':Hid (w3.ownsRow w 193 3 (.slice I (d.length+1) D) (d.length+1) (QN (d++[(x,0,0)]))):=by
     rw [Ua,BV];exact m.out
    clear W Z N;go_loopw [5,40] (λG C wr=> ∃(k K:Nat) (u:q'),G= .int .i64 ((i+k:Nat):Int)/\C=(k:Value)/\k<=1/\Hid (Below w w wr)/\Hid (Chn wr w (w.heap.size+1) bs (i+k) w u K)/\Hid (wr.ownsRow w 193 3 (.slice I (d.length+1) D) (d.length+1) (QN (d++[(x,0,0)])))) (λ_ C _=>1-(intOf C).toNat)
    ·exact⟨0,q,s,rfl,rfl,uK,S.out.1,S.out.2,S'⟩
    ·obtain⟨k,K,u,rfl,rfl,hk,j,y,z⟩:=hrel;by_cases hkl:k<1
     ·have d':=qj (F4 (some ad) n c B w (i+k) (w.heap.size+1) w K u bs wr (H.below (j.mono F)) F j.size uK hn y);go_wp2_with fail;refine d'.mono ?_;rintro e w4 ⟨⟨v,rfl⟩,⟨A4,c4,J⟩,p',Q⟩;have N':=qj (j.trans p');have O':=qj (BK z Q);replace J:=qj J;clear p' Q j z y;go_wp2_with fail;refine xk ?_;exact⟨k+1,c4,A4,xh,xh,uK,N',J,O'⟩
     ·have Q':k=1:=uK;subst Q';go_wp2_with fail;refine xk ?_;exact⟨i+1,D,I,d++[(x,0,0)],s8,xh,uK,SZ,X',j,⟨_,_,y⟩,by simpa [Hid] using z.out⟩
  ·obtain rfl:i=n:=uK;have He:Hid (d=P9 bs):=by
    have h:=Z.out;rw [NG bs i (by rw [L.out];exact qx _),jx] at h;exact h
   go_wp2;go_ret;have e:=He.out;subst e;exact⟨l,r,rfl,HO,T⟩
end
section
open Go.RowKit
variable {B:Nat}
theorem mF {W:World} {a g:Nat} {d:qn} (h:mf W a d) (i:g<a) (j:Nat) (u:Value):mf (W.setCell ⟨g,j,none⟩ u) a d:=by
 obtain⟨A,c,e,b⟩:=h;refine⟨A,c,e.far (p:=⟨g,j,none⟩) (by show a≠g;omega) u, ?_⟩;exact((qE.refl [g] W).zh (p:=⟨g,j,none⟩) s8 u).own b λk f=>by have:=(zj b k f).1;simp;omega
def X1 (W:World) (g:Nat) (A:q') (n cap:Nat) (b a:qn) (c:Cu) (e:Ending) (d:World):Prop:= ∃f c1,e= .returned (.slice f a c1)/\Cur d g A n cap b c/\qE [g] W d/\d.ownsRow W 5 1 (.slice f a c1) a (a.map B8)
theorem eE (b:qn) (c:Cu) (k:Int):Xv b k c=if k<0 then 13 else if((b.drop c.at_).length:Int)<k then 1 else 0:=rfl
theorem mg (b:qn) (c:Cu) (k:Int):Xv b k c≠0↔(k<0\/((b.drop c.at_).length:Int)<k):=by
 rw [eE];split
 ·rename_i h;exact⟨λ_=> .inl h,λ_=>FV⟩
 ·rename_i h;split
  ·rename_i h2;exact⟨λ_=> .inr h2,λ_=>FV⟩
  ·rename_i h2;exact⟨λa=>absurd rfl a,λa=>absurd a (not_or.2 ⟨h,h2⟩)⟩
theorem tp (b:qn) (c:Cu) (k:Int) (kk:Nat) (e:Xv b k c≠0↔(k<0\/((b.drop c.at_).length:Int)<k)) (f:Xv b k c=0->kk=k.toNat):
  jW b k c=(if c.err≠0 then [] else(if k<0\/((b.drop c.at_).length:Int)<k then [] else(b.drop c.at_).take k.toNat),yO c kk (Xv b k c)):=by
 unfold jW yO;by_cases h0:c.err≠0
 ·rw [qk (.inl h0),qk h0,qk h0,qk h0]
 ·by_cases d:k<0\/((b.drop c.at_).length:Int)<k
  ·have a:=e.2 d;rw [qk (.inr a),qJ h0,qk d,qJ h0,qk a,qJ h0,qk a]
  ·have a:=yQ λh=>d (e.1 h);rw [qJ (by rw [a];simp;exact ym.1 h0),qJ h0,qJ d,qJ h0,qJ (by simp [a]),qJ h0,qJ (by simp [a]),f a]
theorem Qs (W:World) (g:Nat) (A:q') (n cap:Nat) (b:qn) (c:Cu) (k:Int) (h:Cur W g A n cap b c):
  Calls prog 153 #[.pointer g,k] W (X1 W g A n cap b (jW b k c).1 (jW b k c).2):=by
 obtain⟨l,f,r⟩:=dP W 3 30 k zn (.inr trivial);have h1:=h.fresh r;have x:W.heap.size+1≠g:=λe=>by have:=h.blk.lt;omega
 have N:g<W.heap.size+1:=by have:=h.blk.lt;omega
 have C:W.heap.size+1∉fpS A:=λe=>by have:=(zj h.own _ e).2;omega
 have B:=h.len;have K:(b.drop c.at_).length=n-c.at_:=by rw [qI,B]
 have o:=mg b c k;obtain⟨kk,y,w⟩: ∃kk:Nat,(if k<0\/((b.drop c.at_).length:Int)<k then 0 else k)=(kk:Int)/\(Xv b k c=0->kk=k.toNat/\kk<=n-c.at_):=by
  by_cases i:k<0\/((b.drop c.at_).length:Int)<k
  ·exact⟨0,by rw [qk i];rfl,λh0=>absurd h0 (o.2 i)⟩
  ·refine⟨_,by rw [qJ i];omega,λ_=>⟨rfl,uK⟩⟩
 have d:=qj (mU _ g _ A n cap _ c h1 kk (Xv b k c) _ x C
  (λJ q=>by rw [<-y,eE];exact CQ _ _ _ _ _ _ k J ((h1.dr q).rest) (by have:=h.lim;omega) (by have:=(jC h.own).1;omega) ((q.below _).block _ l.lt|>.trans l) ((q.below _).block _ f.lt|>.trans f)) (λD j u i=>mF i N j u) (λh0=>by have:=w h0;have:=h.le;omega))
 have G:=tp b c k _ o (λh0=>(w h0).1);unfold X1;rw [G];clear G y o w K;generalize (if k<0\/((b.drop c.at_).length:Int)<k then [] else(b.drop c.at_).take k.toNat)=O,Xv b k c=L at*;have H:=qj h1;have F:=qj r;clear h h1 r C B x;replace f:=qj f;unfold yt at d;have c0:=f.cell 0;by_cases a:c.err=0
 ·simp only [qk a] at d;simp only [qJ (show¬c.err≠0 from λh=>h a)];clear a c0;obtain⟨m,z⟩:=j1 (decide (L=0));rw [<-z] at d;clear z;cases m<;>
  ·go_in;go_wp2_with fail;refine zC d ?_;rintro M ⟨v,s,I,c1,p,t⟩;have c0:=p.cell 0;revert v s t;refine vn ?_;intro v s t;go_wp2;go_ret;exact⟨I,_,rfl,v,UD F s (jv _),qi t (jv _)⟩
 ·simp only [qJ a] at d;simp only [qk a];have E:=qj a;clear a;go_in;go_wp2_with fail;refine Ω d ?_;go_wp2;go_ret;unfold yO;rw [qk E.out];exact⟨_,0,rfl,H,qE.jq F,qP _ _ _ _⟩
theorem QS (W:World) (g:Nat) (A:q') (n cap:Nat) (b:qn) (c:Cu) (h:Cur W g A n cap b c):
  Calls prog 108 #[.pointer g] W (jS W g A n cap b (B8 (j_ b c).1) (j_ b c).2):=by
 have i:=qj (Qs W g A n _ b c 1 h);have q:(jW b 1 c).1=[]\/ ∃y,(jW b 1 c).1=[y]:=by
  show(if c.err≠0\/Xv b 1 c≠0 then [] else(b.drop c.at_).take 1)=[]\/ ∃y,(if c.err≠0\/Xv b 1 c≠0 then [] else(b.drop c.at_).take 1)=[y];split
  ·exact .inl rfl
  ·cases b.drop c.at_ with
   |nil=>exact .inl rfl
   |cons y t=>exact .inr ⟨y,rfl⟩
 unfold jS j_;unfold X1 at i;generalize (jW b 1 c).1=w,(jW b 1 c).2=s at*;clear h;rcases q with rfl|⟨y,rfl⟩;rotate_left;rotate_left
 all_goals
  go_in;go_wp2_with fail;refine i.mono ?_;rintro e l ⟨m,c1,rfl,d,a,f⟩
 ·replace d:=qj d;replace a:=qj a;clear f;go_wp2;go_ret;exact⟨rfl,d,a⟩
 ·obtain⟨p,u,rfl,-,j,r⟩:=(Reads.zY f).at_ (k:=0) s8;have o:u=B8 y:=by simpa using j.symm
  subst o;have v:l.cell? p=some (B8 y):=r;clear f j;replace d:=qj d;replace a:=qj a;go_wp2;go_ret;exact⟨rfl,d,a⟩
theorem uu (W:World) (g:Nat) (A:q') (n cap:Nat) (b:qn) (c:Cu) (h:Cur W g A n cap b c):
  Calls prog 194 #[.pointer g] W (jS W g A n cap b (.int .i64 (PW b c).err) (PW b c)):=by
 have j:=qj (pb W g A n _ b c h);have o:=h.len;have p:=h.le;have H:=qj h;by_cases f:c.at_<b.length
 ·have d:PW b c=vP c 2:=by unfold PW;rw [qk f]
  rw [d];have h0:(0:Int)<((n-c.at_:Nat):Int):=uK;generalize n-c.at_=z at*;clear o p f h d;go_in;go_wp2_with fail;refine zC j ?_;intro m a;have r:=qj (yB m g A n _ b c 2 (H.dr a));replace a:=qj a;go_wp2_with fail;refine zC r ?_;rintro s ⟨i,k⟩;have l:=qj (jg s g A n _ b _ i);replace i:=qj i;replace k:=qj k;go_wp2_with fail;refine Ω l ?_;go_wp2;go_ret;exact⟨rfl,i,(qE.jq (a.below _)).then k⟩
 ·have d:PW b c=c:=by unfold PW;rw [qJ f]
  rw [d];have h0:n-c.at_=0:=uK;rw [h0] at j;clear o p f h d h0;go_in;go_wp2_with fail;refine zC j ?_;intro m a;have l:=qj (jg m g A n _ b _ (H.dr a));replace a:=qj a;go_wp2_with fail;refine Ω l ?_;go_wp2;go_ret;exact⟨rfl,H.dr a,qE.jq (a.below _)⟩
end
section
open Go.RowKit Go.Maps
variable {B:Nat}
theorem nZ (l:List (Nat×Nat×Nat)):(QN l).length=l.length*3:=by
 induction l with
 |nil=>rfl
 |cons a l b=>
  rw [show QN (a::l)=ka a++QN l by simp [QN]];rw [qK,b,qf];simp only [ka,qf,zF];omega
theorem UA: ∀(l:List (Nat×Nat×Nat)) (j f:Nat) (h:j<l.length),f<3->(QN l)[j*3+f]? =(ka l[j])[f]?
 |a::l,0,f,_,b=>by
  rw [show QN (a::l)=ka a++QN l by simp [QN],jd,jL,q_ (by simp only [ka,qf,zF];omega)]
  rfl
 |a::l,j+1,f,h,b=>by
  rw [show QN (a::l)=ka a++QN l by simp [QN],qm (by simp only [ka,qf,zF];omega)]
  rw [show(j+1)*3+f-(ka a).length=j*3+f by simp only [ka,qf,zF];omega]
  exact UA l j f _ b
theorem nJ {w:World} {n:Nat} {A:q'} {l:List (Nat×Nat×Nat)} (h:Reads w B 3 A n (QN l)) (j:Nat) (c:j<l.length): ∃a,A=some a/\a.block<B/\w.cell? (a.add (j*3))=some (.int .u8 ((l[j].1:Nat):Int))/\w.cell? (a.add (j*3+1))=some (((l[j].2.1:Nat):Int):Value)/\w.cell? (a.add (j*3+2))=some (((l[j].2.2:Nat):Int):Value):=by
 have e:=h.1;rw [nZ] at e;obtain⟨a,f,d,b⟩:=h.2 uK;have h0:=UA l j 0 c uK;have h1:=UA l j 1 c uK;have h2:=UA l j 2 c uK;exact⟨a,f,d,b _ _ (by simpa [ka] using h0),b _ _ h1,b _ _ h2⟩
theorem F6 (d len a:Int) (w:World):Calls prog 202 #[.agg #[.int .u8 d,len,a]] w λe w'=>e= .returned (.bool (YB d len a))/\Below w w w':=by
 have c: ∀o,Below w w (w.alloc o):=λo=>z8 o;replace c:=qj c;by_cases h0:len=0
 ·have b:Hid (YB d len a=(a==0)):=by
   unfold YB;rw [qk h0,Hid,yx,zd,yp]
  subst h0;go_enter JP,ZW;go_wp2;go_ret;exact⟨j7 (by rw [b.out]),c.out _⟩
 have i:(len==0)=false:=by rw [zE];exact h0
 have f:Hid (YB d len a=decide (d=0/\3<=len/\len<=257/\1<=a/\a<=4095)):=by unfold YB;rw [qJ h0];rfl
 by_cases h1:d=0
 case neg=>
  have b:Hid (YB d len a=false):=by
   rw [Hid,f.out,zW];intro h;omega
  have g:(d==0)=false:=by rw [zE];exact h1
  clear h1 h0;go_enter JP,ZW;go_wp2;go_ret;exact⟨j7 (by rw [b.out]),c.out _⟩
 subst h1;by_cases h2:(3:Int)<=len
 case neg=>
  have b:Hid (YB 0 len a=false):=by
   rw [Hid,f.out,zW];intro h;omega
  have g:len<(3:Int):=uK;clear h2 h0;go_enter JP,ZW;go_wp2;go_ret;exact⟨j7 (by rw [b.out]),c.out _⟩
 by_cases h3:len<=(257:Int)
 case neg=>
  have b:Hid (YB 0 len a=false):=by
   rw [Hid,f.out,zW];intro h;omega
  have g:(257:Int)<len:=uK;clear h3 h0;go_enter JP,ZW;go_wp2;go_ret;exact⟨j7 (by rw [b.out]),c.out _⟩
 by_cases h4:(1:Int)<=a
 case neg=>
  have b:Hid (YB 0 len a=false):=by
   rw [Hid,f.out,zW];intro h;omega
  have g:a<(1:Int):=uK;clear h4 h0;go_enter JP,ZW;go_wp2;go_ret;exact⟨j7 (by rw [b.out]),c.out _⟩
 by_cases h5:a<=(4095:Int)
 case neg=>
  have b:Hid (YB 0 len a=false):=by
   rw [Hid,f.out,zW];intro h;omega
  have g:(4095:Int)<a:=uK;clear h5 h0;go_enter JP,ZW;go_wp2;go_ret;exact⟨j7 (by rw [b.out];first|rfl|(simp;omega)),c.out _⟩
 have b:Hid (YB 0 len a=true):=by
  rw [Hid,f.out,zd];omega
 clear h0;go_enter JP,ZW;go_wp2;go_ret;exact⟨j7 (by rw [b.out]),c.out _⟩
theorem F7 {w:World} {n:Nat} {A:q'} {l:List (Nat×Nat×Nat)} (h:Reads w B 3 A n (QN l)) (j:Nat) (c:j<l.length): ∃a,A=some a/\a.block<B/\w.cell? (a.add (j*3))=some (.int .u8 ((l[j].1:Nat):Int))/\
  w.cell? ⟨(a.add (j*3)).block,(a.add (j*3)).off+1,none⟩=some (((l[j].2.1:Nat):Int):Value)/\w.cell? ⟨(a.add (j*3)).block,(a.add (j*3)).off+2,none⟩=some (((l[j].2.2:Nat):Int):Value):=by
 obtain⟨a,b,d,h0,h1,h2⟩:=nJ h j c;rw [<-QZ,show(a.add (j*3)).add 1=⟨(a.add (j*3)).block,(a.add (j*3)).off+1,none⟩ from rfl] at h1;rw [<-QZ,show(a.add (j*3)).add 2=⟨(a.add (j*3)).block,(a.add (j*3)).off+2,none⟩ from rfl] at h2;exact⟨a,b,d,h0,h1,h2⟩
end
structure Rec where
 time:Nat
 level:Nat
 src:qn
 txt:qn
 deriving DecidableEq
def p8 (l:List Rec):Nat:=(l.map λr=>16+r.src.length+r.txt.length).sum
def X8 (r:Rec):Bool:=decide (4000<r.src.length)||decide (4000<r.txt.length)
def xu (l:List Rec):Int:=if 20000<l.length\/l.any X8=true\/1048576<p8 l then 6 else 0
def Dn (a:Bool) (r:Rec):qn:=(if a then xv r.time++[UInt8.ofNat r.level] else [])++(UQ r.src++UQ r.txt)
def Zb (a:Bool) (l:List Rec):qn:=(l.map (Dn a)).flatten
def FQ (b:qn) (a:Bool) (c:Cu):Rec×Cu:=
 let t:=if a then X7 b c else(0,c)
 let y:=if a then j_ b t.2 else(0,t.2)
 (⟨t.1,y.1.toNat,(xa b 4000 y.2).1,(xa b 4000 (xa b 4000 y.2).2).1⟩,(xa b 4000 (xa b 4000 y.2).2).2)
def gu (b:qn) (a:Bool):Nat->Cu->List Rec->Int×List Rec
 |0,c,d=>(0,d)
 |f+1,c,d=>if b.length<=c.at_ then(0,d) else if(FQ b a c).2.err≠0 then((FQ b a c).2.err,[]) else gu b a f (FQ b a c).2 (d++[(FQ b a c).1])
def hX (a:Bool) (b:qn):Int×List Rec:=gu b a b ⟨0,0⟩ []
def Yl (size:Int) (b:Bool):List Nat->Nat->List Rec->List Nat
 |a,_,[]=>a
 |a,c,r::t=>if a=[]\/max 1 size<((c+(Dn b r).length:Nat):Int) then Yl size b (a++[1]) (Dn b r).length t
  else Yl size b (a.dropLast++[a.getLastD 0+1]) (c+(Dn b r).length) t
def GX (size:Int) (a:Bool) (l:List Rec):List Nat:=Yl size a [] 0 l
def zig (d:Nat):Nat:=if d<9223372036854775808 then 2*d else 36893488147419103231-2*d
def zag (z:Nat):Nat:=if z%2=0 then z/2 else 18446744073709551615-z/2
def Kb:Nat->List Rec->qn
 |_,[]=>[]
 |a,r::t=>xv (zig ((r.time+18446744073709551616-a)%18446744073709551616))++Kb r.time t
def Ya (x:Nat):List Rec->Nat
 |[]=>0
 |r::t=>if r.level=x then Ya x t+1 else 0
def Xo:Nat->List Rec->qn
 |0,_=>[]
 |f+1,[]=>[]
 |f+1,r::t=>UInt8.ofNat r.level::xv (Ya r.level t+1)++Xo f (t.drop (Ya r.level t))
def ui (l:List Rec):qn:=Kb 0 l++Xo l l
def Q4 (b:qn):Nat->Nat->Cu->List Nat->List Nat×Cu
 |0,_,c,a=>(a,c)
 |f+1,d,c,a=>if c.err≠0 then(a,c) else Q4 b f ((d+zag (X7 b c).1)%18446744073709551616) (X7 b c).2 (a++[(d+zag (X7 b c).1)%18446744073709551616])
def fC (b:qn) (n:Nat) (a:qn) (c:Cu):UInt8×Nat×Cu:=
 let y:=j_ b c
 let k:=jU b ((n-a.length:Nat):Int) y.2
 (y.1,k.1,if k.2.err=0/\(k.1=0\/(a≠[]/\a.getLastD 0=y.1)) then vP k.2 2 else k.2)
def xx (b:qn) (n:Nat):Nat->Cu->qn->qn×Cu
 |0,c,a=>(a,c)
 |f+1,c,a=>if n<=a.length\/c.err≠0 then(a,c) else xx b n f (fC b n a c).2.2 (a++List.replicate (fC b n a c).2.1 (fC b n a c).1)
def ZG (n:Int) (b:qn):Int×List Nat×qn×Nat:=
 if n<0\/20000<n then(13,[],[],0)
 else
  let t:=Q4 b n.toNat 0 ⟨0,0⟩ []
  let v:=xx b n.toNat (n.toNat+1) t.2 []
  if v.2.err≠0 then(v.2.err,[],[],0) else(0,t.1,v.1,v.2.at_)
def pU (a n:Nat):Nat:=(if a/n=0 then 0 else Nat.log2 (a/n)+1)-1
def dy (a:Int):Int->List Int->Bool
 |_,[]=>true
 |b,x::t=>decide (b<x)&&(decide (x<a)&&dy a x t)
def Kc (w:Nat):Nat->Bw->List Nat->Bw
 |_,s,[]=>s
 |a,s,x::t=>Kc w (x/2^w) (U_ s (x/2^w-a)) t
def FZ (c:Nat) (a:List Nat):qn:=
 if a=[] then xv 0 else xv a.length++(Kc (pU c a) 0 (a.foldl (λs x=>Jh s (x%2^pU c a) (pU c a)) ⟨[],0⟩) a).b
def Ka (b:qn) (w:Nat):Nat->Nat->List Nat
 |0,_=>[]
 |n+1,at_=>QF b at_ w::Ka b w n (at_+w)
def Vi (b:qn) (d w:Nat):List Nat->Nat->Int->Nat->List Nat->Int×List Nat×Nat
 |[],_,_,at_,c=>(0,c,at_)
 |x::t,a,e,at_,c=>
  if uM b at_≠0 then(1,[],at_)
  else if(((a+Ju b at_)*2^w+x:Nat):Int)<=e then(2,[],pq b at_)
  else if d<=(a+Ju b at_)*2^w+x then(8,[],pq b at_)
  else Vi b d w t (a+Ju b at_) (((a+Ju b at_)*2^w+x:Nat):Int) (pq b at_) (c++[(a+Ju b at_)*2^w+x])
def Fz (a n:Nat) (b:qn):Int×List Nat×Nat:=
 if q7 b 0<n*pU a n then(1,[],0)
 else
  let r:=Vi b a (pU a n) (Ka b (pU a n) n 0) 0 (-1) (n*pU a n) []
  if r.1≠0 then(r.1,[],0)
  else if QF b r.2.2 (q7 b r.2.2%8)≠0 then(2,[],0)
  else(0,r.2.1,b.length-q7 b r.2.2/8)
def dw (a:Int) (b:qn):Int×List Nat×Nat:=
 if a<0\/20000<a then(13,[],0)
 else
  let n:=jU b a ⟨0,0⟩
  if n.2.err≠0 then(n.2.err,[],0)
  else if n.1=0 then(0,[],n.2.at_)
  else
   let r:=Fz a.toNat n.1 (b.drop n.2.at_)
   if r.1≠0 then(r.1,[],0) else(0,r.2.1,n.2.at_+r.2.2)
def ltB:qn->qn->Bool
 |_,[]=>false
 |[],_::_=>true
 |x::a,y::b=>decide (x<y)||(decide (x=y)&&ltB a b)
def dm (a s:qn):Bool:=decide (s≠[])&&(decide (s.length<=25)&&ltB a s)
def XO:qn->List (qn)->Bool
 |_,[]=>true
 |a,s::t=>dm a s&&XO s t
def Gf (l:List qn):Bool:=XO [] l&&decide (l.length<=1048576)
def kB:qn->qn->Nat
 |x::a,y::b=>if x=y then kB a b+1 else 0
 |_,_=>0
def Je:qn->List (qn)->qn
 |_,[]=>[]
 |a,s::t=>xv (kB a s)++UQ (s.drop (kB a s))++Je s t
def D1 (l:List qn):qn:=UQ (l.headD [])++Je (l.headD []) l.tail
def Hr (size:Nat):Nat->List (qn)->List (List qn)
 |0,_=>[]
 |f+1,l=>if l=[] then [] else l.take size::Hr size f (l.drop size)
def Hs (size:Nat) (l:List qn):List qn:=(Hr size l l).map D1
def gO (size:Nat) (l:List qn):qn:=xv l.length++((Hs size l).map λb=>xv b.length).flatten++(Hs size l).flatten
def JE (b a:qn) (first:Bool) (c:Cu):qn×Cu:=
 let n:=if first then(0,c) else jU b (a.length:Nat) c
 let r:=xa b 25 n.2
 if r.2.err≠0 then([],r.2)
 else
  let s:=a.take n.1++r.1
  (s,if r.1=[]\/dm a s=false\/(first=false/\kB a s≠n.1) then vP r.2 2 else r.2)
def QV (b:qn):Nat->Bool->Cu->List (qn)->Int×List qn
 |0,_,c,a=>((PW b c).err,a)
 |n+1,first,c,a=>
  if(JE b (a.getLastD []) first c).2.err≠0 then((JE b (a.getLastD []) first c).2.err,a)
  else QV b n false (JE b (a.getLastD []) first c).2 (a++[(JE b (a.getLastD []) first c).1])
def Q5 (b:qn):Nat->Cu->List Nat->List Nat×Cu
 |0,c,a=>(a,c)
 |f+1,c,a=>if c.err≠0 then(a,c) else Q5 b f (jU b 2000 c).2 (a++[(jU b 2000 c).1])
def yr (b:qn) (size:Nat):Nat->List Nat->Cu->List (qn)->Int×List qn×Nat
 |_,[],c,a=>if c.err≠0 then(c.err,[],0) else(0,a,c.at_)
 |n,k::t,c,a=>
  if(jW b k c).2.err≠0 then((jW b k c).2.err,[],0)
  else if(QV (jW b k c).1 (min size n) true ⟨0,0⟩ a).1≠0 then((QV (jW b k c).1 (min size n) true ⟨0,0⟩ a).1,[],0)
  else yr b size (n-size) t (jW b k c).2 (QV (jW b k c).1 (min size n) true ⟨0,0⟩ a).2
def D0 (size:Int) (b:qn):Int×List qn×Nat:=
 if size<1\/64<size then(13,[],0)
 else
  let n:=jU b 1048576 ⟨0,0⟩
  let z:=Q5 b ((n.1+size.toNat-1)/size.toNat) n.2 []
  yr b size.toNat n.1 z.1 z.2 []
end Go.Proofs.YtfnlfpcfkbdcmaaGreatDoor
