import Derived.Test.YtfnlfpcfkbdcmaaGreatDoorT03
import Derived.Test.YtfnlfpcfkbdcmaaGreatDoorT04
set_option linter.unusedSimpArgs false
set_option linter.unusedVariables false
set_option maxRecDepth 100000
set_option maxHeartbeats 0
open Go.Proofs.Tryz
namespace Go.Proofs.YtfnlfpcfkbdcmaaGreatDoor
open Go.RowKit
variable {A:q'}{W W':I}{b:qn}{c:Cu}{cap g n x:O}{l:S O}
structure Lr (W:I) (g:O) (A:q') (n cap:O) (b:qn) (c:Cu):Prop where
 blk:F' W g 161 #[Z A n cap,c.at_,c.err]
 own:xp W 0 5 1 (Z A n cap) n (b.map B8)
 le:c.at_<=n
 lim:n<=1000000000
theorem Lr.len (h:Lr W g A n cap b c):U b=n:=by have:=h.own.1;simpa using this
theorem Lr.jZ (h:Lr W g A n cap b c) (a:qE l W W') (e:g∉l) (d: ∀k∈K' A,k∉l):Lr W' g A n cap b c:=⟨a.blk h.blk e,a.own h.own d,h.le,h.lim⟩
theorem Lr.fresh (h:Lr W g A n cap b c) (a:r' W W W'):Lr W' g A n cap b c:=h.jZ (qE.jq (l:=[]) a) s8 s8
theorem Lr.dr (h:Lr W g A n cap b c) (a:Dr W W'):Lr W' g A n cap b c:=h.fresh (a.below _)
theorem Lr.fp (h:Lr W g A n cap b c): ∀k∈K' A,k≠g:=qT h.own h.blk FV
theorem Lr.rest (h:Lr W g A n cap b c):E' W W 1 (xo A cap c.at_ 1) (n-c.at_) ((b.drop c.at_).map B8):=(E'.zY h.own).VC h.le (jC h.own).1
theorem Lr.VH (h:Lr W g A n cap b c):i' W g=J (Z A n cap):=h.blk.cell 0
theorem Lr.V9 (h:Lr W g A n cap b c):i' W ⟨g,1,none⟩=J (c.at_:la):=h.blk.cell 1
theorem Lr.XZ (h:Lr W g A n cap b c):i' W ⟨g,2,none⟩=J (c.err:la):=h.blk.cell 2
theorem Lr.FB (h:Lr W g A n cap b c) (e:V):Lr (W.setCell ⟨g,2,none⟩ e) g A n cap b ⟨c.at_,e⟩:=
 ⟨h.blk.zh 2 _,(qE.refl [g] W|>.zh (p:=⟨g,2,none⟩) (qy.2 rfl) e).own h.own (λk a=>by simp [h.fp k a]),h.le,h.lim⟩
theorem Lr.setAt (h:Lr W g A n cap b c) (a:O) (d:a<=n):Lr (W.setCell ⟨g,1,none⟩ a) g A n cap b ⟨a,c.err⟩:=
 ⟨h.blk.zh 1 _,(qE.refl [g] W|>.zh (p:=⟨g,1,none⟩) (qy.2 rfl) a).own h.own (λk e=>by simp [h.fp k e]),d,h.lim⟩
theorem Qk (A:q') (n c B:O) (bs:qn) (w:I) (h:E' w B 1 A n (bs.map B8)) (p:B<=(w:O)) (l:n<=1000000000):
  xG 76 #[Z A n c] w λe w'=> ∃g d j,e=t' (mJ (some ⟨g,0,none⟩))/\Lr w' g d n j bs ⟨0,0⟩/\(w:O)<=g/\(∀k∈K' d,(w:O)<=k)/\r' w w w':=by
 have b:=T (yV A n c B _ w h p M);unfold jQ at b;go_in;go_wp2_with fail;refine b.mono ?_;rintro e f ⟨m,c1,rfl,i⟩;have a:=T i;clear i h;go_wp2;go_ret;refine⟨f,m,_,rfl,⟨F'.new f _ _,qi (qG a.out.1 (j1 _)) (qp _),qp _,l⟩,a.out.2.size,λk o=>(zj a.out.1 k o).1,a.out.2.alloc a.out.2.size _⟩
theorem Xa (W:I) (g:O) (A:q') (n cap:O) (b:qn) (c:Cu) (h:Lr W g A n cap b c):
  xG 157 #[mJ g] W λe W'=>e=t' (Z (xo A cap c.at_ 1) (n-c.at_) (cap-c.at_))/\Dr W W':=by
 obtain⟨j,hi,f,d,i⟩:=qA xR;have hcut:=jI _ 5 j 1 qu hi d A n cap _ .i64 h.le;have c0:=h.VH;have c1:=h.V9;have l:=h.le;generalize c.at_=a at*;clear h hi f d i;go_in;go_wp2_with fail;refine zv 10 (λW=>i' W g=J (Z A n cap)/\i' W ⟨g,1,none⟩=J (a:la)) AL ⟨c0,c1⟩ (λm=> ?_);refine zq [0,1,2,3,4,5] (a':= ?_) ?_;refine zq [6,7,8,9] (a':= ?_) ?_;refine zV AL ?_ _;go_wp2;go_ret;exact⟨rfl,⟨1,rfl⟩⟩
theorem pb (W:I) (g:O) (A:q') (n cap:O) (b:qn) (c:Cu) (h:Lr W g A n cap b c):
  xG 112 #[mJ g] W λe W'=>e=t' ((n-c.at_:O):V)/\Dr W W':=by
 have d:=T (Xa W g A n _ b c h);clear h;go_in;go_wp2_with fail;refine zC d ?_;intro f a;replace a:=T a;go_wp2;go_ret;exact⟨rfl,a⟩
theorem jg (W:I) (g:O) (A:q') (n cap:O) (b:qn) (c:Cu) (h:Lr W g A n cap b c):
  xG 110 #[mJ g] W λe W'=>e=t' c.err/\W=W':=by
 have c2:=h.XZ;generalize c.err=a at*;clear h;go_wp2;go_ret;exact⟨rfl,rfl⟩
theorem JJ (W:I) (g:O) (A:q') (n cap:O) (b:qn) (c:Cu) (h:Lr W g A n cap b c):
  xG 155 #[mJ g] W λe W'=>e=t' c.at_/\W=W':=by
 have c1:=h.V9;generalize (c.at_:V)=a at*;clear h;go_wp2;go_ret;exact⟨rfl,rfl⟩
def jS (W:I) (g:O) (A:q') (n cap:O) (b:qn) (v:la) (c:Cu) (e:Ending) (a:I):Prop:=e=t' v/\Lr a g A n cap b c/\qE [g] W a
theorem yB (W:I) (g:O) (A:q') (n cap:O) (b:qn) (c:Cu) (d:V) (h:Lr W g A n cap b c):
  xG 109 #[mJ g,d] W (jS W g A n cap b (BA #[]) (vP c d)):=by
 have c2:=h.XZ;have e:=h.blk.frozen 2;have H:=T h;unfold vP;by_cases a:c.err=0
 ·rw [qk a];rw [a] at c2;clear h;go_wp2;go_end0;exact⟨rfl,H.out.FB d,(qE.refl [g] W).zh (p:=⟨g,2,none⟩) (qy.2 rfl) _⟩
 ·rw [qJ a];have i:(c.err==(0:V))=false:=by simp [a]
  generalize c.err=f at*;clear h;go_wp2;go_end0;exact⟨rfl,H,qE.refl _ _⟩
def yt (W:I) (g f:O) (A:q') (n cap:O) (b:qn) (c:Cu) (k:O) (d:V) (h:I->Prop) (e:Ending) (a:I):Prop:=
 if c.err=0 then e=t' (.bool (decide (d=0)))/\Lr a g A n cap b (yO c k d)/\qE [g,f] W a/\h a else e=t' false/\W=a
theorem mU (W:I) (g a:O) {cs:S la} {F:O} (A:q') (n cap:O) (b:qn) (c:Cu) (h:Lr W g A n cap b c) (k:O) (f:V) (B:I->Prop) (P:a≠g) (uK:a∉K' A)
  (K: ∀C,Dr W C->xG F (Z (xo A cap c.at_ 1) (n-c.at_) (cap-c.at_)::cs).toArray C λe t=>e=t' (BA #[k,f])/\qE [a] C t/\B t)
  (ih: ∀t j u,B t->B (t.setCell ⟨g,j,none⟩ u)) (o:f=0->c.at_+k<=n) (cY:F=251/\cs=[mJ a]\/(∃m,cs=[m,mJ a])/\(F=151\/F=190\/F=252):=by simp):
  xG 150 #[mJ g, .func (.func F) #[] cs.toArray] W (yt W g a A n cap b c k f B):=by
 rcases cY with⟨rfl,rfl⟩|⟨⟨z',rfl⟩,rfl|rfl|rfl⟩
 all_goals
  have y:=T (jg W g A n _ b c h);have hh:=T (Xa W g A n _ b c h);have H:=T h;have ln:=T K;have N:=T ih;have ck:=h.le;have X:=h.lim;clear K ih;by_cases w:c.err=0
  focus
   have m:=T w;rw [w] at y;by_cases z:f=0
   focus
    subst z;have Q:=o rfl;clear h o
   rotate_left
   focus
    have R:(f==(0:V))=false:=by simp [z]
    have qj:(f !=(0:V))=true:=by simp [z]
    have L:=T z;clear h o
   rotate_left
  rotate_left 2
  focus
   have m:=T w;have R:(c.err==(0:V))=false:=by simp [w]
   have qj:(c.err !=(0:V))=true:=by simp [w]
   clear h
  rotate_left
  all_goals
   go_enter yq,vH;go_wp2_with fail;refine Ω y ?_;go_wp2_with fail
  rotate_left;rotate_left
  ·go_ret;unfold yt;rw [qJ m.out];exact⟨rfl,rfl⟩
  all_goals
   refine zC hh ?_;intro E d;have x:=T (ln E d);have s:=T (H.dr d);have r:=T (qE.jq (l:=[g,a]) (d.below W));clear d;go_wp2_with fail;refine zC x ?_;rintro iv ⟨i,v⟩;have q:=T (s.jZ i (by simpa using λe=>P e.symm) (λk o=>by simpa using λe:k=a=>uK (e▸o)));have D:=T (r.then (i.mono s8));have F:=T v
  ·have c1:=q.out.V9;have cY:=q.blk.frozen 1;clear i v;go_wp2;go_ret;unfold yt yO;rw [qk m.out,qJ (by simp [m.out]),qJ s8];have cL:=q.setAt _ Q;rw [m.out] at cL;exact⟨rfl,by simpa using cL,D.zh (p:=⟨g,1,none⟩) s8 _,N.out _ _ _ F⟩
  ·have c2:=q.out.XZ;have cK:=q.blk.frozen 2;clear i v;go_wp2;go_ret;unfold yt yO;rw [qk m.out,qJ (by simp [m.out]),qk L.out,qc L.out];exact⟨rfl,q.out.FB f,D.zh (p:=⟨g,2,none⟩) s8 _,N.out _ _ _ F⟩
theorem Sa (b:qn) (h:(F5 b).2.2≠0):(F5 b).1=0:=((PZ b 0 0).2.2 h).1
theorem eC (b:qn) (a:V) (h:(kE b a).2.2≠0):(kE b a).1=0:=by
 unfold kE at h⊢;split
 ·rfl
 ·split
  ·rfl
  ·next h1 h2=>rw [qJ h1,qJ h2] at h;exact absurd rfl h
theorem ea (R:q') (m g B b:O) (a:qn) (v:la) (W:I) (d:E' W B 1 R m (a.map B8)) (i:m<=1000000000) (c:F' W b 43 #[v]):
  xG 251 #[Z R m g,mJ b] W λe f=>e=t' (BA #[e' (F5 a).2.1,e' (F5 a).2.2])/\qE [b] W f/\F' f b 43 #[.int .u64 (F5 a).1]:=by
 have h:=T (eB R m g B a W d i);have c0:=c.cell 0;have l:=c.frozen 0;have j:=T c;generalize F5 a=s at*;obtain⟨x,k,n⟩:=s;dsimp only at*;clear d c;go_in;go_wp2_with fail;refine Ω h ?_;go_wp2;go_ret2;exact⟨rfl,(qE.refl [b] _).zh (p:= b) s8 _,j.zh 0 _⟩
theorem Fc (W:I) (g:O) (A:q') (n cap:O) (b:qn) (c:Cu) (h:Lr W g A n cap b c):
  xG 226 #[mJ g] W (jS W g A n cap b (.int .u64 (X7 b c).1) (X7 b c).2):=by
 have t:=F'.new W 43 #[.int .u64 0];have w:r' W W (W (Y #[.int .u64 0] 43)):=j1 _;have h1:=h.fresh w;have v:(W:O)≠g:=λe=>by have:=h.blk.lt;omega
 have E:(W:O)∉K' A:=λe=>by have:=(zj h.own _ e).2;omega
 have C:=wJ (b.drop c.at_);have D:=h.len;have a:=T (mU _ g W A n _ b c h1 _ _ _ v E
  (λL B=>ea _ _ _ _ _ _ _ L ((h1.dr B).rest) (by have:=h.lim;omega) ((B.below _).block _ t.lt|>.trans t)) (λF j u K=>K.far v u) (λ_=>by rw [qI,D] at C;have:=h.le;omega))
 have m:=Sa (b.drop c.at_);unfold jS X7;generalize F5 (b.drop c.at_)=s at*;obtain⟨x,k,p⟩:=s;dsimp only at*;have H:=T h1;have y:=T w;clear h h1 w E C D;unfold yt at a;by_cases d:c.err=0
 ·simp only [qk d] at a;by_cases o:p=0
  focus
   subst o;rw [qw rfl] at a;have r:=T d;clear m d;go_in;go_wp2_with fail;refine zC a ?_;rintro N ⟨i,f,q⟩;have c0:=q.cell 0;replace i:=T i;replace f:=T f;go_wp2;go_ret
  rotate_left
  focus
   rw [qc o] at a;have r:=T d;have m:=T (m o);clear d o;go_in;go_wp2_with fail;refine zC a ?_;rintro N ⟨i,f,q⟩;replace i:=T i;replace f:=T f;clear q;go_wp2;go_ret;rw [m.out]
  all_goals
   exact⟨rfl,i,(qE.jq (l:=[g]) y).trans f (λk z=>by rcases qL.1 z with e|e;exact .inl (by simp [e]);exact .inr (by simp at e;omega))⟩
 ·simp only [qJ d] at a;have r:=T d;clear d;go_in;go_wp2_with fail;refine Ω a ?_;go_wp2;go_ret;unfold yO;try rw [qk r.out]
  try rw [qk r.out]
  exact⟨rfl,H,qE.jq y⟩
theorem dP (W:I) (a c:TypeId) (b d:la) (e:a≠c\/True):
  F' ((W (Y #[b] a)) (Y #[d] c)) W a #[b]/\F' ((W (Y #[b] a)) (Y #[d] c)) ((W:O)+1) c #[d]/\r' W W ((W (Y #[b] a)) (Y #[d] c)):=by
 refine⟨(F'.new W a #[b]).alloc _, ?_,(j1 _).alloc s8 _⟩;have h:=F'.new (W (Y #[b] a)) c #[d];rwa [vY] at h
theorem UD {W a b:I} {g c:O} (h:r' W W a) (f:qE [g,c] a b) (i:(W:O)<=c):qE [g] W b:=
 (qE.jq (l:=[g]) h).trans f (λk d=>by rcases qL.1 d with e|e;exact .inl (by simp [e]);exact .inr (by simp at e;omega))
theorem eA (R:q') (m h B bm c:O) (b:qn) (a:V) (v:la) (W:I) (f:E' W B 1 R m (b.map B8)) (n:m<=1000000000) (j:a<=9223372036854775807) (i:F' W bm 3 #[a]) (d:F' W c 3 #[v]):
  xG 151 #[Z R m h,mJ bm,mJ c] W λe g=>e=t' (BA #[e' (kE b a).2.1,e' (kE b a).2.2])/\qE [c] W g/\F' g c 3 #[e' (kE b a).1]:=by
 have l:=T (d_ R m h B b a W f n j);have c1:=i.cell 0;have c0:=d.cell 0;have q:=d.frozen 0;have o:=T d;generalize kE b a=s at*;obtain⟨x,k,r⟩:=s;dsimp only at*;clear f d i;go_in;go_wp2_with fail;refine Ω l ?_;go_wp2;go_ret2;exact⟨rfl,(qE.refl [c] _).zh (p:= c) s8 _,o.zh 0 _⟩
theorem yK (W:I) (g:O) (A:q') (n cap:O) (b:qn) (c:Cu) (a:V) (h:Lr W g A n cap b c) (H:a<=9223372036854775807):
  xG 107 #[mJ g,a] W (jS W g A n cap b (e' (jU b a c).1) (jU b a c).2):=by
 obtain⟨r,v,z⟩:=dP W 3 3 a () (.inr trivial);have h1:=h.fresh z;have w:(W:O)+1≠g:=λe=>by have:=h.blk.lt;omega
 have E:(W:O)+1∉K' A:=λe=>by have:=(zj h.own _ e).2;omega
 have C:=cX (b.drop c.at_) a;have D:=h.len;have d:=T (mU _ g _ A n cap _ c h1 _ _ _ w E
  (λp y=>eA _ _ _ _ _ _ _ a _ p ((h1.dr y).rest) (by have:=h.lim;omega) H ((y.below _).block _ r.lt|>.trans r) ((y.below _).block _ v.lt|>.trans v)) (λF j u L=>L.far w u) (λ_=>by rw [qI,D] at C;have:=h.le;omega))
 have m:=eC (b.drop c.at_) a;unfold jS jU;generalize kE (b.drop c.at_) a=s at*;obtain⟨x,k,K⟩:=s;dsimp only at*;have N:=T h1;have B:=T z;clear h h1 z E C D w;unfold yt at d;by_cases f:c.err=0
 ·simp only [qk f] at d;by_cases o:K=0
  ·subst o;rw [qw rfl] at d;have t:=T f;clear m f;go_in;go_wp2_with fail;refine zC d ?_;rintro P ⟨l,i,q⟩;have c0:=q.cell 0;replace l:=T l;replace i:=T i;go_wp2;go_ret;exact⟨rfl,l,UD B i (jv _)⟩
  ·rw [qc o] at d;have t:=T f;have m:=T (m o);clear f o;go_in;go_wp2_with fail;refine zC d ?_;rintro P ⟨l,i,q⟩;replace l:=T l;replace i:=T i;clear q;go_wp2;go_ret;rw [m.out];exact⟨rfl,l,UD B i (jv _)⟩
 ·simp only [qJ f] at d;have t:=T f;clear f;go_in;go_wp2_with fail;refine Ω d ?_;go_wp2;go_ret;unfold yO;try rw [qk t.out]
  try rw [qk t.out]
  exact⟨rfl,N,qE.jq B⟩
def mf (W:I) (b:O) (a:qn):Prop:= ∃A c,F' W b 30 #[Z A a c]/\xp W b 5 1 (Z A a c) a (a.map B8)
theorem CQ (R:q') (m j bm a:O) (b:qn) (k:V) (W:I) (f:E' W W 1 R m (b.map B8)) (H:m<=1000000000) (ln:m<=j) (d:F' W bm 3 #[k]) (g:F' W a 30 #[z8]):
  xG 190 #[Z R m j,mJ bm,mJ a] W λe w=>e=t' (BA #[e' (if k<0\/(U b:V)<k then 0 else k),e' (if k<0 then 13 else if(U b:V)<k then 1 else 0)])/\qE [a] W w/\mf w a (if k<0\/(U b:V)<k then [] else b.take k.toNat):=by
 have c1:=d.cell 0;have h:=f.len;rw [h];have nil:mf W a []:=⟨_,0,g,qP _ _ _ _⟩;have i:=T g;have o:=T d;by_cases h0:k<0
 focus simp only [qk (show k<0\/(m:V)<k from .inl h0),qk h0]
 rotate_left
 focus
  obtain⟨q,rfl⟩: ∃q:O,k=(q:V):=⟨k.toNat,M⟩;by_cases h1:m<q
  focus
   have n:=j' m q;have s: ¬(q:V)<0:=M;simp only [qk (show(q:V)<0\/(m:V)<q from .inr n),qJ s,qk n]
  rotate_left
  ·have n:=vc m q;have s: ¬(q:V)<0:=M;simp only [qJ (show¬((q:V)<0\/(m:V)<q) by omega),qJ s,qJ n];have u:=T (yV R q j W _ W (f.takeN M) (qx _) M);unfold jQ at u;have F:=xi q;have E:=vv q j;have B:G (U (b.take q)=q):=by rw [Hid,qh,h];omega
   clear f h g d nil;go_in;go_wp2_with fail;refine u.mono ?_;rintro e K ⟨v,y,rfl,l⟩;have c:=i.below l.2 i.lt;have c0:=c.cell 0;have C:=c.frozen 0;have x:=o.below l.2 o.lt;have t:=F'.ne_ o i FV;have D:=(x.far (p:= a) t (Z v q y)).cell 0;have r:=T l;replace c:=T c;clear l x c1 t;go_wp2;go_ret2;have z:U (b.take (q:V).toNat)=q:=by rw [zc];exact B
   refine⟨rfl,(qE.jq r.out.2).zh (p:= a) s8 _,v,y, ?_⟩;rw [z];exact⟨c.zh 0 _,((qE.refl [a] _).zh (p:= a) s8 _).own (qi r.out.1 (zr i.lt)) (λk A=>by rw [qy];exact qT r.out.1 c FV k A)⟩
 all_goals
  clear f h g d;go_wp2;go_ret2;exact⟨rfl,qE.refl _ _,nil⟩
theorem mF {W:I} {a g:O} {d:qn} (h:mf W a d) (i:g<a) (j:O) (u:la):mf (W.setCell ⟨g,j,none⟩ u) a d:=by
 obtain⟨A,c,e,b⟩:=h;refine⟨A,c,e.far (p:=⟨g,j,none⟩) (by show a≠g;omega) u, ?_⟩;exact((qE.refl [g] W).zh (p:=⟨g,j,none⟩) s8 u).own b λk f=>by have:=(zj b k f).1;simp;omega
def X1 (W:I) (g:O) (A:q') (n cap:O) (b a:qn) (c:Cu) (e:Ending) (d:I):Prop:= ∃f c1,e=t' (Z f a c1)/\Lr d g A n cap b c/\qE [g] W d/\xp d W 5 1 (Z f a c1) a (a.map B8)
theorem eE (b:qn) (c:Cu) (k:V):Xv b k c=if k<0 then 13 else if(U (b.drop c.at_):V)<k then 1 else 0:=rfl
theorem mg (b:qn) (c:Cu) (k:V):Xv b k c≠0↔(k<0\/(U (b.drop c.at_):V)<k):=by
 rw [eE];split
 ·rename_i h;exact⟨λ_=> .inl h,λ_=>FV⟩
 ·rename_i h;split
  ·rename_i h2;exact⟨λ_=> .inr h2,λ_=>FV⟩
  ·rename_i h2;exact⟨λa=>absurd rfl a,λa=>absurd a (not_or.2 ⟨h,h2⟩)⟩
theorem tp (b:qn) (c:Cu) (k:V) (kk:O) (e:Xv b k c≠0↔(k<0\/(U (b.drop c.at_):V)<k)) (f:Xv b k c=0->kk=k.toNat):
  jW b k c=(if c.err≠0 then [] else(if k<0\/(U (b.drop c.at_):V)<k then [] else(b.drop c.at_).take k.toNat),yO c kk (Xv b k c)):=by
 unfold jW yO;by_cases h0:c.err≠0
 ·rw [qk (.inl h0),qk h0,qk h0,qk h0]
 ·by_cases d:k<0\/(U (b.drop c.at_):V)<k
  ·have a:=e.2 d;rw [qk (.inr a),qJ h0,qk d,qJ h0,qk a,qJ h0,qk a]
  ·have a:=yQ λh=>d (e.1 h);rw [qJ (by rw [a];simp;exact ym.1 h0),qJ h0,qJ d,qJ h0,qJ (by simp [a]),qJ h0,qJ (by simp [a]),f a]
theorem Qs (W:I) (g:O) (A:q') (n cap:O) (b:qn) (c:Cu) (k:V) (h:Lr W g A n cap b c):
  xG 153 #[mJ g,k] W (X1 W g A n cap b (jW b k c).1 (jW b k c).2):=by
 obtain⟨l,f,r⟩:=dP W 3 30 k z8 (.inr trivial);have h1:=h.fresh r;have x:(W:O)+1≠g:=λe=>by have:=h.blk.lt;omega
 have N:g<(W:O)+1:=by have:=h.blk.lt;omega
 have C:(W:O)+1∉K' A:=λe=>by have:=(zj h.own _ e).2;omega
 have B:=h.len;have K:U (b.drop c.at_)=n-c.at_:=by rw [qI,B]
 have o:=mg b c k;obtain⟨kk,y,w⟩: ∃kk:O,(if k<0\/(U (b.drop c.at_):V)<k then 0 else k)=(kk:V)/\(Xv b k c=0->kk=k.toNat/\kk<=n-c.at_):=by
  by_cases i:k<0\/(U (b.drop c.at_):V)<k
  ·exact⟨0,by rw [qk i];rfl,λh0=>absurd h0 (o.2 i)⟩
  ·refine⟨_,by rw [qJ i];omega,λ_=>⟨rfl,M⟩⟩
 have d:=T (mU _ g _ A n cap _ c h1 kk (Xv b k c) _ x C
  (λQ q=>by rw [<-y,eE];exact CQ _ _ _ _ _ _ k Q ((h1.dr q).rest) (by have:=h.lim;omega) (by have:=(jC h.own).1;omega) ((q.below _).block _ l.lt|>.trans l) ((q.below _).block _ f.lt|>.trans f)) (λD j u i=>mF i N j u) (λh0=>by have:=w h0;have:=h.le;omega))
 have X:=tp b c k _ o (λh0=>(w h0).1);unfold X1;rw [X];clear X y o w K;generalize (if k<0\/(U (b.drop c.at_):V)<k then [] else(b.drop c.at_).take k.toNat)=P,Xv b k c=L at*;have H:=T h1;have F:=T r;clear h h1 r C B x;replace f:=T f;unfold yt at d;have c0:=f.cell 0;by_cases a:c.err=0
 ·simp only [qk a] at d;simp only [qJ (show¬c.err≠0 from λh=>h a)];clear a c0;obtain⟨m,z⟩:=zn (decide (L=0));rw [<-z] at d;clear z;cases m<;>
  ·go_in;go_wp2_with fail;refine zC d ?_;rintro uK ⟨v,s,R,c1,p,t⟩;have c0:=p.cell 0;revert v s t;refine vn ?_;intro v s t;go_wp2;go_ret;exact⟨R,_,rfl,v,UD F s (jv _),qi t (jv _)⟩
 ·simp only [qJ a] at d;simp only [qk a];have E:=T a;clear a;go_in;go_wp2_with fail;refine Ω d ?_;go_wp2;go_ret;unfold yO;rw [qk E.out];exact⟨_,0,rfl,H,qE.jq F,qP _ _ _ _⟩
theorem QS (W:I) (g:O) (A:q') (n cap:O) (b:qn) (c:Cu) (h:Lr W g A n cap b c):
  xG 108 #[mJ g] W (jS W g A n cap b (B8 (j_ b c).1) (j_ b c).2):=by
 have i:=T (Qs W g A n _ b c 1 h);have q:(jW b 1 c).1=[]\/ ∃y,(jW b 1 c).1=[y]:=by
  show(if c.err≠0\/Xv b 1 c≠0 then [] else(b.drop c.at_).take 1)=[]\/ ∃y,(if c.err≠0\/Xv b 1 c≠0 then [] else(b.drop c.at_).take 1)=[y];split
  ·exact .inl rfl
  ·cases b.drop c.at_ with
   |nil=>exact .inl rfl
   |cons y t=>exact .inr ⟨y,rfl⟩
 unfold jS j_;unfold X1 at i;generalize (jW b 1 c).1=w,(jW b 1 c).2=s at*;clear h;rcases q with rfl|⟨y,rfl⟩;rotate_left;rotate_left
 all_goals
  go_in;go_wp2_with fail;refine i.mono ?_;rintro e l ⟨m,c1,rfl,d,a,f⟩
 ·replace d:=T d;replace a:=T a;clear f;go_wp2;go_ret;exact⟨rfl,d,a⟩
 ·obtain⟨p,u,rfl,-,j,r⟩:=(E'.zY f).at_ (k:=0) s8;have o:u=B8 y:=by simpa using j.symm
  subst o;have v:i' l p=J (B8 y):=r;clear f j;replace d:=T d;replace a:=T a;go_wp2;go_ret;exact⟨rfl,d,a⟩
theorem uu (W:I) (g:O) (A:q') (n cap:O) (b:qn) (c:Cu) (h:Lr W g A n cap b c):
  xG 194 #[mJ g] W (jS W g A n cap b (e' (PW b c).err) (PW b c)):=by
 have j:=T (pb W g A n _ b c h);have o:=h.len;have p:=h.le;have H:=T h;by_cases f:c.at_<U b
 ·have d:PW b c=vP c 2:=by unfold PW;rw [qk f]
  rw [d];have h0:(0:V)<((n-c.at_:O):V):=M;generalize n-c.at_=z at*;clear o p f h d;go_in;go_wp2_with fail;refine zC j ?_;intro m a;have r:=T (yB m g A n _ b c 2 (H.dr a));replace a:=T a;go_wp2_with fail;refine zC r ?_;rintro s ⟨i,k⟩;have l:=T (jg s g A n _ b _ i);replace i:=T i;replace k:=T k;go_wp2_with fail;refine Ω l ?_;go_wp2;go_ret;exact⟨rfl,i,(qE.jq (a.below _)).then k⟩
 ·have d:PW b c=c:=by unfold PW;rw [qJ f]
  rw [d];have h0:n-c.at_=0:=M;rw [h0] at j;clear o p f h d h0;go_in;go_wp2_with fail;refine zC j ?_;intro m a;have l:=T (jg m g A n _ b _ (H.dr a));replace a:=T a;go_wp2_with fail;refine Ω l ?_;go_wp2;go_ret;exact⟨rfl,H.dr a,qE.jq (a.below _)⟩
theorem Gw (f x:O) (h:1<=x) (a:x<2^f):Lib.bitLenAux f x=Nat.log2 x+1:=by
 induction f generalizing x with
 |zero=>rw [Nat.pow_zero] at a;omega
 |succ f b=>
  rw [Lib.bitLenAux,qJ M,Nat.log2_def];by_cases h2:2<=x
  ·rw [qk h2,b (x/2) M (by rw [vB] at a;omega)];omega
  ·obtain rfl:x=1:=M;rw [qJ h2];cases f<;>simp [Lib.bitLenAux]
theorem t_ (x:O) (h:1<=x) (a:x<65536):Lib.bitLen x=Nat.log2 x+1:=Gw _ x h (qB a FV)
theorem EF (x:V) (h0:0<=x) (h1:x<256) (a:x.toNat<Lib.len8tab.size):wrap64 ((Lib.len8tab[x.toNat].toNat:O):V)=(Lib.bitLen x.toNat:V):=by
 have h:=Lib.len8_of x h0 M;have e:((Lib.len8tab[x.toNat].toNat:O):V)=Lib.len8 x:=by
  unfold Lib.len8;simp [a]
 have l:=(Lib.len8tab[x.toNat]).toNat_lt;rw [e,h,wrap64];have:=Lib.bitLen_le8' x h0 M;omega
theorem GW (x:V) (w:I) (h0:0<=x) (h1:x<65536):
  xG 211 #[.int .u64 x] w λe w'=>e=t' (e' (Lib.bitLen x.toNat))/\w=w':=by
 have h2: ¬(4294967296:V)<=x:=M;have h3: ¬(65536:V)<=x:=M;by_cases h4:x<256;rotate_left
 focus
  obtain⟨y,a⟩:=zn (x/256);have d:=a.symm;have c:y<256:=M;have b:0<=y:=M;replace a:=T a
 rotate_left
 all_goals
  go_wp2;go_ret;refine⟨zo Ending.returned (zo (Value.int IntKind.i64) ?_),rfl⟩
 ·rw [EF x h0 h4];have:=Lib.bitLen_le8' x h0 M;rw [wrap64];omega
 ·have e:y.toNat=x.toNat/256:=by have:=a.out;omega
  have s:=Lib.bitLen_shift8 x.toNat M M;rw [s,<-e];have l:=Lib.bitLen_le8' y M M;rw [EF y b c,wrap64];omega
theorem DQ (x:O) (w:I) (h0:1<=x) (h1:x<65536):
  xG 180 #[.int .u64 x] w λe w'=>e=t' ((Nat.log2 x+1:O):V)/\w=w':=by
 have K:=T (GW (x:V) w M M);rw [show(x:V).toNat=x from rfl,t_ x h0 h1] at K;generalize Nat.log2 x+1=L at*;go_in;go_wp2_with fail;refine Ω K ?_;go_wp2;go_ret;exact⟨rfl,rfl⟩
theorem PB (h0:1<=x) (h1:x<65536):Nat.log2 x<16:=(Nat.log2_lt M).2 (by simpa using h1)
theorem Eg (h0:1<=x):2^Nat.log2 x<=x:=Nat.log2_self_le M
theorem Bk (x:O) (w:I) (h0:1<=x) (h1:x<65536):
  xG 203 #[x] w λe w'=>e=t' (BA #[e' (Nat.log2 x:O),e' (x-2^Nat.log2 x:O)])/\Dr w w':=by
 have K:=T (DQ x w h0 h1);have g:=PB h0 h1;have d:=Eg h0;generalize Nat.log2 x=L at*;obtain⟨a,b⟩:=zn (2^L);have i:(2:V)^L=(a:V):=by rw [b,j6];rfl
 rw [<-b] at d⊢;have c:((x-a:O):V)=(x:V)-(a:V):=M;have o:IntKind.u64.wrap (x:V)=(x:V):=by rw [qS];omega
 have j:DW (a:V)=(a:V):=SX;have n:DW ((x:V)-(a:V))=(x:V)-(a:V):=SX;rw [c];clear b c;go_in;go_wp2_with fail;refine Ω K ?_;go_wp2;go_quiet (fail);go_wp2;go_ret2;exact⟨rfl,by first|exact⟨_,rfl⟩|exact⟨1,rfl⟩|exact⟨_,rfl⟩⟩
def Lj (s:qn):Value:= .string ⟨s.toArray⟩
def txt (a:qn) (b:V):qn:=if Xy a b≠0 then [] else(a.drop (kE a b).2.1).take (kE a b).1
def DM (a:qn) (b:V):Nat:=if Xy a b≠0 then 0 else(kE a b).2.1+(kE a b).1
theorem CZ (R:q') (m j B bm h:O) (a:qn) (b:V) (W:I) (l:E' W B 1 R m (a.map B8)) (E:m<=1000000000) (u:m<=j) (H:b<=9223372036854775807) (o:F' W bm 3 #[b]) (r:F' W h 9 #[Lj []]):
  xG 252 #[Z R m j,mJ bm,mJ h] W λe q=>e=t' (BA #[e' (DM a b:O),e' (Xy a b)])/\qE [h] W q/\F' q h 9 #[Lj (txt a b)]:=by
 have t:=T (d_ R m j B a b W l E H);have c1:=o.cell 0;have i:=T r;have y:=cX a b;have hh:(kE a b).1<9223372036854775808:=by
  by_cases h0:b<0
  ·have:(kE a b).1=0:=by unfold kE;split<;>first|rfl|(rw [qk (.inl h0)])
   omega
  ·have:=Yi a b M;omega
 have n:=l.len;have F:=T l;obtain⟨C,z⟩:=zn ((kE a b).2.2);obtain⟨K,hi,L,A,uK⟩:=qA xR;by_cases h0:(kE a b).2.2=0
 focus
  by_cases h1:m<(kE a b).2.1+(kE a b).1
  focus
   have d:Xy a b=1:=by unfold Xy;rw [qJ (by simp [h0]),n,qk h1]
   have f:DM a b=0:=by unfold DM;rw [qk (by rw [d];decide)]
   have g:txt a b=[]:=by unfold txt;rw [qk (by rw [d];decide)]
   rw [d,f,g];rw [n] at y;generalize kE a b=s at*;obtain⟨x,k,v⟩:=s;dsimp only at*;subst h0;have X:(m:V)-(k:V)<(x:V):=M;clear l r o h1 z d f g
  rotate_left
  focus
   have d:Xy a b=0:=by unfold Xy;rw [qJ (by simp [h0]),n,qJ h1]
   have f:DM a b=(kE a b).2.1+(kE a b).1:=by unfold DM;rw [qJ (by rw [d];decide)]
   have g:txt a b=(a.drop (kE a b).2.1).take (kE a b).1:=by unfold txt;rw [qJ (by rw [d];decide)]
   rw [d,f,g];rw [n] at y;generalize kE a b=s at*;obtain⟨x,k,v⟩:=s;dsimp only at*;subst h0;have iv: ¬(m:V)-(k:V)<(x:V):=M;have qj:wrap64 ((m:V)-(k:V))=(m:V)-(k:V):=by unfold wrap64;omega
   have ln:wrap64 ((k:V)+(x:V))=(k:V)+(x:V):=by unfold wrap64;omega
   have hcut:=Vo _ 5 K 1 qu hi A R m j k _ .i64 .i64 (Jk _ _) (qv (Nat.le_of_not_lt h1) u) W;rw [show k+x-k=x by omega,xe] at hcut;have D:E' W B 1 (xo R j k 1) x (((a.drop k).take x).map B8):=(F.out.VC M u).takeN M;have P:=Kf (c:=j-k) _ 9 5 qu xS ju D;have c0:=i.cell 0;have N:=i.frozen 0;rw [xe];show Calls _ _ _ _ λe q=>_/\_/\F' q h 9 #[Lj ((a.drop k).take x)];generalize (a.drop k).take x=Q at*;have ih:=T i.out;clear l r o h1 z d f g D n y hh E u hi L A uK
  rotate_left
 rotate_left 2
 focus
  have d:Xy a b=(kE a b).2.2:=by unfold Xy;rw [qk h0]
  have f:DM a b=0:=by unfold DM;rw [qk (by rw [d];exact h0)]
  have g:txt a b=[]:=by unfold txt;rw [qk (by rw [d];exact h0)]
  rw [d,f,g];generalize kE a b=s at*;obtain⟨x,k,v⟩:=s;dsimp only at*;have w:(v !=(0:V))=true:=by simp [h0]
  clear l r o z d f g h0
 rotate_left
 all_goals
  go_in;go_wp2_with fail;refine Ω t ?_;go_wp2;go_ret2
 ·exact⟨rfl,qE.refl _ _,i⟩
 ·rw [ln];exact⟨rfl,(qE.refl [h] _).zh (p:= h) s8 _,ih.zh 0 _⟩
 ·exact⟨rfl,qE.refl _ _,i⟩
theorem Se (a:qn) (b:V) (h:Xy a b=0):(kE a b).2.1+(kE a b).1<=U a:=by
 unfold Xy at h;split at h
 ·rename_i h2;exact absurd h h2
 ·split at h
  ·cases h
  ·rename_i h3;exact Nat.le_of_not_lt h3
theorem eR (b:qn) (c:Cu) (d:V):xa b d c=(if c.err≠0 then [] else txt (b.drop c.at_) d,yO c (DM (b.drop c.at_) d) (Xy (b.drop c.at_) d)):=by
 unfold xa yO txt DM;by_cases h0:c.err≠0
 ·rw [qk (.inl h0),qk h0,qk h0,qk h0]
 ·by_cases a:Xy (b.drop c.at_) d≠0
  ·rw [qk (.inr a),qJ h0,qk a,qJ h0,qk a,qJ h0,qk a]
  ·rw [qJ (λh=>h.elim h0 a),qJ h0,qJ a,qJ h0,qJ a,qJ h0,qJ a,qJ a]
theorem pB (W:I) (g:O) (A:q') (n cap:O) (b:qn) (c:Cu) (a:V) (h:Lr W g A n cap b c) (w:a<=9223372036854775807):
  xG 227 #[mJ g,a] W (jS W g A n cap b (Lj (xa b a c).1) (xa b a c).2):=by
 obtain⟨k,i,r⟩:=dP W 3 9 a (Lj []) (.inr trivial);have h1:=h.fresh r;have l:(W:O)+1≠g:=λe=>by have:=h.blk.lt;omega
 have B:(W:O)+1∉K' A:=λe=>by have:=(zj h.own _ e).2;omega
 have y:=h.len;have z:U (b.drop c.at_)=n-c.at_:=by rw [qI,y]
 have Q:=h.le;have o:=h.lim;have R:=(jC h.own).1;have F:n-c.at_<=cap-c.at_:=Nat.sub_le_sub_right R _;have f:=T (mU _ g _ A n cap _ c h1 _ _ _ l B
  (λP q=>CZ _ _ _ _ _ _ _ a P ((h1.dr q).rest) (qv (Qd _ _) o) F w ((q.below _).block _ k.lt|>.trans k) ((q.below _).block _ i.lt|>.trans i)) (λC j u X=>X.far l u)
  (λh0=>by have h2:=Se _ _ h0;rw [z] at h2;unfold DM;rw [qJ (λN=>N h0)];clear w o;omega))
 unfold jS;rw [eR];clear z;generalize txt (b.drop c.at_) a=p,DM (b.drop c.at_) a=kk,Xy (b.drop c.at_) a=K at*;have H:=T h1;have E:=T r;clear h h1 r B y l Q o R F;have c0:=i.cell 0;unfold yt at f;by_cases d:c.err=0
 ·simp only [qk d] at f;simp only [qJ (show¬c.err≠0 from λh=>h d)];clear d c0;obtain⟨m,x⟩:=zn (decide (K=0));rw [<-x] at f;clear x;cases m<;>
  ·go_in;go_wp2_with fail;refine zC f ?_;rintro L ⟨t,s,v⟩;have c0:=v.cell 0;replace t:=T t;replace s:=T s;clear v;go_wp2;go_ret;exact⟨rfl,t,UD E s (jv _)⟩
 ·simp only [qJ d] at f;simp only [qk d];have D:=T d;clear d;go_in;go_wp2_with fail;refine Ω f ?_;go_wp2;go_ret;unfold yO;rw [qk D.out];exact⟨rfl,H,qE.jq E⟩
theorem vW (x:O) (w:I) (hh:x<18446744073709551616):xG 31 #[.int .u64 x] w (jQ 5 w (U (kD x)) ((kD x).map B8)):=by
 unfold jQ;obtain⟨E,hi,o,j,p⟩:=xt xR;go_wp2;go_loopw [0,3] (λN t wr=> ∃(y f n c:O) (A:q') (l:qn),N= .int .u64 (y:O)/\t=Z A n c/\f<=9/\n+f=9/\y<2^(7*f+1)/\G (l++uo f y=kD x)/\G (r' w w wr)/\G (xp wr w 5 1 (Z A n c) n (l.map B8))) (λ_ t _=>10-Y8 t)
 ·exact⟨x,9,0,0,none,[],rfl,rfl,M,rfl,M,rfl,qZ _ _,qP _ _ _ _⟩
 ·obtain⟨y,f,n,c,A,l,rfl,rfl,P,K,i,k,a,g⟩:=hrel;have L:y<18446744073709551616:=by
   have h2:2^(7*f+1)<=2^64:=zZ M M;omega
  by_cases D:y<128
  ·have H: ¬(128:V)<=(y:V):=M;have s:n+1<=maxLen:=SJ;have z:(n+1)*1<=140737488355328:=M;have m:G (kD x=l++[UInt8.ofNat y]):=by
    rw [Hid,<-k.out];cases f with
    |zero=>rfl
    |succ f=>unfold uo;rw [qk D]
   have B:G (U l=n):=by have:=g.out.1;rw [Hid];simpa using this
   have v:(y:V)=((UInt8.ofNat y).toNat:V):=by rw [zS];omega
   replace v:=T v;clear i k;go_wp2_with (at_builtin;refine qF _ rfl (.tmp 14) (.tmp 17) 30 rfl w 5 E (gR 0) 1 1 qu hi o j p rfl M A n c _ rfl (g.alloc _) ((wr:O)+1) _ 1 1 _ rfl (zU _ _ _) (IB rfl) s z (show (w:O)<=(wr (Y #[gR (y:V)] 5)).heap.size from qv a.size s8) ?_;intro C r q b h u;have d:=zG (a.alloc a.size _) h (g.alloc _) (show (w:O)<=(wr (Y #[gR (y:V)] 5)).heap.size from qv a.size s8);replace b:=T b;replace d:=T d;clear h u);go_ret;rw [v.out] at b;refine⟨C,r,by rw [m.out,qK,B.out];rfl, ?_,d⟩;rw [m.out,qK,B.out,qg];exact b.out
  ·have H:(128:V)<=(y:V):=M;have s:n+1<=maxLen:=SJ;have z:(n+1)*1<=140737488355328:=M;have e:=OU y;cases f with
   |zero=>exact absurd i M
   |succ f=>
   have m:G (l++[UInt8.ofNat (y%128+128)]++uo f (y/128)=kD x):=by
    rw [Hid,<-k.out];show _=l++(if y<128 then _ else _);rw [qJ D];simp
   have F:y/128<2^(7*f+1):=by
    rw [Nat.div_lt_iff_lt_mul M];rw [show 7*(f+1)+1=7*f+1+7 by omega,Nat.pow_add] at i;exact i
   clear i k;go_wp2_with (at_builtin;refine qF _ rfl (.tmp 6) (.tmp 10) 30 rfl w 5 E (gR 0) 1 1 qu hi o j p rfl M A n c _ rfl (g.alloc _) ((wr:O)+1) _ 1 1 _ rfl (zU _ _ _) (IB rfl) s z (show (w:O)<=(wr (Y #[gR ((UInt8.ofNat (y%128+128)).toNat:V)] 5)).heap.size from qv a.size s8) ?_;intro C r q b h u;have d:=zG (a.alloc a.size _) h (g.alloc _) (show (w:O)<=(wr (Y #[gR ((UInt8.ofNat (y%128+128)).toNat:V)] 5)).heap.size from qv a.size s8);replace b:=T b;replace d:=T d;clear h u);go_roundw
   case rel=>exact⟨y/128,f,n+1,r,C,l++[UInt8.ofNat (y%128+128)],s8,rfl,M,M,F,m,d,by rw [qg];exact b⟩
   case measure=>simp [Y8];omega
theorem tP (iv:ByteArray) (L:O) (c:S la) (w:I) (t:iv.size<=1000000000) (v:L<=10) (f:G (xG 31 #[.int .u64 (iv.size:V)] w (jQ 5 w L c))):
  xG 84 #[.string iv] w (jQ 5 w (L+iv.size) (c++Go.Lib.strCells iv)):=by
 obtain⟨p,hi,g,b,h⟩:=qA xR;unfold jQ at f⊢;have m:L+iv.size<=maxLen:=SJ;have r:L+iv.size<=140737488355328:=M;revert hi g b h;refine yb ?_;intro hi g b h;go_in;go_wp2_with fail;refine f.mono ?_;rintro e s ⟨n,c1,rfl,i⟩;have a:=T i;clear i f;go_wp2_with (first|(at_builtin;refine Go.Lib.wpList_append_own_string _ rfl (.tmp 6) (.tmp 7) 30 9 rfl w 5 p qu ju hi.out g.out b.out h.out _ L c rfl a.out.1 iv rfl m r a.out.2.size ?_;intro o q k j u));have l:s.grownBy q (Value.slice n L c1).ownBlock:=j;rw [jH] at l;clear j;go_ret;obtain⟨d,c2,rfl⟩: ∃d c2,o=Z d (L+iv.size) c2:=Hq k;exact⟨d,_,rfl,k,zG a.out.2 l a.out.1 a.out.2.size⟩
theorem Yd (s:qn) (w:I) (a:U s<=1000000000):xG 84 #[Lj s] w (jQ 5 w (U (B1 s)) ((B1 s).map B8)):=by
 have h:=tP ⟨s.toArray⟩ _ _ w a (jn s).2 (vW s w M);unfold B1;rw [qK,qg];exact h
end Go.Proofs.YtfnlfpcfkbdcmaaGreatDoor
