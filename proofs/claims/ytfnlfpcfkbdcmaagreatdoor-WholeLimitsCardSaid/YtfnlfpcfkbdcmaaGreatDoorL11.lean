import Derived.Test.YtfnlfpcfkbdcmaaGreatDoorL06
import Derived.Test.YtfnlfpcfkbdcmaaGreatDoorL08
set_option linter.unusedSimpArgs false
set_option linter.unusedVariables false
set_option maxRecDepth 100000
set_option maxHeartbeats 0
open Go.Proofs.Tryz
namespace Go.Proofs.YtfnlfpcfkbdcmaaGreatDoor
open Go.RowKit
section
variable {A:q'}{P:Program}{Q:Exit->Act->World->Prop}{S:World->Prop}{W W' w:World}{args:Array Value}{at_ b0 base cap g n:Nat}{b:qn}{f:FuncId}{l:List Nat}{md:Region.Mode}{ops:Array Oper}{v:Value}{vs:List Value}
theorem iN {w:World} {base base':Nat} {e:TypeId} {size:Nat} {v:Value} {n:Nat} {a:List Value} (h:w.ownsRow base e size v n a) (d:base'<=base):w.ownsRow base' e size v n a:=
 ⟨h.1,h.2.imp id λ⟨g,cap,cur,b,c,r⟩=>⟨g,_,_,b,qv d c,r⟩⟩
theorem bz (k m:Nat) (w:World) (q:k+m<=255):Calls prog 102 #[k,m] w (Ps w m k (zP k (Vq k) (m*k)) 0):=by
 have H:=VI k;rw [show G7 (k:Int)=true by unfold G7;simp;omega] at H;have b:=VI m;rw [show G7 (m:Int)=true by unfold G7;simp;omega] at b;replace H:=λw=>qj (H w);replace b:=λw=>qj (b w);have B:=(jb YE).1;have M:=λ(W:World) (p:Nat) (x:p<W.heap.size) (A:W.cell? p=some (k:Value))=>AQ m k _ W uK uK (λi j s hi y z=>AJ k m i j p s q hi y ((z.cell (p:= p) x).trans A));replace M:=qj M;have o:=yj k (Vq k) (m*k);unfold Ps;rw [o];clear o;generalize m*k=E at*;go_in;go_wp2_with fail;refine Ω (H _).out ?_;go_wp2_with fail;refine Ω (b _).out ?_;go_wp2_with fail;have l:((w.alloc (.cells #[k] 3)).alloc (.cells #[(),(),zn] 154)).cell? w.heap.size=some (k:Value):=(show Blk _ _ 3 #[k] from(Blk.new w _ _).alloc _).cell 0;have u:w.heap.size<((w.alloc (.cells #[k] 3)).alloc (.cells #[(),(),zn] 154)).heap.size:=SZ;have d:Blk ((w.alloc (.cells #[k] 3)).alloc (.cells #[(),(),zn] 154)) (w.heap.size+1) 154 (mC 0 0 zn):=by
  have h:=Blk.new (w.alloc (.cells #[k] 3)) 154 (mC 0 0 zn);simpa [mC] using h
 have c:Below w.heap.size w ((w.alloc (.cells #[k] 3)).alloc (.cells #[(),(),zn] 154)):=(z8 _).alloc s8 _;generalize (w.alloc (.cells #[k] 3)).alloc (.cells #[(),(),zn] 154)=v at*;refine(M v _ u l).mono ?_;rintro e D ⟨a,c2,rfl,n,f⟩;have g:=qj (d.below f d.lt);have r:=qj (c.trans (f.mono c.size));have t:=qj (iN n c.size);clear d c f n l;go_wp2_with (refine qC rfl 154 _ _ rfl (w.heap.size+1) (mC m k (.slice a _ c2)) rfl rfl 154 (mC 0 0 zn) g j9 rfl (Jb _ _ _ _ _) ?_);exact qW (zN rfl _ _ _ _ _ rfl rfl (qN _ _ _ _ _ _ _ (g.row _) zL rfl j9)) rfl ⟨a,_,rfl,ZJ t g _,zu r (jv _) _⟩
structure Rd (W:World) (g:Nat) (A:q') (n cap:Nat) (b:qn) (at_:Nat):Prop where
 blk:Blk W g 407 #[.slice A n cap,((8*n:Nat):Int),at_]
 own:W.ownsRow 0 5 1 (.slice A n cap) n (b.map B8)
 le:at_<=8*n
 lim:n<=1000000000
theorem Rd.len (h:Rd W g A n cap b at_):b.length=n:=by have:=h.own.1;simpa using this
theorem Rd.jZ (h:Rd W g A n cap b at_) (a:qE l W W') (d:g∉l) (c: ∀k∈fpS A,k∉l):Rd W' g A n cap b at_:=⟨a.blk h.blk d,a.own h.own c,h.le,h.lim⟩
theorem Rd.fresh (h:Rd W g A n cap b at_) (a:Below W W W'):Rd W' g A n cap b at_:=h.jZ (qE.jq (l:=[]) a) s8 s8
theorem Rd.dr (h:Rd W g A n cap b at_) (a:Dr W W'):Rd W' g A n cap b at_:=h.fresh (a.below _)
theorem Rd.fp (h:Rd W g A n cap b at_): ∀k∈fpS A,k≠g:=qT h.own h.blk FV
theorem Rd.VH (h:Rd W g A n cap b at_):W.cell? g=some (.slice A n cap):=h.blk.cell 0
theorem Rd.V9 (h:Rd W g A n cap b at_):W.cell? ⟨g,1,none⟩=some (((8*n:Nat):Int):Value):=h.blk.cell 1
theorem Rd.XZ (h:Rd W g A n cap b at_):W.cell? ⟨g,2,none⟩=some (at_:Value):=h.blk.cell 2
theorem Rd.setAt (h:Rd W g A n cap b at_) (a:Nat) (c:a<=8*n):Rd (W.setCell ⟨g,2,none⟩ a) g A n cap b a:=
 ⟨h.blk.zh 2 _,(qE.refl [g] W|>.zh (p:=⟨g,2,none⟩) (qy.2 rfl) a).own h.own (λk d=>by simp [h.fp k d]),c,h.lim⟩
def JD (W:World) (g:Nat) (A:q') (n cap:Nat) (b:qn) (v:Value) (at_:Nat) (e:Ending) (a:World):Prop:=e= .returned v/\Rd a g A n cap b at_/\qE [g] W a
theorem Zp {W a:World} {l:List Nat} (h:Dr W a):qE l W a:=qE.jq (h.below _)
theorem P7 (A:q') (n c B:Nat) (bs:qn) (w:World) (h:Reads w B 1 A n (bs.map B8)) (p:B<=w.heap.size) (l:n<=1000000000):
  Calls prog 266 #[.slice A n c] w λe w'=> ∃g f j,e= .returned (.pointer (some ⟨g,0,none⟩))/\Rd w' g f n j bs 0/\w.heap.size<=g/\(∀k∈fpS f,w.heap.size<=k)/\Below w w w':=by
 have b:=qj (yV A n c B _ w h p uK);unfold jQ at b;clear h;go_in;go_wp2_with fail;refine b.mono ?_;rintro e d ⟨m,c1,rfl,i⟩;have a:=qj i;clear i;go_wp2;go_ret;refine⟨d,m,c1,rfl,⟨?_,qi (qG a.out.1 (z8 _)) (qp _),qp _,l⟩,a.out.2.size,λk o=>(zj a.out.1 k o).1,a.out.2.alloc a.out.2.size _⟩;first|exact Blk.new d _ _|(rw [show((8*n:Nat):Int)=8*(n:Int) by omega];exact Blk.new d _ _)
theorem XV (W:World) (g:Nat) (A:q') (n cap at_:Nat) (b:qn) (h:Rd W g A n cap b at_):
  Calls prog 273 #[.pointer g] W λe W'=>e= .returned (.int .i64 (q7 b at_))/\Dr W W':=by
 have a:((q7 b at_:Nat):Int)=((8*n:Nat):Int)-(at_:Int):=by unfold q7;rw [h.len];have:=h.le;omega
 have c1:=h.V9;have c2:=h.XZ;have h3:=h.le;have h4:=h.lim;rw [a];clear h a;have h5:8*n<=8000000000:=uK;generalize 8*n=m at*;have c:IntKind.i64.wrap ((m:Int)-(at_:Int))=(m:Int)-(at_:Int):=SX;go_wp2;go_quiet (fail);go_wp2;go_ret;exact⟨rfl,⟨_,rfl⟩⟩
theorem Kj {n:Nat} (h:Calls P f args (w.drewN n) λe w'=>e= .returned v/\w.drewN n=w'):Calls P f args (w.drewN n) λe w'=>e= .returned v/\ ∃m,w'=w.drewN m:=
 h.mono λ_ _ ⟨a,b⟩=>⟨a,n,b.symm⟩
theorem Uf {n:Nat} (h:Calls P f args (w.drewN n) λe w'=>e= .returned v/\Dr (w.drewN n) w'):Calls P f args (w.drewN n) λe w'=>e= .returned v/\ ∃m,w'=w.drewN m:=
 h.mono λ_ _ ⟨a,m,b⟩=>⟨a,n+m,by rw [b,World.drewN_drewN]⟩
theorem Rd.drew {W:World} {g n cap at_:Nat} {A:q'} {b:qn} (h:Rd W g A n cap b at_):Rd W.drew g A n cap b at_:=h.dr ⟨1,rfl⟩
theorem Rd.drewN {W:World} {g n cap at_:Nat} {A:q'} {b:qn} (h:Rd W g A n cap b at_) (k:Nat):Rd (W.drewN k) g A n cap b at_:=h.dr ⟨k,rfl⟩
theorem pE (W:World) (g:Nat) (A:q') (n cap at_ k a:Nat) (b:qn) (h:Rd W g A n cap b at_) (d:k<=64) (c:a<=8000000000):
  Calls prog 287 #[.pointer g,a,k] W λe W'=>e= .returned (.int .u64 (QF b a k))/\W=W':=
 Ga W g W A n _ a k _ b h.VH h.V9 rfl (Reads.zY h.own) h.lim d c
theorem UF (W:World) (g:Nat) (A:q') (N cap at_:Nat) (b:qn) (n:Int) (h:Rd W g A N cap b at_):
  Calls prog 274 #[.pointer g,n] W (JD W g A N cap b (.tuple #[.int .u64 (gq b at_ n), .int .i64 (U7 b at_ n)]) (gk b at_ n)):=by
 have H:=qj h;have j:=qj (XV W g A N cap at_ b h);have o:=h.len;have u:=h.le;have s:=h.lim;clear h;by_cases h1:n<0\/64<n
 ·have d:U7 b at_ n=13:=qk h1;unfold gq gk;rw [d,qJ FV,qJ FV];rcases h1 with h1|h1
  ·go_wp2;go_ret2;exact⟨rfl,H,qE.refl _ _⟩
  ·have h0: ¬n<0:=uK;go_wp2;go_ret2;exact⟨rfl,H,qE.refl _ _⟩
 ·obtain⟨k,rfl⟩: ∃k:Nat,n=(k:Int):=⟨n.toNat,uK⟩;have r:k<=64:=uK;by_cases h2:(q7 b at_:Int)<(k:Int)
  ·have d:U7 b at_ k=1:=by unfold U7;rw [qJ h1,qk h2]
   unfold gq gk;rw [d,qJ FV,qJ FV];generalize q7 b at_=lf at*;clear u s h1;go_in;go_wp2_with fail;refine zC j ?_;intro c a;replace a:=qj a;go_wp2;go_ret2;exact⟨rfl,H.dr a,Zp a⟩
  ·have d:U7 b at_ k=0:=by unfold U7;rw [qJ h1,qJ h2]
   unfold gq gk;rw [d,qk rfl,qk rfl,show(k:Int).toNat=k from rfl];have q:at_+k<=8*N:=by unfold q7 at h2;rw [o] at h2;omega
   have z:wrap64 ((at_:Int)+(k:Int))=(at_:Int)+(k:Int):=yT _ ⟨uK,uK⟩;have f:=λc (t:Rd c g A N cap b at_)=>pE c g A N cap at_ k at_ b t r uK;replace f:=qj f;generalize q7 b at_=lf,QF b at_ k=w at*;clear h1 d;go_in;go_wp2_with fail;refine zC j ?_;intro c a;have i:=qj (H.dr a);have m:=qj (Zp (l:=[g]) a);have c2:=i.out.XZ;clear a;go_wp2;go_quiet ((go_at_call 287;exact Kj (f.out _ (i.out.drewN _))));have R2:=qj (i.drewN nq);have v:=qj (m.drewN nq);generalize c.drewN nq=x at*;have c2:=R2.out.XZ;have y:=R2.blk.frozen 2;go_wp2;go_ret2;exact⟨rfl,R2.setAt (at_+k) q,v.zh (p:=⟨g,2,none⟩) (qy.2 rfl) _⟩
theorem zM.cat {j:World} {n m c w:Nat} {A y:q'} {q v:List qn} {t:List Value} (h1:W.ownsRow base 30 1 (.slice A n c) n vs) (h2:q.length=n) (h3: ∀(i:Nat) (d:qn),q[i]? =some d-> ∃(Ai:q') (b:Nat),vs[i]? =some (.slice Ai d b)/\j8 W b0 base Ai b d) (h0:b0<=base) (H:base<=W.heap.size) (L:t.length=m) (K:v.length=m) (D: ∀(i:Nat) (d:qn),v[i]? =some d-> ∃(Ai:q') (b:Nat),t[i]? =some (.slice Ai d b)/\j8 W b0 base Ai b d) (C:j.ownsRow base 30 1 (.slice y (n+m) w) (n+m) (vs++t)) (h:W.grownBy j (A.map (·.block))):
  zM j b0 base y (n+m) w (q++v):=by
 have keep: ∀(l:q') (k:Nat) (f:qn),j8 W b0 base l k f->j8 j b0 base l k f:=λl k f x=>by
  rcases A with _|s
  ·obtain⟨o1,o2,o3⟩:=x;refine⟨o1,o2, ?_⟩;rcases o3 with o3|o3
   ·exact .inl (o3.keep λp M=>zw (h.block _ uK s8))
   ·refine .inr (zI o3 (λa G=> ?_));obtain⟨F,E,o⟩:=jV o3 _ (by rw [G];rfl);exact h.block _ (jz o) s8
  ·obtain⟨F,E,o⟩:=jV h1 _ rfl;have J:=(h1.lt _ rfl).1;exact x.other h0 o J (λg z B=>h.block g z (by simpa using B))
 have I:vs.length=n:=by have:=h1.1;omega
 refine⟨⟨_,C,by rw [qK,h2,K],λi f hi=> ?_⟩,qv H h.size,h0⟩;by_cases e:i<n
 ·rw [q_ uK] at hi;obtain⟨Ai,b,r,u⟩:=h3 i f hi;exact⟨_,b,by rw [q_ uK];exact r,keep _ _ _ u⟩
 ·rw [qm uK,h2] at hi;obtain⟨Ai,b,r,u⟩:=D _ f hi;exact⟨_,b,by rw [qm uK,I];exact r,keep _ _ _ u⟩
theorem dV (i j:Nat) {g d:Oper} {s m:List Oper} {fuel:Nat} {listed:Array Bool} {a:Act} {w:World} (hi:ops.toList.drop i=g::s) (q:ops.toList.drop j=d::m)
  (h:Region.ready md ops listed=[i,j]) (r:Region.wanted g (yielded ops a.tmps)=true) (p:Region.wanted d (yielded ops a.tmps)=true)
  (h1: ∀b:Act->World->Prop,Shut (∀a w,S w->(S w->jR P md ops Q S n fuel (listed.setIfInBounds i true) a w)->b a w)->Oper.wp P g a w b Q)
  (h2: ∀b:Act->World->Prop,Shut (∀a w,S w->(S w->jR P md ops Q S n fuel (listed.setIfInBounds j true) a w)->b a w)->Oper.wp P d a w b Q):jR P md ops Q S n (fuel+1) listed a w:=by
 refine⟨λh0=>absurd (h0.symm.trans h) s8,λk l=> ?_⟩;rw [h] at l;have o:k=i\/k=j:=by simpa using l
 rcases o with rfl|rfl
 ·exact wpOp_step (ZS hi) (λb e=>by rw [qk r];exact h1 b λa w c f=>e a w ⟨λ_ _=>c,f c⟩)
 ·exact wpOp_step (ZS q) (λb e=>by rw [qk p];exact h2 b λa w c f=>e a w ⟨λ_ _=>c,f c⟩)
theorem mz {a:List qn} (f:vs.length=a.length) (h3: ∀(i:Nat) (b:qn),a[i]? =some b-> ∃(Ai:q') (c:Nat),vs[i]? =some (.slice Ai b c)/\j8 W b0 base Ai c b): ∀u∈vs,u.oneCell'=true:=λu d=>by
 obtain⟨i,hi,rfl⟩:=Q8 d;obtain⟨Ai,c,e,_⟩:=h3 i _ (qX (by omega:i<a.length))
 rw [qX hi] at e;injection e with e
 rw [e];rfl
end
section
variable {A:q'}{B n:Nat}{l:List (Int×Int×qn)}{w:World}
def bY (w:World) (B:Nat) (A:q') (n:Nat) (l:List (Int×Int×qn)):Prop:=
 l.length=n/\(0<n-> ∃a,A=some a/\a.block<B/\ ∀(i:Nat) (hi:i<l.length),∃(Ai:q') (b c:Nat),w.cell? (a.add (i*3))=some (.int .i64 l[i].1)/\w.cell? (a.add (i*3+1))=some (.int .i64 l[i].2.1)/\w.cell? (a.add (i*3+2))=some (.slice Ai b c)/\b<=c/\Reads w B 1 Ai b (l[i].2.2.map B8))
theorem bY.below {w':World} (h:bY w B A n l) (c:Below B w w'):bY w' B A n l:=by
 refine⟨h.1,λf=> ?_⟩;obtain⟨a,e,d,g⟩:=h.2 f;refine⟨a,e,d,λi hi=> ?_⟩;obtain⟨Ai,m,j,h0,h1,h2,h3,h4⟩:=g i hi;have b:=λk=>c.cell (p:=a.add k) (by rw [xF];exact d);exact⟨Ai,m,j,(b _).trans h0,(b _).trans h1,(b _).trans h2,h3,h4.below c⟩
theorem bY.row (h:bY w B A n l) (j:Nat) (g:j<l.length): ∃a,A=some a/\a.block<B/\ ∃(Ai:q') (b c:Nat),w.cell? (a.add (j*3))=some (.int .i64 l[j].1)/\w.cell? ⟨(a.add (j*3)).block,(a.add (j*3)).off+1,none⟩=some (.int .i64 l[j].2.1)/\w.cell? ⟨(a.add (j*3)).block,(a.add (j*3)).off+2,none⟩=some (.slice Ai b c)/\b<=c/\Reads w B 1 Ai b (l[j].2.2.map B8):=by
 obtain⟨a,f,e,d⟩:=h.2 (by have:=h.1;omega);obtain⟨Ai,b,c,h0,h1,h2,h3,h4⟩:=d j g;rw [<-QZ,show(a.add (j*3)).add 1=⟨(a.add (j*3)).block,(a.add (j*3)).off+1,none⟩ from rfl] at h1;rw [<-QZ,show(a.add (j*3)).add 2=⟨(a.add (j*3)).block,(a.add (j*3)).off+2,none⟩ from rfl] at h2;exact⟨a,f,e,_,b,c,h0,h1,h2,h3,h4⟩
end
section
variable {A d:q'}{C R base e g j k m n o:Nat}{W c w:World}{f i l:Nat->Nat->UInt8}
structure Pw (W:World) (base g R C:Nat) (A:q') (n k:Nat) (f:Nat->Nat->UInt8) (A':q') (n' k':Nat) (f':Nat->Nat->UInt8):Prop where
 a:Wk W base g 0 R C A n k f
 b:Wk W base g 3 R R A' n' k' f'
 ne: ∀x y,A=some x->A'=some y->x.block≠y.block
theorem Pw.below (h:Pw W base g R C A n k f d e j i) (l:Below W W c):Pw c base g R C A n k f d e j i:=⟨h.a.below l,h.b.below l,h.ne⟩
theorem Pw.opA (h:Pw W base g R C A n k f d j m l) (o:Wk c base g 0 R C A n k i) (q:W.grownBy c (A.map (·.block))):Pw c base g R C A n k i d j m l:=
 ⟨o,h.b.grown q h.a.ne (λy p e=>by
  cases A with
  |none=>simp at e
  |some x=>simp at e;exact h.ne x y rfl p e),h.ne⟩
theorem Pw.more {b:World} (h:Pw W base g R C A n k f d e j i) (l:Below base w W) (c:Below W W b):Below base w b:=l.trans (c.mono h.a.bs)
theorem Yt {B:Nat} {a w:World} (h:Below B a.drew w):Below B a w:=⟨h.os,h.tape,h.output,h.size,h.block⟩
end
section
variable {a b c d:Nat}{ch k m n:Int}
def kA (k m ch n:Int):Bool:=kD k m&&(decide (1<=ch)&&(decide (ch<=4096)&&(decide (0<=n)&&decide (n<=8388608))))
def YA (d n:Nat):Nat:=(n+d-1)/d
def kM (k m ch n:Nat):Nat:=YA (k*ch) n*((k+m)*(ch+4))
def ZM (k m ch n:Int):Int:=if kA k m ch n=true then(if kM k.toNat m.toNat ch.toNat n.toNat<=16777216 then 0 else 6) else 13
def Vx (k m ch n:Int):Nat:=if ZM k m ch n=0 then kM k.toNat m.toNat ch.toNat n.toNat else 0
theorem Ro (h:kA k m ch n=true): ∃a b c d:Nat,k=(a:Int)/\m=(b:Int)/\ch=(c:Int)/\n=(d:Int)/\1<=a/\a+b<=255/\1<=c/\c<=4096/\d<=8388608:=by
 unfold kA kD at h;simp only [zR,zd] at h;exact⟨k.toNat,m.toNat,ch.toNat,n.toNat,uK,uK,uK,uK,uK,uK,uK,uK,uK⟩
theorem iQ (h1:1<=a) (h2:a+b<=255) (h3:1<=c) (h4:c<=4096) (h5:d<=8388608):kA a b c d=true:=by
 unfold kA kD;simp only [zR,zd];omega
theorem UY (h:kA k m ch n=false):ZM k m ch n=13/\Vx k m ch n=0:=by
 have e:ZM k m ch n=13:=by unfold ZM;rw [qJ (by rw [h];decide)]
 exact⟨e,by unfold Vx;rw [e];rfl⟩
theorem UK (h:kA a b c d=true) (f:kM a b c d<=16777216):ZM a b c d=0/\Vx a b c d=kM a b c d:=by
 have e:ZM a b c d=0:=by unfold ZM;rw [qk h];simp only [zc];rw [qk f]
 exact⟨e,by unfold Vx;rw [qk e];simp only [zc]⟩
theorem bh (h:kA a b c d=true) (f:16777216<kM a b c d):ZM a b c d=6/\Vx a b c d=0:=by
 have e:ZM a b c d=6:=by unfold ZM;rw [qk h];simp only [zc];rw [qJ uK]
 exact⟨e,by unfold Vx;rw [e];rfl⟩
theorem mj {n:Nat} (a:1<=d):YA d n<=n:=by
 unfold YA;rcases zA n with h|h
 ·subst h;rw [jL,xW uK];omega
 ·apply Nat.div_le_of_le_mul;have:n+d<=d*n+1:=by
   obtain⟨e,rfl⟩: ∃e,d=e+1:=⟨d-1,uK⟩;obtain⟨f,rfl⟩: ∃f,n=f+1:=⟨n-1,uK⟩;rw [Nat.add_mul,Nat.mul_add];omega
  omega
theorem OP {n:Nat} (a:1<=d):YA d n=if n/d*d<n then n/d+1 else n/d:=by
 unfold YA;have h1:=Qe n d;have h2:=xC n (show 0<d by omega);have h3:n/d*d=d*(n/d):=xH _ _;rw [h3];by_cases h:n%d=0
 ·rw [qJ uK];have:n+d-1=d*(n/d)+(d-1):=uK;rw [this,Nat.mul_add_div uK,xW (show d-1<d by omega),v_]
 ·rw [qk uK];have:n+d-1=d*(n/d+1)+(n%d-1):=by rw [Nat.mul_add];omega
  rw [this,Nat.mul_add_div uK,xW (show n%d-1<d by omega),v_]
theorem D9 {A B:Nat} (c:a<=A) (d:b<=B):a*b<=A*B:=xA c d
theorem cN (h2:a+b<=255) (h4:c<=4096):(a+b)*(c+4)<=1045500:=by
 have:=D9 h2 (show c+4<=4100 by omega);omega
theorem cm (h2:a<=255) (h4:c<=4096):a*c<=1044480:=by
 have:=D9 h2 h4;omega
theorem V2 (h1:1<=a) (h3:1<=c):1<=a*c:=by
 have:=D9 h1 h3;omega
theorem bZ {s l:Nat} (a:s<=8388608) (b:l<=1045500):s*l<=8770289664000:=by
 have:=D9 a b;omega
theorem Gc (k m ch n:Int):(k<1/\kA k m ch n=false)\/(1<=k/\m<0/\kA k m ch n=false)\/(1<=k/\0<=m/\255<k/\kA k m ch n=false)\/(1<=k/\0<=m/\k<=255/\255-k<m/\kA k m ch n=false)\/
  (1<=k/\0<=m/\k<=255/\m<=255-k/\ch<1/\kA k m ch n=false)\/(1<=k/\0<=m/\k<=255/\m<=255-k/\1<=ch/\4096<ch/\kA k m ch n=false)\/(1<=k/\0<=m/\k<=255/\m<=255-k/\1<=ch/\ch<=4096/\n<0/\kA k m ch n=false)\/
  (1<=k/\0<=m/\k<=255/\m<=255-k/\1<=ch/\ch<=4096/\0<=n/\8388608<n/\kA k m ch n=false)\/(1<=k/\0<=m/\k<=255/\m<=255-k/\1<=ch/\ch<=4096/\0<=n/\n<=8388608/\kA k m ch n=true):=by
 have a:kA k m ch n=decide ((1<=k/\0<=m/\k+m<=255)/\1<=ch/\ch<=4096/\0<=n/\n<=8388608):=by
  rw [yx];unfold kA kD;simp only [zR,zd]
 have F: ¬((1<=k/\0<=m/\k+m<=255)/\1<=ch/\ch<=4096/\0<=n/\n<=8388608)->kA k m ch n=false:=λh=>by rw [a];exact qc h
 have T:((1<=k/\0<=m/\k+m<=255)/\1<=ch/\ch<=4096/\0<=n/\n<=8388608)->kA k m ch n=true:=λh=>by rw [a];exact qw h
 clear a;by_cases h1:k<1
 ·exact .inl ⟨h1,F (λh=>uK)⟩
 by_cases h2:m<0
 ·exact .inr (.inl ⟨uK,h2,F (λh=>uK)⟩)
 by_cases h3:255<k
 ·exact .inr (.inr (.inl ⟨uK,uK,h3,F (λh=>uK)⟩))
 by_cases h4:255-k<m
 ·exact .inr (.inr (.inr (.inl ⟨uK,uK,uK,h4,F (λh=>uK)⟩)))
 by_cases h5:ch<1
 ·exact .inr (.inr (.inr (.inr (.inl ⟨uK,uK,uK,uK,h5,F (λh=>uK)⟩))))
 by_cases h6:4096<ch
 ·exact .inr (.inr (.inr (.inr (.inr (.inl ⟨uK,uK,uK,uK,uK,h6,F (λh=>uK)⟩)))))
 by_cases h7:n<0
 ·exact .inr (.inr (.inr (.inr (.inr (.inr (.inl ⟨uK,uK,uK,uK,uK,uK,h7,F (λh=>uK)⟩))))))
 by_cases h8:8388608<n
 ·exact .inr (.inr (.inr (.inr (.inr (.inr (.inr (.inl ⟨uK,uK,uK,uK,uK,uK,uK,h8,F (λh=>uK)⟩)))))))
 exact .inr (.inr (.inr (.inr (.inr (.inr (.inr (.inr ⟨uK,uK,uK,uK,uK,uK,uK,uK,T ⟨⟨uK,uK,uK⟩,uK,uK,uK,uK⟩⟩)))))))
theorem Vn (w:World) (a c b:Value):Below w w (w.alloc (.cells #[a,c,b] 108)):=z8 _
theorem cO (k m ch n:Int) (w:World):Calls prog 96 #[.agg #[k,m,ch],n] w λe w'=>e= .returned (.bool (kA k m ch n))/\Below w w w':=by
 have a:=qj (Vn w k m ch);rcases Gc k m ch n with⟨h1,e⟩|⟨h1,h2,e⟩|⟨h1,h2,h3,e⟩|⟨h1,h2,h3,h4,e⟩|⟨h1,h2,h3,h4,h5,e⟩|⟨h1,h2,h3,h4,h5,h6,e⟩|⟨h1,h2,h3,h4,h5,h6,h7,e⟩|⟨h1,h2,h3,h4,h5,h6,h7,h8,e⟩|⟨h1,h2,h3,h4,h5,h6,h7,h8,e⟩
 ·rw [e];clear e;go_wp2;go_ret;exact⟨by first|rfl|(simp;omega),a.out⟩
 ·rw [e];clear e;go_wp2;go_ret;exact⟨by first|rfl|(simp;omega),a.out⟩
 ·rw [e];clear e;go_wp2;go_ret;exact⟨by first|rfl|(simp;omega),a.out⟩
 all_goals
  rw [e];clear e;have b:IntKind.i64.wrap (255-k)=255-k:=by
   obtain⟨s,b⟩: ∃s:Nat,255-k=(s:Int):=⟨(255-k).toNat,uK⟩;rw [b,qU];omega
  go_wp2;go_ret;exact⟨by first|rfl|(simp;omega),a.out⟩
theorem eZ (a b c:Nat) (w:World) (h1:a<=255) (h2:c<=4096):Calls prog 66 #[.agg #[a,b,c]] w λe w'=>e= .returned ((a*c:Nat):Int)/\Below w w w':=by
 have f:=qj (Vn w a b c);have h:=cm h1 h2;have g:=(zB a c).symm;generalize a*c=d at*;go_wp2;go_ret;exact⟨rfl,f⟩
theorem eJ (a b c:Nat) (w:World) (h1:a+b<=255) (h2:c<=4096):Calls prog 97 #[.agg #[a,b,c]] w λe w'=>e= .returned (((a+b)*(c+4):Nat):Int)/\Below w w w':=by
 have f:=qj (Vn w a b c);have l:=cN h1 h2;have j:(a:Int)+(b:Int)=((a+b:Nat):Int):=uK;have g:(c:Int)+4=((c+4:Nat):Int):=uK;have k:((a+b:Nat):Int)*((c+4:Nat):Int)=(((a+b)*(c+4):Nat):Int):=(zB _ _).symm;have n:a+b<=255:=h1;have h:c+4<=4100:=uK;generalize (a+b)*(c+4)=d at*
 generalize a+b=m at*
 generalize c+4=i at*
 go_enter func97,ntmps97
 go_wp2_with fail;go_ret;exact⟨rfl,f.out⟩
theorem di (a b c n:Nat) (w:World) (h1:a<=255) (h2:c<=4096) (x:1<=a) (A:1<=c) (N:n<=8388608):Calls prog 65 #[.agg #[a,b,c],n] w λe w'=>e= .returned (.int .i64 (YA (a*c) n:Nat))/\Below w w w':=by
 have u:=qj (Vn w a b c);have f:=Blk.new w 108 #[a,b,c];have o:=qj (λW=>eZ a b c W h1 h2);have O:=cm h1 h2;have C:=V2 x A;generalize a*c=d at*;unfold YA;have G:IntKind.i64.wrap ((n:Int)+(d:Int))=((n+d:Nat):Int):=by rw [<-xe,qU];omega
 have B:IntKind.i64.wrap (((n+d:Nat):Int)-1)=((n+d-1:Nat):Int):=by
  rw [show((n+d:Nat):Int)-1=((n+d-1:Nat):Int) by omega,qU];omega
 have I:(n+d-1)/d<=n+d:=qv (xr _ _) uK;have t:((n+d-1:Nat):Int)/(d:Int)=(((n+d-1)/d:Nat):Int):=(JK _ _).symm;have L:((n+d-1:Nat):Int).tdiv (d:Int)=(((n+d-1)/d:Nat):Int):=by rw [Int.tdiv_eq_ediv_of_nonneg uK];exact t
 generalize (n+d-1)/d=q at*;have E:IntKind.i64.wrap (q:Int)=(q:Int):=SX;generalize n+d-1=y,n+d=z at*;have H: ¬d=0:=uK;go_in;go_wp2_with fail;generalize w.alloc (.cells #[a,b,c] 108)=i at*;have h:Hid (∀W,Below i i W->W.cell? w.heap.size=some (a:Value)/\W.cell? ⟨w,1,none⟩=some (b:Value)/\W.cell? ⟨w,2,none⟩=some (c:Value)):=λW k=>⟨(f.below k f.lt).cell 0,(f.below k f.lt).cell 1,(f.below k f.lt).cell 2⟩;refine zv 9 (λW=>W.cell? w.heap.size=some (a:Value)/\W.cell? ⟨w,1,none⟩=some (b:Value)/\W.cell? ⟨w,2,none⟩=some (c:Value)) AL (h _ (qZ _ _).drew) (λj=> ?_);refine zq [0,1,5] (a':= ?_) ?_;refine carried 2 rfl AL SQ (λK g=> ?_);go_simp
 (go_at_call 66;((with_reducible refine(o.out _).mono ?_);rintro e J ⟨rfl,l⟩);have m:=qj (zX (qZ _ i).drew l);clear l)
 refine g _ _ ((h _ m)) (λj=>xg ?_);clear g K;refine zq [3,4] (a':= ?_) ?_;refine carried 6 rfl AL SQ (λK g=> ?_);go_simp
 (go_at_call 66;((with_reducible refine(o.out _).mono ?_);rintro e D ⟨rfl,p⟩);have r:=qj (zX m.out p);clear p)
 refine g _ _ ((h _ r)) (λj=>xg ?_);clear g K;refine zq [7,8] (a':= ?_) ?_;refine zV AL ?_ _;have v:=qj (zX u r);clear j h f;go_wp2;go_ret;exact⟨rfl,v⟩
end
section
variable {A:q'}{N a g i j k:Nat}{W:World}{b:qn}
theorem IY (d:k<=64) (h:q7 b a<k):U7 b a (k:Int)=1/\gq b a (k:Int)=0/\gk b a (k:Int)=a:=by
 have c:U7 b a (k:Int)=1:=by unfold U7;rw [qJ uK,qk uK]
 unfold gq gk;rw [c];exact⟨rfl,qJ FV,qJ FV⟩
theorem OB (d:k<=64) (h: ¬q7 b a<k):U7 b a (k:Int)=0/\gq b a (k:Int)=QF b a k/\gk b a (k:Int)=a+k:=by
 have c:U7 b a (k:Int)=0:=by unfold U7;rw [qJ uK,qJ uK]
 unfold gq gk;rw [c];exact⟨rfl,qk rfl,qk rfl⟩
theorem D_ {cap at_:Nat} (h:Rd W g A N cap b at_) (a:k<=64) (c:q7 b at_<k):
  Calls prog 274 #[.pointer g,k] W (JD W g A N cap b (.tuple #[.int .u64 0, .int .i64 1]) at_):=by
 have:=UF W g A N _ _ b (k:Int) h;obtain⟨h1,h2,h3⟩:=IY a c;rw [h1,h2,h3] at this;exact this
theorem Uc {cap at_:Nat} (h:Rd W g A N cap b at_) (a:k<=64) (c: ¬q7 b at_<k):
  Calls prog 274 #[.pointer g,k] W (JD W g A N cap b (.tuple #[.int .u64 (QF b at_ k),()]) (at_+k)):=by
 have:=UF W g A N _ _ b (k:Int) h;obtain⟨h1,h2,h3⟩:=OB a c;rw [h1,h2,h3] at this;exact this
def uG (W:World) (g:Nat) (A:q') (N cap:Nat) (b:qn) (r:Int×qn×Nat) (e:Ending) (a:World):Prop:=
 ∃d c,e= .returned (.tuple #[.slice d r.2.1.length c, .int .i64 r.1])/\a.ownsRow W 5 1 (.slice d r.2.1.length c) r.2.1.length (r.2.1.map B8)/\Rd a g A N cap b r.2.2/\qE [g] W a
theorem Rd.beside {f:World} {cap at_ base n c:Nat} {d:q'} {j:List Value} (h:Rd W g A N cap b at_) (i:W.ownsRow base 5 1 (.slice d n c) n j) (l: ∀k∈fpS A,k<base) (p:g<base) (m:W.grownBy f (d.map (·.block))):Rd f g A N cap b at_:=by
 have e:=λk a=>(zj i k a).1;refine h.jZ ((qE.refl (fpS d) W).grown m λk a=> .inl a) (λa=>by have:=e _ a;omega) (λk a o=>by have:=e _ o;have:=l _ a;omega)
theorem EK (W:World) (g:Nat) (A:q') (N cap at_ n:Nat) (b:qn) (hn:n<=300) (h:Rd W g A N cap b at_):
  Calls prog 284 #[.pointer g,n] W (uG W g A N cap b (YM b n at_)):=by
 obtain⟨Z,hi,P,Q,V⟩:=xt xR;have H:=qj h;have O':=qj (λk j=>(zj h.own k j).2);have O:=qj h.blk.lt;clear h;have hb1:Z.bytes*n<=281474976710656:=by rw [V.out];omega
 have U':n<=maxLen:=SJ;have hn0: ¬(n:Int)<0:=uK;have hn3: ¬(300:Int)<(n:Int):=uK;go_in;go_wp2_with (at_make;refine QA _ rfl _ _ 30 rfl W 5 Z (.int .u8 0) 1 qu hi P Q .i64 .i64 _ n rfl rfl rfl hb1 U' (qx _) ?_;intro w1 P' J);have N':=qj ((qE.refl [g] W).IJ J);have N6:=qj (H.fresh ⟨J.os,J.tape,J.output,J.size,λk j=>J.block k j s8⟩);have N9:=qj P';clear P' J;go_loopw [6,7] (λv6 v7 wr=> ∃(f d m c2:Nat) (a:qn) (z:Bool) (D:q'),v6= .slice D m c2/\v7= .bool z/\m<=n/\Hid (m=a.length)/\Hid (n-m<=f)/\Hid (F3 b n f d a z=YM b n at_)/\Hid (wr.ownsRow W 5 1 (.slice D m c2) m (a.map B8))/\Hid (Rd wr g A N cap b d)/\Hid (qE [g] W wr)) (λv6 _ _=>n-Y8 v6)
 ·exact⟨n,at_,0,n,[],false,_,rfl,rfl,qp _,rfl,by rw [Hid];omega,rfl,N9,N6,N'⟩
 ·obtain⟨f,d,m,c2,a,z,D,rfl,rfl,hmn,E,HF,X,C,T,x⟩:=hrel;by_cases hlt:m<n
  ·have hlt':=j' m n;obtain⟨f,rfl⟩: ∃f',f=f'+1:=⟨f-1,by have:=HF.out;omega⟩;have J': ¬n<=a.length:=by rw [<-E.out];omega
   have I:=X.out;rw [F3.eq_2,qJ J'] at I;replace I:=qj I;clear X J';by_cases h4:q7 b d<4
   ·have p:=qj (D_ T uK h4);have s:Hid (YM b n at_=(1,[],d)):=by rw [Hid,<-I.out,qk h4]
    unfold JD at p;clear h4;go_wp2_with fail;refine zC p ?_;rintro i ⟨l,o⟩;replace l:=qj l;replace o:=qj o;go_wp2;go_ret2;unfold uG;rw [s.out];exact⟨_,0,rfl,qP _ _ _ _,l,x.then o⟩
   ·have p:=qj (Uc T uK h4);have c:=I.out;rw [qJ h4] at c;unfold JD at p;have m':=Zr b d 4;obtain⟨v,hv⟩:=j1 (QF b d 4);rw [<-hv] at p c m';have S':v<16:=m';clear h4 m' hv;by_cases Y:v≠0
    ·rw [qk Y] at c;replace c:=qj c;have hv0':=yn v;have hwv:IntKind.u8.wrap (v:Int)=(v:Int):=by rw [va];omega
     have Z':Hid ((v:Int)=((UInt8.ofNat v).toNat:Int)):=by rw [Hid,zS];omega
     have hm1:m+1<=maxLen:=SJ;have o:(m+1)*1<=140737488355328:=uK;clear Y;go_wp2_with fail;refine zC p ?_;rintro i ⟨l,I'⟩;have F:=qj (I'.own C (λk j=>by have:=(zj C k j).1;have:=O.out;simp;omega));have Q':=qj l;have u:=qj (x.then I');clear l I' C T x;have d':=u.size;replace d':=qj d';go_wp2_with (at_builtin;refine qF _ rfl (.tmp 34) (.tmp 37) 30 rfl W 5 Z (.int .u8 0) 1 1 qu hi P Q V rfl uK D m c2 _ rfl (F.alloc _) (i.heap.size+1) i.heap.size 1 1 [.int .u8 (v:Int)] rfl (zU _ _ _) (one_one rfl) hm1 o (qv d' s8) ?_;intro U R w4 y G p';have D':=qj ((Q'.fresh (z8 _)).beside (F.alloc _) O' O G);have u':=qj ((u.alloc (.cells #[.int .u8 (v:Int)] 5)).grown G (λk j=> .inr (zj F k j).1));replace y:=qj y;clear G p');have K:Hid (w4.ownsRow W 5 1 (.slice U (m+1) R) (m+1) ((a++[UInt8.ofNat v]).map B8)):=by
      have:=y.out;rw [Z'.out] at this;rw [Hid,qg];exact this
     have M':Hid (m+1=(a++[UInt8.ofNat v]).length):=by rw [Hid,qK,<-E.out];rfl
     go_roundw
     case rel=>exact⟨f,d+4,m+1,R,a++[UInt8.ofNat v],false,U,s8,xb,uK,M',by have:=HF.out;rw [Hid];omega,c,K,D',u'⟩
     case measure=>simp [Y8];omega
    ·obtain rfl:v=0:=uK;rw [qJ Y] at c;clear Y S';by_cases h6:q7 b (d+4)<6
     focus
      rw [qk h6] at c;have s:=qj c.symm;have t:=qj (λi (h2:Rd i g A N cap b (d+4))=>D_ h2 uK h6);unfold JD at t;clear h6
     rotate_left
     focus
      rw [qJ h6] at c;have t:=qj (λi (h2:Rd i g A N cap b (d+4))=>Uc h2 uK h6);unfold JD at t;have G':=Zr b (d+4) 6;obtain⟨k,j⟩:=j1 (QF b (d+4) 6);rw [<-j] at c t G';have hk63:k<64:=G';have hwk:IntKind.i64.wrap (k:Int)=(k:Int):=SX;clear h6 G' j;by_cases L:z=true\/n-a.length<=k
      ·rw [qk L] at c;have s:=qj c.symm;have iL:z=true\/(z=false/\(n:Int)-(m:Int)<=(k:Int)):=by
        rcases L with h|h
        ·exact .inl h
        ·cases z
         ·rw [<-E.out] at h;exact .inr ⟨rfl,uK⟩
         ·exact .inl rfl
       clear L;rcases iL with rfl|⟨rfl,iL⟩<;>
       ·go_wp2_with fail;refine zC p ?_;rintro i ⟨l,o⟩;have B:=qj (t i l);have u:=qj (x.then o);clear l o;go_wp2_with fail;refine zC B ?_;rintro w3 ⟨w,q⟩;replace w:=qj w;replace q:=qj q;go_wp2;go_ret2;unfold uG;rw [s.out];exact⟨_,0,rfl,qP _ _ _ _,w,u.then q⟩
      focus
       rw [qJ L] at c;obtain rfl:z=false:=by cases z<;>simp_all
       have hmk:m+(k+1)<=n:=by rw [<-E.out] at L;omega
       replace c:=qj c;have hwk1:IntKind.u64.wrap ((k:Int)+1)=(k:Int)+1:=by rw [qS];omega
       have hk1:Hid ((k:Int)+1=((k+1:Nat):Int)):=by rw [Hid];omega
       have X':Hid (decide (k+1<64)=decide ((k:Int)+1<64)):=by
        rw [Hid];by_cases h:k+1<64
        ·rw [qw h,qw uK]
        ·rw [qc h,qc uK]
       clear L
      rotate_left
     rotate_left
     all_goals
      go_wp2_with fail;refine zC p ?_;rintro i ⟨l,o⟩;have B:=qj (t i l);have u:=qj (x.then o)
     ·clear l o;go_wp2_with fail;refine zC B ?_;rintro w3 ⟨w,q⟩;replace w:=qj w;replace q:=qj q;go_wp2;go_ret2;unfold uG;rw [s.out];exact⟨none,0,rfl,qP _ _ _ _,w,u.then q⟩
     ·have F:=qj (o.own C (λk j=>by have:=(zj C k j).1;have:=O.out;simp;omega));clear l o;go_wp2_with fail;refine zC B ?_;rintro w3 ⟨w,q⟩;have z':=qj (u.then q);have OX:=qj w;have HO3:=qj (z'.size);have K:=qj (q.own F (λk j=>by have:=(zj F k j).1;have:=O.out;simp;omega));clear w q C;go_wp2_with (at_builtin;refine Pm _ rfl (.tmp 57) (.tmp 59) 30 43 rfl W 5 Z (.int .u8 0) 1 .u64 .u64 qu underlying43 hi P Q V rfl rfl uK D m c2 _ rfl K (k+1) (zo _ hk1) uK uK HO3 ?_;intro U R w4 y G p';have D':=qj (OX.beside K O' O G);have u':=qj (z'.grown G (λk j=> .inr (zj K k j).1));replace y:=qj y;clear G p');have Y':Hid (w4.ownsRow W 5 1 (.slice U (m+(k+1)) R) (m+(k+1)) ((a++List.replicate (k+1) 0).map B8)):=by
       have:=y.out;rw [Hid,qg,yP];exact this
      have M':Hid (m+(k+1)=(a++List.replicate (k+1) 0).length):=by rw [Hid,qK,<-E.out,zT]
      go_roundw
      case rel=>exact⟨f,d+10,m+(k+1),R,a++List.replicate (k+1) 0,decide (k+1<64),U,s8,by rw [X'.out],uK,M',by have:=HF.out;rw [Hid];omega,c,Y',D',u'⟩
      case measure=>simp [Y8];omega
  ·have J':=vv m n;obtain rfl:m=n:=uK;have M:=qj (kY D m c2 _ a _ (Reads.zY C) (qx _));have s:Hid (YM b m at_=(if Y2 a≠0 then 7 else 0,if Y2 a≠0 then [] else a,d)):=by
    have h1:m<=a.length:=by rw [<-E.out];exact qx _
    rw [Hid,<-X.out];cases f with
    |zero=>rfl
    |succ f=>rw [F3.eq_2,qk h1]
   clear X;rcases uf a with S|S;rotate_left;rotate_left
   all_goals
    rw [S] at M s;clear S;go_wp2_with fail;refine zC M ?_;intro i r;replace r:=qj r;go_wp2;go_ret2;unfold uG;rw [s.out]
   ·refine⟨D,c2,by simp [E.out], ?_,T.fresh r,x.fresh r⟩;have:=qG C r.out;simpa [<-E.out] using this
   ·exact⟨_,0,rfl,qP _ _ _ _,T.fresh r,x.fresh r⟩
def Ri (w:World) (v:Nat) (a:Int) (e:Ending) (w':World):Prop:=e= .returned (.tuple #[v,a])/\Below w w w'
theorem Uk (k m ch n:Int) (w:World):Calls prog 64 #[k,m,ch,n] w (Ri w (Vx k m ch n) (ZM k m ch n)):=by
 have E:=qj (Vn w k m ch);have f:=Blk.new w 108 #[k,m,ch];have p:=qj (λW=>cO k m ch n W);cases g:kA k m ch n with
 |false=>
  rw [(UY g).1,(UY g).2];rw [g] at p;have u:=And.intro (f.cell 0) (And.intro (f.cell 1) (f.cell 2));clear f g;go_in;go_wp2_with fail;generalize w.alloc (.cells #[k,m,ch] 108)=P at*;refine zC (p _) ?_;intro B i;have J:=qj (zX E i);clear u i;go_wp2;go_ret2;exact⟨rfl,J⟩
 |true=>
  rw [g] at p;obtain⟨a,b,c,d,rfl,rfl,rfl,rfl,h1,h2,h3,h4,h5⟩:=Ro g;have S:=qj (λW=>di a b c d W uK h4 h1 h3 h5);have L:=qj (λW=>eJ a b c W h2 h4);have I:=qv (mj (V2 h1 h3)) h5;have R:=cN h2 h4;have y:=bZ I R;have Q:(kM a b c d<=16777216/\ZM a b c d=0/\Vx a b c d=kM a b c d)\/(16777216<kM a b c d/\ZM a b c d=6/\Vx a b c d=0):=by
   by_cases h:kM a b c d<=16777216
   ·exact .inl ⟨h,UK g h⟩
   ·exact .inr ⟨uK,bh g uK⟩
  have M:((YA (a*c) d:Nat):Int)*(((a+b)*(c+4):Nat):Int)=((kM a b c d:Nat):Int):=(zB _ _).symm;have X:kM a b c d<=8770289664000:=y;have G:IntKind.i64.wrap ((kM a b c d:Nat):Int)=((kM a b c d:Nat):Int):=SX;clear y;generalize YA (a*c) d=s,(a+b)*(c+4)=l,kM a b c d=z at*;have N:IntKind.i64.wrap ((s:Int)*(l:Int))=(z:Int):=by rw [M];exact G
  clear g;have j:Hid (∀W,Below (w.alloc (.cells #[a,b,c] 108)).heap.size (w.alloc (.cells #[a,b,c] 108)) W->W.cell? w.heap.size=some (a:Value)/\W.cell? ⟨w,1,none⟩=some (b:Value)/\W.cell? ⟨w,2,none⟩=some (c:Value)):=λW r=>⟨(f.below r f.lt).cell 0,(f.below r f.lt).cell 1,(f.below r f.lt).cell 2⟩;have u:=j _ (qZ _ _);clear f;rcases Q with⟨H,x,v⟩|⟨H,x,v⟩
  all_goals
   rw [x,v];clear x v;have t:(z:Int)<=16777216\/(16777216:Int)<(z:Int):=uK;go_in;go_wp2_with fail;generalize w.alloc (.cells #[a,b,c] 108)=P at*;refine zC (p _) ?_;intro B i;replace i:=qj i;go_wp2_with fail;refine zv 7 (λW=>W.cell? w.heap.size=some (a:Value)/\W.cell? ⟨w,1,none⟩=some (b:Value)/\W.cell? ⟨w,2,none⟩=some (c:Value)) AL (j _ i.drew) (λq=> ?_);refine zq [0,1,3] (a':= ?_) ?_;refine carried 2 rfl AL SQ (λK o=> ?_);go_simp
   (go_at_call 65;((with_reducible refine(S.out _).mono ?_);rintro e U ⟨rfl,C⟩);have F:=qj (zX i.out.drew C);clear C)
   refine o _ _ ((j _ F)) (λq=>xg ?_);clear o K;refine carried 4 rfl AL SQ (λK o=> ?_);go_simp
   (go_at_call 97;((with_reducible refine(L.out _).mono ?_);rintro e V ⟨rfl,A⟩);have D:=qj (zX F.out A);clear A)
   refine o _ _ ((j _ D)) (λq=>xg ?_);clear o K;refine zq [5,6] (a':= ?_) ?_;refine zV AL ?_ _;have O:=qj (zX E D);clear q u j N G;rcases t with t|t
   all_goals
    first
     |(exfalso;omega)
     |(go_wp2
       go_ret2;exact⟨rfl,O⟩)
theorem Sw (W:World) (g:Nat) (A:q') (N cap at_:Nat) (b:qn) (n:Int) (h:Rd W g A N cap b at_):
  Calls prog 299 #[.pointer g,n] W (JD W g A N cap b (.int .i64 (Po b at_ n)) (Hj b at_ n)):=by
 have H:=qj h;have d:=qj (XV W g A N _ _ b h);have i:=h.len;have r:=h.le;have o:=h.lim;clear h;by_cases h1:n<0
 ·have c:Po b at_ n=13:=qk h1;unfold Hj;rw [c,qJ FV];go_wp2;go_ret;exact⟨rfl,H,qE.refl _ _⟩
 ·obtain⟨k,rfl⟩: ∃k:Nat,n=(k:Int):=⟨n.toNat,uK⟩;by_cases h2:(q7 b at_:Int)<(k:Int)
  ·have c:Po b at_ k=1:=by unfold Po;rw [qJ h1,qk h2]
   unfold Hj;rw [c,qJ FV];generalize q7 b at_=lf at*;clear r o h1;go_in;go_wp2_with fail;refine zC d ?_;intro q a;replace a:=qj a;go_wp2;go_ret;exact⟨rfl,H.dr a,Zp a⟩
  ·have c:Po b at_ k=0:=by unfold Po;rw [qJ h1,qJ h2]
   unfold Hj;rw [c,qk rfl,show(k:Int).toNat=k from rfl];have m:at_+k<=8*N:=by unfold q7 at h2;rw [i] at h2;omega
   have t:wrap64 ((at_:Int)+(k:Int))=(at_:Int)+(k:Int):=yT _ ⟨uK,uK⟩;generalize q7 b at_=lf at*;clear h1 c;go_in;go_wp2_with fail;refine zC d ?_;intro q a;have f:=qj (H.dr a);have j:=qj (Zp (l:=[g]) a);have c2:=f.out.XZ;have s:=f.blk.frozen 2;clear a;go_wp2;go_ret;exact⟨rfl,f.setAt _ m,j.zh (p:=⟨g,2,none⟩) (qy.2 rfl) _⟩
theorem I8 (b:qn) (at_ k:Nat):min (k:Int) (q7 b at_:Int)=((min k (q7 b at_):Nat):Int):=uK
theorem SW (W:World) (g:Nat) (A:q') (N cap at_ k:Nat) (b:qn) (i:k<=64) (h:Rd W g A N cap b at_):
  Calls prog 297 #[.pointer g,k] W λe j=>e= .returned (.tuple #[.int .u64 (QF b at_ k), .int .i64 (min k (q7 b at_):Nat)])/\Dr W j:=by
 have H:=qj h;have n:=h.lim;have p:=h.le;have c2:=h.XZ;have d:=qj (λa (c:Rd a g A N cap b at_)=>pE a g A N _ _ k at_ b c i uK);have f:=qj (λa (c:Rd a g A N cap b at_)=>XV a g A N _ _ b c);rw [<-I8];generalize q7 b at_=lf,QF b at_ k=m at*;clear h;by_cases o:lf<k
 focus
  have l:=j' lf k;rw [show min (k:Int) (lf:Int)=(lf:Int) by omega]
 rotate_left
 focus
  rw [show min (k:Int) (lf:Int)=(k:Int) by omega]
 all_goals
  go_wp2;go_quiet (first|(go_at_call 287;exact Kj (d.out _ (H.out.drewN _)))|(go_at_call 273;exact Uf (f.out _ (H.out.drewN _))));go_wp2;go_ret2;exact⟨rfl,⟨_,rfl⟩⟩
theorem me (W:World) (g:Nat) (A:q') (N cap at_:Nat) (b:qn) (h:Rd W g A N cap b at_):
  Calls prog 269 #[.pointer g] W λe o=>e= .returned (.int .i64 (cJ b at_))/\Dr W o:=by
 have H:=qj h;have s:=h.lim;have u:=h.le;have k:=qj (XV W g A N _ _ b h);clear h;by_cases h1:8<=q7 b at_
 ·have j:cJ b at_=2:=qk (.inl h1);rw [j];generalize q7 b at_=lf at*;have n:(8:Int)<=(lf:Int):=uK;go_in;go_wp2_with fail;refine zC k ?_;intro f a;replace a:=qj a;go_wp2;go_quiet (fail);go_wp2;go_ret;exact⟨rfl,a.drewN _⟩
 ·have l:=qj (λf (p:Rd f g A N cap b at_)=>pE f g A N _ _ (q7 b at_) at_ b p uK uK);have j:cJ b at_=if QF b at_ (q7 b at_)≠0 then 2 else 0:=by
   unfold cJ;by_cases h2:QF b at_ (q7 b at_)≠0
   ·rw [qk (.inr h2),qk h2]
   ·rw [qJ uK,qJ h2]
  rw [j];clear j;generalize q7 b at_=lf at*;generalize QF b at_ lf=c at*;have n: ¬(8:Int)<=(lf:Int):=uK;have t:decide ((8:Int)<=(lf:Int))=false:=qc n;have i:(c=0)\/((c:Int)==0)=false:=by
   rcases zA c with h0|h0
   ·exact .inl h0
   ·exact .inr SZ
  rcases i with rfl|i;rotate_left
  focus
   have r:((c:Int) !=0)=true:=by simpa [bne] using i
   have m:c≠0:=by rintro rfl;simp at i
   rw [qk m];clear m
  all_goals
   go_in;go_wp2_with fail;refine zC k ?_;intro f a;have d:=qj (H.dr a);have c2:=d.out.XZ;replace a:=qj a;go_wp2;go_quiet ((go_at_call 287;exact Kj (l.out _ (d.out.drewN _))));go_wp2;go_ret;exact⟨rfl,a.drewN _⟩
theorem tf (W:World) (g:Nat) (A:q') (N cap at_:Nat) (b:qn) (h:Rd W g A N cap b at_):
  Calls prog 272 #[.pointer g] W (JD W g A N cap b (.tuple #[.int .i64 (Ju b at_), .int .i64 (uM b at_)]) (pq b at_)):=by
 have H:=qj h;have D:=h.lim;have s:=h.le;have w:=qj h.len;have c1:=h.V9;have c2:=h.XZ;have x:=h.blk.frozen 2;have l:=λi hi=>qj (FA W g W A N _ i b h.VH (Reads.zY h.own) hi h.lim);have t:8*N<=8000000000:=uK;replace l:=qj l;obtain⟨m,c⟩:=j1 (8*N);rw [<-c] at c1 s t l;replace c:=qj c;clear h;go_wp2;go_loopw [4] (λo wr=> ∃(i f:Nat),o=(i:Value)/\i<=m/\at_<=i/\Hid (i+f=m)/\Hid (um b i f=una b at_)/\W=wr) (λo _=>m-(intOf o).toNat)
 ·exact⟨at_,m-at_,rfl,s,qx _,by rw [Hid];omega,by rw [Hid];unfold una q7;rw [w.out,c.out],rfl⟩
 ·obtain⟨i,f,rfl,hi,z,n,a,rfl⟩:=hrel;by_cases u:i<m
  ·have B:=j' i m;obtain⟨f,rfl⟩: ∃v,f=v+1:=⟨f-1,by have:=n.out;omega⟩;have k:=l i u;have r:=D2 b i;by_cases d:dq b i=1
   ·have j:Hid (una b at_=some i):=by rw [Hid,<-a.out];unfold um;rw [qk d]
    rw [d] at k;have C:((i:Int)-(at_:Int))=((i-at_:Nat):Int):=uK;clear r d a;go_wp2_with fail;refine Ω k ?_;go_wp2;go_ret2;unfold Ju uM pq;rw [j.out];exact⟨rfl,H.setAt (i+1) (by rw [<-c.out];omega),(qE.refl [g] W).zh (p:=⟨g,2,none⟩) (qy.2 rfl) _⟩
   ·have j:Hid (um b (i+1) f=una b at_):=by rw [Hid,<-a.out,um.eq_2,qJ d]
    have q:dq b i=0:=uK;rw [q] at k;clear r d q a;go_wp2_with fail;refine Ω k ?_;go_wp2_with fail;refine xk ?_;exact⟨i+1,f,xb,uK,uK,by have:=n.out;rw [Hid];omega,j,trivial⟩
  ·have y:=vv i m;obtain rfl:f=0:=by have:=n.out;omega
   have j:Hid (una b at_=none):=a.symm;clear a;go_wp2;go_ret2;unfold Ju uM pq;rw [j.out];exact⟨s8,H,qE.refl _ _⟩
def Y3 (C:Nat) (g:Nat->Nat×Nat) (i:Nat):Value:= .slice (some ⟨(g i).1,0,none⟩) C (g i).2
structure RM (W:World) (base:Nat) (A:q') (n c C:Nat) (g:Nat->Nat×Nat) (F:Nat->Nat->UInt8):Prop where
 out:W.ownsRow base 30 1 (.slice A n c) n ((List.range n).map (Y3 C g))
 row: ∀i,i<n->W.ownsRow base 5 1 (.slice (some ⟨(g i).1,0,none⟩) C (g i).2) C ((Xu C (F i)).map B8)
 inj: ∀i j,i<n->j<n->(g i).1=(g j).1->i=j
 bs:base<=W.heap.size
end
section
variable {A:q'}{C base c i j n:Nat}{F:Nat->Nat->UInt8}{W W':World}{g:Nat->Nat × Nat}
theorem RM.below (h:RM W base A n c C g F) (a:Below W W W'):RM W' base A n c C g F:=
 ⟨qG h.out a,λi hi=>qG (h.row i hi) a,h.inj,qv h.bs a.size⟩
theorem RM.drew (h:RM W base A n c C g F):RM W.drew base A n c C g F:=⟨h.out,h.row,h.inj,h.bs⟩
theorem RM.nil (w:World) (base C:Nat) (g:Nat->Nat×Nat) (F:Nat->Nat->UInt8) (a:base<=w.heap.size):RM w base none 0 0 C g F:=
 ⟨qP _ _ _ 1,λi hi=>uK,λi j hi=>uK,a⟩
theorem RM.blk (h:RM W base A n c C g F) (hi:i<n): ∃e,Blk W (g i).1 5 e/\base<=(g i).1:=by
 rcases(h.row i hi).2 with⟨h1,_⟩|⟨j,cap,cur,b,d,f,_⟩
 ·cases h1
 ·injection b with a;injection a with a;injection a with a;subst a;exact⟨_,f,d⟩
theorem RM.at_ (h:RM W base A n c C g F) (hi:i<n) (a:j<C):W.cell? ⟨(g i).1,j,none⟩=some (.int .u8 ((F i j).toNat:Int)):=by
 rw [(h.row i hi).cellAt j uK,qD,XH _ _ _ a];rfl
theorem RM.frozen (h:RM W base A n c C g F) (hi:i<n) (j:Nat):W.frozen? ⟨(g i).1,j,none⟩=false:=(h.row i hi).frozenAt j
theorem RM.zh (h:RM W base A n c C g F) (hi:i<n) (l:j<C) (v:UInt8):RM (W.setCell ⟨(g i).1,j,none⟩ (.int .u8 (v.toNat:Int))) base A n c C g (λr t=>if r=i/\t=j then v else F r t):=by
 obtain⟨q,m,p⟩:=h.blk hi;refine⟨?_,λk d=> ?_,h.inj,by simpa using h.bs⟩
 ·refine Zs h.out (λe=> ?_) _;have o:=Rj h.out m FV;exact o e
 ·by_cases b:k=i
  ·subst b;have h1:=((h.row k d).stored j (B8 v)).1;have f:((Xu C (F k)).map B8).set j (B8 v)=(Xu C (λt=>if k=k/\t=j then v else F k t)).map B8:=by
    rw [<-JY];congr 1;apply zm;intro t;rw [vD,QT];by_cases ht:t<C
    ·rw [XH _ _ _ ht,XH _ _ _ ht];by_cases e:j=t
     ·rw [qk e,qk l,qk ⟨rfl,e.symm⟩]
     ·rw [qJ e,qJ (λh=>e h.2.symm)]
    ·rw [qO (by rw [QT];omega),qO (by rw [QT];omega),qJ uK]
   rw [f] at h1;exact h1
  ·have h1:=Zs (a:=⟨(g i).1,j,none⟩) (h.row k d) (λe=>b (h.inj k i d hi (by simpa [Value.ownBlock] using e))) (.int .u8 (v.toNat:Int));have f:Xu C (λt=>if k=i/\t=j then v else F k t)=Xu C (F k):=jX λt _=>by rw [qJ (λh=>b h.1)]
   rw [f];exact h1
end
end Go.Proofs.YtfnlfpcfkbdcmaaGreatDoor
