import Derived.Test.YtfnlfpcfkbdcmaaGreatDoorL04
import Derived.Test.YtfnlfpcfkbdcmaaGreatDoorL05
set_option linter.unusedSimpArgs false
set_option linter.unusedVariables false
set_option maxRecDepth 100000
set_option maxHeartbeats 0
open Go.Proofs.Tryz
namespace Go.Proofs.YtfnlfpcfkbdcmaaGreatDoor
open Go.RowKit
section
variable {A:q'}{B C i n t:Nat}{a:Type}{bs:qn}{w:World}
def Vq (k i j:Nat):UInt8:=fi (UInt8.ofNat ((k+i)^^^j))
theorem AJ (k m i j p:Nat) (w:World) (c:k+m<=255) (hi:i<m) (l:j<k) (g:w.cell? p=some (k:Value)):
  Calls prog 143 #[i,j, .pointer p] w λe w'=>e= .returned (.int .u8 ((Vq k i j).toNat:Int))/\w=w':=by
 have a:(k+i)^^^j<256:=vz (n:=8) uK uK;have o:bits .xor .i64 ((k:Int)+(i:Int)) (j:Int)=(((k+i)^^^j:Nat):Int):=by
  rw [<-xe];exact a_ _ j uK uK
 have I:=wG _ w a;have b:Hid (((Vq k i j).toNat:Int)=((DW ((k+i)^^^j):Nat):Int)):=by
  unfold Vq Hid;rw [fT,zS,show((k+i)^^^j)%2^8=(k+i)^^^j from jk a]
 rw [b.out];generalize e13 ((k+i)^^^j)=d,DW ((k+i)^^^j)=f,(k+i)^^^j=x at*;replace I:=qj I;go_in;go_wp2_with fail;refine Ω I ?_;go_wp2;go_ret;exact⟨rfl,rfl⟩
def Ps (w:World) (r c:Nat) (a:qn) (b:Int) (e:Ending) (w':World):Prop:=
 ∃A k,e= .returned (.tuple #[.agg (mC r c (.slice A a k)),b])/\w'.ownsRow w 5 1 (.slice A a k) a (a.map B8)/\Below w w w'
theorem zN {a:Func} {p s:Tmp} {b:TypeId} (h:a.results= #[.cell p b, .tmp s]) (tmps:Array Value) (w:World) (g:Nat) (c:Array Value) (v:Value)
  (i:tmps.getD p undef= .pointer g) (e:tmps.getD s undef=v) (d:(loadVar b g).run prog w= .ok (.agg c) w):
  (results a tmps).run prog w= .ok (.tuple #[.agg c,v]) w:=by
 have j:tmps[p]?.getD undef= .pointer g:=by simpa using i
 have f:tmps[s]?.getD undef=v:=by simpa using e
 simp [results,h,j,f,asAddr,d]
def AV (bs:qn) (C i:Nat):qn:=(bs.drop (i*C)).take C
theorem bj {k R C i:Nat} (h:Reads w B 1 A n (bs.map B8)) (c:n=R*C) (hi:i<R) (a:n<=k):Reads w B 1 (xo A k (i*C) 1) C ((AV bs C i).map B8):=by
 have b:(i+1)*C<=R*C:=zk _ hi;rw [ql] at b;exact(h.VC (k:=i*C) uK a).takeN uK
theorem row_one (c:Reads w B 1 A n (bs.map B8)): ∀u∈bs.map B8,u.oneCell'=true:=by
 intro u a;obtain⟨b,_,rfl⟩:=jB.1 a;rfl
theorem fO (w:World) (row:Option Nat):w.grownBy w row:=⟨rfl,rfl,rfl,qx _,λ_ _ _=>rfl⟩
theorem Ve (g j:Nat):(g:Addr).add j=⟨g,j,none⟩:=by unfold Addr.add;split<;>simp_all
theorem Ux (w:World) (g:Nat) (a:Array Value):w.grownBy (w.setRow g a) (some g):=⟨rfl,rfl,rfl,by rw [Xk];exact qx _,λk _ b=>QO w g k a (λe=>b (by rw [e]))⟩
theorem Rb {b:Type} (f:a->b) (l:List a) (off:Nat) (c:List a):(splice l off c).map f=splice (l.map f) off (c.map f):=by
 simp [splice,List.map_take,List.map_drop]
theorem Ra (l:List a) (off:Nat) (c:List a) (t:Nat) (h:off<=l.length):(splice l off c)[t]? =if t<off then l[t]?else if t<off+c.length then c[t-off]?else l[t]? :=by
 simp only [splice,List.getElem?_append,xZ,jt,qh];rw [vZ h];by_cases h1:t<off
 ·rw [qk h1,qk h1,qk h1]
 ·rw [qJ h1,qJ h1];by_cases h2:t<off+c.length
  ·rw [qk uK,qk h2]
  ·rw [qJ uK,qJ h2];congr 1;omega
theorem Qt (C:Nat) (f:Nat->Nat->UInt8) (n t:Nat) (h:t<n):(zP C f n)[t]? =some (f (t/C) (t%C)):=by
 unfold zP;rw [qD,jJ h];rfl
theorem Xh (C:Nat) (f:Nat->Nat->UInt8) (n t:Nat) (h: ¬t<n):(zP C f n)[t]? =none:=qO (by rw [yj];omega)
def Xu (C:Nat) (g:Nat->UInt8):qn:=(List.range C).map g
theorem QT (C:Nat) (g:Nat->UInt8):(Xu C g).length=C:=by simp [Xu]
theorem XH (C:Nat) (g:Nat->UInt8) (t:Nat) (h:t<C):(Xu C g)[t]? =some (g t):=by
 unfold Xu;rw [qD,jJ h];rfl
theorem dQ {R:Nat} (hi:i<R) (ht:t<C):i*C+t<R*C:=by
 have a:(i+1)*C<=R*C:=zk _ hi;rw [ql] at a;omega
theorem Jl (ht:t<C):(i*C+t)/C=i/\(i*C+t)%C=t:=by
 constructor
 ·rw [xH,Nat.mul_add_div uK,xW ht,v_]
 ·rw [xH,Nat.mul_add_mod,jk ht]
theorem Uv (R C i:Nat) (f:Nat->Nat->UInt8) (hi:i<R):AV (zP C f (R*C)) C i=Xu C (f i):=by
 apply zm;intro t;unfold AV;rw [xZ,jt];by_cases ht:t<C
 ·rw [qk ht,Qt _ _ _ _ (dQ hi ht),XH _ _ _ ht,(Jl ht).1,(Jl ht).2]
 ·rw [qJ ht,qO (by rw [QT];omega)]
theorem AK (R C i:Nat) (f:Nat->Nat->UInt8) (g:Nat->UInt8) (hi:i<R):splice (zP C f (R*C)) (i*C) (Xu C g)=zP C (λb j=>if b=i then g j else f b j) (R*C):=by
 have e:(i+1)*C<=R*C:=zk _ hi;rw [ql] at e;apply zm;intro t;rw [Ra _ _ _ _ (by rw [yj];omega),QT];by_cases h1:t<R*C
 ·have a:0<C:=by
   rcases zA C with h0|h0
   ·rw [h0,Nat.mul_zero] at h1;omega
   ·exact h0
  rw [Qt _ _ _ _ h1,Qt _ _ _ _ h1];have h:=Qe t C;rw [xH] at h;by_cases h2:t<i*C
  ·rw [qk h2];have c:=(Nat.div_lt_iff_lt_mul a).2 h2;rw [qJ uK]
  ·rw [qJ h2];by_cases h3:t<i*C+C
   ·rw [qk h3,XH _ _ _ uK];obtain⟨s,d⟩: ∃s,t=i*C+s:=⟨t-i*C,uK⟩;rw [d,(Jl (show s<C by omega)).1,(Jl (show s<C by omega)).2,qk rfl];congr 2;omega
   ·rw [qJ h3];have c:i+1<=t/C:=(yJ a).2 (by rw [ql];omega);rw [qJ uK]
 ·rw [Xh _ _ _ _ h1,qJ uK,qJ uK,Xh _ _ _ _ h1]
def cellAt (bs:qn) (C i j:Nat):UInt8:=bs.getD (i*C+j) 0
end
section
variable {A:q'}{L a b0 b0' base base' c e i n:Nat}{W W':World}{b l xs:qn}{d xss:List qn}{f:Nat->Nat}{vs:List Value}
def j8 (W:World) (b0 base:Nat) (A:q') (c:Nat) (a:qn):Prop:=
 a.length<=c/\c<=maxLen/\(Reads W b0 1 A a (a.map B8)\/W.ownsRow base 5 1 (.slice A a c) a (a.map B8))
structure zM (W:World) (b0 base:Nat) (A:q') (n c:Nat) (xss:List qn):Prop where
 ex: ∃vs:List Value,W.ownsRow base 30 1 (.slice A n c) n vs/\xss.length=n/\ ∀(i:Nat) (xs:qn),xss[i]? =some xs-> ∃(Ai:q') (ci:Nat),vs[i]? =some (.slice Ai xs ci)/\j8 W b0 base Ai ci xs
 bs:base<=W.heap.size
 b0s:b0<=base
theorem j8.below (h:j8 W b0 base A c xs) (h0:b0<=base) (b:base<=W.heap.size) (a:Below W W W'):j8 W' b0 base A c xs:=by
 obtain⟨h1,h2,h3⟩:=h;refine⟨h1,h2, ?_⟩;rcases h3 with h3|h3
 ·exact .inl (h3.keep λp d=>a.cell uK)
 ·exact .inr (qG h3 a)
theorem j8.reads (h:j8 W b0 base A c xs) (h0:b0<=base) (a:base<=W.heap.size):Reads W W 1 A xs (xs.map B8):=by
 obtain⟨h1,h2,h3⟩:=h;rcases h3 with h3|h3
 ·exact h3.more (qv h0 a)
 ·exact Reads.zY h3
theorem j8.other {d:Nat} {l:Array Value} {k:Nat×Nat} (h:j8 W b0 base A c xs) (h0:b0<=base) (f:W.heap[d]? =some (.cells l 30 k)) (n:base<=d) (i: ∀g,g<W.heap.size->g≠d->W'.heap[g]? =W.heap[g]?):j8 W' b0 base A c xs:=by
 obtain⟨h1,h2,h3⟩:=h;have r:=jz f;refine⟨h1,h2, ?_⟩;rcases h3 with h3|h3
 ·exact .inl (h3.keep λp o=>zw (i p.block uK uK))
 ·refine .inr (zI h3 (λa j=> ?_));obtain⟨q,m,b⟩:=jV h3 a.block (by rw [j];rfl);refine i _ (jz b) (λe=> ?_);rw [e,f] at b;injection b with b;injection b with _ ht;exact absurd ht FV
theorem zM.below (h:zM W b0 base A n c xss) (a:Below W W W'):zM W' b0 base A n c xss:=by
 obtain⟨⟨vs,h1,h2,h3⟩,b,h0⟩:=h;refine⟨⟨vs,qG h1 a,h2,λi xs hi=> ?_⟩,qv b a.size,h0⟩;obtain⟨Ai,e,f,d⟩:=h3 i _ hi;exact⟨_,e,f,d.below h0 b a⟩
theorem zM.drew (h:zM W b0 base A n c xss):zM W.drew b0 base A n c xss:=⟨h.ex,h.bs,h.b0s⟩
theorem zM.len (h:zM W b0 base A n c xss):xss.length=n:=h.ex.choose_spec.2.1
theorem zM.cap (h:zM W b0 base A n c xss):n<=c/\c<=maxLen:=jC h.ex.choose_spec.1
theorem zM.XB (h:zM W b0 base A n c xss):vm W W A n xss:=by
 obtain⟨⟨vs,h1,h2,h3⟩,d,h0⟩:=h;refine⟨vs,Reads.zY h1,h2,λi xs hi=> ?_⟩;obtain⟨Ai,e,b,a⟩:=h3 i _ hi;exact⟨_,_,e,b,a.1,a.2.1,a.reads h0 d⟩
theorem zM.nil (w:World) (b0 base:Nat) (h0:b0<=base) (a:base<=w.heap.size):zM w b0 base none 0 0 []:=
 ⟨⟨_,qP _ _ _ 1,rfl,λi xs hi=>by simp at hi⟩,a,h0⟩
theorem zM.AH (h:W.ownsRow base 30 1 (.slice A n c) n vs) (b:xss.length=n) (d: ∀(i:Nat) (xs:qn),xss[i]? =some xs-> ∃(Ai:q') (a:Nat),vs[i]? =some (.slice Ai xs a)/\j8 W b0 base Ai a xs) (h0:b0<=base) (e:base<=W.heap.size):zM W b0 base A n c xss:=⟨⟨_,h,b,d⟩,e,h0⟩
theorem j8.Vg (h:j8 W b0 base A c xs) (h0:b0<=b0') (a:base'<=base):j8 W b0' base' A c xs:=by
 obtain⟨h1,h2,h3⟩:=h;refine⟨h1,h2, ?_⟩;rcases h3 with h3|h3
 ·exact .inl (h3.more h0)
 ·exact .inr (qi h3 a)
theorem zM.Vg (h:zM W b0 base A n c xss) (h0:b0<=b0') (h1:b0'<=base') (a:base'<=base):zM W b0' base' A n c xss:=by
 obtain⟨⟨vs,k,d,b⟩,j,_⟩:=h;refine⟨⟨vs,qi k a,d,λi xs hi=> ?_⟩,qv a j,h1⟩;obtain⟨Ai,f,g,e⟩:=b i _ hi;exact⟨_,f,g,e.Vg h0 a⟩
theorem zM.push {W j:World} {b0 base n c s t:Nat} {A v q:q'} {o:List qn} (B:j8 W b0 base q s b) (h1:W.ownsRow base 30 1 (.slice A n c) n vs) (h2:o.length=n) (h3: ∀(i:Nat) (b:qn),o[i]? =some b-> ∃(Ai:q') (h:Nat),vs[i]? =some (.slice Ai b h)/\j8 W b0 base Ai h b) (h0:b0<=base) (G:base<=W.heap.size) (y:j.ownsRow base 30 1 (.slice v (n+1) t) (n+1) (vs++[.slice q b s])) (f:W.grownBy j (A.map (·.block))):
  zM j b0 base v (n+1) t (o++[b]):=by
 have keep: ∀(l:q') (k:Nat) (d:qn),j8 W b0 base l k d->j8 j b0 base l k d:=λl k d u=>by
  rcases A with _|r
  ·obtain⟨o1,o2,o3⟩:=u;refine⟨o1,o2, ?_⟩;rcases o3 with o3|o3
   ·exact .inl (o3.keep λp K=>zw (f.block _ uK s8))
   ·refine .inr (zI o3 (λa F=> ?_));obtain⟨E,D,m⟩:=jV o3 _ (by rw [F];rfl);exact f.block _ (jz m) s8
  ·obtain⟨E,D,m⟩:=jV h1 _ rfl;have J:=(h1.lt _ rfl).1;exact u.other h0 m J (λg w x=>f.block g w (by simpa using x))
 have H:vs.length=n:=by have:=h1.1;omega
 refine⟨⟨_,y,by simp [h2],λi d hi=> ?_⟩,qv G f.size,h0⟩;by_cases e:i<n
 ·rw [q_ uK] at hi;obtain⟨Ai,h,z,C⟩:=h3 i d hi;exact⟨_,h,by rw [q_ uK];exact z,keep _ _ _ C⟩
 ·have I:i=n:=by
   have:=(vp.1 hi).1;simp at this;omega
  subst I;rw [qm uK,h2,xO] at hi;have:d=b:=by simpa using hi.symm
  subst this;exact⟨q,s,by rw [qm uK,H,xO];rfl,keep _ _ _ B⟩
theorem zM.Fv {W b:World} {b0 base n c h:Nat} {A j g:q'} {a:qn} (o:a.length=L) (k:j8 W b0 base g h a) (h1:W.ownsRow base 30 1 (.slice A n c) n vs) (h2:d.length=n) (h3: ∀(i:Nat) (a:qn),d[i]? =some a-> ∃(Ai:q') (f:Nat),vs[i]? =some (.slice Ai a f)/\j8 W b0 base Ai f a) (h0:b0<=base) (m:base<=W.heap.size) (l:b.ownsRow base 30 1 (.slice j (n+1) e) (n+1) (vs++[.slice g L h])) (p:W.grownBy b (A.map (·.block))):
  zM b b0 base j (n+1) e (d++[a]):=by subst o;exact zM.push k h1 h2 h3 h0 m l p
theorem zM.zh {W:World} {b0 base n c k:Nat} {l:q'} {p:List qn} {d:qn} (h:zM W b0 base a n c p) (hi:i<n) (t:j8 W b0 base l k d):
  zM (W.setCell ⟨a,i,none⟩ (.slice l d k)) b0 base a n c (p.set i d):=by
 obtain⟨⟨vs,h1,h2,h3⟩,v,h0⟩:=h;obtain⟨B,A,y⟩:=jV h1 a rfl;have x:=(h1.lt a rfl).1;have keep: ∀(o:q') (m:Nat) (f:qn),j8 W b0 base o m f->j8 (W.setCell ⟨a,i,none⟩ (.slice l d k)) b0 base o m f:=λo m f r=>
  r.other h0 y x (λg z q=>jT W _ _ g (by simpa using q))
 have C:vs.length=n:=by have:=h1.1;omega
 refine⟨⟨vs.set i (.slice l d k),(h1.stored i _).1,by simp [h2],λj f b=> ?_⟩,by simpa using v,h0⟩;rw [vD] at b⊢;by_cases e:i=j
 ·subst e;rw [qk rfl,qk uK] at b;injection b with b;subst b;exact⟨l,k,by rw [qk rfl,qk uK],keep _ _ _ t⟩
 ·rw [qJ e] at b;obtain⟨Ai,w,s,u⟩:=h3 j f b;exact⟨_,w,by rw [qJ e];exact s,keep _ _ _ u⟩
theorem zM.slot {W:World} {b0 base n c:Nat} {b:List qn} (h:zM W b0 base a n c b) (hi:i<n):(∃v,W.cell? ⟨a,i,none⟩=some v)/\W.frozen? ⟨a,i,none⟩=false:=by
 obtain⟨⟨vs,h1,h2,h3⟩,e,h0⟩:=h;refine⟨?_,h1.frozenAt i⟩;rw [h1.cellAt i uK];have d:i<vs.length:=by have:=h1.1;omega
 exact⟨_,qX d⟩
theorem zM.LJ {W:World} {b0 base n c:Nat} {f:q'} (h:zM W b0 base a n c d) (hi:i<n) (j:b.length=L) (g:j8 W b0 base f e b):
  zM (W.setCell ⟨a,i,none⟩ (.slice f L e)) b0 base a n c (d.set i b):=by subst j;exact h.zh hi g
theorem j8.own {W:World} {b0 base c:Nat} {A:q'} {a:qn} (h:W.ownsRow base 5 1 (.slice A L c) L (a.map B8)):a.length=L/\j8 W b0 base A c a:=by
 have b:a.length=L:=by have:=h.1;simpa using this
 subst b;exact⟨rfl,(jC h).1,(jC h).2, .inr h⟩
def Hx (l:List qn) (t n:Nat):UInt8:=(l.getD t []).getD n 0
def Vu (j L:Nat) (f:Nat->UInt8) (l:List qn):qn:=Xu L λn=>V0 (λt=>fm (f t) (Hx l t n)) j
def yH (R C L:Nat) (f:Nat->Nat->UInt8) (l:List qn):List qn:=(List.range R).map λi=>Vu C L (f i) l
theorem Vj (j L:Nat) (f:Nat->UInt8) (l:List qn):(Vu j L f l).length=L:=QT _ _
theorem si (L:Nat) (f:Nat->UInt8) (l:List qn):Vu 0 L f l=List.replicate L 0:=by
 apply zm;intro t;unfold Vu;by_cases h:t<L
 ·rw [XH _ _ _ h,jF,qk h];rfl
 ·rw [qO (by rw [QT];omega),jF,qJ h]
theorem Fy (j L:Nat) (f:Nat->UInt8) (l:List qn) (n:Nat) (h:n<L):(Vu j L f l).getD n 0=V0 (λt=>fm (f t) (Hx l t n)) j:=by
 rw [qd];unfold Vu;rw [XH _ _ _ h];rfl
theorem Nm (j L:Nat) (f:Nat->UInt8) (l:List qn) (b:qn) (d:l[j]? =some b) (g:b.length=L):sS (Vu j L f l) (f j) b=Vu (j+1) L f l:=by
 unfold sS;rw [Vj,qk g.symm];have a:l.getD j []=b:=by rw [qd,d];rfl
 unfold Ds;rw [Vj];apply jX;intro n c;have:=js.1 c;rw [Fy _ _ _ _ _ this];show _=V0 _ j^^^fm (f j) (Hx l j n);have e:Hx l j n=b.getD n 0:=by unfold Hx;rw [a]
 rw [e]
theorem sI (j L:Nat) (f:Nat->UInt8) (l:List qn) (h:f j=0):Vu (j+1) L f l=Vu j L f l:=by
 apply jX;intro n a;show V0 _ j^^^fm (f j) _=_;rw [h,Xi,VA]
theorem x_ (R C L:Nat) (f:Nat->Nat->UInt8) (l:List qn):(yH R C L f l).length=R:=by simp [yH]
theorem Xs (R C L:Nat) (f:Nat->Nat->UInt8) (l:List qn) (i:Nat) (h:i<R):(yH R C L f l)[i]? =some (Vu C L (f i) l):=by
 unfold yH;rw [qD,jJ h];rfl
theorem sL (R C L i:Nat) (f:Nat->Nat->UInt8) (l:List qn) (h:i<R):(yH i C L f l++List.replicate (R-i) []).set i (Vu C L (f i) l)=yH (i+1) C L f l++List.replicate (R-(i+1)) []:=by
 apply zm;intro t;rw [vD,qK,x_,zT];by_cases e:i=t
 ·subst e;rw [qk rfl,qk uK,q_ (by rw [x_];omega),Xs _ _ _ _ _ _ uK]
 ·rw [qJ e];by_cases h1:t<i
  ·rw [q_ (by rw [x_];omega),q_ (by rw [x_];omega),Xs _ _ _ _ _ _ uK,Xs _ _ _ _ _ _ uK]
  ·rw [qm (by rw [x_];omega),qm (by rw [x_];omega),x_,x_,jF,jF];by_cases h2:t<R
   ·rw [qk uK,qk uK]
   ·rw [qJ uK,qJ uK]
theorem V1 (R C L:Nat) (f:Nat->Nat->UInt8) (l:List qn) (x:qn) (h:x∈yH R C L f l):x.length=L:=by
 unfold yH at h;obtain⟨i,_,rfl⟩:=jB.1 h;exact Vj ..
def x8 (f:Nat->Nat):Array Value:=((List.range 16).map λl=>Value.int .i64 (f l)).toArray
theorem Vm (f:Nat->Nat):(x8 f).size=16:=by simp [x8]
theorem YD (f:Nat->Nat) {l:Nat} (h:l<16):(x8 f)[l]? =some (.int .i64 (f l)):=by simp [x8,h]
theorem pe (f:Nat->Nat):(x8 f).all (·.oneCell')=true:=by
 unfold x8;rw [List.all_toArray,List.all_map];exact xT.2 λ_ _=>rfl
theorem ew (f:Nat->Nat) {l:Nat} (v:Nat):(x8 f).setIfInBounds l v=x8 (λj=>if j=l then v else f j):=by
 apply ZD;intro j;rw [jM];by_cases b:l=j
 ·subst b;by_cases a:l<16
  ·rw [qk rfl,qk (by rw [Vm];exact a),YD _ a,qk rfl]
  ·rw [qk rfl,qJ (by rw [Vm];exact a),zg (by rw [Vm];omega)]
 ·rw [qJ b];by_cases a:j<16
  ·rw [YD _ a,YD _ a,qJ (λe=>b e.symm)]
  ·rw [zg (by rw [Vm];omega),zg (by rw [Vm];omega)]
def I5:Array Value:=Array.replicate 16 ()
theorem CY:I5=x8 λ_=>0:=by rfl
theorem Fe:(prog.info? 350).map (λi=>(i.zero,i.size))=some (some (.agg I5),16):=AL
theorem du (f:Nat->Nat):(prog.info? 350).map (·.size)=some (x8 f).size:=by rw [Vm];kernel_rfl
theorem eW (l:qn) (x:UInt8) (j:Nat):cnt (l++[x]) j=cnt l j+if x.toNat=j then 1 else 0:=by
 unfold cnt;rw [vx,qK];congr 1;by_cases h:x.toNat=j<;>simp [h]
theorem CK (l:qn) (j:Nat):cnt l j<=l.length:=jN _ _
def I6 (a:qn) (f:Nat->Nat):Prop:=(∀l,f l<=300)/\(okL a=true-> ∀l,l<16->f l=if l=0 then 0 else cnt a l)
theorem eS (h:300<l.length):okL l=false:=by unfold okL;simp;omega
theorem OD {x:UInt8} (h:x∈l) (a:15<x.toNat):okL l=false:=by
 unfold okL;rw [Bool.and_eq_false_iff];refine .inr (List.all_eq_false.2 ⟨x,h,SZ⟩)
theorem Of (h:l.length<=300) (a: ∀x∈l,x.toNat<=15):okL l=true:=by
 unfold okL;simp only [zR,zd,xT];exact⟨h,a⟩
theorem bM (A:Option Addr) (n c B:Nat) (bs:List UInt8) (w:World) (h:Reads w B 1 A n (bs.map B8)) (I:B<=w.heap.size):
  Calls prog 241 #[.slice A n c] w λe w'=> ∃f,e= .returned (.tuple #[.agg (x8 f), .bool (okL bs)])/\I6 bs f/\Below w w w':=by
 have J:=(jb Fe).1;rw [CY] at J;have k:=h.len;have H:=qj h;have L:=qj I;clear h I;have b:=λf=>qj (du f);by_cases X:300<n
 focus
  rw [eS uK]
  have v:300<bs.length:=uK;replace v:=qj v;have Z:(300:Int)<(n:Int):=uK
 rotate_left
 focus
  have Z: ¬(300:Int)<(n:Int):=uK
  have V:n<=300:=uK;replace k:=qj k;go_enter func241,ntmps241
  go_wp2_with fail
 rotate_left
 all_goals
  have o:Hid (Blk (w.alloc (.cells (x8 λ_=>0) 350)) w 350 (x8 λ_=>0)):=Blk.new w _ _;have s:Hid (Below w w (w.alloc (.cells (x8 λ_=>0) 350))):=(qZ _ _).alloc (qx _) _
 ·clear k X;go_enter func241,ntmps241
  go_wp2_with (first
   |(refine ja rfl 350 _ rfl w rfl 350 (x8 λ_=>0) (0,0) _ o yU rfl (b _).out ?_)
   |(refine qC rfl 350 _ _ rfl w (x8 λ_=>0) rfl rfl 350 (x8 λ_=>0) o (b _).out rfl (pe _) ?_))
  exact qW (zN rfl _ _ w (x8 λ_=>0) (.bool false) rfl rfl (qN _ w 350 _ (x8 λ_=>0) (0,0) _ (o.row _) yU rfl (b _).out)) rfl ⟨λ_=>0,rfl,⟨λ_=>qp _,λh=>by rw [eS v.out] at h;cases h⟩,zu s (qx _) _⟩
 ·generalize w.alloc (.cells (x8 λ_=>0) 350)=w1 at*
  go_loopw [12] (λy wr=> ∃(i:Nat) (f:Nat->Nat),y=(i:Value)/\i<=n/\Hid (Below w w wr)/\Hid (Blk wr w 350 (x8 f))/\Hid (∀l,f l=cnt (bs.take i) l)/\Hid (∀x∈bs.take i,x.toNat<=15)) (λy _=>n-(intOf y).toNat)
  case atStart=>exact⟨0,λ_=>0,rfl,qp _,s,o,by simp [Hid,cnt],by simp [Hid]⟩
  case round=>
   clear o s;obtain⟨i,f,rfl,hi,j,a,m,t⟩:=hrel;have q:Hid (∀l,f l<=300):=λl=>by rw [m.out l];exact qv (CK _ _) (by rw [qh,k.out];omega)
   by_cases O:i<n
   ·have u':(i:Int)<(n:Int):=uK
    obtain⟨ad,z,P,-,r,iL⟩:=(H.below (j.mono L)).byte O;subst P;have g:Hid (bs.take (i+1)=bs.take i++[z]):=by rw [Hid,qs,r];rfl
    by_cases D:15<z.toNat
    ·have G:okL bs=false:=OD (zQ r) D
     have F:=qj G;have M:(15:Int)<(z.toNat:Int):=uK;clear D r G
     go_wp2_with (first
      |(refine ja rfl 350 _ rfl w rfl 350 (x8 f) (0,0) _ a yU rfl (b _).out ?_)
      |(refine qC rfl 350 _ _ rfl w (x8 f) rfl rfl 350 (x8 f) a (b _).out rfl (pe _) ?_))
     exact qW (zN rfl _ _ w (x8 f) (.bool false) rfl rfl (qN _ w 350 _ (x8 f) (0,0) _ (a.row _) yU rfl (b _).out)) rfl ⟨f,by rw [F.out],⟨q.out,λh=>by rw [F.out] at h;cases h⟩,zu j (qx _) _⟩
    ·have M: ¬(15:Int)<(z.toNat:Int):=uK
     have T:z.toNat<16:=uK;have Q:=qj (show z.toNat<=15 by omega)
     have W:wr.cell? ⟨w,z.toNat,none⟩=some (.int .i64 (f z.toNat)):=by rw [a.cell];exact YD _ T
     have S:wr.frozen? ⟨w,z.toNat,none⟩=false:=a.frozen _;have p':=q.out z.toNat;have K:Hid (∀l,(λl=>if l=z.toNat then f z.toNat+1 else f l) l=cnt (bs.take (i+1)) l):=λl=>by
      dsimp only;rw [g.out,eW];by_cases h:l=z.toNat
      ·subst h;rw [qk rfl,qk rfl,m.out]
      ·rw [qJ h,qJ (λe=>h e.symm),m.out];rfl
     have N:Hid (∀x∈bs.take (i+1),x.toNat<=15):=by
      rw [g.out];intro x u;rcases zt.1 u with h|h
      ·exact t x h
      ·rw [qy.1 h];exact Q.out
     have d':Hid (Blk (wr.setCell ⟨w,z.toNat,none⟩ ((f z.toNat+1:Nat):Int)) w 350 (x8 λl=>if l=z.toNat then f z.toNat+1 else f l)):=by
      rw [Hid,<-ew];exact a.zh _ _
     have R:Hid (Below w w (wr.setCell ⟨w,z.toNat,none⟩ ((f z.toNat+1:Nat):Int))):=j.setCell (p:=⟨w,z.toNat,none⟩) (qx _) _;generalize (λl=>if l=z.toNat then f z.toNat+1 else f l)=d at*
     generalize f z.toNat=fz at*
     generalize z.toNat=zz at*
     clear D r m t a j g q
     go_wp2_with fail;go_roundw
     case rel=>exact⟨i+1,d,by first|rfl|simp,uK,by simpa using R,by simpa using d',K,N⟩
     case measure=>simp [intOf];omega
   ·have m': ¬(i:Int)<(n:Int):=uK
    obtain rfl:i=n:=uK;have g:bs.take i=bs:=qH (by rw [k.out];omega)
    have C:okL bs=true:=Of (by rw [k.out];exact V) (λx u=>t.out x (by rw [g];exact u))
    have E:Hid (Blk (wr.setCell w ()) w 350 (x8 λl=>if l=0 then 0 else f l)):=by
     have:=a.zh 0 ((0:Nat):Int);rw [ew] at this;exact this
    have Y:Hid (I6 bs λl=>if l=0 then 0 else f l):=⟨λl=>by dsimp only;split<;>first|exact qp _|exact q l,λ_ l _=>by dsimp only;split<;>first|rfl|(rw [m.out,g])⟩
    have S:wr.frozen? w.heap.size=false:=a.frozen _;have W:wr.cell? w.heap.size=some (.int .i64 (f 0)):=by rw [a.cell];exact YD _ uK
    have U:Hid (Below w w (wr.setCell w ())):=j.setCell (p:= w.heap.size) (qx _) _;generalize (λl=>if l=0 then 0 else f l)=d at*
    replace C:=qj C;clear a j m t q g
    go_wp2_with (first
     |(refine ja rfl 350 _ rfl w rfl 350 (x8 d) (0,0) _ E yU rfl (b _).out ?_)
     |(refine qC rfl 350 _ _ rfl w (x8 d) rfl rfl 350 (x8 d) E (b _).out rfl (pe _) ?_))
    exact qW (zN rfl _ _ w (x8 d) (.bool true) rfl rfl (qN _ w 350 _ (x8 d) (0,0) _ (E.row _) yU rfl (b _).out)) rfl ⟨d,by rw [C.out],Y.out,zu U (qx _) _⟩
def ud (f:Nat->Nat):Nat->Nat
 |0=>0
 |l+1=>ud f l+f (l+1)*2^(15-(l+1))
def GA (f:Nat->Nat):Nat->Nat
 |0=>0
 |l+1=>GA f l+f (l+1)
theorem eN {bs:qn} (h: ∀l,l<16->f l=if l=0 then 0 else cnt bs l): ∀l,l<=15->ud f l=Hy bs l/\GA f l=YV bs l
 |0,_=>⟨rfl,rfl⟩
 |l+1,a=>by
  have h1:=eN h l uK;unfold ud GA Hy YV;rw [h1.1,h1.2,h (l+1) uK,qJ uK];exact⟨rfl,rfl⟩
theorem WY (h: ∀l,f l<=300): ∀l,ud f l<=l*9830400/\GA f l<=l*300
 |0=>⟨qp _,qp _⟩
 |l+1=>by
  have h1:=WY h l;unfold ud GA;have h2:2^(15-(l+1))<=2^15:=zZ uK uK;have h3:=xA (h (l+1)) h2;have h4:=h (l+1);omega
theorem td (f:Nat->Nat) (w:World) (d: ∀l,f l<=300):
  Calls prog 242 #[.agg (x8 f)] w λe w'=>e= .returned (.tuple #[.int .i64 (ud f 15), .int .i64 (GA f 15)])/\Below w w w':=by
 have HS:=qj (WY d);have h:=qj d;clear d;go_enter func242,ntmps242
 go_wp2_with fail;have k:Hid (Blk (w.alloc (.cells (x8 f) 350)) w 350 (x8 f)):=Blk.new w _ _;have g:Hid (Below w w (w.alloc (.cells (x8 f) 350))):=(qZ _ _).alloc (qx _) _;generalize w.alloc (.cells (x8 f) 350)=i at*
 go_loopw [2,3,4] (λp n c wr=> ∃(l s q:Nat),p=(s:Value)/\n=(q:Value)/\c= .int .i64 ((l:Int)+1)/\l<=15/\Hid (s=ud f l)/\Hid (q=GA f l)/\i=wr) (λ_ _ c _=>16-(intOf c).toNat)
 case atStart=>exact⟨0,0,0,rfl,rfl,rfl,uK,rfl,rfl,rfl⟩
 case round=>
  obtain⟨l,s,q,rfl,rfl,rfl,F,b,a,rfl⟩:=hrel;have A:s<=147456000:=by have:=(HS.out l).1;rw [b.out];omega
  have y:q<=4500:=by have:=(HS.out l).2;rw [a.out];omega
  by_cases x:l<15
  ·have D:(l:Int)+1<16:=uK
   have C:i.cell? ⟨w,l+1,none⟩=some (.int .i64 (f (l+1))):=by rw [k.cell];exact YD _ uK
   have r:=h.out (l+1);have m:Hid (s+f (l+1)*2^(14-l)=ud f (l+1)):=by rw [Hid,b.out];show _=ud f l+f (l+1)*2^(15-(l+1));rw [show 15-(l+1)=14-l by omega]
   have u:Hid (q+f (l+1)=GA f (l+1)):=by rw [Hid,a.out];rfl
   have j:2^(14-l)<=2^15:=zZ uK uK;have G:f (l+1)*2^(14-l)<=9830400:=xA r j;have E:(15:Int)-((l:Int)+1)=((14-l:Nat):Int):=uK;have v:(f (l+1):Int)*2^(14-l)=((f (l+1)*2^(14-l):Nat):Int):=by rw [zB,j6];rfl
   have I:14-l<15:=uK;generalize f (l+1)*2^(14-l)=t at*
   generalize f (l+1)=o at*
   generalize 14-l=H at*
   clear j
   go_wp2_with fail;go_roundw
   case rel=>exact⟨l+1,s+t,q+o,s8,s8,s8,uK,m,u,trivial⟩
   case measure=>simp [intOf];omega
  ·have z: ¬(l:Int)+1<16:=uK
   obtain rfl:l=15:=uK;have B:=g;clear k HS h
   go_wp2_with fail
   go_ret2;exact⟨by rw [b.out,a.out];rfl,g.out⟩
theorem kY (A:q') (n c B:Nat) (bs:qn) (w:World) (h:Reads w B 1 A n (bs.map B8)) (C:B<=w.heap.size):
  Calls prog 207 #[.slice A n c] w λe w'=>e= .returned (.int .i64 (Y2 bs))/\Below w w w':=by
 have I:=(jb Fe).1;rw [CY] at I;have q:=qj (bM A n c B _ w h C);have o:=λf=>qj (du f);clear h C;have b:Y2 bs=if okL bs=true/\(YV bs 15=0\/Hy bs 15=32768\/(YV bs 15=1/\cnt bs 1=1)) then 0 else 7:=rfl
 obtain⟨ok,u⟩: ∃ok,okL bs=ok:=⟨_,rfl⟩;rw [u] at b q;have J:=qj u;clear u;go_in;go_wp2_with fail;refine q.mono ?_;rintro e a ⟨f,rfl,z,i⟩;have m:=qj z;replace i:=qj i;clear z;have l:Hid (Blk ((a.alloc (.cells (x8 λ_=>0) 350)).setRow a (x8 f)) a 350 (x8 f)):=(Blk.new a _ _).row _;have v:Hid (Blk (a.alloc (.cells (x8 λ_=>0) 350)) a 350 (x8 λ_=>0)):=Blk.new a _ _;have p:Hid (Below w w ((a.alloc (.cells (x8 λ_=>0) 350)).setRow a (x8 f))):=zu (i.alloc i.size _) i.size _;have F:=i.size;have x:=qj (td f ((a.alloc (.cells (x8 λ_=>0) 350)).setRow a (x8 f)) m.out.1);go_wp2_with (first
  |(refine qC rfl 350 _ _ rfl a (x8 f) rfl rfl 350 (x8 λ_=>0) v (o _).out rfl (pe _) ?_)
  |(refine ja rfl 350 _ rfl a rfl 350 (x8 f) (0,0) _ l yU rfl (o _).out ?_))
 generalize (a.alloc (.cells (x8 λ_=>0) 350)).setRow a (x8 f)=Q,a.heap.size=g at*;clear v;refine zC x ?_;intro H t;have K:=qj (l.below t l.lt);have j:=qj (p.trans (t.mono p.size));have L:H.cell? ⟨g,1,none⟩=some (.int .i64 (f 1)):=by rw [K.cell];exact YD _ uK
 have D:Hid (ok=true->ud f 15=Hy bs 15/\GA f 15=YV bs 15/\f 1=cnt bs 1):=λh=>by
  have h2:=m.out.2 (by rw [J.out];exact h);have h3:=eN h2 15 uK;exact⟨h3.1,h3.2,by rw [h2 1 uK,qJ uK]⟩
 generalize ud f 15=s,GA f 15=k,f 1=r at*;clear t o;cases ok with
 |false=>
  have d:Hid (Y2 bs=7):=by rw [Hid,b,qJ s8]
  clear b;go_wp2;go_ret;exact⟨by rw [d.out];rfl,j⟩
 |true=>
  obtain⟨G,E,y⟩:=D rfl;rw [<-G,<-E,<-y] at b;clear G E y;by_cases h1:0<k
  ·have T:=yn k;by_cases h2:s=32768
   ·subst h2;have d:Hid (Y2 bs=0):=by rw [Hid,b,qk ⟨rfl, .inr (.inl rfl)⟩]
    clear b;go_wp2;go_ret;exact⟨by rw [d.out];rfl,j⟩
   ·have N:((s:Int) !=32768)=true:=SZ;by_cases h3:k=1
    ·subst h3;by_cases h4:r=1
     ·subst h4;have d:Hid (Y2 bs=0):=by rw [Hid,b,qk ⟨rfl, .inr (.inr ⟨rfl,rfl⟩)⟩]
      clear b h2 h1;go_wp2;go_ret;exact⟨by rw [d.out];rfl,j⟩
     ·have P:((r:Int) !=1)=true:=SZ;have d:Hid (Y2 bs=7):=by rw [Hid,b,qJ uK]
      clear h4 h2 h1 b;go_wp2;go_ret;exact⟨by rw [d.out];rfl,j⟩
    ·have R:((k:Int) !=1)=true:=SZ;have d:Hid (Y2 bs=7):=by rw [Hid,b,qJ uK]
     clear h3 h2 h1 b;go_wp2;go_ret;exact⟨by rw [d.out];rfl,j⟩
  ·obtain rfl:k=0:=uK;have d:Hid (Y2 bs=0):=by rw [Hid,b,qk ⟨rfl, .inl rfl⟩]
   clear h1 b;go_wp2;go_ret;exact⟨by rw [d.out];rfl,j⟩
end
section
variable {A:q'}{C R base c g i k l n o:Nat}{E:TypeId}{W a b w:World}{f:Nat->Nat->UInt8}{xs:List Value}
theorem yZ (h:w.ownsRow base E 1 (.slice g n c) n xs):base<=g/\n<=c/\c<=maxLen/\xs.length=n/\ ∃b,Blk w g E b/\b.size=c/\b.toList.take n=xs:=by
 obtain⟨j,h0|⟨k,cap,cur,a,e,d,h1,h2,h3,h4⟩⟩:=h
 ·cases h0.1
 ·injection a with a i f;injection a with a;injection a with a;subst a;subst f;exact⟨e,h1,h2,uK,_,d,uK,by simpa using h4⟩
theorem xU (h:w.ownsRow base E 1 (.slice g n c) n xs) (b:k<n):w.cell? ⟨g,k,none⟩=xs[k]? /\w.frozen? ⟨g,k,none⟩=false:=by
 obtain⟨_,_,_,_,e,a,d,ht⟩:=yZ h;refine⟨?_,a.frozen k⟩;rw [a.cell k,<-ht,xZ,qk b,Array.getElem?_toList]
theorem Qn (h:w.ownsRow base E 1 (.slice g n c) n xs) (u:Value):(w.setCell ⟨g,k,none⟩ u).ownsRow base E 1 (.slice g n c) n (xs.set k u):=by
 obtain⟨a,h1,h2,d,f,b,e,ht⟩:=yZ h;refine⟨by rw [xE];omega, .inr ⟨g,c,_,rfl,a,b.zh k u,h1,h2,by rw [yg];omega, ?_⟩⟩;rw [Array.toList_setIfInBounds,z_,List.take_set,ht]
theorem Y_ (a d:Nat):(a:Int).tdiv (d:Int)=((a/d:Nat):Int):=by rw [Int.tdiv_eq_ediv_of_nonneg uK];exact(JK _ _).symm
theorem FC (a d:Nat):(a:Int).tmod (d:Int)=((a%d:Nat):Int):=by rw [Int.tmod_eq_emod_of_nonneg uK];exact(Int.natCast_emod _ _).symm
theorem Pd (a k:Nat):(a:Int)/2^k=((a/2^k:Nat):Int):=by rw [JK,j6];rfl
theorem FA (W:World) (g B:Nat) (A:q') (n cap at_:Nat) (bs:qn) (c0:W.cell? g=some (.slice A n cap)) (f:Reads W B 1 A n (bs.map B8)) (k:at_<8*n) (x:n<=1000000000):
  Calls prog 290 #[.pointer g,at_] W λe j=>e= .returned (.int .u64 (dq bs at_))/\W=j:=by
 have h:at_/8<n:=uK;obtain⟨t,z,rfl,-,b,l⟩:=f.byte h;have c:dq bs at_=z.toNat/2^(7-at_%8)%2:=by unfold dq;rw [qd,b];rfl
 rw [c];have o:(at_:Int).tdiv 8=((at_/8:Nat):Int):=Y_ _ 8;have v:(at_:Int).tmod 8=((at_%8:Nat):Int):=FC _ 8;have i:at_%8<8:=xC _ uK;have d:=z.toNat_lt;clear k c;generalize at_/8=q,at_%8=r,z.toNat=a at*;have w:=j' q n;have D:=Pd a (7-r);have h7:((7:Int)-(r:Int))=((7-r:Nat):Int):=uK;have m:a/2^(7-r)<256:=vQ (xr _ _) d;clear f b h d;generalize a/2^(7-r)=y at*;have C:=cP y uK;generalize 7-r=s at*;clear i;go_wp2;go_ret;exact⟨by rw [Int.natCast_emod];rfl,rfl⟩
theorem Od (x b:Nat) (d:2*x+b<18446744073709551616) (c:b<2):bits .or .u64 ((x:Int)*2) (b:Int)=((2*x+b:Nat):Int):=by
 have a:(x:Int)*2=((2*x:Nat):Int):=uK;rw [a,u64_or_nat _ _ uK uK];congr 1;have:=nat_join 1 (2*x) b uK uK;exact this
theorem Ga (W:World) (g B:Nat) (A:q') (n cap at_ k m:Nat) (bs:qn) (c0:W.cell? g=some (.slice A n cap)) (c1:W.cell? ⟨g,1,none⟩=some (m:Value)) (c:m=8*n) (r:Reads W B 1 A n (bs.map B8)) (E:n<=1000000000) (O:k<=64) (M:at_<=8000000000):
  Calls prog 287 #[.pointer g,at_,k] W λe z=>e= .returned (.int .u64 (QF bs at_ k))/\W=z:=by
 have l:=r.len;have f:=λi hi=>qj (FA W g B A n cap i bs c0 r hi E);replace c:=qj c;replace l:=qj l;have H:wrap64 ((at_:Int)+(k:Int))=(at_:Int)+(k:Int):=yT _ ⟨uK,uK⟩;clear r c0;go_wp2;go_loopw [7,8] (λD o wr=> ∃(j i x:Nat),o=(i:Value)/\D= .int .u64 (x:Nat)/\i<=at_+k/\Hid (i=at_+j)/\Hid (x=QF bs at_ j)/\W=wr) (λ_ o _=>(at_+k)-(intOf o).toNat)
 ·exact⟨0,at_,0,rfl,rfl,uK,rfl,rfl,rfl⟩
 ·obtain⟨j,i,x,rfl,rfl,hi,a,d,rfl⟩:=hrel;by_cases p:i<at_+k
  ·have L:(i:Int)<(at_:Int)+(k:Int):=uK;have N:j<k:=by have:=a.out;omega
   have I:(i:Int)+1<9223372036854775808:=uK;have t:x<2^j:=by rw [d.out];exact Zr _ _ _
   have K:x<9223372036854775808:=by
    have h2:2^j<=2^63:=zZ uK uK;omega
   have h:=qj p;by_cases q:i<m
   focus
    have w:=j' i m;have u:=f i (by rw [<-c.out];exact q);have v:=Od x (dq bs i) (by have:=D2 bs i;omega) (D2 bs i);obtain⟨y,b⟩:=j1 (2*x+dq bs i);rw [<-b] at v;have s:Hid (y=QF bs at_ (j+1)):=by
     rw [Hid,b,d.out];show _=2*QF bs at_ j+(if at_+j<8*bs.length then dq bs (at_+j) else 0);rw [<-a.out,qk (by rw [l.out,<-c.out];exact q)]
    generalize dq bs i=F at*;clear b t p f;go_wp2_with fail;refine Ω u ?_
   rotate_left
   focus
    have w:=vv i m;obtain⟨y,b⟩:=j1 (2*x);have G:(x:Int)*2=(y:Int):=uK;have s:Hid (y=QF bs at_ (j+1)):=by
     rw [Hid,b,d.out];show _=2*QF bs at_ j+(if at_+j<8*bs.length then dq bs (at_+j) else 0);rw [<-a.out,qJ (by rw [l.out,<-c.out];exact q)];rfl
    clear b t p f
   all_goals
    go_wp2;go_roundw
    case rel=>exact⟨j+1,i+1,y,s8,xb,by have:=h.out;omega,by rw [Hid,a.out];omega,s,trivial⟩
    case measure=>have:=h.out;simp [intOf];omega
  ·have J: ¬(i:Int)<(at_:Int)+(k:Int):=uK;have C:Hid (x=QF bs at_ k):=by
    rw [Hid,d.out];have:j=k:=by have:=a.out;omega
    rw [this]
   clear f;go_wp2;go_ret;exact⟨by rw [<-C.out];rfl,rfl⟩
theorem vU (h:Below a a b) (row:Option Nat):a.grownBy b row:=⟨h.os,h.tape,h.output,h.size,λj c _=>h.block j c⟩
structure Wk (W:World) (base g o R C:Nat) (A:q') (n k:Nat) (f:Nat->Nat->UInt8):Prop where
 c0:W.cell? ⟨g,o,none⟩=some (R:Value)
 c1:W.cell? ⟨g,o+1,none⟩=some (C:Value)
 c2:W.cell? ⟨g,o+2,none⟩=some (.slice A n k)
 own:W.ownsRow base 5 1 (.slice A n k) n ((zP C f (R*C)).map B8)
 hg:g<W.heap.size
 ne:A.map (·.block)≠some g
 bs:base<=W.heap.size
theorem Wk.grown {d:World} (h:Wk W base g o R C A n k f) {row:Option Nat} (b:W.grownBy d row) (h1:row≠some g) (h2: ∀a,A=some a->row≠some a.block):Wk d base g o R C A n k f:=
 have c: ∀p:Addr,p.block=g->d.cell? p=W.cell? p:=λp i=>zw (by rw [i];exact b.block g h.hg (Zi h1))
 ⟨(c _ rfl).trans h.c0,(c _ rfl).trans h.c1,(c _ rfl).trans h.c2,zI h.own (λa e=>b.block _ (by
  have:=jV h.own _ (by rw [e];rfl)
  obtain⟨m,l,j⟩:=this;exact jz j) (Zi (h2 a e))),qB h.hg b.size,h.ne,qv h.bs b.size⟩
theorem Wk.below (h:Wk W base g o R C A n k f) (c:Below W W b):Wk b base g o R C A n k f:=
 h.grown (vU c none) s8 (λa _=>s8)
theorem Wk.I1 {d:Nat->Nat->UInt8} (h:Wk W base g o R C A n k f) (c:W.grownBy a (A.map (·.block))) (e:a.ownsRow base 5 1 (.slice A n k) n ((zP C d (R*C)).map B8)):Wk a base g o R C A n k d:=
 have b: ∀p:Addr,p.block=g->a.cell? p=W.cell? p:=λp i=>zw (by rw [i];exact c.block g h.hg (Zi h.ne))
 ⟨(b _ rfl).trans h.c0,(b _ rfl).trans h.c1,(b _ rfl).trans h.c2,e,qB h.hg c.size,h.ne,qv h.bs c.size⟩
theorem Wk.len (h:Wk W base g o R C A n k f):n=R*C/\n<=k:=by
 have:=h.own.1;rw [zH,yj] at this;exact⟨uK,(jC h.own).1⟩
theorem Wk.reads (h:Wk W base g o R C A n k f) {i:Nat} (hi:i<R):Reads W W 1 (xo A k (i*C) 1) C ((Xu C (f i)).map B8):=by
 have:=bj (Reads.zY h.own) h.len.1 hi h.len.2;rw [Uv R C i f hi] at this;exact this
theorem Wk.lt (h:Wk W base g o R C A n k f): ∀a,A=some a->base<=a.block/\a.block<W.heap.size:=λa b=>h.own.lt _ (by rw [jH,b];rfl)
theorem Wk.put {a:World} (h:Wk W base g o R C A n k f) (hi:i<R) {x:Nat->UInt8} (c:a.ownsRow base 5 1 (.slice A n k) n (splice ((zP C f (R*C)).map B8) (i*C) ((Xu C x).map B8))) (b:W.grownBy a (A.map (·.block))):
  Wk a base g o R C A n k (λr t=>if r=i then x t else f r t):=by
 refine h.I1 b ?_;rw [<-AK R C i f x hi,Rb];exact c
def C16 (x:Nat):Value:= .int .u16 (x:Int)
def pJ (f:Nat->Nat):Array Value:=((List.range 17).map λl=>Value.int .i64 (f l)).toArray
theorem Kz (f:Nat->Nat):(pJ f).size=17:=by simp [pJ]
theorem kK (f:Nat->Nat) (h:l<17):(pJ f)[l]? =some (.int .i64 (f l)):=by simp [pJ,h]
theorem eO (f:Nat->Nat) (v:Nat):(pJ f).setIfInBounds l v=pJ (λj=>if j=l then v else f j):=by
 apply ZD;intro j;rw [jM];by_cases b:l=j
 ·subst b;by_cases a:l<17
  ·rw [qk rfl,qk (by rw [Kz];exact a),kK _ a,qk rfl]
  ·rw [qk rfl,qJ (by rw [Kz];exact a),zg (by rw [Kz];omega)]
 ·rw [qJ b];by_cases a:j<17
  ·rw [kK _ a,kK _ a,qJ (λe=>b e.symm)]
  ·rw [zg (by rw [Kz];omega),zg (by rw [Kz];omega)]
def I7:Array Value:=Array.replicate 17 ()
theorem OF:I7=pJ λ_=>0:=by rfl
theorem mh:(prog.info? 354).map (λi=>(i.zero,i.size))=some (some (.agg I7),17):=AL
theorem mH:(prog.info? 25).map (λi=>(i.zero,i.size,i.bytes))=some (some (.int .u16 0),1,2):=AL
theorem FT (bs:qn) (a:bs.length<=300): ∀l,xV bs (l+1)+600<=600*2^l
 |0=>by simp [xV]
 |l+1=>by
  have h1:=FT _ a l;have h2:=CK bs (l+1);show(xV bs (l+1)+cnt bs (l+1))*2+600<=_;rw [vB];omega
theorem Dz (bs:qn) (a:bs.length<=300) (l:Nat) (b:l<=16):xV bs l<=19660800:=by
 cases l with
 |zero=>simp [xV]
 |succ l=>
  have h1:=FT _ a l;have h2:2^l<=2^15:=zZ uK uK;omega
theorem Dj (a:qn): ∀t p,(PQ a p t).length=t.length
 |[],_=>rfl
 |x::t,p=>by show(PQ a (p++[x]) t).length+1=_;rw [Dj a t,qf]
theorem Fw (a:qn): ∀(t p:qn) (i:Nat) (x:UInt8),t[i]? =some x->(PQ a p t)[i]? =some (if x.toNat=0 then 0 else(xV a x.toNat+cnt (p++t.take i) x.toNat)%65536)
 |[],p,i,x,h=>by simp at h
 |y::t,p,0,x,h=>by
  simp at h
  subst h;show some _=_;simp
 |y::t,p,i+1,x,h=>by
  have:=Fw a t (p++[y]) i x (by simpa using h)
  show(PQ a (p++[y]) t)[i]? =_
  rw [this];simp
theorem PD (bs:qn):(Xt bs).length=bs.length:=Dj _ _ _
theorem FW (bs:qn) (i:Nat) (x:UInt8) (h:bs[i]? =some x):(Xt bs)[i]? =some (if x.toNat=0 then 0 else(xV bs x.toNat+cnt (bs.take i) x.toNat)%65536):=Fw _ _ _ i x h
theorem ZT {bs:qn} (h:Y2 bs=0):bs.length<=300/\okL bs=true/\ ∀x∈bs,x.toNat<=15:=by
 unfold Y2 at h;have b:okL bs=true:=by
  rcases Classical.em (okL bs=true) with h2|h2
  ·exact h2
  ·rw [qJ (λh3=>h2 h3.1)] at h;exact absurd h FV
 have a:=b;unfold okL at a;simp only [zR,zd,xT] at a;exact⟨a.1,b,a.2⟩
theorem uf (bs:qn):Y2 bs=0\/Y2 bs=7:=by unfold Y2;split<;>simp
def YW (bs:qn):List Nat:=if Y2 bs=0 then Xt bs else []
def FN (w:World) (bs:qn) (e:Ending) (w':World):Prop:= ∃A c,e= .returned (.tuple #[.slice A (YW bs).length c, .int .i64 (Y2 bs)])/\w'.ownsRow w 25 1 (.slice A (YW bs).length c) (YW bs).length ((YW bs).map C16)/\Below w w w'
theorem Ck (A:Option Addr) (n c B:Nat) (bs:List UInt8) (w:World) (h:Reads w B 1 A n (bs.map B8)) (hB:B<=w.heap.size):
  Calls prog 208 #[.slice A n c] w (FN w bs):=by
 have hz:=(jb Fe).1;rw [CY] at hz;have Z':=(jb mh).1;rw [OF] at Z';have J:=qj (kY A n c B bs w h hB);have H:=qj h;have T:=qj hB;have X:=qj h.len;have hsz:=λf=>qj (du f);obtain⟨i0,hi,N6,J',D'⟩:=qA mH;replace hi:=qj hi;replace N6:=qj N6;replace J':=qj J';replace D':=qj D';clear h hB;rcases uf bs with s|s
 ·have G:=qj s
  rw [s] at J;obtain⟨y,d',G'⟩:=ZT s;have hn:n<=300:=by rw [<-X.out];exact y
  replace y:=qj y;replace d':=qj d';replace G':=qj G';clear s;go_enter func208,ntmps208
  go_wp2_with fail;refine J.mono ?_;rintro e w1 ⟨rfl,r⟩;have KC:=qj (bM A n c B bs w1 (H.below (r.mono T)) (qv T r.size));have U:=qj r;clear J r
  go_wp2_with fail;refine KC.mono ?_;rintro e b ⟨f,rfl,Z,N9⟩;have HF:=qj (Z.2 d');have HF3:=qj Z.1;have C:=qj (U.trans (N9.mono U.size));clear KC Z N9 U;have Y':Hid (Blk (b.alloc (.cells (x8 λ_=>0) 350)) b 350 (x8 λ_=>0)):=Blk.new b _ _
  go_wp2_with (first
   |(refine qC rfl 350 _ _ rfl b (x8 f) rfl rfl 350 (x8 λ_=>0) Y' (hsz _).out rfl (pe _) ?_))
  have hb1:Hid (Blk (((b.alloc (.cells (x8 λ_=>0) 350)).setRow b (x8 f)).alloc (.cells (pJ λ_=>0) 354)) b 350 (x8 f)):=((Blk.new b _ _).row _).alloc _;have S':Hid (Blk (((b.alloc (.cells (x8 λ_=>0) 350)).setRow b (x8 f)).alloc (.cells (pJ λ_=>0) 354)) (b.heap.size+1) 354 (pJ λ_=>0)):=by
   have:=Blk.new ((b.alloc (.cells (x8 λ_=>0) 350)).setRow b (x8 f)) 354 (pJ λ_=>0);rw [Xk] at this;simpa [Hid] using this
  have OX:Hid (Below w w (((b.alloc (.cells (x8 λ_=>0) 350)).setRow b (x8 f)).alloc (.cells (pJ λ_=>0) 354))):=
   (zu (C.alloc C.size _) C.size _).alloc (by rw [Xk];exact qv C.size s8) _
  have hg5:Hid (w.heap.size<=b.heap.size):=C.size;clear Y' C hz Z';generalize ((b.alloc (.cells (x8 λ_=>0) 350)).setRow b (x8 f)).alloc (.cells (pJ λ_=>0) 354)=w3 at*
  generalize hg7:b.heap.size+1=a at*
  have hne:Hid (b.heap.size≠a):=by rw [Hid];omega
  have P':Hid (w.heap.size<=a):=by rw [Hid];have:=hg5.out;omega
  replace hg7:=qj hg7;generalize b.heap.size=O at*
  go_loopw [8] (λv8 wr=> ∃(l:Nat) (q:Nat->Nat),v8=(l:Value)/\1<=l/\l<=16/\Hid (Below w w wr)/\Hid (Blk wr O 350 (x8 f))/\Hid (Blk wr a 354 (pJ q))/\Hid (∀j,1<=j->j<=l->q j=xV bs j)) (λv8 _=>16-(intOf v8).toNat)
  case atStart=>exact⟨1,λ_=>0,rfl,uK,uK,OX,hb1,S',λj h1 h2=>by rw [show j=1 by omega];rfl⟩
  case round=>
   clear hb1 S' OX;obtain⟨l,q,rfl,hl1,hl,g,H5,d,m⟩:=hrel;by_cases M:l<16
   ·have hlt':(l:Int)<16:=uK
    have c7:wr.cell? ⟨a,l,none⟩=some (.int .i64 (xV bs l)):=by rw [d.cell,kK _ uK,m.out l hl1 (qx _)]
    have c5:wr.cell? ⟨O,l,none⟩=some (.int .i64 (cnt bs l)):=by rw [H5.cell,YD _ M,HF.out l M,qJ uK]
    have U':=Dz bs y l uK;have hcn:=qv (CK bs l) y.out;have hnx:Hid ((xV bs l+cnt bs l)*2=xV bs (l+1)):=by
     obtain⟨l,rfl⟩: ∃k,l=k+1:=⟨l-1,uK⟩;rfl
    generalize xV bs l=u at*
    generalize cnt bs l=I at*
    obtain⟨v,hv⟩: ∃v,v=(u+I)*2:=⟨_,rfl⟩;have w1_:IntKind.i64.wrap ((l:Int)+1)=(l:Int)+1:=SX;have w2_:IntKind.i64.wrap ((u:Int)+(I:Int))=(u:Int)+(I:Int):=SX;have w3_:IntKind.i64.wrap (((u:Int)+(I:Int))*2)=(v:Int):=SX;have w0_:IntKind.i64.wrap (l:Int)=(l:Int):=SX;have hb17:(l:Int)+1<17:=uK;have hl0:(0:Int)<=(l:Int):=uK;have hl10:(0:Int)<=(l:Int)+1:=uK;have hl17:(l:Int)<17:=uK;have fz:wr.frozen? ⟨a,l+1,none⟩=false:=d.frozen _;have cz:wr.cell? ⟨a,l+1,none⟩=some (.int .i64 (q (l+1))):=by rw [d.cell,kK _ uK]
    have hvv:=qj hv;clear hv
    go_wp2_with fail;refine zv 10 (λW=>W.cell? ⟨a,l,none⟩=some (u:Value)/\W.cell? ⟨O,l,none⟩=some (I:Value)) AL ⟨c7,c5⟩ (λhHeld=> ?_)
    refine zq [0,1,2,3,4,5] (a':= ?_) ?_;refine zq [6,7,8,9] (a':= ?_) ?_;refine j4 10 rfl AL FV SQ (λK E=> ?_);go_simp;refine E _ _ ?_;clear E K;try simp only [Act.put,qQ,qY,qV]
    refine j4 11 rfl AL FV SQ (λK E=> ?_);go_simp;refine E _ _ ?_;clear E K;try simp only [Act.put,qQ,qY,qV]
    refine zV AL ?_ _;clear w0_ w1_ w2_ w3_ hHeld c7 c5 cz fz;have iL:Hid (Blk ((wr.setCell ⟨a,l+1,none⟩ v).drew) a 354 (pJ λj=>if j=l+1 then v else q j)):=by
     rw [Hid,<-eO];exact(d.zh (l+1) _).drew
    have H5n:Hid (Blk ((wr.setCell ⟨a,l+1,none⟩ v).drew) O 350 (x8 f)):=(H5.far (p:=⟨a,l+1,none⟩) hne _).drew;have m':Hid (Below w w ((wr.setCell ⟨a,l+1,none⟩ v).drew)):=(g.setCell (p:=⟨a,l+1,none⟩) P' _).drew;have HQn:Hid (∀j,1<=j->j<=l+1->(λj=>if j=l+1 then v else q j) j=xV bs j):=λj h1 h2=>by
     dsimp only;by_cases h:j=l+1
     ·rw [qk h,h,<-hnx.out,hvv.out]
     ·rw [qJ h];exact m j h1 uK
    generalize (λj=>if j=l+1 then v else q j)=q2 at*
    generalize (wr.setCell ⟨a,l+1,none⟩ v).drew=V at*
    go_wp2_with fail;go_roundw
    case rel=>exact⟨l+1,q2,s8,uK,uK,m',H5n,iL,HQn⟩
    case measure=>simp [intOf];omega
   ·have hge: ¬(l:Int)<16:=uK
    have hbb1:i0.bytes*n<=281474976710656:=by rw [D'.out];omega
    have hbb2:n<=maxLen:=SJ;have HQ2:Hid (∀j,1<=j->j<=15->q j=xV bs j):=λj h1 h2=>m.out j h1 uK;clear H5 m
    go_wp2_with (at_make;refine xP _ rfl _ _ 212 rfl w 25 i0 (.int .u16 0) 1 underlying212 hi N6 J' .i64 .i64 _ _ n rfl rfl rfl rfl hbb1 hbb2 g.size ?_;intro V ho6 p')
    have Q':Hid (Below w w V):=g.grown p' g.size (λk hk=>by cases hk)
    have H76:Hid (Blk V a 354 (pJ q)):=d.grown p' s8;have HO6:=qj ho6;have X':Hid (wr.heap.size≠a):=by rw [Hid];have:=d.lt;omega
    have hgw:Hid (w.heap.size<=wr.heap.size):=g.size;clear ho6 p' g d;generalize wr.heap.size=o at*
    go_loopw [42] (λY wq=> ∃(i:Nat) (q2:Nat->Nat) (zs:List Value),Y=(i:Value)/\i<=n/\Hid (Below w w wq)/\Hid (Blk wq a 354 (pJ q2))/\Hid (wq.ownsRow w 25 1 (.slice o n n) n zs)/\Hid (zs.take i=((Xt bs).map C16).take i)/\Hid (zs.drop i=List.replicate (n-i) (.int .u16 0))/\Hid (∀j,1<=j->j<=15->q2 j=xV bs j+cnt (bs.take i) j)) (λY _=>n-(intOf Y).toNat)
    case atStart=>exact⟨0,q,_,rfl,qp _,Q',H76,HO6,by simp [Hid],by rw [Hid,Zy,Nat.sub_zero,z_];exact xf _ _,λj h1 h2=>by rw [HQ2.out j h1 h2];simp [cnt]⟩
    case round=>
     clear Q' H76 HO6 HQ2;obtain⟨i,q2,zs,rfl,hi_,g,d,t,x,D,m⟩:=hrel;by_cases M:i<n
     ·have hlt':(i:Int)<(n:Int):=uK
      obtain⟨ad,z,hAd,-,F,hcell⟩:=(H.below (g.mono T)).byte M;subst hAd;have L:=FW bs i z F;have S:=PD bs;have z':=t.out.1;have hz15:=G'.out z (zQ F);have R: ∀j,cnt (bs.take (i+1)) j=cnt (bs.take i) j+if z.toNat=j then 1 else 0:=λj=>by
       rw [qs,F];exact eW _ _ _
      rw [z_] at z';have P:zs[i]? =some (.int .u16 0):=by
       have h1:=D.out;have h2:(zs.drop i)[0]? =some (.int .u16 0):=by rw [h1,jF];rw [qk uK]
       rw [jt] at h2;simpa using h2
      by_cases h0:z.toNat=0
      ·have hz0': ¬(0:Int)<(z.toNat:Int):=uK
       have M':Hid (zs.take (i+1)=((Xt bs).map C16).take (i+1)):=by
        rw [Hid,qs,qs,x.out,P,qD,L,qk h0];rfl
       have u':Hid (zs.drop (i+1)=List.replicate (n-(i+1)) (.int .u16 0)):=by
        have:=zo (List.drop 1) D.out;rw [vh] at this;rw [Hid,this,JC];congr 1
       have I':Hid (∀j,1<=j->j<=15->q2 j=xV bs j+cnt (bs.take (i+1)) j):=λj h1 h2=>by
        rw [m.out j h1 h2,R j,qJ uK];rfl
       clear m x D R L F P h0
       go_wp2_with fail;go_roundw
       case rel=>exact⟨i+1,q2,zs,by first|rfl|simp,uK,g,d,t,M',u',I'⟩
       case measure=>simp [intOf];omega
      ·have hz0':(0:Int)<(z.toNat:Int):=uK
       have N:=m.out z.toNat uK hz15;have U':=Dz bs y z.toNat uK;have hcn:=qv (CK (bs.take i) z.toNat) (List.length_take_le _ _);have c7:wr.cell? ⟨a,z.toNat,none⟩=some (.int .i64 (q2 z.toNat)):=by rw [d.cell,kK _ uK]
       have f7:wr.frozen? ⟨a,z.toNat,none⟩=false:=d.frozen _;obtain⟨eo,u⟩:=xU t M;rw [P] at eo;have hw16:Hid (IntKind.u16.wrap (q2 z.toNat:Int)=(((xV bs z.toNat+cnt (bs.take i) z.toNat)%65536:Nat):Int)):=by
        rw [Hid,IntKind.wrap_u16,N];omega
       rw [qJ h0] at L;have N':=qj (Qn (k:=i) t (C16 ((xV bs z.toNat+cnt (bs.take i) z.toNat)%65536)));have hngo:Hid (a≠o):=λe=>X'.out e.symm;have Q:=qj (d.far (p:=⟨o,i,none⟩) hngo (C16 ((xV bs z.toNat+cnt (bs.take i) z.toNat)%65536)));have O':=qj (g.setCell (p:=⟨o,i,none⟩) hgw (C16 ((xV bs z.toNat+cnt (bs.take i) z.toNat)%65536)));have HO3:Hid ((((wr.setCell ⟨o,i,none⟩ (C16 ((xV bs z.toNat+cnt (bs.take i) z.toNat)%65536)))).setCell ⟨a,z.toNat,none⟩ ((q2 z.toNat+1:Nat):Int)).ownsRow w 25 1 (.slice o n n) n (zs.set i (C16 ((xV bs z.toNat+cnt (bs.take i) z.toNat)%65536)))):=
        ((qE.refl [a] _).zh (p:=⟨a,z.toNat,none⟩) (qy.2 rfl) _).own N' (λk hk=>by have:=ZO.1 hk;simp at this;subst this;simpa using X'.out)
       have iL:Hid (Blk (((wr.setCell ⟨o,i,none⟩ (C16 ((xV bs z.toNat+cnt (bs.take i) z.toNat)%65536)))).setCell ⟨a,z.toNat,none⟩ ((q2 z.toNat+1:Nat):Int)) a 354 (pJ λj=>if j=z.toNat then q2 z.toNat+1 else q2 j)):=by
        rw [Hid,<-eO];exact Q.zh _ _
       have m':Hid (Below w w (((wr.setCell ⟨o,i,none⟩ (C16 ((xV bs z.toNat+cnt (bs.take i) z.toNat)%65536)))).setCell ⟨a,z.toNat,none⟩ ((q2 z.toNat+1:Nat):Int))):=O'.setCell (p:=⟨a,z.toNat,none⟩) P' _;have M':Hid ((zs.set i (C16 ((xV bs z.toNat+cnt (bs.take i) z.toNat)%65536))).take (i+1)=((Xt bs).map C16).take (i+1)):=by
        rw [Hid,qs,qs,List.take_set,x.out,Qq uK,qD,L];congr 1
        rw [Jo];rw [qh];exact xK _ _
       have u':Hid ((zs.set i (C16 ((xV bs z.toNat+cnt (bs.take i) z.toNat)%65536))).drop (i+1)=List.replicate (n-(i+1)) (.int .u16 0)):=by
        have:=zo (List.drop 1) D.out;rw [vh] at this;rw [Hid,List.drop_set_of_lt uK,this,JC];congr 1
       have I':Hid (∀j,1<=j->j<=15->(λj=>if j=z.toNat then q2 z.toNat+1 else q2 j) j=xV bs j+cnt (bs.take (i+1)) j):=λj h1 h2=>by
        dsimp only;rw [R j];by_cases h:j=z.toNat
        ·subst h;rw [qk rfl,qk rfl,N];omega
        ·rw [qJ h,qJ (λe=>h e.symm),m.out j h1 h2];rfl
       have hqb:q2 z.toNat<=20000000:=by rw [N];omega
       have c7b:(wr.setCell ⟨o,i,none⟩ (C16 ((xV bs z.toNat+cnt (bs.take i) z.toNat)%65536))).cell? ⟨a,z.toNat,none⟩=some (.int .i64 (q2 z.toNat)):=by rw [Q.cell,kK _ uK]
       have f7b:(wr.setCell ⟨o,i,none⟩ (C16 ((xV bs z.toNat+cnt (bs.take i) z.toNat)%65536))).frozen? ⟨a,z.toNat,none⟩=false:=Q.frozen _;have hwo:=hw16.out;clear m x D R L F P h0 N U' hcn N' Q O' t g d;unfold C16 at*
       generalize (λj=>if j=z.toNat then q2 z.toNat+1 else q2 j)=q3 at*
       generalize zs.set i (Value.int .u16 (((xV bs z.toNat+cnt (bs.take i) z.toNat)%65536:Nat):Int))=zs3 at*
       generalize (xV bs z.toNat+cnt (bs.take i) z.toNat)%65536=cv at*
       generalize q2 z.toNat=qz at*
       generalize z.toNat=zz at*
       go_wp2_with fail;go_roundw
       case rel=>exact⟨i+1,q3,zs3,by first|rfl|simp,uK,by simpa using m',by simpa using iL,by simpa using HO3,M',u',I'⟩
       case measure=>simp [intOf];omega
     ·have hge: ¬(i:Int)<(n:Int):=uK
      obtain rfl:i=n:=uK;have S:=PD bs;have z':=t.out.1;rw [z_] at z';have hzs:Hid (zs=(Xt bs).map C16):=by
       have:=x.out;rw [qH uK,qH (by rw [zH,S,X.out];omega)] at this
       exact this
      have hcl2:Hid ((YW bs).length=i):=by unfold YW;rw [Hid,qk G.out,S,X.out]
      have hcr:Hid (YW bs=Xt bs):=by unfold YW;rw [Hid,qk G.out]
      clear x D m d S
      go_wp2_with fail
      go_ret2;refine⟨some ⟨o,0,none⟩,i, ?_, ?_,g.out⟩
      ·rw [hcl2.out,G.out];rfl
      ·rw [hcl2.out,hcr.out,<-hzs.out];exact t.out
 ·have G:=qj s
  rw [s] at J;go_enter func208,ntmps208
  go_wp2_with fail;refine J.mono ?_;rintro e w1 ⟨rfl,r⟩;replace r:=qj r;clear s
  go_wp2_with fail
  go_ret2;unfold FN YW;rw [G.out];exact⟨none,0,rfl,qP _ _ _ _,r.out⟩
end
end Go.Proofs.YtfnlfpcfkbdcmaaGreatDoor
