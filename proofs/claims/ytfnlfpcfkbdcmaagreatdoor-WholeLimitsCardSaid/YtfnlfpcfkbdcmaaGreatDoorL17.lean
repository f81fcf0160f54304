import Derived.Test.YtfnlfpcfkbdcmaaGreatDoorL12
set_option linter.unusedSimpArgs false
set_option linter.unusedVariables false
set_option maxRecDepth 100000
set_option maxHeartbeats 0
open Go.Proofs.Tryz
namespace Go.Proofs.YtfnlfpcfkbdcmaaGreatDoor
variable {Q:Exit->Act->World->Prop}{f:World}{j:Nat}
section
variable {A:q'}{B k n:Nat}{a:List qn}{w:World}
section
open Go.RowKit
theorem bG (A q:q') (n j c v B E:Nat) (a b:qn) (w:World) (h1:Reads w B 1 A n (a.map B8)) (h2:Reads w E 1 q j (b.map B8)) (N:n<=1000000000000) (P:j<=1000000000000):
  Calls prog 149 #[.slice A n c, .slice q j v] w λe w'=>e= .returned (.bool (decide (a=b)))/\Dr w w':=by
 have o:=h1.len;have l2:=h2.len;by_cases s:n=j
 ·subst s;have z:=qj h1;have D:=qj h2;have L:=qj (show a.length=n/\b.length=n from⟨o,l2⟩);clear h1 h2 o l2;go_wp2;go_loopw [13] (λi wr=> ∃k:Nat,i=(k:Value)/\k<=n/\Hid (Dr w wr)/\Hid (a.take k=b.take k)) (λi _=>n-(intOf i).toNat)
  ·exact⟨0,rfl,uK,Dr.refl w,rfl⟩
  ·obtain⟨k,rfl,O,g,t⟩:=hrel;by_cases r:k<n
   ·obtain⟨J,x,rfl,u,l,I⟩:=(g.reads z).byte r;obtain⟨H,y,rfl,p,d,F⟩:=(g.reads D).byte r;have M:=j' k n;by_cases m:x=y
    ·subst m;have C:Hid (a.take (k+1)=b.take (k+1)):=by
      rw [qs,qs,t.out,l,d];rfl
     clear l d u p;go_wp2;go_quiet (fail);go_wp2_with fail;refine xk ?_;exact⟨k+1,xh,uK,g.drewN _,C⟩
    ·have G:((x.toNat:Int) !=(y.toNat:Int))=true:=by
      rw [yo];intro h;exact m (jG.1 uK)
     have f:Hid (decide (a=b)=false):=by
      rw [Hid,zW];rintro rfl;rw [l] at d;injection d with d;exact m d
     clear l d u p m;go_wp2;go_quiet (fail);go_wp2;go_ret;exact⟨j7 f.symm,g.drewN _⟩
   ·obtain rfl:k=n:=uK;have f:Hid (decide (a=b)=true):=by
     have h:=t.out;rw [qH (by rw [L.out.1];exact qx _),qH (by rw [L.out.2];exact qx _)] at h;exact qw h
    go_wp2;go_ret;exact⟨j7 f.symm,g⟩
 ·have K:((n:Int) !=(j:Int))=true:=by rw [yo];omega
  have f:Hid (decide (a=b)=false):=by
   rw [Hid,zW];rintro rfl;omega
  clear s h1 h2 o l2;go_wp2;go_ret;exact⟨j7 f.symm,Dr.refl w⟩
theorem vm.len (h:vm w B A n a):a.length=n:=by obtain⟨_,_,h2,_⟩:=h;exact h2
theorem Dr.XB {a:World} (h:Dr a w) {b:List qn} (r:vm a B A n b):vm w B A n b:=r.below (h.below B)
theorem vm.take (h:vm w B A n a) (b:k<=n):vm w B A k (a.take k):=by
 obtain⟨g,h1,h2,h3⟩:=h;refine⟨g.take (k*1),h1.take b,by rw [qh];omega,λi c hi=> ?_⟩;rw [xZ] at hi;split at hi
 ·rename_i l;obtain⟨Ai,f,e,j,d⟩:=h3 i c hi;exact⟨_,f,e,by rw [xZ,qk uK];exact j,d⟩
 ·cases hi
end
end
section
section
open Go.RowKit
theorem Ou (w:World) (base:Nat) (e:TypeId) (a:List Value) (b:base<=w.heap.size) (c:a.length<=maxLen):(w.alloc (.cells a.toArray e)).ownsRow base e 1 (.slice w a a) a a:=by
 have h:=World.ownsRow_lit (e:=e) (size:=1) w a.toArray a b c s8;simpa using h
theorem ek (s:Nat) (w:World) (c:s<4294967296):Calls prog 56 #[.int .u32 s] w (jQ 5 w 4 ((GR s).map B8)):=by
 have a:Hid ((GR s).map B8=[.int .u8 ((s:Int)%256), .int .u8 ((s:Int)/256%256), .int .u8 ((s:Int)/65536%256), .int .u8 ((s:Int)/16777216)]):=by
  have b:s/16777216%256=s/16777216:=jk uK;simp only [GR,jy,xB,B8,zS,Nat.reducePow,b];rfl
 go_wp2;go_ret;refine⟨some ⟨w,0,none⟩,4, ?_, ?_⟩
 ·rfl
 ·rw [a.out];exact⟨Ou w w _ [.int .u8 ((s:Int)%256), .int .u8 ((s:Int)/256%256), .int .u8 ((s:Int)/65536%256), .int .u8 ((s:Int)/16777216)] (qx _) (by simp [maxLen]),zi (qZ _ _) _⟩
theorem XI (A:q') (n c B:Nat) (a:qn) (w:World) (ht:Tab w) (h:Reads w B 1 A n (a.map B8)) (t:B<=w.heap.size) (u:n<=c) (q:c<=maxLen) (O:n<=1000000000000):
  Calls prog 35 #[.slice A n c] w (jQ 5 w (n+4) ((VY a).map B8)):=by
 have T:=qj ht;have H:=qj h;have r:=qj (show n<=c/\c<=maxLen from⟨u,q⟩);obtain⟨I,hi,l,f,m⟩:=xt QB;clear ht h u q;go_in;go_wp2_with fail;refine(yV A n c B a w H t uK).mono ?_;rintro e s ⟨E,c1,rfl,g⟩;have b:=qj g;have K:=g.below.size;clear g;go_wp2_with fail;refine zC (Wy A n c w a s (T.below b.below T.pos) ((H.more t).below b.below) K r.out.1 r.out.2) ?_;intro N i;have G:=qj (zX b.below i);have F:=qj (Qv b.out.1 i);clear i;go_wp2_with fail;refine(ek _ _ (RX a)).mono ?_;rintro e v ⟨L,z,rfl,d⟩;have k:=qj (zX G d.below);have o:=qj (Qv F d.below);have D:=qj d.reads;clear d;go_wp2_with (at_builtin;refine qF _ rfl (.tmp 4) (.tmp 7) 30 rfl w 5 I (.int .u8 0) 1 1 qu hi l f m rfl uK E n c1 _ rfl o v L 4 z _ rfl D (YR _) ?_ ?_ ?_ ?_;rotate_left 3;intro C y M j p x;have J:=qj (zG k p o k.size);replace j:=qj j;clear p x);rotate_left 1
 ·unfold maxLen;omega
 ·omega
 ·exact k.size
 go_ret;refine⟨C,y,rfl, ?_,J⟩;have h:=j.out;rw [<-qg] at h;exact h
theorem Vr (A:q') (n c:Nat) (a:qn) (w:World) (ht:Tab w) (h:Reads w w.heap.size 1 A n (a.map B8)) (x:n<=c) (u:c<=maxLen) (X:n<=1000000000000):
  Calls prog 106 #[.slice A n c] w (Qr 5 w (vR a) (QH a)):=by
 have y:=h.len;by_cases h4:n<4
 ·have d:Hid (vR a=[]/\QH a=1):=⟨qk uK,qk uK⟩;have R:(n:Int)-4<0:=uK;clear h y ht;go_wp2;go_ret2;exact⟨_,0,by rw [d.out.1,d.out.2];rfl,by rw [d.out.1];exact yG.nil w _⟩
 obtain⟨k,rfl⟩: ∃k,n=k+4:=⟨n-4,uK⟩;have T:=qj ht;have H:=qj h;have d:Hid (vR a=(if VO a then a.take k else [])/\QH a=(if VO a then 0 else 5)/\VO a=decide (a.drop k=GR (h9 (a.take k)))):=by
  refine⟨?_,qJ uK, ?_⟩
  ·rw [vR,qJ uK,show a.length-4=k by omega]
  ·rw [VO,show a.length-4=k by omega]
 have Q:(k:Int)+4<=(c:Int):=uK;have U:=vc k c;obtain⟨F,hi,I,q,J⟩:=qA QB;have Y:=jI _ 5 F 1 qu hi q A (k+4) c k .i64 uK;have l:k<=k+4:=uK;have C:=qj (λW f=>
  Wy A k c _ _ W (T.below f T.pos) ((H.below f).takeN l) f.size uK u)
 have t:Hid ((a.take k).length=k):=by rw [Hid,qh];omega
 have o:=λ(W:World) (f:Below w.heap.size w W)=>(H.below f).takeN l;have i:=λ(W:World) (f:Below w.heap.size w W)=>(H.below f).VC l x;rw [show k+4-k=4 by omega] at i;replace o:=qj o;replace i:=qj i;clear hi I q J ht h y h4 x u;go_in;go_wp2_with fail;go_region_held3 (λw'=>Below w.heap.size w w')
  (first|assumption|exact qZ _ _|(repeat (first|assumption|exact qZ _ _|(with_reducible refine zi ?_ _)|(with_reducible refine Below.drew ?_))))
  (first
   |(go_at_call 57;((with_reducible refine(C.out _ y8).mono ?_);rintro e V ⟨rfl,B⟩;have M:=zX y8 B))
   |(go_at_call 56;((with_reducible refine(ek _ _ (RX _)).mono ?_);rintro e L ⟨Z,O,rfl,m⟩;have S:=zX y8 m.below;have K:=qj m;clear m))
   |(go_at_call 149;((with_reducible refine(bG _ _ _ _ _ _ _ _ _ _ _ (i.out _ y8) K.out.reads uK uK).mono ?_);rintro e p ⟨rfl,r⟩;have g:=Below.trans y8 (r.below _);clear r)))
 rw [<-d.out.2.2];cases j:VO a
 ·have b:Hid (vR a=[]/\QH a=5):=by
   have h:=d.out;rw [j] at h;exact⟨h.1,h.2.1⟩
  clear j;go_wp2;go_ret2;exact⟨_,0,by rw [b.out.1,b.out.2];rfl,by rw [b.out.1];exact⟨qP _ _ _ 1,g⟩⟩
 ·have b:Hid (vR a=a.take k/\QH a=0):=by
   have h:=d.out;rw [j] at h;exact⟨h.1,h.2.1⟩
  clear j;have z:=qj g;have D:=qj (yV A k c _ _ p (o _ g) g.size uK);go_wp2_with fail;refine D.mono ?_;rintro e N ⟨G,E,rfl,v⟩;have s:=qj v;clear v;go_wp2;go_ret2;refine⟨G,E, ?_, ?_⟩
  ·rw [b.out.1,b.out.2,t.out];rfl
  ·rw [b.out.1,t.out];exact⟨qi s.out.1 z.size,zX z s.below⟩
end
end
section
variable {A:q'}{B N b0 base c ch d e k n x:Nat}{b:qn}{wr:World}
section
open Go.RowKit
section
def yY (b:qn) (ch x:Nat):qn:=(b.drop (x*ch)).take ch
def vr (k ch:Nat) (b:qn):List qn:=(List.range k).map (yY b ch)
def mJ (k m ch:Nat) (b:qn):qn:=((pZ k m ch (vr k ch b)).map VY).flatten
def cI (k m ch:Nat) (P:qn) (s:Nat):qn:=((List.range s).map λt=>mJ k m ch ((P.drop (t*(k*ch))).take (k*ch))).flatten
def eP (d:Nat) (b:qn):qn:=b++List.replicate (YA d b.length*d-b.length) 0
def R_ (k m ch:Nat) (b:qn):qn:=cI k m ch (eP (k*ch) b) (YA (k*ch) b)
theorem K_ (a:b.length=N) (c:(x+1)*ch<=N):(yY b ch x).length=ch:=by
 unfold yY;rw [qh,qI,a];rw [ql] at c;omega
theorem V4 (k ch:Nat) (b:qn):(vr k ch b).length=k:=by simp [vr]
theorem tq {i:Nat} (h:i<k):(vr k ch b)[i]? =some (yY b ch i):=by
 unfold vr;rw [qD,jJ h];rfl
theorem uk (c:b.length=k*ch): ∀x∈vr k ch b,x.length=ch:=λx a=>by
 unfold vr at a;obtain⟨t,ht,rfl⟩:=jB.1 a;exact K_ c (zk _ (js.1 ht))
theorem FP {L:Nat}: ∀(l:List qn),(∀x∈l,x.length=L)->l.flatten.length=l.length*L
 |[],_=>s8
 |a::t,h=>by rw [xI,qK,h a (qo ..),FP t (λx b=>h x (qM _ b)),qf,ql,Nat.add_comm]
theorem Sd (k m ch:Nat) (P:qn) (s:Nat):cI k m ch P (s+1)=cI k m ch P s++mJ k m ch ((P.drop (s*(k*ch))).take (k*ch)):=by
 unfold cI;rw [jA,qg,xM];simp
theorem cL (a:1<=d):n<=YA d n*d:=by
 rw [OP a];have h1:=Qe n d;have h2:=xC n (show 0<d by omega);have h3:n/d*d=d*(n/d):=xH _ _;split
 ·rw [ql];omega
 ·omega
theorem mX (a:1<=d):(eP d b).length=YA d b.length*d:=by
 unfold eP;rw [qK,zT];have:=cL (n:=b.length) a;omega
end
theorem Reads.chunk {w:World} (h:Reads w B 1 A N (b.map B8)) (a:(x+1)*ch<=N):Reads w B 1 (A.map (·.add (x*ch))) ch ((yY b ch x).map B8):=by
 have d:=h.len;refine⟨by rw [zH,K_ d a,z_],λk=> ?_⟩;have l:x*ch+ch<=N:=by rw [<-ql];exact a
 obtain⟨g,rfl,f,e⟩:=h.2 uK;refine⟨g.add (x*ch),rfl,by rw [xF];exact f,λj u c=> ?_⟩;rw [QZ];refine e _ u ?_;rw [<-c,qD,qD];congr 1;unfold yY;have i:j<ch:=by
  have:=(vp.1 c).1;rw [zH,K_ d a] at this;exact this
 rw [xZ,qk i,jt]
theorem Dm {W:World} {g:q'} (j:W.ownsRow base 30 1 (.slice g k e) k ((List.finRange k).map λx=>Qc A ch x.val)) (f:Reads W b0 1 A d (b.map B8)) (m:d=k*ch) (h0:b0<=base) (l:base<=W.heap.size) (n:ch<=maxLen):
  zM W b0 base g k e (vr k ch b):=by
 refine zM.AH j (V4 ..) (λi o hi=> ?_) h0 l;have a:i<k:=by
  have:=(vp.1 hi).1;rwa [V4] at this
 rw [tq a] at hi;injection hi with hi;subst hi;have h:(i+1)*ch<=d:=by rw [m];exact zk _ a
 have c:=K_ f.len h;refine⟨A.map (·.add (i*ch)),ch, ?_, ?_⟩
 ·rw [qD,qX (by simpa using a)];simp [Qc,c]
 ·refine⟨by rw [c];exact qx _,n, .inl ?_⟩;rw [c];exact f.chunk h
theorem zM.aside {t:q'} {j:List qn} (h:zM f b0 base A n c j) (h1:b0<=e) (h2:e<base) (d:Aside f wr e t):zM wr b0 base A n c j:=by
 obtain⟨⟨vs,u,q,m⟩,l,h0⟩:=h;have keep: ∀{E:TypeId} {size n' c'':Nat} {A':q'} {ys:List Value},f.ownsRow base E size (.slice A' n' c'') n' ys->wr.ownsRow base E size (.slice A' n' c'') n' ys:=λg=>
  zI g λa k=>by
   have o:=g.lt _ (by rw [k];rfl);exact d.heap _ o.2 uK
 refine⟨⟨vs,keep u,q,λi r hi=> ?_⟩,qv l d.size,h0⟩;obtain⟨Ai,s,q1,q2,q3,b⟩:=m i r hi;refine⟨Ai,s,q1,q2,q3, ?_⟩;rcases b with b|b
 ·exact .inl (b.keep λp v=>zw (d.heap _ uK uK))
 ·exact .inr (keep b)
theorem Reads.aside {a:World} {size:Nat} {e:q'} {b:List Value} (h:Reads a B size A n b) (h1:B<=c) (h2:B<=a.heap.size) (d:Aside a wr c e):Reads wr B size A n b:=
 h.keep λp f=>zw (d.heap _ uK uK)
section
variable {P : Program}
theorem Fu (w:World) {o:Oper} {b:Array Oper} {a:Act} {K:Act->World->Prop} {E:Prop} (u:o.guard=none) (l c:Operand) (t:TypeId) (q:o.op=Op.makeSlice t l c) (base:Nat) (e:TypeId) (i:TypeInfo) (z:Value) (size:Nat) (h1:P.underlying t=some (.slice e)) (h2:P.info? e=some i) (h3:i.zero=some z) (h4:i.size=size) (kl kc:IntKind) (n:Nat) (h:a.eval l= .int kl (n:Int)) (f:a.eval c= .int kc (n:Int)) (k:i.bytes*n<=281474976710656) (m:n<=maxLen) (r:base<=w.heap.size) (j: ∀w',w'.ownsRow base e size (.slice w n n) n (madeCells z.cells (n*size)).toList->w.grownBy w' none->K (a.put o.dst (.slice w n n)) w'):
  if Region.wanted o (yielded b a.tmps)=true then Oper.wp P o a w K Q else E:=by
 have p:Region.wanted o (yielded b a.tmps)=true:=by simp [Region.wanted,u]
 rw [qk p];obtain⟨w',d,s,g⟩:=run_make_full w _ t e i z _ h1 h2 h3 h4 kl kc n k m r;unfold Oper.wp;simp [execOp,q,h,f,d,Result.andThen];exact j _ s g
end
end
end
section
variable {B b:q'}{base' i:Nat}
section
open Go.RowKit
section
variable {W W' W4 : World} {b0 base n c : Nat} {A : q'} {xs : qn} {xss : List qn}
theorem j8.far {c g:Nat} (h:j8 W b0 base A c xs) (h0:b0<=base) (o:base<=W.heap.size) (q:base<=g) (ht: ∃i d E,W.heap[g]? =some (.cells i E d)/\E≠5) (f: ∀k,k<W.heap.size->k≠g->W'.heap[k]? =W.heap[k]?):j8 W' b0 base A c xs:=by
 obtain⟨h1,h2,h3⟩:=h;obtain⟨i,d,E,j,m⟩:=ht;refine⟨h1,h2, ?_⟩;rcases h3 with h3|h3
 ·exact .inl (h3.keep λp r=>zw (f p.block uK uK))
 ·refine .inr (zI h3 (λa l=> ?_))
  obtain⟨s,n,b⟩:=jV h3 a.block (by rw [l];rfl)
  refine f _ (jz b) (λe=> ?_);rw [e,j] at b;injection b with b
  injection b with _ ht
  exact m ht
theorem zM.far {g:Nat} (h:zM W b0 base A n c xss) (j:base<=g) (l:A.map (·.block)≠some g) (ht: ∃r p E,W.heap[g]? =some (.cells r E p)/\E≠5) (f: ∀k,k<W.heap.size->k≠g->W'.heap[k]? =W.heap[k]?) (q:W.heap.size<=W'.heap.size):zM W' b0 base A n c xss:=by
 obtain⟨⟨vs,h1,h2,h3⟩,d,h0⟩:=h;refine⟨⟨vs,zI h1 (λa b=> ?_),h2,λi xs hi=> ?_⟩,qv d q,h0⟩
 ·obtain⟨v,u,t⟩:=jV h1 _ (by rw [b];rfl);exact f _ (jz t) (λe=>l (by rw [b];show some a.block=_;rw [e]))
 ·obtain⟨Ai,o,s,m⟩:=h3 i _ hi;exact⟨_,o,s,m.far h0 d j ht f⟩
theorem Fk {W b:World} (a:W.grownBy b none):Below W W b:=⟨a.os,a.tape,a.output,a.size,λk c=>a.block k c s8⟩
theorem zM.beside {p:List Value} (h:zM W b0 base A n c xss) (f:W.ownsRow base' 30 1 (.slice b i j) i p) (e: ∀g,b.map (·.block)=some g->A.map (·.block)≠some g) (m:base<=base') (d:W.grownBy W4 (b.map (·.block))):zM W4 b0 base A n c xss:=by
 cases b with
 |none=>exact h.below (Fk d)
 |some a=>
  obtain⟨r,q,l⟩:=jV f _ rfl;exact h.far (qv m (f.lt _ rfl).1) (e _ rfl) ⟨r,q,_,l,FV⟩ (λk o e=>d.block k o (by simpa using e)) d.size
theorem j8.beside {e f:Nat} {m:List Value} (h:j8 W b0 base A e xs) (h0:b0<=base) (d:base<=W.heap.size) (c:W.ownsRow base' 30 1 (.slice b f i) f m) (j:base<=base') (g:W.grownBy W4 (b.map (·.block))):j8 W4 b0 base A e xs:=by
 cases b with
 |none=>exact h.below h0 d (Fk g)
 |some a=>
  obtain⟨o,n,q⟩:=jV c _ rfl;exact h.far h0 d (qv j (c.lt _ rfl).1) ⟨o,n,_,q,FV⟩ (λk l p=>g.block k l (by simpa using p))
def Vy (A B:q'):Prop:= ∀g,A.map (·.block)=some g->B.map (·.block)≠some g
theorem Vy.sym {A:q'} (h:Vy A B):Vy B A:=λg h1 h2=>h g h2 h1
theorem Vy.grow {A:q'} {W:World} (h:Vy A B) (c: ∀g,B.map (·.block)=some g->g<W.heap.size) (a:JU W A b):Vy b B:=λg h1 h2=>by
 rcases a with a|a
 ·exact h g (a▸h1) h2
 ·rw [a] at h1
  injection h1 with h1
  have:=c g h2;omega
theorem Fp {E:TypeId} {size n c base:Nat} {vs:List Value} (h:W.ownsRow base E size (.slice B n c) n vs): ∀g,B.map (·.block)=some g->g<W.heap.size:=λg a=>(h.lt g (by rw [jH];exact a)).2
end
section
structure mZ (q n1:Nat) (all:List qn) (fl:List Bool) (nw:List qn):Prop where
 fl_len:fl.length=q
 nw_len:nw.length=q
 same: ∀x,fl.getD x false=true->nw.getD x []=all.getD x []
 count:(Q6 fl q).length+n1=q
end
end
end
section
variable {A:q'}{W b:World}{c g t:Nat}
section
open Go.RowKit
theorem dK {P:Program} {w:World} {C:Array Oper} {rest:List Oper} {o:Oper} {a:Act} (p:o.guard=none) (d s:Operand) (f j:TypeId) (t:o.op= .call {callee:= .builtin .copy,args:= #[d,s],argTypes:= #[f,j]}) (elem:TypeId) (k:P.underlying f=some (.slice elem)) (l:(P.info? elem).map (·.size)=some 1) (A:q') (N c base:Nat) (v:List Value) (x:a.eval d= .slice A N c) (i:w.ownsRow base elem 1 (.slice A N c) N v) (r:q') (n y:Nat) (M:n<=N) (E:a.eval s= .slice r n y) (B:Nat) (b:List Value) (z:Reads w B 1 r n b) (h1: ∀u∈b,u.oneCell'=true) (h: ∀w',w'.ownsRow base elem 1 (.slice A N c) N (b++v.drop n)->w.grownBy w' (A.map (·.block))->wpList P C Q rest (a.put o.dst (goInt n)) w'):
  wpList P C Q (o::rest) a w:=by
 have e:b.length=n:=by have:=z.1;omega
 have J:Nat.min n N=n:=vZ M;by_cases h0:n=0
 ·subst h0;obtain rfl:b=[]:=zl e;refine wpList_copy_nothing p d s f j t elem k l _ _ _ _ _ _ x E s8 ?_;exact h w (by simpa using i) (fO w _)
 ·obtain⟨L,rfl,_,F⟩:=z.2 uK;rcases i.2 with⟨_,U⟩|⟨g,cap,cur,I,R,q,K,H,m,D⟩
  ·omega
  ·injection I with O _ G;subst G;subst O;rw [z_] at m D;have S:cur.toList.length=c:=by rw [Q9];exact m
   refine wpList_copy_own p d s f j t elem k l g 0 _ c L _ y x E cur elem q b (by rw [e];exact J.symm) F (by rw [e];omega) h1 ?_;rw [e];refine h _ ⟨?_,Or.inr ⟨g,c,_,rfl,R,setRow_heap w g cur _ elem (0,0) q,K,H, ?_, ?_⟩⟩ (Ux w g _)
   ·have T:=i.1;rw [qK,qI];omega
   ·simp only [xd,qK,qh,qI,z_];omega
   ·rw [z_];show(cur.toList.take 0++(b++cur.toList.drop (0+n))).take N=_;rw [<-D,vG,xY,jL,List.take_append,e,qH uK,List.drop_take]
theorem FD:(prog.info? 5).map (·.size)=some 1:=AL
theorem Ij {d n:Nat} (a:1<=d):YA d n*d<=n+d:=by
 unfold YA;have:=Nat.div_mul_le_self (n+d-1) d;omega
theorem Aside.trans {d:World} {c:q'} (h1:Aside d W g A) (h2:Aside W b g c):Aside d b g c:=
 ⟨qv h1.size h2.size,λk a e=>(h2.heap k (qB a h1.size) e).trans (h1.heap k a e),λk a=>(h2.row k a).imp id λh=>qv h1.size h⟩
theorem Aside.grow {j:q'} (h:Aside f W c A) (i:W.grownBy b (A.map (·.block))) (l:JU W A j):Aside f b c j:=by
 refine⟨qv h.size i.size,λg k d=>(i.block g (qB k h.size) (λe=> ?_)).trans (h.heap g k d),λg a=> ?_⟩
 ·rcases h.row g e.symm with h0|h0
  ·exact d h0
  ·omega
 ·rcases l with h0|h0
  ·exact h.row g (h0▸a)
  ·rw [h0] at a;injection a with a;exact .inr (a▸h.size)
theorem Aside.here (h: ∀k,A.map (·.block)=some k->k=g\/W.heap.size<=k):Aside W W g A:=⟨qx _,λ_ _ _=>rfl,h⟩
theorem Aside.Ix {d:World} {f:q'} (h1:Aside b W g A) (h2:Aside W d c f) (j:c=g\/b.heap.size<=c):Aside b d g f:=
 ⟨qv h1.size h2.size,λk a i=>(h2.heap k (qB a h1.size) uK).trans (h1.heap k a i),λk a=>(h2.row k a).elim (λe=>uK) λh=> .inr (qv h1.size h)⟩
theorem Aside.cell {a:World} (h:Aside a W g A) {p:Addr} (c:p.block<g) (b:g<=a.heap.size):W.cell? p=a.cell? p:=zw (h.heap _ uK uK)
def ba (A:q') (g:Nat):Nat:=(A.map (·.block)).getD g
theorem tj {g k:Nat} (h:A.map (·.block)=some k):k=ba A g:=by unfold ba;rw [h];rfl
theorem eu (A:q') (g:Nat):ba A g=g\/A.map (·.block)=some (ba A g):=by
 unfold ba;cases h:A.map (·.block) with
 |none=>exact .inl rfl
 |some k=>exact .inr rfl
def c_:Value->Nat
 | .slice _ n _=>n
 |_=>0
structure Shp (k m ch n S d L N T:Nat):Prop where
 k1:1<=k
 km:k+m<=255
 c1:1<=ch
 c2:ch<=4096
 n2:n<=8388608
 hS:S=YA (k*ch) n
 hd:d=k*ch
 hL:L=(k+m)*(ch+4)
 hN:N=S*d
 hT:T=S*L
 t2:T<=16777216
section
variable {k m ch n S d L N T : Nat} (h : Shp k m ch n S d L N T)
include h
theorem Shp.d1:1<=d:=by rw [h.hd];exact V2 h.k1 h.c1
theorem Shp.d2:d<=1044480:=by rw [h.hd];exact cm (by have:=h.km;omega) h.c2
theorem Shp.S2:S<=8388608:=by rw [h.hS];exact qv (mj (V2 h.k1 h.c1)) h.n2
theorem Shp.nN:n<=N:=by rw [h.hN,h.hS,h.hd];exact cL (V2 h.k1 h.c1)
theorem Shp.N2:N<=9433088:=by
 have h1:=Ij (n:=n) (V2 h.k1 h.c1);have h2:=h.d2;rw [h.hN,h.hS,h.hd];rw [h.hd] at h2;have:=h.n2;omega
theorem Shp.dN (ht:t<S):t*d+d<=N:=by rw [h.hN,<-ql];exact zk _ ht
theorem Shp.LT (ht:t<S):t*L+L<=T:=by rw [h.hT,<-ql];exact zk _ ht
end
theorem Iv {d n:Nat} {b:qn} (a:b.length=n):(b.map B8++(List.replicate (YA d n*d) (Value.int .u8 0)).drop n)=(eP d b).map B8:=by
 unfold eP;rw [qg,yP,a,JC];rfl
theorem Iy (k m ch n S d L N T:Nat) (A:Option Addr) (c:Nat) (bs:List UInt8) (w:World) (a:Shp k m ch n S d L N T) (ht:Tab w) (hr:Reads w w.heap.size 1 A n (bs.map B8)) (hnc:n<=c) (hcm:c<=maxLen):
  Calls prog 38 #[k,m,ch, .slice A n c] w (U8 5 w T (R_ k m ch bs) 0):=by
 have hok:kA k m ch n=true:=iQ a.k1 a.km a.c1 a.c2 a.n2;have hsz:kM k m ch n=T:=by unfold kM;rw [a.hT,a.hS,a.hL]
 have hse:=UK hok (by rw [hsz];exact a.t2)
 have KSz:Hid (Calls prog 64 #[k,m,ch,n] w (Ri w T 0)):=by
  have:=Uk k m ch n w;rw [hse.1,hse.2,hsz] at this;exact this
 unfold Ri at KSz;have KN:Hid (∀W,Calls prog 65 #[.agg #[k,m,ch],n] W λe w'=>e= .returned S/\Below W.heap.size W w'):=λW=>by rw [a.hS];exact di k m ch n W (by have:=a.km;omega) a.c2 a.k1 a.c1 a.n2
 have KD:Hid (∀W,Calls prog 66 #[.agg #[k,m,ch]] W λe w'=>e= .returned d/\Below W.heap.size W w'):=λW=>by rw [a.hd];exact eZ k m ch W (by have:=a.km;omega) a.c2
 have d1:=a.d1;have d2:=a.d2;have N2:=a.N2;have nN:=a.nN;have S2:=a.S2;have t2:=a.t2;have b:=qj a;have hmul:IntKind.i64.wrap ((S:Int)*(d:Int))=(N:Int):=by rw [<-zB,<-a.hN,qU];omega
 have TB:=qj (λW (h:Below w.heap.size w W)=>ht.below h ht.pos);have RB:=qj (λW (h:Below w.heap.size w W)=>hr.below h);have BL:Hid (bs.length=n):=hr.len;have PADE:Hid (bs.map B8++((madeCells (Value.int .u8 0).cells N).toList).drop n=(eP d bs).map B8):=by
  show bs.map B8++((madeCells #[Value.int .u8 0] N).toList).drop n=_
  rw [xf,a.hN,a.hS,a.hd];exact Iv hr.len
 obtain⟨i0,hi,O',p',hz2⟩:=qA xR;replace hi:=qj hi;replace O':=qj O';replace p':=qj p';replace hz2:=qj hz2;clear a ht hr hok hsz hse;obtain⟨i1,hi1,hy0,hy1,hy2⟩:=qA Zz;replace hi1:=qj hi1;replace hy0:=qj hy0;replace hy1:=qj hy1;replace hy2:=qj hy2;go_enter func38,ntmps38
 go_wp2_with fail;refine KSz.mono ?_;rintro e w1 ⟨rfl,M'⟩;replace M':=qj M'
 go_wp2_with fail;have Q:=Blk.new w1 108 #[k,m,ch];have hB2:=qj (zX M' (Vn w1 k m ch));have hg12:w.heap.size<=w1.heap.size:=M'.size;generalize w1.alloc (.cells #[k,m,ch] 108)=w2 at*
 generalize w1.heap.size=r at*
 have SB:Hid (∀W,Below w2 w2 W->W.cell? r=some (k:Value)/\W.cell? ⟨r,1,none⟩=some (m:Value)/\W.cell? ⟨r,2,none⟩=some (ch:Value)):=λW h=>⟨(Q.below h Q.lt).cell 0,(Q.below h Q.lt).cell 1,(Q.below h Q.lt).cell 2⟩;have hglt:=Q.lt;clear Q M' KSz;have hc:=SB.out w2 (qZ _ _);refine zv 9 (λW=>W.cell? r=some (k:Value)/\W.cell? ⟨r,1,none⟩=some (m:Value)/\W.cell? ⟨r,2,none⟩=some (ch:Value)) AL (SB.out _ (qZ _ _).drew) (λhHeld=> ?_);refine zq [0,1,2,4] (a':= ?_) ?_;refine carried 3 rfl AL SQ (λK O=> ?_);go_simp
 (go_at_call 65;((with_reducible refine(KN.out _).mono ?_);rintro e w3 ⟨rfl,hB3⟩);have HB3:=qj (zX (qZ _ w2).drew hB3);clear hB3)
 refine O _ _ ((SB.out _ HB3)) (λhHeld=> ?_);clear O K;try simp only [Act.put,qQ,qY,qV]
 refine carried 5 rfl AL SQ (λK O=> ?_);go_simp
 (go_at_call 66;((with_reducible refine(KD.out _).mono ?_);rintro e w4 ⟨rfl,hB4⟩);have m':=qj (zX HB3.out hB4);clear hB4)
 refine O _ _ ((SB.out _ m')) (λhHeld=> ?_);clear O K;try simp only [Act.put,qQ,qY,qV]
 refine zq [6] (a':= ?_) ?_;refine QY 7 rfl AL (λK O=> ?_)
 (refine Fu w4 SQ _ _ _ SQ w.heap.size 5 i0 (.int .u8 0) 1 qu hi O' p' .i64 .i64 N SQ SQ (by rw [hz2.out];omega) SJ (qv hB2.size m'.size) ?_;intro w5 G u';have U:=m'.grown u' m'.size (λk f=>by cases f))
 refine O _ _ ((SB.out _ U)) (λhHeld=> ?_);clear O K;try simp only [Act.put,qQ,qY,qV]
 refine zq [8] (a':= ?_) ?_;refine zV AL ?_ _;rw [z_] at G;have HBw5:=qj (zX hB2 U);have HB5':=qj U;have hg13:w2.heap.size<=w4.heap.size:=m'.size;have hg13b:w.heap.size<=w4.heap.size:=qv hB2.size hg13;replace G:=qj G;clear hHeld hc u' U HB3 m' hmul KN;generalize w4.heap.size=g13 at*
 have hRB:=RB.out _ HBw5.out
 go_wp2_with (first
  |(refine dK rfl (.tmp 44) (.tmp 45) 30 30 rfl 5 qu FD (some ⟨g13,0,none⟩) N N w.heap.size _ rfl G A n c nN rfl w.heap.size _ hRB (row_one hRB) ?_;intro w6 ho6 hg6;have S':=qj (HB5'.grown hg6 HB5'.size (λk f=>by injection f with f;subst f;exact hg13));have N':=qj (HBw5.grown hg6 HBw5.size (λk f=>by injection f with f;subst f;exact hg13b));rw [PADE.out] at ho6;replace ho6:=qj ho6;clear hg6 G hRB)
  |(at_make;refine QA _ rfl _ _ 30 rfl w.heap.size 5 i0 (.int .u8 0) 1 qu hi O' p' .i64 .i64 _ T rfl rfl rfl (by rw [hz2.out];omega) SJ N'.size ?_;intro I OX U';have HB7:=qj (S'.grown U' S'.size (λk f=>by cases f));have HBw7:=qj (N'.grown U' N'.size (λk f=>by cases f));have HR7:Hid (Reads I w6 1 (some ⟨g13,0,none⟩) N ((eP d bs).map B8)):=(Reads.zY ho6).keep λp hp=>zw (U'.block p.block hp s8);have HL7:=qj U'.size;have HG:=qj (qv S'.size (qx _));replace OX:=qj OX;clear U'))
 have hg14:w2.heap.size<=w6.heap.size:=S'.size;have hg14b:w.heap.size<=w6.heap.size:=N'.size;have E:w6.heap.size<=I.heap.size:=HL7.out;have hg14lt:w6.heap.size<I.heap.size:=(OX.lt _ rfl).2;generalize w6.heap.size=g at*
 obtain⟨P,hP⟩: ∃P,eP d bs=P:=⟨_,rfl⟩;rw [hP] at HR7;have PL:Hid (P.length=S*(k*ch)):=by
  have s:=b.out;rw [Hid,<-hP,s.hd,mX (by rw [<-s.hd];exact d1),BL.out,<-s.hS]
 have LAY:Hid (cI k m ch P S=R_ k m ch bs):=by
  have s:=b.out;unfold R_;rw [BL.out,<-s.hd,hP,s.hd,<-s.hS];exact qj rfl
 replace hP:=qj hP;have SA:Hid (∀W i,Aside I W g i->W.cell? r=some (k:Value)/\W.cell? ⟨r,1,none⟩=some (m:Value)/\W.cell? ⟨r,2,none⟩=some (ch:Value)):=λW i h=>by
  obtain⟨q0,q1,q2⟩:=SB.out I HB7.out;exact⟨(h.cell (by show r<g;omega) E).trans q0,(h.cell (by show r<g;omega) E).trans q1,(h.cell (by show r<g;omega) E).trans q2⟩
 clear HB7 SB;clear S' N' HB5' HBw5 ho6 HL7 HG PADE RB
 go_wp2_with fail;go_loopw [13,14] (λv13 v14 wr=> ∃(t R M y G':Nat) (o i:Option Addr),v13= .slice o R y/\v14= .slice i M G'/\t<=S/\R<=y/\y<=9433088/\M<=16777216/\Hid (R+t*d=N)/\Hid (M=t*L)/\Hid (Aside I wr g i)/\Hid (Below w.heap.size w wr)/\Hid (Reads wr g 1 o R ((P.drop (t*d)).map B8))/\Hid (wr.ownsRow w.heap.size 5 1 (.slice i M G') M ((cI k m ch P t).map B8))) (λv13 _ _=>c_ v13)
 case atStart=>exact⟨0,N,0,N,T,_,_,rfl,rfl,uK,uK,uK,uK,by show N+0*d=N;rw [jd];rfl,by show 0=0*L;rw [jd],⟨qx _,λ_ _ _=>rfl,λk f=>by injection f with f;exact .inl f.symm⟩,HBw7,by rw [jd,Zy];exact HR7,by simpa [Hid,cI] using OX.out⟩
 case round=>
  clear HBw7 HR7 OX;obtain⟨t,R,M,y,G',o,i,rfl,rfl,htS,hRc,hc13,hM,HRN,HM,HA,HB,HR,HO⟩:=hrel;by_cases hlt:t<S
  ·have hdN:=b.dN hlt
   have hLT:=b.out.LT hlt;have hRd:d<=R:=by have:=HRN.out;omega
   have hR0:(0:Int)<(R:Int):=uK;have hR0n:0<R:=uK;have hdc:(d:Int)<=(y:Int):=uK;have z':(0:Int)<=(d:Int):=uK;have hcc:=SA.out wr _ HA.out;clear hdN
   go_wp2_with fail;refine(KD.out _).mono ?_;rintro e z ⟨rfl,I'⟩;have hwr:I.heap.size<=wr.heap.size:=HA.size;have HRa:Hid (Reads z g 1 o R ((P.drop (t*d)).map B8)):=HR.below (I'.mono uK)
   replace I':=qj I';clear hcc
   go_wp2_with fail;have CH1:=b.c1;refine(bH o d y ch _ CH1).mono ?_;rintro e D ⟨rfl,N6⟩;have hbb:Below z z D:=by rw [<-N6];exact((qZ _ _).alloc (qx _) _).alloc s8 _
   have cb1:D.cell? z.heap.size=some (.slice o d y):=by
    rw [<-N6,World.cell?_alloc_lt _ _ _ s8];exact(Boxed.new z 30 (.slice o d y)).cell
   have cb2:D.cell? ↑(z.heap.size+1)=some (ch:Value):=by
    rw [<-N6];simp
   have hbs:D.heap.size=z.heap.size+1+1:=by rw [<-N6];simp
   have HBb:=qj (zX I' hbb);have HRb:Hid (Reads D g 1 o d (((P.drop (t*d)).take d).map B8)):=(HRa.below (hbb.mono (qv (qv E hwr) I'.size))).takeN hRd;have KC:=qj (eY z (z.heap.size+1) o d y ch k b.hd CH1 (qv hRd hRc) uK (by have:=b.km;omega) D cb1 cb2 uK uK)
   have hbl:wr.heap.size<=D.heap.size:=HBb.size;clear N6 hbb cb1 cb2 hbs I' HRa CH1;generalize dY z (z.heap.size+1)=fv at*
   go_wp2_with fail;refine KC.mono ?_;rintro e wc ⟨v,rfl,hoc,N9⟩;obtain⟨Ac,cc,rfl⟩:=Hq hoc;have X':zM wc g D Ac k cc (vr k ch ((P.drop (t*d)).take d)):=Dm hoc (HRb.below (N9.mono (qv (qv E hwr) hbl))) b.hd (qv (qv E hwr) hbl) N9.size (by have:=b.c2;unfold maxLen;omega)
   have HBc:=qj (zX HBb N9);have hbl2:D.heap.size<=wc.heap.size:=N9.size;generalize D.heap.size=bl at*
   have hPd:((P.drop (t*d)).take d).length=d:=by
    have:=HRb.len;omega
   have hparts: ∀x∈vr k ch ((P.drop (t*d)).take d),x.length=ch:=uk (by rw [hPd];exact b.hd)
   have hone:Hid (((pZ k m ch (vr k ch ((P.drop (t*d)).take d))).map VY).flatten=mJ k m ch ((P.drop (t*d)).take d)):=rfl;have hpl:=V4 k ch ((P.drop (t*d)).take d);have hall: ∀x∈pZ k m ch (vr k ch ((P.drop (t*d)).take d)),x.length=ch:=N8 hparts;have halln:(pZ k m ch (vr k ch ((P.drop (t*d)).take d))).length=k+m:=N7 hpl;have hallE:pZ k m ch (vr k ch ((P.drop (t*d)).take d))=vr k ch ((P.drop (t*d)).take d)++yH m k ch (Vq k) (vr k ch ((P.drop (t*d)).take d)):=rfl;have hmay:kD (k:Int) (m:Int)=true:=by have:=b.km;have:=b.k1;unfold kD;exact qw uK
   have hpar:=cW (p:=m) hmay b.k1 hpl hparts;have KP:=FJ (m:Int) Ac k cc _ wc X'.XB (by have:=b.km;omega) (λx hx=>by rw [hparts x hx];have:=b.c2;omega)
   rw [hpar.1,hpar.2,x_] at KP;unfold wI at KP;generalize vr k ch ((P.drop (t*d)).take d)=X at*
   generalize yH m k ch (Vq k) X=Y at*
   generalize hV:pZ k m ch X=V at*
   replace hV:=qj hV;replace hallE:=qj hallE;replace hall:=qj hall;replace halln:=qj halln;replace KP:=qj KP;replace X':=qj X';clear hoc N9 HBb KC hpar hparts HRb hPd hpl
   go_wp2_with fail;refine KP.mono ?_;rintro e wd ⟨Ay,cy,rfl,hly,hBd⟩;have HBd:=qj (zX HBc hBd);have hbd:bl<=wd.heap.size:=qv hbl2 hBd.size;obtain⟨⟨vd,J',hd2,hd3⟩,iL,z'⟩:=X'.below hBd;obtain⟨⟨vy,Y',hy2',Q'⟩,hyb,hy0'⟩:=hly.Vg (b0':=g) (base':=bl) (qp _) z' hbl2;have hyl:vy.length=m:=by have:=Y'.1;omega
   have hyo:=qj (mz (hyl.trans hy2'.symm) Q');have hcp1:k+m<=maxLen:=by have:=b.km;unfold maxLen;omega
   have hcp2:(k+m)*24<=140737488355328:=by have:=b.km;omega
   replace J':=qj J';replace hd2:=qj hd2;replace hd3:=qj hd3;replace iL:=qj iL;replace z':=qj z';replace Y':=qj Y';replace hy2':=qj hy2';replace Q':=qj Q';replace hyb:=qj hyb;replace hy0':=qj hy0';replace hyl:=qj hyl;clear hly hBd HBc X' KP
   go_wp2_with (at_builtin;refine qF _ rfl (.tmp 65) (.tmp 66) 87 rfl bl 30 i1 (.slice none 0 0) 1 24 jr hi1 hy0 hy1 hy2 rfl uK Ac k cc _ rfl J' wd Ay m cy _ rfl (Reads.zY Y') hyo hcp1 hcp2 iL ?_;intro A4 c4 J ho4 H _hsq;have Z:Below wr.heap.size wr J:=HBd.grown H (qv hbl iL) (λq B=>qv hbl (J'.lt q (by rw [jH];exact B)).1);have Z':=zM.cat J'.out hd2 hd3 z' iL hyl hy2' Q' ho4 H;replace Z:=qj Z;replace Z':=qj Z';clear ho4 H _hsq)
   rw [<-hallE.out] at Z';clear J' hd2 hd3 iL z' Y' hy2' Q' hyb hy0' hyl hyo hcp1 hcp2 HBd hallE;obtain⟨C,H⟩: ∃C,ba i g=C:=⟨_,rfl⟩;have hgo:C=g\/I.heap.size<=C:=by
    rcases eu i g with e|e
    ·exact .inl (H▸e)
    ·rw [H] at e;exact HA.row C e
   have hgq1:g<=C:=uK;have hgq2:C<bl:=by
    rcases eu i g with e|e
    ·rw [<-H,e];omega
    ·rw [H] at e
     have:=(HO.lt C (by rw [jH];exact e)).2
     omega
   have HAe:=qj (HA.below Z);have HAx:Hid (Aside J J C i):=Aside.here λq B=> .inl (H▸tj B);have HBe:=qj (zX HB Z);have HOe:Hid (J.ownsRow w.heap.size 5 1 (.slice i M G') M ((cI k m ch P t).map B8)):=qG HO Z.out;have HRe:Hid (Reads J g 1 o R ((P.drop (t*d)).map B8)):=HR.below (Z.mono (qv E hwr));have hwe:I.heap.size<=J.heap.size:=HAe.size;have ROW:=qj (λ(W:World) (F:Option Addr) (h:Aside J W C F) (j:Nat) (hj:j<k+m)=>(Z'.aside hgq1 hgq2 h).XB.row hj);have VL:Hid (∀x∈V,x.length=ch):=hall.out;have VN:Hid (V.length=k+m):=halln.out;have VONE:Hid ((V.map VY).flatten=mJ k m ch ((P.drop (t*d)).take d)):=hone.out;have TBw:=qj (λW (h:Below w.heap.size w W)=>TB.out W h);have hkm:k+m<=255:=b.km;have CH1:=b.c1;have CH2:=b.c2;obtain⟨q,B⟩: ∃q,k+m=q:=⟨_,rfl⟩;have hML:M+q*(ch+4)<=16777216:=by
    have h1:=HM.out;have h2:=b.hL;rw [B] at h2;rw [h2] at hLT;rw [h1,h2];omega
   rw [B] at ROW VN hkm;clear HA HB HO HR Z Z' hall halln hone hV;replace B:=qj B
   go_wp2_with fail;go_loopw [69,14] (λv69 v14 wx=> ∃(j l cq:Nat) (F:Option Addr),v69=(j:Value)/\v14= .slice F l cq/\j<=q/\l<=16777216/\Hid (l=M+j*(ch+4))/\Hid (Aside J wx C F)/\Hid (Below w.heap.size w wx)/\Hid (wx.ownsRow w.heap.size 5 1 (.slice F l cq) l ((cI k m ch P t++((V.take j).map VY).flatten).map B8))) (λv69 _ _=>q-(intOf v69).toNat)
   case atStart=>exact⟨0,M,G',i,rfl,rfl,qp _,hM,by show M=M+0*(ch+4);rw [jd];rfl,HAx,HBe,by simpa [Hid] using HOe.out⟩
   case round=>
    clear HBe HOe HAx;obtain⟨j,l,cq,F,rfl,rfl,hjq,hMq,HMq,d',HBq,P'⟩:=hrel;by_cases hlt2:j<q
    ·have hlt2n:j<k+m:=by rw [B.out];exact hlt2
     have hlt2':(j:Int)<(k:Int)+(m:Int):=uK;have hjb:j<=255:=uK;obtain⟨ad,xs,Ai,ni,ci,hAd,-,hx,hcell,hnic,hcim,hrow⟩:=ROW.out wr F d' j hlt2;subst hAd;have TK:Hid (V.take (j+1)=V.take j++[xs]):=by rw [Hid,qs,hx];rfl
     have hxl:=VL.out xs (zQ hx);have hni:ni=ch:=by have:=hrow.len;omega
     rw [hni] at hcell hnic hrow;have KPut:=qj (XI Ai ch ci wr.heap.size xs wr (TBw.out wr HBq) hrow (qx _) hnic hcim uK);have hMn:l+(ch+4)<=16777216:=by
      have:=HMq.out;have h2:(j+1)*(ch+4)<=q*(ch+4):=zk _ hlt2;rw [ql] at h2;omega
     clear hx hrow hML;unfold jQ at KPut
     go_wp2_with fail;refine KPut.mono ?_;rintro e wp ⟨Ap,cp,rfl,D'⟩;have HAp:=qj (d'.below D'.2);have HBp:=qj (zX HBq D'.2);have HOp:=qj (qG P' D'.2);have HRp:=qj D'.reads;have ONE:Hid (∀u∈(VY xs).map B8,u.oneCell'=true):=row_one D'.reads;have hMx:l+(ch+4)<=maxLen:=SJ
     have hMy:(l+(ch+4))*1<=140737488355328:=uK;have hszp:w.heap.size<=wp.heap.size:=HBp.size;clear D' KPut hcell d' HBq P'
     go_wp2_with (at_builtin;refine qF _ rfl (.tmp 73) (.tmp 75) 30 rfl w.heap.size 5 i0 (.int .u8 0) 1 1 qu hi O' p' hz2 rfl uK F l cq _ rfl HOp wp Ap (ch+4) cp _ rfl HRp ONE hMx hMy hszp ?_;intro A5 c5 w4 G u' hs5;have HA5:=qj (HAp.grow u' hs5);have U:Below w.heap.size w w4:=zG HBp u' HOp hszp;replace U:=qj U;replace G:=qj G;clear u' hs5)
     go_roundw
     case rel=>
      refine⟨j+1,l+(ch+4),c5,A5,by go_num,rfl,uK,hMn, ?_,HA5,U, ?_⟩
      ·show l+(ch+4)=M+(j+1)*(ch+4)
       rw [HMq.out,ql,vo]
      ·have h5:=G.out
       rw [TK.out];simpa [Hid,jY] using h5
     case measure=>simp [intOf];omega
    ·have hge:(k:Int)+(m:Int)<=(j:Int):=by have:=B.out;omega
     have hge2: ¬(j:Int)<(k:Int)+(m:Int):=uK;obtain rfl:j=q:=uK;rw [qH (by rw [VN.out];omega),VONE.out] at P'
     have HA':=qj (HAe.out.Ix d' hgo);have HR':=qj (HRe.aside hgq1 (qv E hwe) d');have hcc:=SA.out wr _ HA'.out;have hd0':(0:Int)<=(d:Int):=uK;have hdR:(d:Int)<=(R:Int):=uK;have hcut:=jI (P:=prog) 30 5 i0 1 qu hi p' o R y d .i64 hRd;have hwer:J.heap.size<=wr.heap.size:=d'.size;clear d' HRe HAe
     go_wp2_with fail;refine(KD.out _).mono ?_;rintro e wz ⟨rfl,hBz⟩;have HAz:=qj (HA'.below hBz);have HBz:=qj (zX HBq hBz);have HOz:=qj (qG P' hBz);have HRz:=qj ((HR'.below (hBz.mono (qv (qv E hwe) hwer))).VC hRd hRc);clear hBz HA' HBq P' HR' hcc
     go_wp2_with fail;go_roundw
     case rel=>
      refine⟨t+1,R-d,l,y-d,cq,xo o y d 1,F,rfl,rfl,uK,uK,uK,hMq, ?_, ?_,HAz,HBz, ?_, ?_⟩
      ·show R-d+(t+1)*d=N
       have:=HRN.out;rw [ql];omega
      ·show l=(t+1)*L
       have h2:=b.hL;rw [B.out] at h2;rw [HMq.out,HM.out,ql,h2]
      ·have h5:=HRz.out
       rw [vh] at h5;rw [ql];exact h5
      ·rw [Sd,<-b.hd];exact HOz.out
     case measure=>simp [c_];omega
  ·have hts:t=S:=uK
   subst hts;have hRz:R=0:=by have:=HRN.out;have:=b.hN;omega
   have hMT:M=T:=by rw [HM.out,b.hT]
   subst hRz;subst hMT;have hR0: ¬(0:Int)<((0:Nat):Int):=uK;have HOl:Hid (wr.ownsRow w.heap.size 5 1 (.slice i M G') M ((R_ k m ch bs).map B8)):=by rw [<-LAY.out];exact HO.out
   clear HO HR HA LAY
   go_wp2_with fail
   go_ret2;exact⟨_,_,rfl,HOl.out,HB.out⟩
end
end
section
variable {o:Nat}
section
open Go.RowKit
structure Lst (W:World) (base:Nat) (A:q') (n c:Nat) (xss:List qn) (O:q'):Prop where
 ex: ∃vs:List Value,W.ownsRow base 30 1 (.slice A n c) n vs/\xss.length=n/\ ∀(i:Nat) (xs:qn),xss[i]? =some xs-> ∃(Ai:q') (ci:Nat),vs[i]? =some (.slice Ai xs ci)/\W.ownsRow base 5 1 (.slice Ai xs ci) xs (xs.map B8)/\Vy Ai O
 bs:base<=W.heap.size
section
variable {W W4 : World} {base n c : Nat} {A O : q'} {xss : List qn}
theorem Lst.nil (W:World) (base:Nat) (O:q') (a:base<=W.heap.size):Lst W base none 0 0 [] O:=⟨⟨_,qP _ _ _ _,rfl,λi b hi=>by simp at hi⟩,a⟩
theorem Lst.below (h:Lst W base A n c xss O) (a:Below W W W4):Lst W4 base A n c xss O:=by
 obtain⟨⟨vs,h1,h2,h3⟩,b⟩:=h;refine⟨⟨vs,qG h1 a,h2,λi e hi=> ?_⟩,qv b a.size⟩;obtain⟨Ai,g,j,f,d⟩:=h3 i e hi;exact⟨_,g,j,qG f a,d⟩
end
theorem Vy.I3 {c O:q'} {g:Nat} (h1: ∀k,c.map (·.block)=some k->g<=k) (h2: ∀k,O.map (·.block)=some k->k<g):Vy c O:=λk a b=>by
 have:=h1 k a;have:=h2 k b;omega
section
theorem tQ {P:qn} {a d ch:Nat} (h:(j+1)*ch<=d):(P.drop (a+j*ch)).take ch=yY ((P.drop a).take d) ch j:=by
 unfold yY;rw [List.drop_take,vh,List.take_take,vZ (by rw [ql] at h;omega)]
end
end
end
section
variable {c o s:qn}{e:Nat->Int}{g:List Bool}{i n t:Nat}{l v:List qn}
section
open Go.RowKit
section
def XS (e:Nat->Int):Nat->Int
 |0=>0
 |t+1=>if XS e t=0 then e t else XS e t
theorem kz: ∀{t:Nat},(∀i,i<t->e i=0)->XS e t=0
 |0,_=>rfl
 |t+1,h=>by
  show(if XS e t=0 then e t else XS e t)=0
  rw [qk (kz λi hi=>h i uK)];exact h t uK
theorem br (h: ∀i,i<t->e i=0) (a:e t≠0): ∀{S:Nat},t<S->XS e S=e t
 |0,b=>uK
 |S+1,b=>by
  show(if XS e S=0 then e S else XS e S)=e t
  by_cases h2:t<S
  ·have:=br h a h2
   rw [qJ (by rw [this];exact a),this]
  ·obtain rfl:t=S:=uK
   rw [qk (kz h)]
def Jd (c:qn):Bool:=decide (QH c=0)
def xL (a:List qn):List Bool:=a.map Jd
def ZY (a:List qn):List qn:=a.map vR
def Ff (q:Nat) (g:List Bool) (l v:List qn):Bool:=(List.range q).any λi=>g.getD i false&&decide (v.getD i []≠l.getD i [])
def csE (k m:Nat) (a:List qn):Int:=if Zm k m (ZY a) (xL a)=0 then(if Ff (k+m) (xL a) (ZY a) (VG k m (ZY a) (xL a))=true then 2 else 0) else Zm k m (ZY a) (xL a)
def csV (k m:Nat) (a:List qn):qn:=((VG k m (ZY a) (xL a)).take k).flatten
def Q2 (k m ch:Nat) (s:qn) (t:Nat):List qn:=vr (k+m) (ch+4) ((s.drop (t*((k+m)*(ch+4)))).take ((k+m)*(ch+4)))
def Y4 (k m ch:Nat) (s:qn) (t:Nat):qn:=((List.range t).map λi=>csV k m (Q2 k m ch s i)).flatten
def Yu (a:Nat) (s:qn) (x:Nat):List Nat:=(List.range x).filter λi=> !Jd (yY s a i)
def Gg (n:Nat) (o:qn):Bool:=(o.drop n).any λx=>decide (x≠0)
def rdE (k m ch n S:Nat) (s:qn):Int:=if XS (λt=>csE k m (Q2 k m ch s t)) S=0 then(if Gg n (Y4 k m ch s S)=true then 2 else 0) else XS (λt=>csE k m (Q2 k m ch s t)) S
def rdV (k m ch n S:Nat) (s:qn):qn:=if rdE k m ch n S s=0 then(Y4 k m ch s S).take n else []
def rdB (k m ch n S:Nat) (s:qn):List Nat:=if rdE k m ch n S s=0 then Yu (ch+4) s (S*(k+m)) else []
theorem SF (h:Jd c=true):4<=c.length/\vR c=c.take (c.length-4):=by
 unfold Jd QH at h;have h:=xD h;unfold vR;by_cases h1:c.length<4
 ·rw [qk h1] at h;exact absurd h FV
 ·rw [qJ h1] at h;rw [qJ h1];by_cases h2:VO c=true
  ·rw [qk h2];exact⟨uK,rfl⟩
  ·rw [qJ h2] at h;exact absurd h FV
theorem mV (h:Jd c=false):vR c=[]:=by
 unfold Jd QH at h;have h:=of_decide_eq_false h;unfold vR;by_cases h1:c.length<4
 ·rw [qk h1]
 ·rw [qJ h1] at h⊢;by_cases h2:VO c=true
  ·rw [qk h2] at h;exact absurd rfl h
  ·rw [qJ h2]
theorem Fg {ch:Nat} (a:c.length=ch+4) (h:Jd c=true):(vR c).length=ch:=by
 rw [(SF h).2,qh];omega
theorem Cq {ch:Nat} (a:c.length=ch+4):(vR c).length<=ch:=by
 cases h:Jd c
 ·rw [mV h];exact qp _
 ·rw [Fg a h];exact qx _
def Hf (k m ch S:Nat) (s:qn):Bool:=(List.range S).all λt=>(Q2 k m ch s t).all Jd
theorem qqH {k m ch S:Nat} (h:Hf k m ch S s=true) (ht:t<S): ∀c∈Q2 k m ch s t,Jd c=true:=xT.1 (xT.1 h t (js.2 ht))
theorem qqx {q:Nat} (h:n<=q):(List.range q).take n=List.range n:=by
 apply zm;intro i;rw [xZ];by_cases hi:i<n
 ·rw [qk hi,jJ uK,jJ hi]
 ·rw [qJ hi,qO SZ]
section
variable {k m ch q : Nat} {cs : List qn}
theorem Pu:(xL cs).length=cs.length:=by simp [xL]
theorem Up:(ZY cs).length=cs.length:=by simp [ZY]
theorem bR (h:cs[i]? =some c):(xL cs)[i]? =some (Jd c):=by unfold xL;rw [qD,h];rfl
theorem eU (h:cs[i]? =some c):(ZY cs)[i]? =some (vR c):=by unfold ZY;rw [qD,h];rfl
theorem qqf (h: ∀c∈cs,Jd c=true):Q6 (xL cs) cs.length=List.range cs.length:=by
 unfold Q6;refine List.filter_eq_self.2 λt ht=> ?_;have ht:=js.1 ht;rw [qd,bR (qX ht)];exact h _ (zx ht)
theorem bT (d: ∀c∈cs,c.length=ch+4):pf (xy (ZY cs) (Q6 (xL cs) cs))=true:=by
 refine ez (L:=ch) λx b=> ?_;unfold xy at b;obtain⟨i,hi,rfl⟩:=jB.1 b;have h1:=iy hi;have h2:=Wq hi;have a:cs[i]? =some cs[i]:=qX _;rw [qd,bR a] at h2;rw [qd,eU a];exact Fg (d _ (zx _)) h2
theorem UP (h1:1<=k) (a:k+m=q) (h:q<=255) (b:cs.length=q) (g: ∀c∈cs,c.length=ch+4):Zm k m (ZY cs) (xL cs)=if(Q6 (xL cs) q).length<k then 12 else 0:=by
 have f:kD (k:Int) (m:Int)=true:=by unfold kD;exact qw uK
 have e:pf (xy (ZY cs) (Q6 (xL cs) (k+m)))=true:=by rw [a,<-b];exact bT g
 by_cases d:(Q6 (xL cs) q).length<k
 ·rw [qk d];exact(A_ f (by rw [Up,b,a]) (by rw [Pu,b,a]) e (by rw [a];exact d)).1
 ·rw [qJ d];exact(FY f (by rw [Up,b,a]) (by rw [Pu,b,a]) e (by rw [a];omega)).1
theorem eD (h1:1<=k) (a:k+m=q) (t:q<=255) (b:cs.length=q) (e: ∀c∈cs,c.length=ch+4) (h0:Zm k m (ZY cs) (xL cs)=0):
  (VG k m (ZY cs) (xL cs)).length=q/\ ∀x∈VG k m (ZY cs) (xL cs),x.length=ch:=by
 have j:kD (k:Int) (m:Int)=true:=by unfold kD;exact qw uK
 have r:pf (xy (ZY cs) (Q6 (xL cs) (k+m)))=true:=by rw [a,<-b];exact bT e
 have f: ¬(Q6 (xL cs) q).length<k:=λf=>by
  rw [UP h1 a t b e,qk f] at h0;exact absurd h0 FV
 have v:=(FY j (by rw [Up,b,a]) (by rw [Pu,b,a]) r (by rw [a];omega)).2;rw [v];have hF:(vu k (xL cs) (k+m)).length=k:=by rw [Wz,a];omega
 have s: ∀x∈xy (ZY cs) (vu k (xL cs) (k+m)),x.length=ch:=λx d=>by
  unfold xy at d;obtain⟨i,hi,rfl⟩:=jB.1 d;have h1:=RN hi;have h2:=N_ hi;have g:cs[i]? =some cs[i]:=qX _;rw [qd,bR g] at h2;rw [qd,eU g];exact Fg (e _ (zx _)) h2
 have o:(Xc k (vu k (xL cs) (k+m)) (xy (ZY cs) (vu k (xL cs) (k+m)))).length=k:=bf (by rw [K8];exact hF);have l:=bg (n:=k) (P:=vu k (xL cs) (k+m)) s (by rw [K8];omega);have u:=cW j h1 o l;rw [u.2];refine⟨by rw [qK,o,x_,a],λx d=> ?_⟩;rcases zt.1 d with h|h
 ·exact l x h
 ·exact V1 _ _ _ _ _ x h
theorem mY {q:Nat} (h: ∀i,i<q->g.getD i false=true->v.getD i []=l.getD i []):Ff q g l v=false:=by
 unfold Ff;rw [List.any_eq_false];intro i hi;have hi:=js.1 hi;simp only [zR,zd,not_and];intro a b;exact b (h i hi a)
theorem Sg {q:Nat} (hi:i<q) (a:g.getD i false=true) (h:v.getD i []≠l.getD i []):Ff q g l v=true:=by
 unfold Ff;rw [ZQ];exact⟨i,js.2 hi,by rw [a,qw h];rfl⟩
end
theorem tZ (a:Nat) (s:qn) (x:Nat):Yu a s (x+1)=Yu a s x++(if Jd (yY s a x)=true then [] else [x]):=by
 unfold Yu;rw [jA,vx];congr 1;cases h:Jd (yY s a x)<;>simp [h]
theorem SG (a:Nat) (s:qn) (x:Nat):(Yu a s x).length<=x:=by
 unfold Yu;exact qv (jN _ _) s8
theorem FG (k m ch:Nat) (s:qn) (t:Nat):Y4 k m ch s (t+1)=Y4 k m ch s t++csV k m (Q2 k m ch s t):=by
 unfold Y4;rw [jA,qg,xM];simp
theorem eF {q b L:Nat} (c:L=q*b) (hi:i<q):yY ((s.drop (t*L)).take L) b i=yY s b (t*q+i):=by
 rw [<-tQ (a:=t*L) (d:=L) (j:=i) (ch:=b) (by rw [c];exact zk _ hi)];unfold yY;rw [Nat.add_mul,Nat.mul_assoc,<-c]
theorem Sh (h: ∀i,n<=i->i<o.length->o[i]? =some 0):Gg n o=false:=by
 unfold Gg;rw [List.any_eq_false];intro x a;obtain⟨i,hi,rfl⟩:=Q8 a;rw [qI] at hi;have h1:=h (n+i) uK uK;rw [List.getElem_drop];rw [qX uK] at h1;injection h1 with h1;simp [h1]
theorem tJ {x:UInt8} (h:o[i]? =some x) (hi:n<=i) (a:x≠0):Gg n o=true:=by
 unfold Gg;rw [ZQ];refine⟨x, ?_,qw a⟩;refine List.mem_iff_getElem?.2 ⟨i-n, ?_⟩;rw [jt,show n+(i-n)=i by omega];exact h
end
end
end
end Go.Proofs.YtfnlfpcfkbdcmaaGreatDoor
