import Derived.Test.YtfnlfpcfkbdcmaaGreatDoorLA
import Derived.Maps.AppendAt
import Derived.RegionTactic
import Derived.OwnWalk
import Derived.Laws.CopyOwn
import Derived.Deep.QuietTactic
import Derived.BigQuiet
import Derived.Deep.RegionHeld3
import Derived.Deep.RegionLaw
import Derived.StillTailTactics
import Derived.Outline
import Derived.Lib.AppendZerosOnto
import Derived.WalkSpells
import Derived.Deep.MidRow
import Derived.Lib.SlBytesConst
import Derived.Maps.OwnSet
import Derived.DeepKeys4
set_option linter.unusedSimpArgs false
set_option linter.unusedVariables false
set_option maxRecDepth 100000
set_option maxHeartbeats 0
open Go.Proofs.Tryz
namespace Go.Proofs.YtfnlfpcfkbdcmaaGreatDoor
section
open Go.RowKit
variable {A:q'}{B B' base c g k n size:Nat}{E e t:TypeId}{b xs:List Value}{bs:qn}{cs:Array Value}{p:Addr}{v:Value}{w w':World}
def B8 (b:UInt8):Value:= .int .u8 (b.toNat:Int)
def I64 (n:Int):Value:= .int .i64 n
theorem xF (a:Addr) (n:Nat):(a.add n).block=a.block:=by unfold Addr.add;split<;>rfl
theorem QZ (a:Addr) (i j:Nat):(a.add i).add j=a.add (i+j):=by
 unfold Addr.add;by_cases hi:i=0<;>by_cases b:j=0<;>simp [hi,b,vo]
def Reads (w:World) (B size:Nat) (A:q') (n:Nat) (b:List Value):Prop:=
 b.length=n*size/\(0<n-> ∃a,A=some a/\a.block<B/\ ∀j u,b[j]? =some u->w.cell? (a.add j)=some u)
theorem Reads.none_:Reads w B size A 0 []:=⟨s8,λh=>absurd h uK⟩
theorem Reads.at_ (h:Reads w B 1 A n xs) (f:k<n): ∃a u,A=some a/\a.block<B/\xs[k]? =some u/\w.cell? (a.add k)=some u:=by
 obtain⟨a,e,d,c⟩:=h.2 uK;have b:k<xs.length:=by have:=h.1;omega
 exact⟨a,_,e,d,qX b,c k _ (qX b)⟩
theorem Reads.keep (h:Reads w B size A n xs) (f: ∀p:Addr,p.block<B->w'.cell? p=w.cell? p):Reads w' B size A n xs:=
 ⟨h.1,λb=>by
  obtain⟨g,e,a,c⟩:=h.2 b;exact⟨g,e,a,λj u d=>(f _ (by rw [xF];exact a)).trans (c j u d)⟩⟩
theorem Reads.more (h:Reads w B size A n xs) (f:B<=B'):Reads w B' size A n xs:=
 ⟨h.1,λa=>by
  obtain⟨c,e,d,b⟩:=h.2 a;exact⟨c,e,uK,b⟩⟩
theorem Reads.below (h:Reads w B size A n xs) (a:Below B w w'):Reads w' B size A n xs:=h.keep λ_ b=>a.cell b
theorem Reads.drew (h:Reads w B size A n xs):Reads w.drew B size A n xs:=h
theorem Reads.drewN (h:Reads w B size A n xs) (k:Nat):Reads (w.drewN k) B size A n xs:=h
theorem Reads.alloc (h:Reads w B size A n xs) (a:B<=w.heap.size) (o:Obj):Reads (w.alloc o) B size A n xs:=h.keep λp b=>World.cell?_alloc_lt w o p uK
theorem Reads.setCell (h:Reads w B size A n xs) (b:B<=p.block) (u:Value):Reads (w.setCell p u) B size A n xs:=
 h.keep λq a=>World.cell?_setCell_other w p q u (λe=>by subst e;omega)
theorem Reads.grown (h:Reads w B size A n xs) {row:Option Nat} (b:w.grownBy w' row) (d:B<=w.heap.size) (a: ∀g,row=some g->B<=g):Reads w' B size A n xs:=
 h.keep λp c=>zw (b.block _ uK (λe=>by have:=a _ e.symm;omega))
theorem Reads.cut (h:Reads w B size A n xs) {cap:Nat} (g:k<=n) (e:n<=cap):
  Reads w B size (if cap=k then A else A.map (·.add (k*size))) (n-k) (xs.drop (k*size)):=by
 refine⟨by rw [qI,h.1,Nat.sub_mul],λf=> ?_⟩;obtain⟨d,rfl,b,a⟩:=h.2 uK;rw [qJ uK];refine⟨d.add (k*size),rfl,by rw [xF];exact b,λj u c=> ?_⟩;rw [QZ];exact a _ u (by rw [<-c,jt])
theorem Reads.take (h:Reads w B size A n xs) (d:k<=n):Reads w B size A k (xs.take (k*size)):=by
 refine⟨by rw [qh,h.1];exact vZ (zk _ d),λf=> ?_⟩;obtain⟨e,rfl,c,b⟩:=h.2 uK;refine⟨e,rfl,c,λj u a=>b j u ?_⟩;rw [xZ] at a;split at a
 ·exact a
 ·cases a
theorem Reads.zY (h:w.ownsRow base e size (.slice A n c) n xs):Reads w w size A n xs:=by
 refine⟨h.1,λb=> ?_⟩;obtain⟨g,cap,a,_,f⟩:=h.form b;have d:A=some ⟨g,0,none⟩:=by injection a
 subst d;exact⟨_,rfl,f,h.cells rfl⟩
theorem yM {w:World} (h:w.cell? p=some v):p.block<w.heap.size:=by
 rcases jE p.block w.heap.size with b|a
 ·exact b
 ·simp [World.cell?,zg a] at h
theorem get_map {a:Type} (f:a->Value) (l:List a) (k:Nat) (u:Value) (h:(l.map f)[k]? =some u): ∃x,l[k]? =some x/\u=f x:=by
 rw [qD] at h;cases b:l[k]?with
 |none=>rw [b] at h;cases h
 |some x=>rw [b] at h;exact⟨x,rfl,by injection h with h;exact h.symm⟩
theorem Reads.byte {w:World} {B n:Nat} {A:q'} (h:Reads w B 1 A n (bs.map B8)) (e:k<n):
  ∃a b,A=some a/\a.block<B/\bs[k]? =some b/\w.cell? (a.add k)=some (.int .u8 (b.toNat:Int)):=by
 obtain⟨a,u,f,d,i,c⟩:=h.at_ e;obtain⟨b,g,rfl⟩:=get_map _ _ k u i;exact⟨a,b,f,d,g,c⟩
theorem Reads.len {w:World} {B n:Nat} {A:q'} {a:Type} {f:a->Value} {bs:List a} (h:Reads w B 1 A n (bs.map f)):bs.length=n:=by
 have:=h.1;simpa using this
def Blk (w:World) (g:Nat) (t:TypeId) (a:Array Value):Prop:=w.heap[g]? =some (.cells a t (0,0))
theorem Blk.lt (h:Blk w g t cs):g<w.heap.size:=by
 rcases jE g w.heap.size with a|b
 ·exact a
 ·unfold Blk at h;rw [zg b] at h;cases h
theorem Blk.cell (h:Blk w g t cs) (i:Nat):w.cell? ⟨g,i,none⟩=cs[i]? :=cell_of_row w g i _ t _ h
theorem Blk.frozen (h:Blk w g t cs) (i:Nat):w.frozen? ⟨g,i,none⟩=false:=by
 unfold Blk at h;simp [World.frozen?,h]
theorem Blk.new (w:World) (t:TypeId) (a:Array Value):Blk (w.alloc (.cells a t)) w t a:=heap_alloc_new w _
theorem Blk.drew (h:Blk w g t cs):Blk w.drew g t cs:=h
theorem Blk.alloc (h:Blk w g t cs) (o:Obj):Blk (w.alloc o) g t cs:=(Below.heap_alloc w o g h.lt).trans h
theorem Blk.zh (h:Blk w g t cs) (i:Nat) (u:Value):Blk (w.setCell ⟨g,i,none⟩ u) g t (cs.setIfInBounds i u):=by
 unfold Blk at h⊢;simp [World.setCell,Array.getElem?_modify,h]
theorem Blk.far (h:Blk w g t cs) (a:g≠p.block) (u:Value):Blk (w.setCell p u) g t cs:=(jT w p u g a).trans h
theorem Blk.below {B:Nat} (h:Blk w g t cs) (b:Below B w w') (a:g<B):Blk w' g t cs:=(b.block g a).trans h
theorem Blk.grown {row:Option Nat} (h:Blk w g t cs) (b:w.grownBy w' row) (a:some g≠row):Blk w' g t cs:=(b.block g h.lt a).trans h
theorem Blk.ne_ {b:TypeId} {d:Array Value} (h:Blk w g t cs) (a:Blk w c b d) (e:t≠b):g≠c:=by
 rintro rfl;unfold Blk at h a;rw [h] at a;injection a with a;injection a with _ ht;exact e ht
theorem Blk.row (h:Blk w g t cs) (a:Array Value):Blk (w.setRow g a) g t a:=setRow_heap w g _ a t _ h
theorem Blk.cQ {a:Nat} (h:Blk w g t cs) (c:g≠a) (b:Array Value):Blk (w.setRow a b) g t cs:=(QO w a g b c).trans h
theorem zu {B:Nat} {a:World} (h:Below B a w) (c:B<=g) (b:Array Value):Below B a (w.setRow g b):=
 h.trans ⟨rfl,rfl,rfl,by rw [Xk];exact qx _,λk d=>QO w g k b uK⟩
def yG (w w':World) (E:TypeId) (A:q') (n c:Nat) (a:List Value):Prop:=w'.ownsRow w E 1 (.slice A n c) n a/\Below w w w'
theorem yG.reads {w w':World} {A:q'} {n:Nat} {a:List Value} (h:yG w w' E A n c a):Reads w' w' 1 A n a:=Reads.zY h.1
theorem yG.below {w w':World} {A:q'} {n:Nat} {a:List Value} (h:yG w w' E A n c a):Below w w w':=h.2
theorem yG.nil (w:World) (E:TypeId):yG w w E none 0 0 []:=⟨qP w _ E 1,qZ _ _⟩
theorem Hq {w:World} {n:Nat} {a:List Value} (h:w.ownsRow base E 1 v n a): ∃A c,v= .slice A n c:=by
 rcases h.2 with⟨rfl,rfl⟩|⟨g,cap,cur,rfl,_⟩
 ·exact⟨_,0,rfl⟩
 ·exact⟨_,_,rfl⟩
theorem jC {w:World} {size n:Nat} {A:q'} {a:List Value} (h:w.ownsRow base E size (.slice A n c) n a):n<=c/\c<=maxLen:=by
 rcases h.2 with⟨h0,h1⟩|⟨g,cap,cur,h0,_,_,h2,h3,_⟩
 ·injection h0 with _ _ h4;subst h4;subst h1;exact⟨qx _,qp _⟩
 ·injection h0 with _ _ h4;subst h4;exact⟨h2,h3⟩
theorem Qv {w w':World} {size n:Nat} (h:w.ownsRow base E size v n b) (d:Below w w w'):w'.ownsRow base E size v n b:=by
 refine⟨h.1, ?_⟩;rcases h.2 with c|⟨g,cap,cur,rfl,h1,h2,h3⟩
 ·exact .inl c
 ·have a:g<w.heap.size:=by
   rcases jE g w.heap.size with a|e
   ·exact a
   ·rw [zg e] at h2;cases h2
  exact .inr ⟨g,cap,cur,rfl,h1,(d.block g a).trans h2,h3⟩
theorem qi {w:World} {base':Nat} {size n:Nat} {a:List Value} (h:w.ownsRow base E size v n a) (c:base'<=base):w.ownsRow base' E size v n a:=by
 refine⟨h.1, ?_⟩;rcases h.2 with b|⟨g,cap,cur,rfl,h1,h2⟩
 ·exact .inl b
 ·exact .inr ⟨g,cap,cur,rfl,qv c h1,h2⟩
theorem aT: ∀(ns:qn) (s:ByteArray),(ns.map (λb=>(b.toNat:Int))).foldl (λr n=>r.push (UInt8.ofNat n.toNat)) s=⟨s.data++ns.toArray⟩
 |[],s=>s8
 |b::ns,s=>by
  rw [jy,List.foldl_cons,aT ns];have e:UInt8.ofNat ((b.toNat:Int).toNat)=b:=s8;rw [e];apply ByteArray.ext;simp [ByteArray.push]
theorem Kf {P:Program} {w:World} {B n:Nat} {A:q'} (k d e:TypeId) (s:P.underlying k=some (.slice e)) (i:P.underlying e=some (.int .u8)) (r:P.underlying d=some .string) (h:Reads w B 1 A n (bs.map B8)):
  (convert k d (.slice A n c)).run P w= .ok (.string ⟨bs.toArray⟩) w:=by
 rw [run_convert_bytes_string w k d e A n c s i r];have m:=h.len;rcases A with _|a
 ·have h0:n=0:=by
   rcases zA n with h0|h0
   ·exact h0
   ·obtain⟨a,i,_⟩:=h.2 h0;cases i
  have f:bs=[]:=zl uK;subst f;simp [Conv.bytesToString,Sem.run_pure];rfl
 ·have q:(loadCells a n).run P w= .ok ((bs.map (λb=>(b.toNat:Int))).map (Value.int .u8)).toArray w:=by
   have t:(bs.map (λb=>(b.toNat:Int))).map (Value.int .u8)=bs.map B8:=by rw [vC];rfl
   rw [t];have:=run_loadCells_list (P:=P) (w:=w) a (bs.map B8) (λj v l=>by
    have o:0<n:=by
     rcases zA n with h0|h0
     ·have f:bs=[]:=zl uK;subst f;simp at l
     ·exact h0
    obtain⟨u,g,_,p⟩:=h.2 o;injection g with g;subst g;exact p j v l)
   rwa [zH,m] at this
  rw [run_bytesToString w a n c _ q,aT];simp
def Dr (w w':World):Prop:= ∃m,w'=w.drewN m
theorem Dr.refl (w:World):Dr w w:=⟨0,rfl⟩
theorem Dr.drewN {a w:World} (h:Dr a w) (n:Nat):Dr a (w.drewN n):=by
 obtain⟨m,rfl⟩:=h;exact⟨_,by rw [World.drewN_drewN]⟩
theorem Dr.trans {a b c:World} (h:Dr a b) (k:Dr b c):Dr a c:=by
 obtain⟨m,rfl⟩:=k;exact h.drewN m
theorem Dr.reads {a w:World} (h:Dr a w) {B size n:Nat} {A:q'} (r:Reads a B size A n b):Reads w B size A n b:=by
 obtain⟨m,rfl⟩:=h;exact r.drewN m
end
section
open Go.RowKit
variable {E e:TypeId}{P:Program}{Q:Exit->Act->World->Prop}{a:Act}{b:List Value}{base c k:Nat}{bs:qn}{o:Oper}{ops:Array Oper}{p:Addr}{rest:List Oper}{v:Value}{w:World}
theorem Dr.size {a w:World} (h:Dr a w):w.heap.size=a.heap.size:=by
 obtain⟨m,rfl⟩:=h;rfl
theorem Dr.below {a w:World} (h:Dr a w) (B:Nat):Below B a w:=by
 obtain⟨m,rfl⟩:=h;exact⟨rfl,rfl,rfl,qx _,λ_ _=>rfl⟩
theorem Yo (m:o.guard=none) (d:TypeId) (x y:Operand) (j:o.op= .store d x y)
  (g:Nat) (cells:Array Value) (q:a.eval x= .pointer g) (n:a.eval y= .agg cells)
  (t:TypeId) (e:Array Value) (f:Blk w g t e) (hi:(P.info? d).map (·.size)=some cells.size)
  (l:e.size=cells.size) (h1:cells.all (·.oneCell')=true)
  (h: ∀c,Blk c g t cells->(∀b,b≠g->c.heap[b]? =w.heap[b]?)->(∀B a,Below B a w->B<=g->Below B a c)->c.heap.size=w.heap.size->wpList P ops Q rest (a.put o.dst undef) c):wpList P ops Q (o::rest) a w:=
 qC m d x y j g _ q n t e f hi l h1 (h _ (f.row _) (λb k=>QO w g b _ k) (λ_ _ p i=>zu p i _) (Xk w g _))
theorem Rj {w:World} {g:Nat} {t:TypeId} {c:Array Value} {size n:Nat} {a:List Value} (h:w.ownsRow base e size v n a) (f:Blk w g t c) (d:e≠t):v.ownBlock≠some g:=by
 rcases h.2 with⟨rfl,_⟩|⟨i,cap,cur,rfl,_,j,_⟩
 ·simp [Value.ownBlock]
 ·intro b;have:i=g:=by simpa [Value.ownBlock] using b
  subst this;exact Blk.ne_ j f d rfl
def Qr (E:TypeId) (w:World) (r:qn) (a:Int) (e:Ending) (w':World):Prop:= ∃A c,e= .returned (.tuple #[.slice A r c,a])/\yG w w' E A r c (r.map B8)
def U8 (E:TypeId) (w:World) (n:Nat) (r:qn) (a:Int) (e:Ending) (w':World):Prop:= ∃A c,e= .returned (.tuple #[.slice A n c,a])/\yG w w' E A n c (r.map B8)
theorem Hz {w:World} {n:Nat} {r:qn} {a:Int} (h:r.length=n):Qr E w r a=U8 E w n r a:=by subst h;rfl
def xo (A:q') (c k s:Nat):q':=if c=k then A else A.map (·.add (k*s))
theorem jI {P:Program} (t e:TypeId) (i:TypeInfo) (s:Nat) (ht:P.underlying t=some (.slice e)) (hi:P.info? e=some i) (d:i.size=s) (A:q') (n c k:Nat) (kl:IntKind) (g:k<=n) (W:World):
  (Instr.slice t (.slice A n c) (some (.int kl (k:Int))) none none).run P W= .ok (.slice (xo A c k s) (n-k) (c-k)) W:=by
 have b:P.elem t=e:=by simp [Program.elem,ht]
 rw [run_slice_l (a:=A) (len:=n) (cap:=c) (ht:=by rw [b];exact ht) (kl:=kl) (l:=(k:Int)) (h0:=by omega) (h1:=by omega),b];have f:(sizeOf e).run P W= .ok s W:=by simp [sizeOf,typeInfo,hi,d]
 rw [f];simp [Result.andThen,sliced,xo]
theorem Vo {P:Program} (t e:TypeId) (i:TypeInfo) (s:Nat) (ht:P.underlying t=some (.slice e)) (hi:P.info? e=some i) (f:i.size=s) (A:q') (n c k h:Nat) (kl kh:IntKind) (g:k<=h) (j:h<=c) (W:World):
  (Instr.slice t (.slice A n c) (some (.int kl (k:Int))) (some (.int kh (h:Int))) none).run P W= .ok (.slice (xo A c k s) (h-k) (c-k)) W:=by
 have b:P.elem t=e:=by simp [Program.elem,ht]
 rw [run_slice_lh (a:=A) (len:=n) (cap:=c) (ht:=by rw [b];exact ht) (kl:=kl) (kh:=kh) (l:=(k:Int)) (h:=(h:Int)) (h0:=by omega) (h1:=by omega) (h2:=by omega),b];have d:(sizeOf e).run P W= .ok s W:=by simp [sizeOf,typeInfo,hi,f]
 rw [d];simp [Result.andThen,sliced,xo]
theorem Reads.VC {w:World} {B n:Nat} {A:q'} {a:Type} {f:a->Value} {bs:List a} (h:Reads w B 1 A n (bs.map f)) (d:k<=n) (b:n<=c):Reads w B 1 (xo A c k 1) (n-k) ((bs.drop k).map f):=by
 have h2:=h.cut d b;rw [List.map_drop];rw [z_] at h2;unfold xo;rw [z_];exact h2
theorem Reads.takeN {w:World} {B n:Nat} {A:q'} {a:Type} {f:a->Value} {bs:List a} (h:Reads w B 1 A n (bs.map f)) (b:k<=n):Reads w B 1 A k ((bs.take k).map f):=by
 have h2:=h.take b;rw [z_] at h2;rw [List.map_take];exact h2
def vm (w:World) (B:Nat) (A:q') (n:Nat) (c:List qn):Prop:=
 ∃cs:List Value,Reads w B 1 A n cs/\c.length=n/\ ∀(i:Nat) (xs:qn),c[i]? =some xs-> ∃(Ai:q') (a b:Nat),cs[i]? =some (.slice Ai a b)/\a<=b/\b<=maxLen/\Reads w B 1 Ai a (xs.map B8)
theorem vm.row {w:World} {B n:Nat} {A:q'} {d:List qn} (h:vm w B A n d) (l:k<n):
  ∃c xs Ai b a,A=some c/\c.block<B/\d[k]? =some xs/\w.cell? (c.add k)=some (.slice Ai b a)/\b<=a/\a<=maxLen/\Reads w B 1 Ai b (xs.map B8):=by
 obtain⟨cs,f,o,g⟩:=h;obtain⟨c,u,m,i,j,e⟩:=f.at_ l;obtain⟨Ai,b,a,h1,h2,h3,h4⟩:=g k (d[k]'uK) (qX _);rw [j] at h1;injection h1 with h1;subst h1;exact⟨c,_,_,b,a,m,i,qX _,e,h2,h3,h4⟩
theorem vm.below {w w':World} {B n:Nat} {A:q'} {b:List qn} (h:vm w B A n b) (a:Below B w w'):vm w' B A n b:=by
 obtain⟨cs,c,e,d⟩:=h;refine⟨cs,c.below a,e,λi xs hi=> ?_⟩;obtain⟨Ai,g,f,h1,h2,h3,h4⟩:=d i _ hi;exact⟨_,g,f,h1,h2,h3,h4.below a⟩
theorem vm.more {w:World} {B b n:Nat} {A:q'} {a:List qn} (h:vm w B A n a) (c:B<=b):vm w b A n a:=by
 obtain⟨cs,d,f,e⟩:=h;refine⟨cs,d.more c,f,λi xs hi=> ?_⟩;obtain⟨Ai,j,g,h1,h2,h3,h4⟩:=e i _ hi;exact⟨_,j,g,h1,h2,h3,h4.more c⟩
theorem sF {w:World} {B n:Nat} {A:q'} (t:TypeId) (h:Reads w B 1 A n (bs.map B8)) (e:B<=w.heap.size) (b:n<=c) (d:c<=maxLen):
  vm (w.alloc (.cells #[.slice A n c] t)) (w.heap.size+1) w 1 [bs]:=by
 refine⟨[.slice A n c],⟨rfl,λ_=>⟨_,rfl,ze _,λj u a=> ?_⟩⟩,rfl,λi xs hi=> ?_⟩
 ·match j,a with
  |0,a=>
   simp at a;subst a;exact(Blk.new w t #[.slice A n c]).cell 0
 ·match i,hi with
  |0,hi=>
   simp at hi;subst hi;exact⟨A,n,c,rfl,b,d,(h.alloc e _).more uK⟩
end
section
open Go.RowKit
variable {K:Act->World->Prop} {Q:Exit->Act->World->Prop} {a:Act} {k:Array Oper} {n:Nat} {o:Oper}
variable {P:Program} (w:World)
theorem Uq (base:Nat) (t f e:TypeId) (i:TypeInfo) (size:Nat) (ht:P.underlying t=some (.slice e)) (hi:P.info? e=some i)
  (v:Value) (n:Nat) (b:List Value) (a:w.ownsRow base e size v n b) (c:Nat):(Builtin.append_ #[t,t] f #[v, .slice none 0 c]).run P w= .ok v w:=by
 rcases a.2 with⟨rfl,rfl⟩|⟨g,cap,cur,rfl,_,_,d,_⟩
 ·simp [Builtin.append_,run_underlying ht,sizeOf,typeInfo,hi,Builtin.lenOf,Builtin.firstCells]
 ·simp [Builtin.append_,run_underlying ht,sizeOf,typeInfo,hi,Builtin.lenOf,Builtin.firstCells,d,storeCells]
theorem X_ {w:World} {base:Nat} {E:TypeId} {size:Nat} {v:Value} {a:List Value} (h:w.ownsRow base E size v n a): ∃A c,v= .slice A n c:=by
 rcases h.2 with⟨rfl,rfl⟩|⟨g,cap,cur,rfl,_⟩
 ·exact⟨_,0,rfl⟩
 ·exact⟨_,_,rfl⟩
def JU (w:World) (A a:q'):Prop:=a.map (·.block)=A.map (·.block)\/a.map (·.block)=some w.heap.size
theorem jH (A:q') (n c:Nat):(Value.slice A n c).ownBlock=A.map (·.block):=by cases A<;>rfl
theorem fW (base:Nat) (t o e:TypeId) (i:TypeInfo) (z:Value) (size bytes:Nat) (ht:P.underlying t=some (.slice e)) (hi:P.info? e=some i) (v:i.zero=some z)
  (E:i.size=size) (F:i.bytes=bytes) (G:z.cells.size=size) (x:0<size)
  (d:q') (n c0:Nat) (k:List Value) (l:w.ownsRow base e size (.slice d n c0) n k)
  (B:Nat) (A:q') (m c:Nat) (a:List Value) (f:Reads w B size A m a) (h1: ∀u∈a,u.oneCell'=true)
  (D:n+m<=maxLen) (H:(n+m)*bytes<=140737488355328) (y:base<=w.heap.size):
  ∃b g w',(Builtin.append_ #[t,t] o #[.slice d n c0, .slice A m c]).run P w= .ok (.slice b (n+m) g) w'/\w'.ownsRow base e size (.slice b (n+m) g) (n+m) (k++a)/\w.grownBy w' (d.map (·.block))/\JU w d b:=by
 rcases A with _|p
 ·have I:m=0:=by
   rcases zA m with h0|h0
   ·exact h0
   ·obtain⟨p,h,_⟩:=f.2 h0;cases h
  subst I;have q:=zl (by simpa using f.1);subst q;exact⟨d,_,w,Uq w _ t o e i _ ht hi _ n k l c,by simpa using l,World.grownBy.refl w _, .inl rfl⟩
 ·have C: ∀j u,a[j]? =some u->w.cell? (p.add j)=some u:=by
   intro j u r;rcases zA m with h0|h0
   ·subst h0;have q:=zl (by simpa using f.1);subst q;simp at r
   ·obtain⟨K,h,_,J⟩:=f.2 h0;injection h with h;subst h;exact J j u r
  obtain⟨L,w',s,h2,h3,_,h5⟩:=run_append_own_at w _ t o e i z _ _ ht hi v E F G x _ n k l p m c a f.1 C h1 D H y;obtain⟨b,g,rfl⟩:=X_ h2;rw [jH] at h3;rw [jH,jH] at h5;exact⟨b,g,_,s,h2,h3,h5⟩
theorem Ye {Q:Exit->Act->World->Prop} (s x:Operand) (t:TypeId) (C:o.op= .call {callee:= .builtin .append,args:= #[s,x],argTypes:= #[t,t]}) (base:Nat) (e:TypeId) (i:TypeInfo) (z:Value) (size bytes:Nat) (ht:P.underlying t=some (.slice e)) (hi:P.info? e=some i) (l:i.zero=some z) (D:i.size=size) (E:i.bytes=bytes) (G:z.cells.size=size) (q:0<size) (d:q') (n c0:Nat) (j:List Value) (I:a.eval s= .slice d n c0) (p:w.ownsRow base e size (.slice d n c0) n j) (B:Nat) (A:q') (m c:Nat) (g:List Value) (y:a.eval x= .slice A m c) (F:Reads w B size A m g) (h1: ∀u∈g,u.oneCell'=true) (v:n+m<=maxLen) (H:(n+m)*bytes<=140737488355328) (r:base<=w.heap.size) (h: ∀b f w',w'.ownsRow base e size (.slice b (n+m) f) (n+m) (j++g)->w.grownBy w' (d.map (·.block))->JU w d b->K (a.put o.dst (.slice b (n+m) f)) w'):o.wp P a w K Q:=by
 obtain⟨b,f,w',k,h2,h3,h4⟩:=fW w _ t o.type e i z _ _ ht hi l D E G q d n _ j p B A m c g F h1 v H r;unfold Oper.wp execOp;simp only [C,resolve,invoke,builtin,Sem.run_bind,Sem.run_pure,Result.andThen_ok,List.map_toArray,jy,xB,I,y,k];exact h b f _ h2 h3 h4
theorem qF {rest:List Oper} (v:o.guard=none) (s x:Operand) (t:TypeId) (D:o.op= .call {callee:= .builtin .append,args:= #[s,x],argTypes:= #[t,t]}) (base:Nat) (e:TypeId) (i:TypeInfo) (z:Value) (size bytes:Nat) (ht:P.underlying t=some (.slice e)) (hi:P.info? e=some i) (l:i.zero=some z) (E:i.size=size) (F:i.bytes=bytes) (H:z.cells.size=size) (q:0<size) (d:q') (n c0:Nat) (j:List Value) (K:a.eval s= .slice d n c0) (p:w.ownsRow base e size (.slice d n c0) n j) (B:Nat) (A:q') (m c:Nat) (g:List Value) (C:a.eval x= .slice A m c) (G:Reads w B size A m g) (h1: ∀u∈g,u.oneCell'=true) (y:n+m<=maxLen) (I:(n+m)*bytes<=140737488355328) (r:base<=w.heap.size) (h: ∀b f w',w'.ownsRow base e size (.slice b (n+m) f) (n+m) (j++g)->w.grownBy w' (d.map (·.block))->JU w d b->wpList P k Q rest (a.put o.dst (.slice b (n+m) f)) w'):wpList P k Q (o::rest) a w:=
 wpList_plain v λ_ J=>Ye w s x t D _ e i z _ _ ht hi l E F H q d n _ j K p B A m c g C G h1 y I r λb f w' h2 h3 h4=>J _ _ (h b f _ h2 h3 h4)
theorem jm {E:Prop} (y:o.guard=none) (s x:Operand) (t:TypeId) (F:o.op= .call {callee:= .builtin .append,args:= #[s,x],argTypes:= #[t,t]}) (base:Nat) (e:TypeId) (i:TypeInfo) (z:Value) (size bytes:Nat) (ht:P.underlying t=some (.slice e)) (hi:P.info? e=some i) (l:i.zero=some z) (G:i.size=size) (H:i.bytes=bytes) (J:z.cells.size=size) (q:0<size) (b:q') (n c0:Nat) (g:List Value) (M:a.eval s= .slice b n c0) (p:w.ownsRow base e size (.slice b n c0) n g) (B:Nat) (A:q') (m c:Nat) (d:List Value) (D:a.eval x= .slice A m c) (I:Reads w B size A m d) (h1: ∀u∈d,u.oneCell'=true) (C:n+m<=maxLen) (L:(n+m)*bytes<=140737488355328) (r:base<=w.heap.size) (h: ∀f j w',w'.ownsRow base e size (.slice f (n+m) j) (n+m) (g++d)->w.grownBy w' (b.map (·.block))->JU w b f->K (a.put o.dst (.slice f (n+m) j)) w'):
  if Region.wanted o (yielded k a.tmps)=true then Oper.wp P o a w K Q else E:=by
 have v:Region.wanted o (yielded k a.tmps)=true:=by simp [Region.wanted,y]
 rw [qk v];exact Ye w s x t F _ e i z _ _ ht hi l G H J q b n _ g M p B A m c d D I h1 C L r h
end
section
open Go.RowKit
variable {a:Act}{k:Array Oper}{n:Nat}
theorem zU (w:World) (x:Value) (t:TypeId):Reads (w.alloc (.cells #[x] t)) (w.heap.size+1) 1 w 1 [x]:=
 ⟨rfl,λ_=>⟨_,rfl,ze _,cell_one_new w x t⟩⟩
theorem one_one {x:Value} (h:x.oneCell'=true): ∀u∈[x],u.oneCell'=true:=by
 intro u a;rw [qy.1 a];exact h
theorem zG {B:Nat} {a w w':World} {e:TypeId} {size c:Nat} {A:q'} {g:List Value} (d:Below B a w) (h:w.grownBy w' (A.map (·.block))) (b:w.ownsRow B e size (.slice A n c) n g) (i:B<=w.heap.size):Below B a w':=
 d.grown h i (λk f=>(b.lt k (by rw [jH];exact f)).1)
end
structure Bw where
 b:qn
 n:Nat
def Yh (s:Bw):qn:=if s.n%8=0 then s.b++[0] else s.b
def De (s:Bw) (x:Nat):Bw:=⟨(Yh s).set (s.n/8) (UInt8.ofNat (((Yh s).getD (s.n/8) 0).toNat|||x*2^(7-s.n%8))),s.n+1⟩
def Jh (s:Bw) (x:Nat):Nat->Bw
 |0=>s
 |k+1=>Jh (De s (x/2^k%2)) x k
def G4 (x:Nat) (n:Int):Int:=if n<0\/64<n\/(n<64/\x/2^n.toNat≠0) then 13 else 0
def PR (s:Bw) (x:Nat) (n:Int):Bw:=if G4 x n=0 then Jh s x n.toNat else s
def U_ (s:Bw):Nat->Bw
 |0=>De s 1
 |k+1=>U_ (De s 0) k
def sg (n:Int):Int:=if n<0\/100000<n then 13 else 0
def oW (s:Bw) (n:Int):Bw:=if sg n=0 then U_ s n.toNat else s
def Bw.ok (s:Bw):Prop:=s.b.length=(s.n+7)/8
theorem Rx (s:Bw) (h:s.ok):(Yh s).length=s.n/8+1:=by
 unfold Yh;unfold Bw.ok at h;split
 ·rw [qK,zJ];omega
 ·omega
theorem cZ (s:Bw) (x:Nat):(De s x).n=s.n+1:=rfl
theorem YH (x:Nat): ∀k s,(Jh s x k).n=s.n+k
 |0,s=>rfl
 |k+1,s=>by show(Jh _ x k).n=_;rw [YH x k,cZ];omega
theorem Nd: ∀k s,(U_ s k).n=s.n+k+1
 |0,s=>rfl
 |k+1,s=>by show(U_ _ k).n=_;rw [Nd k,cZ];omega
def dq (b:qn) (i:Nat):Nat:=(b.getD (i/8) 0).toNat/2^(7-i%8)%2
theorem D2 (b:qn) (i:Nat):dq b i<2:=xC _ uK
def QF (b:qn) (at_:Nat):Nat->Nat
 |0=>0
 |k+1=>2*QF b at_ k+(if at_+k<8*b.length then dq b (at_+k) else 0)
theorem Zr (b:qn) (at_:Nat): ∀k,QF b at_ k<2^k
 |0=>by simp [QF]
 |k+1=>by
  have:=Zr b at_ k;have h2:=D2 b (at_+k);unfold QF;rw [vB];split<;>omega
def q7 (b:qn) (at_:Nat):Nat:=8*b.length-at_
def U7 (b:qn) (at_:Nat) (n:Int):Int:=if n<0\/64<n then 13 else if(q7 b at_:Int)<n then 1 else 0
def gq (b:qn) (at_:Nat) (n:Int):Nat:=if U7 b at_ n=0 then QF b at_ n.toNat else 0
def gk (b:qn) (at_:Nat) (n:Int):Nat:=if U7 b at_ n=0 then at_+n.toNat else at_
def Po (b:qn) (at_:Nat) (n:Int):Int:=if n<0 then 13 else if(q7 b at_:Int)<n then 1 else 0
def Hj (b:qn) (at_:Nat) (n:Int):Nat:=if Po b at_ n=0 then at_+n.toNat else at_
def um (b:qn) (i:Nat):Nat->Option Nat
 |0=>none
 |f+1=>if dq b i=1 then some i else um b (i+1) f
def una (b:qn) (at_:Nat):Option Nat:=um b at_ (q7 b at_)
def uM (b:qn) (at_:Nat):Int:=if una b at_=none then 1 else 0
def Ju (b:qn) (at_:Nat):Nat:=(una b at_).getD at_-at_
def pq (b:qn) (at_:Nat):Nat:=match una b at_ with|none=>at_|some i=>i+1
def cJ (b:qn) (at_:Nat):Int:=if 8<=q7 b at_\/QF b at_ (q7 b at_)≠0 then 2 else 0
theorem aW (b:qn): ∀f i j,um b i f=some j->i<=j/\j<i+f
 |0,i,j,h=>by simp [um] at h
 |f+1,i,j,h=>by
  unfold um at h;split at h
  ·injection h with h;omega
  ·have:=aW b f _ j h;omega
section
open Go.RowKit
variable {A:q'}{W:World}{a:qn}{c r:Int}{g k n:Nat}
structure MB (W:World) (g:Nat) (r c:Int) (A:q') (n k:Nat) (xs:qn):Prop where
 blk:Blk W g 154 #[r,c, .slice A n k]
 rd:Reads W W 1 A n (xs.map B8)
 cap:n<=k
theorem MB.below {d:World} {b:qn} (h:MB W g r c A n k b) (a:Below W W d):MB d g r c A n k b:=
 ⟨h.blk.below a h.blk.lt,(h.rd.below a).more a.size,h.cap⟩
theorem MB.alloc (h:MB W g r c A n k a) (o:Obj):MB (W.alloc o) g r c A n k a:=
 h.below (z8 o)
theorem MB.new (h:Reads W W 1 A n (a.map B8)) (b:n<=k):MB (W.alloc (.cells #[r,c, .slice A n k] 154)) W r c A n k a:=
 ⟨Blk.new W _ _,(h.alloc (qx _) _).more s8,b⟩
theorem MB.cells (h:MB W g r c A n k a):W.cell? g=some (r:Value)/\W.cell? ⟨g,1,none⟩=some (c:Value)/\W.cell? ⟨g,2,none⟩=some (.slice A n k):=
 ⟨h.blk.cell 0,h.blk.cell 1,h.blk.cell 2⟩
theorem MB.len (h:MB W g r c A n k a):a.length=n:=h.rd.len
theorem J7 {w w':World} {a:List Value} (h:w'.ownsRow w 5 1 (.slice A n k) n a):Reads w' w' 1 A n a/\n<=k:=⟨Reads.zY h,(jC h).1⟩
end
def cnt (a:qn) (l:Nat):Nat:=(a.filter λx=>x.toNat==l).length
def okL (a:qn):Bool:=decide (a.length<=300)&&a.all λx=>decide (x.toNat<=15)
def Hy (a:qn):Nat->Nat
 |0=>0
 |l+1=>Hy a l+cnt a (l+1)*2^(15-(l+1))
def YV (a:qn):Nat->Nat
 |0=>0
 |l+1=>YV a l+cnt a (l+1)
def Y2 (a:qn):Int:=
 if okL a=true/\(YV a 15=0\/Hy a 15=32768\/(YV a 15=1/\cnt a 1=1)) then 0 else 7
def xV (a:qn):Nat->Nat
 |0=>0
 |1=>0
 |l+2=>(xV a (l+1)+cnt a (l+1))*2
def PQ (a:qn):qn->qn->List Nat
 |_,[]=>[]
 |p,x::t=>(if x.toNat=0 then 0 else(xV a x.toNat+cnt p x.toNat)%65536)::PQ a (p++[x]) t
def Xt (a:qn):List Nat:=PQ a [] a
def XT:Nat->qn->Nat
 |0,_=>0
 |m+1,[]=>0
 |m+1,x::t=>if x=0 then XT m t+1 else 0
def QR:Nat->Bw->qn->Bw
 |0,s,_=>s
 |f+1,s,[]=>s
 |f+1,s,x::t=>if 0<x.toNat then QR f (Jh s x.toNat 4) t else QR f (Jh (Jh s 0 4) (XT 63 t) 6) (t.drop (XT 63 t))
def dc (s:Bw) (a:qn):Bw:=if Y2 a=0 then QR a s a else s
def F3 (b:qn) (n:Nat):Nat->Nat->qn->Bool->Int×qn×Nat
 |0,at_,a,_=>(if Y2 a≠0 then 7 else 0,if Y2 a≠0 then [] else a,at_)
 |f+1,at_,a,c=>
  if n<=a.length then(if Y2 a≠0 then 7 else 0,if Y2 a≠0 then [] else a,at_)
  else if q7 b at_<4 then(1,[],at_)
  else if QF b at_ 4≠0 then F3 b n f (at_+4) (a++[UInt8.ofNat (QF b at_ 4)]) false
  else if q7 b (at_+4)<6 then(1,[],at_+4)
  else if c=true\/n-a.length<=QF b (at_+4) 6 then(7,[],at_+10)
  else F3 b n f (at_+10) (a++List.replicate (QF b (at_+4) 6+1) 0) (decide (QF b (at_+4) 6+1<64))
def YM (b:qn) (n at_:Nat):Int×qn×Nat:=F3 b n n at_ [] false
def XU (a:List Nat) (x:Nat):List Nat->List Nat
 |[]=>[x]
 |y::t=>if a.getD x 0<a.getD y 0 then y::XU a x t else x::y::t
def YO (b:List Nat):List Nat->List Nat->List Nat
 |a,[]=>a
 |a,x::t=>YO b (XU b x a) t
def vA:Nat->List Nat->List Nat
 |_,[]=>[]
 |i,n::t=>if 0<n then i::vA (i+1) t else vA (i+1) t
def Z0 (a:List Nat):List Nat:=(YO a [] (vA 0 a)).reverse
def pr (a:List Nat) (syms:List Nat):List (Nat×Bool):=syms.map λs=>(a.getD s 0,true)
def ZN:Nat->List (Nat×Bool)->List (Nat×Bool)->List (Nat×Bool)
 |0,_,_=>[]
 |f+1,x::l,a::b::r=>if x.1<=a.1+b.1 then x::ZN f l (a::b::r) else(a.1+b.1,false)::ZN f (x::l) r
 |f+1,[],a::b::r=>(a.1+b.1,false)::ZN f [] r
 |f+1,x::l,r=>x::ZN f l r
 |f+1,[],_=>[]
def YY (leaf row:List (Nat×Bool)):List (Nat×Bool):=ZN (leaf.length+row.length/2) leaf row
def G3 (leaf:List (Nat×Bool)):Nat->List (List (Nat×Bool))
 |0=>[leaf]
 |k+1=>YY leaf ((G3 leaf k).headD [])::G3 leaf k
def QX (r:List (Nat×Bool)):Nat:=(r.filter (·.2)).length
def wv:List (List (Nat×Bool))->Nat->List Nat
 |[],_=>[]
 |r::t,k=>QX (r.take k)::wv t (2*(k-QX (r.take k)))
def Pr (ns:List Nat) (i:Nat):Nat:=(ns.filter λn=>decide (i<n)).length
def ZL (n:Nat) (syms:List Nat) (ns:List Nat):qn:=(List.range n).map λs=>if s∈syms then UInt8.ofNat (Pr ns (syms.idxOf s)) else 0
def X6 (a:List Nat) (b:Nat):qn:=
 if(Z0 a).length=0 then List.replicate a 0
 else if(Z0 a).length=1 then(List.replicate a 0).set ((Z0 a).headD 0) 1
 else ZL a (Z0 a) (wv (G3 (pr a (Z0 a)) (b-1)) (2*(Z0 a).length-2))
def J6 (l:Nat):Nat->qn->List Nat
 |_,[]=>[]
 |i,x::t=>if x.toNat=l then i::J6 l (i+1) t else J6 l (i+1) t
def YQ (a:qn) (l:Nat):List Nat:=if l=0 then [] else J6 l 0 a
def Pk (a:qn) (l:Nat):Nat:=if YQ a l=[] then 0 else(Xt a).getD ((YQ a l).headD 0) 0
def Pp (a:qn) (l:Nat):Nat:=(YQ a l).length
def fL (a:qn) (sym:Int):Nat:=if sym<0\/(a.length:Int)<=sym then 0 else(a.getD sym.toNat 0).toNat
def Ht (a:qn) (sym:Int):Int:=if fL a sym=0 then 13 else G4 ((Xt a).getD sym.toNat 0) (fL a sym)
def pd (a:qn) (s:Bw) (sym:Int):Bw:=if fL a sym=0 then s else PR s ((Xt a).getD sym.toNat 0) (fL a sym)
def G5 (a:qn) (x l:Nat):Option Nat:=if x<Pk a l\/Pp a l<=x-Pk a l then none else some ((YQ a l).getD (x-Pk a l) 0)
def Z2 (a:qn) (x l:Nat):Nat->Bool
 |0=>false
 |f+1=>Z2 a x l f||(decide (0<Pp a (l+(f+1)))&&(decide (x*2^(f+1)<Pk a (l+(f+1))+Pp a (l+(f+1)))&&decide (Pk a (l+(f+1))<x*2^(f+1)+2^(f+1))))
def uQ (a:qn) (x l:Nat):Bool:=Z2 a x l (15-l)
def Kg (a:qn) (x Da:Nat):Nat->Nat->Option (Nat×Nat)
 |0,_=>none
 |f+1,l=>if Da<l then none else match G5 a (x/2^(15-l)) l with|some s=>some (s,l)|none=>Kg a x Da f (l+1)
def Da (b:qn) (at_:Nat):Nat:=min 15 (q7 b at_)
def DR (a:qn) (b:qn) (at_:Nat):Option (Nat×Nat):=Kg a (QF b at_ 15) (Da b at_) 15 1
def kC (a:qn) (b:qn) (at_:Nat):Int:=
 match DR a b at_ with
 |some _=>0
 |none=>if Da b at_<15/\uQ a (QF b at_ 15/2^(15-Da b at_)) (Da b at_)=true then 1 else 7
def P4 (a:qn) (b:qn) (at_:Nat):Int:=match DR a b at_ with|some (s,_)=>(s:Int)|none=> -1
def pD (a:qn) (b:qn) (at_:Nat):Nat:=match DR a b at_ with|some (_,l)=>at_+l|none=>at_
def uo:Nat->Nat->qn
 |0,x=>[UInt8.ofNat x]
 |f+1,x=>if x<128 then [UInt8.ofNat x] else UInt8.ofNat (x%128+128)::uo f (x/128)
def xv (x:Nat):qn:=uo 9 x
def UQ (s:qn):qn:=xv s.length++s
def kv (x n:Nat):qn:=(List.range n).map λi=>UInt8.ofNat (x/256^i)
def yX (i x:Nat):qn->Nat×Nat×Int
 |[]=>(0,0,1)
 |c::t=>if(i=9/\c≠1)\/(0<i/\c=0) then(0,0,2) else if c.toNat<128 then(x+c.toNat%128*128^i,i+1,0) else yX (i+1) (x+c.toNat%128*128^i) t
def Ki (b:qn):Nat×Nat×Int:=yX 0 0 b
def Q0 (b:qn) (a:Int):Nat×Nat×Int:=if(Ki b).2.2≠0 then(0,0,(Ki b).2.2) else if a<0\/a<((Ki b).1:Int) then(0,0,6) else((Ki b).1,(Ki b).2.1,0)
structure Cu where
 at_:Nat
 err:Int
 deriving DecidableEq
def yO (c:Cu) (n:Nat) (e:Int):Cu:=if c.err≠0 then c else if e≠0 then⟨c.at_,e⟩ else⟨c.at_+n,0⟩
def vP (c:Cu) (e:Int):Cu:=if c.err=0 then⟨c.at_,e⟩ else c
def X7 (b:qn) (c:Cu):Nat×Cu:=(if c.err≠0 then 0 else(Ki (b.drop c.at_)).1,yO c (Ki (b.drop c.at_)).2.1 (Ki (b.drop c.at_)).2.2)
def jU (b:qn) (a:Int) (c:Cu):Nat×Cu:=(if c.err≠0 then 0 else(Q0 (b.drop c.at_) a).1,yO c (Q0 (b.drop c.at_) a).2.1 (Q0 (b.drop c.at_) a).2.2)
def Xv (b:qn) (n:Int) (c:Cu):Int:=if n<0 then 13 else if((b.drop c.at_).length:Int)<n then 1 else 0
def jW (b:qn) (n:Int) (c:Cu):qn×Cu:=(if c.err≠0\/Xv b n c≠0 then [] else(b.drop c.at_).take n.toNat,yO c n.toNat (Xv b n c))
def j_ (b:qn) (c:Cu):UInt8×Cu:=((jW b 1 c).1.headD 0,(jW b 1 c).2)
def vk:qn->Nat
 |[]=>0
 |c::t=>c.toNat+256*vk t
def Yb (b:qn) (n:Int) (c:Cu):Nat×Cu:=if n<1\/8<n then(0,vP c 13) else(vk (jW b n c).1,(jW b n c).2)
def Xy (r:qn) (a:Int):Int:=if(Q0 r a).2.2≠0 then(Q0 r a).2.2 else if r.length<(Q0 r a).2.1+(Q0 r a).1 then 1 else 0
def xa (b:qn) (a:Int) (c:Cu):qn×Cu:=(if c.err≠0\/Xy (b.drop c.at_) a≠0 then [] else((b.drop c.at_).drop (Q0 (b.drop c.at_) a).2.1).take (Q0 (b.drop c.at_) a).1,yO c ((Q0 (b.drop c.at_) a).2.1+(Q0 (b.drop c.at_) a).1) (Xy (b.drop c.at_) a))
def PW (b:qn) (c:Cu):Cu:=if c.at_<b.length then vP c 2 else c
theorem Hu: ∀f x,1<=(uo f x).length/\(uo f x).length<=f+1
 |0,x=>by simp [uo]
 |f+1,x=>by
  unfold uo;split
  ·simp
  ·have:=Hu f (x/128)
   simp;omega
theorem jn (x:Nat):1<=(xv x).length/\(xv x).length<=10:=Hu 9 x
theorem PZ: ∀(b:qn) (i x:Nat),(yX i x b).2.1<=i+b.length/\(((yX i x b).2.2=0->i<(yX i x b).2.1)/\((yX i x b).2.2≠0->(yX i x b).1=0/\(yX i x b).2.1=0))
 |[],i,x=>by simp [yX]
 |c::t,i,x=>by
  unfold yX;split
  ·simp
  ·split
   ·simp
   ·have h:=PZ t (i+1) (x+c.toNat%128*128^i)
    rw [qf];refine⟨uK,λh0=>by have:=h.2.1 h0;omega,h.2.2⟩
theorem Hg: ∀(b:qn) (i x:Nat),i<=9->x<128^i->(yX i x b).1<18446744073709551616
 |[],i,x,_,_=>by simp [yX]
 |c::t,i,x,hi,d=>by
  unfold yX;have l:c.toNat%128<128:=xC _ uK;split
  ·simp
  ·rename_i h
   have h1:x+c.toNat%128*128^i<128^(i+1):=by
    rw [vB];have:=zk (128^i) (show c.toNat%128<=127 by omega)
    omega
   by_cases j:i=9
   ·subst j
    have g:c=1:=by
     rcases Classical.em (c=1) with h2|h2
     ·exact h2
     ·exact absurd (.inl ⟨rfl,h2⟩) h
    subst g;have f:(1:UInt8).toNat=1:=rfl;rw [qk (by rw [f];decide),f]
    have e:(1:Nat)%128*128^9=9223372036854775808:=by decide+kernel
    have a:(128:Nat)^9=9223372036854775808:=by decide+kernel
    have k:=a▸d;show x+1%128*128^9<18446744073709551616;rw [e];clear a e d h1 h;omega
   ·split
    ·have h2:128^(i+1)<=128^9:=zZ uK uK
     have a:(128:Nat)^9=9223372036854775808:=by decide+kernel
     show x+c.toNat%128*128^i<_
     rw [a] at h2;have h3:=qB h1 h2;clear h1 h2 a d;omega
    ·exact Hg t _ _ uK h1
theorem wQ (b:qn):(Ki b).1<18446744073709551616:=Hg b 0 0 uK s8
theorem wJ (b:qn):(Ki b).2.1<=b.length:=by have:=(PZ b 0 0).1;unfold Ki;omega
theorem cX (b:qn) (a:Int):(Q0 b a).2.1<=b.length:=by
 unfold Q0;split
 ·exact qp _
 ·split
  ·exact qp _
  ·exact wJ b
theorem Yi (b:qn) (a:Int) (h:0<=a):((Q0 b a).1:Int)<=a:=by
 unfold Q0;split
 ·exact h
 ·split
  ·exact h
  ·rename_i h2;omega
section
open Go.RowKit
theorem dS {B:Nat} {a w:World} (h:Below B a w) (n:Nat):Below B a (w.drewN n):=⟨h.os,h.tape,h.output,h.size,h.block⟩
theorem Ys (z:Value) (k:Nat):(Builtin.zeroCells #[z] k)=(List.replicate k z).toArray:=by
 apply ZD;intro j;unfold Builtin.zeroCells;by_cases h:j<k
 ·simp [h,Nat.mod_one]
 ·rw [zg SZ,zg SZ]
end
section
open Go.RowKit
variable {P:Program} (w:World)
theorem dF (base:Nat) (t m q e:TypeId) (i:TypeInfo) (z:Value) (bytes:Nat) (A v:IntKind) (ht:P.underlying t=some (.slice e)) (D:P.underlying m=some (.int v)) (hi:P.info? e=some i) (o:i.zero=some z)
  (H:i.size=1) (j:i.bytes=bytes) (C:z.cells= #[z]) (I:z.oneCell'=true) (X:bytes<=1000)
  (h:q') (n c0:Nat) (a:List Value) (p:w.ownsRow base e 1 (.slice h n c0) n a)
  (k:Nat) (d:0<k) (O:n+k<=1000000000) (L:base<=w.heap.size):
  ∃r E w',(Builtin.append_ #[t,m] q #[.slice h n c0, .int A k]).run P w= .ok (.slice r (n+k) E) w'/\w'.ownsRow base e 1 (.slice r (n+k) E) (n+k) (a++List.replicate k z)/\w.grownBy w' (h.map (·.block))/\JU w h r:=by
 have W:n+k<=maxLen:=SJ;have s:a.length=n:=by have:=p.1;omega
 have l:(a++List.replicate k z).length=(n+k)*1:=by rw [qK,s,zT];omega
 have iL:(n+k)*bytes<=1000000000000:=qv (xA O X) uK;have m':k*bytes<=(n+k)*bytes:=zk _ uK;have grown: ∀(b:Nat) (row:Option Nat),
   (w.drew.alloc (.cells (a.toArray++Builtin.zeroCells z.cells k++Builtin.zeroCells z.cells (grownCap w (n+k) b e-(n+k))) e)).ownsRow base e 1
    (.slice w (n+k) (grownCap w (n+k) b e)) (n+k) (a++List.replicate k z)/\
   w.grownBy (w.drew.alloc (.cells (a.toArray++Builtin.zeroCells z.cells k++Builtin.zeroCells z.cells (grownCap w (n+k) b e-(n+k))) e)) row:=by
  intro b row;have T:=grownCap_ge w (n+k) b e;have x:=grownCap_le_maxLen w _ b e W;refine⟨⟨l, .inr ⟨w,_,_,rfl,L,heap_alloc_new w.drew _,T,x, ?_, ?_⟩⟩,⟨rfl,rfl,rfl,s8,λk d _=>Below.heap_alloc _ _ k d⟩⟩
  ·rw [C];simp only [Array.size_append,xd,size_zeroCells,s];simp;omega
  ·rw [C,Ys,Ys];simp only [Array.toList_append];rw [<-l];exact List.take_left
 rcases p.2 with⟨f,rfl⟩|⟨g,cap,cur,f,Z,F,d',x,U,M⟩
 ·simp only [Ql] at f;obtain⟨rfl,_,rfl⟩:=f;have Q:=zl s;subst Q;have B:=Go.Lib.run_append_nil_zeros w t m q e i z A v ht D hi o k d uK uK (by rw [j];omega);have c:=grown 0 (none);simp only [jL,xY,Array.empty_append] at c⊢;exact⟨_,_,_,B,c.1,c.2, .inr rfl⟩
 ·simp only [Ql] at f;obtain⟨rfl,_,rfl⟩:=f;by_cases G:n+k<=c0
  ·have V:n*1+(List.replicate k z).length<=cur.size:=by rw [zT,U];omega
   have y:=run_storeCells_at P g (n*1) e (List.replicate k z) 0 _ w F (by simpa using V) (λu J=>by rw [xJ J];exact I);simp only [v_] at y;have N:IntKind.i64.wrap (k:Int)=k:=SX;have Y: ¬((k:Int)<0):=uK;have K: ¬(281474976710656<(k:Int)*(i.bytes:Int)):=by
    rw [<-zB,j];omega
   have R: ¬k=0:=uK;refine⟨some ⟨g,0,none⟩,c0,w.setRow g (cur.toList.take (n*1)++List.replicate k z++cur.toList.drop (n*1+(List.replicate k z).length)).toArray, ?_,⟨l, .inr ⟨g,c0,_,rfl,Z,setRow_heap w g cur _ e _ F,G,x, ?_, ?_⟩⟩,⟨rfl,rfl,rfl,s8,λk _ d=>QO w g k _ (λe=>d (by simp [e]))⟩, .inl rfl⟩
   ·simp [Builtin.append_,run_underlying ht,run_underlying D,sizeOf,typeInfo,zeroValue,hi,o,H,C,Ys,asInt,asIntOf,N,Y,K,G,R,Addr.add_lit] at y⊢;simp [y]
   ·simp only [xd,qK,qh,qI,Q9,zT];omega
   ·rw [M,<-l];exact List.take_left
  ·have S:(Builtin.firstCells i.size n (.slice g n c0)).run P w.drew= .ok a.toArray w.drew:=by
    rw [H];exact run_firstCells_some (w:=w.drew) 1 n g n _ a uK (p.cells rfl)
   have B:=Go.Lib.run_append_grow_zeros w t m q e i z A v ht D hi o g n _ a S k d uK uK uK (by rw [j];omega) (by rw [j];exact growslice_fits uK uK);have c:=grown c0 ((some g));exact⟨_,_,_,B,c.1,c.2, .inr rfl⟩
end
section
open Go.RowKit
theorem Pm {P:Program} (w:World) {m:Array Oper} {rest:List Oper} {o:Oper} {a:Act} {Q:Exit->Act->World->Prop} (v:o.guard=none) (s x:Operand) (t f:TypeId)
  (B:o.op= .call {callee:= .builtin .append,args:= #[s,x],argTypes:= #[t,f]})
  (base:Nat) (e:TypeId) (i:TypeInfo) (z:Value) (bytes:Nat) (l j:IntKind) (ht:P.underlying t=some (.slice e)) (G:P.underlying f=some (.int j)) (hi:P.info? e=some i) (q:i.zero=some z)
  (C:i.size=1) (D:i.bytes=bytes) (F:z.cells= #[z]) (p:z.oneCell'=true) (H:bytes<=1000)
  (c:q') (n c0:Nat) (g:List Value) (J:a.eval s= .slice c n c0) (r:w.ownsRow base e 1 (.slice c n c0) n g)
  (k:Nat) (A:a.eval x= .int l k) (I:0<k) (y:n+k<=1000000000) (u:base<=w.heap.size)
  (h: ∀b d w',w'.ownsRow base e 1 (.slice b (n+k) d) (n+k) (g++List.replicate k z)->w.grownBy w' (c.map (·.block))->JU w c b->wpList P m Q rest (a.put o.dst (.slice b (n+k) d)) w'):wpList P m Q (o::rest) a w:=by
 obtain⟨b,d,w',E,h1,h2,h3⟩:=dF w _ t f o.type e i z _ l j ht G hi q C D F p H c n _ g r k I y u;exact Go.Lib.wpList_append_run w v s x t f B _ _ J A _ _ E (h b d _ h1 h2 h3)
end
section
open Go.RowKit Go.Maps
theorem Tj:(prog.info? 5).map (λi=>(i.zero,i.size,i.bytes))=some (some (.int .u8 0),1,1):=AL
end
end Go.Proofs.YtfnlfpcfkbdcmaaGreatDoor
