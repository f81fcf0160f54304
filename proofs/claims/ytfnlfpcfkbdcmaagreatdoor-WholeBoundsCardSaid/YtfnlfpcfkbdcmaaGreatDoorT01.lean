import Derived.Test.YtfnlfpcfkbdcmaaGreatDoorTA
set_option linter.unusedSimpArgs false
set_option linter.unusedVariables false
set_option maxRecDepth 100000
set_option maxHeartbeats 0
open Go.Proofs.Tryz
namespace Go.Proofs.YtfnlfpcfkbdcmaaGreatDoor
section
open Go.RowKit
variable {A:q'}{B B' base c g k n size:O}{E e t:TypeId}{b xs:S la}{bs:qn}{cs:Array la}{p:Addr}{v:la}{w w':I}
def B8 (b:AB):Value:=gR (b.toNat:V)
def I64 (n:V):Value:=e' n
theorem xF (a:Addr) (n:O):(a.add n).block=a.block:=by unfold Addr.add;split<;>rfl
theorem QZ (a:Addr) (i j:O):(a.add i).add j=a.add (i+j):=by
 unfold Addr.add;by_cases hi:i=0<;>by_cases b:j=0<;>simp [hi,b,vo]
def E' (w:I) (B size:O) (A:q') (n:O) (b:S la):Prop:=
 U b=n*size/\(0<n-> ∃a,A=some a/\a.block<B/\ ∀j u,b[j]? =some u->i' w (a.add j)=some u)
theorem E'.none_:E' w B size A 0 []:=⟨s8,λh=>absurd h M⟩
theorem E'.at_ (h:E' w B 1 A n xs) (f:k<n): ∃a u,A=some a/\a.block<B/\xs[k]? =some u/\i' w (a.add k)=some u:=by
 obtain⟨a,e,d,c⟩:=h.2 M;have b:k<U xs:=by have:=h.1;omega
 exact⟨a,_,e,d,qX b,c k _ (qX b)⟩
theorem E'.keep (h:E' w B size A n xs) (f: ∀p:Addr,p.block<B->i' w' p=i' w p):E' w' B size A n xs:=
 ⟨h.1,λb=>by
  obtain⟨g,e,a,c⟩:=h.2 b;exact⟨g,e,a,λj u d=>(f _ (by rw [xF];exact a)).trans (c j u d)⟩⟩
theorem E'.more (h:E' w B size A n xs) (f:B<=B'):E' w B' size A n xs:=
 ⟨h.1,λa=>by
  obtain⟨c,e,d,b⟩:=h.2 a;exact⟨c,e,M,b⟩⟩
theorem E'.below (h:E' w B size A n xs) (a:r' B w w'):E' w' B size A n xs:=h.keep λ_ b=>a.cell b
theorem E'.drew (h:E' w B size A n xs):E' w.drew B size A n xs:=h
theorem E'.drewN (h:E' w B size A n xs) (k:O):E' (w.drewN k) B size A n xs:=h
theorem E'.alloc (h:E' w B size A n xs) (a:B<=(w:O)) (o:Obj):E' (w.alloc o) B size A n xs:=h.keep λp b=>World.cell?_alloc_lt w o p M
theorem E'.setCell (h:E' w B size A n xs) (b:B<=p.block) (u:la):E' (w.setCell p u) B size A n xs:=
 h.keep λq a=>World.cell?_setCell_other w p q u (λe=>by subst e;omega)
theorem E'.cut (h:E' w B size A n xs) {cap:O} (g:k<=n) (e:n<=cap):
  E' w B size (if cap=k then A else A.map (·.add (k*size))) (n-k) (xs.drop (k*size)):=by
 refine⟨by rw [qI,h.1,Nat.sub_mul],λf=> ?_⟩;obtain⟨d,rfl,b,a⟩:=h.2 M;rw [qJ M];refine⟨d.add (k*size),rfl,by rw [xF];exact b,λj u c=> ?_⟩;rw [QZ];exact a _ u (by rw [<-c,jt])
theorem E'.take (h:E' w B size A n xs) (d:k<=n):E' w B size A k (xs.take (k*size)):=by
 refine⟨by rw [qh,h.1];exact vZ (zk _ d),λf=> ?_⟩;obtain⟨e,rfl,c,b⟩:=h.2 M;refine⟨e,rfl,c,λj u a=>b j u ?_⟩;rw [xZ] at a;split at a
 ·exact a
 ·cases a
theorem E'.zY (h:xp w base e size (Z A n c) n xs):E' w w size A n xs:=by
 refine⟨h.1,λb=> ?_⟩;obtain⟨g,cap,a,_,f⟩:=h.form b;have d:A=some ⟨g,0,none⟩:=by injection a
 subst d;exact⟨_,rfl,f,h.cells rfl⟩
theorem yM {w:I} (h:i' w p=some v):p.block<(w:O):=by
 rcases jE p.block (w:O) with b|a
 ·exact b
 ·simp [World.cell?,zg a] at h
theorem LX {a:Type} (f:a->la) (l:S a) (k:O) (u:la) (h:(l.map f)[k]? =some u): ∃x,l[k]? =some x/\u=f x:=by
 rw [qD] at h;cases b:l[k]?with
 |none=>rw [b] at h;cases h
 |some x=>rw [b] at h;exact⟨x,rfl,by injection h with h;exact h.symm⟩
theorem E'.byte {w:I} {B n:O} {A:q'} (h:E' w B 1 A n (bs.map B8)) (e:k<n):
  ∃a b,A=some a/\a.block<B/\bs[k]? =some b/\i' w (a.add k)=J (gR (b.toNat:V)):=by
 obtain⟨a,u,f,d,i,c⟩:=h.at_ e;obtain⟨b,g,rfl⟩:=LX _ _ k u i;exact⟨a,b,f,d,g,c⟩
theorem E'.len {w:I} {B n:O} {A:q'} {a:Type} {f:a->la} {bs:S a} (h:E' w B 1 A n (bs.map f)):U bs=n:=by
 have:=h.1;simpa using this
def F' (w:I) (g:O) (t:TypeId) (a:Array la):Prop:=w.heap[g]? =J (Y a t (0,0))
theorem F'.lt (h:F' w g t cs):g<(w:O):=by
 rcases jE g (w:O) with a|b
 ·exact a
 ·unfold F' at h;rw [zg b] at h;cases h
theorem F'.cell (h:F' w g t cs) (i:O):i' w ⟨g,i,none⟩=cs[i]? :=cell_of_row w g i _ t _ h
theorem F'.frozen (h:F' w g t cs) (i:O):w.frozen? ⟨g,i,none⟩=false:=by
 unfold F' at h;simp [World.frozen?,h]
theorem F'.new (w:I) (t:TypeId) (a:Array la):F' (w (Y a t)) w t a:=heap_alloc_new w _
theorem F'.drew (h:F' w g t cs):F' w.drew g t cs:=h
theorem F'.alloc (h:F' w g t cs) (o:Obj):F' (w.alloc o) g t cs:=(Below.heap_alloc w o g h.lt).trans h
theorem F'.zh (h:F' w g t cs) (i:O) (u:la):F' (w.setCell ⟨g,i,none⟩ u) g t (cs.setIfInBounds i u):=by
 unfold F' at h⊢;simp [World.setCell,Array.getElem?_modify,h]
theorem F'.far (h:F' w g t cs) (a:g≠p.block) (u:la):F' (w.setCell p u) g t cs:=(jT w p u g a).trans h
theorem F'.below {B:O} (h:F' w g t cs) (b:r' B w w') (a:g<B):F' w' g t cs:=(b.block g a).trans h
theorem F'.grown {row:Option O} (h:F' w g t cs) (b:w.grownBy w' row) (a:some g≠row):F' w' g t cs:=(b.block g h.lt a).trans h
theorem F'.ne_ {b:TypeId} {d:Array la} (h:F' w g t cs) (a:F' w c b d) (e:t≠b):g≠c:=by
 rintro rfl;unfold F' at h a;rw [h] at a;injection a with a;injection a with _ ht;exact e ht
theorem F'.row (h:F' w g t cs) (a:Array la):F' (w.setRow g a) g t a:=setRow_heap w g _ a t _ h
theorem F'.cQ {a:O} (h:F' w g t cs) (c:g≠a) (b:Array la):F' (w.setRow a b) g t cs:=(QO w a g b c).trans h
theorem zu {B:O} {a:I} (h:r' B a w) (c:B<=g) (b:Array la):r' B a (w.setRow g b):=
 h.trans ⟨rfl,rfl,rfl,by rw [Xk];exact qx _,λk d=>QO w g k b M⟩
def yG (w w':I) (E:TypeId) (A:q') (n c:O) (a:S la):Prop:=xp w' w E 1 (Z A n c) n a/\r' w w w'
theorem yG.reads {w w':I} {A:q'} {n:O} {a:S la} (h:yG w w' E A n c a):E' w' w' 1 A n a:=E'.zY h.1
theorem yG.below {w w':I} {A:q'} {n:O} {a:S la} (h:yG w w' E A n c a):r' w w w':=h.2
theorem yG.nil (w:I) (E:TypeId):yG w w E none 0 0 []:=⟨qP w _ E 1,qZ _ _⟩
theorem Hq {w:I} {n:O} {a:S la} (h:xp w base E 1 v n a): ∃A c,v=Z A n c:=by
 rcases h.2 with⟨rfl,rfl⟩|⟨g,cap,cur,rfl,_⟩
 ·exact⟨_,0,rfl⟩
 ·exact⟨_,_,rfl⟩
theorem jC {w:I} {size n:O} {A:q'} {a:S la} (h:xp w base E size (Z A n c) n a):n<=c/\c<=maxLen:=by
 rcases h.2 with⟨h0,h1⟩|⟨g,cap,cur,h0,_,_,h2,h3,_⟩
 ·injection h0 with _ _ h4;subst h4;subst h1;exact⟨qx _,qp _⟩
 ·injection h0 with _ _ h4;subst h4;exact⟨h2,h3⟩
theorem Qv {w w':I} {size n:O} (h:xp w base E size v n b) (d:r' w w w'):xp w' base E size v n b:=by
 refine⟨h.1, ?_⟩;rcases h.2 with c|⟨g,cap,cur,rfl,h1,h2,h3⟩
 ·exact .inl c
 ·have a:g<(w:O):=by
   rcases jE g (w:O) with a|e
   ·exact a
   ·rw [zg e] at h2;cases h2
  exact .inr ⟨g,cap,cur,rfl,h1,(d.block g a).trans h2,h3⟩
theorem qi {w:I} {base':O} {size n:O} {a:S la} (h:xp w base E size v n a) (c:base'<=base):xp w base' E size v n a:=by
 refine⟨h.1, ?_⟩;rcases h.2 with b|⟨g,cap,cur,rfl,h1,h2⟩
 ·exact .inl b
 ·exact .inr ⟨g,cap,cur,rfl,qv c h1,h2⟩
theorem aT: ∀(ns:qn) (s:ByteArray),(ns.map (λb=>(b.toNat:V))).foldl (λr n=>r.push (UInt8.ofNat n.toNat)) s=⟨s.data++ns.toArray⟩
 |[],s=>s8
 |b::ns,s=>by
  rw [jy,List.foldl_cons,aT ns];have e:UInt8.ofNat ((b.toNat:V).toNat)=b:=s8;rw [e];apply ByteArray.ext;simp [ByteArray.push]
theorem Kf {P:Program} {w:I} {B n:O} {A:q'} (k d e:TypeId) (s:P.underlying k=J (.slice e)) (i:P.underlying e=J (.int .u8)) (r:P.underlying d=some .string) (h:E' w B 1 A n (bs.map B8)):
  (convert k d (Z A n c)).run P w= .ok (.string ⟨bs.toArray⟩) w:=by
 rw [run_convert_bytes_string w k d e A n c s i r];have m:=h.len;rcases A with _|a
 ·have h0:n=0:=by
   rcases zA n with h0|h0
   ·exact h0
   ·obtain⟨a,i,_⟩:=h.2 h0;cases i
  have f:bs=[]:=zl M;subst f;simp [Conv.bytesToString,Sem.run_pure];rfl
 ·have q:(loadCells a n).run P w= .ok ((bs.map (λb=>(b.toNat:V))).map (Value.int .u8)).toArray w:=by
   have t:(bs.map (λb=>(b.toNat:V))).map (Value.int .u8)=bs.map B8:=by rw [vC];rfl
   rw [t];have:=run_loadCells_list (P:=P) (w:=w) a (bs.map B8) (λj v l=>by
    have o:0<n:=by
     rcases zA n with h0|h0
     ·have f:bs=[]:=zl M;subst f;simp at l
     ·exact h0
    obtain⟨u,g,_,p⟩:=h.2 o;injection g with g;subst g;exact p j v l)
   rwa [zH,m] at this
  rw [run_bytesToString w a n c _ q,aT];simp
def Dr (w w':I):Prop:= ∃m,w'=w.drewN m
theorem Dr.refl (w:I):Dr w w:=⟨0,rfl⟩
theorem Dr.drewN {a w:I} (h:Dr a w) (n:O):Dr a (w.drewN n):=by
 obtain⟨m,rfl⟩:=h;exact⟨_,by rw [World.drewN_drewN]⟩
theorem Dr.trans {a b c:I} (h:Dr a b) (k:Dr b c):Dr a c:=by
 obtain⟨m,rfl⟩:=k;exact h.drewN m
theorem Dr.reads {a w:I} (h:Dr a w) {B size n:O} {A:q'} (r:E' a B size A n b):E' w B size A n b:=by
 obtain⟨m,rfl⟩:=h;exact r.drewN m
end
section
open Go.RowKit
variable {E e:TypeId}{P:Program}{Q:Exit->Act->I->Prop}{a:Act}{b:S la}{bs:qn}{c k:O}{o:Oper}{ops:Array Oper}{p:Addr}{rest:S Oper}{w:I}
theorem Dr.size {a w:I} (h:Dr a w):(w:O)=(a:O):=by
 obtain⟨m,rfl⟩:=h;rfl
theorem Dr.below {a w:I} (h:Dr a w) (B:O):r' B a w:=by
 obtain⟨m,rfl⟩:=h;exact⟨rfl,rfl,rfl,qx _,λ_ _=>rfl⟩
theorem Yo (m:o.guard=none) (d:TypeId) (x y:Operand) (j:o.op= .store d x y)
  (g:O) (cells:Array la) (q:a.eval x=mJ g) (n:a.eval y= .agg cells)
  (t:TypeId) (e:Array la) (f:F' w g t e) (hi:(P.info? d).map (·.size)=some cells.size)
  (l:e.size=cells.size) (h1:cells.all (·.oneCell')=true)
  (h: ∀c,F' c g t cells->(∀b,b≠g->c.heap[b]? =w.heap[b]?)->(∀B a,r' B a w->B<=g->r' B a c)->(c:O)=(w:O)->wpList P ops Q rest (a.put o.dst undef) c):wpList P ops Q (o::rest) a w:=
 qC m d x y j g _ q n t e f hi l h1 (h _ (f.row _) (λb k=>QO w g b _ k) (λ_ _ p i=>zu p i _) (Xk w g _))
def Qr (E:TypeId) (w:I) (r:qn) (a:V) (e:Ending) (w':I):Prop:= ∃A c,e=t' (BA #[Z A r c,a])/\yG w w' E A r c (r.map B8)
def U8 (E:TypeId) (w:I) (n:O) (r:qn) (a:V) (e:Ending) (w':I):Prop:= ∃A c,e=t' (BA #[Z A n c,a])/\yG w w' E A n c (r.map B8)
theorem Hz {w:I} {n:O} {r:qn} {a:V} (h:U r=n):Qr E w r a=U8 E w n r a:=by subst h;rfl
def xo (A:q') (c k s:O):q':=if c=k then A else A.map (·.add (k*s))
theorem jI {P:Program} (t e:TypeId) (i:TypeInfo) (s:O) (ht:P.underlying t=J (.slice e)) (hi:P.info? e=some i) (d:i.size=s) (A:q') (n c k:O) (kl:IntKind) (g:k<=n) (W:I):
  (Instr.slice t (Z A n c) (some (.int kl (k:V))) none none).run P W= .ok (Z (xo A c k s) (n-k) (c-k)) W:=by
 have b:P.elem t=e:=by simp [Program.elem,ht]
 rw [run_slice_l (a:=A) (len:=n) (cap:=c) (ht:=by rw [b];exact ht) (kl:=kl) (l:=(k:V)) (h0:=by omega) (h1:=by omega),b];have f:(sizeOf e).run P W= .ok s W:=by simp [sizeOf,typeInfo,hi,d]
 rw [f];simp [Result.andThen,sliced,xo]
theorem Vo {P:Program} (t e:TypeId) (i:TypeInfo) (s:O) (ht:P.underlying t=J (.slice e)) (hi:P.info? e=some i) (f:i.size=s) (A:q') (n c k h:O) (kl kh:IntKind) (g:k<=h) (j:h<=c) (W:I):
  (Instr.slice t (Z A n c) (some (.int kl (k:V))) (some (.int kh (h:V))) none).run P W= .ok (Z (xo A c k s) (h-k) (c-k)) W:=by
 have b:P.elem t=e:=by simp [Program.elem,ht]
 rw [run_slice_lh (a:=A) (len:=n) (cap:=c) (ht:=by rw [b];exact ht) (kl:=kl) (kh:=kh) (l:=(k:V)) (h:=(h:V)) (h0:=by omega) (h1:=by omega) (h2:=by omega),b];have d:(sizeOf e).run P W= .ok s W:=by simp [sizeOf,typeInfo,hi,f]
 rw [d];simp [Result.andThen,sliced,xo]
theorem E'.VC {w:I} {B n:O} {A:q'} {a:Type} {f:a->la} {bs:S a} (h:E' w B 1 A n (bs.map f)) (d:k<=n) (b:n<=c):E' w B 1 (xo A c k 1) (n-k) ((bs.drop k).map f):=by
 have h2:=h.cut d b;rw [List.map_drop];rw [z_] at h2;unfold xo;rw [z_];exact h2
theorem E'.takeN {w:I} {B n:O} {A:q'} {a:Type} {f:a->la} {bs:S a} (h:E' w B 1 A n (bs.map f)) (b:k<=n):E' w B 1 A k ((bs.take k).map f):=by
 have h2:=h.take b;rw [z_] at h2;rw [List.map_take];exact h2
def vm (w:I) (B:O) (A:q') (n:O) (c:S qn):Prop:=
 ∃cs:S la,E' w B 1 A n cs/\U c=n/\ ∀(i:O) (xs:qn),c[i]? =some xs-> ∃(Ai:q') (a b:O),cs[i]? =J (Z Ai a b)/\a<=b/\b<=maxLen/\E' w B 1 Ai a (xs.map B8)
theorem vm.row {w:I} {B n:O} {A:q'} {d:S qn} (h:vm w B A n d) (l:k<n):
  ∃c xs Ai b a,A=some c/\c.block<B/\d[k]? =some xs/\i' w (c.add k)=J (Z Ai b a)/\b<=a/\a<=maxLen/\E' w B 1 Ai b (xs.map B8):=by
 obtain⟨cs,f,o,g⟩:=h;obtain⟨c,u,m,i,j,e⟩:=f.at_ l;obtain⟨Ai,b,a,h1,h2,h3,h4⟩:=g k (d[k]'M) (qX _);rw [j] at h1;injection h1 with h1;subst h1;exact⟨c,_,_,b,a,m,i,qX _,e,h2,h3,h4⟩
theorem vm.below {w w':I} {B n:O} {A:q'} {b:S qn} (h:vm w B A n b) (a:r' B w w'):vm w' B A n b:=by
 obtain⟨cs,c,e,d⟩:=h;refine⟨cs,c.below a,e,λi xs hi=> ?_⟩;obtain⟨Ai,g,f,h1,h2,h3,h4⟩:=d i _ hi;exact⟨_,g,f,h1,h2,h3,h4.below a⟩
theorem vm.more {w:I} {B b n:O} {A:q'} {a:S qn} (h:vm w B A n a) (c:B<=b):vm w b A n a:=by
 obtain⟨cs,d,f,e⟩:=h;refine⟨cs,d.more c,f,λi xs hi=> ?_⟩;obtain⟨Ai,j,g,h1,h2,h3,h4⟩:=e i _ hi;exact⟨_,j,g,h1,h2,h3,h4.more c⟩
theorem sF {w:I} {B n:O} {A:q'} (t:TypeId) (h:E' w B 1 A n (bs.map B8)) (e:B<=(w:O)) (b:n<=c) (d:c<=maxLen):
  vm (w (Y #[Z A n c] t)) ((w:O)+1) w 1 [bs]:=by
 refine⟨[Z A n c],⟨rfl,λ_=>⟨_,rfl,ze _,λj u a=> ?_⟩⟩,rfl,λi xs hi=> ?_⟩
 ·match j,a with
  |0,a=>
   simp at a;subst a;exact(F'.new w t #[Z A n c]).cell 0
 ·match i,hi with
  |0,hi=>
   simp at hi;subst hi;exact⟨A,n,c,rfl,b,d,(h.alloc e _).more M⟩
end
section
open Go.RowKit
variable {e:TypeId}
variable {K:Act->I->Prop} {Q:Exit->Act->I->Prop} {a:Act} {k:Array Oper} {n:O} {o:Oper}
variable {P:Program} (w:I)
theorem Uq (base:O) (t f e:TypeId) (i:TypeInfo) (size:O) (ht:P.underlying t=J (.slice e)) (hi:P.info? e=some i)
  (v:la) (n:O) (b:S la) (a:xp w base e size v n b) (c:O):(Builtin.append_ #[t,t] f #[v,Z none 0 c]).run P w= .ok v w:=by
 rcases a.2 with⟨rfl,rfl⟩|⟨g,cap,cur,rfl,_,_,d,_⟩
 ·simp [Builtin.append_,run_underlying ht,sizeOf,typeInfo,hi,Builtin.lenOf,Builtin.firstCells]
 ·simp [Builtin.append_,run_underlying ht,sizeOf,typeInfo,hi,Builtin.lenOf,Builtin.firstCells,d,storeCells]
theorem X_ {w:I} {base:O} {E:TypeId} {size:O} {v:la} {a:S la} (h:xp w base E size v n a): ∃A c,v=Z A n c:=by
 rcases h.2 with⟨rfl,rfl⟩|⟨g,cap,cur,rfl,_⟩
 ·exact⟨_,0,rfl⟩
 ·exact⟨_,_,rfl⟩
def JU (w:I) (A a:q'):Prop:=a.map (·.block)=A.map (·.block)\/a.map (·.block)=some (w:O)
theorem jH (A:q') (n c:O):(Value.slice A n c).ownBlock=A.map (·.block):=by cases A<;>rfl
theorem fW (base:O) (t o e:TypeId) (i:TypeInfo) (z:la) (size bytes:O) (ht:P.underlying t=J (.slice e)) (hi:P.info? e=some i) (v:i.zero=some z)
  (E:i.size=size) (F:i.bytes=bytes) (ln:z.cells.size=size) (x:0<size)
  (d:q') (n c0:O) (k:S la) (l:xp w base e size (Z d n c0) n k)
  (B:O) (A:q') (m c:O) (a:S la) (f:E' w B size A m a) (h1: ∀u∈a,u.oneCell'=true)
  (D:n+m<=maxLen) (H:(n+m)*bytes<=140737488355328) (y:base<=(w:O)):
  ∃b g w',(Builtin.append_ #[t,t] o #[Z d n c0,Z A m c]).run P w= .ok (Z b (n+m) g) w'/\xp w' base e size (Z b (n+m) g) (n+m) (k++a)/\w.grownBy w' (d.map (·.block))/\JU w d b:=by
 rcases A with _|p
 ·have Q:m=0:=by
   rcases zA m with h0|h0
   ·exact h0
   ·obtain⟨p,h,_⟩:=f.2 h0;cases h
  subst Q;have q:=zl (by simpa using f.1);subst q;exact⟨d,_,w,Uq w _ t o e i _ ht hi _ n k l c,by simpa using l,World.grownBy.refl w _, .inl rfl⟩
 ·have C: ∀j u,a[j]? =some u->i' w (p.add j)=some u:=by
   intro j u r;rcases zA m with h0|h0
   ·subst h0;have q:=zl (by simpa using f.1);subst q;simp at r
   ·obtain⟨K,h,_,N⟩:=f.2 h0;injection h with h;subst h;exact N j u r
  obtain⟨L,w',s,h2,h3,_,h5⟩:=run_append_own_at w _ t o e i z _ _ ht hi v E F ln x _ n k l p m c a f.1 C h1 D H y;obtain⟨b,g,rfl⟩:=X_ h2;rw [jH] at h3;rw [jH,jH] at h5;exact⟨b,g,_,s,h2,h3,h5⟩
theorem Ye {Q:Exit->Act->I->Prop} (s x:Operand) (t:TypeId) (C:o.op= .call {callee:= .builtin .append,args:= #[s,x],argTypes:= #[t,t]}) (base:O) (e:TypeId) (i:TypeInfo) (z:la) (size bytes:O) (ht:P.underlying t=J (.slice e)) (hi:P.info? e=some i) (l:i.zero=some z) (D:i.size=size) (E:i.bytes=bytes) (ln:z.cells.size=size) (q:0<size) (d:q') (n c0:O) (j:S la) (ih:a.eval s=Z d n c0) (p:xp w base e size (Z d n c0) n j) (B:O) (A:q') (m c:O) (g:S la) (y:a.eval x=Z A m c) (F:E' w B size A m g) (h1: ∀u∈g,u.oneCell'=true) (v:n+m<=maxLen) (H:(n+m)*bytes<=140737488355328) (r:base<=(w:O)) (h: ∀b f w',xp w' base e size (Z b (n+m) f) (n+m) (j++g)->w.grownBy w' (d.map (·.block))->JU w d b->K (a.put o.dst (Z b (n+m) f)) w'):o.wp P a w K Q:=by
 obtain⟨b,f,w',k,h2,h3,h4⟩:=fW w _ t o.type e i z _ _ ht hi l D E ln q d n _ j p B A m c g F h1 v H r;unfold Oper.wp execOp;simp only [C,resolve,invoke,builtin,Sem.run_bind,Sem.run_pure,Result.andThen_ok,List.map_toArray,jy,xB,ih,y,k];exact h b f _ h2 h3 h4
theorem qF {rest:S Oper} (v:o.guard=none) (s x:Operand) (t:TypeId) (D:o.op= .call {callee:= .builtin .append,args:= #[s,x],argTypes:= #[t,t]}) (base:O) (e:TypeId) (i:TypeInfo) (z:la) (size bytes:O) (ht:P.underlying t=J (.slice e)) (hi:P.info? e=some i) (l:i.zero=some z) (E:i.size=size) (F:i.bytes=bytes) (H:z.cells.size=size) (q:0<size) (d:q') (n c0:O) (j:S la) (K:a.eval s=Z d n c0) (p:xp w base e size (Z d n c0) n j) (B:O) (A:q') (m c:O) (g:S la) (C:a.eval x=Z A m c) (ln:E' w B size A m g) (h1: ∀u∈g,u.oneCell'=true) (y:n+m<=maxLen) (ih:(n+m)*bytes<=140737488355328) (r:base<=(w:O)) (h: ∀b f w',xp w' base e size (Z b (n+m) f) (n+m) (j++g)->w.grownBy w' (d.map (·.block))->JU w d b->wpList P k Q rest (a.put o.dst (Z b (n+m) f)) w'):wpList P k Q (o::rest) a w:=
 wpList_plain v λ_ L=>Ye w s x t D _ e i z _ _ ht hi l E F H q d n _ j K p B A m c g C ln h1 y ih r λb f w' h2 h3 h4=>L _ _ (h b f _ h2 h3 h4)
theorem jm {E:Prop} (y:o.guard=none) (s x:Operand) (t:TypeId) (F:o.op= .call {callee:= .builtin .append,args:= #[s,x],argTypes:= #[t,t]}) (base:O) (e:TypeId) (i:TypeInfo) (z:la) (size bytes:O) (ht:P.underlying t=J (.slice e)) (hi:P.info? e=some i) (l:i.zero=some z) (ln:i.size=size) (H:i.bytes=bytes) (hh:z.cells.size=size) (q:0<size) (b:q') (n c0:O) (g:S la) (uK:a.eval s=Z b n c0) (p:xp w base e size (Z b n c0) n g) (B:O) (A:q') (m c:O) (d:S la) (D:a.eval x=Z A m c) (ih:E' w B size A m d) (h1: ∀u∈d,u.oneCell'=true) (C:n+m<=maxLen) (L:(n+m)*bytes<=140737488355328) (r:base<=(w:O)) (h: ∀f j w',xp w' base e size (Z f (n+m) j) (n+m) (g++d)->w.grownBy w' (b.map (·.block))->JU w b f->K (a.put o.dst (Z f (n+m) j)) w'):
  if Region.wanted o (yielded k a.tmps)=true then Oper.wp P o a w K Q else E:=by
 have v:Region.wanted o (yielded k a.tmps)=true:=by simp [Region.wanted,y]
 rw [qk v];exact Ye w s x t F _ e i z _ _ ht hi l ln H hh q b n _ g uK p B A m c d D ih h1 C L r h
end
section
open Go.RowKit
variable {a:Act}{e:TypeId}{k:Array Oper}{n:O}
theorem zU (w:I) (x:la) (t:TypeId):E' (w (Y #[x] t)) ((w:O)+1) 1 w 1 [x]:=
 ⟨rfl,λ_=>⟨_,rfl,ze _,cell_one_new w x t⟩⟩
theorem IB {x:la} (h:x.oneCell'=true): ∀u∈[x],u.oneCell'=true:=by
 intro u a;rw [qy.1 a];exact h
theorem zG {B:O} {a w w':I} {size c:O} {A:q'} {g:S la} (d:r' B a w) (h:w.grownBy w' (A.map (·.block))) (b:xp w B e size (Z A n c) n g) (i:B<=(w:O)):r' B a w':=
 d.grown h i (λk f=>(b.lt k (by rw [jH];exact f)).1)
end
section
variable {P:Program}{Q:Exit->Act->I->Prop}{iv:I->Prop}{a a':Act}{b c g:Oper}{e:TypeId}{f fuel i n:O}{listed:Array Bool}{md:Region.Mode}{ops:Array Oper}{v:la}{w:I}
theorem ZS {a:Oper} {rest:S Oper} (hi:ops.toList.drop i=a::rest):ops[i]? =some a:=by
 have h:(ops.toList.drop i)[0]? =some a:=by rw [hi];rfl
 rw [jt,v_,Array.getElem?_toList] at h;exact h
def jR (P:Program) (c:Region.Mode) (b:Array Oper) (Q:Exit->Act->I->Prop) (iv:I->Prop) (n:O):O->Array Bool->Act->I->Prop
 |0,listed,a,w=>Region.ready c b listed=[]/\Q .normal a w
 |fuel+1,listed,a,w=>
  (Region.ready c b listed=[]->Q .normal a w)/\
  ∀i∈Region.ready c b listed,wpOp P b Q i (λa' w'=>(i<n->iv w->iv w')/\jR P c b Q iv n fuel (listed.setIfInBounds i true) a' w') a w
theorem Xw: ∀(fuel:O) (listed:Array Bool) (a:Act) (w:I),jR P md ops Q iv n fuel listed a w->wpAny P md ops Q fuel listed a w
 |0,_,_,_,h=>h
 |fuel+1,_,_,_,h=>⟨h.1,λi hi=>wpOp_mono (λa' w' b=>Xw _ _ _ _ b.2) (h.2 i hi)⟩
def wW (b:Region.Mode) (a:Array Oper) (n i:O):Bool:=(List.range a.size).all λj=>decide (j<n)||(match a[j]?with|some o=>o.after.any (λe=>Region.binds b e&&e.on==i)|none=>true)
theorem Kw (h:wW md ops n i=true): ∀j a,ops[j]? =some a->n<=j-> ∃e∈a.after,Region.binds md e=true/\e.on=i:=by
 intro j a b f;have d:=(Array.getElem?_eq_some_iff.1 b).1;have h1:=xT.1 h j (js.2 d);simp only [b,J3,zd] at h1;rcases h1 with h1|h1
 ·omega
 ·rw [Array.any_eq_true] at h1;obtain⟨k,c,h1⟩:=h1;rw [zR,yp] at h1;exact⟨_,Array.getElem_mem c,h1.1,h1.2⟩
theorem Xg (hi:ops[i]? =some g) (z: ∀(j:O) (o:Oper) p b,ops[j]? =some o->o.op≠ .select p b) (N: ∀j d,ops[j]? =some d->n<=j-> ∃e∈d.after,Region.binds md e=true/\e.on=i) (ih: ∀c a w,Q (.panic c) (a.put g.dst v) w->Q (.panic c) a w):
  ∀(fuel:O) (listed:Array Bool) (a:Act) (w:I),
   (∀j d,ops[j]? =some d->j≠i->listed.getD j true=false->(∀e∈d.after,Region.binds md e=true->e.on≠i)->g.apart ops d=true)->
   i∈Region.ready md ops listed->YieldsIf P ops iv g v a->iv w->
   jR P md ops Q iv n fuel (listed.setIfInBounds i true) (a.put g.dst v) w->jR P md ops Q iv n (fuel+1) listed a w:=by
 intro fuel;induction fuel with
 |zero=>
  intro listed a w _ l t q H;refine⟨λh=>(by rw [h] at l;cases l),λj r=> ?_⟩;by_cases f:j=i
  ·subst f;exact t.wpOp hi q ⟨λ_ h=>h,H⟩
  ·have:=Jq r f;rw [H.1] at this;cases this
 |succ fuel uK=>
  intro listed a w A l t q H;refine⟨λh=>(by rw [h] at l;cases l),λj r=> ?_⟩;by_cases f:j=i
  ·subst f;exact t.wpOp hi q ⟨λ_ h=>h,H⟩
  ·have h1:=H.2 j (Jq r f);obtain⟨C,d,s,X⟩:=mem_ready.1 r;have E: ∀e∈d.after,Region.binds md e=true->e.on≠i:=λe u x y=>by
    have h1:=X e u x;have h0:=(mem_ready.1 l).1;rw [y] at h1;rcases jE i listed.size with m|m
    ·simp [m] at h0 h1;rw [h0] at h1;cases h1
    ·simp [zg m] at h1
   have D:j<n:=by
    rcases jE j n with m|m
    ·exact m
    ·obtain⟨e,u,x,y⟩:=N j d s m;exact absurd y (E e u x)
   have h2:=wpOp_putIf s (A j d s f C E) (λp b=>z i g p b hi) (λp b=>z j d p b s) ih t h1;have W: ∀k ok,ops[k]? =some ok->k≠i->(listed.setIfInBounds j true).getD k true=false->
     (∀e∈ok.after,Region.binds md e=true->e.on≠i)->g.apart ops ok=true:=λk ok R L B K=>by
    refine A k ok R L ?_ K;by_cases F:j=k
    ·subst F;exact C
    ·rw [getD_set_ne true F] at B;exact B
   refine wpOp_mono (λa' w' h3=>⟨λ_ h=>h3.2.1 D h,uK (listed.setIfInBounds j true) a' w' W (Jq l (Zi f)) h3.1 (h3.2.1 D q) ?_⟩) h2;rw [Jm _ _ f];exact h3.2.2
theorem eQ (hi:ops[i]? =some g) (t: ∀(j:O) (o:Oper) m b,ops[j]? =some o->o.op≠ .select m b) (B: ∀c a w,Q (.panic c) (a.put g.dst v) w->Q (.panic c) a w):
  ∀(fuel:O) (listed:Array Bool) (a:Act) (w:I),
   (∀j f,ops[j]? =some f->j≠i->listed.getD j true=false->(∀e∈f.after,Region.binds md e=true->e.on≠i)->g.apart ops f=true)->
   i∈Region.ready md ops listed->YieldsIf P ops (λ_=>True) g v a->
   jR P md ops Q iv n fuel (listed.setIfInBounds i true) (a.put g.dst v) w->jR P md ops Q iv n (fuel+1) listed a w:=by
 intro fuel;induction fuel with
 |zero=>
  intro listed a w _ l q H;refine⟨λh=>(by rw [h] at l;cases l),λj p=> ?_⟩;by_cases d:j=i
  ·subst d;exact q.wpOp hi trivial ⟨λ_ h=>h,H⟩
  ·have:=Jq p d;rw [H.1] at this;cases this
 |succ fuel F=>
  intro listed a w u l q H;refine⟨λh=>(by rw [h] at l;cases l),λj p=> ?_⟩;by_cases d:j=i
  ·subst d;exact q.wpOp hi trivial ⟨λ_ h=>h,H⟩
  ·have h1:=H.2 j (Jq p d);obtain⟨y,f,s,A⟩:=mem_ready.1 p;have N: ∀e∈f.after,Region.binds md e=true->e.on≠i:=λe R K X=>by
    have h1:=A e R K;have h0:=(mem_ready.1 l).1;rw [X] at h1;rcases jE i listed.size with r|r
    ·simp [r] at h0 h1;rw [h0] at h1;cases h1
    ·simp [zg r] at h1
   have h2:=wpOp_putIf s (u j f s d y N) (λm b=>t i g m b hi) (λm b=>t j f m b s) B q h1;have C: ∀k ok,ops[k]? =some ok->k≠i->(listed.setIfInBounds j true).getD k true=false->
     (∀e∈ok.after,Region.binds md e=true->e.on≠i)->g.apart ops ok=true:=λk ok L E x D=>by
    refine u k ok L E ?_ D;by_cases z:j=k
    ·subst z;exact y
    ·rw [getD_set_ne true z] at x;exact x
   refine wpOp_mono (λa' w' h3=>⟨λW h=>h3.2.1 W h,F (listed.setIfInBounds j true) a' w' C (Jq l (Zi d)) h3.1 ?_⟩) h2;rw [Jm _ _ d];exact h3.2.2
theorem Uj (i:O) {rest:S Oper} (hi:ops.toList.drop i=b::rest) (k:Region.noSelect ops=true) (l:Region.free md ops listed i=true) (d:(Region.ready md ops listed).contains i=true) (f:wW md ops n i=true) (e: ∀c a w,Q (.panic c) (a.put b.dst v) w->Q (.panic c) a w) (j:Region.wanted b (yielded ops a.tmps)=true) (g:iv w) (m: ∀w,iv w->(execOp a.eval b).run P w= .ok (.value v) w) (h:jR P md ops Q iv n fuel (listed.setIfInBounds i true) (a.put b.dst v) w):jR P md ops Q iv n (fuel+1) listed a w:=
 Xg (ZS hi) (Qi k) (Kw f) e _ _ a w (JV (ZS hi) l) (by simpa using d) (Or.inl ⟨j,m⟩) g h
def DS (P:Program) (c:Array Oper) (iv:I->Prop):S O->Act->Act->Prop
 |[],a,a'=>a'=a
 |i::d,a,a'=> ∃b rest v,c.toList.drop i=b::rest/\(Region.wanted b (yielded c a.tmps)=true/\(∀w,iv w->(execOp a.eval b).run P w= .ok (.value v) w)\/Region.wanted b (yielded c a.tmps)=false/\v=undef)/\DS P c iv d (a.put b.dst v) a'
theorem iS (a:Act):DS P ops iv [] a a:=rfl
theorem NW {c:S O} {rest:S Oper} (hi:ops.toList.drop i=b::rest) (d:Region.wanted b (yielded ops a.tmps)=true) (e: ∀w,iv w->(execOp a.eval b).run P w= .ok (.value v) w) (h:DS P ops iv c (a.put b.dst v) a'):DS P ops iv (i::c) a a':=⟨b,_,v,hi, .inl ⟨d,e⟩,h⟩
theorem Ns {c:S O} {rest:S Oper} (hi:ops.toList.drop i=b::rest) (d:Region.wanted b (yielded ops a.tmps)=false) (h:DS P ops iv c (a.put b.dst undef) a'):DS P ops iv (i::c) a a':=⟨b,_,_,hi, .inr ⟨d,rfl⟩,h⟩
def RF (b:Region.Mode) (a:Array Oper) (n:O):S O->Array Bool->Bool
 |[],_=>true
 |i::c,l=>Region.free b a l i&&(Region.ready b a l).contains i&&wW b a n i&&RF b a n c (l.setIfInBounds i true)
def Rg:S O->Array Bool->Array Bool
 |[],l=>l
 |i::a,l=>Rg a (l.setIfInBounds i true)
theorem Rh (b:S O) (p:U b<=f) (z:Region.noSelect ops=true) (m:RF md ops n b listed=true) (r: ∀t c a w,Q (.panic c) {a with tmps:=t} w->Q (.panic c) a w) (x:iv w) (j:DS P ops iv b a a') (h:jR P md ops Q iv n (f-U b) (Rg b listed) a' w):jR P md ops Q iv n f listed a w:=by
 induction b generalizing f listed a with
 |nil=>
  have e:a'=a:=j;subst e;exact h
 |cons i b s=>
  obtain⟨o,rest,v,hi,q,j⟩:=j;simp only [RF,zR] at m;obtain⟨⟨⟨c1,c2⟩,y⟩,u⟩:=m;obtain⟨g,rfl⟩: ∃g,f=g+1:=⟨f-1,by simp only [qf] at p;omega⟩;have h2:=s (f:=g) (by simp only [qf] at p;omega) u j (by
   have e:g+1-U (i::b)=g-U b:=by simp only [qf];omega
   rw [e] at h;exact h)
  exact Xg (ZS hi) (Qi z) (Kw y) (λc a w h=>by
   rcases hd:o.dst with _|d
   ·rw [hd] at h;exact h
   ·rw [hd] at h;exact r _ c a w h) g _ a w (JV (ZS hi) c1) (by simpa using c2) (by
   rcases q with⟨l,k⟩|⟨l,k⟩
   ·exact Or.inl ⟨l,k⟩
   ·exact Or.inr ⟨l,k⟩) x h2
theorem zq (b:S O) (h:jR P md ops Q iv n (f-U b) (Rg b listed) a' w) (k:U b<=f:=by decide) (j:Region.noSelect ops=true:=by kernel_rfl) (d:RF md ops n b listed=true:=by kernel_rfl) (e: ∀t c a w,Q (.panic c) {a with tmps:=t} w->Q (.panic c) a w:=by exact λ_ _ _ _ h=>h) (g:iv w:=by assumption) (l:DS P ops iv b a a':=by(repeat (first|refine Ns rfl SQ ?_|(refine NW (v:= ?_) rfl SQ ?_ ?_;rotate_left;(intro W i;(try dsimp only at i);go_simp;first|done|with_reducible rfl))));(try simp only [Act.put,qQ,qY,qV]);exact iS _):jR P md ops Q iv n f listed a w:=Rh b k j d e g l h
def OV (b:Region.Mode) (a:Array Oper):S O->Array Bool->Bool
 |[],_=>true
 |i::c,l=>Region.free b a l i&&(Region.ready b a l).contains i&&OV b a c (l.setIfInBounds i true)
theorem Iq (b:S O) (p:U b<=f) (x:Region.noSelect ops=true) (m:OV md ops b listed=true) (r: ∀t c a w,Q (.panic c) {a with tmps:=t} w->Q (.panic c) a w) (j:DS P ops (λ_=>True) b a a') (h:jR P md ops Q iv n (f-U b) (Rg b listed) a' w):jR P md ops Q iv n f listed a w:=by
 induction b generalizing f listed a with
 |nil=>
  have e:a'=a:=j;subst e;exact h
 |cons i b s=>
  obtain⟨o,rest,v,hi,q,j⟩:=j;simp only [OV,zR] at m;obtain⟨⟨c1,c2⟩,u⟩:=m;obtain⟨g,rfl⟩: ∃g,f=g+1:=⟨f-1,by simp only [qf] at p;omega⟩;have h2:=s (f:=g) (by simp only [qf] at p;omega) u j (by
   have e:g+1-U (i::b)=g-U b:=by simp only [qf];omega
   rw [e] at h;exact h)
  exact eQ (ZS hi) (Qi x) (λc a w h=>by
   rcases hd:o.dst with _|d
   ·rw [hd] at h;exact h
   ·rw [hd] at h;exact r _ c a w h) g _ a w (JV (ZS hi) c1) (by simpa using c2) (by
   rcases q with⟨l,k⟩|⟨l,k⟩
   ·exact Or.inl ⟨l,k⟩
   ·exact Or.inr ⟨l,k⟩) h2
theorem Z6 (b:S O) (h:jR P md ops Q iv n (f-U b) (Rg b listed) a' w) (i:U b<=f:=by decide) (g:Region.noSelect ops=true:=by kernel_rfl) (d:OV md ops b listed=true:=by kernel_rfl) (e: ∀t c a w,Q (.panic c) {a with tmps:=t} w->Q (.panic c) a w:=by exact λ_ _ _ _ h=>h) (j:DS P ops (λ_=>True) b a a':=by(repeat (first|refine Ns rfl SQ ?_|(refine NW (v:= ?_) rfl SQ ?_ ?_;rotate_left;(intro W k;go_simp;first|done|with_reducible rfl))));(try simp only [Act.put,qQ,qY,qV]);exact iS _):jR P md ops Q iv n f listed a w:=Iq b i g d e j h
theorem XW (i:O) {rest:S Oper} (hi:ops.toList.drop i=c::rest) (d:Region.ready md ops listed=[i]) (h: ∀b:Act->I->Prop,Shut (∀a w,(i<n->iv w)->((i<n->iv w)->jR P md ops Q iv n fuel (listed.setIfInBounds i true) a w)->b a w)->if Region.wanted c (yielded ops a.tmps)=true then Oper.wp P c a w b Q else b (a.put c.dst undef) w):jR P md ops Q iv n (fuel+1) listed a w:=by
 refine⟨λh0=>absurd (h0.symm.trans d) s8,λj f=> ?_⟩;rw [d] at f;obtain rfl:j=i:=by simpa using f
 exact wpOp_step (ZS hi) (λb g=>h b (λa w e k=>g a w ⟨λhi _=>e hi,k e⟩))
theorem IA (i:O) {rest:S Oper} (hi:ops.toList.drop i=c::rest) (e:Region.ready md ops listed=[i]) (g:Region.wanted c (yielded ops a.tmps)=true) (h: ∀b:Act->I->Prop,Shut (∀a w,iv w->(iv w->jR P md ops Q iv n fuel (listed.setIfInBounds i true) a w)->b a w)->Oper.wp P c a w b Q):jR P md ops Q iv n (fuel+1) listed a w:=
 XW i hi e λb f=>by rw [qk g];exact h b λa w d j=>f.out a w (λ_=>d) λ_=>j d
theorem vf (i:O) {rest:S Oper} {f:FuncId} {args:Array la} {R:Ending->I->Prop} (K:Go.RowKit.Hid (Calls P f args w R)) (h: ∀e w',R e w'-> ∃v,e=t' v/\iv w'/\(iv w'->jR P md ops Q iv n fuel (listed.setIfInBounds i true) (a.put b.dst v) w')) (hi:ops.toList.drop i=b::rest:=by exact rfl) (c:Region.ready md ops listed=[i]:=by kernel_rfl) (l:Region.wanted b (yielded ops a.tmps)=true:=by rfl) (m:(execOp a.eval b).run P w= .ok (.enter f args) w:=by(try simp only [Act.put,qQ,qY,qV]);go_simp;first|done|rfl):jR P md ops Q iv n (fuel+1) listed a w:=
 IA i hi c l λo g=>by
  unfold Oper.wp;rw [m,Oper.upon_enter];refine K.mono λe w' j=> ?_;obtain⟨v,rfl,k,d⟩:=h e _ j;exact g _ _ k d
theorem QY (i:O) {rest:S Oper} (hi:ops.toList.drop i=c::rest) (e:Region.ready md ops listed=[i]) (h: ∀b:Act->I->Prop,Shut (∀a w,iv w->(iv w->jR P md ops Q iv n fuel (listed.setIfInBounds i true) a w)->b a w)->if Region.wanted c (yielded ops a.tmps)=true then Oper.wp P c a w b Q else b (a.put c.dst undef) w):jR P md ops Q iv n (fuel+1) listed a w:=
 XW i hi e λb f=>h b λa w d g=>f.out a w (λ_=>d) λ_=>g d
theorem j4 (i:O) {rest:S Oper} (hi:ops.toList.drop i=c::rest) (d:Region.ready md ops listed=[i]) (e: ¬i<n) (g:Region.wanted c (yielded ops a.tmps)=true) (h: ∀b:Act->I->Prop,Shut (∀a w,jR P md ops Q iv n fuel (listed.setIfInBounds i true) a w->b a w)->Oper.wp P c a w b Q):jR P md ops Q iv n (fuel+1) listed a w:=
 XW i hi d λb f=>by rw [qk g];exact h b λa w j=>f.out a w (λh=>absurd h e) λ_=>j
theorem zV (b:Region.ready md ops listed=[]) (h:Q .normal a w): ∀fuel,jR P md ops Q iv n fuel listed a w
 |0=>⟨b,h⟩
 |_+1=>⟨λ_=>h,by rw [b];simp⟩
theorem zv (n:O) (iv:I->Prop) {b:O} (c:P.follows .mixedOrders=true) (d:iv w.drew) (h:iv w.drew->jR P .any ops Q iv n ops.size (Array.replicate ops.size false) a w.drew):(Code.region b ops true).wp P Q a w:=
 wp_region_any c (Xw _ _ _ _ (h d))
theorem K7 (n:O) {p0:Addr} {v0:la} {b:O} (h0:i' w p0=some v0) (H:(fun W:I=>i' W p0=some v0) w.drew->jR P .any ops Q (fun W=>i' W p0=some v0) n ops.size (Array.replicate ops.size false) a w.drew) (d:P.follows .mixedOrders=true:=by kernel_rfl):(Code.region b ops true).wp P Q a w:=zv n (fun W=>i' W p0=some v0) d h0 H
structure Bw where
 b:qn
 n:O
def Yh (s:Bw):qn:=if s.n%8=0 then s.b++[0] else s.b
def De (s:Bw) (x:O):Bw:=⟨(Yh s).set (s.n/8) (UInt8.ofNat (((Yh s).getD (s.n/8) 0).toNat|||x*2^(7-s.n%8))),s.n+1⟩
def Jh (s:Bw) (x:O):O->Bw
 |0=>s
 |k+1=>Jh (De s (x/2^k%2)) x k
def Sc (x:O) (n:V):Int:=if n<0\/64<n\/(n<64/\x/2^n.toNat≠0) then 13 else 0
def PR (s:Bw) (x:O) (n:V):Bw:=if Sc x n=0 then Jh s x n.toNat else s
def U_ (s:Bw):O->Bw
 |0=>De s 1
 |k+1=>U_ (De s 0) k
def sg (n:V):Int:=if n<0\/100000<n then 13 else 0
def oW (s:Bw) (n:V):Bw:=if sg n=0 then U_ s n.toNat else s
def Bw.ok (s:Bw):Prop:=U s.b=(s.n+7)/8
theorem Rx (s:Bw) (h:s.ok):U (Yh s)=s.n/8+1:=by
 unfold Yh;unfold Bw.ok at h;split
 ·rw [qK,zJ];omega
 ·omega
theorem cZ (s:Bw) (x:O):(De s x).n=s.n+1:=rfl
theorem YH (x:O): ∀k s,(Jh s x k).n=s.n+k
 |0,s=>rfl
 |k+1,s=>by show(Jh _ x k).n=_;rw [YH x k,cZ];omega
theorem Nd: ∀k s,(U_ s k).n=s.n+k+1
 |0,s=>rfl
 |k+1,s=>by show(U_ _ k).n=_;rw [Nd k,cZ];omega
def dq (b:qn) (i:O):Nat:=(b.getD (i/8) 0).toNat/2^(7-i%8)%2
theorem D2 (b:qn) (i:O):dq b i<2:=xC _ M
def kM (b:qn) (at_:O):O->O
 |0=>0
 |k+1=>2*kM b at_ k+(if at_+k<8*U b then dq b (at_+k) else 0)
theorem Zr (b:qn) (at_:O): ∀k,kM b at_ k<2^k
 |0=>by simp [kM]
 |k+1=>by
  have:=Zr b at_ k;have h2:=D2 b (at_+k);unfold kM;rw [vB];split<;>omega
def kq (b:qn) (at_:O):Nat:=8*U b-at_
def CI (b:qn) (at_:O) (n:V):Int:=if n<0\/64<n then 13 else if(kq b at_:V)<n then 1 else 0
def tn (b:qn) (at_:O) (n:V):Nat:=if CI b at_ n=0 then kM b at_ n.toNat else 0
def ti (b:qn) (at_:O) (n:V):Nat:=if CI b at_ n=0 then at_+n.toNat else at_
def Po (b:qn) (at_:O) (n:V):Int:=if n<0 then 13 else if(kq b at_:V)<n then 1 else 0
def Hj (b:qn) (at_:O) (n:V):Nat:=if Po b at_ n=0 then at_+n.toNat else at_
def um (b:qn) (i:O):O->Option O
 |0=>none
 |f+1=>if dq b i=1 then some i else um b (i+1) f
def una (b:qn) (at_:O):Option Nat:=um b at_ (kq b at_)
def uM (b:qn) (at_:O):Int:=if una b at_=none then 1 else 0
def Ju (b:qn) (at_:O):Nat:=(una b at_).getD at_-at_
def pq (b:qn) (at_:O):Nat:=match una b at_ with|none=>at_|some i=>i+1
def cJ (b:qn) (at_:O):Int:=if 8<=kq b at_\/kM b at_ (kq b at_)≠0 then 2 else 0
theorem aW (b:qn): ∀f i j,um b i f=some j->i<=j/\j<i+f
 |0,i,j,h=>by simp [um] at h
 |f+1,i,j,h=>by
  unfold um at h;split at h
  ·injection h with h;omega
  ·have:=aW b f _ j h;omega
end
section
open Go.RowKit
variable {A:q'}{W:I}{a:qn}{c r:V}{g k n:O}
structure MB (W:I) (g:O) (r c:V) (A:q') (n k:O) (xs:qn):Prop where
 blk:F' W g 154 #[r,c,Z A n k]
 rd:E' W W 1 A n (xs.map B8)
 cap:n<=k
theorem MB.below {d:I} {b:qn} (h:MB W g r c A n k b) (a:r' W W d):MB d g r c A n k b:=
 ⟨h.blk.below a h.blk.lt,(h.rd.below a).more a.size,h.cap⟩
theorem MB.alloc (h:MB W g r c A n k a) (o:Obj):MB (W.alloc o) g r c A n k a:=
 h.below (j1 o)
theorem MB.new (h:E' W W 1 A n (a.map B8)) (b:n<=k):MB (W.alloc (Y #[r,c,Z A n k] 154)) W r c A n k a:=
 ⟨F'.new W _ _,(h.alloc (qx _) _).more s8,b⟩
theorem MB.cells (h:MB W g r c A n k a):i' W g=J (r:la)/\i' W ⟨g,1,none⟩=J (c:la)/\i' W ⟨g,2,none⟩=J (Z A n k):=
 ⟨h.blk.cell 0,h.blk.cell 1,h.blk.cell 2⟩
theorem J7 {w w':I} {a:S la} (h:xp w' w 5 1 (Z A n k) n a):E' w' w' 1 A n a/\n<=k:=⟨E'.zY h,(jC h).1⟩
end
section
variable {e:TypeId}
def RQ (a:qn) (l:O):Nat:=U (a.filter λx=>x.toNat==l)
def okL (a:qn):Bool:=decide (U a<=300)&&a.all λx=>decide (x.toNat<=15)
def Hy (a:qn):O->O
 |0=>0
 |l+1=>Hy a l+RQ a (l+1)*2^(15-(l+1))
def YV (a:qn):O->O
 |0=>0
 |l+1=>YV a l+RQ a (l+1)
def gk (a:qn):Int:=
 if okL a=true/\(YV a 15=0\/Hy a 15=32768\/(YV a 15=1/\RQ a 1=1)) then 0 else 7
def xV (a:qn):O->O
 |0=>0
 |1=>0
 |l+2=>(xV a (l+1)+RQ a (l+1))*2
def PQ (a:qn):qn->qn->S O
 |_,[]=>[]
 |p,x::t=>(if x.toNat=0 then 0 else(xV a x.toNat+RQ p x.toNat)%65536)::PQ a (p++[x]) t
def Xt (a:qn):S Nat:=PQ a [] a
def XT:O->qn->O
 |0,_=>0
 |m+1,[]=>0
 |m+1,x::t=>if x=0 then XT m t+1 else 0
def QR:O->Bw->qn->Bw
 |0,s,_=>s
 |f+1,s,[]=>s
 |f+1,s,x::t=>if 0<x.toNat then QR f (Jh s x.toNat 4) t else QR f (Jh (Jh s 0 4) (XT 63 t) 6) (t.drop (XT 63 t))
def C4 (s:Bw) (a:qn):Bw:=if gk a=0 then QR a s a else s
def Rj (b:qn) (n:O):O->O->qn->Bool->V×qn×O
 |0,at_,a,_=>(if gk a≠0 then 7 else 0,if gk a≠0 then [] else a,at_)
 |f+1,at_,a,c=>
  if n<=U a then(if gk a≠0 then 7 else 0,if gk a≠0 then [] else a,at_)
  else if kq b at_<4 then(1,[],at_)
  else if kM b at_ 4≠0 then Rj b n f (at_+4) (a++[UInt8.ofNat (kM b at_ 4)]) false
  else if kq b (at_+4)<6 then(1,[],at_+4)
  else if c=true\/n-U a<=kM b (at_+4) 6 then(7,[],at_+10)
  else Rj b n f (at_+10) (a++List.replicate (kM b (at_+4) 6+1) 0) (decide (kM b (at_+4) 6+1<64))
def gq (b:qn) (n at_:O):V×qn×Nat:=Rj b n n at_ [] false
def XU (a:S O) (x:O):S O->S O
 |[]=>[x]
 |y::t=>if a.getD x 0<a.getD y 0 then y::XU a x t else x::y::t
def YO (b:S O):S O->S O->S O
 |a,[]=>a
 |a,x::t=>YO b (XU b x a) t
def vA:O->S O->S O
 |_,[]=>[]
 |i,n::t=>if 0<n then i::vA (i+1) t else vA (i+1) t
def dT (a:S O):S Nat:=(YO a [] (vA 0 a)).reverse
def Hn (a:S O) (syms:S O):S (O×Bool):=syms.map λs=>(a.getD s 0,true)
def da:O->S (O×Bool)->S (O×Bool)->S (O×Bool)
 |0,_,_=>[]
 |f+1,x::l,a::b::r=>if x.1<=a.1+b.1 then x::da f l (a::b::r) else(a.1+b.1,false)::da f (x::l) r
 |f+1,[],a::b::r=>(a.1+b.1,false)::da f [] r
 |f+1,x::l,r=>x::da f l r
 |f+1,[],_=>[]
def YY (leaf row:S (O×Bool)):S (O×Bool):=da (U leaf+U row/2) leaf row
def SH (leaf:S (O×Bool)):O->S (S (O×Bool))
 |0=>[leaf]
 |k+1=>YY leaf ((SH leaf k).headD [])::SH leaf k
def QX (r:S (O×Bool)):Nat:=U (r.filter (·.2))
def wv:S (S (O×Bool))->O->S O
 |[],_=>[]
 |r::t,k=>QX (r.take k)::wv t (2*(k-QX (r.take k)))
def H6 (ns:S O) (i:O):Nat:=U (ns.filter λn=>decide (i<n))
def ZL (n:O) (syms:S O) (ns:S O):qn:=(List.range n).map λs=>if s∈syms then UInt8.ofNat (H6 ns (syms.idxOf s)) else 0
def X6 (a:S O) (b:O):qn:=
 if(dT a).length=0 then List.replicate a 0
 else if(dT a).length=1 then(List.replicate a 0).set ((dT a).headD 0) 1
 else ZL a (dT a) (wv (SH (Hn a (dT a)) (b-1)) (2*U (dT a)-2))
def J6 (l:O):O->qn->S O
 |_,[]=>[]
 |i,x::t=>if x.toNat=l then i::J6 l (i+1) t else J6 l (i+1) t
def Fs (a:qn) (l:O):S Nat:=if l=0 then [] else J6 l 0 a
def Ho (a:qn) (l:O):Nat:=if Fs a l=[] then 0 else(Xt a).getD ((Fs a l).headD 0) 0
def H4 (a:qn) (l:O):Nat:=U (Fs a l)
def ra (a:qn) (sym:V):Nat:=if sym<0\/(U a:V)<=sym then 0 else(a.getD sym.toNat 0).toNat
def N3 (a:qn) (sym:V):Int:=if ra a sym=0 then 13 else Sc ((Xt a).getD sym.toNat 0) (ra a sym)
def HU (a:qn) (s:Bw) (sym:V):Bw:=if ra a sym=0 then s else PR s ((Xt a).getD sym.toNat 0) (ra a sym)
def SC (a:qn) (x l:O):Option Nat:=if x<Ho a l\/H4 a l<=x-Ho a l then none else some ((Fs a l).getD (x-Ho a l) 0)
def Z2 (a:qn) (x l:O):O->Bool
 |0=>false
 |f+1=>Z2 a x l f||(decide (0<H4 a (l+(f+1)))&&(decide (x*2^(f+1)<Ho a (l+(f+1))+H4 a (l+(f+1)))&&decide (Ho a (l+(f+1))<x*2^(f+1)+2^(f+1))))
def uQ (a:qn) (x l:O):Bool:=Z2 a x l (15-l)
def Kg (a:qn) (x AD:O):O->O->Option (O×O)
 |0,_=>none
 |f+1,l=>if AD<l then none else match SC a (x/2^(15-l)) l with|some s=>some (s,l)|none=>Kg a x AD f (l+1)
def AD (b:qn) (at_:O):Nat:=min 15 (kq b at_)
def DR (a:qn) (b:qn) (at_:O):Option (O×O):=Kg a (kM b at_ 15) (AD b at_) 15 1
def G5 (a:qn) (b:qn) (at_:O):Int:=
 match DR a b at_ with
 |some _=>0
 |none=>if AD b at_<15/\uQ a (kM b at_ 15/2^(15-AD b at_)) (AD b at_)=true then 1 else 7
def b9 (a:qn) (b:qn) (at_:O):Int:=match DR a b at_ with|some (s,_)=>(s:V)|none=> -1
def Hr (a:qn) (b:qn) (at_:O):Nat:=match DR a b at_ with|some (_,l)=>at_+l|none=>at_
def uo:O->O->qn
 |0,x=>[UInt8.ofNat x]
 |f+1,x=>if x<128 then [UInt8.ofNat x] else UInt8.ofNat (x%128+128)::uo f (x/128)
def kD (x:O):qn:=uo 9 x
def B1 (s:qn):qn:=kD (U s)++s
def GF (x n:O):qn:=(List.range n).map λi=>UInt8.ofNat (x/256^i)
def yX (i x:O):qn->O×O×V
 |[]=>(0,0,1)
 |c::t=>if(i=9/\c≠1)\/(0<i/\c=0) then(0,0,2) else if c.toNat<128 then(x+c.toNat%128*128^i,i+1,0) else yX (i+1) (x+c.toNat%128*128^i) t
def F5 (b:qn):O×O×Int:=yX 0 0 b
def kE (b:qn) (a:V):O×O×Int:=if(F5 b).2.2≠0 then(0,0,(F5 b).2.2) else if a<0\/a<((F5 b).1:V) then(0,0,6) else((F5 b).1,(F5 b).2.1,0)
structure Cu where
 at_:O
 err:V
 deriving DecidableEq
def yO (c:Cu) (n:O) (e:V):Cu:=if c.err≠0 then c else if e≠0 then⟨c.at_,e⟩ else⟨c.at_+n,0⟩
def vP (c:Cu) (e:V):Cu:=if c.err=0 then⟨c.at_,e⟩ else c
def X7 (b:qn) (c:Cu):O×Cu:=(if c.err≠0 then 0 else(F5 (b.drop c.at_)).1,yO c (F5 (b.drop c.at_)).2.1 (F5 (b.drop c.at_)).2.2)
def jU (b:qn) (a:V) (c:Cu):O×Cu:=(if c.err≠0 then 0 else(kE (b.drop c.at_) a).1,yO c (kE (b.drop c.at_) a).2.1 (kE (b.drop c.at_) a).2.2)
def Xv (b:qn) (n:V) (c:Cu):Int:=if n<0 then 13 else if(U (b.drop c.at_):V)<n then 1 else 0
def jW (b:qn) (n:V) (c:Cu):qn×Cu:=(if c.err≠0\/Xv b n c≠0 then [] else(b.drop c.at_).take n.toNat,yO c n.toNat (Xv b n c))
def j_ (b:qn) (c:Cu):AB×Cu:=((jW b 1 c).1.headD 0,(jW b 1 c).2)
def vk:qn->O
 |[]=>0
 |c::t=>c.toNat+256*vk t
def Yb (b:qn) (n:V) (c:Cu):O×Cu:=if n<1\/8<n then(0,vP c 13) else(vk (jW b n c).1,(jW b n c).2)
def Xy (r:qn) (a:V):Int:=if(kE r a).2.2≠0 then(kE r a).2.2 else if U r<(kE r a).2.1+(kE r a).1 then 1 else 0
def xa (b:qn) (a:V) (c:Cu):qn×Cu:=(if c.err≠0\/Xy (b.drop c.at_) a≠0 then [] else((b.drop c.at_).drop (kE (b.drop c.at_) a).2.1).take (kE (b.drop c.at_) a).1,yO c ((kE (b.drop c.at_) a).2.1+(kE (b.drop c.at_) a).1) (Xy (b.drop c.at_) a))
def PW (b:qn) (c:Cu):Cu:=if c.at_<U b then vP c 2 else c
theorem Hu: ∀f x,1<=U (uo f x)/\U (uo f x)<=f+1
 |0,x=>by simp [uo]
 |f+1,x=>by
  unfold uo;split
  ·simp
  ·have:=Hu f (x/128)
   simp;omega
theorem jn (x:O):1<=U (kD x)/\U (kD x)<=10:=Hu 9 x
theorem PZ: ∀(b:qn) (i x:O),(yX i x b).2.1<=i+U b/\(((yX i x b).2.2=0->i<(yX i x b).2.1)/\((yX i x b).2.2≠0->(yX i x b).1=0/\(yX i x b).2.1=0))
 |[],i,x=>by simp [yX]
 |c::t,i,x=>by
  unfold yX;split
  ·simp
  ·split
   ·simp
   ·have h:=PZ t (i+1) (x+c.toNat%128*128^i)
    rw [qf];refine⟨M,λh0=>by have:=h.2.1 h0;omega,h.2.2⟩
theorem aS: ∀(b:qn) (i x:O),(yX i x b).2.2=0\/(yX i x b).2.2=1\/(yX i x b).2.2=2
 |[],i,x=>by simp [yX]
 |c::t,i,x=>by
  unfold yX;split
  ·simp
  ·split
   ·simp
   ·exact aS t _ _
theorem Hg: ∀(b:qn) (i x:O),i<=9->x<128^i->(yX i x b).1<18446744073709551616
 |[],i,x,_,_=>by simp [yX]
 |c::t,i,x,hi,d=>by
  unfold yX;have l:c.toNat%128<128:=xC _ M;split
  ·simp
  ·rename_i h
   have h1:x+c.toNat%128*128^i<128^(i+1):=by
    rw [vB];have:=zk (128^i) (show c.toNat%128<=127 by omega)
    omega
   by_cases j:i=9
   ·subst j
    have g:c=1:=by
     rcases Classical.em (c=1) with h2|h2
     ·exact h2
     ·exact absurd (.inl ⟨rfl,h2⟩) h
    subst g;have f:(1:AB).toNat=1:=rfl;rw [qk (by rw [f];decide),f]
    have e:(1:O)%128*128^9=9223372036854775808:=by decide+kernel
    have a:(128:O)^9=9223372036854775808:=by decide+kernel
    have k:=a▸d;show x+1%128*128^9<18446744073709551616;rw [e];clear a e d h1 h;omega
   ·split
    ·have h2:128^(i+1)<=128^9:=zZ M M
     have a:(128:O)^9=9223372036854775808:=by decide+kernel
     show x+c.toNat%128*128^i<_
     rw [a] at h2;have h3:=qB h1 h2;clear h1 h2 a d;omega
    ·exact Hg t _ _ M h1
theorem wQ (b:qn):(F5 b).1<18446744073709551616:=Hg b 0 0 M s8
theorem wJ (b:qn):(F5 b).2.1<=U b:=by have:=(PZ b 0 0).1;unfold F5;omega
theorem cX (b:qn) (a:V):(kE b a).2.1<=U b:=by
 unfold kE;split
 ·exact qp _
 ·split
  ·exact qp _
  ·exact wJ b
theorem Yi (b:qn) (a:V) (h:0<=a):((kE b a).1:V)<=a:=by
 unfold kE;split
 ·exact h
 ·split
  ·exact h
  ·rename_i h2;omega
end
section
open Go.RowKit
theorem dS {B:O} {a w:I} (h:r' B a w) (n:O):r' B a (w.drewN n):=⟨h.os,h.tape,h.output,h.size,h.block⟩
theorem Ys (z:la) (k:O):(Builtin.zeroCells #[z] k)=(List.replicate k z).toArray:=by
 apply ZD;intro j;unfold Builtin.zeroCells;by_cases h:j<k
 ·simp [h,Nat.mod_one]
 ·rw [zg SZ,zg SZ]
end
section
open Go.RowKit
variable {e:TypeId}
variable {P:Program} (w:I)
theorem dF (base:O) (t m q e:TypeId) (i:TypeInfo) (z:la) (bytes:O) (A v:IntKind) (ht:P.underlying t=J (.slice e)) (D:P.underlying m=J (.int v)) (hi:P.info? e=some i) (o:i.zero=some z)
  (H:i.size=1) (j:i.bytes=bytes) (C:z.cells= #[z]) (ih:z.oneCell'=true) (X:bytes<=1000)
  (h:q') (n c0:O) (a:S la) (p:xp w base e 1 (Z h n c0) n a)
  (k:O) (d:0<k) (cL:n+k<=1000000000) (L:base<=(w:O)):
  ∃r E w',(Builtin.append_ #[t,m] q #[Z h n c0, .int A k]).run P w= .ok (Z r (n+k) E) w'/\xp w' base e 1 (Z r (n+k) E) (n+k) (a++List.replicate k z)/\w.grownBy w' (h.map (·.block))/\JU w h r:=by
 have W:n+k<=maxLen:=SJ;have s:U a=n:=by have:=p.1;omega
 have l:U (a++List.replicate k z)=(n+k)*1:=by rw [qK,s,zT];omega
 have iL:(n+k)*bytes<=1000000000000:=qv (xA cL X) M;have m':k*bytes<=(n+k)*bytes:=zk _ M;have grown: ∀(b:O) (row:Option O),
   (w.drew (Y (a.toArray++Builtin.zeroCells z.cells k++Builtin.zeroCells z.cells (grownCap w (n+k) b e-(n+k))) e)).ownsRow base e 1
    (Z w (n+k) (grownCap w (n+k) b e)) (n+k) (a++List.replicate k z)/\
   w.grownBy (w.drew (Y (a.toArray++Builtin.zeroCells z.cells k++Builtin.zeroCells z.cells (grownCap w (n+k) b e-(n+k))) e)) row:=by
  intro b row;have qj:=grownCap_ge w (n+k) b e;have x:=grownCap_le_maxLen w _ b e W;refine⟨⟨l, .inr ⟨w,_,_,rfl,L,heap_alloc_new w.drew _,qj,x, ?_, ?_⟩⟩,⟨rfl,rfl,rfl,s8,λk d _=>Below.heap_alloc _ _ k d⟩⟩
  ·rw [C];simp only [Array.size_append,xd,size_zeroCells,s];simp;omega
  ·rw [C,Ys,Ys];simp only [Array.toList_append];rw [<-l];exact List.take_left
 rcases p.2 with⟨f,rfl⟩|⟨g,cap,cur,f,cB,F,d',x,cK,uK⟩
 ·simp only [Ql] at f;obtain⟨rfl,_,rfl⟩:=f;have Q:=zl s;subst Q;have B:=Go.Lib.run_append_nil_zeros w t m q e i z A v ht D hi o k d M M (by rw [j];omega);have c:=grown 0 (none);simp only [jL,xY,Array.empty_append] at c⊢;exact⟨_,_,_,B,c.1,c.2, .inr rfl⟩
 ·simp only [Ql] at f;obtain⟨rfl,_,rfl⟩:=f;by_cases ln:n+k<=c0
  ·have cY:n*1+U (List.replicate k z)<=cur.size:=by rw [zT,cK];omega
   have y:=run_storeCells_at P g (n*1) e (List.replicate k z) 0 _ w F (by simpa using cY) (λu hh=>by rw [xJ hh];exact ih);simp only [v_] at y;have N:DW (k:V)=k:=SX;have ck: ¬((k:V)<0):=M;have K: ¬(281474976710656<(k:V)*(i.bytes:V)):=by
    rw [<-zB,j];omega
   have R: ¬k=0:=M;refine⟨some ⟨g,0,none⟩,c0,w.setRow g (cur.toList.take (n*1)++List.replicate k z++cur.toList.drop (n*1+U (List.replicate k z))).toArray, ?_,⟨l, .inr ⟨g,c0,_,rfl,cB,setRow_heap w g cur _ e _ F,ln,x, ?_, ?_⟩⟩,⟨rfl,rfl,rfl,s8,λk _ d=>QO w g k _ (λe=>d (by simp [e]))⟩, .inl rfl⟩
   ·simp [Builtin.append_,run_underlying ht,run_underlying D,sizeOf,typeInfo,zeroValue,hi,o,H,C,Ys,asInt,asIntOf,N,ck,K,ln,R,Addr.add_lit] at y⊢;simp [y]
   ·simp only [xd,qK,qh,qI,Q9,zT];omega
   ·rw [uK,<-l];exact List.take_left
  ·have iv:(Builtin.firstCells i.size n (Z g n c0)).run P w.drew= .ok a.toArray w.drew:=by
    rw [H];exact run_firstCells_some (w:=w.drew) 1 n g n _ a M (p.cells rfl)
   have B:=Go.Lib.run_append_grow_zeros w t m q e i z A v ht D hi o g n _ a iv k d M M M (by rw [j];omega) (by rw [j];exact growslice_fits M M);have c:=grown c0 ((some g));exact⟨_,_,_,B,c.1,c.2, .inr rfl⟩
end
section
open Go.RowKit
variable {e:TypeId}
theorem Pm {P:Program} (w:I) {m:Array Oper} {rest:S Oper} {o:Oper} {a:Act} {Q:Exit->Act->I->Prop} (v:o.guard=none) (s x:Operand) (t f:TypeId)
  (B:o.op= .call {callee:= .builtin .append,args:= #[s,x],argTypes:= #[t,f]})
  (base:O) (e:TypeId) (i:TypeInfo) (z:la) (bytes:O) (l j:IntKind) (ht:P.underlying t=J (.slice e)) (ln:P.underlying f=J (.int j)) (hi:P.info? e=some i) (q:i.zero=some z)
  (C:i.size=1) (D:i.bytes=bytes) (F:z.cells= #[z]) (p:z.oneCell'=true) (H:bytes<=1000)
  (c:q') (n c0:O) (g:S la) (hh:a.eval s=Z c n c0) (r:xp w base e 1 (Z c n c0) n g)
  (k:O) (A:a.eval x= .int l k) (ih:0<k) (y:n+k<=1000000000) (u:base<=(w:O))
  (h: ∀b d w',xp w' base e 1 (Z b (n+k) d) (n+k) (g++List.replicate k z)->w.grownBy w' (c.map (·.block))->JU w c b->wpList P m Q rest (a.put o.dst (Z b (n+k) d)) w'):wpList P m Q (o::rest) a w:=by
 obtain⟨b,d,w',E,h1,h2,h3⟩:=dF w _ t f o.type e i z _ l j ht ln hi q C D F p H c n _ g r k ih y u;exact Go.Lib.wpList_append_run w v s x t f B _ _ hh A _ _ E (h b d _ h1 h2 h3)
end
section
open Go.RowKit Go.Maps
theorem Tj:(prog.info? 5).map (λi=>(i.zero,i.size,i.bytes))=J (some (gR 0),1,1):=AL
end
section
open Go.RowKit
variable {K:Act->I->Prop}{P:Program}{Q:Exit->Act->I->Prop}{a:Act}{e:TypeId}{l n:O}{md:Region.Mode}{o:Oper}{ops:Array Oper}{w:I}
def YG (o:Oper):Bool:=match o.op with| .defer _=>false|_=>true
theorem TI (h:YG o=true): ∀c,o.op≠ .defer c:=by
 intro c e;unfold YG at h;rw [e] at h;cases h
theorem iE (g:YG o=true) (h:Oper.wp P o a w K Q):Oper.wpIn (Fence.wide.inRound l) n P o a w K Q:=by
 refine⟨λ_ _=>trivial, ?_⟩;rw [Oper.semAt_eq _ _ _ (TI g)];unfold Oper.wp at h;generalize (execOp a.eval o).run P w=r at*;cases r with
 |ok x w'=>
  cases x with
  |value v=>exact h
  |skip=>exact h
  |«defer» d=>exact h
  |enter f args=>exact⟨λe=>(by cases e),Qz.2 h⟩
  |row r args=>exact⟨λe=>(by cases e),λc j _=>(let⟨v,i,k,b⟩:=h c j;⟨v,i,k,stepsIn_wide.2 b⟩)⟩
  |_=>exact h.elim
 |halt x w'=>cases x<;>first|exact h|exact h.elim
theorem O7 {i:O} (g: ∀a w,¬Q .outgrown a w) (d:ops.all YG=true) (h:wpOp P ops Q i K a w):wpOpIn (Fence.wide.inRound l) n P ops Q i K a w:=by
 unfold wpOp at h;unfold wpOpIn;cases b:ops[i]?with
 |none=>rw [b] at h;exact h
 |some o=>
  rw [b] at h;dsimp only at h⊢;have j:YG o=true:=by
   rw [Array.all_eq_true] at d;obtain⟨hi,rfl⟩:=Array.getElem?_eq_some_iff.1 b;exact d i _
  split
  ·rename_i c;rw [qk c] at h;exact iE j (h.resolve_right (λ⟨_,f,e,h0⟩=>g f e h0))
  ·rename_i c;rw [qJ c] at h;exact⟨λ_ _=>trivial,h⟩
theorem rT (b: ∀a w,¬Q .outgrown a w) (c:ops.all YG=true): ∀(fuel:O) (listed:Array Bool) (a:Act) (w:I),wpAny P md ops Q fuel listed a w->wpAnyIn (Fence.wide.inRound l) n P md ops Q fuel listed a w
 |0,_,_,_,h=>h
 |fuel+1,listed,a,w,h=>⟨h.1,λi hi=>wpOpIn_mono (λa' w' d=>rT b c _ _ _ _ d) (O7 b c (h.2 i hi))⟩
theorem PM (w:I) {rest:S Oper} (C:o.guard=none) (s x:Operand) (t:TypeId) (p:o.op= .call {callee:= .builtin .append,args:= #[s,x],argTypes:= #[t,t]}) (base:O) (e:TypeId) (i:TypeInfo) (z:la) (size bytes:O) (ht:P.underlying t=J (.slice e)) (hi:P.info? e=some i) (q:i.zero=some z) (F:i.size=size) (ln:i.bytes=bytes) (ih:z.cells.size=size) (v:0<size) (d:q') (k c0:O) (j:S la) (L:a.eval s=Z d k c0) (r:xp w base e size (Z d k c0) k j) (B:O) (A:q') (m c:O) (g:S la) (E:a.eval x=Z A m c) (H:E' w B size A m g) (h1: ∀u∈g,u.oneCell'=true) (D:k+m<=maxLen) (hh:(k+m)*bytes<=140737488355328) (y:base<=(w:O)) (h: ∀b f w',xp w' base e size (Z b (k+m) f) (k+m) (j++g)->w.grownBy w' (d.map (·.block))->JU w d b->wpListIn (Fence.wide.inRound l) n P ops Q rest (a.put o.dst (Z b (k+m) f)) w'):wpListIn (Fence.wide.inRound l) n P ops Q (o::rest) a w:=
 wpListIn_plain C λ_ K=>iE (by unfold YG;rw [p]) (Ye w s x t p _ e i z _ _ ht hi q F ln ih v d k _ j L r B A m c g E H h1 D hh y λb f w' h2 h3 h4=>K _ _ (h b f _ h2 h3 h4))
theorem oG (f:O) (iv:I->Prop) {g:O} (c:P.follows .mixedOrders=true) (e: ∀a w,¬Q .outgrown a w) (b:ops.all YG=true) (d:iv w.drew) (h:iv w.drew->jR P .any ops Q iv f ops.size (Array.replicate ops.size false) a w.drew):(Code.region g ops true).wpIn (Fence.wide.inRound l) n P Q a w:=
 wpIn_region_any c (rT e b _ _ _ _ (Xw _ _ _ _ (h d)))
end
section
open Go.ChangeShapes Go.WideShapes Go.ChangeAt Go.RowKit
end
section
open Go.ChangeShapes Go.WideShapes Go.ChangeAt Go.RowKit
variable {e:TypeId}
variable {H:Type} {enc:TypeId × la->H} {P:Program} {w:I}
theorem T_ {t:TypeId} {r:Reach} {b0:O} {v:la} {d:DataW H} {p:S MemPlace} (ht:P.underlying t=J (.slice e)) (q:P.underlying e=J (.int .u8)) (y:P.cellsOf e=1) (m:Value.okWide P w r b0 t v) (h:DataW.Trod enc P w 0 (λ_=>true) true t v d p):
  ∃(A:q') (n c:O) (bs:qn),v= .slice A n c/\n<=c/\c<=maxLen/\E' w w 1 A n (bs.map B8):=by
 obtain⟨A,n,c,rfl⟩:=okWide_slice ht m;obtain⟨fuel,C⟩:=h;rcases open_ints ht q y C with⟨b,_⟩|⟨x,l,D,zs,b,_,i,o,k,_,f,B⟩
 ·simp [Value.cells] at b;obtain⟨rfl,rfl,rfl⟩:=b;exact⟨none,0,0,[],rfl,qx _,s8,E'.none_⟩
 ·simp [Value.cells] at b;obtain⟨rfl,rfl,rfl⟩:=b;have s:U zs=c:=by simpa using k
  refine⟨some x,n,c,(zs.take n).map (λz=>UInt8.ofNat z.toNat),rfl,i,o,by simp [s,i],λE=> ?_⟩;have h0:=f 0 M;refine⟨x,rfl,by have:=yM h0;rwa [xF] at this,λj u a=> ?_⟩;rw [qD,qD,xZ] at a;by_cases g:j<n
  ·rw [qk g,qX M] at a;simp only [Za,Option.some.injEq] at a;have F:=bounds_u8 (B _ (zx (show j<U zs by omega)));rw [f j M,<-a];simp only [qd,qX (show j<U zs by omega),Zv,B8];have:(UInt8.ofNat zs[j].toNat).toNat=zs[j].toNat:=by rw [zS];omega
   rw [this];congr 2;omega
  ·rw [qJ g] at a;cases a
end
end Go.Proofs.YtfnlfpcfkbdcmaaGreatDoor
