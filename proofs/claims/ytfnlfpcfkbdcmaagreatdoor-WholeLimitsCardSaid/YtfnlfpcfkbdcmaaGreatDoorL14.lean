import Derived.Test.YtfnlfpcfkbdcmaaGreatDoorL09
import Derived.Test.YtfnlfpcfkbdcmaaGreatDoorL10
import Derived.Test.YtfnlfpcfkbdcmaaGreatDoorL11
import Derived.RangeFuncWrites
import Derived.OrdersIn
import Derived.RangeFuncCalls
import Derived.ArgAppend
set_option linter.unusedSimpArgs false
set_option linter.unusedVariables false
set_option maxRecDepth 100000
set_option maxHeartbeats 0
open Go.Proofs.Tryz
namespace Go.Proofs.YtfnlfpcfkbdcmaaGreatDoor
variable {v:Value}
section
section
open Go.RowKit
def rcC (r:Rec):List Value:=[.int .u64 (r.time:Int), .int .u8 (r.level:Int),STR r.src,STR r.txt]
def ji (l:List Rec):List Value:=(l.map rcC).flatten
theorem mM (l:List Rec):(ji l).length=l.length*4:=by
 induction l with
 |nil=>rfl
 |cons a l b=>
  rw [show ji (a::l)=rcC a++ji l by simp [ji]];rw [qK,b,qf];simp only [rcC,qf,zF];omega
theorem kg: ∀(l:List Rec) (j f:Nat) (h:j<l.length),f<4->(ji l)[j*4+f]? =(rcC l[j])[f]?
 |a::l,0,f,_,b=>by
  rw [show ji (a::l)=rcC a++ji l by simp [ji],jd,jL,q_ (by simp only [rcC,qf,zF];omega)]
  rfl
 |a::l,j+1,f,h,b=>by
  rw [show ji (a::l)=rcC a++ji l by simp [ji],qm (by simp only [rcC,qf,zF];omega)]
  rw [show(j+1)*4+f-(rcC a).length=j*4+f by simp only [rcC,qf,zF];omega]
  exact kg l j f _ b
theorem pR (a b:List Rec):ji (a++b)=ji a++ji b:=by simp [ji]
theorem mO (t:Rec):ji [t]=rcC t:=by simp [ji]
theorem tS (t:Rec): ∀u∈rcC t,u.oneCell'=true:=by
 intro u a;simp only [rcC,qL,xj,Ze] at a;rcases a with rfl|rfl|rfl|rfl<;>rfl
theorem ZH {w:World} {B n:Nat} {A:q'} {l:List Rec} (h:Reads w B 4 A n (ji l)) (j:Nat) (c:j<l.length): ∃a,A=some a/\a.block<B/\w.cell? (a.add (j*4))=some (.int .u64 (l[j].time:Int))/\
  w.cell? ⟨(a.add (j*4)).block,(a.add (j*4)).off+1,none⟩=some (.int .u8 (l[j].level:Int))/\w.cell? ⟨(a.add (j*4)).block,(a.add (j*4)).off+2,none⟩=some (.string ⟨l[j].src.toArray⟩)/\w.cell? ⟨(a.add (j*4)).block,(a.add (j*4)).off+3,none⟩=some (.string ⟨l[j].txt.toArray⟩):=by
 have e:=h.1;rw [mM] at e;obtain⟨a,f,d,b⟩:=h.2 uK;have h0:=kg l j 0 c uK;have h1:=b _ _ ((kg l j 1 c uK).trans rfl);have h2:=b _ _ ((kg l j 2 c uK).trans rfl);have h3:=b _ _ ((kg l j 3 c uK).trans rfl);rw [<-QZ,show(a.add (j*4)).add 1=⟨(a.add (j*4)).block,(a.add (j*4)).off+1,none⟩ from rfl] at h1;rw [<-QZ,show(a.add (j*4)).add 2=⟨(a.add (j*4)).block,(a.add (j*4)).off+2,none⟩ from rfl] at h2;rw [<-QZ,show(a.add (j*4)).add 3=⟨(a.add (j*4)).block,(a.add (j*4)).off+3,none⟩ from rfl] at h3;exact⟨a,f,d,b _ _ (by simpa [rcC] using h0),h1,h2,h3⟩
theorem PH:(prog.info? 45).map (λi=>(i.zero,i.size,i.bytes))=some (some (.agg #[.int .u64 0, .int .u8 0, .string "".toUTF8, .string "".toUTF8]),4,48):=AL
theorem OH (t c:Int) (a S2:ByteArray) (w:World):
  Calls prog 50 #[.agg #[.int .u64 t, .int .u8 c, .string a, .string S2]] w λe w'=>e= .returned (.bool (decide (4000<a.size)||decide (4000<S2.size)))/\Below w w w':=by
 have b:Hid (Below w w (w.alloc (.cells #[.int .u64 t, .int .u8 c, .string a, .string S2] 45))):=z8 _;by_cases h1:4000<a.size
 ·have f:(4000:Int)<(a.size:Int):=uK;rw [qw h1,Bool.true_or];go_wp2;go_ret;exact⟨rfl,b⟩
 ·have f: ¬(4000:Int)<(a.size:Int):=uK;rw [qc h1,Bool.false_or];by_cases h2:4000<S2.size
  ·have d:(4000:Int)<(S2.size:Int):=uK;rw [qw h2];go_wp2;go_ret;exact⟨rfl,b⟩
  ·have d: ¬(4000:Int)<(S2.size:Int):=uK;rw [qc h2];go_wp2;go_ret;exact⟨rfl,b⟩
end
end
section
section
open Go.RowKit
theorem pt (l:List Rec) (k:Nat) (h:k<l.length):p8 (l.take (k+1))=p8 (l.take k)+(16+l[k].src.length+l[k].txt.length):=by
 unfold p8;have e:l.take (k+1)=l.take k++[l[k]]:=by rw [qs,qX h];rfl
 rw [e,qg,QE];simp only [jy,xB,List.sum_cons,List.sum_nil];omega
theorem df (l:List Rec) (h:l.any X8=false): ∀k,p8 (l.take k)<=8016*k
 |0=>by simp [p8]
 |k+1=>by
  have b:=df l h k;by_cases a:k<l.length
  ·rw [pt l k a]
   have:=List.any_eq_false.1 h _ (zx a);unfold X8 at this;simp only [J3,zd,not_or] at this;omega
  ·have e:l.take (k+1)=l.take k:=by rw [qH uK,qH uK]
   rw [e];omega
theorem EY (A:q') (c B:Nat) (l:List Rec) (w:World) (h:Reads w B 4 A l (ji l)) (r:B<=w.heap.size) (O:l.length<=20000) (q:l.any X8=false):
  Calls prog 51 #[.slice A l c] w λe w'=>e= .returned (.int .i64 (p8 l:Nat))/\Below w w w':=by
 have H:=qj h;have x:=qj r;have p:=qj q;clear h r q;go_wp2;go_loopw [3,8] (λy m wr=> ∃k s:Nat,y=(s:Value)/\m=(k:Value)/\k<=l.length/\Hid (s=p8 (l.take k))/\s<=8016*k/\Hid (Below w w wr)) (λ_ m _=>l.length-(intOf m).toNat)
 ·exact⟨0,0,rfl,rfl,qp _,by simp [Hid,p8],qx _,qZ _ _⟩
 ·obtain⟨k,s,rfl,rfl,P,HS,D,g⟩:=hrel;by_cases n:k<l.length
  ·have N:(k:Int)<(l.length:Int):=uK;obtain⟨M,rfl,_,G,I,R,E⟩:=ZH (H.below (g.mono x)) k n;have f:Hid (s+(16+l[k].src.length+l[k].txt.length)=p8 (l.take (k+1))):=by rw [Hid,pt l k n,<-HS.out]
   have a:=df l p (k+1);rw [<-f.out] at a;have h4:=List.any_eq_false.1 p _ (zx n);unfold X8 at h4;simp only [J3,zd,not_or] at h4;have v:(ByteArray.mk l[k].src.toArray).size=l[k].src.length:=rfl;have u:(ByteArray.mk l[k].txt.toArray).size=l[k].txt.length:=rfl;generalize (⟨l[k].src.toArray⟩:ByteArray)=o,(⟨l[k].txt.toArray⟩:ByteArray)=S2,(l[k].time:Int)=t,(l[k].level:Int)=z at*;rw [<-v,<-u] at f a h4;obtain⟨b,i⟩:=j1 o.size;obtain⟨d,j⟩:=j1 S2.size;rw [<-i,<-j] at f a h4;have F:(o.size:Int)=(b:Int):=by rw [i]
   have L:(S2.size:Int)=(d:Int):=by rw [j]
   have K:b<=4000:=by
    omega
   have Q:d<=4000:=by
    omega
   have J:s<=160320000:=uK;have C:=qj (g.alloc g.size (.cells #[.int .u64 t, .int .u8 z, .string o, .string S2] 45));replace a:=qj a;clear v u HS D h4;go_wp2_with fail;refine xk ?_;exact⟨k+1,s+(16+b+d),xh,xb,uK,f,a.out,C⟩
  ·obtain rfl:k=l.length:=uK;rw [jP] at HS;go_wp2;go_ret;exact⟨by rw [<-HS.out];rfl,g⟩
end
end
section
section
open Go.RowKit
theorem Ob (r:Rec):(decide (4000<(ByteArray.mk r.src.toArray).size)||decide (4000<(ByteArray.mk r.txt.toArray).size))=X8 r:=rfl
theorem Gr (A:q') (c B:Nat) (l:List Rec) (w:World) (h:Reads w B 4 A l (ji l)) (r:B<=w.heap.size) (I:l.length<=1000000000):
  Calls prog 83 #[.slice A l c, .func (.func 50) #[] #[]] w λe w'=>(∃i:Int,e= .returned i/\decide (0<=i)=l.any X8)/\Below w w w':=by
 have H:=qj h;have s:=qj r;clear h r;go_wp2;go_loopw [8] (λd wr=> ∃k:Nat,d=(k:Value)/\k<=l.length/\Hid ((l.take k).any X8=false)/\Hid (Below w w wr)) (λd _=>l.length-(intOf d).toNat)
 ·exact⟨0,rfl,qp _,rfl,qZ _ _⟩
 ·obtain⟨k,rfl,J,b,a⟩:=hrel;by_cases f:k<l.length
  ·have G:(k:Int)<(l.length:Int):=uK;have x:=xi k;obtain⟨C,rfl,_,y,z,K,v⟩:=ZH (H.below (a.mono s)) k f;have p:l.take (k+1)=l.take k++[l[k]]:=by rw [qs,qX f];rfl
   have j:=λW=>qj (OH (l[k].time:Int) (l[k].level:Int) ⟨l[k].src.toArray⟩ ⟨l[k].txt.toArray⟩ W);rw [Ob] at j;have o:Hid ((l.take (k+1)).any X8=X8 l[k]):=by rw [Hid,p,List.any_append,b.out];simp
   have m:Hid (X8 l[k]=true->l.any X8=true):=λh=>ZQ.2 ⟨_,zx f,h⟩;generalize (⟨l[k].src.toArray⟩:ByteArray)=D,(⟨l[k].txt.toArray⟩:ByteArray)=S2,(l[k].time:Int)=t,(l[k].level:Int)=F,X8 l[k]=u at*;clear p b;go_wp2_with fail;refine zC (j _).out ?_;intro E n;have q:=qj (a.trans (n.mono a.size));clear j n;cases u with
   |true=>
    have g:=m rfl;replace g:=qj g;go_wp2;go_ret;exact⟨⟨(k:Int),rfl,by rw [g.out];exact qw uK⟩,q⟩
   |false=>
    go_wp2_with fail;refine xk ?_;exact⟨k+1,xb,uK,o,q⟩
  ·obtain rfl:k=l.length:=uK;rw [jP] at b;go_wp2;go_ret;exact⟨⟨-1,rfl,by rw [b.out];rfl⟩,a⟩
theorem dD (A:q') (c B:Nat) (l:List Rec) (w:World) (h:Reads w B 4 A l (ji l)) (g:B<=w.heap.size) (a:l.length<=1000000000):
  Calls prog 49 #[.slice A l c, .func (.func 50) #[] #[]] w λe w'=>e= .returned (.bool (l.any X8))/\Below w w w':=by
 have d:=qj (Gr A c B l w h g a);generalize l.any X8=b,l.length=n at*;clear h g a;go_in;go_wp2_with fail;refine d.mono ?_;rintro e m ⟨⟨i,rfl,hi⟩,f⟩;have j:=qj hi;have k:=qj f;clear hi f;go_wp2;go_ret;exact⟨by rw [<-j.out];rfl,k⟩
end
end
section
section
open Go.RowKit
theorem JW (A:q') (c B:Nat) (l:List Rec) (w:World) (h:Reads w B 4 A l (ji l)) (q:B<=w.heap.size) (t:l.length<=1000000000):
  Calls prog 27 #[.slice A l c] w λe w'=>e= .returned (.int .i64 (xu l))/\Below w.heap.size w w':=by
 obtain⟨R,b⟩:=j1 (xu l);rw [<-b];unfold xu at b;have d:=qj (dD A c B l w h q t);have g:=λW (k:Below w.heap.size w W)=>EY A c B l W (h.below (k.mono q)) (qv q k.size);replace g:=qj g;by_cases h1:20000<l.length
 ·rw [qk (.inl h1)] at b;subst b;have v:(20000:Int)<(l.length:Int):=uK;generalize l.length=n at*;clear h;go_wp2;go_ret;exact⟨rfl,qZ _ _⟩
 ·have v: ¬(20000:Int)<(l.length:Int):=uK;cases h2:l.any X8
  focus
   rw [h2] at d;have o:=qj (λW k=>g.out W k uK h2);have r:=df l h2 l;rw [jP] at r;by_cases h3:1048576<p8 l
   focus
    rw [qk (.inr (.inr h3))] at b;subst b;have s:(1048576:Int)<(p8 l:Int):=uK;generalize p8 l=W at*
   rotate_left
   focus
    rw [qJ (λh=>h.elim h1 λh=>h.elim (λh=>by rw [h2] at h;cases h) h3)] at b;subst b;generalize p8 l=W at*
   rotate_left
  rotate_left 2
  focus rw [qk (.inr (.inl h2))] at b;subst b;rw [h2] at d
  rotate_left
  all_goals
   generalize l.length=n at*;clear h h2;go_in;go_wp2_with fail;refine zC d ?_;intro m a
  rotate_left;rotate_left
  ·replace a:=qj a;go_wp2;go_ret;exact⟨rfl,a⟩
  all_goals
   have f:=qj a;have i:=qj (o m a);go_wp2_with fail;refine zC i ?_;intro u j;have p:=qj (f.trans (j.mono f.size));clear j;go_wp2;go_ret;exact⟨rfl,p⟩
end
end
section
section
open Go.RowKit Go.Shelf
attribute [local go_sem] J4
def QP (a b:Nat) (A B:World):Prop:= ∀v,(A.cell? a=some v->B.cell? a=some v)/\(A.cell? b=some v->B.cell? b=some v)
theorem QP.refl (a b:Nat) (A:World):QP a b A A:=λ_=>⟨id,id⟩
theorem QP.trans {a b:Nat} {A B C:World} (h:QP a b A B) (k:QP a b B C):QP a b A C:=λv=>⟨λh1=>(k v).1 ((h v).1 h1),λh1=>(k v).2 ((h v).2 h1)⟩
theorem Du {W:World} {l:Nat} {o b:Obj} {p:Addr} (h:W.heap[l]? =some o) (d:o.isCells=false) (a:W.cell? p=some v):(W.putObj l b).cell? p=some v:=by
 have c:p.block≠l:=by
  rintro rfl;unfold World.cell? at a;rw [h] at a;cases o<;>simp_all [Obj.isCells]
 rw [<-a];exact zw ((grownBy_putObj' W l b).block _ (by
  have:=yM a;exact this) (λe=>c (by injection e)))
theorem QP.put (d c:Nat) {w:World} (W:World) (l:Nat) (o b:Obj) (_:w.heap.size<=l) (h:W.heap[l]? =some o) (a:o.isCells=false) (_:o.isWalk=false):QP d c W (W.putObj l b):=λ_=>⟨Du h a,Du h a⟩
theorem ay (F:Fence) (n:Nat) (hf:F.fn 99) (C:F.round=none) (hn:1<=n) (l o j:Nat) (A:q') (N c ch q:Nat) (B:N=q*ch) (h1:1<=ch) (hc:N<=c) (p':N<=1000000000) (J H:List (Fin q)->World->Prop) (Q: ∀s W m,J s W->J s (W.drewN m))
  (L: ∀a x W,J a W->a.length<q->YieldAt F (n-1) prog l #[Qc A ch x.val] W λe b=>
   (e= .returned true/\J (a++[x]) b/\QP o j W b)\/(e= .returned false/\H (a++[x]) b))
  (W:World) (R:W.cell? o=some (.slice A N c)) (Z:W.cell? j=some (ch:Value)) (h0:J [] W):
  CallsIn F n prog 99 #[.func (.yield l) #[] #[], .pointer o, .pointer j] W λe b=>(∃v,e= .returned v)/\
   ((∃E,E=List.finRange q/\J E b)\/(∃a,(∃k,k<=q/\a=(List.finRange q).take k)/\H a b)):=by
 obtain⟨M,hi,X,y,Y⟩:=qA xR;have G:=qj (λ(i:Nat) (h:i<=N)=>jI _ 5 M 1 qu hi y A N c i .i64 h);have D:=qj (λ(i s:Nat) (h2:s=i+ch) (h3:s<=c)=>eX A N c i s _ h2 h1 h3);clear hi X y Y;have w:=qj B;clear B;refine callsIn_of_wp func99 rfl hf ?_ C;simp only [ntmps99,xd,qf,zF,Nat.reduceAdd,Nat.reduceSub,ya,yA,QI,yI,xY,Qy];gi_wp2;gi_loopw [4] (λu wr=> ∃k i:Nat,k<=q/\u=(i:Value)/\i<=N/\Hid (i=k*ch)/\J ((List.finRange q).take k) wr/\QP o j W wr)
  (λu _=>N-(intOf u).toNat)
 ·exact⟨0,0,qp _,rfl,qp _,by show 0=0*ch;rw [jd],h0,QP.refl _ _ _⟩
 ·obtain⟨k,i,hk,rfl,O,g,p,t⟩:=hrel;have c1:=(t _).1 R;have c2:=(t _).2 Z;by_cases d:k<q
  ·have d':i+ch<=N:=by
    rw [g.out,w.out,<-ql];exact zk _ d
   have M':=j' i N;obtain⟨s,f⟩:=j1 (i+ch);have iL:(i:Int)+(ch:Int)=(s:Int):=uK;have m':s<=1000000000:=uK;have N6:=vc s c;have hcut:=G i O;have N':=D i s f uK;have u': ¬N-i<ch:=uK;generalize I:N-i=ni at*;have r:Qc A ch (⟨k,d⟩:Fin q).val= .slice (A.map (·.add i)) ch ch:=by unfold Qc;rw [g.out]
   rw [show A.map (·.add i)=A.map (·.add i) from rfl] at r;generalize A.map (·.add i)=Ai at*;replace f:=qj f;gi_wp2;refine wpIn_region_quiet_lit C AL AL ?_;repeat (gi_big_quiet_step (fail))
   refine wpQuietIn_nil ?_;intro _ K;obtain⟨nq,U⟩:=K;subst U;obtain⟨fn,tmps,G',J',hy,V⟩:=L _ ⟨k,d⟩ (wr.drewN nq) (Q _ _ _ p) (by rw [qh,ye];omega);rw [r] at hy;clear r hcut;gi_wp2;refine V.mono ?_;rintro e W3 (⟨rfl,T,z⟩|⟨rfl,S⟩)
   ·have c3:=(z _).2 c2;gi_wp2;refine xk ?_;exact⟨k+1,s,uK,rfl,uK,by show s=(k+1)*ch;rw [ql,<-g.out];exact f,by rw [Vv q k d];exact T,t.trans (λv=>z v)⟩
   ·gi_wp2;refine qW (results_none rfl _ _ _) rfl ?_;exact⟨⟨_,rfl⟩, .inr ⟨_,⟨k+1,uK,(Vv q k d).symm⟩,S⟩⟩
  ·obtain rfl:k=q:=uK;have D':(N:Int)<=(i:Int):=by have:=g.out;have:=w.out;omega
   rw [qH s8] at p;gi_wp2;go_end0;exact⟨⟨_,rfl⟩, .inl ⟨_,rfl,p⟩⟩
theorem aQ (F:Fence) (n:Nat) (G:F.fn 99) (t:F.round=none) (B:1<=n) (b a:Nat) (A:q') (N c ch q:Nat) (i:N=q*ch) (h1:1<=ch) (C:N<=c) (o:N<=1000000000) (w:World)
  (z:w.cell? b=some (.slice A N c)) (E:w.cell? a=some (ch:Value)) (d:b<w.heap.size) (j:a<w.heap.size):
  SeqStopsK F n prog 99 #[.pointer b, .pointer a] (λx:Fin q=> #[Qc A ch x.val]) (QP b a) (λu=>u=List.finRange q) (λh=> ∃k,k<=q/\h=(List.finRange q).take k) q w:=λl J D W g v _ y h0=>
 ay F n G t B l b a A N c _ q i h1 C o J D (λs f m d=>v s f _ none d ⟨rfl,rfl,rfl,qx _,λ_ _ _=>rfl⟩ (λr e=>by cases e)) y W ((g.cell (p:= b) d).trans z) ((g.cell (p:= a) j).trans E) h0
end
end
section
section
open Go.RowKit
theorem Sr (n:Nat) (w:World) (k:n<=1000000000):Calls prog 85 #[zn,n] w λe w'=> ∃A c,e= .returned (.slice A 0 c)/\w'.ownsRow w 5 1 (.slice A 0 c) 0 []/\Below w w w':=by
 obtain⟨j,hi,f,h,g⟩:=qA xR;by_cases h0:n=0
 ·subst h0;go_wp2;go_ret;exact⟨_,0,rfl,qP _ _ _ 1,qZ _ _⟩
 ·have l:=yn n;have o:=grownCap_ge w n 0 5;have a:=grownCap_le_maxLen w n 0 5 SJ;have i: ∀d,(Builtin.append_ #[30,3] d #[zn,n]).run prog w=
   .ok (.slice w n (grownCap w n 0 5)) (w.drew.alloc (.cells (Builtin.zeroCells (Value.int .u8 0).cells n++Builtin.zeroCells (Value.int .u8 0).cells (grownCap w n 0 5-n)) 5)):=λd=>Lib.run_append_nil_zeros w _ _ d _ j _ _ _ qu yu hi f n uK uK uK (by rw [g];omega)
  generalize grownCap w n 0 5=G at*;have b:(Builtin.zeroCells (Value.int .u8 0).cells n++Builtin.zeroCells (Value.int .u8 0).cells (G-n)).size=G*1:=by rw [Array.size_append,XC _ _ rfl,XC _ _ rfl];omega
  generalize Builtin.zeroCells (Value.int .u8 0).cells n++Builtin.zeroCells (Value.int .u8 0).cells (G-n)=C at*;replace b:=qj b;replace a:=qj a;go_in;go_wp2_with (at_builtin;refine Lib.wpList_append_run _ rfl _ _ _ _ rfl _ _ rfl rfl _ _ (i _) ?_)
  all_goals
   go_ret;exact⟨_,_,rfl,World.ownsRow_made w.drew C G (qx _) a b,(qZ _ _).drew.alloc (qx _) _⟩
theorem Dq (A:q') (m c:Nat) (a:List (List Value)) (w:World) (hm:m<=100000) (ht:total a<=1000000000) (h:UX w w.heap.size A m a):
  Calls prog 53 #[.slice A m c] w λe w'=> ∃O N,e= .returned (.slice O (total a) N)/\w'.ownsRow w.heap.size 5 1 (.slice O (total a) N) (total a) a.flatten/\Below w.heap.size w w':=by
 have H:=qj (λW (hW:Below w.heap.size w W)=>h.below hW);obtain⟨i0,hi,I,v,K⟩:=xt xR;have J:=qj (λj=>FK a j);have D:Hid (∀j,m<=j->a.take j=a):=λj hj=>qH (by rw [h.len];exact hj);have P:=qj (λn W hn=>Sr n W hn);clear h;obtain⟨T,p⟩: ∃T,total a=T:=⟨_,rfl⟩;rw [p] at J ht⊢;replace p:=qj p;go_wp2;go_loop [11,3] (λB v3=> ∃j s:Nat,B=(j:Value)/\v3=(s:Value)/\j<=m/\s<=1000000000/\Hid (s=total (a.take j))) (λB _=>m-(intOf B).toNat)
 ·exact⟨0,0,rfl,rfl,uK,uK,by show 0=total (a.take 0);simp [total]⟩
 ·obtain⟨j,s,rfl,rfl,D',hs,HS⟩:=hrel;by_cases z:j<m
  ·have z':=j' j m;obtain⟨ad,V,d,U,vs,G,g,hc,f,-⟩:=(H w (qZ _ _)).at_ j z;subst G;have o:Hid (s+d=total (a.take (j+1))):=by unfold Hid;rw [K9 g,<-HS.out];have:=f.1;omega
   have L:=J (j+1);rw [<-o.out] at L;clear g f;have G':(s:Int)+(d:Int)=((s+d:Nat):Int):=uK;generalize s+d=Y at*;go_wp2;go_round
   case rel=>exact⟨j+1,Y,xh,rfl,uK,uK,o⟩
   case measure=>simp [intOf];omega
  ·have r:Hid (s=T):=by unfold Hid;rw [HS.out,D.out j uK];exact p.out
   have u:=r.out;subst u;clear HS;go_wp2_with fail;refine(P _ _ hs).mono ?_;rintro e w1 ⟨Q,c1,rfl,M,q⟩;have S:Hid (w1.ownsRow w.heap.size 5 1 (.slice Q 0 c1) 0 (a.take 0).flatten):=by unfold Hid;rw [vG];exact M
   replace q:=qj q;clear M;go_wp2;go_loopw [27,6] (λy v6 wr=> ∃(j b l:Nat) (i:q'),y=(j:Value)/\v6= .slice i b l/\j<=m/\b<=1000000000/\Hid (b=total (a.take j))/\Hid (Below w.heap.size w wr)/\Hid (wr.ownsRow w.heap.size 5 1 (.slice i b l) b (a.take j).flatten)) (λy _ _=>m-(intOf y).toNat)
   ·exact⟨0,0,c1,Q,rfl,rfl,uK,uK,by show 0=total (a.take 0);simp [total],q,S⟩
   ·obtain⟨j,b,l,i,rfl,rfl,D',I',HS,k,t⟩:=hrel;by_cases z:j<m
    ·have z':=j' j m;obtain⟨ad,V,d,U,vs,G,g,hc,f,F⟩:=(H _ k).at_ j z;subst G;have o:Hid (b+d=total (a.take (j+1))):=by unfold Hid;rw [K9 g,<-HS.out];have:=f.1;omega
     have L:=J (j+1);rw [<-o.out] at L;have u':=qj (dX g);have p':b+d<=maxLen:=SJ;have m':(b+d)*1<=140737488355328:=uK;replace f:=qj f;replace F:=qj F;clear g;go_wp2_with (at_builtin;refine qF _ rfl (.tmp 31) (.tmp 32) 30 rfl w.heap.size 5 i0 (Value.int .u8 0) 1 1 qu hi I v K rfl uK i b l _ rfl t wr.heap.size V d U _ rfl f F p' m' k.size ?_;intro A3 Z X C R d';have E:=zG k R t k.size;replace C:=qj C;replace E:=qj E;clear R d');refine xk ?_;exact⟨j+1,b+d,Z,A3,xh,rfl,uK,uK,o,E,by rw [u'.out];exact C⟩
    ·have r:Hid (b=s):=by unfold Hid;rw [HS.out,D.out j uK];exact p.out
     have u:=r.out;subst u;have x:=D j uK;rw [x] at t;go_wp2;go_ret;exact⟨i,l,rfl,t,k⟩
end
end
section
section
open Go.RowKit
theorem uU (A:q') (m c:Nat) (a:List (List Value)) (w:World) (g:m<=100000) (ht:total a<=1000000000) (h:UX w w A m a):
  Calls prog 30 #[.slice A m c] w λe w'=> ∃i f,e= .returned (.slice i (total a) f)/\w'.ownsRow w 5 1 (.slice i (total a) f) (total a) a.flatten/\Below w w w':=by
 have j:=qj (Dq A m c a w g ht h);generalize total a=T,a.flatten=l at*;clear h g ht;go_in;go_wp2_with fail;refine j.mono ?_;rintro e n ⟨k,c1,rfl,b,d⟩;replace b:=qj b;replace d:=qj d;go_wp2;go_ret;exact⟨k,_,rfl,b,d⟩
end
end
section
section
open Go.RowKit
theorem Mh (n x:Nat) (h:x<2^n):x^^^(2^n-1)=2^n-1-x:=by
 apply Z9;intro i;rw [Zc,Nat.testBit_two_pow_sub_one,show 2^n-1-x=2^n-(x+1) by omega,Nat.testBit_two_pow_sub_succ h];by_cases hi:i<n
 ·simp [hi]
 ·have:x.testBit i=false:=Zd (qB h (zZ uK uK));simp [hi,this]
theorem gG (x:Nat) (h:x<18446744073709551616):bits .xor .u64 (x:Int) 18446744073709551615=((18446744073709551615-x:Nat):Int):=by
 rw [show(18446744073709551615:Int)=((18446744073709551615:Nat):Int) from rfl,u64_xor_nat x _ h uK];congr 1;exact Mh 64 x h
theorem gh (x:Nat) (h:x<18446744073709551616):bits .xor .u64 (x:Int) 0=(x:Int):=by
 rw [show(0:Int)=((0:Nat):Int) from rfl,u64_xor_nat x _ h uK,Nat.xor_zero]
theorem OA (d:Nat) (w:World) (h:d<18446744073709551616):
  Calls prog 89 #[.int .u64 d] w λe w'=>e= .returned (.int .u64 (zig d:Nat))/\w=w':=by
 obtain⟨r,a⟩: ∃r,r=zig d:=⟨_,rfl⟩;rw [<-a];unfold zig at a;by_cases c:d<9223372036854775808
 ·rw [qk c] at a
  have h1:(d:Int)/9223372036854775808=0:=uK;have h2:IntKind.u64.wrap ((d:Int)*2)=(r:Int):=by rw [qS];omega
  have h3:=gh r uK;replace a:=qj a;go_enter func89,ntmps89
  go_wp2_with fail;go_ret;exact⟨rfl,rfl⟩
 ·rw [qJ c] at a
  obtain⟨q,b⟩: ∃q,q=2*d-18446744073709551616:=⟨_,rfl⟩;have h1:(d:Int)/9223372036854775808=1:=uK;have h2:IntKind.u64.wrap ((d:Int)*2)=(q:Int):=by rw [qS];omega
  have h4:IntKind.u64.wrap (-1)=18446744073709551615:=by rw [qS];rfl
  have h3:bits .xor .u64 (q:Int) 18446744073709551615=(r:Int):=by rw [gG q uK];congr 1;omega
  replace a:=qj a;replace b:=qj b;go_enter func89,ntmps89
  go_wp2_with fail;go_ret;exact⟨rfl,rfl⟩
theorem Oe (z:Nat) (w:World) (h:z<18446744073709551616):
  Calls prog 253 #[.int .u64 z] w λe w'=>e= .returned (.int .u64 (zag z:Nat))/\w=w':=by
 obtain⟨r,a⟩: ∃r,r=zag z:=⟨_,rfl⟩;rw [<-a];unfold zag at a;have c:=cP z h;obtain⟨y,f⟩: ∃y,y=z/2:=⟨_,rfl⟩;have j:(z:Int)/2=(y:Int):=uK;by_cases b:z%2=0
 ·rw [qk b] at a
  rw [b] at c;have h3:=gh r uK;have g:y=r:=uK;rw [g] at j;replace a:=qj a;replace b:=qj b;clear g f;have i:bits .and .u64 (z:Int) 1=0:=c;go_enter func253,ntmps253
  go_wp2_with fail;go_ret;exact⟨rfl,rfl⟩
 ·rw [qJ b] at a
  have d:z%2=1:=uK;rw [d] at c;have i:bits .and .u64 (z:Int) 1=1:=c;have h4:IntKind.u64.wrap (-1)=18446744073709551615:=by rw [qS];rfl
  have h3:bits .xor .u64 (y:Int) 18446744073709551615=(r:Int):=by rw [gG y uK];congr 1;omega
  replace a:=qj a;replace b:=qj b;replace d:=qj d;replace f:=qj f;go_enter func253,ntmps253
  go_wp2_with fail;go_ret;exact⟨rfl,rfl⟩
end
end
section
section
open Go.RowKit
theorem g9 (z:UInt8): ∀(l:qn),vk (l++[z])=vk l+z.toNat*256^l.length
 |[]=>by simp [vk]
 |c::t=>by
  show c.toNat+256*vk (t++[z])=c.toNat+256*vk t+z.toNat*256^(t.length+1)
  rw [g9 z t,vB,Nat.mul_add];have:256*(z.toNat*256^t.length)=z.toNat*(256^t.length*256):=by rw [xH,Nat.mul_assoc]
  omega
theorem Yy: ∀(l:qn),vk l<256^l.length
 |[]=>by simp [vk]
 |c::t=>by
  show c.toNat+256*vk t<256^(t.length+1)
  have:=Yy t;have a:=c.toNat_lt;rw [vB];omega
theorem VW (W:World) (g:Nat) (A:Option Addr) (N cap:Nat) (b:List UInt8) (c:Cu) (n:Nat) (h:Cur W g A N cap b c) (h1:1<=n) (h7:n<8):
  Calls prog 193 #[.pointer g,n] W (jS W g A N cap b (.int .u64 (Yb b n c).1) (Yb b n c).2):=by
 have r:=qj (Qs W g A N cap b c (n:Int) h);have B:Yb b n c=(vk (jW b n c).1,(jW b n c).2):=by unfold Yb;rw [qJ uK]
 have L:(jW b n c).1.length<=n:=by
  unfold jW;dsimp only;split
  ·exact qp _
  ·rw [qh,show((n:Nat):Int).toNat=n from rfl];omega
 rw [B];dsimp only;generalize (jW b n c).1=a at*
 generalize (jW b n c).2=c2 at*
 have D': ¬(n:Int)<1:=uK;have Q: ¬(8:Int)<(n:Int):=uK;unfold X1 at r;unfold jS;clear h B;go_enter func193,ntmps193
 go_wp2_with fail;refine r.mono ?_;rintro e I ⟨A1,c1,rfl,x,E,w⟩;have M:=qj x;have H:=qj E;have C:=qj (Reads.zY w);clear r x E w;obtain⟨m,d⟩: ∃m,m=a.length:=⟨_,rfl⟩;rw [<-d] at C L⊢;replace d:=qj d
 go_wp2_with fail;go_loopw [5,20] (λK s wr=> ∃k:Nat,K= .int .u64 (vk (a.take k))/\s=(k:Value)/\k<=m/\wr=I) (λ_ s _=>m-(intOf s).toNat)
 case atStart=>exact⟨0,by first|rfl|simp [vk],rfl,qp _,rfl⟩
 case round=>
  obtain⟨k,rfl,rfl,hk,rfl⟩:=hrel;by_cases F:k<m
  ·have z':(k:Int)<(m:Int):=uK
   obtain⟨ad,z,rfl,-,y,O⟩:=C.byte F;have t:(a.take k).length=k:=by rw [qh,<-d.out];omega
   have D:Hid (vk (a.take (k+1))=vk (a.take k)+z.toNat*256^k):=by
    rw [Hid,qs,y];have:=g9 z (a.take k);rw [t] at this;exact this
   have p:=Yy (a.take k);rw [t] at p;have v:=Yy (a.take (k+1));rw [qh,show min (k+1) a.length=k+1 by rw [<-d.out];omega] at v
   generalize u:vk (a.take (k+1))=o at*
   replace u:=qj u;generalize vk (a.take k)=X at*
   obtain⟨P,i⟩: ∃P,P=256^k:=⟨_,rfl⟩;obtain⟨S,l⟩: ∃S,S=8*k:=⟨_,rfl⟩;have f:256^k=2^S:=by rw [l,Nat.pow_mul]
   have Y:(2:Int)^S=(P:Int):=by rw [i,f,j6];rfl
   obtain⟨Z,j⟩: ∃Z,Z=z.toNat*P:=⟨_,rfl⟩;have iL:o<18446744073709551616:=qB v (by have:=zZ (show 0<256 by omega) (show k+1<=8 by omega);simpa using this)
   have q:o=X+Z:=by rw [D.out,j,i]
   have m':(z.toNat:Int)*(P:Int)=(Z:Int):=by rw [j,zB]
   have wz:IntKind.u64.wrap (z.toNat:Int)=(z.toNat:Int):=by have:=z.toNat_lt;rw [qS];omega
   have wZ:IntKind.u64.wrap (Z:Int)=(Z:Int):=by rw [qS];omega
   have R:bits .or .u64 (X:Int) (Z:Int)=(o:Int):=by
    have J:Z|||X=Z+X:=nat_join S Z X (by rw [j,i,f];exact Nat.mul_mod_left _ _) (by rw [<-f];exact p)
    rw [u64_or_nat X Z uK uK,Nat.or_comm,J,q,Nat.add_comm]
   have V:IntKind.i64.wrap (8*(k:Int))=(S:Int):=SX;have I':wrap64 (8*(k:Int))=(S:Int):=by rw [wrap64];omega
   have T: ¬(S:Int)<0:=uK;have u':S<64:=uK;have G':(S:Int)<64:=uK;have d':(0:Int)<=(k:Int):=uK;have p':min S 64=S:=uK;replace i:=qj i;replace l:=qj l;replace j:=qj j;replace q:=qj q;replace f:=qj f;clear D t y p v;generalize z.toNat=zz at*
   go_wp2_with fail;go_roundw
   case rel=>exact⟨k+1,by rw [u.out],by first|rfl|simp,uK,by first|rfl|trivial⟩
   case measure=>simp [intOf];omega
  ·obtain rfl:k=m:=uK
   have G:Hid (vk (a.take k)=vk a):=by rw [Hid,qH (by rw [<-d.out];exact qx _)]
   generalize vk (a.take k)=U at*
   go_wp2_with fail;go_ret;rw [<-G.out];exact⟨rfl,M.out,H.out⟩
end
end
section
variable {K:Act->World->Prop}{a:Act}{o:Oper}{w:World}
section
open Go.RowKit
section
variable {P : Program} {ops : Array Oper} {Q : Exit -> Act -> World -> Prop} {md : Region.Mode} {l n : Nat}
def YG (o:Oper):Bool:=match o.op with| .defer _=>false|_=>true
theorem TI (h:YG o=true): ∀c,o.op≠ .defer c:=by
 intro c e;unfold YG at h;rw [e] at h;cases h
theorem iE (g:YG o=true) (h:Oper.wp P o a w K Q):Oper.wpIn (Fence.wide.inRound l) n P o a w K Q:=by
 refine⟨λ_ _=>trivial, ?_⟩;rw [Oper.semAt_eq _ _ _ (TI g)];unfold Oper.wp at h;generalize (execOp a.eval o).run P w=r at*;cases r with
 |ok x w'=>
  cases x with
  |value v=>exact h
  |skip=>exact h
  |«defer» d=>exact h
  |enter f args=>exact⟨λe=>(by cases e),Qz.2 h⟩
  |row r args=>exact⟨λe=>(by cases e),λc j _=>(let⟨v,i,k,b⟩:=h c j;⟨v,i,k,stepsIn_wide.2 b⟩)⟩
  |_=>exact h.elim
 |halt x w'=>cases x<;>first|exact h|exact h.elim
theorem O7 {i:Nat} (g: ∀a w,¬Q .outgrown a w) (d:ops.all YG=true) (h:wpOp P ops Q i K a w):wpOpIn (Fence.wide.inRound l) n P ops Q i K a w:=by
 unfold wpOp at h;unfold wpOpIn;cases b:ops[i]?with
 |none=>rw [b] at h;exact h
 |some o=>
  rw [b] at h;dsimp only at h⊢;have j:YG o=true:=by
   rw [Array.all_eq_true] at d;obtain⟨hi,rfl⟩:=Array.getElem?_eq_some_iff.1 b;exact d i _
  split
  ·rename_i c;rw [qk c] at h;exact iE j (h.resolve_right (λ⟨_,f,e,h0⟩=>g f e h0))
  ·rename_i c;rw [qJ c] at h;exact⟨λ_ _=>trivial,h⟩
theorem rT (b: ∀a w,¬Q .outgrown a w) (c:ops.all YG=true): ∀(fuel:Nat) (listed:Array Bool) (a:Act) (w:World),wpAny P md ops Q fuel listed a w->wpAnyIn (Fence.wide.inRound l) n P md ops Q fuel listed a w
 |0,_,_,_,h=>h
 |fuel+1,listed,a,w,h=>⟨h.1,λi hi=>wpOpIn_mono (λa' w' d=>rT b c _ _ _ _ d) (O7 b c (h.2 i hi))⟩
theorem PM (w:World) {rest:List Oper} (C:o.guard=none) (s x:Operand) (t:TypeId) (p:o.op= .call {callee:= .builtin .append,args:= #[s,x],argTypes:= #[t,t]}) (base:Nat) (e:TypeId) (i:TypeInfo) (z:Value) (size bytes:Nat) (ht:P.underlying t=some (.slice e)) (hi:P.info? e=some i) (q:i.zero=some z) (F:i.size=size) (G:i.bytes=bytes) (I:z.cells.size=size) (v:0<size) (d:q') (k c0:Nat) (j:List Value) (L:a.eval s= .slice d k c0) (r:w.ownsRow base e size (.slice d k c0) k j) (B:Nat) (A:q') (m c:Nat) (g:List Value) (E:a.eval x= .slice A m c) (H:Reads w B size A m g) (h1: ∀u∈g,u.oneCell'=true) (D:k+m<=maxLen) (J:(k+m)*bytes<=140737488355328) (y:base<=w.heap.size) (h: ∀b f w',w'.ownsRow base e size (.slice b (k+m) f) (k+m) (j++g)->w.grownBy w' (d.map (·.block))->JU w d b->wpListIn (Fence.wide.inRound l) n P ops Q rest (a.put o.dst (.slice b (k+m) f)) w'):wpListIn (Fence.wide.inRound l) n P ops Q (o::rest) a w:=
 wpListIn_plain C λ_ K=>iE (by unfold YG;rw [p]) (Ye w s x t p _ e i z _ _ ht hi q F G I v d k _ j L r B A m c g E H h1 D J y λb f w' h2 h3 h4=>K _ _ (h b f _ h2 h3 h4))
theorem oG (f:Nat) (S:World->Prop) {g:Nat} (c:P.follows .mixedOrders=true) (e: ∀a w,¬Q .outgrown a w) (b:ops.all YG=true) (d:S w.drew) (h:S w.drew->jR P .any ops Q S f ops.size (Array.replicate ops.size false) a w.drew):(Code.region g ops true).wpIn (Fence.wide.inRound l) n P Q a w:=
 wpIn_region_any c (rT e b _ _ _ _ (Xw _ _ _ _ (h d)))
end
end
end
section
section
open Go.RowKit
theorem Qa (x n:Nat):(kv x n).length=n:=by unfold kv;simp
theorem TJ (x n k r:Nat) (b:k<n) (a:r=x/256^k%256) (zs:List Value) (d:zs.length=n) (h:zs.take k=((kv x n).map B8).take k):(zs.set k (.int .u8 (r:Int))).take (k+1)=((kv x n).map B8).take (k+1):=by
 have c:((kv x n).map B8)[k]? =some (.int .u8 (r:Int)):=by
  rw [qD];unfold kv;simp only [qD,jJ b,Za];rw [a];show some (Value.int .u8 ((UInt8.ofNat (x/256^k)).toNat:Int))=_;rw [zS]
 rw [qs,qs,c,Qq uK,<-h,List.take_set_of_le (qx _)]
theorem Vw (x n:Nat) (w:World) (h1:1<=n) (h7:n<8) (g:x<256^n):
  Calls prog 63 #[.int .u64 x,n] w (Qr 5 w (kv x n) 0):=by
 obtain⟨E,hi,v,m,y⟩:=qA QB;replace hi:=qj hi;replace v:=qj v;replace m:=qj m;replace y:=qj y;have m': ¬(n:Int)<1:=uK;have V: ¬(8:Int)<(n:Int):=uK;have Z:(n:Int)<8:=uK;have M:E.bytes*n<=281474976710656:=by rw [y.out];omega
 have T:n<=maxLen:=SJ;have Q:Hid (x<18446744073709551616):=qB g (by have:=zZ (show 0<256 by omega) (show n<=8 by omega);simpa using this)
 have f: ∀k,(256:Nat)^k=2^(8*k):=λk=>by rw [Nat.pow_mul]
 have D:(x:Int)/2^(8*n)=0:=by
  have:((x:Int)/2^(8*n))=((x/2^(8*n):Nat):Int):=by rw [JK,j6];rfl
  rw [this,xW (by rw [<-f];exact g)];rfl
 obtain⟨S,a⟩: ∃S,S=8*n:=⟨_,rfl⟩;have A:IntKind.i64.wrap (8*(n:Int))=(S:Int):=SX;have K:wrap64 (8*(n:Int))=(S:Int):=by rw [wrap64];omega
 have z: ¬(S:Int)<0:=uK;have C:S<64:=uK;have J:(S:Int)<64:=uK;rw [<-a] at D;replace f:=qj f;replace a:=qj a;have l:=qj (Qa x n);unfold Qr;obtain⟨c,j⟩: ∃c,c=kv x n:=⟨_,rfl⟩;rw [<-j] at l⊢;replace j:=qj j;replace g:=qj g;go_enter func63,ntmps63
 go_wp2_with (at_make;refine xP _ rfl _ _ 30 rfl w 5 E (.int .u8 0) 1 qu hi v m .i64 .i64 _ _ n rfl rfl rfl rfl M T (qx _) ?_;intro L i H)
 have G:=qj (show Below w w L from(qZ w w).grown H (qx _) (λk I=>by cases I))
 replace i:=qj i;clear H D A K z C J a;go_loopw [29] (λo wr=> ∃(k:Nat) (zs:List Value),o=(k:Value)/\k<=n/\Hid (Below w w wr)/\Hid (wr.ownsRow w 5 1 (.slice w n n) n zs)/\Hid (zs.take k=(c.map B8).take k)) (λo _=>n-(intOf o).toNat)
 case atStart=>exact⟨0,_,rfl,qp _,G,i,by simp [Hid]⟩
 case round=>
  clear i G;obtain⟨k,zs,rfl,I,s,b,e⟩:=hrel;have t:=b.out.1;rw [z_] at t;by_cases B:k<n
  ·have d':(k:Int)<(n:Int):=uK
   obtain⟨U,hf⟩:=xU b B;rw [qX uK] at U;obtain⟨q,d⟩: ∃q,q=x/256^k:=⟨_,rfl⟩;obtain⟨r,u⟩: ∃r,r=q%256:=⟨_,rfl⟩;obtain⟨S,a⟩: ∃S,S=8*k:=⟨_,rfl⟩;have X:(x:Int)/2^S=(q:Int):=by rw [d,a,f.out,JK,j6];rfl
   have Y:q<18446744073709551616:=by rw [d];exact vQ (xr _ _) Q.out
   have A:IntKind.i64.wrap (8*(k:Int))=(S:Int):=SX;have K:wrap64 (8*(k:Int))=(S:Int):=by rw [wrap64];omega
   have z: ¬(S:Int)<0:=uK;have C:S<64:=uK;have J:(S:Int)<64:=uK;have iL:IntKind.u8.wrap (q:Int)=(r:Int):=by rw [va];omega
   have W:(0:Int)<=(k:Int):=uK;have P:Hid ((wr.setCell ⟨w,k,none⟩ (.int .u8 (r:Int))).ownsRow w 5 1 (.slice w n n) n (zs.set k (.int .u8 (r:Int)))):=Qn b _;have O:Hid (Below w w (wr.setCell ⟨w,k,none⟩ (.int .u8 (r:Int)))):=s.setCell (p:=⟨w,k,none⟩) (qx _) _;have R:Hid ((zs.set k (.int .u8 (r:Int))).take (k+1)=(c.map B8).take (k+1)):=by
    have h:=e.out;rw [j.out] at h⊢;exact TJ x n k r B (by rw [u,d]) zs t h
   replace d:=qj d;replace u:=qj u;replace a:=qj a;generalize zs.set k (.int .u8 (r:Int))=N at*
   clear e b s
   go_wp2_with fail;go_roundw
   case rel=>exact⟨k+1,N,by first|rfl|simp,uK,O,P,R⟩
   case measure=>simp [intOf];omega
  ·obtain rfl:k=n:=uK
   have F:Hid (zs=c.map B8):=by
    have h:=e.out;rw [qH uK,qH (by rw [zH,l.out];omega)] at h
    exact h
   rw [F.out] at b;clear e t F
   go_wp2_with fail
   go_ret2;exact⟨_,_,by rw [l.out];rfl,by rw [l.out];exact⟨b.out,s.out⟩⟩
end
end
section
section
open Go.RowKit
def mark (n:Nat):qn:=[70,73,82,75,UInt8.ofNat n]
theorem MF {w:World} {base base':Nat} {e:TypeId} {size:Nat} {n:Nat} {a:List Value} (h:w.ownsRow base e size v n a) (d:base'<=base):w.ownsRow base' e size v n a:=
 ⟨h.1,h.2.imp id λ⟨g,cap,cur,b,c,r⟩=>⟨g,_,_,b,qv d c,r⟩⟩
theorem nU (w:World) (t:TypeId) (c a:List Value) (d:Nat×Nat):
  (∀j u,c[j]? =some u->((w.alloc (.cells c.toArray t d)).alloc (.cells a.toArray t)).cell? ((w.heap.size:Addr).add j)=some u)/\
  (∀j u,a[j]? =some u->((w.alloc (.cells c.toArray t d)).alloc (.cells a.toArray t)).cell? ((↑(w.heap.size+1):Addr).add j)=some u):=by
 have e: ∀(b j:Nat),(⟨b,0,none⟩:Addr).add j=⟨b,j,none⟩:=λb j=>by unfold Addr.add;split<;>simp_all
 refine⟨λj u f=> ?_,λj u f=> ?_⟩
 ·rw [e,cell_of_row _ _ _ c.toArray t d ((heap_alloc_old (w.alloc (.cells c.toArray t d)) (.cells a.toArray t) s8).trans (heap_alloc_new w _))];simpa using f
 ·rw [e,cell_of_row _ _ _ a.toArray t (0,0) (by have h:=heap_alloc_new (w.alloc (.cells c.toArray t d)) (.cells a.toArray t);simpa using h)];simpa using f
theorem CT (n:Nat) (w:World) (h1:1<=n) (h3:n<=3):
  Calls prog 29 #[n] w λe w'=> ∃A c,e= .returned (.tuple #[.slice A 5 c,()])/\w'.ownsRow w.heap.size 5 1 (.slice A 5 c) 5 ((mark n).map B8)/\Below w.heap.size w w':=by
 have H:=Qp n 1 3;rw [show Vp (n:Int) 1 3=true by unfold Vp;simp;omega] at H;replace H:=λw=>qj (H w);have kc:=λ(w:World) (C:Array Value) (n c:Nat)=>Lib.run_convert_bytes_const w _ 5 C n c qu xS;obtain⟨s,hi,d,a,g⟩:=xt Ty;have K:=qj (nU w 5 [.int .u8 70, .int .u8 73, .int .u8 82, .int .u8 75] [.int .u8 (n:Int)] (4,5));have i:Below w.heap.size w ((w.alloc (.cells [.int .u8 70, .int .u8 73, .int .u8 82, .int .u8 75].toArray 5 (4,5))).alloc (.cells [.int .u8 (n:Int)].toArray 5)):=(z8 _).alloc s8 _;replace i:=qj i;have t:(n:Int)%256=n:=uK;go_in;go_wp2_with fail;refine zC (H _).out ?_;intro w' f;replace f:=f.symm;subst f;go_wp2_with (at_builtin;refine wpList_append_grows _ rfl (.tmp 8) (.tmp 11) 30 rfl 5 s (.int .u8 0) 1 1 qu hi d a g rfl uK w.heap.size 4 4 [.int .u8 70, .int .u8 73, .int .u8 82, .int .u8 75] rfl (λh=>by cases h) rfl (λb m=>by cases m;exact K.out.1) ↑(w.heap.size+1) 1 1 [.int .u8 (n:Int)] rfl rfl K.out.2 (one_one rfl) uK SJ uK ?_;intro v u j r;obtain⟨p,c1,rfl⟩:=X_ j);go_ret2;refine⟨p,c1,rfl, ?_, ?_⟩
 ·have q:(mark n).map B8=[.int .u8 70, .int .u8 73, .int .u8 82, .int .u8 75]++[.int .u8 (n:Int)]:=by
   have l:n=1\/n=2\/n=3:=uK;rcases l with rfl|rfl|rfl<;>rfl
  rw [q];exact MF j SZ
 ·exact i.grown r SZ (λk o=>by cases o)
end
end
section
variable {k:Nat}{l:List Rec}
section
open Go.RowKit
def Li:Nat->List Rec->Nat
 |s,[]=>s
 |s,r::t=>if 1099511627776<s\/1099511627776<r.src.length\/1099511627776<r.txt.length then 2199023255552 else Li (s+16+r.src.length+r.txt.length) t
theorem L2 (s:Nat) (r:Rec) (t:List Rec):Li s (r::t)=if 1099511627776<s\/1099511627776<r.src.length\/1099511627776<r.txt.length then 2199023255552 else Li (s+16+r.src.length+r.txt.length) t:=rfl
theorem qqQ: ∀(l:List Rec) (s:Nat),l.any X8=false->s+8016*l.length<=1000000000000->Li s l=s+p8 l
 |[],s,_,_=>by simp [Li,p8]
 |r::t,s,h,a=>by
  rw [List.any_cons,Bool.or_eq_false_iff] at h;have h1:=h.1;unfold X8 at h1;simp only [Bool.or_eq_false_iff,zW] at h1;rw [qf] at a;rw [L2,qJ uK,qqQ t _ h.2 uK];unfold p8;rw [jy,List.sum_cons];omega
theorem Ls (A:q') (c B:Nat) (l:List Rec) (w:World) (h:Reads w B 4 A l (ji l)) (K:l.length<=1000000000):
  Calls prog 15 #[.slice A l c] w λe w'=>e= .returned (.int .i64 (Li 0 l:Nat))/\Dr w w':=by
 have H:=qj h;clear h;go_wp2;go_loopw [3,4] (λu m wr=> ∃k s:Nat,u=(s:Value)/\m=(k:Value)/\k<=l.length/\Hid (Li s (l.drop k)=Li 0 l)/\Hid (Dr w wr)) (λ_ m _=>l.length-(intOf m).toNat)
 ·exact⟨0,0,rfl,rfl,qp _,rfl,Dr.refl w⟩
 ·obtain⟨k,s,rfl,rfl,L,HS,g⟩:=hrel;by_cases n:k<l.length
  ·have J:(k:Int)<(l.length:Int):=uK;obtain⟨G,rfl,_,D,E,M,z⟩:=ZH (g.reads H) k n;have o:l.drop k=l[k]::l.drop (k+1):=zK n;have a:=HS.out;rw [o,L2] at a;clear o HS;have r:(ByteArray.mk l[k].src.toArray).size=l[k].src.length:=rfl;have q:(ByteArray.mk l[k].txt.toArray).size=l[k].txt.length:=rfl;generalize (⟨l[k].src.toArray⟩:ByteArray)=p,(⟨l[k].txt.toArray⟩:ByteArray)=S2,(l[k].time:Int)=t,(l[k].level:Int)=I at*;rw [<-r,<-q] at a;obtain⟨d,i⟩:=j1 p.size;obtain⟨f,j⟩:=j1 S2.size;rw [<-i,<-j] at a;have C:(p.size:Int)=(d:Int):=by rw [i]
   have F:(S2.size:Int)=(f:Int):=by rw [j]
   replace i:=qj i;replace j:=qj j;clear r q;by_cases q1:1099511627776<s
   ·rw [qk (.inl q1)] at a;have v:(1099511627776:Int)<(s:Int):=uK;have b:=qj a;clear a;go_wp2;go_ret;exact⟨by rw [<-b.out];rfl,g⟩
   have v: ¬(1099511627776:Int)<(s:Int):=uK;by_cases q2:1099511627776<d
   ·rw [qk (.inr (.inl q2))] at a;have y:(1099511627776:Int)<(d:Int):=uK;have b:=qj a;clear a;go_wp2;go_ret;exact⟨by rw [<-b.out];rfl,g⟩
   have y: ¬(1099511627776:Int)<(d:Int):=uK;by_cases q3:1099511627776<f
   ·rw [qk (.inr (.inr q3))] at a;have x:(1099511627776:Int)<(f:Int):=uK;have b:=qj a;clear a;go_wp2;go_ret;exact⟨by rw [<-b.out];rfl,g⟩
   have x: ¬(1099511627776:Int)<(f:Int):=uK;rw [qJ (λh=>h.elim q1 λh=>h.elim q2 q3)] at a;have b:=qj a;clear a;go_wp2;go_quiet (fail);go_wp2_with fail;refine xk ?_;exact⟨k+1,s+16+d+f,xh,xb,uK,b.out,g.drewN _⟩
  ·obtain rfl:k=l.length:=uK;have a:=HS.out;rw [List.drop_length] at a;have b:Hid (s=Li 0 l):=a;clear a HS;go_wp2;go_ret;exact⟨by rw [<-b.out];rfl,g⟩
theorem oT (a:k<l.length) (h:4000<l[k].src.length\/4000<l[k].txt.length):xu l=6:=by
 unfold xu;rw [qk];refine .inr (.inl (ZQ.2 ⟨l[k],zx a, ?_⟩));unfold X8;simp only [J3,zd];exact h
theorem Nk (a:k<l.length) (h0:(l.take k).any X8=false) (h1:l[k].src.length<=4000) (h2:l[k].txt.length<=4000):(l.take (k+1)).any X8=false:=by
 have e:l.take (k+1)=l.take k++[l[k]]:=by rw [qs,qX a];rfl
 rw [e,List.any_append,h0,Bool.false_or,List.any_cons,List.any_nil,Bool.or_false];unfold X8;simp only [Bool.or_eq_false_iff,zW];omega
theorem Gd (A:q') (c B:Nat) (l:List Rec) (w:World) (h:Reads w B 4 A l (ji l)) (T:l.length<=1000000000):
  Calls prog 9 #[.slice A l c] w λe w'=>e= .returned (.int .i64 (xu l))/\Dr w w':=by
 have H:=qj h;clear h;by_cases x:20000<l.length
 ·have z:xu l=6:=by unfold xu;rw [qk (.inl x)]
  rw [z];have F:(20000:Int)<(l.length:Int):=uK;generalize l.length=n at*;clear z;go_wp2;go_ret;exact⟨rfl,Dr.refl w⟩
 have F: ¬(20000:Int)<(l.length:Int):=uK;go_wp2;go_loopw [3,4] (λG v wr=> ∃k s:Nat,G=(s:Value)/\v=(k:Value)/\k<=l.length/\Hid (s=p8 (l.take k))/\s<=8016*k/\Hid ((l.take k).any X8=false)/\Hid (Dr w wr)) (λ_ v _=>l.length-(intOf v).toNat)
 ·exact⟨0,0,rfl,rfl,qp _,by simp [Hid,p8],qx _,rfl,Dr.refl w⟩
 ·obtain⟨k,s,rfl,rfl,U,HS,W,m,j⟩:=hrel;by_cases o:k<l.length
  ·have S:(k:Int)<(l.length:Int):=uK;obtain⟨Q,rfl,_,N,O,V,L⟩:=ZH (j.reads H) k o;have a:s+(16+l[k].src.length+l[k].txt.length)=p8 (l.take (k+1)):=by rw [pt l k o,<-HS.out]
   have b:=oT o;have i:=Nk o m.out;clear HS m;have D:(ByteArray.mk l[k].src.toArray).size=l[k].src.length:=rfl;have C:(ByteArray.mk l[k].txt.toArray).size=l[k].txt.length:=rfl;generalize (⟨l[k].src.toArray⟩:ByteArray)=y,(⟨l[k].txt.toArray⟩:ByteArray)=S2,(l[k].time:Int)=t,(l[k].level:Int)=R at*;rw [<-D,<-C] at a b i;obtain⟨d,p⟩:=j1 y.size;obtain⟨g,r⟩:=j1 S2.size;rw [<-p,<-r] at a b i;have M:(y.size:Int)=(d:Int):=by rw [p]
   have P:(S2.size:Int)=(g:Int):=by rw [r]
   clear D C;replace a:=qj a;by_cases q1:4000<d
   ·have f:=qj (b (.inl q1));have I:(4000:Int)<(d:Int):=uK;clear b i;go_wp2;go_ret;exact⟨by rw [f.out];rfl,j⟩
   have I: ¬(4000:Int)<(d:Int):=uK;by_cases q2:4000<g
   ·have f:=qj (b (.inr q2));have K:(4000:Int)<(g:Int):=uK;clear b i;go_wp2;go_ret;exact⟨by rw [f.out];rfl,j⟩
   have K: ¬(4000:Int)<(g:Int):=uK;have J:=qj (i uK uK);clear b i;go_wp2;go_quiet (fail);go_wp2_with fail;refine xk ?_;exact⟨k+1,s+(16+d+g),xh,xb,uK,a,uK,J,j.drewN _⟩
  ·obtain rfl:k=l.length:=uK;have a:=HS.out;have u:=m.out;rw [jP] at a u;by_cases q:1048576<s
   ·have f:Hid (xu l=6):=by rw [Hid];unfold xu;rw [qk (.inr (.inr uK))]
    have E:(1048576:Int)<(s:Int):=uK;clear a HS m u;go_wp2;go_ret;exact⟨by rw [f.out];rfl,j⟩
   ·have f:Hid (xu l=0):=by
     rw [Hid];unfold xu;rw [qJ (λh=>h.elim x λh=>h.elim (λh=>by rw [u] at h;cases h) uK)]
    have E: ¬(1048576:Int)<(s:Int):=uK;clear a HS m u;go_wp2;go_ret;exact⟨by rw [f.out];rfl,j⟩
theorem L9 (A:q') (c B a bytes:Nat) (l:List Rec) (w:World) (h:Reads w B 4 A l (ji l)) (j:l.length<=1000000000) (m:a<=1000000) (o:bytes<=100000000):
  Calls prog 8 #[.slice A l c,a,bytes] w λe w'=>e= .returned (.bool (decide (a<l.length)||decide (bytes<Li 0 l)))/\Dr w w':=by
 have d:=qj (Ls A c B l w h j);generalize Li 0 l=v,l.length=n at*;clear h;by_cases q:a<n
 ·rw [qw q,Bool.true_or];have i:=j' a n;go_wp2;go_ret;exact⟨rfl,Dr.refl w⟩
 rw [qc q,Bool.false_or];have i:=vv a n;go_in;go_wp2_with fail;refine zC d ?_;intro p f;have g:=qj f;clear f;by_cases q2:bytes<v
 ·have k:=j' bytes v;have b:=qj (qw q2);go_wp2;go_ret;exact⟨by rw [b.out];rfl,g⟩
 ·have k:=vv bytes v;have b:=qj (qc q2);go_wp2;go_ret;exact⟨by rw [b.out];rfl,g⟩
end
end
end Go.Proofs.YtfnlfpcfkbdcmaaGreatDoor
