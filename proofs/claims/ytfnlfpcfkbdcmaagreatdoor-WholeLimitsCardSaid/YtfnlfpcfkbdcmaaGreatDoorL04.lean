import Derived.Test.YtfnlfpcfkbdcmaaGreatDoorL00
import Derived.Test.YtfnlfpcfkbdcmaaGreatDoorL01
import Derived.Test.YtfnlfpcfkbdcmaaGreatDoorL02
import Derived.Laws.PanicsMore
import Derived.Lib.AppendStr
import Derived.Lib.AppendZeros
import Derived.Lib.SliceRun
import Derived.Lib.BitFns
set_option linter.unusedSimpArgs false
set_option linter.unusedVariables false
set_option maxRecDepth 100000
set_option maxHeartbeats 0
open Go.Proofs.Tryz
namespace Go.Proofs.YtfnlfpcfkbdcmaaGreatDoor
section
open Go.RowKit
variable {A:q'}{B base c d g k n:Nat}{E e t:TypeId}{W w w' w2:World}{a f:List Value}{l l':List Nat}{p:Addr}
def G7 (n:Int):Bool:=decide (0<=n/\n<=255)
theorem VI (x:Int) (w:World):Calls prog 141 #[x] w λe w'=>e= .returned (.bool (G7 x))/\w=w':=by
 unfold G7;by_cases h1:0<=x
 ·by_cases h2:x<=255
  ·go_wp2;go_ret;exact⟨j7 (by simp [h1,h2]),rfl⟩
  ·go_wp2;go_ret;exact⟨j7 SZ,rfl⟩
 ·have b:x<0:=uK;go_wp2;go_ret;exact⟨j7 SZ,rfl⟩
theorem xR:(prog.info? 5).map (λi=>(i.zero,i.size,i.bytes))=some (some (.int .u8 0),1,1):=AL
theorem YE:(prog.info? 154).map (λi=>(i.zero,i.size))=some (some (.agg #[(),(),zn]),3):=AL
theorem j9:(prog.info? 154).map (·.size)=some 3:=AL
def mC (r c:Int) (v:Value):Array Value:= #[r,c,v]
theorem Jb (r c:Int) (A:q') (n k:Nat):(mC r c (.slice A n k)).all (·.oneCell')=true:=by simp [mC,Value.oneCell']
theorem jz {o:Obj} (h:w.heap[k]? =some o):k<w.heap.size:=by
 rcases jE k w.heap.size with a|b
 ·exact a
 ·rw [zg b] at h;cases h
theorem jV {size:Nat} (h:w.ownsRow base e size (.slice A n c) n f): ∀g,A.map (·.block)=some g-> ∃j i,w.heap[g]? =some (.cells j e i):=by
 intro g a;rcases h.2 with⟨h0,_⟩|⟨k,_,cur,b,_,d,_⟩
 ·injection h0 with h0;rw [h0] at a;cases a
 ·injection b with b;rw [b] at a;injection a with a;subst a;exact⟨_,_,d⟩
theorem zI {size:Nat} {d:List Value} (h:w.ownsRow base e size (.slice A n c) n d) (i: ∀a,A=some a->w'.heap[a.block]? =w.heap[a.block]?):w'.ownsRow base e size (.slice A n c) n d:=by
 refine⟨h.1,h.2.imp id λ⟨g,cap,cur,b,j,f,r⟩=>⟨g,cap,cur,b,j, ?_,r⟩⟩;injection b with b;exact(i _ b).trans f
theorem qG {size:Nat} {b:List Value} (h:w.ownsRow base e size (.slice A n c) n b) (g:Below w w w'):w'.ownsRow base e size (.slice A n c) n b:=by
 refine zI h λa d=>g.block _ ?_;obtain⟨j,i,f⟩:=jV h _ (by rw [d];rfl);exact jz f
theorem Q_ {f:World} {b:Nat} {j:List Value} {d:Array Value} (g:Blk w b 154 d) (h:w.ownsRow base 5 1 (.slice A n c) n j) (k:w.grownBy f (A.map (·.block))):Blk f b 154 d:=by
 refine g.grown k λe=> ?_;obtain⟨l,m,a⟩:=jV h b e.symm;have i:w.heap[b]? =some (.cells d 154):=g;rw [i] at a;injection a with a;injection a with _ a;exact absurd a FV
theorem XG {j:Nat} {g:Array Value} (h:w.ownsRow base 5 1 (.slice A n c) n f) (k:Blk w d 154 g) (u:Value):(w.setCell ⟨d,j,none⟩ u).ownsRow base 5 1 (.slice A n c) n f:=by
 refine zI h λa i=>jT w ⟨d,j,none⟩ u a.block ?_;intro e;obtain⟨p,o,b⟩:=jV h a.block (by rw [i];rfl);have l:w.heap[d]? =some (.cells g 154):=k;have m:a.block=d:=e;rw [m,l] at b;injection b with b;injection b with _ b;exact absurd b FV
theorem ZJ {g:List Value} {i:Array Value} (h:w.ownsRow base 5 1 (.slice A n c) n g) (k:Blk w d 154 i) (f:Array Value):(w.setRow d f).ownsRow base 5 1 (.slice A n c) n g:=by
 refine zI h λa j=>QO w d a.block f ?_;intro e;obtain⟨o,m,b⟩:=jV h a.block (by rw [j];rfl);have l:w.heap[d]? =some (.cells i 154):=k;rw [e,l] at b;injection b with b;injection b with _ b;exact absurd b FV
def zP (a:Nat) (cell:Nat->Nat->UInt8) (n:Nat):qn:=(List.range n).map λt=>cell (t/a) (t%a)
theorem yj (a:Nat) (cell:Nat->Nat->UInt8) (n:Nat):(zP a cell n).length=n:=by simp [zP]
theorem Ks (a:Nat) (cell:Nat->Nat->UInt8) (i j:Nat) (b:j<a):zP a cell (i*a+j+1)=zP a cell (i*a+j)++[cell i j]:=by
 unfold zP;rw [jA,qg];have d:(i*a+j)/a=i:=by
  rw [xH,Nat.mul_add_div uK,xW b,v_]
 have c:(i*a+j)%a=j:=by
  rw [xH,Nat.mul_add_mod,jk b]
 simp [d,c]
theorem fN {r:Nat} (a:r<=255) (b:c<=255):r*c<=65025:=xA a b
theorem AQ (rows a:Nat) (cell:Nat->Nat->UInt8) (w:World) {F:Nat} {cs:List Value} (hr:rows<=255) (hc:a<=255)
  (Y: ∀(i j:Nat) (W:World),i<rows->j<a->Below w w W->Calls prog F ((i:Value)::(j:Value)::cs).toArray W λe w'=>e= .returned (.int .u8 ((cell i j).toNat:Int))/\W=w') (V:F=291/\cs=[]\/(∃m,cs=[m])/\F=143:=by simp):
  Calls prog 142 #[rows,a, .func (.func F) #[] cs.toArray] w λe w'=> ∃c b,e= .returned (.agg (mC rows a (.slice c (rows*a) b)))/\w'.ownsRow w 5 1 (.slice c (rows*a) b) (rows*a) ((zP a cell (rows*a)).map B8)/\Below w w w':=by
 rcases V with⟨rfl,rfl⟩|⟨⟨x',rfl⟩,rfl⟩
 all_goals
  have H:=qj Y;clear Y;obtain⟨V,hi,A,u,B⟩:=xt xR;have hz:=(jb YE).1;have OX:=fN hr hc;have G':IntKind.i64.wrap ((rows:Int)*(a:Int))=((rows*a:Nat):Int):=by rw [<-zB,qU];omega
  have I':wrap64 ((rows:Int)*(a:Int))=((rows*a:Nat):Int):=by rw [<-zB];exact yT _ ⟨uK,uK⟩
  go_in;go_wp2_with (at_make;refine QA _ rfl _ _ 30 rfl w 5 V (.int .u8 0) 1 qu hi A u .i64 .i64 _ (rows*a) rfl rfl (zB rows a).symm (by rw [B.out];omega) SJ s8 ?_;intro g y M;have S:=qj (show Below w w g from((qZ w w).alloc (qx _) _).grown M s8 (λk hk=>by cases hk));have J:=qj (show Blk g w 154 (mC 0 0 zn) from(Blk.new w _ _).grown M s8);replace y:=qj y;clear M);have I:=J.lt;have U:g.ownsRow w 5 1 (.slice ↑(w.heap.size+1) 0 (rows*a)) 0 []:=by simpa using y.out
  have N:Below w w (g.alloc (.cells #[rows,a, .slice ↑(w.heap.size+1) 0 (rows*a)] 154)):=S.alloc (zr I) _;have Q:Blk (g.alloc (.cells #[rows,a, .slice ↑(w.heap.size+1) 0 (rows*a)] 154)) w 154 (mC 0 0 zn):=J.alloc _;have P:Blk (g.alloc (.cells #[rows,a, .slice ↑(w.heap.size+1) 0 (rows*a)] 154)) g 154 (mC rows a (.slice ↑(w.heap.size+1) 0 (rows*a))):=Blk.new _ _ _;have K:=U.alloc (.cells #[rows,a, .slice ↑(w.heap.size+1) 0 (rows*a)] 154);generalize g.alloc (.cells #[rows,a, .slice ↑(w.heap.size+1) 0 (rows*a)] 154)=w3,g.heap.size=d at*;revert N Q P K;refine yl ?_;intro N Q P K;clear U G' I' hz;go_loopw [18] (λC wr=> ∃(i b:Nat) (c:q'),C=(i:Value)/\i<=rows/\Hid (Below w w wr)/\Hid (Blk wr w 154 (mC 0 0 zn))/\Hid (Blk wr d 154 (mC rows a (.slice c (i*a) b)))/\Hid (wr.ownsRow w 5 1 (.slice c (i*a) b) (i*a) ((zP a cell (i*a)).map B8))) (λC _=>rows-(intOf C).toNat)
  ·exact⟨0,rows*a,some ⟨w.heap.size+1,0,none⟩,rfl,uK,N,Q,(by rw [jd];exact P),(by rw [jd];exact K)⟩
  ·obtain⟨i,b,c,rfl,N',f,r,n,l⟩:=hrel;by_cases R:i<rows
   ·have P':(i:Int)<rows:=uK;go_wp2;go_loopw [22] (λL wr=> ∃(j b:Nat) (c:q'),L=(j:Value)/\j<=a/\Hid (Below w w wr)/\Hid (Blk wr w 154 (mC 0 0 zn))/\Hid (Blk wr d 154 (mC rows a (.slice c (i*a+j) b)))/\Hid (wr.ownsRow w 5 1 (.slice c (i*a+j) b) (i*a+j) ((zP a cell (i*a+j)).map B8))) (λL _=>a-(intOf L).toNat)
    ·exact⟨0,b,c,rfl,uK,f,r,n,l⟩
    ·obtain⟨j,b,c,rfl,Q',f,r,n,l⟩:=hrel;by_cases X:j<a
     ·have O':(j:Int)<a:=uK;have hm:i*a+j<65025:=by
       have h1:(i+1)*a<=rows*a:=zk _ R;rw [ql] at h1;omega
      have Z:=qj (Ks a cell i j X);obtain⟨m,G⟩:=j1 (i*a+j);rw [<-G] at n l hm Z;have T:=qj G;clear G;have q2:wr.cell? ⟨d,2,none⟩=some (.slice c m b):=n.cell 2;have D:=f.size;have M':Hid (∀W,Below wr.heap.size wr W->W.cell? ⟨d,2,none⟩=some (.slice c m b)/\Below w w W):=λW z=>⟨(n.below z n.lt).cell 2,f.trans (z.mono f.size)⟩;have HX:Hid (B8 (cell i j)= .int .u8 (((cell i j).toNat:Nat):Int)):=rfl;have HC:=qj (λW z=>H.out i j W R X z);generalize D':cell i j=x at*;clear D';generalize x.toNat=q at*;have p':m+1<=maxLen:=SJ;have J':(m+1)*1<=140737488355328:=uK;go_wp2_with fail;have N9:wr.drew.cell? ⟨d,2,none⟩=some (.slice c m b):=q2;have N6:=λo=>(M' _ (z8 o)).1;have u':=zr I;go_region_law
       (first
        |(go_simp;(first|go_at_call 291|go_at_call 143);((with_reducible refine(HC.out _ (by first|exact f.out|exact f.out.drew)).mono ?_);rintro e w' ⟨rfl,rfl⟩))
        |(refine jm _ SQ _ _ _ SQ w 5 V (.int .u8 0) 1 1 qu hi A u B rfl uK c m b _ SQ ((l.alloc (.cells #[.int .u8 (q:Int)] 5)).drew) (wr.heap.size+1) _ 1 1 _ SQ (zU _ _ _) (one_one rfl) p' J' (show w.heap.size<=(wr.alloc (.cells #[.int .u8 (q:Int)] 5)).heap.size from qv D s8) ?_
          intro F c1 t E v m';have s:=Q_ (n.alloc _).drew ((l.alloc (.cells #[.int .u8 (q:Int)] 5)).drew) v;have O:=Q_ (r.alloc _).drew ((l.alloc (.cells #[.int .u8 (q:Int)] 5)).drew) v;have z':=zG ((f.alloc D (.cells #[.int .u8 (q:Int)] 5)).drew) v ((l.alloc (.cells #[.int .u8 (q:Int)] 5)).drew) (show w.heap.size<=(wr.alloc (.cells #[.int .u8 (q:Int)] 5)).heap.size from qv D s8);have z2:t.cell? ⟨d,2,none⟩=some (.slice c m b):=s.cell 2;have zf:=s.frozen 2;revert E s O;refine vn ?_;intro E s O;clear v m'))
      all_goals
       go_wp2;go_roundw
       case rel=>
        refine⟨j+1,c1,F,xh,uK,z'.setCell (p:=⟨d,2,none⟩) u' _,O.far (p:=⟨d,2,none⟩) (vV I) _, ?_, ?_⟩
        ·rw [show i*a+(j+1)=m+1 by rw [T.out];omega];exact s.zh 2 _
        ·rw [show i*a+(j+1)=m+1 by rw [T.out];omega,Z.out,qg];have h:=XG (j:=2) E s (.slice F (m+1) c1);rw [<-HX.out] at h;exact h
       case measure=>simp [intOf];omega
     ·have iL:j=a:=uK;subst iL;go_wp2_with fail;refine xk ?_;exact⟨i+1,b,c,xh,uK,f,r,(by rw [ql];exact n),(by rw [ql];exact l)⟩
   ·have d':i=rows:=uK;subst d';go_wp2_with (first
     |(refine ja rfl 154 _ rfl d rfl 154 (mC i a (.slice c (i*a) b)) (0,0) _ n zL rfl j9 ?_)
     |(refine qC rfl 154 _ _ rfl w (mC i a (.slice c (i*a) b)) rfl rfl 154 (mC 0 0 zn) r j9 rfl (Jb _ _ _ _ _) ?_))
    exact qW (results_cell_row rfl _ _ w _ _ _ _ rfl (r.row _) zL rfl j9) rfl ⟨c,b,rfl,ZJ l r _,zu f (qx _) _⟩
theorem zi (h:Below w w W) (o:Obj):Below w w (W.alloc o):=h.alloc h.size o
theorem zX {a:World} (h:Below w w W) (b:Below W W a):Below w w a:=h.trans (b.mono h.size)
structure qE (l:List Nat) (w w':World):Prop where
 os:w'.os=w.os
 tape:w'.tape=w.tape
 output:w'.output=w.output
 size:w.heap.size<=w'.heap.size
 block: ∀k,k<w.heap.size->k∉l->w'.heap[k]? =w.heap[k]?
def fpS (A:q'):List Nat:=(A.map (·.block)).toList
theorem ZO:k∈fpS A↔A.map (·.block)=some k:=by
 unfold fpS;cases A<;>simp [eq_comm]
def Y8:Value->Nat
 | .slice _ n _=>n
 |_=>0
theorem qE.refl (l:List Nat) (w:World):qE l w w:=⟨rfl,rfl,rfl,qx _,λ_ _ _=>rfl⟩
theorem qE.mono (h:qE l w w') (c: ∀k∈l,k∈l'):qE l' w w':=⟨h.os,h.tape,h.output,h.size,λk a b=>h.block k a λe=>b (c k e)⟩
theorem qE.trans (h:qE l w w') (a:qE l' w' w2) (d: ∀k∈l',k∈l\/w.heap.size<=k):qE l w w2:=
 ⟨a.os.trans h.os,a.tape.trans h.tape,a.output.trans h.output,qv h.size a.size,λk b c=>(a.block k (qB b h.size) λe=>(d k e).elim c λh2=>uK).trans (h.block k b c)⟩
theorem qE.then (h:qE l w w') (a:qE l w' w2):qE l w w2:=h.trans a λk b=> .inl b
theorem qE.jq (h:Below w w w'):qE l w w':=⟨h.os,h.tape,h.output,h.size,λk a _=>h.block k a⟩
theorem qE.fresh (h:qE l w w') (a:Below w' w' w2):qE l w w2:=h.trans (qE.jq (l:=[]) a) λk b=>by cases b
theorem qE.below (h:qE l w w') (a: ∀k∈l,B<=k) (b:B<=w.heap.size):Below B w w':=⟨h.os,h.tape,h.output,h.size,λk c=>h.block k uK λe=>by have:=a k e;omega⟩
theorem qE.nil (h:qE [] w w'):Below w w w':=h.below (λk a=>by cases a) (qx _)
theorem qE.new (h:qE l w w') (a: ∀k∈l,w.heap.size<=k):Below w w w':=h.below a (qx _)
theorem qE.drew (h:qE l w w'):qE l w w'.drew:=⟨h.os,h.tape,h.output,h.size,h.block⟩
theorem qE.drewN (h:qE l w w') (n:Nat):qE l w (w'.drewN n):=⟨h.os,h.tape,h.output,h.size,h.block⟩
theorem qE.alloc (h:qE l w w') (o:Obj):qE l w (w'.alloc o):=h.fresh (z8 o)
theorem qE.zh (h:qE l w w') (c:p.block∈l) (u:Value):qE l w (w'.setCell p u):=
 ⟨h.os,h.tape,h.output,by rw [zO];exact h.size,λk b a=>(jT w' p u k (λe=>a (e▸c))).trans (h.block k b a)⟩
theorem qE.IZ (h:qE l w w') (c:w.heap.size<=p.block) (u:Value):qE l w (w'.setCell p u):=
 ⟨h.os,h.tape,h.output,by rw [zO];exact h.size,λk a b=>(jT w' p u k (λe=>uK)).trans (h.block k a b)⟩
theorem qE.grown (h:qE l w w') (a:w'.grownBy w2 (A.map (·.block))) (d: ∀k∈fpS A,k∈l\/w.heap.size<=k):qE l w w2:=
 ⟨a.os.trans h.os,a.tape.trans h.tape,a.output.trans h.output,qv h.size a.size,λk b c=>(a.block k (qB b h.size) λe=>(d k (ZO.2 e.symm)).elim c λh2=>uK).trans (h.block k b c)⟩
theorem qE.IJ (h:qE l w w') (a:w'.grownBy w2 none):qE l w w2:=h.grown (A:=none) a λk b=>by simp [fpS] at b
theorem qE.cell (h:qE l w w') (b:p.block∉l) {v:Value} (a:w.cell? p=some v):w'.cell? p=some v:=(zw (h.block _ (yM a) b)).trans a
theorem qE.blk {a:Array Value} (h:qE l w w') (b:Blk w g t a) (c:g∉l):Blk w' g t a:=(h.block _ b.lt c).trans b
theorem qE.own {size:Nat} {e:List Value} (h:qE l w w') (d:w.ownsRow base E size (.slice A n c) n e) (g: ∀k∈fpS A,k∉l):w'.ownsRow base E size (.slice A n c) n e:=
 zI d λa b=>by
  obtain⟨j,i,f⟩:=jV d _ (by rw [b];rfl)
  exact h.block _ (jz f) (g _ (ZO.2 (by rw [b];rfl)))
theorem qE.reads {size:Nat} (h:qE l w w') (b:Reads w B size A n a) (f:B<=w.heap.size) (c: ∀k∈l,B<=k):Reads w' B size A n a:=b.keep λp d=>zw (h.block _ uK λe=>by have:=c _ e;omega)
theorem qT {w:World} {size:Nat} {b:Array Value} {i:List Value} (d:w.ownsRow base E size (.slice A n c) n i) (e:Blk w g t b) (j:E≠t): ∀k∈fpS A,k≠g:=by
 rintro k h rfl;obtain⟨m,l,a⟩:=jV d k (ZO.1 h);have f:w.heap[k]? =some (.cells b t):=e;rw [f] at a;injection a with a;injection a with _ a;exact j a.symm
theorem zj {w:World} {size:Nat} (b:w.ownsRow base E size (.slice A n c) n a): ∀k∈fpS A,base<=k/\k<w.heap.size:=λk d=>b.lt k (by rw [jH];exact ZO.1 d)
theorem Y9 {w:World} {b:q'} (h:JU w A b): ∀k∈fpS b,k∈fpS A\/w.heap.size<=k:=λk a=>by
 rcases h with h|h
 ·exact .inl (ZO.2 (h▸ZO.1 a))
 ·rw [ZO,h] at a
  injection a with a
  exact .inr (Nat.le_of_eq a)
def jQ (E:TypeId) (w:World) (n:Nat) (r:List Value) (e:Ending) (w':World):Prop:= ∃A c,e= .returned (.slice A n c)/\yG w w' E A n c r
theorem QB:(prog.info? 5).map (λi=>(i.zero,i.size,i.bytes))=some (some (.int .u8 0),1,1):=AL
theorem YR (l:qn): ∀u∈l.map B8,u.oneCell'=true:=by
 intro u a;obtain⟨b,_,rfl⟩:=jB.1 a;rfl
theorem ZR (w:World) (base:Nat) (e:TypeId) (a:base<=w.heap.size):(w.alloc (.cells #[] e)).ownsRow base e 1 (.slice w 0 0) 0 []:=
 World.ownsRow_made w _ 0 a SJ s8
theorem yV (A:q') (n c B:Nat) (e:qn) (w:World) (h:Reads w B 1 A n (e.map B8)) (j:B<=w.heap.size) (l:n<=140737488355328):
  Calls prog 55 #[.slice A n c] w (jQ 5 w n (e.map B8)):=by
 have a:=λW=>Lib.run_eql_slice_nil W _ 5 A n c 0 0 qu;obtain⟨r,hi,f,d,g⟩:=xt QB;have H:=qj h;cases A with
 |none=>
  have h0:n=0:=by
   rcases zA n with h0|h0
   ·exact h0
   ·obtain⟨i,a,_⟩:=h.2 h0;cases a
  have p:e=[]:=zl (by have:=h.len;omega);subst h0;subst p;simp only [Option.isNone] at a;clear h j l;go_wp2;go_ret;exact⟨_,0,rfl,yG.nil w _⟩
 |some i=>
  simp only [Option.isNone] at a;clear h;go_in;go_wp2_with (at_builtin;refine qF _ rfl (.tmp 5) (.tmp 6) 30 rfl w 5 r (.int .u8 0) 1 1 qu hi f d g rfl uK w 0 0 [] rfl (ZR w _ _ (qx _)) B (some i) n c _ rfl (H.alloc j _) (YR _) ?_ ?_ ?_ ?_;rotate_left 3;intro o c1 s b k q;have m:=qj (zG (zi (qZ _ _) _) k (ZR w _ _ (qx _)) (zi (qZ _ w) _).size);replace b:=qj b;clear k q);rotate_left 1
  ·unfold maxLen;omega
  ·omega
  ·exact(zi (qZ _ w) _).size
  go_ret;refine⟨o,c1,s8, ?_,m⟩;have h:=b.out;simpa using h
theorem mu (x z i:Nat) (k:x<128^i) (c:z<256) (l:x+z%128*128^i<18446744073709551616):
  bits .or .u64 (x:Int) (IntKind.u64.wrap (IntKind.u64.wrap (bits .andNot .u8 (z:Int) 128)*2^(7*i)))=((x+z%128*128^i:Nat):Int):=by
 have a:(128:Nat)^i=2^(7*i):=by rw [Nat.pow_mul]
 have b:bits .andNot .u8 (z:Int) 128=((z%128:Nat):Int):=by
  rw [show(128:Int)=((128:Nat):Int) from rfl,u8_andNot_nat z 128 c uK];congr 1;exact nat_mask7 z
 have h:IntKind.u64.wrap ((z%128:Nat):Int)=((z%128:Nat):Int):=by rw [qS];omega
 rw [b,h];have g:((z%128:Nat):Int)*2^(7*i)=((z%128*128^i:Nat):Int):=by rw [a,zB,j6];rfl
 rw [g];have d:z%128*128^i<18446744073709551616:=uK;have j:z%128*128^i|||x=z%128*128^i+x:=nat_join _ _ x (by rw [a];exact Nat.mul_mod_left _ _) (by rw [<-a];exact k);have e:x<18446744073709551616:=uK;generalize z%128*128^i=y at*;have f:IntKind.u64.wrap (y:Int)=(y:Int):=by rw [qS];omega
 rw [f,u64_or_nat x y e d,Nat.or_comm,j,Nat.add_comm]
theorem tK (x z i:Nat) (d:x<128^i) (hi:i<=9) (h:i=9->z=1):x+z%128*128^i<18446744073709551616/\(i<9->x+z%128*128^i<128^(i+1)):=by
 have f:z%128<128:=xC _ uK;have h1:x+z%128*128^i<128^(i+1):=by
  rw [vB];have:=zk (128^i) (show z%128<=127 by omega);omega
 refine⟨?_,λ_=>h1⟩;have a:(128:Nat)^9=9223372036854775808:=by decide+kernel
 by_cases b:i=9
 ·have e:=h b;subst b;subst e;have c:(1:Nat)%128*128^9=9223372036854775808:=by decide+kernel
  rw [c];rw [a] at d;clear h1 a c h;omega
 ·have h2:128^(i+1)<=128^9:=zZ uK uK;rw [a] at h2;have h3:=qB h1 h2;clear h1 h2 a d;omega
theorem eB (A:Option Addr) (n c B:Nat) (bs:List UInt8) (w:World) (h:Reads w B 1 A n (bs.map B8)) (hn:n<=1000000000):
  Calls prog 189 #[.slice A n c] w λe w'=>e= .returned (.tuple #[.int .u64 (Ki bs).1, .int .i64 (Ki bs).2.1, .int .i64 (Ki bs).2.2])/\w=w':=by
 have H:=qj h;have M:=qj h.len;clear h;go_enter func189,ntmps189
 go_wp2_with fail;go_loopw [2,9] (λU y wr=> ∃(i x:Nat),U= .int .u64 (x:Nat)/\y=(i:Value)/\i<=n/\i<=9/\Hid (x<128^i)/\Hid (yX i x (bs.drop i)=Ki bs)/\w=wr) (λ_ y _=>n-(intOf y).toNat)
 case atStart=>exact⟨0,0,rfl,rfl,qp _,uK,by show 0<128^0;decide,rfl,rfl⟩
 case round=>
  obtain⟨i,x,rfl,rfl,N6,T,j,HS,rfl⟩:=hrel;by_cases F:i<n
  ·have K:(i:Int)<(n:Int):=uK
   have G:(0:Int)<=(i:Int):=uK;obtain⟨u,z,S,-,t,D⟩:=H.byte F;subst S;have Y:bs.drop i=z::bs.drop (i+1):=by
    have O:i<bs.length:=by rw [M.out];exact F
    rw [qX O] at t;injection t with t
    rw [zK O,t]
   rw [Y] at HS;have d':=z.toNat_lt;by_cases l:(i=9/\z≠1)\/(0<i/\z=0)
   ·have L:Hid (((0:Nat),(0:Nat),(2:Int))=Ki bs):=by rw [Hid,<-HS.out];unfold yX;rw [qk l]
    clear HS j;by_cases k:i=9/\z.toNat≠1
    ·obtain⟨k,o⟩:=k
     subst k;have V:w.cell? ⟨u.block,u.off+9,none⟩=some (.int .u8 (z.toNat:Int)):=D;have P:(9:Int)<(n:Int):=uK;have Z:((z.toNat:Int)==1)=false:=SZ;have D': ¬(z.toNat:Int)=1:=uK;clear l K G
     go_wp2_with fail
     go_ret3;exact⟨by rw [<-L.out];rfl,rfl⟩
    ·have W:0<i/\z.toNat=0:=by
      rcases l with⟨a,b⟩|⟨a,b⟩
      ·exact absurd ⟨a,λe=>b (jG.1 e)⟩ k
      ·exact⟨a,by rw [b];rfl⟩
     obtain⟨E,m⟩:=W;have M':i≠9:=λe=>k ⟨e,uK⟩;have X:((i:Int)==9)=false:=SZ;have R: ¬(i:Int)=9:=uK;have I:(0:Int)<(i:Int):=uK;have J':(z.toNat:Int)=0:=uK;have I':((z.toNat:Int)==0)=true:=by simp [m]
     clear l k
     go_wp2_with fail
     go_ret3;exact⟨by rw [<-L.out];rfl,rfl⟩
   ·have q:i=9->z.toNat=1:=λe=>by
     rcases Classical.em (z=1) with h|h
     ·rw [h];rfl
     ·exact absurd (.inl ⟨e,h⟩) l
    have m:0<i->z.toNat≠0:=λe h=>l (.inr ⟨e,jG.1 h⟩);have C:=tK x z.toNat i j T q;have J:=mu x z.toNat i j d' C.1;obtain⟨d,g⟩: ∃d,x+z.toNat%128*128^i=d:=⟨_,rfl⟩;rw [g] at J;have r:=qj l;have N:=qj C;replace g:=qj g;clear l C;by_cases k:i=9
    ·have o:=q k
     subst k;have V:w.cell? ⟨u.block,u.off+9,none⟩=some (.int .u8 (z.toNat:Int)):=D;have P:(9:Int)<(n:Int):=uK;have Z:((z.toNat:Int)==1)=true:=by rw [o];rfl
     have N9:((z.toNat:Int) !=1)=false:=by rw [o];rfl
     have Q:((z.toNat:Int)==0)=false:=SZ;have s:(z.toNat:Int)<128:=uK;have f:Hid ((d,9+1,(0:Int))=Ki bs):=by rw [Hid,<-HS.out];unfold yX;rw [qJ r.out,qk uK,g.out]
     have iL:bits .or .u64 (x:Int) (IntKind.u64.wrap (IntKind.u64.wrap (bits .andNot .u8 (z.toNat:Int) 128)*9223372036854775808))=(d:Int):=by simpa using J
     have m':decide ((z.toNat:Int)=1)=true:=qw uK;have G':decide ((z.toNat:Int)=0)=false:=qc uK;replace o:=qj o;clear HS j q m K G
     go_wp2_with fail
     go_ret3;exact⟨by rw [<-f.out];rfl,rfl⟩
    ·have X:((i:Int)==9)=false:=SZ
     have R: ¬(i:Int)=9:=uK;by_cases E:0<i
     focus
      have I:(0:Int)<(i:Int):=uK
      have u':=m E;have p': ¬(z.toNat:Int)=0:=uK;have Q:((z.toNat:Int)==0)=false:=SZ
     rotate_left
     focus have I: ¬(0:Int)<(i:Int):=uK
     all_goals
      clear q m;by_cases p:z.toNat<128
      ·have s:(z.toNat:Int)<128:=uK
       have f:Hid ((d,i+1,(0:Int))=Ki bs):=by rw [Hid,<-HS.out];unfold yX;rw [qJ r.out,qk p,g.out]
       clear HS j
       go_wp2_with fail
       go_ret3;exact⟨by rw [<-f.out];rfl,rfl⟩
      ·have s: ¬(z.toNat:Int)<128:=uK
       have f:Hid (yX (i+1) d (bs.drop (i+1))=Ki bs):=by rw [Hid,<-HS.out,yX.eq_2,qJ r.out,qJ p,g.out]
       have v:Hid (d<128^(i+1)):=by rw [Hid,<-g.out];exact N.out.2 uK
       clear HS j
       go_wp2_with fail;go_roundw
       case rel=>exact⟨i+1,d,by first|rfl|simp,by go_num,uK,uK,v,f,trivial⟩
       case measure=>simp [intOf];omega
  ·have z': ¬(i:Int)<(n:Int):=uK
   have f:Hid (((0:Nat),(0:Nat),(1:Int))=Ki bs):=by
    rw [Hid,<-HS.out,zD (by rw [M.out];omega)];rfl
   clear HS j
   go_wp2_with fail
   go_ret3;exact⟨by rw [<-f.out];rfl,rfl⟩
theorem d_ (A:q') (n c B:Nat) (bs:qn) (a:Int) (w:World) (h:Reads w B 1 A n (bs.map B8)) (j:n<=1000000000) (m:a<=9223372036854775807):
  Calls prog 152 #[.slice A n c,a] w λe w'=>e= .returned (.tuple #[.int .i64 (Q0 bs a).1, .int .i64 (Q0 bs a).2.1, .int .i64 (Q0 bs a).2.2])/\w=w':=by
 have d:=qj (eB A n c B _ w h j);have u:=wQ bs;unfold Q0;generalize Ki bs=s at*;obtain⟨x,k,g⟩:=s;dsimp only at*;clear h;by_cases f:g=0
 focus
  subst f;rw [qJ s8];by_cases l:a<0
  focus rw [qk (.inl l)]
  rotate_left
  focus
   obtain⟨b,rfl⟩: ∃b:Nat,a=(b:Int):=⟨a.toNat,uK⟩;by_cases t:b<x
   focus
    rw [qk (.inr uK)];have i:=j' b x
   rotate_left
   focus
    rw [qJ uK];have p:x<=9223372036854775807:=uK
 rotate_left 3
 focus
  rw [qk f];have o:(g !=(0:Int))=true:=by simp [f]
 all_goals
  go_in;go_wp2_with fail;refine Ω d ?_;go_wp2;go_ret3;exact⟨rfl,rfl⟩
end
section
variable {k:Nat}{leaf:List (Nat×Bool)}
theorem Kv: ∀(f:Nat) (l r:List (Nat×Bool)),l.length+r.length/2<=f->(ZN f l r).length=l.length+r.length/2
 |0,[],[],_=>rfl
 |0,[],[a],_=>by simp [ZN]
 |0,[],a::b::r,h=>by simp at h;omega
 |0,x::l,r,h=>by simp at h
 |f+1,[],[],_=>rfl
 |f+1,[],[a],_=>by simp [ZN]
 |f+1,x::l,[],h=>by
  show(ZN f l []).length+1=_
  rw [Kv f l [] (by simp at h⊢;omega)];simp
 |f+1,x::l,[a],h=>by
  show(ZN f l [a]).length+1=_
  rw [Kv f l [a] (by simp at h⊢;omega)];simp
 |f+1,[],a::b::r,h=>by
  show(ZN f [] r).length+1=_
  rw [Kv f [] r (by simp at h⊢;omega)];simp;omega
 |f+1,x::l,a::b::r,h=>by
  show(if x.1<=a.1+b.1 then x::ZN f l (a::b::r) else(a.1+b.1,false)::ZN f (x::l) r).length=_
  split
  ·rw [qf,Kv f l (a::b::r) (by simp at h⊢;omega)];simp;omega
  ·rw [qf,Kv f (x::l) r (by simp at h⊢;omega)];simp;omega
def Vb (r:List (Nat×Bool)):Nat:=(r.filter (!·.2)).length
theorem Xn (x:Nat×Bool) (l:List (Nat×Bool)):QX (x::l)=(if x.2=true then 1 else 0)+QX l:=by
 unfold QX;cases h:x.2<;>simp [QQ,h];omega
theorem ZP (x:Nat×Bool) (l:List (Nat×Bool)):Vb (x::l)=(if x.2=false then 1 else 0)+Vb l:=by
 unfold Vb;cases h:x.2<;>simp [QQ,h];omega
theorem tG (l:List (Nat×Bool)):QX l+Vb l=l.length:=by
 induction l with
 |nil=>rfl
 |cons x l a=>
  rw [Xn,ZP,qf];cases x.2<;>simp<;>omega
theorem Zu: ∀(f:Nat) (l r:List (Nat×Bool)),QX (ZN f l r)<=l.length/\(Vb (ZN f l r)<=r.length/2+Vb l)
 |0,l,r=>⟨qp _,qp _⟩
 |f+1,[],[]=>⟨qp _,qp _⟩
 |f+1,[],[a]=>⟨qp _,qp _⟩
 |f+1,x::l,[]=>by
  have h:=Zu f l [];show QX (x::ZN f l [])<=_/\Vb (x::ZN f l [])<=_;rw [Xn,ZP,ZP,qf];cases x.2<;>simp at h⊢ <;>omega
 |f+1,x::l,[a]=>by
  have h:=Zu f l [a];show QX (x::ZN f l [a])<=_/\Vb (x::ZN f l [a])<=_;rw [Xn,ZP,ZP,qf];cases x.2<;>simp at h⊢ <;>omega
 |f+1,[],a::b::r=>by
  have h:=Zu f [] r;show QX ((a.1+b.1,false)::ZN f [] r)<=_/\Vb ((a.1+b.1,false)::ZN f [] r)<=_;rw [Xn,ZP];simp at h⊢;omega
 |f+1,x::l,a::b::r=>by
  show QX (if x.1<=a.1+b.1 then x::ZN f l (a::b::r) else(a.1+b.1,false)::ZN f (x::l) r)<=_/\Vb (if x.1<=a.1+b.1 then x::ZN f l (a::b::r) else(a.1+b.1,false)::ZN f (x::l) r)<=_
  split
  ·have h:=Zu f l (a::b::r)
   rw [Xn,ZP,ZP,qf];cases x.2<;>simp at h⊢ <;>omega
  ·have h:=Zu f (x::l) r
   rw [Xn,ZP];simp at h⊢;omega
theorem PG {B:Nat}: ∀(f:Nat) (l r:List (Nat×Bool)),(∀x∈l,x.1<=B+B)->(∀x∈r,x.1<=B)-> ∀x∈ZN f l r,x.1<=B+B
 |0,l,r,_,_,x,h=>by simp [ZN] at h
 |f+1,[],[],_,_,x,h=>by simp [ZN] at h
 |f+1,[],[a],_,_,x,h=>by simp [ZN] at h
 |f+1,y::l,[],h1,h2,x,h=>by
  rcases qL.1 (show x∈y::ZN f l [] from h) with h|h
  ·exact h▸h1 y (qo ..)
  ·exact PG f l _ (λz c=>h1 z (qM _ c)) h2 x h
 |f+1,y::l,[a],h1,h2,x,h=>by
  rcases qL.1 (show x∈y::ZN f l [a] from h) with h|h
  ·exact h▸h1 y (qo ..)
  ·exact PG f l _ (λz c=>h1 z (qM _ c)) h2 x h
 |f+1,[],a::b::r,h1,h2,x,h=>by
  rcases qL.1 (show x∈(a.1+b.1,false)::ZN f [] r from h) with h|h
  ·have e:=h2 a (qo ..)
   have g:=h2 b (qM _ (qo ..));rw [h];show a.1+b.1<=_;omega
  ·exact PG f _ r h1 (λz c=>h2 z (qM _ (qM _ c))) x h
 |f+1,y::l,a::b::r,h1,h2,x,h=>by
  have d:x∈(if y.1<=a.1+b.1 then y::ZN f l (a::b::r) else(a.1+b.1,false)::ZN f (y::l) r):=h
  split at d
  ·rcases qL.1 d with h|h
   ·exact h▸h1 y (qo ..)
   ·exact PG f l _ (λz c=>h1 z (qM _ c)) h2 x h
  ·rcases qL.1 d with h|h
   ·have e:=h2 a (qo ..)
    have g:=h2 b (qM _ (qo ..));rw [h];show a.1+b.1<=_;omega
   ·exact PG f _ r h1 (λz c=>h2 z (qM _ (qM _ c))) x h
def vi (leaf:List (Nat×Bool)):Nat->List (Nat×Bool)
 |0=>leaf
 |k+1=>YY leaf (vi leaf k)
theorem Wu (leaf:List (Nat×Bool)): ∀k,G3 leaf k=((List.range (k+1)).map (vi leaf)).reverse
 |0=>rfl
 |k+1=>by
  have h:=Wu leaf k;have a:(G3 leaf k).headD []=vi leaf k:=by rw [h,jA];simp
  show YY leaf ((G3 leaf k).headD [])::G3 leaf k=_
  rw [a,h,jA (n:=k+1)];simp [vi]
theorem Ex (leaf:List (Nat×Bool)) (k:Nat):(vi leaf (k+1)).length=leaf.length+(vi leaf k).length/2:=Kv _ _ _ (qx _)
theorem WU (leaf:List (Nat×Bool)): ∀k,2*leaf.length<=(vi leaf k).length+(leaf.length-1)/2^k+1
 |0=>by simp [vi];omega
 |k+1=>by
  have h:=WU leaf k;rw [Ex,vB,<-Nat.div_div_eq_div_mul];omega
theorem CF (leaf:List (Nat×Bool)): ∀k,(vi leaf k).length<=2*leaf.length
 |0=>by simp [vi];omega
 |k+1=>by have h:=CF leaf k;rw [Ex];omega
theorem mW (leaf:List (Nat×Bool)) (h:leaf.length<=300):2*leaf.length-2<=(vi leaf 14).length:=by
 have h1:=WU leaf 14;rw [xW (show leaf.length-1<2^14 by omega)] at h1;omega
theorem Wd (leaf:List (Nat×Bool)) (B:Nat) (h: ∀x∈leaf,x.1<=B): ∀k,∀x∈vi leaf k,x.1<=B*2^k
 |0,x,a=>by simpa using h x a
 |k+1,x,a=>by
  have h2:=PG _ _ _ (λy b=>by
   have h3:=h y b;have h4:B*1<=B*2^k:=yz _ Nat.one_le_two_pow;omega) (Wd _ B h k) x a
  rw [vB,<-Nat.mul_assoc];omega
theorem Ev (os b:List Nat): ∀x∈pr os b,x.2=true:=by
 intro x a;unfold pr at a;obtain⟨s,_,rfl⟩:=jB.1 a;rfl
theorem tH {l:List (Nat×Bool)} (h: ∀x∈l,x.2=true):Vb l=0:=by
 unfold Vb;rw [List.filter_eq_nil_iff.2 (λx a=>by simp [h x a])];rfl
theorem tB (l:List (Nat×Bool)) (k:Nat):Vb (l.take k)<=Vb l:=by
 unfold Vb;have:=List.take_sublist k l;exact(this.filter _).length_le
theorem tC (l:List (Nat×Bool)) (k:Nat):QX (l.take k)<=QX l:=by
 unfold QX;have:=List.take_sublist k l;exact(this.filter _).length_le
theorem Sm (k:Nat):QX (vi leaf k)<=leaf.length:=by
 cases k with
 |zero=>unfold QX vi;exact jN _ _
 |succ k=>exact(Zu _ _ _).1
theorem SM (h: ∀x∈leaf,x.2=true) (k:Nat):Vb (vi leaf (k+1))<=(vi leaf k).length/2:=by
 have:=(Zu (leaf.length+(vi leaf k).length/2) leaf (vi leaf k)).2;rw [tH h] at this;exact this
theorem SO (h: ∀x∈leaf,x.2=true) (k t:Nat) (ht:t<=(vi leaf (k+1)).length):2*(t-QX ((vi leaf (k+1)).take t))<=(vi leaf k).length:=by
 have h1:=tG ((vi leaf (k+1)).take t);rw [qh] at h1;have h2:=tB (vi leaf (k+1)) t;have h3:=SM h k;omega
def pa (leaf:List (Nat×Bool)) (T:Nat):Nat->Nat
 |0=>2*leaf.length-2
 |j+1=>2*(pa leaf T j-QX ((vi leaf (T-j)).take (pa leaf T j)))
def dn (leaf:List (Nat×Bool)) (T j:Nat):Nat:=QX ((vi leaf (T-j)).take (pa leaf T j))
theorem iJ (h: ∀x∈leaf,x.2=true) (a:leaf.length<=300): ∀j,j<=14->pa leaf 14 j<=(vi leaf (14-j)).length
 |0,_=>mW _ a
 |j+1,b=>by
  have h1:=iJ h a j uK;have e:14-j=(14-(j+1))+1:=uK;show 2*(pa leaf 14 j-QX ((vi leaf (14-j)).take (pa leaf 14 j)))<=_
  rw [e] at h1⊢;exact SO h _ _ h1
theorem Ey (leaf:List (Nat×Bool)) (T:Nat): ∀(d j:Nat),j+d=T+1->wv (((List.range d).map (vi leaf)).reverse) (pa leaf T j)=(List.range d).map λi=>dn leaf T (j+i)
 |0,j,_=>rfl
 |d+1,j,h=>by
  have e:d=T-j:=uK;have h2:=Ey leaf T d (j+1) uK;have h3:2*(pa leaf T j-QX ((vi leaf d).take (pa leaf T j)))=pa leaf T (j+1):=by rw [e];rfl
  rw [jA,qg,List.reverse_append];show QX ((vi leaf d).take (pa leaf T j))::wv ((List.range d).map (vi leaf)).reverse (2*(pa leaf T j-QX ((vi leaf d).take (pa leaf T j))))=_;rw [h3,h2,<-jA,List.range_succ_eq_map];have h4:QX ((vi leaf d).take (pa leaf T j))=dn leaf T j:=by unfold dn;rw [<-e]
  rw [h4];simp [Function.comp_def,vo,Nat.add_comm];intro a _;rw [show a+(j+1)=j+(a+1) by omega]
def Qo (t:Nat×Nat×Nat):Nat×Nat×Nat×Nat:=
 if t.2.1=0 then(t.1,0,0,0) else(257+Nat.log2 (t.2.1-2),(t.2.1-2)-2^Nat.log2 (t.2.1-2),Nat.log2 t.2.2,t.2.2-2^Nat.log2 t.2.2)
def pz (l:List (Nat×Nat×Nat)):List Nat:=(List.range 265).map λs=>(l.filter λt=>(Qo t).1==s).length+(if s=256 then 1 else 0)
def LW (l:List (Nat×Nat×Nat)):List Nat:=(List.range 12).map λs=>(l.filter λt=>decide (256<(Qo t).1)&&((Qo t).2.2.1==s)).length
def DT (ls lf:qn) (s:Bw) (t:Nat×Nat×Nat):Bw:=
 if(Qo t).1<256 then pd ls s (Qo t).1
 else PR (pd lf (PR (pd ls s (Qo t).1) (Qo t).2.1 (((Qo t).1:Int)-257)) (Qo t).2.2.1) (Qo t).2.2.2 (Qo t).2.2.1
def P1 (l:List (Nat×Nat×Nat)):qn:=X6 (pz l) 15
def de (l:List (Nat×Nat×Nat)):qn:=X6 (LW l) 15
def iT (l:List (Nat×Nat×Nat)):Bw:=pd (P1 l) (l.foldl (DT (P1 l) (de l)) (dc (dc ⟨[],0⟩ (P1 l)) (de l))) 256
def G2 (l:List (Nat×Nat×Nat)):qn:=(iT l).b
def YC (lf b:qn) (sym at_:Nat):Int×(Nat×Int×Int)×Nat:=
 if q7 b at_<sym-257 then(1,(0,0,0),at_)
 else if kC lf b (at_+(sym-257))≠0 then(kC lf b (at_+(sym-257)),(0,0,0),at_+(sym-257))
 else if q7 b (pD lf b (at_+(sym-257)))<(P4 lf b (at_+(sym-257))).toNat then(1,(0,0,0),pD lf b (at_+(sym-257)))
 else(0,(0,((2+2^(sym-257)+QF b at_ (sym-257):Nat):Int),((2^(P4 lf b (at_+(sym-257))).toNat+QF b (pD lf b (at_+(sym-257))) (P4 lf b (at_+(sym-257))).toNat:Nat):Int)),
  pD lf b (at_+(sym-257))+(P4 lf b (at_+(sym-257))).toNat)
def XR (ls lf b:qn) (at_:Nat):Int×Bool×(Nat×Int×Int)×Nat:=
 if kC ls b at_≠0 then(kC ls b at_,false,(0,0,0),pD ls b at_)
 else if P4 ls b at_=256 then(0,false,(0,0,0),pD ls b at_)
 else if P4 ls b at_<256 then(0,true,((P4 ls b at_).toNat,0,0),pD ls b at_)
 else((YC lf b (P4 ls b at_).toNat (pD ls b at_)).1,decide ((YC lf b (P4 ls b at_).toNat (pD ls b at_)).1=0),(YC lf b (P4 ls b at_).toNat (pD ls b at_)).2)
def Fq (ls lf b:qn):Nat->Int->Nat->List (Nat×Int×Int)->Int×List (Nat×Int×Int)×Nat
 |0,_,at_,_=>(6,[],at_)
 |f+1,c,at_,a=>
  if(XR ls lf b at_).1≠0 then((XR ls lf b at_).1,[],(XR ls lf b at_).2.2.2)
  else if(XR ls lf b at_).2.1=false then(if cJ b (XR ls lf b at_).2.2.2≠0 then(2,[],(XR ls lf b at_).2.2.2) else(0,a,(XR ls lf b at_).2.2.2))
  else if c<max 1 (XR ls lf b at_).2.2.1.2.1 then(6,[],(XR ls lf b at_).2.2.2)
  else Fq ls lf b f (c-max 1 (XR ls lf b at_).2.2.1.2.1) (XR ls lf b at_).2.2.2 (a++[(XR ls lf b at_).2.2.1])
def dt (b:qn) (a:Nat):Int×List (Nat×Int×Int):=
 if(YM b 265 0).1≠0 then((YM b 265 0).1,[])
 else if(YM b 12 (YM b 265 0).2.2).1≠0 then((YM b 12 (YM b 265 0).2.2).1,[])
 else((Fq (YM b 265 0).2.1 (YM b 12 (YM b 265 0).2.2).2.1 b (a+1) a (YM b 12 (YM b 265 0).2.2).2.2 []).1,
  (Fq (YM b 265 0).2.1 (YM b 12 (YM b 265 0).2.2).2.1 b (a+1) a (YM b 12 (YM b 265 0).2.2).2.2 []).2.1)
def Kh (b:qn):qn:=G2 (P9 b)
def g8 (a:Bool) (b:qn):Bool:= !a&&decide ((Kh b).length<b.length)
def uX (a:Bool) (b:qn):qn:=if g8 a b=true then Kh b else b
def ck (b:qn):Int:=if 32768<b.length then 6 else 0
def HU (w:Bool) (n:Nat) (a:qn):qn:=VY ([if w then 1 else 0]++xv n++xv a.length++a)
def Fx (b:qn) (a:Bool):qn:=if ck b=0 then HU (g8 a b) b (uX a b) else []
def kF (b:qn):UInt8×Cu:=j_ b ⟨0,0⟩
def Hv (b:qn):Cu:=if 1<(kF b).1.toNat then vP (kF b).2 2 else(kF b).2
def ki (b:qn):Nat×Cu:=jU b 32768 (Hv b)
def Vl (b:qn):Nat×Cu:=jU b 32768 (ki b).2
def gP (b:qn):Cu:=if 1032*(Vl b).1+64<(ki b).1 then vP (Vl b).2 6 else(Vl b).2
def kE (b:qn):qn×Cu:=jW b (Vl b).1 (gP b)
def Fj (b:qn):Cu:=(jW b 4 (kE b).2).2
def UZ (b:qn):Cu:=if(Fj b).err≠0 then Fj b else vP (Fj b) (QH (b.take (Fj b).at_))
def dT (w:Nat) (n p:Nat) (a:qn):Int×qn:=
 if w=0 then(if n≠p then(2,[]) else(0,a))
 else if(dt a n).1≠0 then((dt a n).1,[])
 else if(Yc n (dt a n).2).1≠0 then((Yc n (dt a n).2).1,[])
 else if(Yc n (dt a n).2).2.length<n then(2,[]) else(0,(Yc n (dt a n).2).2)
def fc (b:qn):Int:=if(UZ b).err≠0 then(UZ b).err else(dT (kF b).1.toNat (ki b).1 (Vl b).1 (kE b).1).1
def H9 (b:qn):qn:=if(UZ b).err≠0 then [] else(dT (kF b).1.toNat (ki b).1 (Vl b).1 (kE b).1).2
def Ft (b:qn):Int×qn×Nat:=if fc b≠0 then(fc b,[],0) else(0,H9 b,(UZ b).at_)
end
section
open Go.RowKit
variable {k x:Nat}{w:World}
theorem Gw (f x:Nat) (h:1<=x) (a:x<2^f):Lib.bitLenAux f x=Nat.log2 x+1:=by
 induction f generalizing x with
 |zero=>rw [Nat.pow_zero] at a;omega
 |succ f b=>
  rw [Lib.bitLenAux,qJ uK,Nat.log2_def];by_cases h2:2<=x
  ·rw [qk h2,b (x/2) uK (by rw [vB] at a;omega)];omega
  ·obtain rfl:x=1:=uK;rw [qJ h2];cases f<;>simp [Lib.bitLenAux]
theorem t_ (x:Nat) (h:1<=x) (a:x<65536):Lib.bitLen x=Nat.log2 x+1:=Gw _ x h (qB a FV)
theorem EF (x:Int) (h0:0<=x) (h1:x<256) (a:x.toNat<Lib.len8tab.size):wrap64 ((Lib.len8tab[x.toNat].toNat:Nat):Int)=(Lib.bitLen x.toNat:Int):=by
 have h:=Lib.len8_of x h0 uK;have e:((Lib.len8tab[x.toNat].toNat:Nat):Int)=Lib.len8 x:=by
  unfold Lib.len8;simp [a]
 have l:=(Lib.len8tab[x.toNat]).toNat_lt;rw [e,h,wrap64];have:=Lib.bitLen_le8' x h0 uK;omega
theorem GW (x:Int) (w:World) (h0:0<=x) (h1:x<65536):
  Calls prog 211 #[.int .u64 x] w λe w'=>e= .returned (.int .i64 (Lib.bitLen x.toNat))/\w=w':=by
 have h2: ¬(4294967296:Int)<=x:=uK;have h3: ¬(65536:Int)<=x:=uK;by_cases h4:x<256;rotate_left
 focus
  obtain⟨y,a⟩:=j1 (x/256);have d:=a.symm;have c:y<256:=uK;have b:0<=y:=uK;replace a:=qj a
 rotate_left
 all_goals
  go_wp2;go_ret;refine⟨zo Ending.returned (zo (Value.int IntKind.i64) ?_),rfl⟩
 ·rw [EF x h0 h4];have:=Lib.bitLen_le8' x h0 uK;rw [wrap64];omega
 ·have e:y.toNat=x.toNat/256:=by have:=a.out;omega
  have s:=Lib.bitLen_shift8 x.toNat uK uK;rw [s,<-e];have l:=Lib.bitLen_le8' y uK uK;rw [EF y b c,wrap64];omega
theorem DQ (x:Nat) (w:World) (h0:1<=x) (h1:x<65536):
  Calls prog 180 #[.int .u64 x] w λe w'=>e= .returned ((Nat.log2 x+1:Nat):Int)/\w=w':=by
 have K:=qj (GW (x:Int) w uK uK);rw [show(x:Int).toNat=x from rfl,t_ x h0 h1] at K;generalize Nat.log2 x+1=L at*;go_in;go_wp2_with fail;refine Ω K ?_;go_wp2;go_ret;exact⟨rfl,rfl⟩
theorem PB (h0:1<=x) (h1:x<65536):Nat.log2 x<16:=(Nat.log2_lt uK).2 (by simpa using h1)
theorem Eg (h0:1<=x):2^Nat.log2 x<=x:=Nat.log2_self_le uK
theorem Bk (x:Nat) (w:World) (h0:1<=x) (h1:x<65536):
  Calls prog 203 #[x] w λe w'=>e= .returned (.tuple #[.int .i64 (Nat.log2 x:Nat), .int .i64 (x-2^Nat.log2 x:Nat)])/\Dr w w':=by
 have K:=qj (DQ x w h0 h1);have g:=PB h0 h1;have d:=Eg h0;generalize Nat.log2 x=L at*;obtain⟨a,b⟩:=j1 (2^L);have i:(2:Int)^L=(a:Int):=by rw [b,j6];rfl
 rw [<-b] at d⊢;have c:((x-a:Nat):Int)=(x:Int)-(a:Int):=uK;have o:IntKind.u64.wrap (x:Int)=(x:Int):=by rw [qS];omega
 have j:IntKind.i64.wrap (a:Int)=(a:Int):=SX;have n:IntKind.i64.wrap ((x:Int)-(a:Int))=(x:Int)-(a:Int):=SX;rw [c];clear b c;go_in;go_wp2_with fail;refine Ω K ?_;go_wp2;go_quiet (fail);go_wp2;go_ret2;exact⟨rfl,by first|exact⟨_,rfl⟩|exact⟨1,rfl⟩|exact⟨_,rfl⟩⟩
def Tab (w:World):Prop:= ∀i,i<16->w.cell? ⟨0,i,none⟩=some (.int .u32 ((kq 4 i:Nat):Int))
theorem Tab.pos (h:Tab w):0<w.heap.size:=yM (h 0 uK)
theorem Tab.below {w':World} {B:Nat} (h:Tab w) (a:Below B w w') (b:0<B):Tab w':=λi hi=>by
 rw [a.cell (p:=⟨0,i,none⟩) b];exact h i hi
theorem Wv (s:Nat) (h:s<4294967296):bits .xor .u32 IntKind.u32.max (s:Int)=((s^^^G1:Nat):Int):=by
 rw [y_];exact u32_xor_nat _ s fB h
theorem bc (y:Nat) (a:y<4294967296) (ht:Tab w):
  bits .and .u32 (y:Int) 15=((y%16:Nat):Int)/\w.cell? ⟨0,y%16,none⟩=some (.int .u32 ((kq 4 (y%16):Nat):Int))/\
  bits .xor .u32 ((y:Int)/16) ((kq 4 (y%16):Nat):Int)=((nib y:Nat):Int)/\nib y<4294967296:=by
 have h1:kq 4 (y%16)<4294967296:=D4 _ _ uK;refine⟨?_,ht _ uK,u32_xor_nat (y/16) _ uK h1,by rw [RZ];exact D4 _ _ a⟩;rw [show(15:Int)=((15:Nat):Int) from rfl,u32_and_nat y 15 a uK,nat_mask4]
theorem mv (s:Nat) (A:q') (n c B:Nat) (a:List qn) (w:World) (D:s<4294967296) (ht:Tab w) (h:vm w B A n a) (U:n<=maxLen):
  Calls prog 88 #[.int .u32 s, .slice A n c] w λe w'=>e= .returned (.int .u32 (Hb s a.flatten))/\w=w':=by
 unfold maxLen at U;have H:=qj h;have T:=qj ht;clear h ht;have m':=Wv s D;have r:=dz _ _ D fB;have V:Hid (Hb s a.flatten=ku (s^^^G1) a.flatten^^^G1):=rfl;generalize s^^^G1=f at*;go_wp2;go_loop [5,14] (λx i=> ∃k:Nat,x= .int .u32 (ku f (a.take k).flatten)/\i=(k:Value)/\k<=n) (λ_ i=>n-(intOf i).toNat)
 ·exact⟨0,rfl,rfl,uK⟩
 ·obtain⟨k,rfl,rfl,hk⟩:=hrel;by_cases K:k<n
  ·obtain⟨ad,d,Ai,l,ci,rfl,p,C,X,u',v,o⟩:=H.row K;have O:Hid (∀j,ku (ku f (a.take k).flatten) (d.take (j+1))=ku (ku f (a.take k).flatten) (d.take j++(d[j]?).toList)):=λj=>by rw [qs]
   have F:Hid (ku f (a.take (k+1)).flatten=ku (ku f (a.take k).flatten) d):=by
    rw [qs,C,xM,uJ];simp [Hid]
   have S:ku f (a.take k).flatten<4294967296:=fH _ _ r;have R:=qj o;have I:=qj o.len;have Z:l<=9223372036854775807:=by unfold maxLen at v;omega
   clear p C o v;generalize ku f (a.take k).flatten=g at*;go_wp2;go_loop [5,20] (λx j=> ∃m:Nat,x= .int .u32 (ku g (d.take m))/\j=(m:Value)/\m<=l) (λ_ j=>l-(intOf j).toNat)
   ·exact⟨0,rfl,rfl,uK⟩
   ·obtain⟨m,rfl,rfl,hm⟩:=hrel;by_cases J:m<l
    ·obtain⟨iL,b,rfl,p,q,p'⟩:=R.byte J;have t:ku g (d.take m)<4294967296:=fH _ _ S;have G:Hid (ku g (d.take (m+1))=nib (nib (ku g (d.take m)^^^b.toNat))):=by
      rw [O.out,q,om];exact ao _ _ _
     have Y:b.toNat<256:=b.toNat_lt;have e1:=u32_xor_nat _ b.toNat t uK;have W:ku g (d.take m)^^^b.toNat<4294967296:=dz _ _ t uK;clear q p;generalize ku g (d.take m)=x at*;generalize x^^^b.toNat=y at*;obtain⟨e2,c2,e3,E⟩:=bc y W T.out;generalize nib y=z at*;obtain⟨e4,c4,e5,_⟩:=bc z E T.out;generalize nib z=u at*;have q1:y%16<16:=uK;have q2:z%16<16:=uK;generalize y%16=M,z%16=P at*;generalize kq 4 M=ty,kq 4 P=tz at*;go_wp2;go_round
     case rel=>exact⟨m+1,by rw [G.out],xh,uK⟩
     case measure=>simp [intOf];omega
    ·obtain rfl:m=l:=uK;have Q:=qj (qH (by rw [I.out];exact qx _));go_wp2;go_round
     case rel=>exact⟨k+1,by rw [F.out,Q.out],xh,uK⟩
     case measure=>simp [intOf];omega
  ·obtain rfl:k=n:=uK;have N:Hid (a.take k=a):=by
    obtain⟨cs,_,hl,_⟩:=H.out;exact qH uK
   have L:ku f (a.take k).flatten<4294967296:=fH _ _ r;have d':=Wv _ L;go_wp2;go_ret;exact⟨Jy (by rw [V.out,N.out]),rfl⟩
theorem Wy (A:q') (n c B:Nat) (bs:qn) (w:World) (ht:Tab w) (h:Reads w B 1 A n (bs.map B8)) (f:B<=w.heap.size) (a:n<=c) (d:c<=maxLen):
  Calls prog 57 #[.slice A n c] w λe w'=>e= .returned (.int .u32 (h9 bs))/\Below w w w':=by
 have b: ∀o,Below w w (w.alloc o):=λo=>z8 o;have H:=λt=>qj (mv 0 w 1 1 _ _ _ uK (ht.below (b _) ht.pos) (sF t h f a d) SJ);simp only [xI,List.flatten_nil,jx] at H;clear h a d f ht;go_in;go_wp2_with fail;refine Ω ((H _).out) ?_;go_wp2;go_ret;exact⟨rfl,b _⟩
end
end Go.Proofs.YtfnlfpcfkbdcmaaGreatDoor
