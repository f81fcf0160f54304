import Derived.Test.YtfnlfpcfkbdcmaaGreatDoorT00
import Derived.Test.YtfnlfpcfkbdcmaaGreatDoorT01
set_option linter.unusedSimpArgs false
set_option linter.unusedVariables false
set_option maxRecDepth 100000
set_option maxHeartbeats 0
open Go.Proofs.Tryz
namespace Go.Proofs.YtfnlfpcfkbdcmaaGreatDoor
section
open Go.RowKit
variable {A:q'}{B base c d g k n:O}{E e t:TypeId}{W w w' w2:I}{f:S la}{l l':S O}{p:Addr}
def aj (n:V):Bool:=decide (0<=n/\n<=255)
def Hw (r c:V) (n:O):Bool:=decide ((0<=r/\r<=255)/\(0<=c/\c<=255)/\(n:V)=r*c)
theorem VI (x:V) (w:I):xG 141 #[x] w λe w'=>e=t' (.bool (aj x))/\w=w':=by
 unfold aj;by_cases h1:0<=x
 ·by_cases h2:x<=255
  ·go_wp2;go_ret;exact⟨j7 (by simp [h1,h2]),rfl⟩
  ·go_wp2;go_ret;exact⟨j7 SZ,rfl⟩
 ·have b:x<0:=M;go_wp2;go_ret;exact⟨j7 SZ,rfl⟩
theorem xR:(prog.info? 5).map (λi=>(i.zero,i.size,i.bytes))=J (some (gR 0),1,1):=AL
theorem YE:(prog.info? 154).map (λi=>(i.zero,i.size))=J (some (.agg #[(),(),z8]),3):=AL
theorem j9:(prog.info? 154).map (·.size)=some 3:=AL
def mC (r c:V) (v:la):Array Value:= #[r,c,v]
theorem Jb (r c:V) (A:q') (n k:O):(mC r c (Z A n k)).all (·.oneCell')=true:=by simp [mC,Value.oneCell']
theorem jz {o:Obj} (h:w.heap[k]? =some o):k<(w:O):=by
 rcases jE k (w:O) with a|b
 ·exact a
 ·rw [zg b] at h;cases h
theorem jV {size:O} (h:xp w base e size (Z A n c) n f): ∀g,A.map (·.block)=some g-> ∃j i,w.heap[g]? =J (Y j e i):=by
 intro g a;rcases h.2 with⟨h0,_⟩|⟨k,_,cur,b,_,d,_⟩
 ·injection h0 with h0;rw [h0] at a;cases a
 ·injection b with b;rw [b] at a;injection a with a;subst a;exact⟨_,_,d⟩
theorem zI {size:O} {d:S la} (h:xp w base e size (Z A n c) n d) (i: ∀a,A=some a->w'.heap[a.block]? =w.heap[a.block]?):xp w' base e size (Z A n c) n d:=by
 refine⟨h.1,h.2.imp id λ⟨g,cap,cur,b,j,f,r⟩=>⟨g,cap,cur,b,j, ?_,r⟩⟩;injection b with b;exact(i _ b).trans f
theorem qG {size:O} {b:S la} (h:xp w base e size (Z A n c) n b) (g:r' w w w'):xp w' base e size (Z A n c) n b:=by
 refine zI h λa d=>g.block _ ?_;obtain⟨j,i,f⟩:=jV h _ (by rw [d];rfl);exact jz f
theorem Q_ {f:I} {b:O} {j:S la} {d:Array la} (g:F' w b 154 d) (h:xp w base 5 1 (Z A n c) n j) (k:w.grownBy f (A.map (·.block))):F' f b 154 d:=by
 refine g.grown k λe=> ?_;obtain⟨l,m,a⟩:=jV h b e.symm;have i:w.heap[b]? =J (Y d 154):=g;rw [i] at a;injection a with a;injection a with _ a;exact absurd a FV
theorem XG {j:O} {g:Array la} (h:xp w base 5 1 (Z A n c) n f) (k:F' w d 154 g) (u:la):xp (w.setCell ⟨d,j,none⟩ u) base 5 1 (Z A n c) n f:=by
 refine zI h λa i=>jT w ⟨d,j,none⟩ u a.block ?_;intro e;obtain⟨p,o,b⟩:=jV h a.block (by rw [i];rfl);have l:w.heap[d]? =J (Y g 154):=k;have m:a.block=d:=e;rw [m,l] at b;injection b with b;injection b with _ b;exact absurd b FV
theorem ZJ {g:S la} {i:Array la} (h:xp w base 5 1 (Z A n c) n g) (k:F' w d 154 i) (f:Array la):xp (w.setRow d f) base 5 1 (Z A n c) n g:=by
 refine zI h λa j=>QO w d a.block f ?_;intro e;obtain⟨o,m,b⟩:=jV h a.block (by rw [j];rfl);have l:w.heap[d]? =J (Y i 154):=k;rw [e,l] at b;injection b with b;injection b with _ b;exact absurd b FV
def zP (a:O) (cell:O->O->AB) (n:O):qn:=(List.range n).map λt=>cell (t/a) (t%a)
theorem yj (a:O) (cell:O->O->AB) (n:O):U (zP a cell n)=n:=by simp [zP]
theorem Ks (a:O) (cell:O->O->AB) (i j:O) (b:j<a):zP a cell (i*a+j+1)=zP a cell (i*a+j)++[cell i j]:=by
 unfold zP;rw [jA,qg];have d:(i*a+j)/a=i:=by
  rw [xH,Nat.mul_add_div M,xW b,v_]
 have c:(i*a+j)%a=j:=by
  rw [xH,Nat.mul_add_mod,jk b]
 simp [d,c]
theorem fN {r:O} (a:r<=255) (b:c<=255):r*c<=65025:=xA a b
theorem AQ (rows a:O) (cell:O->O->AB) (w:I) {F:O} {cs:S la} (hr:rows<=255) (hc:a<=255)
  (ck: ∀(i j:O) (W:I),i<rows->j<a->r' w w W->xG F ((i:la)::(j:la)::cs).toArray W λe w'=>e=t' (gR ((cell i j).toNat:V))/\W=w') (cY:F=291/\cs=[]\/(∃m,cs=[m])/\F=143:=by simp):
  xG 142 #[rows,a, .func (.func F) #[] cs.toArray] w λe w'=> ∃c b,e=t' (.agg (mC rows a (Z c (rows*a) b)))/\xp w' w 5 1 (Z c (rows*a) b) (rows*a) ((zP a cell (rows*a)).map B8)/\r' w w w':=by
 rcases cY with⟨rfl,rfl⟩|⟨⟨x',rfl⟩,rfl⟩
 all_goals
  have H:=T ck;clear ck;obtain⟨cY,hi,A,u,B⟩:=xt xR;have hz:=(jb YE).1;have OX:=fN hr hc;have G':DW ((rows:V)*(a:V))=((rows*a:O):V):=by rw [<-zB,qU];omega
  have I':wrap64 ((rows:V)*(a:V))=((rows*a:O):V):=by rw [<-zB];exact yT _ ⟨M,M⟩
  go_in;go_wp2_with (at_make;refine QA _ rfl _ _ 30 rfl w 5 cY (gR 0) 1 qu hi A u .i64 .i64 _ (rows*a) rfl rfl (zB rows a).symm (by rw [B.out];omega) SJ s8 ?_;intro g y uK;have iv:=T (show r' w w g from((qZ w w).alloc (qx _) _).grown uK s8 (λk hk=>by cases hk));have hh:=T (show F' g w 154 (mC 0 0 z8) from(F'.new w _ _).grown uK s8);replace y:=T y;clear uK);have ih:=hh.lt;have cK:xp g w 5 1 (Z ↑((w:O)+1) 0 (rows*a)) 0 []:=by simpa using y.out
  have N:r' w w (g (Y #[rows,a,Z ↑((w:O)+1) 0 (rows*a)] 154)):=iv.alloc (zr ih) _;have Q:F' (g (Y #[rows,a,Z ↑((w:O)+1) 0 (rows*a)] 154)) w 154 (mC 0 0 z8):=hh.alloc _;have P:F' (g (Y #[rows,a,Z ↑((w:O)+1) 0 (rows*a)] 154)) g 154 (mC rows a (Z ↑((w:O)+1) 0 (rows*a))):=F'.new _ _ _;have K:=cK.alloc (Y #[rows,a,Z ↑((w:O)+1) 0 (rows*a)] 154);generalize g (Y #[rows,a,Z ↑((w:O)+1) 0 (rows*a)] 154)=w3,(g:O)=d at*;revert N Q P K;refine yb ?_;intro N Q P K;clear cK G' I' hz;go_loopw [18] (λC wr=> ∃(i b:O) (c:q'),C=(i:la)/\i<=rows/\G (r' w w wr)/\G (F' wr w 154 (mC 0 0 z8))/\G (F' wr d 154 (mC rows a (Z c (i*a) b)))/\G (xp wr w 5 1 (Z c (i*a) b) (i*a) ((zP a cell (i*a)).map B8))) (λC _=>rows-(intOf C).toNat)
  ·exact⟨0,rows*a,some ⟨(w:O)+1,0,none⟩,rfl,M,N,Q,(by rw [jd];exact P),(by rw [jd];exact K)⟩
  ·obtain⟨i,b,c,rfl,N',f,r,n,l⟩:=hrel;by_cases R:i<rows
   ·have P':(i:V)<rows:=M;go_wp2;go_loopw [22] (λL wr=> ∃(j b:O) (c:q'),L=(j:la)/\j<=a/\G (r' w w wr)/\G (F' wr w 154 (mC 0 0 z8))/\G (F' wr d 154 (mC rows a (Z c (i*a+j) b)))/\G (xp wr w 5 1 (Z c (i*a+j) b) (i*a+j) ((zP a cell (i*a+j)).map B8))) (λL _=>a-(intOf L).toNat)
    ·exact⟨0,b,c,rfl,M,f,r,n,l⟩
    ·obtain⟨j,b,c,rfl,Q',f,r,n,l⟩:=hrel;by_cases X:j<a
     ·have O':(j:V)<a:=M;have hm:i*a+j<65025:=by
       have h1:(i+1)*a<=rows*a:=zk _ R;rw [ql] at h1;omega
      have cB:=T (Ks a cell i j X);obtain⟨m,ln⟩:=zn (i*a+j);rw [<-ln] at n l hm cB;have qj:=T ln;clear ln;have q2:i' wr ⟨d,2,none⟩=J (Z c m b):=n.cell 2;have D:=f.size;have M':G (∀W,r' (wr:O) wr W->i' W ⟨d,2,none⟩=J (Z c m b)/\r' w w W):=λW z=>⟨(n.below z n.lt).cell 2,f.trans (z.mono f.size)⟩;have HX:G (B8 (cell i j)=gR (((cell i j).toNat:O):V)):=rfl;have HC:=T (λW z=>H.out i j W R X z);generalize D':cell i j=x at*;clear D';generalize x.toNat=q at*;have p':m+1<=maxLen:=SJ;have J':(m+1)*1<=140737488355328:=M;go_wp2_with fail;have N9:i' wr.drew ⟨d,2,none⟩=J (Z c m b):=q2;have N6:=λo=>(M' _ (j1 o)).1;have u':=zr ih;go_region_law
       (first
        |(go_simp;(first|go_at_call 291|go_at_call 143);((with_reducible refine(HC.out _ (by first|exact f.out|exact f.out.drew)).mono ?_);rintro e w' ⟨rfl,rfl⟩))
        |(refine jm _ SQ _ _ _ SQ w 5 cY (gR 0) 1 1 qu hi A u B rfl M c m b _ SQ ((l.alloc (Y #[gR (q:V)] 5)).drew) ((wr:O)+1) _ 1 1 _ SQ (zU _ _ _) (IB rfl) p' J' (show (w:O)<=(wr (Y #[gR (q:V)] 5)).heap.size from qv D s8) ?_
          intro F c1 t E v m';have s:=Q_ (n.alloc _).drew ((l.alloc (Y #[gR (q:V)] 5)).drew) v;have cL:=Q_ (r.alloc _).drew ((l.alloc (Y #[gR (q:V)] 5)).drew) v;have z':=zG ((f.alloc D (Y #[gR (q:V)] 5)).drew) v ((l.alloc (Y #[gR (q:V)] 5)).drew) (show (w:O)<=(wr (Y #[gR (q:V)] 5)).heap.size from qv D s8);have z2:i' t ⟨d,2,none⟩=J (Z c m b):=s.cell 2;have zf:=s.frozen 2;revert E s cL;refine vn ?_;intro E s cL;clear v m'))
      all_goals
       go_wp2;go_roundw
       case rel=>
        refine⟨j+1,c1,F,xh,M,z'.setCell (p:=⟨d,2,none⟩) u' _,cL.far (p:=⟨d,2,none⟩) (vV ih) _, ?_, ?_⟩
        ·rw [show i*a+(j+1)=m+1 by rw [qj.out];omega];exact s.zh 2 _
        ·rw [show i*a+(j+1)=m+1 by rw [qj.out];omega,cB.out,qg];have h:=XG (j:=2) E s (Z F (m+1) c1);rw [<-HX.out] at h;exact h
       case measure=>simp [intOf];omega
     ·have iL:j=a:=M;subst iL;go_wp2_with fail;refine xk ?_;exact⟨i+1,b,c,xh,M,f,r,(by rw [ql];exact n),(by rw [ql];exact l)⟩
   ·have d':i=rows:=M;subst d';go_wp2_with (first
     |(refine ja rfl 154 _ rfl d rfl 154 (mC i a (Z c (i*a) b)) (0,0) _ n zL rfl j9 ?_)
     |(refine qC rfl 154 _ _ rfl w (mC i a (Z c (i*a) b)) rfl rfl 154 (mC 0 0 z8) r j9 rfl (Jb _ _ _ _ _) ?_))
    exact qW (results_cell_row rfl _ _ w _ _ _ _ rfl (r.row _) zL rfl j9) rfl ⟨c,b,rfl,ZJ l r _,zu f (qx _) _⟩
theorem zi (h:r' w w W) (o:Obj):r' w w (W.alloc o):=h.alloc h.size o
theorem zX {a:I} (h:r' w w W) (b:r' W W a):r' w w a:=h.trans (b.mono h.size)
theorem cG (r c:V) (A:q') (n k:O) (w:I):xG 275 #[.agg (mC r c (Z A n k))] w λe w'=>e=t' (.bool (Hw r c n))/\r' (w:O) w w':=by
 have f:=λw=>T (VI r w);have d:=λw=>T (VI c w);have b: ∀o,r' (w:O) w (w.alloc o):=λo=>j1 o;replace b:=T b;unfold mC;by_cases h1:0<=r/\r<=255
 focus
  rw [show aj r=true by unfold aj;simpa using h1] at f;by_cases h2:0<=c/\c<=255
  focus
   rw [show aj c=true by unfold aj;simpa using h2] at d;obtain⟨r,rfl⟩: ∃m:O,r=(m:V):=⟨r.toNat,M⟩;obtain⟨c,rfl⟩: ∃m:O,c=(m:V):=⟨c.toNat,M⟩;have i:r*c<=65025:=fN M M;have g:=(zB r c).symm;have a:G (Hw r c n=((n:V)==((r*c:O):V))):=by
    unfold Hw Hid;rw [yx,zd,yp,g];exact⟨λh=>h.2.2,λh=>⟨h1,h2,h⟩⟩
   rw [a.out];clear h1 h2;generalize r*c=j at*
  rotate_left
  focus
   have a:G (Hw r c n=false):=by
    unfold Hw;rw [Hid,zW];exact λh=>h2 h.2.1
   rw [show aj c=false by unfold aj;simpa using h2] at d;rw [a.out];clear h1 h2
  rotate_left
 rotate_left 2
 focus
  have a:G (Hw r c n=false):=by
   unfold Hw;rw [Hid,zW];exact λh=>h1 h.1
  rw [show aj r=false by unfold aj;simpa using h1] at f;rw [a.out];clear h1 d
 rotate_left
 all_goals
  go_in;go_wp2_with fail;refine Ω (f _).out ?_;go_wp2_with fail
 rotate_left;rotate_left
 ·go_ret;exact⟨rfl,b.out _⟩
 all_goals
  refine Ω (d _).out ?_;go_wp2;go_ret;exact⟨rfl,b.out _⟩
structure qE (l:S O) (w w':I):Prop where
 os:w'.os=w.os
 tape:w'.tape=w.tape
 output:w'.output=w.output
 size:(w:O)<=(w':O)
 block: ∀k,k<(w:O)->k∉l->w'.heap[k]? =w.heap[k]?
def K' (A:q'):S Nat:=(A.map (·.block)).toList
theorem ZO:k∈K' A↔A.map (·.block)=some k:=by
 unfold K';cases A<;>simp [eq_comm]
def Y8:la->O
 | .slice _ n _=>n
 |_=>0
theorem qE.refl (l:S O) (w:I):qE l w w:=⟨rfl,rfl,rfl,qx _,λ_ _ _=>rfl⟩
theorem qE.mono (h:qE l w w') (c: ∀k∈l,k∈l'):qE l' w w':=⟨h.os,h.tape,h.output,h.size,λk a b=>h.block k a λe=>b (c k e)⟩
theorem qE.trans (h:qE l w w') (a:qE l' w' w2) (d: ∀k∈l',k∈l\/(w:O)<=k):qE l w w2:=
 ⟨a.os.trans h.os,a.tape.trans h.tape,a.output.trans h.output,qv h.size a.size,λk b c=>(a.block k (qB b h.size) λe=>(d k e).elim c λh2=>M).trans (h.block k b c)⟩
theorem qE.then (h:qE l w w') (a:qE l w' w2):qE l w w2:=h.trans a λk b=> .inl b
theorem qE.jq (h:r' w w w'):qE l w w':=⟨h.os,h.tape,h.output,h.size,λk a _=>h.block k a⟩
theorem qE.fresh (h:qE l w w') (a:r' w' w' w2):qE l w w2:=h.trans (qE.jq (l:=[]) a) λk b=>by cases b
theorem qE.below (h:qE l w w') (a: ∀k∈l,B<=k) (b:B<=(w:O)):r' B w w':=⟨h.os,h.tape,h.output,h.size,λk c=>h.block k M λe=>by have:=a k e;omega⟩
theorem qE.drew (h:qE l w w'):qE l w w'.drew:=⟨h.os,h.tape,h.output,h.size,h.block⟩
theorem qE.drewN (h:qE l w w') (n:O):qE l w (w'.drewN n):=⟨h.os,h.tape,h.output,h.size,h.block⟩
theorem qE.alloc (h:qE l w w') (o:Obj):qE l w (w'.alloc o):=h.fresh (j1 o)
theorem qE.zh (h:qE l w w') (c:p.block∈l) (u:la):qE l w (w'.setCell p u):=
 ⟨h.os,h.tape,h.output,by rw [zO];exact h.size,λk b a=>(jT w' p u k (λe=>a (e▸c))).trans (h.block k b a)⟩
theorem qE.IZ (h:qE l w w') (c:(w:O)<=p.block) (u:la):qE l w (w'.setCell p u):=
 ⟨h.os,h.tape,h.output,by rw [zO];exact h.size,λk a b=>(jT w' p u k (λe=>M)).trans (h.block k a b)⟩
theorem qE.grown (h:qE l w w') (a:w'.grownBy w2 (A.map (·.block))) (d: ∀k∈K' A,k∈l\/(w:O)<=k):qE l w w2:=
 ⟨a.os.trans h.os,a.tape.trans h.tape,a.output.trans h.output,qv h.size a.size,λk b c=>(a.block k (qB b h.size) λe=>(d k (ZO.2 e.symm)).elim c λh2=>M).trans (h.block k b c)⟩
theorem qE.IJ (h:qE l w w') (a:w'.grownBy w2 none):qE l w w2:=h.grown (A:=none) a λk b=>by simp [K'] at b
theorem qE.cell (h:qE l w w') (b:p.block∉l) {v:la} (a:i' w p=some v):i' w' p=some v:=(zw (h.block _ (yM a) b)).trans a
theorem qE.blk {a:Array la} (h:qE l w w') (b:F' w g t a) (c:g∉l):F' w' g t a:=(h.block _ b.lt c).trans b
theorem qE.own {size:O} {e:S la} (h:qE l w w') (d:xp w base E size (Z A n c) n e) (g: ∀k∈K' A,k∉l):xp w' base E size (Z A n c) n e:=
 zI d λa b=>by
  obtain⟨j,i,f⟩:=jV d _ (by rw [b];rfl)
  exact h.block _ (jz f) (g _ (ZO.2 (by rw [b];rfl)))
theorem qT {w:I} {size:O} {b:Array la} {i:S la} (d:xp w base E size (Z A n c) n i) (e:F' w g t b) (j:E≠t): ∀k∈K' A,k≠g:=by
 rintro k h rfl;obtain⟨m,l,a⟩:=jV d k (ZO.1 h);have f:w.heap[k]? =J (Y b t):=e;rw [f] at a;injection a with a;injection a with _ a;exact j a.symm
theorem zj {w:I} {size:O} {a:S la} (b:xp w base E size (Z A n c) n a): ∀k∈K' A,base<=k/\k<(w:O):=λk d=>b.lt k (by rw [jH];exact ZO.1 d)
theorem Y9 {w:I} {b:q'} (h:JU w A b): ∀k∈K' b,k∈K' A\/(w:O)<=k:=λk a=>by
 rcases h with h|h
 ·exact .inl (ZO.2 (h▸ZO.1 a))
 ·rw [ZO,h] at a
  injection a with a
  exact .inr (Nat.le_of_eq a)
def jQ (E:TypeId) (w:I) (n:O) (r:S la) (e:Ending) (w':I):Prop:= ∃A c,e=t' (Z A n c)/\yG w w' E A n c r
theorem QB:(prog.info? 5).map (λi=>(i.zero,i.size,i.bytes))=J (some (gR 0),1,1):=AL
theorem YR (l:qn): ∀u∈l.map B8,u.oneCell'=true:=by
 intro u a;obtain⟨b,_,rfl⟩:=jB.1 a;rfl
theorem ZR (w:I) (base:O) (e:TypeId) (a:base<=(w:O)):xp (w (Y #[] e)) base e 1 (Z w 0 0) 0 []:=
 World.ownsRow_made w _ 0 a SJ s8
theorem yV (A:q') (n c B:O) (e:qn) (w:I) (h:E' w B 1 A n (e.map B8)) (j:B<=(w:O)) (l:n<=140737488355328):
  xG 55 #[Z A n c] w (jQ 5 w n (e.map B8)):=by
 have a:=λW=>Lib.run_eql_slice_nil W _ 5 A n c 0 0 qu;obtain⟨r,hi,f,d,g⟩:=xt QB;have H:=T h;cases A with
 |none=>
  have h0:n=0:=by
   rcases zA n with h0|h0
   ·exact h0
   ·obtain⟨i,a,_⟩:=h.2 h0;cases a
  have p:e=[]:=zl (by have:=h.len;omega);subst h0;subst p;simp only [Option.isNone] at a;clear h j l;go_wp2;go_ret;exact⟨_,0,rfl,yG.nil w _⟩
 |some i=>
  simp only [Option.isNone] at a;clear h;go_in;go_wp2_with (at_builtin;refine qF _ rfl (.tmp 5) (.tmp 6) 30 rfl w 5 r (gR 0) 1 1 qu hi f d g rfl M w 0 0 [] rfl (ZR w _ _ (qx _)) B (some i) n c _ rfl (H.alloc j _) (YR _) ?_ ?_ ?_ ?_;rotate_left 3;intro o c1 s b k q;have m:=T (zG (zi (qZ _ _) _) k (ZR w _ _ (qx _)) (zi (qZ _ w) _).size);replace b:=T b;clear k q);rotate_left 1
  ·unfold maxLen;omega
  ·omega
  ·exact(zi (qZ _ w) _).size
  go_ret;refine⟨o,c1,s8, ?_,m⟩;have h:=b.out;simpa using h
theorem mu (x z i:O) (k:x<128^i) (c:z<256) (l:x+z%128*128^i<18446744073709551616):
  bits .or .u64 (x:V) (IntKind.u64.wrap (IntKind.u64.wrap (bits .andNot .u8 (z:V) 128)*2^(7*i)))=((x+z%128*128^i:O):V):=by
 have a:(128:O)^i=2^(7*i):=by rw [Nat.pow_mul]
 have b:bits .andNot .u8 (z:V) 128=((z%128:O):V):=by
  rw [show(128:V)=((128:O):V) from rfl,u8_andNot_nat z 128 c M];congr 1;exact nat_mask7 z
 have h:IntKind.u64.wrap ((z%128:O):V)=((z%128:O):V):=by rw [qS];omega
 rw [b,h];have g:((z%128:O):V)*2^(7*i)=((z%128*128^i:O):V):=by rw [a,zB,j6];rfl
 rw [g];have d:z%128*128^i<18446744073709551616:=M;have j:z%128*128^i|||x=z%128*128^i+x:=nat_join _ _ x (by rw [a];exact Nat.mul_mod_left _ _) (by rw [<-a];exact k);have e:x<18446744073709551616:=M;generalize z%128*128^i=y at*;have f:IntKind.u64.wrap (y:V)=(y:V):=by rw [qS];omega
 rw [f,u64_or_nat x y e d,Nat.or_comm,j,Nat.add_comm]
theorem tK (x z i:O) (d:x<128^i) (hi:i<=9) (h:i=9->z=1):x+z%128*128^i<18446744073709551616/\(i<9->x+z%128*128^i<128^(i+1)):=by
 have f:z%128<128:=xC _ M;have h1:x+z%128*128^i<128^(i+1):=by
  rw [vB];have:=zk (128^i) (show z%128<=127 by omega);omega
 refine⟨?_,λ_=>h1⟩;have a:(128:O)^9=9223372036854775808:=by decide+kernel
 by_cases b:i=9
 ·have e:=h b;subst b;subst e;have c:(1:O)%128*128^9=9223372036854775808:=by decide+kernel
  rw [c];rw [a] at d;clear h1 a c h;omega
 ·have h2:128^(i+1)<=128^9:=zZ M M;rw [a] at h2;have h3:=qB h1 h2;clear h1 h2 a d;omega
theorem eB (A:q') (n c B:O) (bs:qn) (w:I) (h:E' w B 1 A n (bs.map B8)) (hn:n<=1000000000):
  xG 189 #[Z A n c] w λe w'=>e=t' (BA #[.int .u64 (F5 bs).1,e' (F5 bs).2.1,e' (F5 bs).2.2])/\w=w':=by
 have H:=T h;have uK:=T h.len;clear h;go_wp2;go_loopw [2,9] (λcK y wr=> ∃(i x:O),cK= .int .u64 (x:O)/\y=(i:la)/\i<=n/\i<=9/\G (x<128^i)/\G (yX i x (bs.drop i)=F5 bs)/\w=wr) (λ_ y _=>n-(intOf y).toNat)
 ·exact⟨0,0,rfl,rfl,qp _,M,by show 0<128^0;decide,rfl,rfl⟩
 ·obtain⟨i,x,rfl,rfl,N6,qj,j,HS,rfl⟩:=hrel;by_cases F:i<n
  ·have K:=j' i n;have ln:=xi i;obtain⟨u,z,iv,-,t,D⟩:=H.byte F;subst iv;have ck:bs.drop i=z::bs.drop (i+1):=by
    have cL:i<U bs:=by rw [uK.out];exact F
    rw [qX cL] at t;injection t with t;rw [zK cL,t]
   rw [ck] at HS;have d':=z.toNat_lt;by_cases l:(i=9/\z≠1)\/(0<i/\z=0)
   ·have L:G (((0:O),(0:O),(2:V))=F5 bs):=by rw [Hid,<-HS.out];unfold yX;rw [qk l]
    clear HS j;by_cases k:i=9/\z.toNat≠1
    ·obtain⟨k,o⟩:=k;subst k;have cY:i' w ⟨u.block,u.off+9,none⟩=J (gR (z.toNat:V)):=D;have P:(9:V)<(n:V):=M;have cB:((z.toNat:V)==1)=false:=SZ;have D': ¬(z.toNat:V)=1:=M;clear l K ln;go_wp2;go_ret3;exact⟨by rw [<-L.out];rfl,rfl⟩
    ·have W:0<i/\z.toNat=0:=by
      rcases l with⟨a,b⟩|⟨a,b⟩
      ·exact absurd ⟨a,λe=>b (jG.1 e)⟩ k
      ·exact⟨a,by rw [b];rfl⟩
     obtain⟨E,m⟩:=W;have M':i≠9:=λe=>k ⟨e,M⟩;have X:((i:V)==9)=false:=SZ;have R: ¬(i:V)=9:=M;have ih:=yn i;have J':(z.toNat:V)=0:=M;have I':((z.toNat:V)==0)=true:=by simp [m]
     clear l k;go_wp2;go_ret3;exact⟨by rw [<-L.out];rfl,rfl⟩
   ·have q:i=9->z.toNat=1:=λe=>by
     rcases Classical.em (z=1) with h|h
     ·rw [h];rfl
     ·exact absurd (.inl ⟨e,h⟩) l
    have m:0<i->z.toNat≠0:=λe h=>l (.inr ⟨e,jG.1 h⟩);have C:=tK x z.toNat i j qj q;have hh:=mu x z.toNat i j d' C.1;obtain⟨d,g⟩: ∃d,x+z.toNat%128*128^i=d:=⟨_,rfl⟩;rw [g] at hh;have r:=T l;have N:=T C;replace g:=T g;clear l C;by_cases k:i=9
    ·have o:=q k;subst k;have cY:i' w ⟨u.block,u.off+9,none⟩=J (gR (z.toNat:V)):=D;have P:(9:V)<(n:V):=M;have cB:((z.toNat:V)==1)=true:=by rw [o];rfl
     have N9:((z.toNat:V) !=1)=false:=by rw [o];rfl
     have Q:((z.toNat:V)==0)=false:=SZ;have s:(z.toNat:V)<128:=M;have f:G ((d,9+1,(0:V))=F5 bs):=by rw [Hid,<-HS.out];unfold yX;rw [qJ r.out,qk M,g.out]
     have iL:bits .or .u64 (x:V) (IntKind.u64.wrap (IntKind.u64.wrap (bits .andNot .u8 (z.toNat:V) 128)*9223372036854775808))=(d:V):=by simpa using hh
     have m':decide ((z.toNat:V)=1)=true:=qw M;have G':decide ((z.toNat:V)=0)=false:=qc M;replace o:=T o;clear HS j q m K ln;go_wp2;go_ret3;exact⟨by rw [<-f.out];rfl,rfl⟩
    ·have X:((i:V)==9)=false:=SZ;have R: ¬(i:V)=9:=M;by_cases E:0<i
     focus
      have ih:=yn i;have u':=m E;have p': ¬(z.toNat:V)=0:=M;have Q:((z.toNat:V)==0)=false:=SZ
     rotate_left
     focus have ih: ¬(0:V)<(i:V):=M
     all_goals
      clear q m;by_cases p:z.toNat<128
      ·have s:(z.toNat:V)<128:=M;have f:G ((d,i+1,(0:V))=F5 bs):=by rw [Hid,<-HS.out];unfold yX;rw [qJ r.out,qk p,g.out]
       clear HS j;go_wp2;go_ret3;exact⟨by rw [<-f.out];rfl,rfl⟩
      ·have s: ¬(z.toNat:V)<128:=M;have f:G (yX (i+1) d (bs.drop (i+1))=F5 bs):=by rw [Hid,<-HS.out,yX.eq_2,qJ r.out,qJ p,g.out]
       have v:G (d<128^(i+1)):=by rw [Hid,<-g.out];exact N.out.2 M
       clear HS j;go_wp2_with fail;refine xk ?_;exact⟨i+1,d,xg,xh,M,M,v,f,trivial⟩
  ·have z':=vc i n;have f:G (((0:O),(0:O),(1:V))=F5 bs):=by
    rw [Hid,<-HS.out,zD (by rw [uK.out];omega)];rfl
   clear HS j;go_wp2;go_ret3;exact⟨by rw [<-f.out];rfl,rfl⟩
theorem d_ (A:q') (n c B:O) (bs:qn) (a:V) (w:I) (h:E' w B 1 A n (bs.map B8)) (j:n<=1000000000) (m:a<=9223372036854775807):
  xG 152 #[Z A n c,a] w λe w'=>e=t' (BA #[e' (kE bs a).1,e' (kE bs a).2.1,e' (kE bs a).2.2])/\w=w':=by
 have d:=T (eB A n c B _ w h j);have u:=wQ bs;unfold kE;generalize F5 bs=s at*;obtain⟨x,k,g⟩:=s;dsimp only at*;clear h;by_cases f:g=0
 focus
  subst f;rw [qJ s8];by_cases l:a<0
  focus rw [qk (.inl l)]
  rotate_left
  focus
   obtain⟨b,rfl⟩: ∃b:O,a=(b:V):=⟨a.toNat,M⟩;by_cases t:b<x
   focus
    rw [qk (.inr M)];have i:=j' b x
   rotate_left
   focus
    rw [qJ M];have p:x<=9223372036854775807:=M
 rotate_left 3
 focus
  rw [qk f];have o:(g !=(0:V))=true:=by simp [f]
 all_goals
  go_in;go_wp2_with fail;refine Ω d ?_;go_wp2;go_ret3;exact⟨rfl,rfl⟩
end
section
variable {B k:O}{leaf:S (O×Bool)}
theorem Kv: ∀(f:O) (l r:S (O×Bool)),U l+U r/2<=f->U (da f l r)=U l+U r/2
 |0,[],[],_=>rfl
 |0,[],[a],_=>by simp [da]
 |0,[],a::b::r,h=>by simp at h;omega
 |0,x::l,r,h=>by simp at h
 |f+1,[],[],_=>rfl
 |f+1,[],[a],_=>by simp [da]
 |f+1,x::l,[],h=>by
  show(da f l []).length+1=_
  rw [Kv f l [] (by simp at h⊢;omega)];simp
 |f+1,x::l,[a],h=>by
  show(da f l [a]).length+1=_
  rw [Kv f l [a] (by simp at h⊢;omega)];simp
 |f+1,[],a::b::r,h=>by
  show(da f [] r).length+1=_
  rw [Kv f [] r (by simp at h⊢;omega)];simp;omega
 |f+1,x::l,a::b::r,h=>by
  show(if x.1<=a.1+b.1 then x::da f l (a::b::r) else(a.1+b.1,false)::da f (x::l) r).length=_
  split
  ·rw [qf,Kv f l (a::b::r) (by simp at h⊢;omega)];simp;omega
  ·rw [qf,Kv f (x::l) r (by simp at h⊢;omega)];simp;omega
def Vb (r:S (O×Bool)):Nat:=U (r.filter (!·.2))
theorem Xn (x:O×Bool) (l:S (O×Bool)):QX (x::l)=(if x.2=true then 1 else 0)+QX l:=by
 unfold QX;cases h:x.2<;>simp [QQ,h];omega
theorem ZP (x:O×Bool) (l:S (O×Bool)):Vb (x::l)=(if x.2=false then 1 else 0)+Vb l:=by
 unfold Vb;cases h:x.2<;>simp [QQ,h];omega
theorem tG (l:S (O×Bool)):QX l+Vb l=U l:=by
 induction l with
 |nil=>rfl
 |cons x l a=>
  rw [Xn,ZP,qf];cases x.2<;>simp<;>omega
theorem Zu: ∀(f:O) (l r:S (O×Bool)),QX (da f l r)<=U l/\(Vb (da f l r)<=U r/2+Vb l)
 |0,l,r=>⟨qp _,qp _⟩
 |f+1,[],[]=>⟨qp _,qp _⟩
 |f+1,[],[a]=>⟨qp _,qp _⟩
 |f+1,x::l,[]=>by
  have h:=Zu f l [];show QX (x::da f l [])<=_/\Vb (x::da f l [])<=_;rw [Xn,ZP,ZP,qf];cases x.2<;>simp at h⊢ <;>omega
 |f+1,x::l,[a]=>by
  have h:=Zu f l [a];show QX (x::da f l [a])<=_/\Vb (x::da f l [a])<=_;rw [Xn,ZP,ZP,qf];cases x.2<;>simp at h⊢ <;>omega
 |f+1,[],a::b::r=>by
  have h:=Zu f [] r;show QX ((a.1+b.1,false)::da f [] r)<=_/\Vb ((a.1+b.1,false)::da f [] r)<=_;rw [Xn,ZP];simp at h⊢;omega
 |f+1,x::l,a::b::r=>by
  show QX (if x.1<=a.1+b.1 then x::da f l (a::b::r) else(a.1+b.1,false)::da f (x::l) r)<=_/\Vb (if x.1<=a.1+b.1 then x::da f l (a::b::r) else(a.1+b.1,false)::da f (x::l) r)<=_
  split
  ·have h:=Zu f l (a::b::r)
   rw [Xn,ZP,ZP,qf];cases x.2<;>simp at h⊢ <;>omega
  ·have h:=Zu f (x::l) r
   rw [Xn,ZP];simp at h⊢;omega
theorem PG: ∀(f:O) (l r:S (O×Bool)),(∀x∈l,x.1<=B+B)->(∀x∈r,x.1<=B)-> ∀x∈da f l r,x.1<=B+B
 |0,l,r,_,_,x,h=>by simp [da] at h
 |f+1,[],[],_,_,x,h=>by simp [da] at h
 |f+1,[],[a],_,_,x,h=>by simp [da] at h
 |f+1,y::l,[],h1,h2,x,h=>by
  rcases qL.1 (show x∈y::da f l [] from h) with h|h
  ·exact h▸h1 y (qo ..)
  ·exact PG f l _ (λz c=>h1 z (qM _ c)) h2 x h
 |f+1,y::l,[a],h1,h2,x,h=>by
  rcases qL.1 (show x∈y::da f l [a] from h) with h|h
  ·exact h▸h1 y (qo ..)
  ·exact PG f l _ (λz c=>h1 z (qM _ c)) h2 x h
 |f+1,[],a::b::r,h1,h2,x,h=>by
  rcases qL.1 (show x∈(a.1+b.1,false)::da f [] r from h) with h|h
  ·have e:=h2 a (qo ..)
   have g:=h2 b (qM _ (qo ..));rw [h];show a.1+b.1<=_;omega
  ·exact PG f _ r h1 (λz c=>h2 z (qM _ (qM _ c))) x h
 |f+1,y::l,a::b::r,h1,h2,x,h=>by
  have d:x∈(if y.1<=a.1+b.1 then y::da f l (a::b::r) else(a.1+b.1,false)::da f (y::l) r):=h
  split at d
  ·rcases qL.1 d with h|h
   ·exact h▸h1 y (qo ..)
   ·exact PG f l _ (λz c=>h1 z (qM _ c)) h2 x h
  ·rcases qL.1 d with h|h
   ·have e:=h2 a (qo ..)
    have g:=h2 b (qM _ (qo ..));rw [h];show a.1+b.1<=_;omega
   ·exact PG f _ r h1 (λz c=>h2 z (qM _ (qM _ c))) x h
def vi (leaf:S (O×Bool)):O->S (O×Bool)
 |0=>leaf
 |k+1=>YY leaf (vi leaf k)
theorem Wu (leaf:S (O×Bool)): ∀k,SH leaf k=((List.range (k+1)).map (vi leaf)).reverse
 |0=>rfl
 |k+1=>by
  have h:=Wu leaf k;have a:(SH leaf k).headD []=vi leaf k:=by rw [h,jA];simp
  show YY leaf ((SH leaf k).headD [])::SH leaf k=_
  rw [a,h,jA (n:=k+1)];simp [vi]
theorem Ex (leaf:S (O×Bool)) (k:O):U (vi leaf (k+1))=U leaf+U (vi leaf k)/2:=Kv _ _ _ (qx _)
theorem WU (leaf:S (O×Bool)): ∀k,2*U leaf<=U (vi leaf k)+(U leaf-1)/2^k+1
 |0=>by simp [vi];omega
 |k+1=>by
  have h:=WU leaf k;rw [Ex,vB,<-Nat.div_div_eq_div_mul];omega
theorem CF (leaf:S (O×Bool)): ∀k,U (vi leaf k)<=2*U leaf
 |0=>by simp [vi];omega
 |k+1=>by have h:=CF leaf k;rw [Ex];omega
theorem mW (leaf:S (O×Bool)) (h:U leaf<=300):2*U leaf-2<=U (vi leaf 14):=by
 have h1:=WU leaf 14;rw [xW (show U leaf-1<2^14 by omega)] at h1;omega
theorem Wd (leaf:S (O×Bool)) (B:O) (h: ∀x∈leaf,x.1<=B): ∀k,∀x∈vi leaf k,x.1<=B*2^k
 |0,x,a=>by simpa using h x a
 |k+1,x,a=>by
  have h2:=PG _ _ _ (λy b=>by
   have h3:=h y b;have h4:B*1<=B*2^k:=yz _ Nat.one_le_two_pow;omega) (Wd _ B h k) x a
  rw [vB,<-Nat.mul_assoc];omega
theorem Ev (os b:S O): ∀x∈Hn os b,x.2=true:=by
 intro x a;unfold Hn at a;obtain⟨s,_,rfl⟩:=jB.1 a;rfl
theorem tH {l:S (O×Bool)} (h: ∀x∈l,x.2=true):Vb l=0:=by
 unfold Vb;rw [List.filter_eq_nil_iff.2 (λx a=>by simp [h x a])];rfl
theorem tB (l:S (O×Bool)) (k:O):Vb (l.take k)<=Vb l:=by
 unfold Vb;have:=List.take_sublist k l;exact(this.filter _).length_le
theorem tC (l:S (O×Bool)) (k:O):QX (l.take k)<=QX l:=by
 unfold QX;have:=List.take_sublist k l;exact(this.filter _).length_le
theorem Sm (k:O):QX (vi leaf k)<=U leaf:=by
 cases k with
 |zero=>unfold QX vi;exact jN _ _
 |succ k=>exact(Zu _ _ _).1
theorem SM (h: ∀x∈leaf,x.2=true) (k:O):Vb (vi leaf (k+1))<=U (vi leaf k)/2:=by
 have:=(Zu (U leaf+U (vi leaf k)/2) leaf (vi leaf k)).2;rw [tH h] at this;exact this
theorem SO (h: ∀x∈leaf,x.2=true) (k t:O) (ht:t<=U (vi leaf (k+1))):2*(t-QX ((vi leaf (k+1)).take t))<=U (vi leaf k):=by
 have h1:=tG ((vi leaf (k+1)).take t);rw [qh] at h1;have h2:=tB (vi leaf (k+1)) t;have h3:=SM h k;omega
def Hs (leaf:S (O×Bool)) (qj:O):O->O
 |0=>2*U leaf-2
 |j+1=>2*(Hs leaf qj j-QX ((vi leaf (qj-j)).take (Hs leaf qj j)))
def aO (leaf:S (O×Bool)) (qj j:O):Nat:=QX ((vi leaf (qj-j)).take (Hs leaf qj j))
theorem iJ (h: ∀x∈leaf,x.2=true) (a:U leaf<=300): ∀j,j<=14->Hs leaf 14 j<=U (vi leaf (14-j))
 |0,_=>mW _ a
 |j+1,b=>by
  have h1:=iJ h a j M;have e:14-j=(14-(j+1))+1:=M;show 2*(Hs leaf 14 j-QX ((vi leaf (14-j)).take (Hs leaf 14 j)))<=_
  rw [e] at h1⊢;exact SO h _ _ h1
theorem Ey (leaf:S (O×Bool)) (qj:O): ∀(d j:O),j+d=qj+1->wv (((List.range d).map (vi leaf)).reverse) (Hs leaf qj j)=(List.range d).map λi=>aO leaf qj (j+i)
 |0,j,_=>rfl
 |d+1,j,h=>by
  have e:d=qj-j:=M;have h2:=Ey leaf qj d (j+1) M;have h3:2*(Hs leaf qj j-QX ((vi leaf d).take (Hs leaf qj j)))=Hs leaf qj (j+1):=by rw [e];rfl
  rw [jA,qg,List.reverse_append];show QX ((vi leaf d).take (Hs leaf qj j))::wv ((List.range d).map (vi leaf)).reverse (2*(Hs leaf qj j-QX ((vi leaf d).take (Hs leaf qj j))))=_;rw [h3,h2,<-jA,List.range_succ_eq_map];have h4:QX ((vi leaf d).take (Hs leaf qj j))=aO leaf qj j:=by unfold aO;rw [<-e]
  rw [h4];simp [Function.comp_def,vo,Nat.add_comm];intro a _;rw [show a+(j+1)=j+(a+1) by omega]
end
end Go.Proofs.YtfnlfpcfkbdcmaaGreatDoor
