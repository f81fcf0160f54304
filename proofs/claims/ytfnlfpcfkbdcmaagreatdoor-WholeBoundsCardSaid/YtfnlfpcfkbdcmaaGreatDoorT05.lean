import Derived.Test.YtfnlfpcfkbdcmaaGreatDoorT00
import Derived.Test.YtfnlfpcfkbdcmaaGreatDoorT01
import Derived.Test.YtfnlfpcfkbdcmaaGreatDoorT02
set_option linter.unusedSimpArgs false
set_option linter.unusedVariables false
set_option maxRecDepth 100000
set_option maxHeartbeats 0
open Go.Proofs.Tryz
namespace Go.Proofs.YtfnlfpcfkbdcmaaGreatDoor
open Go.RowKit
section
variable {B i:O}{d:S la}{l:S qn}{o:Obj}
def Hx (l:S qn):Bool:=l.all λb=>decide (U b=U (l.headD []))
theorem sN (h: ∀(i:O) (b:qn),l[i]? =some b->U b=U (l.headD [])):Hx l=true:=by
 unfold Hx;rw [xT];intro b a;obtain⟨i,hi,rfl⟩:=Q8 a;rw [jo];exact h i _ (qX _)
theorem Nw {b:qn} (a:l[i]? =some b) (h:U b≠U (l.headD [])):Hx l=false:=by
 unfold Hx;rw [List.all_eq_false];exact⟨b,zQ a,by simpa using h⟩
theorem vm.LZ {w:I} {n k:O} {A:q'} {d:S qn} (h:vm w B A n d) (g:k<n): ∃b a Ai c,A=some b/\d[k]? =some a/\i' w (b.add k)=J (Z Ai a c):=by
 obtain⟨b,a,Ai,m,c,j,_,l,f,_,_,e⟩:=h.row g;have i:=e.len;subst i;exact⟨b,a,_,c,j,l,f⟩
theorem sM (A:q') (n c B:O) (d:S qn) (w:I) (h:vm w B A n d) (cB:n<=100000):
  xG 101 #[Z A n c] w λe w'=>e=t' (.bool (Hx d))/\w=w':=by
 have E:U d=n:=by obtain⟨_,_,h2,_⟩:=h;exact h2
 have H:=T (λk (R:k<n)=>h.LZ R);have r:=T (λh=>sN (l:=d) h);have q:=T (λi b f h=>Nw (l:=d) (i:=i) (b:=b) f h);obtain⟨L,p⟩: ∃L,U (d.headD [])=L:=⟨_,rfl⟩;rw [p] at r q;have P:G (∀m,d[0]? =some m->U m=L):=λm u=>by
  rw [<-p];cases d with
  |nil=>simp at u
  |cons a t=>simp at u;rw [u];rfl
 have ih:=T E;obtain⟨ln,y⟩: ∃ln,Hx d=ln:=⟨_,rfl⟩;rw [y] at r q;rw [y];clear h E y;go_wp2;go_loop [7] (λx=> ∃i:O,x=(i:la)/\i<=n/\G (∀t b,t<i->d[t]? =some b->U b=L)) (λx=>n-(intOf x).toNat)
 ·exact⟨0,rfl,M,λt b ht=>M⟩
 ·obtain⟨i,rfl,d',C⟩:=hrel;by_cases K:i<n
  ·have W:=j' i n;obtain⟨D,m,hh,c0,iv,Q,v⟩:=H 0 M;subst iv;obtain⟨N,o,Ai,cY,F,z,cL⟩:=H i K;obtain rfl:D=N:=by injection F
   have j:=P m Q;rw [j] at v;have iL:i' w D=J (Z hh L c0):=by simpa [Addr.add] using v
   clear v F;by_cases g:U o=L
   ·have uK:G (∀t b,t<i+1->d[t]? =some b->U b=L):=λt b ht f=>by
     by_cases e:t=i
     ·rw [e,z] at f;injection f with f;rw [<-f];exact g
     ·exact C t b M f
    rw [g] at cL;replace j:=T j;go_wp2;go_round
    case rel=>exact⟨i+1,xh,M,uK⟩
    case measure=>simp [intOf];omega
   ·have s:=T (q i o z g);have qj:((U o:V) !=(L:V))=true:=SZ;generalize U o=X at*;go_wp2;go_ret;exact⟨by rw [s.out];rfl,rfl⟩
  ·have s:=T (r (λt b f=>C.out t b (by have:=(vp.1 f).1;have:=ih.out;omega) f));go_wp2;go_ret;exact⟨by rw [s.out];rfl,rfl⟩
end
section
open Go.Maps
variable {A:q'}{B uK base c g i m n:O}{W b w w':I}{bs:qn}{d:S la}{k:TypeId}{o:Obj}{v:V}
theorem Mj:laidOutB prog=true:=AL
theorem Mx:Keyed prog 269:=
 Keyed.of_law (deep_law_laid Mj (m:=2) M (xD AL) AL (by rw [Zf]))
def k3 (k:AB×AB×AB):Value:= .agg #[B8 k.1,B8 k.2.1,B8 k.2.2]
def kl3 (k:AB×AB×AB):Lit:= .string (keyBytes [.int .u8 (k.1.toNat:V), .int .u8 (k.2.1.toNat:V), .int .u8 (k.2.2.toNat:V)])
theorem wf8 (a:AB):(Lit.int .u8 (a.toNat:V)).wf=true:=WalkArith.wf_u8 (by have:=a.toNat_lt;omega)
theorem My (k:AB×AB×AB):keyOf prog 269 (k3 k)=J (kl3 k):=by
 have e:prog.keyType 269=true:=AL;have c:prog.cellsOf 269=3:=AL;have d:prog.cellsOf 5=1:=AL;have f:prog.types.size+1=(prog.types.size-1)+1+1:=by
  have:1<=prog.types.size:=xD AL;omega
 have h:(k3 k).formed prog 269=true:=by simp [Value.formed,Zf,c,k3]
 unfold keyOf;simp only [Zf,e,h,Bool.and_self,if_true];rw [f];generalize prog.types.size-1=m;have j: ∀a:AB,prog.keyLits (m+1) 5 [.int .u8 (a.toNat:V)]=some [.int .u8 (a.toNat:V)]:=λa=>by
  unfold Program.keyLits;simp only [xS,wf8,and_self,if_true]
 have g: ∀b,prog.keyLits (m+1+1) 269 b=if U b=prog.cellsOf 269 then((List.range 3).mapM λi=>prog.keyLits (m+1) 5 ((b.drop (i*prog.cellsOf 5)).take (prog.cellsOf 5))).map List.flatten else none:=λb=>by
  rw [Program.keyLits];exact Zf
 rw [g,c,d];simp [k3,Value.cells,B8,j,jA,kl3]
theorem Oc {k a:AB×AB×AB} (h:kl3 k=kl3 a):k=a:=by
 have h2:=Mx.inj (My k) (by rw [h];exact My a);unfold k3 B8 at h2;simp only [Value.agg.injEq,Array.mk.injEq,List.cons.injEq,Value.int.injEq,true_and,and_true] at h2;obtain⟨h3,h4,h5⟩:=h2;have c:=jG.1 (show k.1.toNat=a.1.toNat by omega);have d:=jG.1 (show k.2.1.toNat=a.2.1.toNat by omega);have b:=jG.1 (show k.2.2.toNat=a.2.2.toNat by omega);exact Prod.ext c (Prod.ext d b)
theorem Wb (k:AB×AB×AB):WideAt.IsKeyLit (kl3 k):=Mx.key (My k)
def LY (b:qn):O->DataW Unit
 |0=> .map []
 |m+1=>if m+3<=U b then(LY b m).put (kl3 (D0 b m)) (.lit (.int .i64 (m:V))) else LY b m
theorem kH (b:qn): ∀m,IsMap (LY b m)
 |0=>isMap_empty
 |m+1=>by
  unfold LY;split
  ·exact(kH b m).put _ _
  ·exact kH b m
theorem Dv (b:qn) (k:AB×AB×AB): ∀m,Maps.has (LY b m) (kl3 k)=(gp b m k).isSome/\(LY b m).atKey (kl3 k) (.lit (.int .i64 0))= .lit (.int .i64 (((gp b m k).getD 0:O):V))
 |0=>⟨rfl,rfl⟩
 |m+1=>by
  have d:=Dv b k m;unfold LY gp;by_cases a:m+3<=U b
  ·rw [qk a]
   by_cases c:D0 b m=k
   ·rw [qk ⟨a,c⟩,c]
    exact⟨has_put_same (kH b m) (Wb k) _,atKey_put_same (kH b m) (Wb k) _ _⟩
   ·rw [qJ (λh=>c h.2)]
    have e:kl3 k≠kl3 (D0 b m):=λh=>c (Oc h).symm;rw [has_put_other e,atKey_put_other e];exact d
  ·rw [qJ a,qJ (λh=>a h.1)]
   exact d
theorem VZ {w:I} {n:O} {A:q'} {bs:qn} (h:E' w B 1 A n (bs.map B8)) (b:0<n): ∃a,A=some a/\ ∀j,j<U bs->i' w (a.add j)=J (gR ((bs.getD j 0).toNat:V)):=by
 obtain⟨a,d,_,c⟩:=h.2 b;exact⟨a,d,λj e=>c j _ (by rw [qD,qd,qX e];rfl)⟩
theorem MQ:(prog.info? 269).map (λi=>(i.zero,i.size))=J (some (.agg #[gR 0,gR 0,gR 0]),3):=AL
theorem OC:(prog.info? 269).map (·.size)=some 3:=AL
theorem WB (A:q') (n c B i:O) (bs:qn) (w:I) (h:E' w B 1 A n (bs.map B8)) (s:B<=(w:O)) (hi:i+3<=n) (hh:n<4611686018427387904):
  xG 175 #[Z A n c,i] w λe w'=>e=t' (k3 (D0 bs i))/\r' w w w':=by
 have K:=h.len;have m:=h.alloc s (Y #[gR 0,gR 0,gR 0] 269);obtain⟨b,rfl,d⟩:=VZ m M;have u:=(jb MQ).1;have c0:=d i M;have c1:=d (i+1) M;have c2:=d (i+2) M;have d1:b.add (i+1)=⟨b.block,b.off+(i+1),none⟩:=by unfold Addr.add;simp
 have d2:b.add (i+2)=⟨b.block,b.off+(i+2),none⟩:=by unfold Addr.add;simp
 have q:=c1;have r:=c2;rw [d1] at q;rw [d2] at r;clear d1 d2;have v:(i:V)<n:=M;have D:(i:V)+1<n:=M;have l2:(i:V)+2<n:=M;have t:(0:V)<=(i:V)+1:=M;have E:(0:V)<=(i:V)+2:=M;have F:DW ((i:V)+1)=(i:V)+1:=by rw [show((i:V)+1)=((i+1:O):V) by omega,qU];omega
 have x:DW ((i:V)+2)=(i:V)+2:=by rw [show((i:V)+2)=((i+2:O):V) by omega,qU];omega
 unfold D0 k3 B8;generalize (bs.getD i 0).toNat=k,(bs.getD (i+1) 0).toNat=l,(bs.getD (i+2) 0).toNat=g at*;clear h d m;go_in;go_wp2_with fail;have j:r' w w (w (Y #[gR 0,gR 0,gR 0] 269)):=j1 _;have a:F' (w (Y #[gR 0,gR 0,gR 0] 269)) w 269 #[gR 0,gR 0,gR 0]:=F'.new _ _ _;generalize w (Y #[gR 0,gR 0,gR 0] 269)=f at*;have C:i' f (w:O)=J (gR 0):=a.cell 0;have L:i' f ⟨w,1,none⟩=J (gR 0):=a.cell 1;have H:i' f ⟨w,2,none⟩=J (gR 0):=a.cell 2;have y:=a.frozen 0;have z:=a.frozen 1;have N:=a.frozen 2;replace a:=T a;replace j:=T j;go_region;go_wp2_with fail;have o:F' (((f.drew.setCell w (gR (k:V))).setCell ⟨w,1,none⟩ (gR (l:V))).setCell ⟨w,2,none⟩ (gR (g:V))) w 269 #[gR (k:V),gR (l:V),gR (g:V)]:=((a.drew.zh 0 _).zh 1 _).zh 2 _;exact qW (results_cell_row rfl _ _ w _ _ _ _ rfl o Zf rfl OC) rfl ⟨rfl,((j.drew.setCell (p:= (w:O)) (qx _) _).setCell (p:=⟨w,1,none⟩) (qx _) _).setCell (p:=⟨w,2,none⟩) (qx _) _⟩
theorem eq8 (x y:AB):((x.toNat:V)==(y.toNat:V))=(x==y):=by
 rw [yx,yp,yp];constructor
 ·intro h;exact jG.1 M
 ·intro h;rw [h]
theorem CH (A:q') (n c B p i:O) (bs:qn) (w:I) (h:E' w B 1 A n (bs.map B8)) (F:p<i) (hi:i<n) (N:n<4611686018427387904):
  xG 176 #[Z A n c,p,i] w λe w'=>e=t' (e' (Z3 bs p i))/\Dr w w':=by
 have u:=h.len;have H:=T h;obtain⟨C,rfl,b⟩:=VZ h M;clear b h;go_wp2;go_loopw [7] (λv wr=> ∃k:O,v=(k:la)/\k<=257/\G (Dr w wr)/\G (Z3 bs p i=uZ bs p i (257-k) k)) (λv _=>(257-intOf v).toNat)
 ·exact⟨0,rfl,M,Dr.refl w,rfl⟩
 ·obtain⟨k,rfl,P,d,f⟩:=hrel;have r:=d.reads H.out;by_cases L:k<257
  ·have E:(k:V)<257:=M;by_cases t:i+k<n
   focus
    obtain⟨Q,o,b⟩:=VZ r M;injection o with o;subst o;have c1:=b (p+k) M;have c2:=b (i+k) M
   rotate_left;rotate_left
   all_goals
    have z:DW ((i:V)+(k:V))=(i:V)+(k:V):=by rw [show((i:V)+(k:V))=((i+k:O):V) by omega,qU];omega
   focus
    have W:DW ((p:V)+(k:V))=(p:V)+(k:V):=by rw [show((p:V)+(k:V))=((p+k:O):V) by omega,qU];omega
    have X:(i:V)+(k:V)<n:=M;have l2:(p:V)+(k:V)<n:=M;have D:(0:V)<=(i:V)+(k:V):=M;have K:(0:V)<=(p:V)+(k:V):=M;have s:=eq8 (bs.getD (p+k) 0) (bs.getD (i+k) 0);have g:G (rn bs p i k=(bs.getD (p+k) 0==bs.getD (i+k) 0)):=by
     unfold rn;rw [u];simp [t,Hid]
    have q:G (uZ bs p i (257-k) k=if rn bs p i k=true then uZ bs p i (257-(k+1)) (k+1) else k):=by
     obtain⟨m,l⟩: ∃m,257-k=m+1:=⟨256-k,M⟩;rw [l,show 257-(k+1)=m by omega];rfl
    generalize bs.getD (p+k) 0=x,bs.getD (i+k) 0=y at*;clear b r;cases j:(x==y)
    focus
     rw [j] at s g;have a:G (Z3 bs p i=k):=by
      rw [Hid,f.out,q.out,g.out];rfl
     clear j
    rotate_left
    ·rw [j] at s g;have a:G (Z3 bs p i=uZ bs p i (257-(k+1)) (k+1)):=by
      rw [Hid,f.out,q.out,g.out];rfl
     clear j;go_wp2;go_quiet (fail);go_wp2_with fail;refine xk ?_;exact⟨k+1,xh,M,d.drewN _,a⟩
   rotate_left
   focus
    have R:decide ((i:V)+(k:V)<n)=false:=by rw [zW];omega
    have a:G (Z3 bs p i=k):=by
     rw [Hid,f.out];obtain⟨m,l⟩: ∃m,257-k=m+1:=⟨256-k,M⟩;rw [l];show(if rn bs p i k=true then _ else k)=k;rw [qJ (by unfold rn;rw [u];simp [t])]
   all_goals
    go_wp2;go_quiet (fail);go_wp2;go_ret;exact⟨Jy (by rw [a.out]),d.drewN _⟩
  ·obtain rfl:k=257:=M;have a:G (Z3 bs p i=257):=f.out;go_wp2;go_quiet (fail);go_wp2;go_ret;exact⟨Jy (by rw [a.out]),d.drewN _⟩
theorem lZ (w:I):(zeroValue 3).run prog w= .ok () w:=AL
def _k (w:I) (base g:O) (bs:qn) (m:O) (uK:O) (A:q') (c:O):Prop:=
 F' w g 200 #[.map (some uK), .slice A m c]/\base<=g/\base<=uK/\w.ownsMap prog 269 (plainElem prog 3) uK m (LY bs m)/\xp w base 3 1 (.slice A m c) m ((PO bs m).map I64)
theorem X3 {D:DataW Unit} {k:TypeId} {R:la->Option (DataW Unit×S MemPlace)} (h:w.ownsMap prog k R uK n D) (a:w'.heap[uK]? =w.heap[uK]?):w'.ownsMap prog k R uK n D:=by
 obtain⟨b,c,h1,h2⟩:=h;exact⟨b,c,a.trans h1,h2⟩
theorem vT {size:O} {e:TypeId} (h:xp w base e size (Z A n c) n d) (i: ∀a,A=some a->w'.heap[a.block]? =w.heap[a.block]?):xp w' base e size (Z A n c) n d:=by
 refine⟨h.1,h.2.imp id λ⟨g,cap,cur,b,j,f,r⟩=>⟨g,cap,cur,b,j, ?_,r⟩⟩;injection b with b;exact(i _ b).trans f
theorem _k.below {g:O} (h:_k w base g bs m uK A c) (e:r' w w w'):_k w' base g bs m uK A c:=by
 obtain⟨h1,h2,h3,h4,h5⟩:=h;refine⟨h1.below e h1.lt,h2,h3,X3 h4 (e.block _ h4.lt),vT h5 λa b=>e.block _ ?_⟩;rcases h5.2 with⟨h0,_⟩|⟨i,_,_,d,_,f,_⟩
 ·injection h0 with h0;rw [h0] at b;cases b
 ·injection d with d;rw [d] at b;injection b with b;subst b;exact(show F' _ _ _ _ from f).lt
theorem look_eq (h:w.ownsMap prog 269 (plainElem prog 3) uK m (LY bs m)) (g:W.heap[uK]? =w.heap[uK]?) (k:AB×AB×AB):
  (Instr.lookup 198 (.map (some uK)) (k3 k) true).run prog W= .ok (.tuple #[(((gp bs m k).getD 0:O):V), .bool (gp bs m k).isSome]) W:=by
 have h2:=X3 h g;obtain⟨v,j,a,b⟩:=h2.look_ok Mx underlying198 (lZ W) (plainElem_int yu FV) (My k);obtain⟨c,rfl,f,_⟩:=plainElem_int_inv yu b;obtain⟨d,i⟩:=Dv bs k m;rw [a,d];have e:=zo Prod.fst f;rw [i] at e;simp only [DataW.lit.injEq,Lit.int.injEq,true_and] at e;rw [e]
theorem EP (A:q') (n c B base i g uK y:O) (D:q') (bs:qn) (w:I) (h:E' w B 1 A n (bs.map B8)) (qj:B<=(w:O)) (hi:i<=n) (hn:n<4611686018427387904) (X:_k w base g bs i uK D y):
  xG 124 #[mJ g,Z A n c,i] w λe w'=> ∃a d1:O,Va (ee bs i) (a,d1)/\e=t' (BA #[a,d1])/\r' w w w':=by
 have cY:=h.len;by_cases hs:n<i+3
 ·have OX:(n:V)<(i:V)+3:=M;have N:=Ry (b:=bs) (at_:=i) M M;replace N:=T N;clear X h cY;go_wp2;go_ret2;exact⟨0,0,N,rfl,qZ _ _⟩
 have C:=T X;have H:=T h;have L:=T cY;have K:G (∀W,r' w w W->xG 175 #[Z A n c,i] W λe w'=>e=t' (k3 (D0 bs i))/\r' (W:O) W w'):=λW f=>
  WB A n c B i _ W (H.below (f.mono qj)) (qv qj f.size) M hn
 have s:=C.out.1.cell 0;simp only [qR,qt] at s;have E:G (∀W,r' w w W->i' W g=J (.map (some uK))/\i' W ⟨g,1,none⟩=J (Z D i y)):=λW f=>
  ⟨(C.out.1.below f C.out.1.lt).cell 0,(C.out.1.below f C.out.1.lt).cell 1⟩
 have l:G (∀W,r' w w W->(Instr.lookup 198 (.map (some uK)) (k3 (D0 bs i)) true).run prog W= .ok (BA #[(((gp bs i (D0 bs i)).getD 0:O):V), .bool (gp bs i (D0 bs i)).isSome]) W):=λW f=>
  look_eq C.out.2.2.2.1 (f.block _ C.out.2.2.2.1.lt) _
 clear X h cY;have cB:=T (sH bs i);cases d:gp bs i (D0 bs i)
 focus have o:=T (pV (by rw [L.out];omega) (qx _) M (by rw [xO];exact cB) d)
 rotate_left
 focus
  rename_i p0;have Hl:=T d
 rotate_left
 all_goals
  rw [d] at l;simp only [Option.getD_none,Zv,Xz,Xq] at l;clear d;go_in;go_wp2_with fail;go_region_held3 (λw'=>i' w' g=J (.map (some uK))/\r' w w w')
   (first|assumption|exact⟨s,qZ _ _⟩|exact⟨s,Below.drew (qZ _ _)⟩|exact⟨v,j⟩)
   (first|(go_at_call 175;((with_reducible refine(K.out _ (by first|assumption|exact qZ _ _|exact Below.drew (qZ _ _))).mono ?_);rintro e iv ⟨rfl,u⟩;have j:r' w w iv:=Below.trans (by first|assumption|exact qZ _ _|exact Below.drew (qZ _ _)) (u.mono (by first|exact qx _|simp));have v:=(E.out _ j).1;have p':=l.out _ j;clear u)))
  go_wp2_with fail
 ·go_loopw [6,7,8] (λln cK t wr=>ln=e' 0/\cK=e' 0/\t=e' 0/\G (r' w w wr)) (λ_ _ _ _=>0)
  ·exact⟨rfl,rfl,rfl,j⟩
  ·obtain⟨rfl,rfl,rfl,m⟩:=hrel;go_wp2;go_ret2;exact⟨0,0,o,rfl,m⟩
 ·have HC:G (∀W,r' w w W->_k W base g bs i uK D y):=λW f=>C.below f;have HR:G (∀W,r' w w W->E' W B 1 A n (bs.map B8)):=λW f=>H.below (f.mono qj);clear p' v s K;go_loopw [6,7,8] (λln cK t wr=> ∃(q a d1:O),ln=(a:la)/\cK=(d1:la)/\t=e' (C5 (gp bs q (D0 bs i)))/\q<=i/\a<=257/\G (i-q<=_g i)/\G (Va (VK bs i (i-q)) (a,d1))/\G (r' w w wr)) (λ_ _ t _=>(intOf t+1).toNat)
  ·exact⟨i,0,0,rfl,rfl,by rw [Hl.out];rfl,qx _,M,(show i-i<=_g i by omega),(by rw [xO];exact cB),j⟩
  ·obtain⟨q,a,d1,rfl,rfl,rfl,hh,O',cL,x,m⟩:=hrel;cases d:gp bs q (D0 bs i)
   ·have o:=T (pV (by rw [L.out];omega) hh cL x d);clear d;simp only [C5];go_wp2;go_ret2;exact⟨a,_,o,rfl,m⟩
   ·rename_i p;have Q:=T (YI d);have Q':=Q.out.1;by_cases J':4095<i-p
    focus
     have o:=T (Gh (by rw [L.out];omega) hh cL x d J');have m':(4095:V)<(i:V)-(p:V):=M
    rotate_left
    focus
     by_cases I':257<=a
     focus
      have o:=T (GH cL x I');have m':(i:V)-(p:V)<=4095:=M
     rotate_left
     ·have m':(i:V)-(p:V)<=4095:=M;have N9:(a:V)<257:=M;have iL:((p:V) != -1)=true:=by rw [yo];omega
      have z:=T (sB (by rw [L.out];omega) hh x d);have Ha:=T (CH A n c B p i _ _ (HR _ m) M M hn);have N':G (tx bs p=C5 (gp bs p (D0 bs i))):=by
       unfold tx;rw [qk Q.out.2.1,Q.out.2.2.1];rfl
      have M':=wY bs p i;have D':G (C5 (gp bs p (D0 bs i))+1<=(p:V)):=by
       cases h:gp bs p (D0 bs i)
       ·simp [C5,Hid]
       ·have:=(YI h).1;simp only [C5,Hid];omega
      have u':G (-1<=C5 (gp bs p (D0 bs i))):=by
       cases h:gp bs p (D0 bs i)
       ·simp [C5,Hid]
       ·simp only [C5,Hid];omega
      clear d;simp only [C5];go_wp2_with fail;refine zC Ha ?_;intro R hD;have ih:=T (m.trans (hD.below _));clear hD;generalize Z3 bs p i=k at*;have P:=HC R ih.out;have g1:i' R ⟨g,1,none⟩=J (Z D i y):=P.1.cell 1;have z':=E'.zY P.2.2.2.2;obtain⟨ad,rfl,_,G'⟩:=z'.2 M;have P':i' R (ad.add p)=J (e' (C5 (gp bs p (D0 bs i)))):=by
       have h:=G' p _ (by rw [qD,Ng bs i p M];rfl);rw [h,N'.out];rfl
      have S':=j' p i;clear P z' G';by_cases d':a<k
      ·have N6:=j' a k;rw [qk d'] at z;have F:=T z.out.2.2;have ck:G (i-p<=_g i):=by unfold _g Hid;omega
       have Hm:=T (show k<=257 from M');generalize r:C5 (gp bs p (D0 bs i))=pv at*;replace r:=T r;go_wp2;go_roundw
       case rel=>exact⟨p,k,i-p,rfl,xh,zo (Value.int .i64) r.symm,M,Hm,ck,F,ih⟩
       case measure=>have h1:=D'.out;have h2:=u'.out;simp only [intOf];omega
      ·rw [qJ d'] at z;have F:=T z.out.2.2;have ck:G (i-p<=_g i):=by unfold _g Hid;omega
       generalize r:C5 (gp bs p (D0 bs i))=pv at*;replace r:=T r;go_wp2;go_roundw
       case rel=>exact⟨p,a,d1,rfl,rfl,zo (Value.int .i64) r.symm,M,O',ck,F,ih⟩
       case measure=>have h1:=D'.out;have h2:=u'.out;simp only [intOf];omega
    all_goals
     have iL:((p:V) != -1)=true:=by rw [yo];omega
     clear d;simp only [C5];go_wp2;go_ret2;exact⟨a,d1,o,rfl,m⟩
def Qx (w w':I):Prop:= ∀(k:O) (t:TypeId) (b:Array la) (a:O×O),w.heap[k]? =J (Y b t a)->t≠200->t≠3->w'.heap[k]? =J (Y b t a)
theorem Qx.trans {a c:I} (h:Qx a b) (f:Qx b c):Qx a c:=λk t e d g h1 h2=>f k t e d (h k t e d g h1 h2) h1 h2
theorem yF {k:O} (h:w.heap[k]? =some o):k<(w:O):=by
 rcases jE k (w:O) with a|b
 ·exact a
 ·rw [zg b] at h;cases h
theorem Qx.alloc (w:I) (o:Obj):Qx w (w.alloc o):=λk _ _ _ a _ _=>(heap_alloc_old w o (yF a)).trans a
theorem Qx.below (h:r' w w w'):Qx w w':=λk _ _ _ a _ _=>(h.block k (yF a)).trans a
theorem Qx.setCell {d:Array la} {t:TypeId} {c:O×O} (b:w.heap[g]? =J (Y d t c)) (ht:t=200\/t=3) (j:O) (u:la):Qx w (w.setCell ⟨g,j,none⟩ u):=λk h i f a h1 h2=>by
 have e:k≠g:=by
  rintro rfl;rw [b] at a;injection a with a
  injection a with _ a
  subst a;rcases ht with ht|ht
  ·exact h1 ht
  ·exact h2 ht
 exact(jT w ⟨g,j,none⟩ u k e).trans a
theorem Qx.grown {row:Option O} (h:w.grownBy w' row) (i: ∀g,row=some g->(∃f c,w.heap[g]? =J (Y f 3 c))\/ ∃d b,w.heap[g]? =J (.map d b)):Qx w w':=λk t f c a h1 h2=>by
 refine(h.block k (yF a) λe=> ?_).trans a;rcases i k e.symm with⟨l,j,h3⟩|⟨d,b,h3⟩
 ·rw [a] at h3
  injection h3 with h3
  injection h3 with _ h3
  exact h2 h3
 ·rw [a] at h3;cases h3
theorem yk {size:O} {e:TypeId} {f:S la} (h:xp w base e size (Z A n c) n f): ∀g,A.map (·.block)=some g-> ∃j i,w.heap[g]? =J (Y j e i):=by
 intro g a;rcases h.2 with⟨h0,_⟩|⟨k,_,cur,b,_,d,_⟩
 ·injection h0 with h0;rw [h0] at a;cases a
 ·injection b with b;rw [b] at a;injection a with a;subst a;exact⟨_,_,d⟩
theorem UC {D:DataW Unit} {R:la->Option (DataW Unit×S MemPlace)} (h:w.ownsMap prog k R uK n D): ∃b a,w.heap[uK]? =J (.map b a):=by
 obtain⟨b,a,h,_⟩:=h;exact⟨b,a,h⟩
theorem dg {b:Array la} {i:S la} (d:F' w g 200 b) (h:xp w base 3 1 (Z A n c) n i):some g≠A.map (·.block):=by
 intro e;obtain⟨k,j,a⟩:=yk h g e.symm;have f:w.heap[g]? =J (Y b 200):=d;rw [f] at a;injection a with a;injection a with _ a;exact absurd a FV
theorem BJ {b:Array la} {D:DataW Unit} {R:la->Option (DataW Unit×S MemPlace)} (c:F' w g 200 b) (h:w.ownsMap prog k R uK n D):g≠uK:=by
 rintro rfl;obtain⟨f,e,a⟩:=UC h;have d:w.heap[g]? =J (Y b 200):=c;rw [d] at a;cases a
theorem uH {D:DataW Unit} {R:la->Option (DataW Unit×S MemPlace)} (h:xp w base 3 1 (.slice A n c) n d) (f:w.ownsMap prog k R uK m D):A.map (·.block)≠some uK:=by
 intro e;obtain⟨l,i,b⟩:=yk h uK e;obtain⟨j,g,a⟩:=UC f;rw [b] at a;cases a
theorem Eu:(prog.info? 3).map (λi=>(i.zero,i.size,i.bytes))=J (some (e' 0),1,8):=AL
def ub (w:I) (base g:O) (bs:qn) (m:O) (uK:O) (A:q') (c:O) (v:V):Prop:=
 F' w g 200 #[.map (some uK), .slice A (m+1) c]/\base<=g/\base<=uK/\w.ownsMap prog 269 (plainElem prog 3) uK m (LY bs m)/\xp w base 3 1 (.slice A (m+1) c) (m+1) ((PO bs m).map I64++[I64 v])
theorem ub.below {v:V} (h:ub w base g bs m uK A c v) (b:r' w w w'):ub w' base g bs m uK A c v:=by
 obtain⟨h1,h2,h3,h4,h5⟩:=h;refine⟨h1.below b h1.lt,h2,h3,X3 h4 (b.block _ h4.lt),vT h5 λa e=>b.block _ ?_⟩;obtain⟨i,f,d⟩:=yk h5 _ (by rw [e];rfl);exact yF d
theorem BX {c1:O} {d:q'} (h:_k w base g bs m uK A c) (q:base<=(w:O)) (o:xp b base 3 1 (Z d (m+1) c1) (m+1) ((PO bs m).map I64++[I64 (-1)])) (j:(w (Y #[e' (-1)] 3)).grownBy b (A.map (·.block))):
  ub (b.setCell ⟨g,1,none⟩ (Z d (m+1) c1)) base g bs m uK d c1 (-1)/\r' base w (b.setCell ⟨g,1,none⟩ (Z d (m+1) c1))/\Qx w (b.setCell ⟨g,1,none⟩ (Z d (m+1) c1))/\F' b g 200 #[.map (some uK),Z A m c]:=by
 obtain⟨h1,h2,h3,h4,h5⟩:=h;have n:F' (w (Y #[e' (-1)] 3)) g 200 #[.map (some uK),Z A m c]:=h1.alloc _;have i:=h5.alloc (Y #[e' (-1)] 3);have r:=h4.alloc (Y #[e' (-1)] 3);have f:=n.grown j (dg n i);have l:=r.kept j (λe=>uH i r e.symm);refine⟨⟨(f.zh 1 (Z d (m+1) c1)),h2,h3,l.setCell (BJ f l).symm _,vT o λa s=> ?_⟩, ?_, ?_,f⟩
 ·refine jT b ⟨g,1,none⟩ _ a.block ?_;intro e;exact dg f o (by rw [s];exact zo _ e.symm)
 ·have u:r' base w (w (Y #[e' (-1)] 3)):=(qZ _ _).alloc q _;exact(zG u j i (qv q s8)).setCell h2 _
 ·refine((Qx.alloc w _).trans (Qx.grown j λk t=> .inl ?_)).trans (Qx.setCell f (.inl rfl) _ _);exact yk i k t
theorem pW {a:I} (h:r' B a w) (n:O):r' B a (w.drewN n):=⟨h.os,h.tape,h.output,h.size,h.block⟩
theorem Cb (h:ub w base g bs m uK A c v) (a:tx bs m=v) (b:U bs<m+3):_k w base g bs (m+1) uK A c:=by
 obtain⟨h1,h2,h3,h4,h5⟩:=h;refine⟨h1,h2,h3, ?_, ?_⟩
 ·have e:LY bs (m+1)=LY bs m:=by unfold LY;rw [qJ M];cases m<;>rfl
  rw [e];exact h4.mono (jv m)
 ·rw [fD,qg,a];exact h5
theorem EU {w':I} (h:ub w base g bs m uK A c v) (f:tx bs m=v) (i:w'.ownsMap prog 269 (plainElem prog 3) uK (m+1) (LY bs (m+1))) (d:w.grownBy w' (some uK)):_k w' base g bs (m+1) uK A c:=by
 obtain⟨h1,h2,h3,h4,h5⟩:=h;refine⟨h1.grown d (λe=>BJ h1 h4 (zy e)),h2,h3,i, ?_⟩;rw [fD,qg,f];refine vT h5 λa b=>d.block _ ?_ ?_
 ·obtain⟨l,k,j⟩:=yk h5 _ (by rw [b];rfl);exact yF j
 ·intro e;exact uH h5 h4 (by rw [b];exact e)
theorem tl {b:O} (u:V) (h:ub w base g bs m uK b c v):ub (w.setCell ⟨b,m,none⟩ u) base g bs m uK b c u/\Qx w (w.setCell ⟨b,m,none⟩ u)/\base<=b:=by
 obtain⟨h1,h2,h3,h4,h5⟩:=h;have j:some g≠some b:=dg h1 h5;have i:some b≠some uK:=uH h5 h4;obtain⟨l,k,f⟩:=yk h5 b rfl;refine⟨⟨h1.far (p:=⟨b,m,none⟩) (λe=>j (zo _ e)) _,h2,h3,h4.setCell (a:=⟨b,m,none⟩) (λe=>i (zo _ e.symm)) _, ?_⟩,Qx.setCell f (.inr rfl) _ _, ?_⟩
 ·have h:=(h5.stored m u).1;rw [Qh _ _ (by simp [PX])] at h;simpa [PX,I64] using h
 ·rcases h5.2 with⟨h0,_⟩|⟨o,_,_,d,n,_⟩
  ·cases h0
  ·simp only [Ql,Option.some.injEq,Addr.mk.injEq,and_true] at d;omega
theorem F4 (A:q') (n c B base i g uK ih:O) (hh:q') (bs:qn) (w:I) (h:E' w B 1 A n (bs.map B8)) (hB:B<=base) (E:base<=(w:O)) (hi:i<n) (hn:n<4294967296) (hC:_k w base g bs i uK hh ih):
  xG 125 #[.pointer g, .slice A n c,i] w λe w'=>(∃v,e= .returned v)/\(∃A' c',_k w' base g bs (i+1) uK A' c')/\r' base w w'/\Qx w w':=by
 have s:=h.len;have C:=T hC;have H:=T h;have L:=T s;obtain⟨i0,X,cY,ck,m'⟩:=xt Eu;have g1:i' w ⟨g,1,none⟩=J (.slice hh i ih):=C.out.1.cell 1;have D':i+1<=maxLen:=SJ;have z':(i+1)*8<=140737488355328:=M;clear hC h s;by_cases hs:n<i+3
 focus
  have J':(n:V)<(i:V)+3:=M;have Hp:G (tx bs i= -1):=by unfold tx;rw [qJ (by rw [L.out];omega)];rfl
 rotate_left
 focus
  have K:G (∀W,r' base w W->base<=(W:O)->xG 175 #[.slice A n c,i] W λe w'=>e= .returned (k3 (D0 bs i))/\r' (W:O) W w'):=λW hW M'=>
   WB A n c B i _ W (H.below (hW.mono hB)) (qv hB M') M M
  have HL:G (∀(W:I) (l:q') (c1 q:O) (v:V),ub W base g bs i uK l c1 v->(Instr.lookup 198 (.map (some uK)) (k3 (D0 bs i)) true).run prog (W.drewN q)= .ok (.tuple #[(((gp bs i (D0 bs i)).getD 0:O):V), .bool (gp bs i (D0 bs i)).isSome]) (W.drewN q)):=λW l c1 q v hW=>
   look_eq hW.2.2.2.1 (show(W.drewN q).heap[uK]? =W.heap[uK]?from rfl) _
  have hz:=(jb MQ).1;obtain⟨m,o,f,d⟩: ∃m o f:O,k3 (D0 bs i)= .agg #[.int .u8 m, .int .u8 o, .int .u8 f]:=⟨_,_,_,rfl⟩;have Hk:=T (My (D0 bs i));rw [d] at K HL Hk;clear d;have G':G (LY bs (i+1)=(LY bs i).put (kl3 (D0 bs i)) (.lit (.int .i64 (i:V)))):=by
   show(if i+3<=U bs then _ else _)=_;rw [qk (by rw [L.out];omega)]
  have d':G (tx bs i=C5 (gp bs i (D0 bs i))):=by unfold tx;rw [qk (by rw [L.out];omega)];rfl
 rotate_left
 all_goals
  go_in;go_wp2_with (at_builtin;refine qF _ rfl (.tmp 13) (.tmp 14) 62 rfl base 3 i0 () 1 8 jj X cY ck m' rfl M hh i ih _ rfl (C.out.2.2.2.2.alloc _) ((w:O)+1) w 1 1 [.int .i64 (-1)] rfl (zU _ _ _) (IB rfl) D' z' (qv E s8) ?_;intro l c1 cL P iv u';have F:=T (BX C E P iv);have f1:=F.out.2.2.2.frozen 1;have z1:i' cL ⟨g,1,none⟩=J (.slice hh i ih):=F.out.2.2.2.cell 1;clear P iv u')
 ·exact qW (v:= .tuple #[]) (by simp [results,results125,go_sem]) rfl ⟨⟨_,rfl⟩,⟨l,c1,Cb F.out.1 Hp (by rw [L.out];omega)⟩,F.out.2.1,F.out.2.2.1⟩
 ·have p':=qv E F.out.2.1.size;generalize cL.setCell ⟨g,1,none⟩ (.slice l (i+1) c1)=w3 at*;refine zC (K _ F.out.2.1 p') ?_;intro u x;replace x:=T x;go_wp2_with fail;have r:ub (u (Y #[.int .u8 m, .int .u8 o, .int .u8 f] 269)) base g bs i uK l c1 (-1):=F.out.1.below (x.alloc x.size _);have cK:r' base w (u (Y #[.int .u8 m, .int .u8 o, .int .u8 f] 269)):=F.out.2.1.trans ((x.alloc x.size _).mono p');have cB:Qx w (u (Y #[.int .u8 m, .int .u8 o, .int .u8 f] 269)):=(F.out.2.2.1.trans (Qx.below x)).trans (Qx.alloc u _);have y:F' (u (Y #[.int .u8 m, .int .u8 o, .int .u8 f] 269)) u 269 #[.int .u8 m, .int .u8 o, .int .u8 f]:=F'.new _ _ _;generalize u (Y #[.int .u8 m, .int .u8 o, .int .u8 f] 269)=a,(u:O)=j at*;have s:=λq=>HL.out a l _ q _ r;have n0:i' a g=J (.map (some uK)):=r.1.cell 0;have n1:i' a ⟨g,1,none⟩=J (.slice l (i+1) c1):=r.1.cell 1;have k0:i' a j=J (.int .u8 m):=y.cell 0;have k1:i' a ⟨j,1,none⟩=J (.int .u8 o):=y.cell 1;have k2:i' a ⟨j,2,none⟩=J (.int .u8 f):=y.cell 2;revert r cK cB y;refine yb ?_;intro r cK cB y;clear f1 z1 p';cases iL:gp bs i (D0 bs i)
  focus
   rw [iL] at s d';simp only [Option.getD_none,Xz] at s;clear iL;go_quiet (fail);go_wp2_with fail;have t:G (ub (a.drewN nq) base g bs i uK l c1 (-1)):=r.out;have qj:G (r' base w (a.drewN nq)):=pW cK _;have T6:G (Qx w (a.drewN nq)):=cB.out;have n0:i' (a.drewN nq) g=J (.map (some uK)):=t.out.1.cell 0;have D:G (F' (a.drewN nq) j 269 #[.int .u8 m, .int .u8 o, .int .u8 f]):=y.out;have k0:i' (a.drewN nq) j=J (.int .u8 m):=D.cell 0;have k1:i' (a.drewN nq) ⟨j,1,none⟩=J (.int .u8 o):=D.cell 1;have k2:i' (a.drewN nq) ⟨j,2,none⟩=J (.int .u8 f):=D.cell 2;clear s;generalize a.drewN nq=z at*
  rotate_left
  focus
   rename_i p;rw [iL] at s d';simp only [Zv,Xq] at s;clear iL;obtain⟨b,rfl,I'⟩: ∃b,l=some ⟨b,0,none⟩/\base<=b:=by
    rcases r.out.2.2.2.2.2 with⟨_,h0⟩|⟨b,cap,cur,hv,hb,_⟩
    ·omega
    ·simp only [Ql] at hv;exact⟨b,hv.1,hb⟩
   have rc:i' a ⟨b,i,none⟩=J (.int .i64 (-1)):=by
    rw [r.out.2.2.2.2.cellAt i M,qm (by simp [PX])];simp [PX,I64]
   have rf:=r.out.2.2.2.2.frozenAt i;have N9:(i:V)<(i:V)+1:=M;go_quiet (fail);go_wp2_with fail;have S6:=T (tl (p:V) (show ub (a.drewN nq) base g bs i uK b c1 (-1) from r.out));have N6:j≠b:=by
    intro e;obtain⟨cs,fr,hc⟩:=yk r.out.2.2.2.2 b rfl;have N:a.heap[j]? =J (Y #[.int .u8 m, .int .u8 o, .int .u8 f] 269):=y.out;rw [e,hc] at N;injection N with N;injection N with _ N;exact absurd N FV
   have t:=T S6.out.1;have qj:G (r' base w ((a.drewN nq).setCell ⟨b,i,none⟩ p)):=(pW cK _).setCell I' _;have T6:=T ((show Qx w (a.drewN nq) from cB.out).trans S6.out.2.1);have n0:i' ((a.drewN nq).setCell ⟨b,i,none⟩ p) g=J (.map (some uK)):=t.out.1.cell 0;have D:G (F' ((a.drewN nq).setCell ⟨b,i,none⟩ p) j 269 #[.int .u8 m, .int .u8 o, .int .u8 f]):=(show F' (a.drewN nq) j _ _ from y.out).far N6 _;have k0:i' ((a.drewN nq).setCell ⟨b,i,none⟩ p) j=J (.int .u8 m):=D.cell 0;have k1:i' ((a.drewN nq).setCell ⟨b,i,none⟩ p) ⟨j,1,none⟩=J (.int .u8 o):=D.cell 1;have k2:i' ((a.drewN nq).setCell ⟨b,i,none⟩ p) ⟨j,2,none⟩=J (.int .u8 f):=D.cell 2;clear s;generalize (a.drewN nq).setCell ⟨b,i,none⟩ p=z at*
  rotate_left
  all_goals
   go_still_tail 6,AL;have Q:G (z.drew.ownsMap prog 269 (plainElem prog 3) uK i (LY bs i)):=t.out.2.2.2.1;go_wp2_with (at_mapUpdate;refine wpList_mapUpdate_own _ rfl _ _ _ 198 rfl 269 3 Mx underlying198 _ uK i (LY bs i) rfl Q SJ _ _ (kl3 (D0 bs i)) rfl rfl Hk (.lit (.int .i64 (i:V))) [] (plainElem_int yu (WalkArith.wf_i64 M)) ?_;intro w7 R ln);rw [<-G'.out] at R
  ·have C7:ub z.drew base g bs i uK l c1 (-1):=t.out;go_end0;exact⟨⟨_,rfl⟩,⟨l,c1,EU C7 (by rw [d'.out];rfl) R ln⟩,qj.drew.grown ln (qv E qj.size) (λk d=>by injection d with d;rw [<-d];exact t.out.2.2.1),(show Qx w z.drew from T6.out).trans (Qx.grown ln λk d=> .inr (by injection d with d;rw [<-d];exact UC Q))⟩
  ·have C7:ub z.drew base g bs i uK b c1 ((p:V)):=t.out;go_end0;exact⟨⟨_,rfl⟩,⟨_,c1,EU C7 (by rw [d'.out];rfl) R ln⟩,qj.drew.grown ln (qv E qj.size) (λk d=>by injection d with d;rw [<-d];exact t.out.2.2.1),(show Qx w z.drew from T6.out).trans (Qx.grown ln λk d=> .inr (by injection d with d;rw [<-d];exact UC Q))⟩
end
section
open Go.Maps
variable {A:q'}{B uK b base c g i m n:O}{W a w w':I}{bs:qn}{d f:S la}{e:TypeId}{o:Obj}
def ka (t:O×O×O):S Value:=[gR (t.1:V),e' (t.2.1:V),e' (t.2.2:V)]
def QN (l:S (O×O×O)):S Value:=(l.map ka).flatten
theorem Ua (a b:S (O×O×O)):QN (a++b)=QN a++QN b:=by simp [QN]
theorem BV (t:O×O×O):QN [t]=ka t:=by simp [QN]
theorem Ed:(prog.info? 193).map (λi=>(i.zero,i.size,i.bytes))=J (some (.agg #[gR 0,(),()]),3,24):=AL
theorem Pb:(prog.info? 193).map (·.size)=some 3:=AL
theorem Wc (t:O×O×O): ∀u∈ka t,u.oneCell'=true:=by
 intro u a;simp only [ka,qL,xj,Ze] at a;rcases a with rfl|rfl|rfl<;>rfl
theorem BY (w:I) (t:O×O×O) (a:TypeId):E' (w (Y (ka t).toArray a)) ((w:O)+1) 3 w 1 (ka t):=by
 refine⟨rfl,λ_=>⟨_,rfl,ze _,λj u b=> ?_⟩⟩;have e:((w:O):Addr).add j=⟨w,j,none⟩:=by unfold Addr.add;split<;>simp_all
 rw [e,(F'.new w a (ka t).toArray).cell j];simpa using b
theorem BK (h:xp w base 193 3 (Z A n c) n d) (f:Qx w w'):xp w' base 193 3 (Z A n c) n d:=by
 refine vT h λa e=> ?_;obtain⟨i,g,b⟩:=yk h _ (by rw [e];rfl);rw [f _ _ _ _ b FV FV,b]
theorem X4 {size:O} {b:S la} (h:xp w base e size (Z A n c) n b) (g:r' w w w'):xp w' base e size (Z A n c) n b:=by
 refine vT h λa d=>g.block _ ?_;obtain⟨j,i,f⟩:=yk h _ (by rw [d];rfl);exact yF f
def Dy (w w':I):Prop:= ∀(k:O) (o:Obj),w.heap[k]? =some o->(∀(a:Array la) (b:O×O),o≠ .cells a 193 b)->w'.heap[k]? =some o
theorem _k.keep (h:_k w base g bs m uK A c) (b:Dy w w'):_k w' base g bs m uK A c:=by
 obtain⟨h1,h2,h3,h4,h5⟩:=h;refine⟨b g _ h1 (λf d e=>by injection e with _ e;exact absurd e FV),h2,h3, ?_,vT h5 λa k=> ?_⟩
 ·obtain⟨n,l,j⟩:=UC h4;exact X3 h4 ((b uK _ j (λf d e=>by cases e)).trans j.symm)
 ·obtain⟨f,d,i⟩:=yk h5 _ (by rw [k];rfl);exact(b _ _ i (λf d e=>by injection e with _ e;exact absurd e FV)).trans i.symm
theorem Cc {d:Array la} (f:F' w b 193 d) (c:Array la):Dy w (w.setRow b c):=λk o a e=>by
 have h:k≠b:=by
  rintro rfl;have g:w.heap[k]? =J (Y d 193):=f;rw [g] at a;injection a with a
  exact e _ _ a.symm
 exact(QO w b k c h).trans a
theorem ED (h:xp w base 193 3 (Z A n c) n f) (g:w.grownBy w' (A.map (·.block))):Dy w w':=λk o a b=>by
 refine(g.block k (yF a) λe=> ?_).trans a;obtain⟨j,i,d⟩:=yk h k e.symm;rw [d] at a;injection a with a
 exact b _ _ a.symm
theorem Ef (w:I) (o:Obj):Dy w (w.alloc o):=λk _ a _=>(heap_alloc_old w o (yF a)).trans a
theorem Dy.trans {b c:I} (h:Dy a b) (e:Dy b c):Dy a c:=λk o f d=>e k o (h k o f d) d
theorem tL {size:O} (h:xp w base e size (Z A n c) n f) (i: ∀a,A=some a->a.block≠b) (d:Array la):xp (w.setRow b d) base e size (Z A n c) n f:=
 vT h λa g=>QO w b _ d (i a g)
theorem lJ {b0 h:O} {b e:q'} {l:S la} (j:r' b0 w W) (d:b0<=(W:O)) (k:_k W b0 g bs i uK b h) (c:xp W b0 193 3 (Z e m n) m l) (f:(W.alloc o).grownBy a (e.map (·.block))):r' b0 w a/\_k a b0 g bs i uK b h:=
 ⟨zG (j.alloc d o) f (c.alloc o) (qv d s8),k.keep ((Ef W o).trans (ED (c.alloc o) f))⟩
theorem MZ (A:q') (n c B:O) (bs:qn) (w:I) (h:E' w B 1 A n (bs.map B8)) (F:B<=(w:O)) (hn:n<4294967296):
  xG 87 #[Z A n c] w λe w'=> ∃A' c',e=t' (Z A' (U (Bs bs)) c')/\xp w' w 193 3 (Z A' (U (Bs bs)) c') (U (Bs bs)) (QN (Bs bs))/\r' w w w':=by
 have hl:=h.len;have H:=T h;have L:=T hl;obtain⟨i0,D',z',G',N6⟩:=xt Ed;have hz:=(jb (show(prog.info? 193).map (λi=>(i.zero,i.size))=J (some (.agg #[gR 0,(),()]),3) by kernel_rfl)).1;have hmm:= @run_makeMap prog;clear h hl;go_in;go_wp2_with fail;have N9:_k ((w.alloc (.map #[] 0)) (Y #[.map (some (w:O)),z8] 200)) w ((w:O)+1) bs 0 w none 0:=
  ⟨(by simpa using F'.new (w.alloc (.map #[] 0)) 200 #[.map (some (w:O)),z8]),jv _,qx _,(World.ownsMap_made w prog 269 _).alloc _,qP _ _ _ 1⟩
 have P':r' w w ((w.alloc (.map #[] 0)) (Y #[.map (some (w:O)),z8] 200)):=(j1 _).alloc s8 _;generalize ((w.alloc (.map #[] 0)) (Y #[.map (some (w:O)),z8] 200))=w0 at*;replace N9:=T N9;replace P':=T P';clear hmm;go_loopw [4,5] (λv4 ln wr=> ∃(i r:O) (l:q') (d:S (O×O×O)),v4=Z l d r/\ln=(i:la)/\i<=n/\U d<=i/\G (d++wS bs i=Bs bs)/\G (r' w w wr)/\G (∃s q,_k wr w ((w:O)+1) bs i w s q)/\G (xp wr w 193 3 (Z l d r) d (QN d))) (λ_ ln _=>n-(intOf ln).toNat)
 ·exact⟨0,0,none,[],rfl,rfl,M,qx _,rfl,P',⟨none,0,N9⟩,qP _ _ _ 3⟩
 ·obtain⟨i,r,l,d,rfl,rfl,hi,hd,cB,qj,HC,HO⟩:=hrel;by_cases m':i<n
  ·have hlt':(i:V)<n:=M;obtain⟨s,q,hC⟩:=HC.out;replace hC:=T hC;clear HC;have Z':=H.below (qj.mono F);obtain⟨ad,rfl,hcell⟩:=VZ Z' M;have cx:=hcell i (by rw [L.out];exact m');generalize U':(bs.getD i 0).toNat=x at*;replace U':=T U';clear hcell Z';have Y':=qj.size;have X: ∀a,l=some a->a.block≠(wr:O):=λa ha e=>by
    obtain⟨cs,fr,hc⟩:=yk HO a.block (by rw [ha];rfl);have:=yF hc;omega
   replace X:=T X;go_wp2_with fail;have t:r' w w (wr (Y #[gR (x:V),(),()] 193)):=qj.alloc Y' _;have cY:_k (wr (Y #[gR (x:V),(),()] 193)) w ((w:O)+1) bs i w s q:=hC.below (j1 _);have J':=X4 HO ((qZ (wr:O) wr).alloc (qx _) (Y #[gR (x:V),(),()] 193));have iL:F' (wr (Y #[gR (x:V),(),()] 193)) (wr:O) 193 #[gR (x:V),(),()]:=F'.new _ _ _;generalize wr (Y #[gR (x:V),(),()] 193)=w1,(wr:O)=g at*;revert t cY J' iL;refine yb ?_;intro t cY J' iL;refine(EP (some ad) n c B w i ((w:O)+1) w q s bs w1 (H.below (t.mono F)) (qv F t.size) hi M cY).mono ?_;rintro e f ⟨b,d1,N,rfl,P⟩;have M':=T (t.trans (P.mono t.size));have I':=T (cY.below P);have u':=T (X4 J' P);have E:=T (iL.below P iL.lt);replace N:=T N;clear P qj HO;by_cases h3:3<=b
   ·have h3':(3:V)<=b:=M;have p:G (3<=(ee bs i).1/\(ee bs i)=(b,d1)):=by
     rcases N.out with⟨h,e⟩|⟨_,e⟩
     ·exact⟨h,e.symm⟩
     ·injection e with e1 _;omega
    have HS:G (R3 bs i=b):=by
     unfold R3;rw [qk p.out.1,p.out.2];rfl
    have cK:G (sa bs i=(0,b,d1)):=by
     unfold sa;rw [qk p.out.1,p.out.2];rfl
    have Hend:i+b<=n:=by
     have h:=mo bs i (by rw [L.out];exact m');rw [HS.out,L.out] at h;exact h
    have W:(f.setRow g #[gR 0,b,d1]:O)=(f:O):=by rw [Xk]
    have o:G (r' w w (f.setRow g #[gR 0,b,d1])):=zu M' Y' _;have cL:G (_k (f.setRow g #[gR 0,b,d1]) w ((w:O)+1) bs i w s q):=I'.keep (Cc E _);have uK:G (xp (f.setRow g #[gR 0,b,d1]) w 193 3 (Z l d r) d (QN d)):=tL u' X _;have ck:G (F' (f.setRow g #[gR 0,b,d1]) g 193 #[gR 0,b,d1]):=E.row _;go_wp2_with (first
     |(refine ja rfl 193 _ rfl g rfl 193 #[gR 0,e' (b:V),e' (d1:V)] (0,0) _ ck jc rfl Pb ?_)
     |(refine qC rfl 193 _ _ rfl g #[gR 0,e' (b:V),e' (d1:V)] rfl rfl 193 #[gR (x:V),e' 0,e' 0] E Pb rfl (by simp [Value.oneCell']) ?_)
     |(at_builtin;refine qF _ rfl (.tmp 35) (.tmp 37) 135 rfl w 193 i0 (.agg #[gR 0,e' 0,e' 0]) 3 24 underlying135 D' z' G' N6 rfl M l d r _ rfl (uK.alloc _) ((f.setRow g #[gR 0,e' (b:V),e' (d1:V)]).heap.size+1) (some ⟨(f.setRow g #[gR 0,e' (b:V),e' (d1:V)]).heap.size,0,none⟩) 1 1 (ka (0,b,d1)) (by first|rfl|(rw [W];rfl)) (BY _ (0,b,d1) _) (Wc _) SJ M (qv o.size s8) ?_;intro ih D w3 m R OX;have iv:=T (lJ o o.size cL uK R);clear R OX;replace m:=T m))
    have X':G ((d++[(0,b,d1)])++wS bs (i+b)=Bs bs):=by
     have h:=cB.out;rw [H8 bs i (by rw [L.out];exact m'),cK.out,HS.out] at h;rw [jY];exact h
    have S':G (xp w3 w 193 3 (Z ih (U d+1) D) (U d+1) (QN (d++[(0,b,d1)]))):=by
     rw [Ua,BV];exact m.out
    clear W cB N;go_loopw [5,40] (λln C wr=> ∃(k K:O) (u:q'),ln=e' ((i+k:O):V)/\C=(k:la)/\k<=b/\G (r' w w wr)/\G (_k wr w ((w:O)+1) bs (i+k) w u K)/\G (xp wr w 193 3 (Z ih (U d+1) D) (U d+1) (QN (d++[(0,b,d1)])))) (λ_ C _=>b-(intOf C).toNat)
    ·exact⟨0,q,s,rfl,rfl,M,iv.out.1,iv.out.2,S'⟩
    ·obtain⟨k,K,u,rfl,rfl,hk,j,y,z⟩:=hrel;by_cases hkl:k<b
     ·have hkl':(k:V)<(b:O):=M;have d':=T (F4 (some ad) n c B w (i+k) ((w:O)+1) w K u bs wr (H.below (j.mono F)) F j.size M hn y);go_wp2_with fail;refine d'.mono ?_;rintro e w4 ⟨⟨v,rfl⟩,⟨A4,c4,hh⟩,p',Q⟩;have N':=T (j.trans p');have O':=T (BK z Q);replace hh:=T hh;clear p' Q j z y;go_wp2_with fail;refine xk ?_;exact⟨k+1,c4,A4,xh,xh,M,N',hh,O'⟩
     ·have Q':b=k:=M;subst Q';go_wp2_with fail;refine xk ?_;exact⟨i+b,D,ih,d++[(0,b,d1)],s8,xh,M,SZ,X',j,⟨_,_,y⟩,by simpa [Hid] using z.out⟩
   ·have p:G ((ee bs i).1<3):=by
     rcases N.out with⟨h,e⟩|⟨h,_⟩
     ·rw [<-e] at h;exact absurd h h3
     ·exact h
    have HS:G (R3 bs i=1):=by
     unfold R3;rw [qJ (by have:=p.out;omega)];rfl
    have cK:G (sa bs i=(x,0,0)):=by
     unfold sa;rw [qJ (by have:=p.out;omega),U'.out];rfl
    have Hend:i+1<=n:=by
     have h:=mo bs i (by rw [L.out];exact m');rw [HS.out,L.out] at h;exact h
    have W:(f:O)=(f:O):=rfl;have o:=T M'.out;have cL:=T I'.out;have uK:=T u'.out;have ck:=T E.out;go_wp2_with (first
     |(refine ja rfl 193 _ rfl g rfl 193 #[gR (x:V),e' 0,e' 0] (0,0) _ ck jc rfl Pb ?_)
     |(refine qC rfl 193 _ _ rfl g #[gR 0,e' (b:V),e' (d1:V)] rfl rfl 193 #[gR (x:V),e' 0,e' 0] E Pb rfl (by simp [Value.oneCell']) ?_)
     |(at_builtin;refine qF _ rfl (.tmp 35) (.tmp 37) 135 rfl w 193 i0 (.agg #[gR 0,e' 0,e' 0]) 3 24 underlying135 D' z' G' N6 rfl M l d r _ rfl (uK.alloc _) ((f:O)+1) (some ⟨(f:O),0,none⟩) 1 1 (ka (x,0,0)) (by first|rfl|(rw [W];rfl)) (BY _ (x,0,0) _) (Wc _) SJ M (qv o.size s8) ?_;intro ih D w3 m R OX;have iv:=T (lJ o o.size cL uK R);clear R OX;replace m:=T m))
    have X':G ((d++[(x,0,0)])++wS bs (i+1)=Bs bs):=by
     have h:=cB.out;rw [H8 bs i (by rw [L.out];exact m'),cK.out,HS.out] at h;rw [jY];exact h
    have S':G (xp w3 w 193 3 (Z ih (U d+1) D) (U d+1) (QN (d++[(x,0,0)]))):=by
     rw [Ua,BV];exact m.out
    clear W cB N;go_loopw [5,40] (λln C wr=> ∃(k K:O) (u:q'),ln=e' ((i+k:O):V)/\C=(k:la)/\k<=1/\G (r' w w wr)/\G (_k wr w ((w:O)+1) bs (i+k) w u K)/\G (xp wr w 193 3 (Z ih (U d+1) D) (U d+1) (QN (d++[(x,0,0)])))) (λ_ C _=>1-(intOf C).toNat)
    ·exact⟨0,q,s,rfl,rfl,M,iv.out.1,iv.out.2,S'⟩
    ·obtain⟨k,K,u,rfl,rfl,hk,j,y,z⟩:=hrel;by_cases hkl:k<1
     ·have d':=T (F4 (some ad) n c B w (i+k) ((w:O)+1) w K u bs wr (H.below (j.mono F)) F j.size M hn y);go_wp2_with fail;refine d'.mono ?_;rintro e w4 ⟨⟨v,rfl⟩,⟨A4,c4,hh⟩,p',Q⟩;have N':=T (j.trans p');have O':=T (BK z Q);replace hh:=T hh;clear p' Q j z y;go_wp2_with fail;refine xk ?_;exact⟨k+1,c4,A4,xh,xh,M,N',hh,O'⟩
     ·have Q':k=1:=M;subst Q';go_wp2_with fail;refine xk ?_;exact⟨i+1,D,ih,d++[(x,0,0)],s8,xh,M,SZ,X',j,⟨_,_,y⟩,by simpa [Hid] using z.out⟩
  ·obtain rfl:i=n:=M;have He:G (d=Bs bs):=by
    have h:=cB.out;rw [NG bs i (by rw [L.out];exact qx _),jx] at h;exact h
   go_wp2;go_ret;have e:=He.out;subst e;exact⟨l,r,rfl,HO,qj⟩
theorem nZ (l:S (O×O×O)):U (QN l)=U l*3:=by
 induction l with
 |nil=>rfl
 |cons a l b=>
  rw [show QN (a::l)=ka a++QN l by simp [QN]];rw [qK,b,qf];simp only [ka,qf,zF];omega
theorem UA: ∀(l:S (O×O×O)) (j f:O) (h:j<U l),f<3->(QN l)[j*3+f]? =(ka l[j])[f]?
 |a::l,0,f,_,b=>by
  rw [show QN (a::l)=ka a++QN l by simp [QN],jd,jL,q_ (by simp only [ka,qf,zF];omega)]
  rfl
 |a::l,j+1,f,h,b=>by
  rw [show QN (a::l)=ka a++QN l by simp [QN],qm (by simp only [ka,qf,zF];omega)]
  rw [show(j+1)*3+f-U (ka a)=j*3+f by simp only [ka,qf,zF];omega]
  exact UA l j f _ b
theorem nJ {w:I} {n:O} {A:q'} {l:S (O×O×O)} (h:E' w B 3 A n (QN l)) (j:O) (c:j<U l): ∃a,A=some a/\a.block<B/\i' w (a.add (j*3))=J (gR ((l[j].1:O):V))/\i' w (a.add (j*3+1))=J (((l[j].2.1:O):V):la)/\i' w (a.add (j*3+2))=J (((l[j].2.2:O):V):la):=by
 have e:=h.1;rw [nZ] at e;obtain⟨a,f,d,b⟩:=h.2 M;have h0:=UA l j 0 c M;have h1:=UA l j 1 c M;have h2:=UA l j 2 c M;exact⟨a,f,d,b _ _ (by simpa [ka] using h0),b _ _ h1,b _ _ h2⟩
theorem F6 (d len a:V) (w:I):xG 202 #[.agg #[gR d,len,a]] w λe w'=>e=t' (.bool (YB d len a))/\r' w w w':=by
 have c: ∀o,r' w w (w.alloc o):=λo=>j1 o;replace c:=T c;by_cases h0:len=0
 ·have b:G (YB d len a=(a==0)):=by
   unfold YB;rw [qk h0,Hid,yx,zd,yp]
  subst h0;go_enter JP,ZW;go_wp2;go_ret;exact⟨j7 (by rw [b.out]),c.out _⟩
 have i:(len==0)=false:=by rw [zE];exact h0
 have f:G (YB d len a=decide (d=0/\3<=len/\len<=257/\1<=a/\a<=4095)):=by unfold YB;rw [qJ h0];rfl
 by_cases h1:d=0
 case neg=>
  have b:G (YB d len a=false):=by
   rw [Hid,f.out,zW];intro h;omega
  have g:(d==0)=false:=by rw [zE];exact h1
  clear h1 h0;go_enter JP,ZW;go_wp2;go_ret;exact⟨j7 (by rw [b.out]),c.out _⟩
 subst h1;by_cases h2:(3:V)<=len
 case neg=>
  have b:G (YB 0 len a=false):=by
   rw [Hid,f.out,zW];intro h;omega
  have g:len<(3:V):=M;clear h2 h0;go_enter JP,ZW;go_wp2;go_ret;exact⟨j7 (by rw [b.out]),c.out _⟩
 by_cases h3:len<=(257:V)
 case neg=>
  have b:G (YB 0 len a=false):=by
   rw [Hid,f.out,zW];intro h;omega
  have g:(257:V)<len:=M;clear h3 h0;go_enter JP,ZW;go_wp2;go_ret;exact⟨j7 (by rw [b.out]),c.out _⟩
 by_cases h4:(1:V)<=a
 case neg=>
  have b:G (YB 0 len a=false):=by
   rw [Hid,f.out,zW];intro h;omega
  have g:a<(1:V):=M;clear h4 h0;go_enter JP,ZW;go_wp2;go_ret;exact⟨j7 (by rw [b.out]),c.out _⟩
 by_cases h5:a<=(4095:V)
 case neg=>
  have b:G (YB 0 len a=false):=by
   rw [Hid,f.out,zW];intro h;omega
  have g:(4095:V)<a:=M;clear h5 h0;go_enter JP,ZW;go_wp2;go_ret;exact⟨j7 (by rw [b.out];first|rfl|(simp;omega)),c.out _⟩
 have b:G (YB 0 len a=true):=by
  rw [Hid,f.out,zd];omega
 clear h0;go_enter JP,ZW;go_wp2;go_ret;exact⟨j7 (by rw [b.out]),c.out _⟩
theorem F7 {w:I} {n:O} {A:q'} {l:S (O×O×O)} (h:E' w B 3 A n (QN l)) (j:O) (c:j<U l): ∃a,A=some a/\a.block<B/\i' w (a.add (j*3))=J (gR ((l[j].1:O):V))/\
  w.cell? ⟨(a.add (j*3)).block,(a.add (j*3)).off+1,none⟩=J (((l[j].2.1:O):V):la)/\i' w ⟨(a.add (j*3)).block,(a.add (j*3)).off+2,none⟩=J (((l[j].2.2:O):V):la):=by
 obtain⟨a,b,d,h0,h1,h2⟩:=nJ h j c;rw [<-QZ,show(a.add (j*3)).add 1=⟨(a.add (j*3)).block,(a.add (j*3)).off+1,none⟩ from rfl] at h1;rw [<-QZ,show(a.add (j*3)).add 2=⟨(a.add (j*3)).block,(a.add (j*3)).off+2,none⟩ from rfl] at h2;exact⟨a,b,d,h0,h1,h2⟩
theorem bm {p q r:Prop} {a b:I} (h:p/\q/\r/\r' a a W) (h2:r' W W b):r' a a b:=h.2.2.2.trans (h2.mono h.2.2.2.size)
def itC (t:O×V×V):S Value:=[gR (t.1:V),e' t.2.1,e' t.2.2]
def kR (l:S (O×V×V)):S Value:=(l.map itC).flatten
theorem Mp (l:S (O×V×V)):U (kR l)=U l*3:=by
 induction l with
 |nil=>rfl
 |cons a l b=>
  rw [show kR (a::l)=itC a++kR l by simp [kR]];rw [qK,b,qf];simp only [itC,qf,zF];omega
theorem fJ: ∀(l:S (O×V×V)) (j f:O) (h:j<U l),f<3->(kR l)[j*3+f]? =(itC l[j])[f]?
 |a::l,0,f,_,b=>by
  rw [show kR (a::l)=itC a++kR l by simp [kR],jd,jL,q_ (by simp only [itC,qf,zF];omega)]
  rfl
 |a::l,j+1,f,h,b=>by
  rw [show kR (a::l)=itC a++kR l by simp [kR],qm (by simp only [itC,qf,zF];omega)]
  rw [show(j+1)*3+f-U (itC a)=j*3+f by simp only [itC,qf,zF];omega]
  exact fJ l j f _ b
theorem MP {l:S (O×V×V)} (h:E' w B 3 A n (kR l)) (j:O) (c:j<U l): ∃a,A=some a/\a.block<B/\i' w (a.add (j*3))=J (gR ((l[j].1:O):V))/\
  w.cell? ⟨(a.add (j*3)).block,(a.add (j*3)).off+1,none⟩=J (e' l[j].2.1)/\i' w ⟨(a.add (j*3)).block,(a.add (j*3)).off+2,none⟩=J (e' l[j].2.2):=by
 have e:=h.1;rw [Mp] at e;obtain⟨a,f,d,b⟩:=h.2 M;have h0:=fJ l j 0 c M;have h1:=fJ l j 1 c M;have h2:=fJ l j 2 c M;have c1:=b _ _ h1;have c2:=b _ _ h2;rw [<-QZ,show(a.add (j*3)).add 1=⟨(a.add (j*3)).block,(a.add (j*3)).off+1,none⟩ from rfl] at c1;rw [<-QZ,show(a.add (j*3)).add 2=⟨(a.add (j*3)).block,(a.add (j*3)).off+2,none⟩ from rfl] at c2;exact⟨a,f,d,b _ _ (by simpa [itC] using h0),c1,c2⟩
theorem Oa {b:qn} (h:xp w base 5 1 (Z A n c) n (b.map B8)) (j:O) (g:j<n): ∃a,A=some a/\i' w (a.add j)=J (gR ((b.getD j 0).toNat:V)):=by
 obtain⟨a,f,d⟩:=VZ (E'.zY h) M;have e:=h.1;rw [zH] at e;exact⟨a,f,d j M⟩
theorem Cr {f:I} {b:O} {j:S la} {d:Array la} (g:F' w b 193 d) (h:xp w base 5 1 (Z A n c) n j) (k:(w.alloc o).grownBy f (A.map (·.block))):F' f b 193 d:=by
 refine(g.alloc o).grown k λe=> ?_;obtain⟨l,m,a⟩:=yk h b e.symm;have i:w.heap[b]? =J (Y d 193):=g;rw [i] at a;injection a with a;injection a with _ a;exact absurd a FV
theorem MU (A:q') (c B:O) (f:V) (l:S (O×V×V)) (w:I) (h:E' w B 3 A l (kR l)) (hB:B<=(w:O)) (hl:U l<=100000) (N': ∀t∈l,t.1<256) (hm:f<=9223372036854775807):
  xG 250 #[Z A l c,f] w λe w'=> ∃A' c',e=t' (BA #[Z A' (Yc f l).2.length c',e' (Yc f l).1])/\xp w' w 5 1 (Z A' (Yc f l).2.length c') (Yc f l).2.length ((Yc f l).2.map B8)/\r' w w w':=by
 by_cases cY:f<0
 ·have ck:G (Yc f l=(13,[])):=by unfold Yc;rw [qk cY];rfl
  clear h;go_wp2;go_ret2;rw [ck.out];exact⟨none,0,rfl,qP _ _ _ 1,qZ _ _⟩
 have H:=T h;have O':=T N';have h0:0<=f:=M;have ck:G (Yc f l=Vk f l []):=by unfold Yc;rw [qJ cY];rfl
 obtain⟨i0,hi,N,cL,R⟩:=xt Tj;have hz:=(jb (show(prog.info? 193).map (λi=>(i.zero,i.size))=J (some (.agg #[gR 0,(),()]),3) by kernel_rfl)).1;clear h N' cY;go_wp2;go_loopw [6,13] (λv6 p' wr=> ∃(k y:O) (s:q') (b:qn),v6=Z s b y/\p'=(k:la)/\k<=U l/\U b<=257*k/\G (Vk f (l.drop k) b=Yc f l)/\G (r' w w wr)/\G (xp wr w 5 1 (Z s b y) b (b.map B8))) (λ_ p' _=>U l-(intOf p').toNat)
 ·exact⟨0,0,none,[],rfl,rfl,M,s8,ck.symm,qZ _ _,qP _ _ _ 1⟩
 ·obtain⟨k,y,s,b,rfl,rfl,hk,ho,Hp,F,HO⟩:=hrel;by_cases D':k<U l
  ·have hlt':(k:V)<U l:=M;obtain⟨ad,rfl,hadb,iv,qj,y2⟩:=MP (H.below (F.mono hB)) k D';have OX:=F.size;have I':=O' l[k] (zx D');have Hd:=T (zK D');have g:G (Vk f (l[k]::l.drop (k+1)) b=Yc f l):=by rw [<-Hd.out];exact Hp.out
   clear Hp;obtain⟨t,ht⟩:=zn (l[k]);rw [<-ht] at g iv qj y2 I';clear ht;obtain⟨lt,m,o⟩:=t;simp only at iv qj y2 I';have uK:=λW=>T (F6 (lt:V) m o W);go_wp2_with fail;have D:r' w w (wr (Y #[gR (lt:V),m,o] 193)):=F.alloc OX _;have P:=X4 HO ((qZ (wr:O) wr).alloc (qx _) (Y #[gR (lt:V),m,o] 193));have ih:F' (wr (Y #[gR (lt:V),m,o] 193)) (wr:O) 193 #[gR (lt:V),m,o]:=F'.new _ _ _;generalize wr (Y #[gR (lt:V),m,o] 193)=w1,(wr:O)=z at*;revert D P ih;refine vn ?_;intro D P ih;refine zC (uK w1).out ?_;intro u K;have r:=T (D.trans (K.mono D.size));have cK:=T (X4 P K);have Q:=T (ih.below K ih.lt);have x0:i' u z=J (gR (lt:V)):=Q.cell 0;have x1:i' u ⟨z,1,none⟩=J (m:la):=Q.cell 1;have x2:i' u ⟨z,2,none⟩=J (o:la):=Q.cell 2;have m':=r.size;clear K F HO uK iv qj y2;rw [pY] at g;simp only at g;cases C:YB (lt:V) m o
   ·rw [qk C] at g;clear C;go_wp2;go_ret2;rw [<-g.out];exact⟨none,0,rfl,qP _ _ _ 1,r⟩
   ·rw [qJ (by rw [C];simp)] at g;rcases mc C with⟨rfl,rfl⟩|⟨hlt0,hn3,hn257,hd1,hd4⟩
    ·rw [qJ M] at g;clear C;have u':max (1:V) 0=1:=rfl;rw [u'] at g;by_cases ln:f-(U b:V)<1
     ·rw [qk ln] at g;go_wp2;go_ret2;rw [<-g.out];exact⟨none,0,rfl,qP _ _ _ 1,r⟩
     ·rw [qJ ln,qk rfl] at g;have hlim':(1:V)<=f-(U b:V):=M;go_wp2_with (at_builtin;refine qF _ rfl (.tmp 39) (.tmp 42) 30 rfl w 5 i0 (gR 0) 1 1 qu hi N cL R rfl M s b y _ rfl (cK.alloc _) ((u:O)+1) u 1 1 [gR (lt:V)] rfl (zU _ _ _) (IB rfl) SJ M (qv m' s8) ?_;intro A3 c3 w3 p v cB;have z':=T (zG (r.alloc m' (Y #[gR (lt:V)] 5)) v (cK.alloc _) (qv m' s8));clear v cB;replace p:=T p);go_roundw
      case rel=>
       refine⟨k+1,c3,A3,b++[UInt8.ofNat lt],s8,xh,M,SZ,g,z', ?_⟩;have h:=p.out;rw [show(gR (lt:V):la)=B8 (UInt8.ofNat lt) by unfold B8;rw [zS];congr 2;omega] at h;simpa [Hid] using h
      case measure=>simp [intOf];omega
    ·have Q':lt=0:=M;subst Q';obtain⟨n,rfl⟩: ∃n:O,m=(n:V):=⟨m.toNat,M⟩;obtain⟨d,rfl⟩: ∃n:O,o=(n:V):=⟨o.toNat,M⟩;clear C;have u':max (1:V) (n:V)=(n:V):=M;rw [u'] at g;by_cases N6:(U b:V)<(d:V)
     ·rw [qk N6] at g;go_wp2;go_ret2;rw [<-g.out];exact⟨none,0,rfl,qP _ _ _ 1,r⟩
     ·rw [qJ N6] at g;have hfar':(d:V)<=(U b:V):=M;by_cases ln:f-(U b:V)<(n:V)
      ·rw [qk ln] at g;go_wp2;go_ret2;rw [<-g.out];exact⟨none,0,rfl,qP _ _ _ 1,r⟩
      ·rw [qJ ln,qJ M,zc,zc] at g;have hlim':(n:V)<=f-(U b:V):=M;have hne:((n:V)==0)=false:=by rw [zE];omega
       go_wp2_with fail;have M':decide (U b<d)=false:=by rw [zW];omega
       simp only [M'];clear M';go_loopw [6,46] (λv6 X wr=> ∃(j hh:O) (L:q') (a:qn),v6=Z L a hh/\X=(j:la)/\j<=n/\U a=U b+j/\G (PI d (n-j) a=PI d n b)/\G (r' w w wr)/\G (xp wr w 5 1 (Z L a hh) a (a.map B8))/\G (F' wr z 193 #[gR 0,n,d])) (λ_ X _=>n-(intOf X).toNat)
       ·exact⟨0,y,s,b,rfl,rfl,M,rfl,rfl,r,cK,Q⟩
       ·obtain⟨j,hh,L,a,rfl,rfl,hj,N9,Hc,G',E,iL⟩:=hrel;by_cases hjn:j<n
        ·have hjn':(j:V)<n:=M;have q2:i' wr ⟨z,2,none⟩=J (d:la):=iL.cell 2;obtain⟨q,hq⟩:=zn (U a-d);have hqd:q+d=U a:=M;obtain⟨S',rfl,cq'⟩:=Oa E q M;have U':G (PI d (n-(j+1)) (a++[a.getD q 0])=PI d n b):=by
          have h:=Hc.out;rw [show n-j=(n-(j+1))+1 by omega] at h;rw [hq];exact h
         have HX:G (B8 (a.getD q 0)=gR (((a.getD q 0).toNat:O):V)):=rfl;generalize hx:a.getD q 0=x at*;clear hx hq;have r1:DW ((U a:V)-(d:V))=(q:V):=by rw [show((U a:V)-(d:V))=((q:O):V) by omega,qU];omega
         have r2:(U a:V)-(d:V)=(q:V):=M;have l1:(q:V)<(U a:V):=M;have d':=G'.size;have hob:U a<=257*k+257:=M;have X':=T N9;clear N9;generalize J':x.toNat=xn at*;go_wp2_with (at_builtin;refine qF _ rfl (.tmp 48) (.tmp 57) 30 rfl w 5 i0 (gR 0) 1 1 qu hi N cL R rfl M (some S') a hh _ rfl (E.alloc _) ((wr:O)+1) (wr:O) 1 1 [gR (xn:V)] rfl (zU _ _ _) (IB rfl) SJ M (qv d' s8) ?_;intro A3 c3 w3 p v cB;have z':=T (zG (G'.alloc d' (Y #[gR (xn:V)] 5)) v (E.alloc _) (qv d' s8));have P':=T (Cr iL E v);clear v cB;replace p:=T p);go_roundw
         case rel=>
          refine⟨j+1,c3,A3,a++[x],s8,xh,M,by have:=X'.out;simp;omega,U',z', ?_,P'⟩;have h:=p.out;rw [<-HX.out] at h;simpa [Hid] using h
         case measure=>simp [intOf];omega
        ·have Z':j=n:=M;have He:G (a=PI d n b):=by
          have h:=Hc.out;rw [Z',xO] at h;exact h
         rw [<-He.out] at g;go_wp2_with fail;refine xk ?_;exact⟨k+1,hh,L,a,rfl,xh,M,M,g,G',E⟩
  ·have hkl:k=U l:=M;have He:G (Yc f l=(0,b)):=by
    have h:=Hp.out;rw [hkl,List.drop_length] at h;exact h.symm
   go_wp2;go_ret2;rw [He.out];exact⟨s,y,rfl,HO,F⟩
end
end Go.Proofs.YtfnlfpcfkbdcmaaGreatDoor
