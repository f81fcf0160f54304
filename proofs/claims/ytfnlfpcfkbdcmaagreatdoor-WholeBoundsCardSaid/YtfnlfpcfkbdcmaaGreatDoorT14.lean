import Derived.Test.YtfnlfpcfkbdcmaaGreatDoorT09
import Derived.Test.YtfnlfpcfkbdcmaaGreatDoorT10
set_option linter.unusedSimpArgs false
set_option linter.unusedVariables false
set_option maxRecDepth 100000
set_option maxHeartbeats 0
open Go.Proofs.Tryz
namespace Go.Proofs.YtfnlfpcfkbdcmaaGreatDoor
section
section
open Go.RowKit Go.Shelf
attribute [local go_sem] J4
def QP (a b:O) (A B:I):Prop:= ∀v,(i' A a=some v->i' B a=some v)/\(i' A b=some v->i' B b=some v)
theorem QP.refl (a b:O) (A:I):QP a b A A:=λ_=>⟨id,id⟩
theorem QP.trans {a b:O} {A B C:I} (h:QP a b A B) (k:QP a b B C):QP a b A C:=λv=>⟨λh1=>(k v).1 ((h v).1 h1),λh1=>(k v).2 ((h v).2 h1)⟩
theorem Du {W:I} {l:O} {o b:Obj} {p:Addr} {v:la} (h:W.heap[l]? =some o) (d:o.isCells=false) (a:i' W p=some v):i' (W.putObj l b) p=some v:=by
 have c:p.block≠l:=by
  rintro rfl;unfold World.cell? at a;rw [h] at a;cases o<;>simp_all [Obj.isCells]
 rw [<-a];exact zw ((grownBy_putObj' W l b).block _ (by
  have:=yM a;exact this) (λe=>c (by injection e)))
theorem QP.put (d c:O) {w:I} (W:I) (l:O) (o b:Obj) (_:(w:O)<=l) (h:W.heap[l]? =some o) (a:o.isCells=false) (_:o.isWalk=false):QP d c W (W.putObj l b):=λ_=>⟨Du h a,Du h a⟩
theorem ay (F:Fence) (n:O) (hf:F.fn 99) (C:F.round=none) (hn:1<=n) (l o j:O) (A:q') (N c ch q:O) (B:N=q*ch) (h1:1<=ch) (hc:N<=c) (p':N<=1000000000) (hh H:S (Fin q)->I->Prop) (Q: ∀s W m,hh s W->hh s (W.drewN m))
  (L: ∀a x W,hh a W->U a<q->YieldAt F (n-1) prog l #[Qc A ch x.val] W λe b=>
   (e=t' true/\hh (a++[x]) b/\QP o j W b)\/(e=t' false/\H (a++[x]) b))
  (W:I) (R:i' W o=J (Z A N c)) (cB:i' W j=J (ch:la)) (h0:hh [] W):
  CallsIn F n prog 99 #[.func (.yield l) #[] #[],mJ o,mJ j] W λe b=>(∃v,e=t' v)/\
   ((∃E,E=List.finRange q/\hh E b)\/(∃a,(∃k,k<=q/\a=(List.finRange q).take k)/\H a b)):=by
 obtain⟨uK,hi,X,y,P⟩:=qA xR;have ln:=T (λ(i:O) (h:i<=N)=>jI _ 5 uK 1 qu hi y A N c i .i64 h);have D:=T (λ(i s:O) (h2:s=i+ch) (h3:s<=c)=>eX A N c i s _ h2 h1 h3);clear hi X y P;have w:=T B;clear B;refine callsIn_of_wp func99 rfl hf ?_ C;simp only [ntmps99,xd,qf,zF,Nat.reduceAdd,Nat.reduceSub,ya,yA,QI,yI,xY,Qy];gi_wp2;gi_loopw [4] (λu wr=> ∃k i:O,k<=q/\u=(i:la)/\i<=N/\G (i=k*ch)/\hh ((List.finRange q).take k) wr/\QP o j W wr)
  (λu _=>N-(intOf u).toNat)
 ·exact⟨0,0,qp _,rfl,qp _,by show 0=0*ch;rw [jd],h0,QP.refl _ _ _⟩
 ·obtain⟨k,i,hk,rfl,cL,g,p,t⟩:=hrel;have c1:=(t _).1 R;have c2:=(t _).2 cB;by_cases d:k<q
  ·have d':i+ch<=N:=by
    rw [g.out,w.out,<-ql];exact zk _ d
   have M':=j' i N;obtain⟨s,f⟩:=zn (i+ch);have iL:(i:V)+(ch:V)=(s:V):=M;have m':s<=1000000000:=M;have N6:=vv s c;have hcut:=ln i cL;have N':=D i s f M;have u':min (ch:V) ((N-i:O):V)=(ch:V):=M;generalize ih:N-i=ni at*;have r:Qc A ch (⟨k,d⟩:Fin q).val=Z (A.map (·.add i)) ch ch:=by unfold Qc;rw [g.out]
   rw [show A.map (·.add i)=A.map (·.add i) from rfl] at r;generalize A.map (·.add i)=Ai at*;replace f:=T f;gi_wp2;refine wpIn_region_quiet_lit C AL AL ?_;repeat (gi_big_quiet_step (fail))
   refine wpQuietIn_nil ?_;intro _ K;obtain⟨nq,cK⟩:=K;subst cK;obtain⟨fn,tmps,G',J',hy,cY⟩:=L _ ⟨k,d⟩ (wr.drewN nq) (Q _ _ _ p) (by rw [qh,ye];omega);rw [r] at hy;clear r hcut;gi_wp2;refine cY.mono ?_;rintro e W3 (⟨rfl,qj,z⟩|⟨rfl,iv⟩)
   ·have c3:=(z _).2 c2;gi_wp2;refine xk ?_;exact⟨k+1,s,M,rfl,M,by show s=(k+1)*ch;rw [ql,<-g.out];exact f,by rw [Vv q k d];exact qj,t.trans (λv=>z v)⟩
   ·gi_wp2;refine qW (results_none rfl _ _ _) rfl ?_;exact⟨⟨_,rfl⟩, .inr ⟨_,⟨k+1,M,(Vv q k d).symm⟩,iv⟩⟩
  ·obtain rfl:k=q:=M;have D':(N:V)<=(i:V):=by have:=g.out;have:=w.out;omega
   rw [qH s8] at p;gi_wp2;go_end0;exact⟨⟨_,rfl⟩, .inl ⟨_,rfl,p⟩⟩
theorem aQ (F:Fence) (n:O) (ln:F.fn 99) (t:F.round=none) (B:1<=n) (b a:O) (A:q') (N c ch q:O) (i:N=q*ch) (h1:1<=ch) (C:N<=c) (o:N<=1000000000) (w:I)
  (z:i' w b=J (Z A N c)) (E:i' w a=J (ch:la)) (d:b<(w:O)) (j:a<(w:O)):
  SeqStopsK F n prog 99 #[mJ b,mJ a] (λx:Fin q=> #[Qc A ch x.val]) (QP b a) (λu=>u=List.finRange q) (λh=> ∃k,k<=q/\h=(List.finRange q).take k) q w:=λl H D W g v _ y h0=>
 ay F n ln t B l b a A N c _ q i h1 C o H D (λs f m d=>v s f _ none d ⟨rfl,rfl,rfl,qx _,λ_ _ _=>rfl⟩ (λr e=>by cases e)) y W ((g.cell (p:= b) d).trans z) ((g.cell (p:= a) j).trans E) h0
end
end
section
section
open Go.RowKit Go.Maps Go.Sort Go.Shelf
def Bt:Go.Shelf.Ren:=⟨fun|7=>94|10=>140|n=>n,fun|23=>141|26=>9|3=>62|28=>145|0=>0|27=>144|33=>222|4=>4|n=>n,fun|n=>n⟩
theorem iU:Go.Proofs.SlLaysZ.n7 prog Bt:={
 mixed:=AL,
 f7:=⟨ "maps.Keys[map[string][]int,string,[]int]",FV,func94.trans (zo _ AL)⟩,
 f10:=⟨ "maps.Keys[map[string][]int,string,[]int]$1",FV,func140.trans (zo _ AL)⟩,
 t0:=underlying0,
 a0:=isAgg0,
 z0:=sizeOf0,
 v0:=zeroValue0,
 t4:=underlying4,
 a4:=isAgg4,
 z4:=sizeOf4,
 v4:=zeroValue4,
 t23:=underlying141,
 a23:=isAgg141,
 z23:=sizeOf141,
 v23:=zeroValue141,
 t26:=ju,
 a26:=isAgg9,
 z26:=sizeOf9,
 v26:=J5,
 t27:=underlying144,
 a27:=isAgg144,
 z27:=sizeOf144,
 v27:=zeroValue144,
 t28:=underlying145,
 a28:=isAgg145,
 z28:=sizeOf145,
 v28:=zeroValue145,
 t33:=underlying222,
 a33:=isAgg222,
 z33:=sizeOf222,
 v33:=zeroValue222}
def DP:Go.Shelf.Ren:=⟨fun|6=>93|8=>139|9=>137|11=>185|13=>180|12=>184|23=>210|24=>211|14=>212|15=>213|16=>214|17=>215|18=>216|19=>217|20=>218|21=>219|22=>220|25=>243|26=>244|27=>245|28=>246|29=>247|30=>248|31=>265|n=>n,fun|26=>9|28=>145|24=>99|0=>0|3=>3|37=>88|48=>92|50=>43|4=>4|40=>327|39=>326|45=>267|5=>5|9=>9|51=>356|55=>359|57=>376|58=>201|33=>222|n=>n,fun|n=>n⟩
theorem OM:Go.Proofs.SlLaysZ.n6 prog DP:={
 mixed:=AL,
 f6:=⟨ "slices.Sorted[string]",FV,func93.trans (zo _ AL)⟩,
 f8:=⟨ "slices.Collect[string]",FV,func139.trans (zo _ AL)⟩,
 f11:=⟨ "slices.AppendSeq[[]string,string]",FV,func185.trans (zo _ AL)⟩,
 t0:=underlying0,
 a0:=isAgg0,
 z0:=sizeOf0,
 v0:=zeroValue0,
 t24:=jD,
 a24:=isAgg99,
 z24:=sizeOf99,
 v24:=zeroValue99,
 t26:=ju,
 a26:=isAgg9,
 z26:=sizeOf9,
 v26:=J5,
 t28:=underlying145,
 a28:=isAgg145,
 z28:=sizeOf145,
 v28:=zeroValue145,
 i26:=by kernel_rfl}
theorem Ih (m:O):AnyZ.SortsIn prog DP Fence.wide m:=
 ⟨λblk off cap ss W b c a=>Qz.2 (AnyM.slices_Sort_string WD _ _ _ _ W b c a),
  λp cap W=>Qz.2 (AnyM.slices_Sort_string_none WD p _ W)⟩
theorem nO (a:Option O) (W:I):xG 94 #[.map a] W λe w'=>e=t' (.func (.func 140) #[] #[mJ W])/\w'=W (Y #[.map a] 141):=
 (Qz (n:=5)).1 (AnyZ.keys_in iU _ 5 trivial rfl a W)
theorem E8 (b d:O) (a:DataW Unit) (R:la->Option (DataW Unit×S MemPlace)) (w:I) (c:w.ownsMap prog 9 R b d a) (j:Maps.size a<=maxLen) (h:Maps.size a*16<=140737488355328):
  xG 93 #[.func (.func 140) #[] #[.pointer w]] (w (Y #[.map (some b)] 141)) λe w'=> ∃(v:la) (ss:S qn),e= .returned v/\ss.Perm (strKeys a)/\
   w'.ownsRow (w (Y #[.map (some b)] 141):O) 9 1 v (U ss) ((ss.mergeSort (λx y=>decide (x<=y))).map encStr)/\r' (w (Y #[.map (some b)] 141):O) (w (Y #[.map (some b)] 141)) w':=by
 have p:=c.lt;have k:SeqGives Fence.wide 2 prog 140 #[.pointer w] encStr (λss=>ss.Perm (strKeys a)) (Maps.size a) (w (Y #[.map (some b)] 141)):=
  AnyZ.keys_gives {iU with} _ _ trivial rfl M w b d a _ s8 s8 (by
   obtain⟨l,o,g,f,m,i⟩:=c;exact⟨l,o,(Below.heap_alloc _ _ b p).trans g,f,m,i⟩)
 refine((Qz (n:=5)).1 (AnyZ.sorted_in OM _ 5 trivial trivial trivial trivial rfl M (Ih _) (enters_of func137 AL rfl) _ _ trivial (enters_of func140 AL rfl) _ _ j h _ k)).mono ?_;rintro e w' ⟨v,ss,h1,h2,h3,h4,h5⟩;exact⟨v,_,h1,h2,h3,h5⟩
end
end
section
variable {k:O}{l:S JH}
section
open Go.RowKit
def Li:O->S JH->O
 |s,[]=>s
 |s,r::t=>if 1099511627776<s\/1099511627776<U r.src\/1099511627776<U r.txt then 2199023255552 else Li (s+16+U r.src+U r.txt) t
theorem L2 (s:O) (r:JH) (t:S JH):Li s (r::t)=if 1099511627776<s\/1099511627776<U r.src\/1099511627776<U r.txt then 2199023255552 else Li (s+16+U r.src+U r.txt) t:=rfl
theorem qqQ: ∀(l:S JH) (s:O),l.any X8=false->s+8016*U l<=1000000000000->Li s l=s+hX l
 |[],s,_,_=>by simp [Li,hX]
 |r::t,s,h,a=>by
  rw [List.any_cons,Bool.or_eq_false_iff] at h;have h1:=h.1;unfold X8 at h1;simp only [Bool.or_eq_false_iff,zW] at h1;rw [qf] at a;rw [L2,qJ M,qqQ t _ h.2 M];unfold hX;rw [jy,List.sum_cons];omega
theorem Ls (A:q') (c B:O) (l:S JH) (w:I) (h:E' w B 4 A l (ji l)) (K:U l<=1000000000):
  xG 15 #[Z A l c] w λe w'=>e=t' (e' (Li 0 l:O))/\Dr w w':=by
 have H:=T h;clear h;go_wp2;go_loopw [3,4] (λu m wr=> ∃k s:O,u=(s:la)/\m=(k:la)/\k<=U l/\G (Li s (l.drop k)=Li 0 l)/\G (Dr w wr)) (λ_ m _=>U l-(intOf m).toNat)
 ·exact⟨0,0,rfl,rfl,qp _,rfl,Dr.refl w⟩
 ·obtain⟨k,s,rfl,rfl,L,HS,g⟩:=hrel;by_cases n:k<U l
  ·have N:(k:V)<(U l:V):=M;obtain⟨Q,rfl,_,D,E,R,z⟩:=ZH (g.reads H) k n;have o:l.drop k=l[k]::l.drop (k+1):=zK n;have a:=HS.out;rw [o,L2] at a;clear o HS;have r:(ByteArray.mk l[k].src.toArray).size=l[k].src.length:=rfl;have q:(ByteArray.mk l[k].txt.toArray).size=l[k].txt.length:=rfl;generalize (⟨l[k].src.toArray⟩:ByteArray)=p,(⟨l[k].txt.toArray⟩:ByteArray)=S2,(l[k].time:V)=t,(l[k].level:V)=P at*;rw [<-r,<-q] at a;obtain⟨d,i⟩:=zn p.size;obtain⟨f,j⟩:=zn S2.size;rw [<-i,<-j] at a;have C:(p.size:V)=(d:V):=by rw [i]
   have F:(S2.size:V)=(f:V):=by rw [j]
   replace i:=T i;replace j:=T j;clear r q;by_cases q1:1099511627776<s
   ·rw [qk (.inl q1)] at a;have v:(1099511627776:V)<(s:V):=M;have b:=T a;clear a;go_wp2;go_ret;exact⟨by rw [<-b.out];rfl,g⟩
   have v: ¬(1099511627776:V)<(s:V):=M;by_cases q2:1099511627776<d
   ·rw [qk (.inr (.inl q2))] at a;have y:(1099511627776:V)<(d:V):=M;have b:=T a;clear a;go_wp2;go_ret;exact⟨by rw [<-b.out];rfl,g⟩
   have y: ¬(1099511627776:V)<(d:V):=M;by_cases q3:1099511627776<f
   ·rw [qk (.inr (.inr q3))] at a;have x:(1099511627776:V)<(f:V):=M;have b:=T a;clear a;go_wp2;go_ret;exact⟨by rw [<-b.out];rfl,g⟩
   have x: ¬(1099511627776:V)<(f:V):=M;rw [qJ (λh=>h.elim q1 λh=>h.elim q2 q3)] at a;have b:=T a;clear a;go_wp2;go_quiet (fail);go_wp2_with fail;refine xk ?_;exact⟨k+1,s+16+d+f,xh,xg,M,b.out,g.drewN _⟩
  ·obtain rfl:k=U l:=M;have a:=HS.out;rw [List.drop_length] at a;have b:G (s=Li 0 l):=a;clear a HS;go_wp2;go_ret;exact⟨by rw [<-b.out];rfl,g⟩
theorem oT (a:k<U l) (h:4000<l[k].src.length\/4000<l[k].txt.length):kF l=6:=by
 unfold kF;rw [qk];refine .inr (.inl (ZQ.2 ⟨l[k],zx a, ?_⟩));unfold X8;simp only [J3,zd];exact h
theorem Nk (a:k<U l) (h0:(l.take k).any X8=false) (h1:l[k].src.length<=4000) (h2:l[k].txt.length<=4000):(l.take (k+1)).any X8=false:=by
 have e:l.take (k+1)=l.take k++[l[k]]:=by rw [qs,qX a];rfl
 rw [e,List.any_append,h0,Bool.false_or,List.any_cons,List.any_nil,Bool.or_false];unfold X8;simp only [Bool.or_eq_false_iff,zW];omega
theorem Gd (A:q') (c B:O) (l:S JH) (w:I) (h:E' w B 4 A l (ji l)) (qj:U l<=1000000000):
  xG 9 #[Z A l c] w λe w'=>e=t' (e' (kF l))/\Dr w w':=by
 have H:=T h;clear h;by_cases x:20000<U l
 ·have z:kF l=6:=by unfold kF;rw [qk (.inl x)]
  rw [z];have F:(20000:V)<(U l:V):=M;generalize U l=n at*;clear z;go_wp2;go_ret;exact⟨rfl,Dr.refl w⟩
 have F: ¬(20000:V)<(U l:V):=M;go_wp2;go_loopw [3,4] (λln v wr=> ∃k s:O,ln=(s:la)/\v=(k:la)/\k<=U l/\G (s=hX (l.take k))/\s<=8016*k/\G ((l.take k).any X8=false)/\G (Dr w wr)) (λ_ v _=>U l-(intOf v).toNat)
 ·exact⟨0,0,rfl,rfl,qp _,by simp [Hid,hX],qx _,rfl,Dr.refl w⟩
 ·obtain⟨k,s,rfl,rfl,X,HS,W,m,j⟩:=hrel;by_cases o:k<U l
  ·have iv:(k:V)<(U l:V):=M;obtain⟨Q,rfl,_,N,cL,cY,L⟩:=ZH (j.reads H) k o;have a:s+(16+l[k].src.length+l[k].txt.length)=hX (l.take (k+1)):=by rw [pt l k o,<-HS.out]
   have b:=oT o;have i:=Nk o m.out;clear HS m;have D:(ByteArray.mk l[k].src.toArray).size=l[k].src.length:=rfl;have C:(ByteArray.mk l[k].txt.toArray).size=l[k].txt.length:=rfl;generalize (⟨l[k].src.toArray⟩:ByteArray)=y,(⟨l[k].txt.toArray⟩:ByteArray)=S2,(l[k].time:V)=t,(l[k].level:V)=R at*;rw [<-D,<-C] at a b i;obtain⟨d,p⟩:=zn y.size;obtain⟨g,r⟩:=zn S2.size;rw [<-p,<-r] at a b i;have uK:(y.size:V)=(d:V):=by rw [p]
   have P:(S2.size:V)=(g:V):=by rw [r]
   clear D C;replace a:=T a;by_cases q1:4000<d
   ·have f:=T (b (.inl q1));have ih:(4000:V)<(d:V):=M;clear b i;go_wp2;go_ret;exact⟨by rw [f.out];rfl,j⟩
   have ih: ¬(4000:V)<(d:V):=M;by_cases q2:4000<g
   ·have f:=T (b (.inr q2));have K:(4000:V)<(g:V):=M;clear b i;go_wp2;go_ret;exact⟨by rw [f.out];rfl,j⟩
   have K: ¬(4000:V)<(g:V):=M;have hh:=T (i M M);clear b i;go_wp2;go_quiet (fail);go_wp2_with fail;refine xk ?_;exact⟨k+1,s+(16+d+g),xh,xg,M,a,M,hh,j.drewN _⟩
  ·obtain rfl:k=U l:=M;have a:=HS.out;have u:=m.out;rw [jP] at a u;by_cases q:1048576<s
   ·have f:G (kF l=6):=by rw [Hid];unfold kF;rw [qk (.inr (.inr M))]
    have E:(1048576:V)<(s:V):=M;clear a HS m u;go_wp2;go_ret;exact⟨by rw [f.out];rfl,j⟩
   ·have f:G (kF l=0):=by
     rw [Hid];unfold kF;rw [qJ (λh=>h.elim x λh=>h.elim (λh=>by rw [u] at h;cases h) M)]
    have E: ¬(1048576:V)<(s:V):=M;clear a HS m u;go_wp2;go_ret;exact⟨by rw [f.out];rfl,j⟩
theorem U7 (A b:q') (c f B j:O) (l:S JH) (w:I) (h1:E' w B 4 A l (ji l)) (h2:E' w j 4 b l (ji l)) (C:U l<=1000000000):
  xG 14 #[Z A l c,Z b l f] w λe w'=>e=t' true/\Dr w w':=by
 have g:=T h1;have h:=T h2;clear h1 h2;go_wp2;go_loopw [5] (λi wr=> ∃k:O,i=(k:la)/\k<=U l/\G (Dr w wr)) (λi _=>U l-(intOf i).toNat)
 ·exact⟨0,rfl,M,Dr.refl w⟩
 ·obtain⟨k,rfl,D,a⟩:=hrel;by_cases d:k<U l
  ·obtain⟨s,rfl,_,u,x,n,o⟩:=ZH (a.reads g) k d;obtain⟨r,rfl,_,p,q,E,m⟩:=ZH (a.reads h) k d;have z:(k:V)<U l:=M;generalize (⟨l[k].src.toArray⟩:ByteArray)=v,(⟨l[k].txt.toArray⟩:ByteArray)=S2,(l[k].time:V)=t,(l[k].level:V)=y at*;go_wp2;go_quiet (fail);go_wp2_with fail;refine xk ?_;exact⟨k+1,xh,M,a.drewN _⟩
  ·obtain rfl:k=U l:=M;go_wp2;go_ret;exact⟨rfl,a⟩
end
end
end Go.Proofs.YtfnlfpcfkbdcmaaGreatDoor
