import Derived.Test.YtfnlfpcfkbdcmaaGreatDoorT14
import Derived.Test.YtfnlfpcfkbdcmaaGreatDoorT17
set_option linter.unusedSimpArgs false
set_option linter.unusedVariables false
set_option maxRecDepth 100000
set_option maxHeartbeats 0
open Go.Proofs.Tryz
namespace Go.Proofs.YtfnlfpcfkbdcmaaGreatDoor
variable {E:TypeId}{a:V}{base:O}
section
variable {P:Program}
section
open Go.RowKit
theorem XJ:(prog.info? 9).map (λi=>(i.zero,i.size,i.bytes))=J (some (.string "".toUTF8),1,16):=AL
theorem Yw (iv:ByteArray) (s:qn) (b:iv=⟨s.toArray⟩) (n:O) (h:n<U s) (W:I):(Instr.index 9 (.string iv) n).run prog W= .ok (gR (s[n].toNat:V)) W:=by
 subst b;have a:(ByteArray.mk s.toArray).size=U s:=by simp [ByteArray.size]
 rw [run_index_string (h:=ju),dif_pos ⟨M,by rw [a];omega⟩];rfl
theorem CX (iv:ByteArray) (s:qn) (b:iv=⟨s.toArray⟩) (n:O) (h:n<=U s) (W:I):(Instr.slice 9 (.string iv) (some (n:la)) none none).run prog W= .ok (.string ⟨(s.drop n).toArray⟩) W:=by
 subst b;have a:(ByteArray.mk s.toArray).size=U s:=by simp [ByteArray.size]
 rw [run_slice_string_from_if (h:=ju),qk ⟨M,by rw [a];omega⟩,zc];have e:(ByteArray.mk s.toArray).extract n (ByteArray.mk s.toArray).size=⟨(s.drop n).toArray⟩:=by
  apply ByteArray.ext;rw [ByteArray.data_extract,a];simp;rw [qH (by rw [qI];exact qx _)]
 rw [e]
theorem tu (iv:ByteArray) (s:qn) (b:iv=⟨s.toArray⟩) (n:O) (h:n<=U s) (W:I):(Instr.slice 9 (.string iv) none (some (n:la)) none).run prog W= .ok (.string ⟨(s.take n).toArray⟩) W:=by
 subst b;have a:(ByteArray.mk s.toArray).size=U s:=by simp [ByteArray.size]
 rw [run_slice_string_to_if (h:=ju),qk ⟨M,by rw [a];omega⟩,zc];have e:(ByteArray.mk s.toArray).extract 0 n=⟨(s.take n).toArray⟩:=by
  apply ByteArray.ext;rw [ByteArray.data_extract];simp
 rw [e]
theorem pC (x y:qn) (b:U x<=1000000) (a:U y<=1000000) (w:I):(Op.stringOp .add ⟨x.toArray⟩ ⟨y.toArray⟩).run P w= .ok (.string ⟨(x++y).toArray⟩) w:=by
 have e:(ByteArray.mk x.toArray)++(ByteArray.mk y.toArray)=⟨(x++y).toArray⟩:=by
  apply ByteArray.ext;rw [ByteArray.data_append];simp
 rw [<-e];exact run_string_add_sum w _ _ (by simp [ByteArray.size];omega)
theorem WX (t e:TypeId) (i:TypeInfo) (s:O) (ht:P.underlying t=J (.slice e)) (hi:P.info? e=some i) (d:i.size=s) (A:q') (n c h:O) (kh:IntKind) (g:h<=c) (W:I):
  (Instr.slice t (Z A n c) none (some (.int kh (h:V))) none).run P W= .ok (Z A h c) W:=by
 have b:P.elem t=e:=by simp [Program.elem,ht]
 rw [run_slice_h (a:=A) (len:=n) (cap:=c) (ht:=by rw [b];exact ht) (kh:=kh) (h:=(h:V)) (h0:=by omega) (h2:=by omega),b];have f:(sizeOf e).run P W= .ok s W:=by simp [sizeOf,typeInfo,hi,d]
 rw [f];have h0: ∀a:Addr,a.add 0=a:=λa=>by unfold Addr.add;split<;>simp_all
 cases A<;>simp [Result.andThen,sliced,h0]
theorem P6: ∀a b:qn,Op.bytesLess a b=_a a b
 |[],[]=>rfl
 |_::_,[]=>rfl
 |[],_::_=>rfl
 |x::a,y::b=>by
  rw [Op.bytesLess,_a,P6 a b];by_cases h:x=y<;>simp [h]
theorem SE (a b:qn) (n:O) (c:n<U a) (d:n<U b):G4 (a.drop n) (b.drop n)=if a[n]=b[n] then G4 (a.drop (n+1)) (b.drop (n+1))+1 else 0:=by
 rw [zK c,zK d];rfl
theorem mG (a:qn):G4 a []=0:=by cases a<;>rfl
theorem WV: ∀a b:qn,G4 a b<=U a/\G4 a b<=U b
 |[],b=>by cases b<;>simp [G4]
 |x::a,[]=>by simp [G4]
 |x::a,y::b=>by
  have:=WV a b;unfold G4;split
  ·simp;omega
  ·simp
theorem kV (a b:qn) (w:I) (D:U a<=1000000000) (E:U b<=1000000000):
  xG 179 #[Lj a,Lj b] w λe w'=>e=t' (e' (G4 a b:O))/\Dr w w':=by
 obtain⟨R,m⟩:=zn (G4 a b);rw [<-m];replace m:G (G4 (a.drop 0) (b.drop 0)+0=R):=m.symm;obtain⟨p,o⟩: ∃p:ByteArray,p=⟨a.toArray⟩:=⟨_,rfl⟩;obtain⟨q,r⟩: ∃q:ByteArray,q=⟨b.toArray⟩:=⟨_,rfl⟩;have B:p.size=U a:=by rw [o];simp [ByteArray.size]
 have F:q.size=U b:=by rw [r];simp [ByteArray.size]
 have z:=T (λn h W=>Yw p a o n h W);have C:=T (λn h W=>Yw q b r n h W);unfold Lj;rw [<-o,<-r];obtain⟨c,g⟩:=zn (U a);obtain⟨lb,f⟩:=zn (U b);rw [<-g] at B D;rw [<-f] at F E;replace g:=T g;replace f:=T f;clear o r;go_wp2;go_loopw [5] (λv wr=> ∃n:O,v=(n:la)/\n<=c/\n<=lb/\G (G4 (a.drop n) (b.drop n)+n=R)/\G (Dr w wr)) (λv _=>c-(intOf v).toNat)
 ·exact⟨0,rfl,qp _,qp _,m,Dr.refl _⟩
 ·obtain⟨n,rfl,N,L,i,s⟩:=hrel;by_cases h1:n<c
  focus
   have H:=j' n c;by_cases h2:n<lb
   focus
    have P:=j' n lb;have K:=z n (g.out▸h1);have Q:=C n (f.out▸h2);have j:=i.out;rw [SE a b n (g.out▸h1) (f.out▸h2)] at j;generalize a[n]'(g.out▸h1)=x,b[n]'(f.out▸h2)=y at*;by_cases t:x=y
    ·subst t;rw [qk rfl] at j;replace j:G (G4 (a.drop (n+1)) (b.drop (n+1))+(n+1)=R):=by rw [Hid];omega
     clear i;go_wp2;go_quiet (fail);have d:G (Dr w (wr.drewN nq)):=s.drewN _;generalize wr.drewN nq=u at*;go_wp2_with fail;refine xk ?_;exact⟨n+1,xg,M,M,j,d⟩
    focus
     rw [qJ t] at j;have k:G (R=n):=by rw [Hid];omega
     have A:((x.toNat:V)==(y.toNat:V))=false:=by rw [zE];exact λh=>t (jG.1 M)
     clear i
   rotate_left
   focus
    have k:G (R=n):=by rw [Hid,<-i.out,zD (l:=b) (by rw [<-f.out];omega),mG];omega
    clear i
  rotate_left 2
  focus
   have k:G (R=n):=by rw [Hid,<-i.out,zD (l:=a) (by rw [<-g.out];omega)];cases b.drop n<;>simp [G4]
   clear i
  all_goals
   go_wp2;go_quiet (fail);have d:G (Dr w (wr.drewN nq)):=s.drewN _;generalize wr.drewN nq=u at*;go_wp2;go_ret;exact⟨by rw [k.out];rfl,d⟩
theorem pA (a s:qn) (w:I):
  xG 177 #[Lj a,Lj s] w λe w'=>e=t' (.bool (al a s))/\w=w':=by
 obtain⟨f,g⟩: ∃f:ByteArray,f=⟨a.toArray⟩:=⟨_,rfl⟩;obtain⟨b,c⟩: ∃b:ByteArray,b=⟨s.toArray⟩:=⟨_,rfl⟩;have o:b.size=U s:=by rw [c];simp [ByteArray.size]
 have m:f.toList=a:=by rw [g,Ja]
 have n:b.toList=s:=by rw [c,Ja]
 have d:G ((!(Op.bytesLess s a||s==a))=_a a s):=by
  rw [Hid,P6];rcases kJ a s with h|rfl|h
  ·have j:s≠a:=by rintro rfl;rw [kZ] at h;cases h
   rw [UU h,h,Bool.false_or,zE.2 j];rfl
  ·rw [kZ];simp
  ·rw [UU h,h];rfl
 unfold Lj;rw [<-g,<-c];clear g c;unfold al;by_cases h0:s=[]
 focus
  have i:(s==([]:qn))=true:=by simpa using h0
  rw [qc (show¬s≠[] by simpa using h0),Bool.false_and]
 rotate_left
 focus
  have i:(s==([]:qn))=false:=by simpa using h0
  rw [qw h0,Bool.true_and];by_cases h1:U s<=25
  ·have k:(U s:V)<=25:=M;rw [qw h1,Bool.true_and,<-d.out];clear h0;generalize p:Op.bytesLess s a=x,l:(s==a)=y at*;cases x<;>cases y<;>(go_wp2;go_ret;exact⟨rfl,rfl⟩)
  focus
   have k: ¬(U s:V)<=25:=M;rw [qc h1,Bool.false_and]
 all_goals
  clear h0;go_wp2;go_ret;exact⟨yl,rfl⟩
theorem CV (a:qn) (l:S qn) (k:O) (b:k<U l):XO a (l.drop k)=(al a l[k]&&XO l[k] (l.drop (k+1))):=by
 rw [zK b];rfl
theorem GC (A:q') (c B:O) (l:S qn) (w:I) (h:E' w B 1 A l (l.map Lj)) (q:U l<=1000000000):
  xG 126 #[Z A l c] w λe w'=>e=t' (.bool (T5 l))/\w=w':=by
 have H:=T h;obtain⟨R,f⟩:=zn (XO [] l);unfold T5;rw [<-f];replace f:G (XO [] (l.drop 0)=R):=f.symm;obtain⟨N,d⟩:=zn (U l);rw [<-d] at q H⊢;replace d:=T d;clear h;go_wp2;go_loopw [3,8] (λt j wr=> ∃(k:O) (b:qn),t= .string ⟨b.toArray⟩/\j=(k:la)/\k<=N/\G (XO b (l.drop k)=R)/\wr=w) (λ_ j _=>N-(intOf j).toNat)
 ·exact⟨0,[],by first|rfl|decide,rfl,qp _,f,rfl⟩
 ·obtain⟨k,b,rfl,rfl,F,g,rfl⟩:=hrel;by_cases p:k<N
  ·have E:=j' k N;have C:=xi k;obtain⟨D,u,rfl,-,i,r⟩:=H.at_ p;have o:k<U l:=by rw [<-d.out];exact p
   rw [qD,qX o] at i;have a:=g.out;rw [CV _ _ _ o] at a;have m:=T (pA b l[k] wr);generalize l[k]=x at*;have s:=(zy i).symm;subst s;unfold Lj at r m;replace a:=T a;clear i g;generalize al b x=z at*;cases z with
   |false=>
    have n:G (R=false):=by rw [Hid,<-a.out];rfl
    go_wp2_with fail;refine Ω m ?_;go_wp2;go_ret;exact⟨by rw [n.out];rfl,rfl⟩
   |true=>
    have v:G (XO x (l.drop (k+1))=R):=by rw [Hid,<-a.out];rfl
    go_wp2_with fail;refine Ω m ?_;go_wp2_with fail;refine xk ?_;exact⟨k+1,x,xg,xh,M,v,y'⟩
  ·obtain rfl:k=N:=M;have n:G (R=true):=by rw [Hid,<-g.out,zD (by rw [d.out];omega)];rfl
   clear g;go_wp2;go_ret;exact⟨by rw [n.out];exact j7 (by rw [Bool.true_and];exact decide_eq_decide.2 M),rfl⟩
end
end
section
section
open Go.RowKit
theorem gE (b:qn) (m:O) (c:Cu):(xa b m c).1.length<=m:=by
 unfold xa;dsimp only;split
 ·exact qp _
 ·have:=Yi (b.drop c.at_) m M;rw [qh];omega
theorem CM (W:I) (g:O) (A:q') (N cap:O) (b a:qn) (first:Bool) (c:Cu) (h:Lr W g A N cap b c) (hw:U a<=1000):
  xG 255 #[mJ g,Lj a,first] W (jS W g A N cap b (Lj (JE b a first c).1) (JE b a first c).2):=by
 obtain⟨Q,ih⟩: ∃Q:ByteArray,Q=⟨a.toArray⟩:=⟨_,rfl⟩;have za:Q.size=U a:=by rw [ih];simp [ByteArray.size]
 rw [show Lj a= .string Q by rw [ih];rfl];replace ih:=T ih;cases first with
 |true=>
 rw [tY];obtain⟨ln,hh⟩:=zn (V8 a true 0 (xa b 25 c));rw [<-hh];obtain⟨n,I'⟩: ∃n,n=0:=⟨0,rfl⟩;obtain⟨c1,L⟩:=zn c;obtain⟨m,d'⟩:=zn W;have p:G (V8 a true n (xa b 25 c1)=ln):=by rw [Hid,hh,I',L]
 have cY:G (Lr m g A N cap b c1):=by rw [Hid,d',L];exact h
 have R:G (qE [g] W m):=by rw [Hid,d'];exact qE.refl _ _
 have cB:=T (gE b 25 c1);have cL:G (∀m,Lr m g A N cap b c1->_):=λm h=>pB m g A N cap b c1 25 h M;have hn:n<=U a:=M;have OX:(n:V)=0:=M;go_in;go_wp2_with fail;rw [<-d'];clear hh h L;generalize X:xa b 25 c1=tc at*;obtain⟨r,c2⟩:=tc;replace X:=T X;have B:=T (cL m cY);unfold jS Lj at B;dsimp only at B;refine zC B ?_;rintro cK ⟨F,iv⟩;have uK:=T F;have z:=T (R.then iv);have i:=T (jg cK g A N cap b c2 F);have j:=T (yB cK g A N cap b c2 2 F);clear F iv;by_cases w:c2.err=0
 ·have hF:=p.out;unfold V8 at hF;dsimp only at hF;rw [qJ (by simpa using w)] at hF;rw [w] at i;have p':=cB.out;dsimp only at p';have m': ∀W,(Op.stringOp .add ByteArray.empty (ByteArray.mk r.toArray)).run prog W= .ok (.string ⟨(a.take n++r).toArray⟩) W:=λW=>by rw [I'];exact pC [] r s8 M W
  obtain⟨s,D⟩:=zn (a.take n++r);rw [<-D] at hF m';have d:=λW=>T (pA a s W);have o:=λW=>T (kV a s W M (by rw [D,qK,qh];omega));have tr:(ByteArray.mk r.toArray).toList=r:=Ja r;unfold Lj at d o;rw [<-ih.out] at d o;generalize (ByteArray.mk (a.take n).toArray)=ST,(ByteArray.mk r.toArray)=SR,t:(ByteArray.mk s.toArray)=M' at*;replace D:=T D;replace t:=T t;by_cases k:r=[]
  ·have e1:(r==([]:qn))=true:=by simpa using k
   have f:G (ln=(s,vP c2 2)):=by rw [Hid,<-hF,qk (.inl k)]
   clear hF k d o;go_wp2_with fail;refine Ω i ?_;go_wp2_with fail;refine zC j ?_;rintro K ⟨u,v⟩;have x:=T u;have y:=T (z.then v);clear u v;go_wp2;go_ret;rw [f.out];unfold jS Lj;rw [t.out];exact⟨rfl,x,y⟩
  ·have e1:(r==([]:qn))=false:=by simpa using k
   by_cases C:al a s=false
   focus
    have f:G (ln=(s,vP c2 2)):=by rw [Hid,<-hF,qk (.inr (.inl C))]
    rw [C] at d;clear hF k o
   rotate_left
   focus
    have iL:al a s=true:=by simpa using C
    rw [iL] at d;have f:G (ln=(s,c2)):=by rw [Hid,<-hF,qJ (by rintro(h|h|⟨h,_⟩);exact k h;exact C h;cases h)]
    clear hF k
   rotate_left
   all_goals
    go_wp2_with fail;refine Ω i ?_;go_wp2_with fail;refine Ω (d _).out ?_;go_wp2_with fail
   ·refine zC j ?_;rintro K ⟨u,v⟩;have x:=T u;have y:=T (z.then v);clear d u v;go_wp2;go_ret;rw [f.out];unfold jS Lj;rw [t.out];exact⟨rfl,x,y⟩
   ·go_ret;rw [f.out];unfold jS Lj;rw [t.out];exact⟨rfl,uK,z⟩
 ·have f:G (ln=([],c2)):=by rw [Hid,<-p.out];unfold V8;rw [qk (by simpa using w)]
  have N9:(c2.err==0)=false:=by simpa using w
  generalize qj:c2.err=E at*;replace qj:=T qj;clear w;go_wp2_with fail;refine Ω i ?_;go_wp2;go_ret;rw [f.out];exact⟨rfl,uK,z⟩
 |false=>
 rw [eH];have e:=T (yK W g A N cap b c (U a:O) h M);have z':=vX b (U a:O) c M;generalize jU b (U a:O) c=ic at*;obtain⟨n,c1⟩:=ic;dsimp only at z' e⊢;obtain⟨ln,hh⟩:=zn (V8 a false n (xa b 25 c1));rw [<-hh];have p:G (V8 a false n (xa b 25 c1)=ln):=hh.symm;have cB:=T (gE b 25 c1);have cL:G (∀m,Lr m g A N cap b c1->_):=λm h=>pB m g A N cap b c1 25 h M;have hn:n<=U a:=M;unfold jS at e;clear hh z' h;go_in;go_wp2_with fail;refine zC e ?_;rintro m ⟨L,D'⟩;have cY:=T L;have R:=T D';clear L D';go_wp2_with fail;generalize X:xa b 25 c1=tc at*;obtain⟨r,c2⟩:=tc;replace X:=T X;have B:=T (cL m cY);unfold jS Lj at B;dsimp only at B;refine zC B ?_;rintro cK ⟨F,iv⟩;have uK:=T F;have z:=T (R.then iv);have i:=T (jg cK g A N cap b c2 F);have j:=T (yB cK g A N cap b c2 2 F);clear F iv;by_cases w:c2.err=0
 ·have hF:=p.out;unfold V8 at hF;dsimp only at hF;rw [qJ (by simpa using w)] at hF;rw [w] at i;have P':=λW=>tu Q a ih n hn W;have p':=cB.out;dsimp only at p';have m':=λW=>pC (P:=prog) (a.take n) r (by rw [qh];omega) M W;obtain⟨s,D⟩:=zn (a.take n++r);rw [<-D] at hF m';have d:=λW=>T (pA a s W);have o:=λW=>T (kV a s W M (by rw [D,qK,qh];omega));have tr:(ByteArray.mk r.toArray).toList=r:=Ja r;unfold Lj at d o;rw [<-ih.out] at d o;generalize (ByteArray.mk (a.take n).toArray)=ST,(ByteArray.mk r.toArray)=SR,t:(ByteArray.mk s.toArray)=M' at*;replace D:=T D;replace t:=T t;by_cases k:r=[]
  ·have e1:(r==([]:qn))=true:=by simpa using k
   have f:G (ln=(s,vP c2 2)):=by rw [Hid,<-hF,qk (.inl k)]
   clear hF k d o;go_wp2_with fail;refine Ω i ?_;go_wp2_with fail;refine zC j ?_;rintro K ⟨u,v⟩;have x:=T u;have y:=T (z.then v);clear u v;go_wp2;go_ret;rw [f.out];unfold jS Lj;rw [t.out];exact⟨rfl,x,y⟩
  ·have e1:(r==([]:qn))=false:=by simpa using k
   by_cases C:al a s=false
   focus
    have f:G (ln=(s,vP c2 2)):=by rw [Hid,<-hF,qk (.inr (.inl C))]
    rw [C] at d;clear hF k o
   rotate_left
   focus
    have iL:al a s=true:=by simpa using C
    rw [iL] at d;by_cases hq:G4 a s=n
    focus
     rw [hq] at o;have f:G (ln=(s,c2)):=by rw [Hid,<-hF,qJ (by rintro(h|h|⟨_,h⟩);exact k h;exact C h;exact h hq)]
     clear hF k
    rotate_left
    focus
     have f:G (ln=(s,vP c2 2)):=by rw [Hid,<-hF,qk (.inr (.inr ⟨rfl,hq⟩))]
     have O':((G4 a s:V)==(n:V))=false:=SZ;have N': ¬(G4 a s:V)=(n:V):=M;clear hF k;generalize G4 a s=q at*
    rotate_left
   rotate_left 2
   all_goals
    go_wp2_with fail;refine Ω i ?_;go_wp2_with fail;refine Ω (d _).out ?_;go_wp2_with fail
   ·refine zC j ?_;rintro K ⟨u,v⟩;have x:=T u;have y:=T (z.then v);clear d u v;go_wp2;go_ret;rw [f.out];unfold jS Lj;rw [t.out];exact⟨rfl,x,y⟩
   rotate_left;rotate_left
   all_goals
    refine zC (o _).out ?_;intro K H;have x:=T (uK.fresh (H.below _));have y:=T (z.then (Zp (l:=[g]) H))
   ·clear o H;go_wp2;go_ret;rw [f.out];unfold jS Lj;rw [t.out];exact⟨rfl,x,y⟩
   ·have j:=T (yB K g A N cap b c2 2 x);clear o H;go_wp2_with fail;refine zC j ?_;rintro w4 ⟨G',u'⟩;have J':=T G';have N6:=T (y.then u');clear d G' u';go_wp2;go_ret;rw [f.out];unfold jS Lj;rw [t.out];exact⟨rfl,J',N6⟩
 ·have f:G (ln=([],c2)):=by rw [Hid,<-p.out];unfold V8;rw [qk (by simpa using w)]
  have N9:(c2.err==0)=false:=by simpa using w
  generalize qj:c2.err=E at*;replace qj:=T qj;clear w;go_wp2_with fail;refine Ω i ?_;go_wp2;go_ret;rw [f.out];exact⟨rfl,uK,z⟩
end
end
section
variable {t:O}{w:I}
section
open Go.RowKit
def VV (w:I) (v:qn) (a:S O) (f:V) (e:Ending) (w':I):Prop:=
 ∃A c b d,e=t' (BA #[Z A v c,Z b a d,f])/\E' w' w' 1 A v (v.map B8)/\E' w' w' 1 b a (a.map NV)/\r' w w w'
theorem VV.nil {w':I} (b:r' w w w'):VV w [] [] a (t' (BA #[z8,z8,a])) w':=⟨_,0,_,0,rfl,E'.none_,E'.none_,b⟩
theorem bytes_beq (a b:qn):((⟨a.toArray⟩:ByteArray)==⟨b.toArray⟩)=decide (a=b):=by
 show(a.toArray==b.toArray)=_;rw [yx,yp,jo];exact⟨λh=>by simpa using zo Array.toList h,λh=>by rw [h]⟩
theorem gn {c d:ByteArray} {a b:qn} (e:(⟨a.toArray⟩:ByteArray)=c) (f:(⟨b.toArray⟩:ByteArray)=d):(c.toList==d.toList)=decide (a=b):=by
 rw [<-e,<-f,ByteArray.toList_eq,ByteArray.toList_eq,yx,yp,jo]
section
section
variable {k m ch n iv d L N qj : O} {s : qn}
theorem Td (a:Shp k m ch n iv d L N qj) (b:U s=qj) (ht:t<iv):U (Q2 k m ch s t)=k+m/\ ∀c∈Q2 k m ch s t,U c=ch+4:=by
 refine⟨V4 .., ?_⟩;unfold Q2;refine uk ?_;have h1:=zk L (show t+1<=iv from ht);have h2:=a.hT;rw [ql] at h1;rw [<-a.hL,qh,qI,b];omega
theorem ON (a:Shp k m ch n iv d L N qj) (c:U s=qj) (ht:t<iv) (e:U (kC (xL (Q2 k m ch s t)) (k+m))<k):_i k m (Q2 k m ch s t)=12:=by
 have b:=Td a c ht;unfold _i;rw [UP a.k1 rfl a.km b.1 b.2,qk e];rfl
theorem MT (a:Shp k m ch n iv d L N qj) (c:U s=qj) (ht:t<iv) (e: ¬U (kC (xL (Q2 k m ch s t)) (k+m))<k):Zm k m (ZY (Q2 k m ch s t)) (xL (Q2 k m ch s t))=0/\_i k m (Q2 k m ch s t)=if Ff (k+m) (xL (Q2 k m ch s t)) (ZY (Q2 k m ch s t)) (VG k m (ZY (Q2 k m ch s t)) (xL (Q2 k m ch s t)))=true then 2 else 0:=by
 have b:=Td a c ht;have h0:Zm k m (ZY (Q2 k m ch s t)) (xL (Q2 k m ch s t))=0:=by rw [UP a.k1 rfl a.km b.1 b.2,qJ e]
 refine⟨h0, ?_⟩;unfold _i;rw [qk h0]
theorem Om (a:Shp k m ch n iv d L N qj) (e:U s=qj) (ht:t<iv) (h0:Zm k m (ZY (Q2 k m ch s t)) (xL (Q2 k m ch s t))=0):U (csV k m (Q2 k m ch s t))=d:=by
 have c:=Td a e ht;have b:=eD a.k1 rfl a.km c.1 c.2 h0;unfold csV;rw [FP (L:=ch) _ (λx f=>b.2 x (j2 f)),qh,b.1,vZ M,a.hd]
theorem nM (h: ∀i,i<t->_i k m (Q2 k m ch s i)=0) (a:_i k m (Q2 k m ch s t)≠0) (ht:t<iv):rdE k m ch n iv s=_i k m (Q2 k m ch s t)/\rdV k m ch n iv s=[]/\rdB k m ch n iv s=[]:=by
 have c:=br h a ht;have b:rdE k m ch n iv s=_i k m (Q2 k m ch s t):=by
  unfold rdE;rw [c,qJ a]
 exact⟨b,by unfold rdV;rw [b,qJ a],by unfold rdB;rw [b,qJ a]⟩
theorem TD (h: ∀i,i<iv->_i k m (Q2 k m ch s i)=0) (b:sr n (Y4 k m ch s iv)=true):rdE k m ch n iv s=2/\rdV k m ch n iv s=[]/\rdB k m ch n iv s=[]:=by
 have a:rdE k m ch n iv s=2:=by
  unfold rdE;rw [qk (kz h),qk b]
 exact⟨a,by unfold rdV;rw [a,qJ FV],by unfold rdB;rw [a,qJ FV]⟩
theorem Mw (h: ∀i,i<iv->_i k m (Q2 k m ch s i)=0) (b:sr n (Y4 k m ch s iv)=false):rdE k m ch n iv s=0/\rdV k m ch n iv s=(Y4 k m ch s iv).take n/\rdB k m ch n iv s=Yu (ch+4) s (iv*(k+m)):=by
 have a:rdE k m ch n iv s=0:=by
  unfold rdE;rw [qk (kz h),qJ (by rw [b];decide)]
 exact⟨a,by unfold rdV;rw [qk a],by unfold rdB;rw [qk a]⟩
end
end
theorem Dr.own {a:I} (h:Dr a w) {size n c:O} {A:q'} {b:S la} (d:xp a base E size (Z A n c) n b):xp w base E size (Z A n c) n b:=qG d (h.below _)
end
end
section
variable {e:V}
section
section
def V3 (e:V):Prop:=0<=e/\e<=15
theorem Qo {p:Prop} [Decidable p] {b:V} (c:V3 a) (d:V3 b):V3 (if p then a else b):=by split<;>assumption
theorem Na:V3 0:=⟨M,M⟩
theorem ok1:V3 1:=⟨M,M⟩
theorem _f:V3 2:=⟨M,M⟩
theorem ok4:V3 4:=⟨M,M⟩
theorem ok5:V3 5:=⟨M,M⟩
theorem ok6:V3 6:=⟨M,M⟩
theorem ok7:V3 7:=⟨M,M⟩
theorem ok8:V3 8:=⟨M,M⟩
theorem rq:V3 13:=⟨M,M⟩
theorem LU:V3 15:=⟨M,M⟩
section
variable {b : qn} {c : Cu}
theorem UN {n:O} (b:V3 c.err) (a:V3 e):V3 (yO c n e).err:=by
 unfold yO;split
 ·exact b
 ·split
  ·exact a
  ·exact Na
theorem VY (b:V3 c.err) (a:V3 e):V3 (vP c e).err:=by
 unfold vP;split
 ·exact a
 ·exact b
theorem Wl (b:qn):V3 (F5 b).2.2:=by
 rcases aS b 0 0 with h|h|h<;>(unfold F5;rw [h])
 ·exact Na
 ·exact ok1
 ·exact _f
theorem MN (b:qn) (m:V):V3 (kE b m).2.2:=by
 unfold kE;split
 ·exact Wl b
 ·split
  ·exact ok6
  ·exact Na
theorem Mm (n:V):V3 (Xv b n c):=Qo rq (Qo ok1 Na)
theorem WL (a:V3 c.err):V3 (X7 b c).2.err:=UN a (Wl _)
theorem QF (m:V) (a:V3 c.err):V3 (jU b m c).2.err:=UN a (MN _ _)
theorem YQ (n:V) (a:V3 c.err):V3 (jW b n c).2.err:=UN a (Mm n)
theorem nG (a:V3 c.err):V3 (j_ b c).2.err:=YQ 1 a
theorem MM (r:qn) (m:V):V3 (Xy r m):=Qo (MN _ _) (Qo ok1 Na)
theorem Um (m:V) (a:V3 c.err):V3 (xa b m c).2.err:=UN a (MM _ _)
theorem W6 (a:V3 c.err):V3 (PW b c).err:=by
 unfold PW;split
 ·exact VY a _f
 ·exact a
end
theorem Pr (b:qn):V3 (QH b):=Qo ok1 (Qo Na ok5)
theorem C9 (b:qn) (n:O): ∀f at_ c a,V3 (Rj b n f at_ c a).1
 |0,at_,c,a=>Qo ok7 Na
 |f+1,at_,c,a=>by
  unfold Rj;split
  ·exact Qo ok7 Na
  ·split
   ·exact ok1
   ·split
    ·exact C9 b n f _ _ _
    ·split
     ·exact ok1
     ·split
      ·exact ok7
      ·exact C9 b n f _ _ _
theorem iF (b:qn) (n at_:O):V3 (gq b n at_).1:=C9 b n n _ _ _
theorem ig (l b:qn) (at_:O):V3 (G5 l b at_):=by
 unfold G5;split
 ·exact Na
 ·exact Qo ok1 ok7
theorem Mo (lf b:qn) (s at_:O):V3 (YC lf b s at_).1:=by
 unfold YC;split
 ·exact ok1
 ·split
  ·exact ig _ _ _
  ·split
   ·exact ok1
   ·exact Na
theorem IH (ls lf b:qn) (at_:O):V3 (XR ls lf b at_).1:=by
 unfold XR;split
 ·exact ig _ _ _
 ·split
  ·exact Na
  ·split
   ·exact Na
   ·exact Mo _ _ _ _
theorem W9 (ls lf b:qn): ∀f c at_ a,V3 (ae ls lf b f c at_ a).1
 |0,c,at_,a=>ok6
 |f+1,c,at_,a=>by
  unfold ae;split
  ·exact IH _ _ _ _
  ·split
   ·split
    ·exact _f
    ·exact Na
   ·split
    ·exact ok6
    ·exact W9 _ _ b f _ _ _
theorem lC (b:qn) (a:O):V3 (B2 b a).1:=by
 unfold B2;split
 ·exact iF _ _ _
 ·split
  ·exact iF _ _ _
  ·exact W9 _ _ _ _ _ _ _
theorem C_ (b:V): ∀l a,V3 (Vk b l a).1
 |[],a=>Na
 |t::r,a=>by
  rw [pY];split
  ·exact ok7
  ·split
   ·exact ok8
   ·split
    ·exact ok6
    ·split
     ·exact C_ b r _
     ·exact C_ b r _
theorem lA (a:V) (l:S (O×V×V)):V3 (Yc a l).1:=by
 unfold Yc;split
 ·exact rq
 ·exact C_ a l _
theorem TG (w n p:O) (a:qn):V3 (bb w n p a).1:=by
 unfold bb;split
 ·split
  ·exact _f
  ·exact Na
 ·split
  ·exact lC _ _
  ·split
   ·exact lA _ _
   ·split
    ·exact _f
    ·exact Na
theorem lE (b:qn):V3 (B3 b).err:=by
 have h1:V3 (g8 b).2.err:=nG Na;have h2:V3 (TT b).err:=by
  unfold TT;split
  ·exact VY h1 _f
  ·exact h1
 have h4:V3 (pr b).2.err:=QF _ (QF _ h2);unfold B3;split
 ·exact VY h4 ok6
 ·exact h4
theorem lR (b:qn):V3 (hZ b).err:=by
 have h7:V3 (Hf b).err:=YQ 4 (YQ _ (lE b));unfold hZ;split
 ·exact h7
 ·exact VY h7 (Pr _)
theorem iG (b:qn):V3 (hH b).1:=by
 have h:V3 (fc b):=Qo (lR b) (TG _ _ _ _);unfold hH;split
 ·exact h
 ·exact Na
theorem MI {b:qn} {d:Bool} {c:Cu} (a:V3 c.err):V3 (CL b d c).2.err:=by
 refine Um _ (Um _ ?_);cases d
 ·exact a
 ·exact nG (WL a)
theorem W_ (b:qn) (e:Bool): ∀f c a,V3 c.err->V3 (ri b e f c a).1
 |0,c,a,_=>Na
 |f+1,c,a,d=>by
  unfold ri;split
  ·exact Na
  ·split
   ·exact MI d
   ·exact W_ b e f _ _ (MI d)
theorem iH (a:Bool) (b:qn):V3 (sc a b).1:=W_ b a _ _ _ Na
theorem ib (b:qn): ∀f d c e,V3 c.err->V3 (Q4 b f d c e).2.err
 |0,d,c,e,a=>a
 |f+1,d,c,e,a=>by
  unfold Q4;split
  ·exact a
  ·exact ib b f _ _ _ (WL a)
theorem iB (b:qn) (n:O): ∀f c d,V3 c.err->V3 (xx b n f c d).2.err
 |0,c,d,a=>a
 |f+1,c,d,a=>by
  unfold xx;split
  ·exact a
  ·refine iB b n f _ _ ?_
   have h:V3 (jU b ((n-U d:O):V) (j_ b c).2).2.err:=QF _ (nG a);unfold fC;dsimp only;split
   ·exact VY h _f
   ·exact h
theorem OO (n:V) (b:qn):V3 (ZG n b).1:=by
 unfold ZG;split
 ·exact rq
 ·dsimp only;split
  ·exact iB _ _ _ _ _ (ib _ _ _ _ _ Na)
  ·exact Na
theorem sj (b:qn) (e w:O): ∀l c a at_ d,V3 (Vi b e w l c a at_ d).1
 |[],c,a,at_,d=>Na
 |x::t,c,a,at_,d=>by
  unfold Vi;split
  ·exact ok1
  ·split
   ·exact _f
   ·split
    ·exact ok8
    ·exact sj b e w t _ _ _ _
theorem Ml (a n:O) (b:qn):V3 (ai a n b).1:=by
 unfold ai;split
 ·exact ok1
 ·dsimp only;split
  ·exact sj _ _ _ _ _ _ _ _
  ·split
   ·exact _f
   ·exact Na
theorem lT (a:V) (b:qn):V3 (B6 a b).1:=by
 unfold B6;split
 ·exact rq
 ·dsimp only;split
  ·exact QF _ Na
  ·split
   ·exact Na
   ·split
    ·exact Ml _ _ _
    ·exact Na
theorem rz (a:qn) (first:Bool) (n:O) (r:qn×Cu) (h:V3 r.2.err):V3 (V8 a first n r).2.err:=by
 unfold V8;split
 ·exact h
 ·dsimp only;split
  ·exact VY h _f
  ·exact h
theorem sQ {b d:qn} {first:Bool} {c:Cu} (a:V3 c.err):V3 (JE b d first c).2.err:=by
 cases first
 ·exact rz _ _ _ _ (Um _ (QF _ a))
 ·exact rz _ _ _ _ (Um _ a)
theorem sZ (b:qn): ∀n first c d,V3 c.err->V3 (QV b n first c d).1
 |0,first,c,d,a=>W6 a
 |n+1,first,c,d,a=>by
  unfold QV;split
  ·exact sQ a
  ·exact sZ b n _ _ _ (sQ a)
theorem ry (b:qn) (size:O): ∀(n:O) (l:S O) (c:Cu) (d:S qn),V3 c.err->V3 (yr b size n l c d).1
 |n,[],c,d,a=>by
  unfold yr;split
  ·exact a
  ·exact Na
 |n,k::t,c,d,a=>by
  unfold yr;split
  ·exact YQ _ a
  ·split
   ·exact sZ _ _ _ _ _ Na
   ·exact ry b _ _ t _ _ (YQ _ a)
theorem rQ (b:qn): ∀f c d,V3 c.err->V3 (Q5 b f c d).2.err
 |0,c,d,a=>a
 |f+1,c,d,a=>by
  unfold Q5;split
  ·exact a
  ·exact rQ b f _ _ (QF _ a)
theorem lW (size:V) (b:qn):V3 (ab size b).1:=by
 unfold ab;split
 ·exact rq
 ·exact ry _ _ _ _ _ _ (rQ _ _ _ _ (QF _ Na))
theorem rZ (c:O): ∀n b a,V3 (yR c n b a).1
 |0,b,a=>by
  unfold yR;split
  ·exact Na
  ·exact _f
 |n+1,b,a=>by
  unfold yR;dsimp only;split
  ·exact lT _ _
  ·split
   ·exact _f
   ·exact rZ c n _ _
theorem lN (size a:V) (b:qn):V3 (r7 size a b).1:=by
 unfold r7;split
 ·exact rq
 ·dsimp only;split
  ·exact lW _ _
  ·split
   ·exact rZ _ _ _ _
   ·exact Na
theorem aq (v:V) (o:Lx):V3 (vM v o):=by
 unfold vM;refine Qo ok4 (Qo Na ⟨M,M⟩)
theorem Oi (b:qn):V3 (pg b).1:=by
 unfold pg;split
 ·exact ok1
 ·split
  ·exact ok1
  ·exact Pr _
theorem rJ (b:qn) (r:O): ∀f c x y,V3 c.err->V3 (Q7 b r f c x y).2.2.err
 |0,c,x,y,a=>a
 |f+1,c,x,y,a=>by
  unfold Q7;split
  ·exact a
  ·exact rJ b r f _ _ _ (QF _ (QF _ a))
theorem Ib (b:qn) (a:O):V3 (tb b a).1:=by
 have h:=W6 (b:=b) (QF (b:=b) 8388608 (QF (b:=b) 8388608 (rJ b (jU b 20000 ⟨0,0⟩).1 (jU b (jU b 20000 ⟨0,0⟩).1 (jU b 20000 ⟨0,0⟩).2).1 (jU b (jU b 20000 ⟨0,0⟩).1 (jU b 20000 ⟨0,0⟩).2).2 [] [] (QF _ (QF _ Na)))));unfold tb;dsimp only;split
 ·exact h
 ·split
  ·exact _f
  ·exact Na
theorem lM (n:O) (c:qn):V3 (Zh n c).1:=by
 unfold Zh;split
 ·exact Pr _
 ·dsimp only;split
  ·exact OO _ _
  ·split
   ·exact _f
   ·exact Na
theorem sJ (o:Lx) (b:qn):V3 (Zo o b).1:=by
 unfold Zo;dsimp only;split
 ·exact show V3 (J8 o) from aq _ _
 ·split
  ·exact Oi _
  ·split
   ·exact Ib _ _
   ·split
    ·exact lM _ _
    ·split
     ·exact Pr _
     ·split
      ·exact lN _ _ _
      ·exact Na
theorem ML (x:Ft) (k:O):V3 (V5 x k).1:=by
 unfold V5;dsimp only;split
 ·exact iG _
 ·split
  ·exact _f
  ·split
   ·exact iH _ _
   ·split
    ·exact _f
    ·exact Na
theorem M0 (x:Ft): ∀f k a,V3 (C0 x f k a).1
 |0,k,a=>by
  unfold C0;split
  ·exact ok6
  ·split
   ·exact LU
   ·exact Na
 |f+1,k,a=>by
  unfold C0;split
  ·exact ML _ _
  ·exact M0 x f _ _
theorem az (b:qn):V3 (V6 b):=Qo ok1 (Qo ⟨M,M⟩ (Qo Na ok4))
theorem M3 (b:qn):V3 (kj b).1:=by
 unfold kj;split
 ·exact az _
 ·split
  ·exact ok4
  ·split
   ·exact Pr _
   ·split
    ·exact ok1
    ·exact Na
theorem M4 (b:qn):V3 (ph b).1:=by
 have h1:V3 (j_ b (jU b 32768 ⟨0,0⟩).2).2.err:=nG (QF _ Na);have h2:V3 (if 1<(j_ b (jU b 32768 ⟨0,0⟩).2).1.toNat then vP (j_ b (jU b 32768 ⟨0,0⟩).2).2 2 else(j_ b (jU b 32768 ⟨0,0⟩).2).2).err:=by
  split
  ·exact VY h1 _f
  ·exact h1
 exact Qo (QF _ (QF _ h2)) (aq _ _)
theorem nL (b:qn) (c:Cu):V3 (Vd b c).1:=by
 unfold Vd;dsimp only;split
 ·exact iG _
 ·split
  ·exact iH _ _
  ·split
   ·exact _f
   ·exact Na
theorem sX (b:qn) (r:O): ∀f c a,V3 (PN b r f c a).1
 |0,c,a=>by
  unfold PN;split
  ·exact _f
  ·split
   ·exact ok6
   ·exact Na
 |f+1,c,a=>by
  unfold PN;split
  ·exact nL _ _
  ·exact sX b r f _ _
theorem Ic (b:qn):V3 (JZ b).1:=by
 unfold JZ;dsimp only;split
 ·exact M3 _
 ·split
  ·exact M4 _
  ·split
   ·exact sX _ _ _ _ _
   ·exact Na
theorem M5 (b:qn):V3 (Y7 b).1:=by
 have h1:V3 (j_ b (jU b 32768 (jW b 5 ⟨0,0⟩).2).2).2.err:=nG (QF _ (YQ _ Na));have h2:V3 (if 1<(j_ b (jU b 32768 (jW b 5 ⟨0,0⟩).2).2).1.toNat then vP (j_ b (jU b 32768 (jW b 5 ⟨0,0⟩).2).2).2 2 else(j_ b (jU b 32768 (jW b 5 ⟨0,0⟩).2).2).2).err:=by
  split
  ·exact VY h1 _f
  ·exact h1
 unfold Y7;dsimp only;generalize (if 1<(j_ b (jU b 32768 (jW b 5 ⟨0,0⟩).2).2).1.toNat then vP (j_ b (jU b 32768 (jW b 5 ⟨0,0⟩).2).2).2 2 else(j_ b (jU b 32768 (jW b 5 ⟨0,0⟩).2).2).2)=a at*;split
 ·exact YQ _ (QF _ h2)
 ·split
  ·exact Pr _
  ·dsimp only;exact aq _ _
theorem M6 (b:qn):V3 (Vh b).1:=by
 unfold Vh;dsimp only;split
 ·exact az _
 ·split
  ·exact ok4
  ·split
   ·exact M5 _
   ·split
    ·exact sJ _ _
    ·exact Na
theorem M7 (x:V×Lx×Ft) (h:V3 x.1):V3 (Zk x).1:=by
 unfold Zk;dsimp only;split
 ·exact h
 ·split
  ·exact M0 _ _ _ _
  ·exact Na
theorem n_ (b:qn):V3 (Hb b).1:=by
 unfold Hb;split
 ·exact ok1
 ·split
  ·exact Na
  ·split
   ·exact Na
   ·exact ok5
theorem rX (f:O->V) (h: ∀t,V3 (f t)): ∀n,V3 (XS f n)
 |0=>Na
 |n+1=>by
  unfold XS;split
  ·exact h _
  ·exact rX f h n
theorem Ol (k m:O) (a:S qn) (g:S Bool):V3 (Zm k m a g):=by
 unfold Zm;repeat' (first|exact Na|exact rq|exact⟨M,M⟩|split)
theorem lO (k m:O) (a:S qn):V3 (_i k m a):=Qo (Qo _f Na) (Ol _ _ _ _)
theorem lI (k m ch n iv:O) (s:qn):V3 (rdE k m ch n iv s):=Qo (Qo _f Na) (rX _ (λt=>lO _ _ _) _)
theorem O0 (k m ch n:V):V3 (ZM k m ch n):=Qo (Qo Na ok6) rq
theorem lL (k m ch n:V) (s:qn):V3 (_m k m ch n s):=by
 unfold _m;split
 ·exact O0 _ _ _ _
 ·split
  ·exact ok1
  ·split
   ·exact _f
   ·exact lI _ _ _ _ _ _
theorem Nq (b:qn):V3 (V7 b).1:=by
 unfold V7;dsimp only;split
 ·exact n_ _
 ·split
  ·exact Qo _f (aq _ _)
  ·split
   ·exact lL _ _ _ _ _
   ·exact Na
theorem M8 (b:qn):V3 (ZX b).1:=by
 unfold ZX;dsimp only;split
 ·exact Nq _
 ·split
  ·exact sJ _ _
  ·exact Na
theorem M9 (b:qn):V3 (YU b):=Qo Na (Qo Na (Qo ok5 (az b)))
theorem Th (b:qn):V3 (QW b):=Qo (Ic b) (Qo (M7 _ (M6 b)) (Qo (M7 _ (M8 b)) (M9 b)))
end
end
end
section
section
open Go.RowKit
def OG (b0 g:O) (b:S qn) (W:I) (e:Ending) (a:I):Prop:=e=t' (BA #[])/\ug a b0 g b/\jO [99,9] b0 W a
theorem tE (W:I) (b0 g:O) (d:S (S AB)) (s:S AB) (h:ug W b0 g d) (t:b0<=(W:O)) (E:U d<=100000):
  xG 135 #[Lj s,mJ g] W (OG b0 g (d++[s]) W):=by
 obtain⟨A,c,a,b,f⟩:=h;obtain⟨x,hi,p,e,q⟩:=qA XJ;replace hi:=T hi;replace p:=T p;replace e:=T e;replace q:=T q;have c0:=a.cell 0;have B:=a.frozen 0;simp only [qR,qt] at c0;generalize o:U d=n at*
 replace o:=T o;have u:n+1<=maxLen:=SJ;have y:(n+1)*16<=140737488355328:=M;replace a:=T a;replace b:=T b;replace f:=T f;unfold Lj;generalize r:(ByteArray.mk s.toArray)=j at*
 have v:G (Lj s= .string j):=by rw [Hid,<-r];rfl
 clear r;go_enter func135,ntmps135
 go_wp2_with (at_builtin;refine qF _ rfl (.tmp 3) (.tmp 5) 99 rfl b0 9 x (.string "".toUTF8) 1 16 jD hi p e q rfl M A n c _ rfl (b.alloc _) ((W:O)+1) W 1 1 [.string j] rfl (zU _ _ _) (IB rfl) u y (qv t s8) ?_;intro F D C l m _;rw [<-v.out] at l;have h3:=ug.push o a b f t m l;have i:=(((qE.refl (K' A) _).grown m (λk a=> .inl a)).blk (a.alloc (Y #[.string j] 9)) (λw=>qT b a FV g w rfl));have z:=i.cell 0;have k3:=i.frozen 0;simp only [qR,qt] at z;replace h3:=T h3;clear l m i)
 go_end0
 exact⟨rfl,h3.out⟩
theorem tR (W:I) (b0 g:O) (d:S (S AB)) (s:S AB) (h:ug W b0 g d) (r:b0<=(W:O)) (H:U d<=100000) (C:U s<=100000):
  xG 136 #[Lj s,mJ g] W (OG b0 g (d++[64::s]) W):=by
 obtain⟨A,c,a,b,f⟩:=h;obtain⟨y,hi,o,e,p⟩:=qA XJ;replace hi:=T hi;replace o:=T o;replace e:=T e;replace p:=T p;have c0:=a.cell 0;have D:=a.frozen 0;simp only [qR,qt] at c0;generalize m:U d=n at*
 replace m:=T m;have t:n+1<=maxLen:=SJ;have z:(n+1)*16<=140737488355328:=M;have x:=λW=>pC (P:=prog) [64] s s8 M W;replace a:=T a;replace b:=T b;replace f:=T f;unfold Lj;rw [show([64]:S AB)++s=64::s from rfl,show([64]:S AB).toArray= #[64] from rfl] at x
 generalize v:(ByteArray.mk s.toArray)=L at*
 generalize q:(ByteArray.mk (64::s).toArray)=S2 at*
 have u:G (Lj (64::s)= .string S2):=by rw [Hid,<-q];rfl
 clear v q C;go_enter func136,ntmps136
 go_wp2_with (at_builtin;refine qF _ rfl (.tmp 3) (.tmp 6) 99 rfl b0 9 y (.string "".toUTF8) 1 16 jD hi o e p rfl M A n c _ rfl (b.alloc _) ((W:O)+1) W 1 1 [.string S2] rfl (zU _ _ _) (IB rfl) t z (qv r s8) ?_;intro K F E j l _;rw [<-u.out] at j;have h3:=ug.push m a b f r l j;have i:=(((qE.refl (K' A) _).grown l (λk a=> .inl a)).blk (a.alloc (Y #[.string S2] 9)) (λw=>qT b a FV g w rfl));have B:=i.cell 0;have k3:=i.frozen 0;simp only [qR,qt] at B;replace h3:=T h3;clear j l i)
 go_end0
 exact⟨rfl,h3.out⟩
def EX (W:I) (b0 g:O) (bs:qn):Prop:= ∃A c,F' W g 30 #[Z A bs c]/\xp W b0 5 1 (Z A bs c) bs (bs.map B8)/\b0<=g
theorem Bz {w:I} {n c:O} {A:q'} {f:S la} (h:xp w base E 1 (Z A n c) n f):xp w base E 1 (Z A 0 c) 0 []:=by
 obtain⟨l,⟨h0,h1⟩|⟨k,cap,cur,a,d,b,h1,h2,h3,h4⟩⟩:=h
 ·injection h0 with i m e;subst i;subst e;exact qP _ _ _ _
 ·injection a with g _ j;subst g;subst j;exact⟨rfl, .inr ⟨k,c,cur,rfl,d,b,qp _,h2,h3,s8⟩⟩
def VB (f:qn->qn) (row:qn) (a:S qn):S qn:=if row=[] then a else a++[f (row.take 24)]
def Told (gf:O) (f:qn->qn):Prop:= ∀(W:I) (b0 g:O) (a:S qn) (s:qn),ug W b0 g a->b0<=(W:O)->U a<=100000->U s<=24->xG gf #[Lj s,mJ g] W (OG b0 g (a++[f s]) W)
structure WS (W:I) (b0 gr gw g:O) (fv:la) (bs:qn) (out:S qn):Prop where
 row:EX W b0 gr bs
 fn:F' W gw 219 #[fv]
 outs:ug W b0 g out
 bs:b0<=(W:O)
theorem mN (gf:O) (f:S AB->S AB) (Q:Told gf f) (eg: ∀args w,(callFunc gf args).run prog w= .ok (.enter gf args) w) (W:I) (b0 d t g:O) (bs:S AB) (i:S (S AB)) (h:WS W b0 d t g (.func (.func gf) #[] #[mJ g]) bs i) (hl:U i<=100000) (M':U bs<=100000):
  xG 182 #[mJ d,mJ t] W λe a=>e=t' (BA #[])/\WS a b0 d t g (.func (.func gf) #[] #[mJ g]) [] (VB f bs i)/\r' b0 W a:=by
 obtain⟨⟨A,c,k,l,j⟩,u,ih,C⟩:=h;obtain⟨qj,hi,X,v,ck⟩:=qA xR;have cL:=k.cell 0;have kr:=k.frozen 0;simp only [qR,qt] at cL;have N:=u.cell 0;simp only [qR,qt] at N;have z':=λW=>WX (P:=prog) 30 5 qj 1 qu hi v A bs c 0 .i64 (qp _) W;rw [show((0:O):V)=0 from rfl] at z'
 have x:=T k;have ln:=T l;have F:=T u;have E:=T ih;have D':=jC l;by_cases z:bs=[]
 ·subst z
  rw [show([]:S AB).length=0 from rfl] at*
  have HT:G (VB f [] i=i):=rfl;clear hi X v ck k l u ih eg;go_enter func182,ntmps182
  go_wp2_with fail
  go_end0
  refine⟨rfl, ?_, ?_⟩
  ·rw [HT.out]
   have b:jO [30] b0 W (W.setCell d (Z A 0 c)):=(jO.refl _ _ _).zh x s8 j 0 _;exact⟨⟨A,c,by simpa using x.zh 0 (Z A 0 c),b.own (Bz ln) FV,j⟩,b.blk F FV,E.keep b FV FV,by rw [zO];exact C⟩
  ·exact(qZ _ _).setCell (p:= d) j _
 ·have hp:0<U bs:=JA.2 z
  have J':(0:V)<(U bs:V):=M;have hm:min (U bs:V) 24=((min (U bs) 24:O):V):=by omega
  have I':=λW=>WX (P:=prog) 30 5 qj 1 qu hi v A bs c (min (U bs) 24) .i64 M W;have r: ∀a,jO [99,9] b0 W a->i' a t=J (.func (.func gf) #[] #[mJ g])/\i' a d=J (Z A bs c)/\(convert 30 9 (Z A (min (U bs) 24) c)).run prog a= .ok (.string ⟨(bs.take (min (U bs) 24)).toArray⟩) a:=λa D=>
   ⟨by have:=(D.blk u FV).cell 0;simpa using this,by have:=(D.blk k FV).cell 0;simpa using this,Kf (P:=prog) (w:=a) (c:=c) 30 9 5 qu xS ju ((E'.zY (D.own l FV)).takeN (xK _ _))⟩
  have hT:G (VB f bs i=i++[f (bs.take (min (U bs) 24))]):=by
   rw [Hid,VB,qJ z];congr 3;rcases Nat.le_total bs 24 with h|h
   ·rw [vZ h,jP,qH h]
   ·rw [Nat.min_eq_right h]
  have u':U (bs.take (min (U bs) 24))<=24:=by rw [qh];omega
  have o:=λW hx hy=>T (Q W b0 g i (bs.take (min (U bs) 24)) hx hy hl u');replace o:=T o;generalize bs.take (min (U bs) 24)=s at*
  generalize L:min (U bs) 24=m at*
  generalize uK:U bs=n at*
  replace L:=T L;replace uK:=T uK;replace r:=T r;have hh:jO [99,9] b0 W W.drew:=(jO.refl _ _ _).dr ((Dr.refl W).drewN 1);have y:=T hh;have R:=T (E.keep ((jO.refl [] b0 W).dr ((Dr.refl W).drewN 1)) s8 s8);unfold OG Lj at o;generalize cB:Value.func (.func gf) #[] #[mJ g]=fv at*
  clear k l u ih z hi X v ck Q hh;subst cB;go_enter func182,ntmps182
  go_wp2_with fail;refine zv 8 (λa=>i' a t=J (.func (.func gf) #[] #[mJ g])/\i' a d=J (Z A n c)/\(convert 30 9 (Z A m c)).run prog a= .ok (.string ⟨s.toArray⟩) a) AL (r.out _ y) (λiv=> ?_)
  refine zq [0,1,2,3,4,5] (a':= ?_) ?_;refine zq [6] (a':= ?_) ?_;refine IA 7 rfl AL SQ (λK cK=> ?_);go_simp
  (refine((o.out W.drew R C).out).mono ?_;rintro e H ⟨rfl,cY,b⟩)
  refine cK _ _ ((r.out _ (y.trans b))) (λiv=> ?_);clear cK K;try simp only [Act.put,qQ,qY,qV]
  refine zV AL ?_ _;have q:=T (y.trans b);have B:=T (q.blk x FV);have iL:=T (q.own ln FV);have p':=T (q.blk F FV);have d':=T cY;have r2:=B.cell 0;have G':=B.frozen 0;simp only [qR,qt] at r2;have m':b0<=(H:O):=qv C q.size;clear b cY iv o r R y cL kr N x ln F E
  go_wp2_with fail
  go_end0
  refine⟨rfl, ?_,q.below.trans ((qZ _ _).setCell (p:= d) j _)⟩;rw [hT.out];have b:jO [30] b0 H (H.setCell d (Z A 0 c)):=(jO.refl _ _ _).zh B s8 j 0 _;exact⟨⟨A,c,by simpa using B.zh 0 (Z A 0 c),b.own (Bz iL) FV,j⟩,b.blk p' FV,d'.keep b FV FV,by rw [zO];exact m'⟩
end
end
section
section
open Go.RowKit Go.Shelf
attribute [local go_sem] J4
def Ym (A:q') (ch N x:O):Value:=Z (A.map (·.add (x*ch))) (min ch (N-x*ch)) (min ch (N-x*ch))
theorem NZ (A:q') (n c i s ch:O) (g:s=i+ch) (h1:1<=ch) (e:s<=c) (W:I):
  (Instr.slice 99 (Z A n c) (some (i:la)) (some (s:la)) (some (s:la))).run prog W= .ok (Z (A.map (·.add i)) ch ch) W:=by
 have ht:prog.underlying 99=J (.slice (prog.elem 99)):=AL;rw [run_slice_lhm W _ A n c ht .i64 .i64 .i64 (i:V) _ (s:V) M M (Int.le_refl _) M];have b:(sizeOf (prog.elem 99)).run prog W= .ok 1 W:=by
  obtain⟨j,hi,f,a,h⟩:=qA XJ;have d:prog.elem 99=9:=AL;rw [d];simp [sizeOf,typeInfo,hi,a]
 rw [b];simp only [Result.andThen,zc,sliced];rw [qJ M,z_,show s-i=ch by omega]
theorem G9 (F:Fence) (n:O) (hf:F.fn 178) (D:F.round=none) (hn:1<=n) (l z y:O) (A:q') (N c ch q:O) (iv: ∀k,k<q↔k*ch<N) (h1:1<=ch) (P':ch<=1000) (hc:N<=c) (O':N<=100000000) (hh X:S (Fin q)->I->Prop) (cY: ∀s W m,hh s W->hh s (W.drewN m))
  (cK: ∀d x W,hh d W->U d<q->YieldAt F (n-1) prog l #[Ym A ch N x.val] W λe g=>
   (e=t' true/\hh (d++[x]) g/\QP z y W g)\/(e=t' false/\X (d++[x]) g))
  (W:I) (G':i' W z=J (Z A N c)) (OX:i' W y=J (ch:la)) (h0:hh [] W):
  CallsIn F n prog 178 #[.func (.yield l) #[] #[],mJ z,mJ y] W λe g=>(∃v,e=t' v)/\
   ((∃R,R=List.finRange q/\hh R g)\/(∃d,(∃k,k<=q/\d=(List.finRange q).take k)/\X d g)):=by
 obtain⟨i0,hi,N6,cL,N'⟩:=qA XJ;have w:=T (λ(i:O) (h:i<=N)=>jI (P:=prog) 99 9 i0 1 jD hi cL A N c i .i64 h);have u:=T (λ(i s L:O) (h2:s=i+L) (h1:1<=L) (h3:s<=c)=>NZ A N c i s L h2 h1 h3);clear hi N6 cL N';have qj:=T iv;clear iv;refine callsIn_of_wp func178 rfl hf ?_ D;simp only [ntmps178,xd,qf,zF,Nat.reduceAdd,Nat.reduceSub,ya,yA,QI,yI,xY,Qy];gi_wp2;gi_loopw [4] (λln wr=> ∃k i:O,k<=q/\ln=(i:la)/\i<=100001000/\G (i=k*ch)/\hh ((List.finRange q).take k) wr/\QP z y W wr)
  (λln _=>N-(intOf ln).toNat)
 ·exact⟨0,0,qp _,rfl,qp _,by show 0=0*ch;rw [jd],h0,QP.refl _ _ _⟩
 ·obtain⟨k,i,hk,rfl,S',f,r,t⟩:=hrel;have c1:=(t _).1 G';have c2:=(t _).2 OX;by_cases a:k<q
  ·have U':i<N:=by rw [f.out];exact(qj k).1 a
   by_cases Q:N-i<ch
   focus
    have B:i+(N-i)<=N:=M;have I':=j' i N;obtain⟨s,b⟩:=zn (i+(N-i));have d':s<=1000000000:=M;have J':i<s:=M;have M':=vv s c;have hcut:=w i M;have N9:=u i s (N-i) b M M;have iL:N-i<ch:=Q;have m':min (ch:V) ((N-i:O):V)=((N-i:O):V):=M;have o:Ym A ch N (⟨k,a⟩:Fin q).val=Z (A.map (·.add i)) (N-i) (N-i):=by
     unfold Ym;dsimp only;rw [<-f.out];rw [show min ch (N-i)=(N-i) by omega]
    have u':(0:V)<=((N-i:O):V):=M;generalize A.map (·.add i)=Ai at*;have z':1<=(N-i):=M;have cB:(i:V)+(((N-i):O):V)=(s:V):=M
   rotate_left
   focus
    have B:i+ch<=N:=M;have I':=j' i N;obtain⟨s,b⟩:=zn (i+ch);have d':s<=1000000000:=M;have J':i<s:=M;have M':=vv s c;have hcut:=w i M;have N9:=u i s ch b M M;have iL: ¬N-i<ch:=Q;have m':min (ch:V) ((N-i:O):V)=(ch:V):=M;have o:Ym A ch N (⟨k,a⟩:Fin q).val=Z (A.map (·.add i)) ch ch:=by
     unfold Ym;dsimp only;rw [<-f.out];rw [show min ch (N-i)=ch by omega]
    have u':(0:V)<=((N-i:O):V):=M;generalize A.map (·.add i)=Ai at*;have z':1<=ch:=M;have cB:(i:V)+((ch:O):V)=(s:V):=M
   all_goals
    generalize p:N-i=ni at*;replace p:=T p;clear B;replace b:=T b;gi_wp2;refine wpIn_region_quiet_lit D AL AL ?_;repeat (gi_big_quiet_step (fail))
    refine wpQuietIn_nil ?_;intro _ C;obtain⟨nq,ih⟩:=C;subst ih;obtain⟨fn,tmps,p',D',uK,K⟩:=cK _ ⟨k,a⟩ (wr.drewN nq) (cY _ _ _ r) (by rw [qh,ye];omega);rw [o] at uK;clear o hcut;gi_wp2;refine K.mono ?_;rintro e W3 (⟨rfl,H,j⟩|⟨rfl,E⟩)
    ·have ck:=(j _).2 c2;gi_wp2;refine xk ?_;exact⟨k+1,i+ch,M,by first|rfl|(simp;done)|(simp;omega),M,by show i+ch=(k+1)*ch;rw [ql,<-f.out],by rw [Vv q k a];exact H,t.trans (λv=>j v)⟩
    ·gi_wp2;refine qW (results_none rfl _ _ _) rfl ?_;exact⟨⟨_,rfl⟩, .inr ⟨_,⟨k+1,M,(Vv q k a).symm⟩,E⟩⟩
  ·obtain rfl:k=q:=M;have Q':(N:V)<=(i:V):=by have h:=λe=>(qj k).2 e;have:=f.out;have: ¬k*ch<N:=λe=>Nat.lt_irrefl _ (h e);omega
   rw [qH s8] at r;gi_wp2;go_end0;exact⟨⟨_,rfl⟩, .inl ⟨_,rfl,r⟩⟩
theorem G_ (F:Fence) (n:O) (B:F.fn 178) (o:F.round=none) (C:1<=n) (b a:O) (A:q') (N c ch q:O) (u: ∀k,k<q↔k*ch<N) (h1:1<=ch) (v:ch<=1000) (D:N<=c) (j:N<=100000000) (w:I)
  (H:i' w b=J (Z A N c)) (ln:i' w a=J (ch:la)) (d:b<(w:O)) (i:a<(w:O)):
  SeqStopsK F n prog 178 #[mJ b,mJ a] (λx:Fin q=> #[Ym A ch N x.val]) (QP b a) (λt=>t=List.finRange q) (λh=> ∃k,k<=q/\h=(List.finRange q).take k) q w:=λl K E W g y _ z h0=>
 G9 F n B o C l b a A N c _ q u h1 v D j K E (λs f m d=>y s f _ none d ⟨rfl,rfl,rfl,qx _,λ_ _ _=>rfl⟩ (λr e=>by cases e)) z W ((g.cell (p:= b) d).trans H) ((g.cell (p:= a) i).trans ln) h0
def fP (a b:O):Value:= .func (.func 178) #[] #[mJ a,mJ b]
theorem Ti (A:q') (N c ch:O) (w:I) (h1:1<=ch):
  xG 127 #[Z A N c,ch] w λe w'=>e=t' (fP w ((w:O)+1))/\(w (Y #[Z A N c] 99)) (Y #[ch] 3)=w':=by
 unfold fP;have a: ¬((ch:V)<1):=M;go_wp2;go_ret;exact⟨rfl,rfl⟩
end
end
end Go.Proofs.YtfnlfpcfkbdcmaaGreatDoor
