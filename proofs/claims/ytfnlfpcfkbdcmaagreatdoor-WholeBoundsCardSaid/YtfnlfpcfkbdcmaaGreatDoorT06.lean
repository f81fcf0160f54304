import Derived.Test.YtfnlfpcfkbdcmaaGreatDoorT03
import Derived.Test.YtfnlfpcfkbdcmaaGreatDoorT04
import Derived.Test.YtfnlfpcfkbdcmaaGreatDoorT05
set_option linter.unusedSimpArgs false
set_option linter.unusedVariables false
set_option maxRecDepth 100000
set_option maxHeartbeats 0
open Go.Proofs.Tryz
namespace Go.Proofs.YtfnlfpcfkbdcmaaGreatDoor
open Go.RowKit
section
variable {A:q'}{B C i n t:O}{a:Type}{bs:qn}{w:I}
def dy (i j:O):UInt8:=if i=j then 1 else 0
def Vq (k i j:O):UInt8:=fi (UInt8.ofNat ((k+i)^^^j))
theorem wo (i j:O) (w:I):xG 291 #[i,j] w λe w'=>e=t' (gR ((dy i j).toNat:V))/\w=w':=by
 unfold dy;by_cases h:i=j
 ·subst h;go_wp2;go_ret;exact⟨s8,rfl⟩
 ·have a:((i:V)==(j:V))=false:=by rw [zE];omega
  rw [qJ h];clear h;go_wp2;go_ret;exact⟨rfl,rfl⟩
theorem AJ (k m i j p:O) (w:I) (c:k+m<=255) (hi:i<m) (l:j<k) (g:i' w p=J (k:la)):
  xG 143 #[i,j,mJ p] w λe w'=>e=t' (gR ((Vq k i j).toNat:V))/\w=w':=by
 have a:(k+i)^^^j<256:=vz (n:=8) M M;have o:bits .xor .i64 ((k:V)+(i:V)) (j:V)=(((k+i)^^^j:O):V):=by
  rw [<-xe];exact a_ _ j M M
 have h:=wG _ w a;have b:G (((Vq k i j).toNat:V)=((tv ((k+i)^^^j):O):V)):=by
  unfold Vq Hid;rw [fT,zS,show((k+i)^^^j)%2^8=(k+i)^^^j from jk a]
 rw [b.out];generalize e13 ((k+i)^^^j)=d,tv ((k+i)^^^j)=f,(k+i)^^^j=x at*;replace h:=T h;go_in;go_wp2_with fail;refine Ω h ?_;go_wp2;go_ret;exact⟨rfl,rfl⟩
def Ps (w:I) (r c:O) (a:qn) (b:V) (e:Ending) (w':I):Prop:=
 ∃A k,e=t' (BA #[.agg (mC r c (Z A a k)),b])/\xp w' w 5 1 (Z A a k) a (a.map B8)/\r' w w w'
theorem zN {a:Func} {p s:Tmp} {b:TypeId} (h:a.results= #[.cell p b, .tmp s]) (tmps:Array la) (w:I) (g:O) (c:Array la) (v:la)
  (i:tmps.getD p undef=mJ g) (e:tmps.getD s undef=v) (d:(loadVar b g).run prog w= .ok (.agg c) w):
  (results a tmps).run prog w= .ok (BA #[.agg c,v]) w:=by
 have j:tmps[p]?.getD undef=mJ g:=by simpa using i
 have f:tmps[s]?.getD undef=v:=by simpa using e
 simp [results,h,j,f,asAddr,d]
theorem AX (n:O) (w:I) (l:n<=255):xG 277 #[n] w (Ps w n n (zP n dy (n*n)) 0):=by
 have H:=VI n;rw [show aj (n:V)=true by unfold aj;simp;omega] at H;replace H:=λw=>T (H w);have v:=(jb YE).1;have y:=λW=>T (AQ n n _ W l l (λi j s _ _ _=>wo i j s));have m:=yj n dy (n*n);unfold Ps;rw [m];clear m;generalize n*n=a at*;go_in;go_wp2_with fail;refine Ω (H _).out ?_;go_wp2_with fail;have d:F' (w (Y #[(),(),z8] 154)) (w:O) 154 (mC 0 0 z8):=F'.new _ _ _;have c:r' (w:O) w (w (Y #[(),(),z8] 154)):=j1 _;generalize w (Y #[(),(),z8] 154)=x at*;refine(y _).out.mono ?_;rintro e u ⟨b,c2,rfl,h,f⟩;have k:=T (d.below f d.lt);have q:=T (c.trans (f.mono c.size));have t:=T (show xp u (w:O) 5 1 (Z b a c2) a ((zP n dy a).map B8) from⟨h.1,h.2.imp id λ⟨g,cap,cur,p,o,r⟩=>⟨g,_,_,p,qv c.size o,r⟩⟩);clear d c f h;go_wp2_with (refine qC rfl 154 _ _ rfl (w:O) (mC n n (Z b a c2)) rfl rfl 154 (mC 0 0 z8) k j9 rfl (Jb _ _ _ _ _) ?_);exact qW (zN rfl _ _ _ _ _ rfl rfl (qN _ _ _ _ _ _ _ (k.row _) zL rfl j9)) rfl ⟨b,_,rfl,ZJ t k _,zu q (qx _) _⟩
theorem Uz (R C i:O) (A:q') (n k:O) (w:I) (t:R<=255) (s:C<=255) (hi:i<R) (r:n=R*C) (j:n<=k):
  xG 276 #[.agg #[R,C,Z A n k],i] w λe w'=>e=t' (Z (xo A k (i*C) 1) C (k-i*C))/\r' w w w':=by
 have y:(i+1)*C<=R*C:=zk _ hi;have D:=fN t s;obtain⟨l,f,v,c,x⟩:=qA xR;obtain⟨p,a⟩:=zn (i*C);have d:(i+1)*C=p+C:=by rw [a,ql]
 have E:(i:V)*(C:V)=(p:V):=by rw [a,zB]
 have m:((i:V)+1)*(C:V)=((p+C:O):V):=by rw [<-d,zB];rfl
 obtain⟨q,g⟩:=zn (p+C);rw [<-g] at m;have u:=Vo _ 5 l 1 qu f c A n k p q .i64 .i64 M M;rw [<-a];have B:q<=65025:=M;have z:p<=65025:=M;have h:q-p=C:=M;rw [h] at u;have b: ∀o,r' w w (w.alloc o):=λo=>j1 o;replace b:=T b;clear a d y f v c x r j g h;go_wp2;go_ret;exact⟨rfl,b.out _⟩
def AV (bs:qn) (C i:O):qn:=(bs.drop (i*C)).take C
theorem NS (bs:qn) (R C i:O) (h:U bs=R*C) (hi:i<R):U (AV bs C i)=C:=by
 have a:(i+1)*C<=R*C:=zk _ hi;rw [ql] at a;unfold AV;rw [qh,qI];omega
theorem bj {k R C i:O} (h:E' w B 1 A n (bs.map B8)) (c:n=R*C) (hi:i<R) (a:n<=k):E' w B 1 (xo A k (i*C) 1) C ((AV bs C i).map B8):=by
 have b:(i+1)*C<=R*C:=zk _ hi;rw [ql] at b;exact(h.VC (k:=i*C) M a).takeN M
def Vp (bs:qn) (R C:O):S V->qn->Option qn
 |[],a=>some a
 |x::r,a=>if 0<=x/\x<(R:V) then Vp bs R C r (a++AV bs C x.toNat) else none
theorem o_ {r c:V} (h:Hw r c n=true): ∃R C:O,r=(R:V)/\c=(C:V)/\R<=255/\C<=255/\n=R*C:=by
 unfold Hw at h;simp only [zd] at h;obtain⟨⟨h1,h2⟩,⟨h3,h4⟩,h5⟩:=h;refine⟨r.toNat,c.toNat,M,M,M,M, ?_⟩;have a:r=(r.toNat:V):=M;have b:c=(c.toNat:V):=M;rw [a,b,<-zB] at h5;exact_mod_cast h5
theorem RH {a:S V} (h:E' w B 1 A n (a.map I64)) (d:0<n): ∃b,A=some b/\ ∀j (c:j<U a),i' w (b.add j)=J (e' a[j]):=by
 obtain⟨b,f,_,e⟩:=h.2 d;exact⟨b,f,λj c=>e j _ (by rw [qD,qX c];rfl)⟩
theorem AY (bs:qn) (R C:O) (a:S V) (j:O) (c:j<U a) (b:qn):Vp bs R C (a.drop j) b=if 0<=a[j]/\a[j]<(R:V) then Vp bs R C (a.drop (j+1)) (b++AV bs C a[j].toNat) else none:=by
 rw [zK c];rfl
theorem PY (c:E' w B 1 A n (bs.map B8)): ∀u∈bs.map B8,u.oneCell'=true:=by
 intro u a;obtain⟨b,_,rfl⟩:=jB.1 a;rfl
theorem Oq (R C:O) (A A':Option Addr) (n k a k':O) (bs:S AB) (o:S V) (w:I) (hR:R<=255) (hC:C<=255) (N:n=R*C) (p':n<=k) (h255:a<=255)
  (h:E' w (w:O) 1 A n (bs.map B8)) (h':E' w (w:O) 1 A' a (o.map I64)) (P0:Ending->I->Prop)
  (cY: ∀b,Vp bs R C o []=some b-> ∀e w',Ps w a C b 0 e w'->P0 e w') (hN:Vp bs R C o []=none-> ∀e w',Ps w 0 0 [] 13 e w'->P0 e w'):
  xG 259 #[.agg #[R,C,Z A n k],Z A' a k'] w P0:=by
 have uK:=λW=>T (cG R C A n k W);unfold mC at uK;have cL:Hw (R:V) (C:V) n=true:=by
  unfold Hw;rw [N,zB];simp;omega
 rw [cL] at uK;have hl:U o=a:=by have:=h'.1;simpa using this
 have M':U bs=R*C:=by have:=h.len;omega
 have hz:=(jb YE).1;obtain⟨i0,hi,iv,cK,I'⟩:=qA xR;replace hi:=T hi;replace iv:=T iv;replace cK:=T cK;replace I':=T I';replace cY:=T cY;replace hN:=T hN;have RA:=T (λ(i:O) (W:I) (hi:i<R)=>Uz R C i A n k W hR hC hi N p');have RR:=T (λ(i:O) (W:I) (hi:i<R) (hB:r' (w:O) w W)=>bj (i:=i) (h.below hB) N hi p');have RL:=T (λ(i:O) (hi:i<R)=>NS bs R C i M' hi);have L:=T hl;have H':=T h';clear cL h h' N p' hl M';go_enter func259,ntmps259
 go_wp2_with fail;refine(uK _).out.mono ?_;rintro e r ⟨rfl,K⟩;have t:F' r (w:O) 154 (mC R C (Z A n k)):=F'.below ((F'.new w _ _).alloc _) K SZ
 have f:F' r ((w:O)+1) 154 (mC 0 0 (Z none 0 0)):=by
  refine F'.below ?_ K s8;have h:=F'.new (w (Y #[R,C,Z A n k] 154)) 154 (mC 0 0 (Z none 0 0));simpa [mC] using h
 have hh:=((qZ (w:O) w).alloc (qx _) (Y #[R,C,Z A n k] 154)).alloc s8 (Y #[(),(),Z none 0 0] 154)|>.trans (K.mono SZ);have y1:i' r ⟨(w:O),1,none⟩=J (C:la):=t.cell 1;have Q':(w:O)+1<(r:O):=f.lt;replace hh:=T hh;replace t:=T t;replace f:=T f;clear K
 go_wp2_with fail;have Q:=zi hh (Y #[a,C,Z none 0 0] 154);have G':=t.alloc (Y #[a,C,Z none 0 0] 154);have m':=f.alloc (Y #[a,C,Z none 0 0] 154);have iL:F' (r (Y #[a,C,Z none 0 0] 154)) r 154 (mC a C (Z none 0 0)):=F'.new _ _ _;generalize r (Y #[a,C,Z none 0 0] 154)=w3 at*
 generalize (r:O)=g at*
 replace Q:=T Q;replace G':=T G';replace m':=T m';replace iL:=T iL;clear hh t f y1 hz uK;go_loopw [25] (λd' wr=> ∃(j c:O) (d:Option Addr) (b:S AB),d'=(j:la)/\j<=a/\G (r' (w:O) w wr)/\G (F' wr (w:O) 154 (mC R C (Z A n k)))/\G (F' wr ((w:O)+1) 154 (mC 0 0 (Z none 0 0)))/\G (F' wr g 154 (mC a C (Z d (j*C) c)))/\G (xp wr (w:O) 5 1 (Z d (j*C) c) (j*C) (b.map B8))/\G (Vp bs R C (o.drop j) b=Vp bs R C o [])) (λd' _=>a-(intOf d').toNat)
 case atStart=>exact⟨0,0,none,[],rfl,M,Q,G',m',by rw [jd];exact iL,by rw [jd];exact qP _ _ _ 1,rfl⟩
 case round=>
  obtain⟨j,c,d,b,rfl,hjn,v,l,s,u,ln,cB⟩:=hrel;by_cases X':j<a
  ·have hlt':(j:V)<a:=M
   have hgw:(w:O)+1<(wr:O):=s.lt;obtain⟨ad,rfl,N6⟩:=RH (H'.below v) M;have OX:j<U o:=by rw [L.out];exact X'
   have e1:=N6 j OX;have ih:=T (AY bs R C o j OX b);have y0:i' wr (w:O)=J (R:la):=l.cell 0;have y1:i' wr ⟨(w:O),1,none⟩=J (C:la):=l.cell 1;have y2:i' wr ⟨(w:O),2,none⟩=J (Z A n k):=l.cell 2;clear N6;generalize o[j]=x at*
   by_cases z:0<=x/\x<(R:V)
   ·skip
    rw [qk z] at ih;obtain⟨i,rfl⟩: ∃i:O,x=(i:V):=⟨x.toNat,M⟩;obtain⟨hx0,hxR⟩:=z;have ck:i<R:=M;rw [zc] at ih;have cL:(j+1)*C<=65025:=fN M hC;rw [ql] at cL;have N9:G ((j+1)*C=j*C+C):=ql _ _;generalize j*C=m at*
    have z2:i' wr ⟨g,2,none⟩=J (Z d m c):=u.cell 2;have U':m+C<=maxLen:=SJ;have t:(m+C)*1<=140737488355328:=M;have Rc:=T (λW=>RA.out i W ck);have J':=T (λW hB=>RR.out i W ck hB);have RlI:=T (RL.out i ck)
    go_wp2_with fail;have N':G (∀W,r' (wr:O) wr W->i' W ⟨g,2,none⟩=J (Z d m c)/\i' W (w:O)=J (R:la)/\i' W ⟨(w:O),1,none⟩=J (C:la)/\i' W ⟨(w:O),2,none⟩=J (Z A n k)):=λW P=>⟨(u.below P u.lt).cell 2,(l.below P l.lt).cell 0,(l.below P l.lt).cell 1,(l.below P l.lt).cell 2⟩;obtain⟨z2d,Y',y1d,y2d⟩:=N'.out wr.drew (qZ _ _).drew;have qj:(w:O)+1<g:=Q';go_region_law
     (first
      |(go_simp;go_at_call 276;((with_reducible refine(Rc.out _).mono ?_);rintro e H ⟨rfl,D⟩;obtain⟨z25,y05,y15,y25⟩:=N'.out H (by first|exact D|exact((qZ _ _).drew).trans D);have q:G (r' (wr:O) wr H):=(by first|exact D|exact((qZ _ _).drew).trans D);clear D))
      |(refine jm _ SQ _ _ _ SQ (w:O) 5 i0 (gR 0) 1 1 qu hi iv cK I' rfl M d m c _ SQ (qG ln q) (w:O) _ C (k-i*C) _ SQ (J'.out _ (v.trans (q.mono M))) (PY (w:=H) (B:=(w:O)) (n:=C) (J'.out _ (v.trans (q.mono M)))) U' t (show (w:O)<=(H:O) from qv M q.size) ?_
        intro A3 c3 y X F P';have E:=qG ln q.out;have f:F' y g 154 (mC a C (Z d m c)):=Q_ (u.below q u.lt) E F;have u':F' y ((w:O)+1) 154 (mC 0 0 (Z none 0 0)):=Q_ (s.below q s.lt) E F;have z':F' y (w:O) 154 (mC R C (Z A n k)):=Q_ (l.below q l.lt) E F;have D':r' (w:O) w y:=zG (v.trans (q.mono M)) F E (show (w:O)<=(H:O) from qv M q.size)
        have z24:i' y ⟨g,2,none⟩=J (Z d m c):=f.cell 2;have Z':y.frozen? ⟨g,2,none⟩=false:=f.frozen 2;replace X:=T X;replace f:=T f;replace u':=T u';replace z':=T z';replace D':=T D';clear F P' E))
    all_goals
     go_wp2_with fail;go_roundw
     case rel=>
      refine⟨j+1,c3,A3,b++AV bs C i,by go_num,M,D'.setCell (p:=⟨g,2,none⟩) (zr (Nat.lt_trans (ze _) qj)) _,z'.far (p:=⟨g,2,none⟩) (vV (Nat.lt_trans (ze _) qj)) _,u'.far (p:=⟨g,2,none⟩) (vV qj) _, ?_, ?_, ?_⟩
      ·rw [N9.out]
       exact f.zh 2 (Z A3 (m+C) c3)
      ·rw [N9.out,qg]
       exact XG (j:=2) X f (Z A3 (m+C) c3)
      ·exact ih.symm.trans cB.out
     case measure=>simp [intOf];omega
   ·rw [qJ z] at ih
    have HN:G (Vp bs R C o []=none):=cB.symm.trans ih.out;have O':x<0\/(0<=x/\(R:V)<=x):=M;clear z;rcases O' with z|⟨z,hx2⟩
    all_goals
     go_wp2_with (refine qC rfl 154 _ _ rfl ((w:O)+1) (mC 0 0 (Z none 0 0)) rfl rfl 154 (mC 0 0 (Z none 0 0)) s j9 rfl (Jb _ _ _ _ _) ?_)
     exact qW (zN rfl _ _ ((w:O)+1) (mC 0 0 (Z none 0 0)) (e' 13) rfl rfl (qN _ ((w:O)+1) 154 _ (mC 0 0 (Z none 0 0)) (0,0) _ (s.row _) zL rfl j9)) rfl (hN.out HN _ _ ⟨none,0,rfl,qP _ _ _ 1,zu v (jv _) _⟩)
  ·have hjn2:j=a:=M
   have HS:G (Vp bs R C o []=some b):=by
    rw [<-cB.out,zD (by rw [L.out];omega)];rfl
   have hge:(a:V)<=j:=M;have S':G (U b=j*C):=by have h:=ln.out.1;unfold Hid;simpa using h
   rw [<-S'.out] at ln u
   go_wp2_with (first
    |(refine ja rfl 154 _ rfl g rfl 154 (mC a C (Z d b c)) (0,0) _ u zL rfl j9 ?_)
    |(refine qC rfl 154 _ _ rfl ((w:O)+1) (mC a C (Z d b c)) rfl rfl 154 (mC 0 0 (Z none 0 0)) s j9 rfl (Jb _ _ _ _ _) ?_))
   exact qW (zN rfl _ _ ((w:O)+1) (mC a C (Z d b c)) () rfl rfl (qN _ ((w:O)+1) 154 _ (mC a C (Z d b c)) (0,0) _ (s.row _) zL rfl j9)) rfl (cY.out b HS _ _ ⟨d,c,rfl,ZJ ln s _,zu v (jv _) _⟩)
theorem fO (w:I) (row:Option O):w.grownBy w row:=⟨rfl,rfl,rfl,qx _,λ_ _ _=>rfl⟩
theorem Ve (g j:O):(g:Addr).add j=⟨g,j,none⟩:=by unfold Addr.add;split<;>simp_all
theorem Ux (w:I) (g:O) (a:Array la):w.grownBy (w.setRow g a) (some g):=⟨rfl,rfl,rfl,by rw [Xk];exact qx _,λk _ b=>QO w g k a (λe=>b (by rw [e]))⟩
theorem Vl {P:Program} {w:I} {H:Array Oper} {rest:S Oper} {o:Oper} {a:Act} {Q:Exit->Act->I->Prop} (x:o.guard=none) (d s:Operand) (j p:TypeId)
  (D:o.op= .call {callee:= .builtin .copy,args:= #[d,s],argTypes:= #[j,p]}) (elem:TypeId) (r:P.underlying j=J (.slice elem)) (v:(P.info? elem).map (·.size)=some 1)
  (A:q') (n c off C base E:O) (m:S la) (f:a.eval d=Z (xo A c off 1) C E) (k:xp w base elem 1 (Z A n c) n m) (cK:off+C<=n)
  (z:q') (F:O) (q:a.eval s=Z z C F) (B:O) (b:S la) (ln:E' w B 1 z C b) (h1: ∀u∈b,u.oneCell'=true)
  (h: ∀w',xp w' base elem 1 (Z A n c) n (splice m off b)->w.grownBy w' (A.map (·.block))->wpList P H Q rest (a.put o.dst (goInt C)) w'):
  wpList P H Q (o::rest) a w:=by
 have K:U b=C:=by have:=ln.1;omega
 by_cases h0:C=0
 ·subst h0;obtain rfl:b=[]:=zl K;refine wpList_copy_nothing x d s j p D elem r v _ _ _ _ _ _ f q s8 ?_;exact h w (by simpa [splice] using k) (fO w _)
 ·obtain⟨iv,rfl,_,L⟩:=ln.2 M;rcases k.2 with⟨_,X⟩|⟨g,cap,cur,cL,W,y,R,N,l,ih⟩
  ·omega
  ·injection cL with e _ uK;subst uK;subst e;have hcut:xo g c off 1=some ⟨g,off,none⟩:=by
    unfold xo;rw [qJ M,z_,Za,Ve]
   rw [hcut] at f;rw [z_] at l ih;rw [<-K] at h f q cK;refine wpList_copy_own x d s j p D elem r v g off _ E iv _ F f q cur elem y b s8 L M h1 ?_;refine h _ ⟨?_,Or.inr ⟨g,c,_,rfl,W,setRow_heap w g cur _ elem (0,0) y,R,N, ?_, ?_⟩⟩ (Ux w g _)
   ·have cY:=k.1;rw [length_splice _ _ _ M];exact cY
   ·have qj:U cur.toList=c:=by rw [Q9];exact l
    simp only [xd,qK,qh,qI,z_];omega
   ·rw [z_];show(splice cur.toList off b).take n=splice m off b;rw [<-ih];apply zm;intro t;have qj:U cur.toList=c:=by rw [Q9];exact l
    simp only [splice,List.getElem?_append,xZ,jt,qh,qI];rw [vZ (show off<=U cur.toList by omega),vZ (show off<=min n (U cur.toList) by omega)];by_cases e:t<off
    ·simp only [e,show t<n by omega,if_true]
    ·by_cases i:t-off<U b
     ·rw [qk (show t<n by omega),qJ e,qk i,qJ e,qk i]
     ·rw [qJ e,qJ i,qJ e,qJ i];by_cases hh:t<n
      ·rw [qk hh,qk (show off+U b+(t-off-U b)<n by omega)]
      ·rw [qJ hh,qJ (show¬off+U b+(t-off-U b)<n by omega)]
theorem Rb {b:Type} (f:a->b) (l:S a) (off:O) (c:S a):(splice l off c).map f=splice (l.map f) off (c.map f):=by
 simp [splice,List.map_take,List.map_drop]
theorem Ra (l:S a) (off:O) (c:S a) (t:O) (h:off<=U l):(splice l off c)[t]? =if t<off then l[t]?else if t<off+U c then c[t-off]?else l[t]? :=by
 simp only [splice,List.getElem?_append,xZ,jt,qh];rw [vZ h];by_cases h1:t<off
 ·rw [qk h1,qk h1,qk h1]
 ·rw [qJ h1,qJ h1];by_cases h2:t<off+U c
  ·rw [qk M,qk h2]
  ·rw [qJ M,qJ h2];congr 1;omega
theorem Qt (C:O) (f:O->O->AB) (n t:O) (h:t<n):(zP C f n)[t]? =J (f (t/C) (t%C)):=by
 unfold zP;rw [qD,jJ h];rfl
theorem Xh (C:O) (f:O->O->AB) (n t:O) (h: ¬t<n):(zP C f n)[t]? =none:=qO (by rw [yj];omega)
def Xu (C:O) (g:O->AB):qn:=(List.range C).map g
theorem QT (C:O) (g:O->AB):U (Xu C g)=C:=by simp [Xu]
theorem XH (C:O) (g:O->AB) (t:O) (h:t<C):(Xu C g)[t]? =J (g t):=by
 unfold Xu;rw [qD,jJ h];rfl
theorem dQ {R:O} (hi:i<R) (ht:t<C):i*C+t<R*C:=by
 have a:(i+1)*C<=R*C:=zk _ hi;rw [ql] at a;omega
theorem Jl (ht:t<C):(i*C+t)/C=i/\(i*C+t)%C=t:=by
 constructor
 ·rw [xH,Nat.mul_add_div M,xW ht,v_]
 ·rw [xH,Nat.mul_add_mod,jk ht]
theorem Uv (R C i:O) (f:O->O->AB) (hi:i<R):AV (zP C f (R*C)) C i=Xu C (f i):=by
 apply zm;intro t;unfold AV;rw [xZ,jt];by_cases ht:t<C
 ·rw [qk ht,Qt _ _ _ _ (dQ hi ht),XH _ _ _ ht,(Jl ht).1,(Jl ht).2]
 ·rw [qJ ht,qO (by rw [QT];omega)]
theorem AK (R C i:O) (f:O->O->AB) (g:O->AB) (hi:i<R):splice (zP C f (R*C)) (i*C) (Xu C g)=zP C (λb j=>if b=i then g j else f b j) (R*C):=by
 have e:(i+1)*C<=R*C:=zk _ hi;rw [ql] at e;apply zm;intro t;rw [Ra _ _ _ _ (by rw [yj];omega),QT];by_cases h1:t<R*C
 ·have a:0<C:=by
   rcases zA C with h0|h0
   ·rw [h0,Nat.mul_zero] at h1;omega
   ·exact h0
  rw [Qt _ _ _ _ h1,Qt _ _ _ _ h1];have h:=Qe t C;rw [xH] at h;by_cases h2:t<i*C
  ·rw [qk h2];have c:=(Nat.div_lt_iff_lt_mul a).2 h2;rw [qJ M]
  ·rw [qJ h2];by_cases h3:t<i*C+C
   ·rw [qk h3,XH _ _ _ M];obtain⟨s,d⟩: ∃s,t=i*C+s:=⟨t-i*C,M⟩;rw [d,(Jl (show s<C by omega)).1,(Jl (show s<C by omega)).2,qk rfl];congr 2;omega
   ·rw [qJ h3];have c:i+1<=t/C:=(yJ a).2 (by rw [ql];omega);rw [qJ M]
 ·rw [Xh _ _ _ _ h1,qJ M,qJ M,Xh _ _ _ _ h1]
theorem Yr (R C:O) (f g:O->O->AB) (h: ∀i j,i<R->j<C->f i j=g i j):zP C f (R*C)=zP C g (R*C):=by
 unfold zP;apply jX;intro t ht;have b:=js.1 ht;have a:0<C:=by
  rcases zA C with h0|h0
  ·rw [h0,Nat.mul_zero] at b;omega
  ·exact h0
 exact h _ _ ((Nat.div_lt_iff_lt_mul a).2 b) (xC _ a)
def L' (bs:qn) (C i j:O):UInt8:=bs.getD (i*C+j) 0
theorem Rr (bs:qn) (R C:O) (h:U bs=R*C):bs=zP C (L' bs C) (R*C):=by
 apply zm;intro t;by_cases h1:t<R*C
 ·rw [Qt _ _ _ _ h1,L',xH,Qe,qd,qX M];rfl
 ·rw [Xh _ _ _ _ h1,qO M]
theorem so (C:O) (f g:O->AB) (c:AB):Ds (Xu C f) c (Xu C g)=Xu C (λj=>f j^^^fm c (g j)):=by
 apply YA
 ·rw [Yp,QT,QT]
 ·intro t ht;have a:=ht;rw [Yp,QT] at a;rw [sn _ _ _ _ (by rw [QT];exact a)];simp only [qd,XH _ _ _ a,Zv]
end
section
variable {A:q'}{L a b0 b0' base base' c e i n:O}{W W':I}{b l xs:qn}{d xss:S qn}{f:O->O}{vs:S la}
def j8 (W:I) (b0 base:O) (A:q') (c:O) (a:qn):Prop:=
 U a<=c/\c<=maxLen/\(E' W b0 1 A a (a.map B8)\/W.ownsRow base 5 1 (Z A a c) a (a.map B8))
structure zM (W:I) (b0 base:O) (A:q') (n c:O) (xss:S qn):Prop where
 ex: ∃vs:S la,xp W base 30 1 (Z A n c) n vs/\U xss=n/\ ∀(i:O) (xs:qn),xss[i]? =some xs-> ∃(Ai:q') (ci:O),vs[i]? =J (Z Ai xs ci)/\j8 W b0 base Ai ci xs
 bs:base<=(W:O)
 b0s:b0<=base
theorem j8.below (h:j8 W b0 base A c xs) (h0:b0<=base) (b:base<=(W:O)) (a:r' W W W'):j8 W' b0 base A c xs:=by
 obtain⟨h1,h2,h3⟩:=h;refine⟨h1,h2, ?_⟩;rcases h3 with h3|h3
 ·exact .inl (h3.keep λp d=>a.cell M)
 ·exact .inr (qG h3 a)
theorem j8.reads (h:j8 W b0 base A c xs) (h0:b0<=base) (a:base<=(W:O)):E' W W 1 A xs (xs.map B8):=by
 obtain⟨h1,h2,h3⟩:=h;rcases h3 with h3|h3
 ·exact h3.more (qv h0 a)
 ·exact E'.zY h3
theorem j8.other {d:O} {l:Array la} {k:O×O} (h:j8 W b0 base A c xs) (h0:b0<=base) (f:W.heap[d]? =J (Y l 30 k)) (n:base<=d) (i: ∀g,g<(W:O)->g≠d->W'.heap[g]? =W.heap[g]?):j8 W' b0 base A c xs:=by
 obtain⟨h1,h2,h3⟩:=h;have r:=jz f;refine⟨h1,h2, ?_⟩;rcases h3 with h3|h3
 ·exact .inl (h3.keep λp o=>zw (i p.block M M))
 ·refine .inr (zI h3 (λa j=> ?_));obtain⟨q,m,b⟩:=jV h3 a.block (by rw [j];rfl);refine i _ (jz b) (λe=> ?_);rw [e,f] at b;injection b with b;injection b with _ ht;exact absurd ht FV
theorem zM.below (h:zM W b0 base A n c xss) (a:r' W W W'):zM W' b0 base A n c xss:=by
 obtain⟨⟨vs,h1,h2,h3⟩,b,h0⟩:=h;refine⟨⟨vs,qG h1 a,h2,λi xs hi=> ?_⟩,qv b a.size,h0⟩;obtain⟨Ai,e,f,d⟩:=h3 i _ hi;exact⟨_,e,f,d.below h0 b a⟩
theorem zM.drew (h:zM W b0 base A n c xss):zM W.drew b0 base A n c xss:=⟨h.ex,h.bs,h.b0s⟩
theorem zM.len (h:zM W b0 base A n c xss):U xss=n:=h.ex.choose_spec.2.1
theorem zM.cap (h:zM W b0 base A n c xss):n<=c/\c<=maxLen:=jC h.ex.choose_spec.1
theorem zM.XB (h:zM W b0 base A n c xss):vm W W A n xss:=by
 obtain⟨⟨vs,h1,h2,h3⟩,d,h0⟩:=h;refine⟨vs,E'.zY h1,h2,λi xs hi=> ?_⟩;obtain⟨Ai,e,b,a⟩:=h3 i _ hi;exact⟨_,_,e,b,a.1,a.2.1,a.reads h0 d⟩
theorem zM.nil (w:I) (b0 base:O) (h0:b0<=base) (a:base<=(w:O)):zM w b0 base none 0 0 []:=
 ⟨⟨_,qP _ _ _ 1,rfl,λi xs hi=>by simp at hi⟩,a,h0⟩
theorem zM.AH (h:xp W base 30 1 (Z A n c) n vs) (b:U xss=n) (d: ∀(i:O) (xs:qn),xss[i]? =some xs-> ∃(Ai:q') (a:O),vs[i]? =J (Z Ai xs a)/\j8 W b0 base Ai a xs) (h0:b0<=base) (e:base<=(W:O)):zM W b0 base A n c xss:=⟨⟨_,h,b,d⟩,e,h0⟩
theorem j8.Vg (h:j8 W b0 base A c xs) (h0:b0<=b0') (a:base'<=base):j8 W b0' base' A c xs:=by
 obtain⟨h1,h2,h3⟩:=h;refine⟨h1,h2, ?_⟩;rcases h3 with h3|h3
 ·exact .inl (h3.more h0)
 ·exact .inr (qi h3 a)
theorem zM.Vg (h:zM W b0 base A n c xss) (h0:b0<=b0') (h1:b0'<=base') (a:base'<=base):zM W b0' base' A n c xss:=by
 obtain⟨⟨vs,k,d,b⟩,j,_⟩:=h;refine⟨⟨vs,qi k a,d,λi xs hi=> ?_⟩,qv a j,h1⟩;obtain⟨Ai,f,g,e⟩:=b i _ hi;exact⟨_,f,g,e.Vg h0 a⟩
theorem zM.push {W j:I} {b0 base n c s t:O} {A v q:q'} {o:S qn} (B:j8 W b0 base q s b) (h1:xp W base 30 1 (Z A n c) n vs) (h2:U o=n) (h3: ∀(i:O) (b:qn),o[i]? =some b-> ∃(Ai:q') (h:O),vs[i]? =J (Z Ai b h)/\j8 W b0 base Ai h b) (h0:b0<=base) (ln:base<=(W:O)) (y:xp j base 30 1 (Z v (n+1) t) (n+1) (vs++[Z q b s])) (f:W.grownBy j (A.map (·.block))):
  zM j b0 base v (n+1) t (o++[b]):=by
 have keep: ∀(l:q') (k:O) (d:qn),j8 W b0 base l k d->j8 j b0 base l k d:=λl k d u=>by
  rcases A with _|r
  ·obtain⟨o1,o2,o3⟩:=u;refine⟨o1,o2, ?_⟩;rcases o3 with o3|o3
   ·exact .inl (o3.keep λp K=>zw (f.block _ M s8))
   ·refine .inr (zI o3 (λa F=> ?_));obtain⟨E,D,m⟩:=jV o3 _ (by rw [F];rfl);exact f.block _ (jz m) s8
  ·obtain⟨E,D,m⟩:=jV h1 _ rfl;have L:=(h1.lt _ rfl).1;exact u.other h0 m L (λg w x=>f.block g w (by simpa using x))
 have H:U vs=n:=by have:=h1.1;omega
 refine⟨⟨_,y,by simp [h2],λi d hi=> ?_⟩,qv ln f.size,h0⟩;by_cases e:i<n
 ·rw [q_ M] at hi;obtain⟨Ai,h,z,C⟩:=h3 i d hi;exact⟨_,h,by rw [q_ M];exact z,keep _ _ _ C⟩
 ·have N:i=n:=by
   have:=(vp.1 hi).1;simp at this;omega
  subst N;rw [qm M,h2,xO] at hi;have:d=b:=by simpa using hi.symm
  subst this;exact⟨q,s,by rw [qm M,H,xO];rfl,keep _ _ _ B⟩
theorem zM.Fv {W b:I} {b0 base n c h:O} {A j g:q'} {a:qn} (o:U a=L) (k:j8 W b0 base g h a) (h1:xp W base 30 1 (Z A n c) n vs) (h2:U d=n) (h3: ∀(i:O) (a:qn),d[i]? =some a-> ∃(Ai:q') (f:O),vs[i]? =J (Z Ai a f)/\j8 W b0 base Ai f a) (h0:b0<=base) (m:base<=(W:O)) (l:xp b base 30 1 (Z j (n+1) e) (n+1) (vs++[Z g L h])) (p:W.grownBy b (A.map (·.block))):
  zM b b0 base j (n+1) e (d++[a]):=by subst o;exact zM.push k h1 h2 h3 h0 m l p
theorem zM.zh {W:I} {b0 base n c k:O} {l:q'} {p:S qn} {d:qn} (h:zM W b0 base a n c p) (hi:i<n) (t:j8 W b0 base l k d):
  zM (W.setCell ⟨a,i,none⟩ (Z l d k)) b0 base a n c (p.set i d):=by
 obtain⟨⟨vs,h1,h2,h3⟩,v,h0⟩:=h;obtain⟨B,A,y⟩:=jV h1 a rfl;have x:=(h1.lt a rfl).1;have keep: ∀(o:q') (m:O) (f:qn),j8 W b0 base o m f->j8 (W.setCell ⟨a,i,none⟩ (Z l d k)) b0 base o m f:=λo m f r=>
  r.other h0 y x (λg z q=>jT W _ _ g (by simpa using q))
 have C:U vs=n:=by have:=h1.1;omega
 refine⟨⟨vs.set i (Z l d k),(h1.stored i _).1,by simp [h2],λj f b=> ?_⟩,by simpa using v,h0⟩;rw [vD] at b⊢;by_cases e:i=j
 ·subst e;rw [qk rfl,qk M] at b;injection b with b;subst b;exact⟨l,k,by rw [qk rfl,qk M],keep _ _ _ t⟩
 ·rw [qJ e] at b;obtain⟨Ai,w,s,u⟩:=h3 j f b;exact⟨_,w,by rw [qJ e];exact s,keep _ _ _ u⟩
theorem zM.slot {W:I} {b0 base n c:O} {b:S qn} (h:zM W b0 base a n c b) (hi:i<n):(∃v,i' W ⟨a,i,none⟩=some v)/\W.frozen? ⟨a,i,none⟩=false:=by
 obtain⟨⟨vs,h1,h2,h3⟩,e,h0⟩:=h;refine⟨?_,h1.frozenAt i⟩;rw [h1.cellAt i M];have d:i<U vs:=by have:=h1.1;omega
 exact⟨_,qX d⟩
theorem zM.LJ {W:I} {b0 base n c:O} {f:q'} (h:zM W b0 base a n c d) (hi:i<n) (j:U b=L) (g:j8 W b0 base f e b):
  zM (W.setCell ⟨a,i,none⟩ (Z f L e)) b0 base a n c (d.set i b):=by subst j;exact h.zh hi g
theorem j8.own {W:I} {b0 base c:O} {A:q'} {a:qn} (h:xp W base 5 1 (Z A L c) L (a.map B8)):U a=L/\j8 W b0 base A c a:=by
 have b:U a=L:=by have:=h.1;simpa using this
 subst b;exact⟨rfl,(jC h).1,(jC h).2, .inr h⟩
def s6 (l:S qn) (t n:O):UInt8:=(l.getD t []).getD n 0
def Vu (j L:O) (f:O->AB) (l:S qn):qn:=Xu L λn=>fo (λt=>fm (f t) (s6 l t n)) j
def yH (R C L:O) (f:O->O->AB) (l:S qn):S qn:=(List.range R).map λi=>Vu C L (f i) l
theorem Vj (j L:O) (f:O->AB) (l:S qn):U (Vu j L f l)=L:=QT _ _
theorem si (L:O) (f:O->AB) (l:S qn):Vu 0 L f l=List.replicate L 0:=by
 apply zm;intro t;unfold Vu;by_cases h:t<L
 ·rw [XH _ _ _ h,jF,qk h];rfl
 ·rw [qO (by rw [QT];omega),jF,qJ h]
theorem Fy (j L:O) (f:O->AB) (l:S qn) (n:O) (h:n<L):(Vu j L f l).getD n 0=fo (λt=>fm (f t) (s6 l t n)) j:=by
 rw [qd];unfold Vu;rw [XH _ _ _ h];rfl
theorem Nm (j L:O) (f:O->AB) (l:S qn) (b:qn) (d:l[j]? =some b) (g:U b=L):sS (Vu j L f l) (f j) b=Vu (j+1) L f l:=by
 unfold sS;rw [Vj,qk g.symm];have a:l.getD j []=b:=by rw [qd,d];rfl
 unfold Ds;rw [Vj];apply jX;intro n c;have:=js.1 c;rw [Fy _ _ _ _ _ this];show _=fo _ j^^^fm (f j) (s6 l j n);have e:s6 l j n=b.getD n 0:=by unfold s6;rw [a]
 rw [e]
theorem sI (j L:O) (f:O->AB) (l:S qn) (h:f j=0):Vu (j+1) L f l=Vu j L f l:=by
 apply jX;intro n a;show fo _ j^^^fm (f j) _=_;rw [h,Xi,VA]
theorem x_ (R C L:O) (f:O->O->AB) (l:S qn):U (yH R C L f l)=R:=by simp [yH]
theorem Xs (R C L:O) (f:O->O->AB) (l:S qn) (i:O) (h:i<R):(yH R C L f l)[i]? =J (Vu C L (f i) l):=by
 unfold yH;rw [qD,jJ h];rfl
theorem sL (R C L i:O) (f:O->O->AB) (l:S qn) (h:i<R):(yH i C L f l++List.replicate (R-i) []).set i (Vu C L (f i) l)=yH (i+1) C L f l++List.replicate (R-(i+1)) []:=by
 apply zm;intro t;rw [vD,qK,x_,zT];by_cases e:i=t
 ·subst e;rw [qk rfl,qk M,q_ (by rw [x_];omega),Xs _ _ _ _ _ _ M]
 ·rw [qJ e];by_cases h1:t<i
  ·rw [q_ (by rw [x_];omega),q_ (by rw [x_];omega),Xs _ _ _ _ _ _ M,Xs _ _ _ _ _ _ M]
  ·rw [qm (by rw [x_];omega),qm (by rw [x_];omega),x_,x_,jF,jF];by_cases h2:t<R
   ·rw [qk M,qk M]
   ·rw [qJ M,qJ M]
theorem V1 (R C L:O) (f:O->O->AB) (l:S qn) (x:qn) (h:x∈yH R C L f l):U x=L:=by
 unfold yH at h;obtain⟨i,_,rfl⟩:=jB.1 h;exact Vj ..
def x8 (f:O->O):Array Value:=((List.range 16).map λl=>Value.int .i64 (f l)).toArray
theorem Vm (f:O->O):(x8 f).size=16:=by simp [x8]
theorem YD (f:O->O) {l:O} (h:l<16):(x8 f)[l]? =J (e' (f l)):=by simp [x8,h]
theorem pe (f:O->O):(x8 f).all (·.oneCell')=true:=by
 unfold x8;rw [List.all_toArray,List.all_map];exact xT.2 λ_ _=>rfl
theorem ew (f:O->O) {l:O} (v:O):(x8 f).setIfInBounds l v=x8 (λj=>if j=l then v else f j):=by
 apply ZD;intro j;rw [jM];by_cases b:l=j
 ·subst b;by_cases a:l<16
  ·rw [qk rfl,qk (by rw [Vm];exact a),YD _ a,qk rfl]
  ·rw [qk rfl,qJ (by rw [Vm];exact a),zg (by rw [Vm];omega)]
 ·rw [qJ b];by_cases a:j<16
  ·rw [YD _ a,YD _ a,qJ (λe=>b e.symm)]
  ·rw [zg (by rw [Vm];omega),zg (by rw [Vm];omega)]
def I5:Array Value:=Array.replicate 16 ()
theorem CY:I5=x8 λ_=>0:=by rfl
theorem Fe:(prog.info? 350).map (λi=>(i.zero,i.size))=J (some (.agg I5),16):=AL
theorem du (f:O->O):(prog.info? 350).map (·.size)=J (x8 f).size:=by rw [Vm];kernel_rfl
theorem eW (l:qn) (x:AB) (j:O):RQ (l++[x]) j=RQ l j+if x.toNat=j then 1 else 0:=by
 unfold RQ;rw [vx,qK];congr 1;by_cases h:x.toNat=j<;>simp [h]
theorem CK (l:qn) (j:O):RQ l j<=U l:=jN _ _
def I6 (a:qn) (f:O->O):Prop:=(∀l,f l<=300)/\(okL a=true-> ∀l,l<16->f l=if l=0 then 0 else RQ a l)
theorem eS (h:300<U l):okL l=false:=by unfold okL;simp;omega
theorem OD {x:AB} (h:x∈l) (a:15<x.toNat):okL l=false:=by
 unfold okL;rw [Bool.and_eq_false_iff];refine .inr (List.all_eq_false.2 ⟨x,h,SZ⟩)
theorem Of (h:U l<=300) (a: ∀x∈l,x.toNat<=15):okL l=true:=by
 unfold okL;simp only [zR,zd,xT];exact⟨h,a⟩
theorem bM (A:Option Addr) (n c B:O) (bs:S AB) (w:I) (h:E' w B 1 A n (bs.map B8)) (ih:B<=(w:O)):
  xG 241 #[Z A n c] w λe w'=> ∃f,e=t' (BA #[.agg (x8 f), .bool (okL bs)])/\I6 bs f/\r' w w w':=by
 have hh:=(jb Fe).1;rw [CY] at hh;have k:=h.len;have H:=T h;have L:=T ih;clear h ih;have b:=λf=>T (du f);by_cases X:300<n
 focus
  rw [eS M]
  have v:300<U bs:=M;replace v:=T v;have cB:(300:V)<(n:V):=M
 rotate_left
 focus
  have cB: ¬(300:V)<(n:V):=M
  have cY:n<=300:=M;replace k:=T k;go_enter func241,ntmps241
  go_wp2_with fail
 rotate_left
 all_goals
  have o:G (F' (w (Y (x8 λ_=>0) 350)) w 350 (x8 λ_=>0)):=F'.new w _ _;have s:G (r' w w (w (Y (x8 λ_=>0) 350))):=(qZ _ _).alloc (qx _) _
 ·clear k X;go_enter func241,ntmps241
  go_wp2_with (first
   |(refine ja rfl 350 _ rfl w rfl 350 (x8 λ_=>0) (0,0) _ o yU rfl (b _).out ?_)
   |(refine qC rfl 350 _ _ rfl w (x8 λ_=>0) rfl rfl 350 (x8 λ_=>0) o (b _).out rfl (pe _) ?_))
  exact qW (zN rfl _ _ w (x8 λ_=>0) (.bool false) rfl rfl (qN _ w 350 _ (x8 λ_=>0) (0,0) _ (o.row _) yU rfl (b _).out)) rfl ⟨λ_=>0,rfl,⟨λ_=>qp _,λh=>by rw [eS v.out] at h;cases h⟩,zu s (qx _) _⟩
 ·generalize w (Y (x8 λ_=>0) 350)=w1 at*
  go_loopw [12] (λy wr=> ∃(i:O) (f:O->O),y=(i:la)/\i<=n/\G (r' w w wr)/\G (F' wr w 350 (x8 f))/\G (∀l,f l=RQ (bs.take i) l)/\G (∀x∈bs.take i,x.toNat<=15)) (λy _=>n-(intOf y).toNat)
  case atStart=>exact⟨0,λ_=>0,rfl,qp _,s,o,by simp [Hid,RQ],by simp [Hid]⟩
  case round=>
   clear o s;obtain⟨i,f,rfl,hi,j,a,m,t⟩:=hrel;have q:G (∀l,f l<=300):=λl=>by rw [m.out l];exact qv (CK _ _) (by rw [qh,k.out];omega)
   by_cases cL:i<n
   ·have u':(i:V)<(n:V):=M
    obtain⟨ad,z,P,-,r,iL⟩:=(H.below (j.mono L)).byte cL;subst P;have g:G (bs.take (i+1)=bs.take i++[z]):=by rw [Hid,qs,r];rfl
    by_cases D:15<z.toNat
    ·have ln:okL bs=false:=OD (zQ r) D
     have F:=T ln;have uK:(15:V)<(z.toNat:V):=M;clear D r ln
     go_wp2_with (first
      |(refine ja rfl 350 _ rfl w rfl 350 (x8 f) (0,0) _ a yU rfl (b _).out ?_)
      |(refine qC rfl 350 _ _ rfl w (x8 f) rfl rfl 350 (x8 f) a (b _).out rfl (pe _) ?_))
     exact qW (zN rfl _ _ w (x8 f) (.bool false) rfl rfl (qN _ w 350 _ (x8 f) (0,0) _ (a.row _) yU rfl (b _).out)) rfl ⟨f,by rw [F.out],⟨q.out,λh=>by rw [F.out] at h;cases h⟩,zu j (qx _) _⟩
    ·have uK: ¬(15:V)<(z.toNat:V):=M
     have qj:z.toNat<16:=M;have Q:=T (show z.toNat<=15 by omega)
     have W:i' wr ⟨w,z.toNat,none⟩=J (e' (f z.toNat)):=by rw [a.cell];exact YD _ qj
     have iv:wr.frozen? ⟨w,z.toNat,none⟩=false:=a.frozen _;have p':=q.out z.toNat;have K:G (∀l,(λl=>if l=z.toNat then f z.toNat+1 else f l) l=RQ (bs.take (i+1)) l):=λl=>by
      dsimp only;rw [g.out,eW];by_cases h:l=z.toNat
      ·subst h;rw [qk rfl,qk rfl,m.out]
      ·rw [qJ h,qJ (λe=>h e.symm),m.out];rfl
     have N:G (∀x∈bs.take (i+1),x.toNat<=15):=by
      rw [g.out];intro x u;rcases zt.1 u with h|h
      ·exact t x h
      ·rw [qy.1 h];exact Q.out
     have d':G (F' (wr.setCell ⟨w,z.toNat,none⟩ ((f z.toNat+1:O):V)) w 350 (x8 λl=>if l=z.toNat then f z.toNat+1 else f l)):=by
      rw [Hid,<-ew];exact a.zh _ _
     have R:G (r' w w (wr.setCell ⟨w,z.toNat,none⟩ ((f z.toNat+1:O):V))):=j.setCell (p:=⟨w,z.toNat,none⟩) (qx _) _;generalize (λl=>if l=z.toNat then f z.toNat+1 else f l)=d at*
     generalize f z.toNat=fz at*
     generalize z.toNat=zz at*
     clear D r m t a j g q
     go_wp2_with fail;go_roundw
     case rel=>exact⟨i+1,d,by first|rfl|simp,M,by simpa using R,by simpa using d',K,N⟩
     case measure=>simp [intOf];omega
   ·have m': ¬(i:V)<(n:V):=M
    obtain rfl:i=n:=M;have g:bs.take i=bs:=qH (by rw [k.out];omega)
    have C:okL bs=true:=Of (by rw [k.out];exact cY) (λx u=>t.out x (by rw [g];exact u))
    have E:G (F' (wr.setCell w ()) w 350 (x8 λl=>if l=0 then 0 else f l)):=by
     have:=a.zh 0 ((0:O):V);rw [ew] at this;exact this
    have ck:G (I6 bs λl=>if l=0 then 0 else f l):=⟨λl=>by dsimp only;split<;>first|exact qp _|exact q l,λ_ l _=>by dsimp only;split<;>first|rfl|(rw [m.out,g])⟩
    have iv:wr.frozen? (w:O)=false:=a.frozen _;have W:i' wr (w:O)=J (e' (f 0)):=by rw [a.cell];exact YD _ M
    have cK:G (r' w w (wr.setCell w ())):=j.setCell (p:= (w:O)) (qx _) _;generalize (λl=>if l=0 then 0 else f l)=d at*
    replace C:=T C;clear a j m t q g
    go_wp2_with (first
     |(refine ja rfl 350 _ rfl w rfl 350 (x8 d) (0,0) _ E yU rfl (b _).out ?_)
     |(refine qC rfl 350 _ _ rfl w (x8 d) rfl rfl 350 (x8 d) E (b _).out rfl (pe _) ?_))
    exact qW (zN rfl _ _ w (x8 d) (.bool true) rfl rfl (qN _ w 350 _ (x8 d) (0,0) _ (E.row _) yU rfl (b _).out)) rfl ⟨d,by rw [C.out],ck.out,zu cK (qx _) _⟩
def ud (f:O->O):O->O
 |0=>0
 |l+1=>ud f l+f (l+1)*2^(15-(l+1))
def GA (f:O->O):O->O
 |0=>0
 |l+1=>GA f l+f (l+1)
theorem eN {bs:qn} (h: ∀l,l<16->f l=if l=0 then 0 else RQ bs l): ∀l,l<=15->ud f l=Hy bs l/\GA f l=YV bs l
 |0,_=>⟨rfl,rfl⟩
 |l+1,a=>by
  have h1:=eN h l M;unfold ud GA Hy YV;rw [h1.1,h1.2,h (l+1) M,qJ M];exact⟨rfl,rfl⟩
theorem WY (h: ∀l,f l<=300): ∀l,ud f l<=l*9830400/\GA f l<=l*300
 |0=>⟨qp _,qp _⟩
 |l+1=>by
  have h1:=WY h l;unfold ud GA;have h2:2^(15-(l+1))<=2^15:=zZ M M;have h3:=xA (h (l+1)) h2;have h4:=h (l+1);omega
theorem td (f:O->O) (w:I) (d: ∀l,f l<=300):
  xG 242 #[.agg (x8 f)] w λe w'=>e=t' (BA #[e' (ud f 15),e' (GA f 15)])/\r' w w w':=by
 have HS:=T (WY d);have h:=T d;clear d;go_enter func242,ntmps242
 go_wp2_with fail;have k:G (F' (w (Y (x8 f) 350)) w 350 (x8 f)):=F'.new w _ _;have g:G (r' w w (w (Y (x8 f) 350))):=(qZ _ _).alloc (qx _) _;generalize w (Y (x8 f) 350)=i at*
 go_loopw [2,3,4] (λp n c wr=> ∃(l s q:O),p=(s:la)/\n=(q:la)/\c=e' ((l:V)+1)/\l<=15/\G (s=ud f l)/\G (q=GA f l)/\i=wr) (λ_ _ c _=>16-(intOf c).toNat)
 case atStart=>exact⟨0,0,0,rfl,rfl,rfl,M,rfl,rfl,rfl⟩
 case round=>
  obtain⟨l,s,q,rfl,rfl,rfl,F,b,a,rfl⟩:=hrel;have A:s<=147456000:=by have:=(HS.out l).1;rw [b.out];omega
  have y:q<=4500:=by have:=(HS.out l).2;rw [a.out];omega
  by_cases x:l<15
  ·have D:(l:V)+1<16:=M
   have C:i' i ⟨w,l+1,none⟩=J (e' (f (l+1))):=by rw [k.cell];exact YD _ M
   have r:=h.out (l+1);have m:G (s+f (l+1)*2^(14-l)=ud f (l+1)):=by rw [Hid,b.out];show _=ud f l+f (l+1)*2^(15-(l+1));rw [show 15-(l+1)=14-l by omega]
   have u:G (q+f (l+1)=GA f (l+1)):=by rw [Hid,a.out];rfl
   have j:2^(14-l)<=2^15:=zZ M M;have L:f (l+1)*2^(14-l)<=9830400:=xA r j;have E:(15:V)-((l:V)+1)=((14-l:O):V):=M;have v:(f (l+1):V)*2^(14-l)=((f (l+1)*2^(14-l):O):V):=by rw [zB,j6];rfl
   have K:14-l<15:=M;generalize f (l+1)*2^(14-l)=t at*
   generalize f (l+1)=o at*
   generalize 14-l=H at*
   clear j
   go_wp2_with fail;go_roundw
   case rel=>exact⟨l+1,s+t,q+o,s8,s8,s8,M,m,u,trivial⟩
   case measure=>simp [intOf];omega
  ·have z: ¬(l:V)+1<16:=M
   obtain rfl:l=15:=M;have B:=g;clear k HS h
   go_wp2_with fail
   go_ret2;exact⟨by rw [b.out,a.out];rfl,g.out⟩
theorem kY (A:q') (n c B:O) (bs:qn) (w:I) (h:E' w B 1 A n (bs.map B8)) (C:B<=(w:O)):
  xG 207 #[Z A n c] w λe w'=>e=t' (e' (gk bs))/\r' w w w':=by
 have ih:=(jb Fe).1;rw [CY] at ih;have q:=T (bM A n c B _ w h C);have o:=λf=>T (du f);clear h C;have b:gk bs=if okL bs=true/\(YV bs 15=0\/Hy bs 15=32768\/(YV bs 15=1/\RQ bs 1=1)) then 0 else 7:=rfl
 obtain⟨ok,u⟩: ∃ok,okL bs=ok:=⟨_,rfl⟩;rw [u] at b q;have X:=T u;clear u;go_in;go_wp2_with fail;refine q.mono ?_;rintro e a ⟨f,rfl,z,i⟩;have m:=T z;replace i:=T i;clear z;have l:G (F' ((a (Y (x8 λ_=>0) 350)).setRow a (x8 f)) a 350 (x8 f)):=(F'.new a _ _).row _;have v:G (F' (a (Y (x8 λ_=>0) 350)) a 350 (x8 λ_=>0)):=F'.new a _ _;have p:G (r' w w ((a (Y (x8 λ_=>0) 350)).setRow a (x8 f))):=zu (i.alloc i.size _) i.size _;have F:=i.size;have x:=T (td f ((a (Y (x8 λ_=>0) 350)).setRow a (x8 f)) m.out.1);go_wp2_with (first
  |(refine qC rfl 350 _ _ rfl a (x8 f) rfl rfl 350 (x8 λ_=>0) v (o _).out rfl (pe _) ?_)
  |(refine ja rfl 350 _ rfl a rfl 350 (x8 f) (0,0) _ l yU rfl (o _).out ?_))
 generalize (a (Y (x8 λ_=>0) 350)).setRow a (x8 f)=Q,(a:O)=g at*;clear v;refine zC x ?_;intro H t;have K:=T (l.below t l.lt);have j:=T (p.trans (t.mono p.size));have L:i' H ⟨g,1,none⟩=J (e' (f 1)):=by rw [K.cell];exact YD _ M
 have D:G (ok=true->ud f 15=Hy bs 15/\GA f 15=YV bs 15/\f 1=RQ bs 1):=λh=>by
  have h2:=m.out.2 (by rw [X.out];exact h);have h3:=eN h2 15 M;exact⟨h3.1,h3.2,by rw [h2 1 M,qJ M]⟩
 generalize ud f 15=s,GA f 15=k,f 1=r at*;clear t o;cases ok with
 |false=>
  have d:G (gk bs=7):=by rw [Hid,b,qJ s8]
  clear b;go_wp2;go_ret;exact⟨by rw [d.out];rfl,j⟩
 |true=>
  obtain⟨ln,E,y⟩:=D rfl;rw [<-ln,<-E,<-y] at b;clear ln E y;by_cases h1:0<k
  ·have W:=yn k;by_cases h2:s=32768
   ·subst h2;have d:G (gk bs=0):=by rw [Hid,b,qk ⟨rfl, .inr (.inl rfl)⟩]
    clear b;go_wp2;go_ret;exact⟨by rw [d.out];rfl,j⟩
   ·have N:((s:V) !=32768)=true:=SZ;by_cases h3:k=1
    ·subst h3;by_cases h4:r=1
     ·subst h4;have d:G (gk bs=0):=by rw [Hid,b,qk ⟨rfl, .inr (.inr ⟨rfl,rfl⟩)⟩]
      clear b h2 h1;go_wp2;go_ret;exact⟨by rw [d.out];rfl,j⟩
     ·have P:((r:V) !=1)=true:=SZ;have d:G (gk bs=7):=by rw [Hid,b,qJ M]
      clear h4 h2 h1 b;go_wp2;go_ret;exact⟨by rw [d.out];rfl,j⟩
    ·have R:((k:V) !=1)=true:=SZ;have d:G (gk bs=7):=by rw [Hid,b,qJ M]
     clear h3 h2 h1 b;go_wp2;go_ret;exact⟨by rw [d.out];rfl,j⟩
  ·obtain rfl:k=0:=M;have d:G (gk bs=0):=by rw [Hid,b,qk ⟨rfl, .inl rfl⟩]
   clear h1 b;go_wp2;go_ret;exact⟨by rw [d.out];rfl,j⟩
end
section
variable {A:q'}{C R base c g i k l n o:O}{E:TypeId}{W a b w:I}{f:O->O->AB}{xs:S la}
theorem vu {c:I} {row:Option O} (h:a.grownBy b row) (k:b.grownBy c row):a.grownBy c row:=
 ⟨k.os.trans h.os,k.tape.trans h.tape,k.output.trans h.output,qv h.size k.size,λj e d=>(k.block j (qB e h.size) d).trans (h.block j e d)⟩
theorem vU (h:r' a a b) (row:Option O):a.grownBy b row:=⟨h.os,h.tape,h.output,h.size,λj c _=>h.block j c⟩
structure Wk (W:I) (base g o R C:O) (A:q') (n k:O) (f:O->O->AB):Prop where
 c0:i' W ⟨g,o,none⟩=J (R:la)
 c1:i' W ⟨g,o+1,none⟩=J (C:la)
 c2:i' W ⟨g,o+2,none⟩=J (Z A n k)
 own:xp W base 5 1 (Z A n k) n ((zP C f (R*C)).map B8)
 hg:g<(W:O)
 ne:A.map (·.block)≠some g
 bs:base<=(W:O)
theorem Wk.grown {d:I} (h:Wk W base g o R C A n k f) {row:Option O} (b:W.grownBy d row) (h1:row≠some g) (h2: ∀a,A=some a->row≠some a.block):Wk d base g o R C A n k f:=
 have c: ∀p:Addr,p.block=g->i' d p=i' W p:=λp i=>zw (by rw [i];exact b.block g h.hg (Zi h1))
 ⟨(c _ rfl).trans h.c0,(c _ rfl).trans h.c1,(c _ rfl).trans h.c2,zI h.own (λa e=>b.block _ (by
  have:=jV h.own _ (by rw [e];rfl)
  obtain⟨m,l,j⟩:=this;exact jz j) (Zi (h2 a e))),qB h.hg b.size,h.ne,qv h.bs b.size⟩
theorem Wk.below (h:Wk W base g o R C A n k f) (c:r' W W b):Wk b base g o R C A n k f:=
 h.grown (vU c none) s8 (λa _=>s8)
theorem Wk.I1 {d:O->O->AB} (h:Wk W base g o R C A n k f) (c:W.grownBy a (A.map (·.block))) (e:xp a base 5 1 (Z A n k) n ((zP C d (R*C)).map B8)):Wk a base g o R C A n k d:=
 have b: ∀p:Addr,p.block=g->i' a p=i' W p:=λp i=>zw (by rw [i];exact c.block g h.hg (Zi h.ne))
 ⟨(b _ rfl).trans h.c0,(b _ rfl).trans h.c1,(b _ rfl).trans h.c2,e,qB h.hg c.size,h.ne,qv h.bs c.size⟩
theorem Wk.eqf {a:O->O->AB} (h:Wk W base g o R C A n k f) (e: ∀i j,i<R->j<C->f i j=a i j):Wk W base g o R C A n k a:=
 {h with own:=by rw [<-Yr R C f a e];exact h.own}
theorem Wk.len (h:Wk W base g o R C A n k f):n=R*C/\n<=k:=by
 have:=h.own.1;rw [zH,yj] at this;exact⟨M,(jC h.own).1⟩
theorem Wk.reads (h:Wk W base g o R C A n k f) {i:O} (hi:i<R):E' W W 1 (xo A k (i*C) 1) C ((Xu C (f i)).map B8):=by
 have:=bj (E'.zY h.own) h.len.1 hi h.len.2;rw [Uv R C i f hi] at this;exact this
theorem Y2 {w:I} (h:Wk w base g o R C A n k f) (c:o=0\/o=3) (i:O) (j:R<=255) (d:C<=255) (hi:i<R):
  xG 292 #[mJ (some ⟨g,o,none⟩),i] w λe w'=>e=t' (Z (xo A k (i*C) 1) C (k-i*C))/\r' w w w':=by
 have b:=T (λW=>Uz R C i A n k W j d hi h.len.1 h.len.2);have c0:=h.c0;have c1:=h.c1;have c2:=h.c2;clear h;rcases c with rfl|rfl
 focus simp only [jL] at c1 c2
 rotate_left
 focus simp only [Nat.reduceAdd] at c1 c2
 all_goals
  go_in;go_wp2_with fail;refine zC (b _) ?_;intro w' a;go_wp2;go_ret;exact⟨rfl,a⟩
theorem Oj {i:I} {b c:O} {d:q'} {g:S la} (h:xp W b 5 1 (Z A n c) n g) (j: ∀a,d=some a->a.block<b) (k:W.grownBy i (d.map (·.block))):xp i b 5 1 (Z A n c) n g:=
 zI h (λa f=>by
  obtain⟨p,o,l⟩:=jV h a.block (by rw [f];rfl)
  have m:=h.lt a.block (by rw [jH,f];rfl)
  refine k.block _ (jz l) (λe=> ?_);cases d with
  |none=>simp at e
  |some a'=>
   simp at e
   have:=j a' rfl;omega)
theorem Wk.lt (h:Wk W base g o R C A n k f): ∀a,A=some a->base<=a.block/\a.block<(W:O):=λa b=>h.own.lt _ (by rw [jH,b];rfl)
theorem Wk.off (h:Wk W base g o R C A n k f) (hi:i<R):i*C+C<=n:=by
 have a:(i+1)*C<=R*C:=zk _ hi;rw [ql] at a;rw [h.len.1];exact a
theorem cC:(prog.info? 5).map (·.size)=some 1:=AL
theorem Wk.put {a:I} (h:Wk W base g o R C A n k f) (hi:i<R) {x:O->AB} (c:xp a base 5 1 (Z A n k) n (splice ((zP C f (R*C)).map B8) (i*C) ((Xu C x).map B8))) (b:W.grownBy a (A.map (·.block))):
  Wk a base g o R C A n k (λr t=>if r=i then x t else f r t):=by
 refine h.I1 b ?_;rw [<-AK R C i f x hi,Rb];exact c
theorem Ae (h:Wk w base g o R C A n k f) (cL:o=0\/o=3) (i j:O) (hh:R<=255) (ih:C<=255) (hi:i<R) (v:j<R):
  xG 293 #[mJ (some ⟨g,o,none⟩),i,j] w λe w'=>e=t' (BA #[])/\Wk w' base g o R C A n k (x9 i j f)/\w.grownBy w' (A.map (·.block)):=by
 have H:=T h;have Q:=T (λW E (c:Wk W base g o R C A n k E)=>Y2 c cL i hh ih hi);have RJ:=T (λW E (c:Wk W base g o R C A n k E)=>Y2 c cL j hh ih v);have P:=T (λW (c:Wk W base g o R C A n k f)=>yV _ C (k-i*C) _ _ W (c.reads hi) (qx _) M);have X:=T (λW (c:Wk W base g o R C A n k f)=>yV _ C (k-j*C) _ _ W (c.reads v) (qx _) M);unfold jQ at P X;have K:=h.off hi;have D:=h.off v;replace K:=T K;replace D:=T D;have HA:=T (λa ha=>(h.lt a ha).2);have iL:G (∀r t,(λ(r t:O)=>if r=j then f i t else(λ(r t:O)=>if r=i then f j t else f r t) r t) r t=x9 i j f r t):=λr t=>by
  show(if r=j then f i t else if r=i then f j t else f r t)=if r=i then f j t else if r=j then f i t else f r t
  by_cases h1:r=j
  ·by_cases h2:r=i
   ·subst h1;subst h2;rfl
   ·rw [qk h1,qJ h2,qk h1]
  ·by_cases h2:r=i
   ·rw [qJ h1,qk h2,qk h2]
   ·rw [qJ h1,qJ h2,qJ h2,qJ h1]
 clear h hh ih;go_in;go_wp2_with fail;refine zC (Q _ _ H) ?_;intro w1 q;have y:=T (H.below q);have N:=T (vU q (A.map (·.block)));go_wp2_with fail;refine(P _ y).mono ?_;rintro e w2 ⟨Aa,ca,rfl,p⟩;have L:=T (y.below p.below);have uK:=T (vu N (vU p.below _));have b:=T (qi p.1 q.size);clear p q;go_wp2_with fail;refine zC (RJ _ _ L) ?_;intro w3 u;have H3:=T (L.below u);have ln:=T (vu uK (vU u _));replace b:=T (qG b u);clear u;go_wp2_with fail;refine(X _ H3).mono ?_;rintro e w4 ⟨Ab,cb,rfl,d⟩;have F:=T (H3.below d.below);have ck:=T (vu ln (vU d.below _));replace b:=T (qG b d.below);have l:=T (qi d.1 ln.size);clear d;go_wp2_with fail;refine zC (Q _ _ F) ?_;intro w5 m;have z:=T (F.below m);have iv:=T (vu ck (vU m _));replace b:=T (qG b m);replace l:=T (qG l m);clear m;go_wp2_with (refine Vl rfl (.tmp 18) (.tmp 19) 30 30 rfl 5 qu cC A n k (i*C) C base _ _ rfl z.own K Ab cb rfl w5 _ (E'.zY l) (PY (E'.zY l)) ?_;intro w6 cB s);have B:=T (z.put hi cB s);have qj:=T (vu iv s);replace b:=T (Oj b HA s);clear cB s z l;go_wp2_with fail;refine zC (RJ _ _ B) ?_;intro w7 x;have cK:=T (B.below x);have G7:=T (vu qj (vU x _));replace b:=T (qG b x);clear x;go_wp2_with (refine Vl rfl (.tmp 23) (.tmp 24) 30 30 rfl 5 qu cC A n k (j*C) C base _ _ rfl cK.own D Aa ca rfl w7 _ (E'.zY b) (PY (E'.zY b)) ?_;intro w8 d' cY);go_end0;exact⟨rfl,(cK.put v d' cY).eqf (λr t _ _=>iL.out r t),vu G7 cY⟩
def Sz (i:O) (c:AB) (j:O) (f:O->O->AB) (r t:O):UInt8:=if r=i then f i t^^^fm c (f j t) else f r t
theorem AE (h:Wk w base g o R C A n k f) (F:o=0\/o=3) (i:O) (c:AB) (j:O) (y:R<=255) (x:C<=255) (hi:i<R) (K:j<R):
  xG 295 #[mJ (some ⟨g,o,none⟩),i,gR (c.toNat:V),j] w λe w'=>e=t' (BA #[])/\Wk w' base g o R C A n k (Sz i c j f)/\w.grownBy w' (A.map (·.block)):=by
 have H:=T h;have ih:=T (λW s (a:Wk W base g o R C A n k s)=>Y2 a F i y x hi);have cY:=T (λW s (a:Wk W base g o R C A n k s)=>Y2 a F j y x K);have v:=T (λW (a:Wk W base g o R C A n k f)=>show xG 145 #[Z (xo A k (i*C) 1) C (k-i*C),gR (c.toNat:V),Z (xo A k (j*C) 1) C (k-j*C)] W (U8 5 W C (Xu C (λt=>f i t^^^fm c (f j t))) 0) by
  have h3:=wR _ _ C C (k-i*C) (k-j*C) _ _ c W (a.reads hi) (a.reads K) M M;unfold sS NT at h3;rw [QT,QT,qk rfl,qk rfl,so,Hz (QT _ _)] at h3;exact h3)
 unfold U8 at v;have z:=h.off hi;replace z:=T z;have P:G (∀r t,(λ(r t:O)=>if r=i then(λt=>f i t^^^fm c (f j t)) t else f r t) r t=Sz i c j f r t):=λr t=>rfl;have iv:=c.toNat_lt;obtain⟨hh,u⟩: ∃hh,c.toNat=hh:=⟨_,rfl⟩;rw [u] at v iv;rw [u];clear h y x u;go_in;go_wp2_with fail;refine zC (ih _ _ H) ?_;intro w1 m;have q:=T (H.below m);have E:=T (vU m (A.map (·.block)));clear m;go_wp2_with fail;refine zC (cY _ _ q) ?_;intro cB p;have B:=T (q.below p);have D:=T (vu E (vU p _));clear p;go_wp2_with fail;refine(v _ B).mono ?_;rintro e X ⟨cL,qj,rfl,l⟩;have H3:=T (B.below l.below);have L:=T (vu D (vU l.below _));have b:=T l.1;clear l;go_wp2_with fail;refine zC (ih _ _ H3) ?_;intro N d;have ln:=T (H3.below d);have Q:=T (vu L (vU d _));replace b:=T (qG b d);clear d;go_wp2_with (refine Vl rfl (.tmp 23) (.tmp 24) 30 30 rfl 5 qu cC A n k (i*C) C base _ _ rfl ln.own z cL qj rfl N _ (E'.zY b) (PY (E'.zY b)) ?_;intro ck cK uK);go_end0;exact⟨rfl,(ln.put hi cK uK).eqf (λr t _ _=>P.out r t),vu Q uK⟩
theorem yZ (h:xp w base E 1 (Z g n c) n xs):base<=g/\n<=c/\c<=maxLen/\U xs=n/\ ∃b,F' w g E b/\b.size=c/\b.toList.take n=xs:=by
 obtain⟨j,h0|⟨k,cap,cur,a,e,d,h1,h2,h3,h4⟩⟩:=h
 ·cases h0.1
 ·injection a with a i f;injection a with a;injection a with a;subst a;subst f;exact⟨e,h1,h2,M,_,d,M,by simpa using h4⟩
theorem xU (h:xp w base E 1 (Z g n c) n xs) (b:k<n):i' w ⟨g,k,none⟩=xs[k]? /\w.frozen? ⟨g,k,none⟩=false:=by
 obtain⟨_,_,_,_,e,a,d,ht⟩:=yZ h;refine⟨?_,a.frozen k⟩;rw [a.cell k,<-ht,xZ,qk b,Array.getElem?_toList]
theorem Qn (h:xp w base E 1 (Z g n c) n xs) (u:la):xp (w.setCell ⟨g,k,none⟩ u) base E 1 (Z g n c) n (xs.set k u):=by
 obtain⟨a,h1,h2,d,f,b,e,ht⟩:=yZ h;refine⟨by rw [xE];omega, .inr ⟨g,c,_,rfl,a,b.zh k u,h1,h2,by rw [yg];omega, ?_⟩⟩;rw [Array.toList_setIfInBounds,z_,List.take_set,ht]
theorem Y_ (a d:O):(a:V).tdiv (d:V)=((a/d:O):V):=by rw [Int.tdiv_eq_ediv_of_nonneg M];exact(JK _ _).symm
theorem FC (a d:O):(a:V).tmod (d:V)=((a%d:O):V):=by rw [Int.tmod_eq_emod_of_nonneg M];exact(Int.natCast_emod _ _).symm
theorem Pd (a k:O):(a:V)/2^k=((a/2^k:O):V):=by rw [JK,j6];rfl
theorem FA (W:I) (g B:O) (A:q') (n cap at_:O) (bs:qn) (c0:i' W g=J (Z A n cap)) (f:E' W B 1 A n (bs.map B8)) (k:at_<8*n) (x:n<=1000000000):
  xG 290 #[mJ g,at_] W λe j=>e=t' (.int .u64 (dq bs at_))/\W=j:=by
 have h:at_/8<n:=M;obtain⟨t,z,rfl,-,b,l⟩:=f.byte h;have c:dq bs at_=z.toNat/2^(7-at_%8)%2:=by unfold dq;rw [qd,b];rfl
 rw [c];have o:(at_:V).tdiv 8=((at_/8:O):V):=Y_ _ 8;have v:(at_:V).tmod 8=((at_%8:O):V):=FC _ 8;have i:at_%8<8:=xC _ M;have d:=z.toNat_lt;clear k c;generalize at_/8=q,at_%8=r,z.toNat=a at*;have w:=j' q n;have D:=Pd a (7-r);have h7:((7:V)-(r:V))=((7-r:O):V):=M;have m:a/2^(7-r)<256:=vQ (xr _ _) d;clear f b h d;generalize a/2^(7-r)=y at*;have C:=cP y M;generalize 7-r=s at*;clear i;go_wp2;go_ret;exact⟨by rw [Int.natCast_emod];rfl,rfl⟩
theorem Od (x b:O) (d:2*x+b<18446744073709551616) (c:b<2):bits .or .u64 ((x:V)*2) (b:V)=((2*x+b:O):V):=by
 have a:(x:V)*2=((2*x:O):V):=M;rw [a,u64_or_nat _ _ M M];congr 1;have:=nat_join 1 (2*x) b M M;exact this
theorem Ga (W:I) (g B:O) (A:q') (n cap at_ k m:O) (bs:qn) (c0:i' W g=J (Z A n cap)) (c1:i' W ⟨g,1,none⟩=J (m:la)) (c:m=8*n) (r:E' W B 1 A n (bs.map B8)) (E:n<=1000000000) (cL:k<=64) (uK:at_<=8000000000):
  xG 287 #[mJ g,at_,k] W λe z=>e=t' (.int .u64 (kM bs at_ k))/\W=z:=by
 have l:=r.len;have f:=λi hi=>T (FA W g B A n cap i bs c0 r hi E);replace c:=T c;replace l:=T l;have H:wrap64 ((at_:V)+(k:V))=(at_:V)+(k:V):=yT _ ⟨M,M⟩;clear r c0;go_wp2;go_loopw [7,8] (λD o wr=> ∃(j i x:O),o=(i:la)/\D= .int .u64 (x:O)/\i<=at_+k/\G (i=at_+j)/\G (x=kM bs at_ j)/\W=wr) (λ_ o _=>(at_+k)-(intOf o).toNat)
 ·exact⟨0,at_,0,rfl,rfl,M,rfl,rfl,rfl⟩
 ·obtain⟨j,i,x,rfl,rfl,hi,a,d,rfl⟩:=hrel;by_cases p:i<at_+k
  ·have L:(i:V)<(at_:V)+(k:V):=M;have N:j<k:=by have:=a.out;omega
   have Q:(i:V)+1<9223372036854775808:=M;have t:x<2^j:=by rw [d.out];exact Zr _ _ _
   have K:x<9223372036854775808:=by
    have h2:2^j<=2^63:=zZ M M;omega
   have h:=T p;by_cases q:i<m
   focus
    have w:=j' i m;have u:=f i (by rw [<-c.out];exact q);have v:=Od x (dq bs i) (by have:=D2 bs i;omega) (D2 bs i);obtain⟨y,b⟩:=zn (2*x+dq bs i);rw [<-b] at v;have s:G (y=kM bs at_ (j+1)):=by
     rw [Hid,b,d.out];show _=2*kM bs at_ j+(if at_+j<8*U bs then dq bs (at_+j) else 0);rw [<-a.out,qk (by rw [l.out,<-c.out];exact q)]
    generalize dq bs i=F at*;clear b t p f;go_wp2_with fail;refine Ω u ?_
   rotate_left
   focus
    have w:=vc i m;obtain⟨y,b⟩:=zn (2*x);have R:(x:V)*2=(y:V):=M;have s:G (y=kM bs at_ (j+1)):=by
     rw [Hid,b,d.out];show _=2*kM bs at_ j+(if at_+j<8*U bs then dq bs (at_+j) else 0);rw [<-a.out,qJ (by rw [l.out,<-c.out];exact q)];rfl
    clear b t p f
   all_goals
    go_wp2;go_roundw
    case rel=>exact⟨j+1,i+1,y,s8,xg,by have:=h.out;omega,by rw [Hid,a.out];omega,s,trivial⟩
    case measure=>have:=h.out;simp [intOf];omega
  ·have P: ¬(i:V)<(at_:V)+(k:V):=M;have C:G (x=kM bs at_ k):=by
    rw [Hid,d.out];have:j=k:=by have:=a.out;omega
    rw [this]
   clear f;go_wp2;go_ret;exact⟨by rw [<-C.out];rfl,rfl⟩
def _h (x:O):Value:= .int .u16 (x:V)
def pJ (f:O->O):Array Value:=((List.range 17).map λl=>Value.int .i64 (f l)).toArray
theorem Kz (f:O->O):(pJ f).size=17:=by simp [pJ]
theorem kK (f:O->O) (h:l<17):(pJ f)[l]? =J (e' (f l)):=by simp [pJ,h]
theorem eO (f:O->O) (v:O):(pJ f).setIfInBounds l v=pJ (λj=>if j=l then v else f j):=by
 apply ZD;intro j;rw [jM];by_cases b:l=j
 ·subst b;by_cases a:l<17
  ·rw [qk rfl,qk (by rw [Kz];exact a),kK _ a,qk rfl]
  ·rw [qk rfl,qJ (by rw [Kz];exact a),zg (by rw [Kz];omega)]
 ·rw [qJ b];by_cases a:j<17
  ·rw [kK _ a,kK _ a,qJ (λe=>b e.symm)]
  ·rw [zg (by rw [Kz];omega),zg (by rw [Kz];omega)]
def I7:Array Value:=Array.replicate 17 ()
theorem OF:I7=pJ λ_=>0:=by rfl
theorem mh:(prog.info? 354).map (λi=>(i.zero,i.size))=J (some (.agg I7),17):=AL
theorem mH:(prog.info? 25).map (λi=>(i.zero,i.size,i.bytes))=J (some (.int .u16 0),1,2):=AL
theorem FT (bs:qn) (a:U bs<=300): ∀l,xV bs (l+1)+600<=600*2^l
 |0=>by simp [xV]
 |l+1=>by
  have h1:=FT _ a l;have h2:=CK bs (l+1);show(xV bs (l+1)+RQ bs (l+1))*2+600<=_;rw [vB];omega
theorem Dz (bs:qn) (a:U bs<=300) (l:O) (b:l<=16):xV bs l<=19660800:=by
 cases l with
 |zero=>simp [xV]
 |succ l=>
  have h1:=FT _ a l;have h2:2^l<=2^15:=zZ M M;omega
theorem Dj (a:qn): ∀t p,U (PQ a p t)=U t
 |[],_=>rfl
 |x::t,p=>by show(PQ a (p++[x]) t).length+1=_;rw [Dj a t,qf]
theorem Fw (a:qn): ∀(t p:qn) (i:O) (x:AB),t[i]? =some x->(PQ a p t)[i]? =J (if x.toNat=0 then 0 else(xV a x.toNat+RQ (p++t.take i) x.toNat)%65536)
 |[],p,i,x,h=>by simp at h
 |y::t,p,0,x,h=>by
  simp at h
  subst h;show some _=_;simp
 |y::t,p,i+1,x,h=>by
  have:=Fw a t (p++[y]) i x (by simpa using h)
  show(PQ a (p++[y]) t)[i]? =_
  rw [this];simp
theorem PD (bs:qn):U (Xt bs)=U bs:=Dj _ _ _
theorem FW (bs:qn) (i:O) (x:AB) (h:bs[i]? =some x):(Xt bs)[i]? =J (if x.toNat=0 then 0 else(xV bs x.toNat+RQ (bs.take i) x.toNat)%65536):=Fw _ _ _ i x h
theorem ZT {bs:qn} (h:gk bs=0):U bs<=300/\okL bs=true/\ ∀x∈bs,x.toNat<=15:=by
 unfold gk at h;have b:okL bs=true:=by
  rcases Classical.em (okL bs=true) with h2|h2
  ·exact h2
  ·rw [qJ (λh3=>h2 h3.1)] at h;exact absurd h FV
 have a:=b;unfold okL at a;simp only [zR,zd,xT] at a;exact⟨a.1,b,a.2⟩
theorem uf (bs:qn):gk bs=0\/gk bs=7:=by unfold gk;split<;>simp
def YW (bs:qn):S Nat:=if gk bs=0 then Xt bs else []
def FN (w:I) (bs:qn) (e:Ending) (w':I):Prop:= ∃A c,e=t' (BA #[Z A (U (YW bs)) c,e' (gk bs)])/\xp w' w 25 1 (Z A (U (YW bs)) c) (U (YW bs)) ((YW bs).map _h)/\r' w w w'
theorem Ck (A:Option Addr) (n c B:O) (bs:S AB) (w:I) (h:E' w B 1 A n (bs.map B8)) (hB:B<=(w:O)):
  xG 208 #[Z A n c] w (FN w bs):=by
 have hz:=(jb Fe).1;rw [CY] at hz;have Z':=(jb mh).1;rw [OF] at Z';have hh:=T (kY A n c B bs w h hB);have H:=T h;have qj:=T hB;have X:=T h.len;have hsz:=λf=>T (du f);obtain⟨i0,hi,N6,J',D'⟩:=qA mH;replace hi:=T hi;replace N6:=T N6;replace J':=T J';replace D':=T D';clear h hB;rcases uf bs with s|s
 ·have ln:=T s
  rw [s] at hh;obtain⟨y,d',G'⟩:=ZT s;have hn:n<=300:=by rw [<-X.out];exact y
  replace y:=T y;replace d':=T d';replace G':=T G';clear s;go_enter func208,ntmps208
  go_wp2_with fail;refine hh.mono ?_;rintro e w1 ⟨rfl,r⟩;have KC:=T (bM A n c B bs w1 (H.below (r.mono qj)) (qv qj r.size));have cK:=T r;clear hh r
  go_wp2_with fail;refine KC.mono ?_;rintro e b ⟨f,rfl,cB,N9⟩;have HF:=T (cB.2 d');have HF3:=T cB.1;have C:=T (cK.trans (N9.mono cK.size));clear KC cB N9 cK;have Y':G (F' (b (Y (x8 λ_=>0) 350)) b 350 (x8 λ_=>0)):=F'.new b _ _
  go_wp2_with (first
   |(refine qC rfl 350 _ _ rfl b (x8 f) rfl rfl 350 (x8 λ_=>0) Y' (hsz _).out rfl (pe _) ?_))
  have hb1:G (F' (((b.alloc (Y (x8 λ_=>0) 350)).setRow b (x8 f)).alloc (Y (pJ λ_=>0) 354)) b 350 (x8 f)):=((F'.new b _ _).row _).alloc _;have S':G (F' (((b.alloc (Y (x8 λ_=>0) 350)).setRow b (x8 f)).alloc (Y (pJ λ_=>0) 354)) ((b:O)+1) 354 (pJ λ_=>0)):=by
   have:=F'.new ((b (Y (x8 λ_=>0) 350)).setRow b (x8 f)) 354 (pJ λ_=>0);rw [Xk] at this;simpa [Hid] using this
  have OX:G (r' w w (((b.alloc (Y (x8 λ_=>0) 350)).setRow b (x8 f)).alloc (Y (pJ λ_=>0) 354))):=
   (zu (C.alloc C.size _) C.size _).alloc (by rw [Xk];exact qv C.size s8) _
  have hg5:G ((w:O)<=(b:O)):=C.size;clear Y' C hz Z';generalize ((b.alloc (Y (x8 λ_=>0) 350)).setRow b (x8 f)).alloc (Y (pJ λ_=>0) 354)=w3 at*
  generalize hg7:(b:O)+1=a at*
  have hne:G ((b:O)≠a):=by rw [Hid];omega
  have P':G ((w:O)<=a):=by rw [Hid];have:=hg5.out;omega
  replace hg7:=T hg7;generalize (b:O)=cL at*
  go_loopw [8] (λv8 wr=> ∃(l:O) (q:O->O),v8=(l:la)/\1<=l/\l<=16/\G (r' w w wr)/\G (F' wr cL 350 (x8 f))/\G (F' wr a 354 (pJ q))/\G (∀j,1<=j->j<=l->q j=xV bs j)) (λv8 _=>16-(intOf v8).toNat)
  case atStart=>exact⟨1,λ_=>0,rfl,M,M,OX,hb1,S',λj h1 h2=>by rw [show j=1 by omega];rfl⟩
  case round=>
   clear hb1 S' OX;obtain⟨l,q,rfl,hl1,hl,g,H5,d,m⟩:=hrel;by_cases uK:l<16
   ·have hlt':(l:V)<16:=M
    have c7:i' wr ⟨a,l,none⟩=J (e' (xV bs l)):=by rw [d.cell,kK _ M,m.out l hl1 (qx _)]
    have c5:i' wr ⟨cL,l,none⟩=J (e' (RQ bs l)):=by rw [H5.cell,YD _ uK,HF.out l uK,qJ M]
    have U':=Dz bs y l M;have hcn:=qv (CK bs l) y.out;have hnx:G ((xV bs l+RQ bs l)*2=xV bs (l+1)):=by
     obtain⟨l,rfl⟩: ∃k,l=k+1:=⟨l-1,M⟩;rfl
    generalize xV bs l=u at*
    generalize RQ bs l=ih at*
    obtain⟨v,hv⟩: ∃v,v=(u+ih)*2:=⟨_,rfl⟩;have w1_:DW ((l:V)+1)=(l:V)+1:=SX;have w2_:DW ((u:V)+(ih:V))=(u:V)+(ih:V):=SX;have w3_:DW (((u:V)+(ih:V))*2)=(v:V):=SX;have w0_:DW (l:V)=(l:V):=SX;have hb17:(l:V)+1<17:=M;have hl0:(0:V)<=(l:V):=M;have hl10:(0:V)<=(l:V)+1:=M;have hl17:(l:V)<17:=M;have fz:wr.frozen? ⟨a,l+1,none⟩=false:=d.frozen _;have cz:i' wr ⟨a,l+1,none⟩=J (e' (q (l+1))):=by rw [d.cell,kK _ M]
    have hvv:=T hv;clear hv
    go_wp2_with fail;refine zv 10 (λW=>i' W ⟨a,l,none⟩=J (u:la)/\i' W ⟨cL,l,none⟩=J (ih:la)) AL ⟨c7,c5⟩ (λhHeld=> ?_)
    refine zq [0,1,2,3,4,5] (a':= ?_) ?_;refine zq [6,7,8,9] (a':= ?_) ?_;refine j4 10 rfl AL FV SQ (λK E=> ?_);go_simp;refine E _ _ ?_;clear E K;try simp only [Act.put,qQ,qY,qV]
    refine j4 11 rfl AL FV SQ (λK E=> ?_);go_simp;refine E _ _ ?_;clear E K;try simp only [Act.put,qQ,qY,qV]
    refine zV AL ?_ _;clear w0_ w1_ w2_ w3_ hHeld c7 c5 cz fz;have iL:G (F' ((wr.setCell ⟨a,l+1,none⟩ v).drew) a 354 (pJ λj=>if j=l+1 then v else q j)):=by
     rw [Hid,<-eO];exact(d.zh (l+1) _).drew
    have H5n:G (F' ((wr.setCell ⟨a,l+1,none⟩ v).drew) cL 350 (x8 f)):=(H5.far (p:=⟨a,l+1,none⟩) hne _).drew;have m':G (r' w w ((wr.setCell ⟨a,l+1,none⟩ v).drew)):=(g.setCell (p:=⟨a,l+1,none⟩) P' _).drew;have HQn:G (∀j,1<=j->j<=l+1->(λj=>if j=l+1 then v else q j) j=xV bs j):=λj h1 h2=>by
     dsimp only;by_cases h:j=l+1
     ·rw [qk h,h,<-hnx.out,hvv.out]
     ·rw [qJ h];exact m j h1 M
    generalize (λj=>if j=l+1 then v else q j)=q2 at*
    generalize (wr.setCell ⟨a,l+1,none⟩ v).drew=cY at*
    go_wp2_with fail;go_roundw
    case rel=>exact⟨l+1,q2,s8,M,M,m',H5n,iL,HQn⟩
    case measure=>simp [intOf];omega
   ·have hge: ¬(l:V)<16:=M
    have hbb1:i0.bytes*n<=281474976710656:=by rw [D'.out];omega
    have hbb2:n<=maxLen:=SJ;have HQ2:G (∀j,1<=j->j<=15->q j=xV bs j):=λj h1 h2=>m.out j h1 M;clear H5 m
    go_wp2_with (at_make;refine xP _ rfl _ _ 212 rfl w 25 i0 (.int .u16 0) 1 underlying212 hi N6 J' .i64 .i64 _ _ n rfl rfl rfl rfl hbb1 hbb2 g.size ?_;intro cY ho6 p')
    have Q':G (r' w w cY):=g.grown p' g.size (λk hk=>by cases hk)
    have H76:G (F' cY a 354 (pJ q)):=d.grown p' s8;have HO6:=T ho6;have X':G ((wr:O)≠a):=by rw [Hid];have:=d.lt;omega
    have hgw:G ((w:O)<=(wr:O)):=g.size;clear ho6 p' g d;generalize (wr:O)=o at*
    go_loopw [42] (λck wq=> ∃(i:O) (q2:O->O) (zs:S la),ck=(i:la)/\i<=n/\G (r' w w wq)/\G (F' wq a 354 (pJ q2))/\G (xp wq w 25 1 (Z o n n) n zs)/\G (zs.take i=((Xt bs).map _h).take i)/\G (zs.drop i=List.replicate (n-i) (.int .u16 0))/\G (∀j,1<=j->j<=15->q2 j=xV bs j+RQ (bs.take i) j)) (λck _=>n-(intOf ck).toNat)
    case atStart=>exact⟨0,q,_,rfl,qp _,Q',H76,HO6,by simp [Hid],by rw [Hid,Zy,Nat.sub_zero,z_];exact xf _ _,λj h1 h2=>by rw [HQ2.out j h1 h2];simp [RQ]⟩
    case round=>
     clear Q' H76 HO6 HQ2;obtain⟨i,q2,zs,rfl,hi_,g,d,t,x,D,m⟩:=hrel;by_cases uK:i<n
     ·have hlt':(i:V)<(n:V):=M
      obtain⟨ad,z,hAd,-,F,hcell⟩:=(H.below (g.mono qj)).byte uK;subst hAd;have L:=FW bs i z F;have iv:=PD bs;have z':=t.out.1;have hz15:=G'.out z (zQ F);have R: ∀j,RQ (bs.take (i+1)) j=RQ (bs.take i) j+if z.toNat=j then 1 else 0:=λj=>by
       rw [qs,F];exact eW _ _ _
      rw [z_] at z';have P:zs[i]? =J (.int .u16 0):=by
       have h1:=D.out;have h2:(zs.drop i)[0]? =J (.int .u16 0):=by rw [h1,jF];rw [qk M]
       rw [jt] at h2;simpa using h2
      by_cases h0:z.toNat=0
      ·have hz0': ¬(0:V)<(z.toNat:V):=M
       have M':G (zs.take (i+1)=((Xt bs).map _h).take (i+1)):=by
        rw [Hid,qs,qs,x.out,P,qD,L,qk h0];rfl
       have u':G (zs.drop (i+1)=List.replicate (n-(i+1)) (.int .u16 0)):=by
        have:=zo (List.drop 1) D.out;rw [vh] at this;rw [Hid,this,JC];congr 1
       have I':G (∀j,1<=j->j<=15->q2 j=xV bs j+RQ (bs.take (i+1)) j):=λj h1 h2=>by
        rw [m.out j h1 h2,R j,qJ M];rfl
       clear m x D R L F P h0
       go_wp2_with fail;go_roundw
       case rel=>exact⟨i+1,q2,zs,by first|rfl|simp,M,g,d,t,M',u',I'⟩
       case measure=>simp [intOf];omega
      ·have hz0':(0:V)<(z.toNat:V):=M
       have N:=m.out z.toNat M hz15;have U':=Dz bs y z.toNat M;have hcn:=qv (CK (bs.take i) z.toNat) (List.length_take_le _ _);have c7:i' wr ⟨a,z.toNat,none⟩=J (e' (q2 z.toNat)):=by rw [d.cell,kK _ M]
       have f7:wr.frozen? ⟨a,z.toNat,none⟩=false:=d.frozen _;obtain⟨eo,u⟩:=xU t uK;rw [P] at eo;have hw16:G (IntKind.u16.wrap (q2 z.toNat:V)=(((xV bs z.toNat+RQ (bs.take i) z.toNat)%65536:O):V)):=by
        rw [Hid,IntKind.wrap_u16,N];omega
       rw [qJ h0] at L;have N':=T (Qn (k:=i) t (_h ((xV bs z.toNat+RQ (bs.take i) z.toNat)%65536)));have hngo:G (a≠o):=λe=>X'.out e.symm;have Q:=T (d.far (p:=⟨o,i,none⟩) hngo (_h ((xV bs z.toNat+RQ (bs.take i) z.toNat)%65536)));have O':=T (g.setCell (p:=⟨o,i,none⟩) hgw (_h ((xV bs z.toNat+RQ (bs.take i) z.toNat)%65536)));have HO3:G ((((wr.setCell ⟨o,i,none⟩ (_h ((xV bs z.toNat+RQ (bs.take i) z.toNat)%65536)))).setCell ⟨a,z.toNat,none⟩ ((q2 z.toNat+1:O):V)).ownsRow w 25 1 (Z o n n) n (zs.set i (_h ((xV bs z.toNat+RQ (bs.take i) z.toNat)%65536)))):=
        ((qE.refl [a] _).zh (p:=⟨a,z.toNat,none⟩) (qy.2 rfl) _).own N' (λk hk=>by have:=ZO.1 hk;simp at this;subst this;simpa using X'.out)
       have iL:G (F' (((wr.setCell ⟨o,i,none⟩ (_h ((xV bs z.toNat+RQ (bs.take i) z.toNat)%65536)))).setCell ⟨a,z.toNat,none⟩ ((q2 z.toNat+1:O):V)) a 354 (pJ λj=>if j=z.toNat then q2 z.toNat+1 else q2 j)):=by
        rw [Hid,<-eO];exact Q.zh _ _
       have m':G (r' w w (((wr.setCell ⟨o,i,none⟩ (_h ((xV bs z.toNat+RQ (bs.take i) z.toNat)%65536)))).setCell ⟨a,z.toNat,none⟩ ((q2 z.toNat+1:O):V))):=O'.setCell (p:=⟨a,z.toNat,none⟩) P' _;have M':G ((zs.set i (_h ((xV bs z.toNat+RQ (bs.take i) z.toNat)%65536))).take (i+1)=((Xt bs).map _h).take (i+1)):=by
        rw [Hid,qs,qs,List.take_set,x.out,Qq M,qD,L];congr 1
        rw [Jo];rw [qh];exact xK _ _
       have u':G ((zs.set i (_h ((xV bs z.toNat+RQ (bs.take i) z.toNat)%65536))).drop (i+1)=List.replicate (n-(i+1)) (.int .u16 0)):=by
        have:=zo (List.drop 1) D.out;rw [vh] at this;rw [Hid,List.drop_set_of_lt M,this,JC];congr 1
       have I':G (∀j,1<=j->j<=15->(λj=>if j=z.toNat then q2 z.toNat+1 else q2 j) j=xV bs j+RQ (bs.take (i+1)) j):=λj h1 h2=>by
        dsimp only;rw [R j];by_cases h:j=z.toNat
        ·subst h;rw [qk rfl,qk rfl,N];omega
        ·rw [qJ h,qJ (λe=>h e.symm),m.out j h1 h2];rfl
       have hqb:q2 z.toNat<=20000000:=by rw [N];omega
       have c7b:i' (wr.setCell ⟨o,i,none⟩ (_h ((xV bs z.toNat+RQ (bs.take i) z.toNat)%65536))) ⟨a,z.toNat,none⟩=J (e' (q2 z.toNat)):=by rw [Q.cell,kK _ M]
       have f7b:(wr.setCell ⟨o,i,none⟩ (_h ((xV bs z.toNat+RQ (bs.take i) z.toNat)%65536))).frozen? ⟨a,z.toNat,none⟩=false:=Q.frozen _;have hwo:=hw16.out;clear m x D R L F P h0 N U' hcn N' Q O' t g d;unfold _h at*
       generalize (λj=>if j=z.toNat then q2 z.toNat+1 else q2 j)=q3 at*
       generalize zs.set i (Value.int .u16 (((xV bs z.toNat+RQ (bs.take i) z.toNat)%65536:O):V))=zs3 at*
       generalize (xV bs z.toNat+RQ (bs.take i) z.toNat)%65536=cv at*
       generalize q2 z.toNat=qz at*
       generalize z.toNat=zz at*
       go_wp2_with fail;go_roundw
       case rel=>exact⟨i+1,q3,zs3,by first|rfl|simp,M,by simpa using m',by simpa using iL,by simpa using HO3,M',u',I'⟩
       case measure=>simp [intOf];omega
     ·have hge: ¬(i:V)<(n:V):=M
      obtain rfl:i=n:=M;have iv:=PD bs;have z':=t.out.1;rw [z_] at z';have hzs:G (zs=(Xt bs).map _h):=by
       have:=x.out;rw [qH M,qH (by rw [zH,iv,X.out];omega)] at this
       exact this
      have hcl2:G (U (YW bs)=i):=by unfold YW;rw [Hid,qk ln.out,iv,X.out]
      have hcr:G (YW bs=Xt bs):=by unfold YW;rw [Hid,qk ln.out]
      clear x D m d iv
      go_wp2_with fail
      go_ret2;refine⟨some ⟨o,0,none⟩,i, ?_, ?_,g.out⟩
      ·rw [hcl2.out,ln.out];rfl
      ·rw [hcl2.out,hcr.out,<-hzs.out];exact t.out
 ·have ln:=T s
  rw [s] at hh;go_enter func208,ntmps208
  go_wp2_with fail;refine hh.mono ?_;rintro e w1 ⟨rfl,r⟩;replace r:=T r;clear s
  go_wp2_with fail
  go_ret2;unfold FN YW;rw [ln.out];exact⟨none,0,rfl,qP _ _ _ _,r.out⟩
end
end Go.Proofs.YtfnlfpcfkbdcmaaGreatDoor
