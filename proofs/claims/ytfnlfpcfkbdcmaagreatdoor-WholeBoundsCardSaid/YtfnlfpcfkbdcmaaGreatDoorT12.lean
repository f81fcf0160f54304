import Derived.Test.YtfnlfpcfkbdcmaaGreatDoorT10
import Derived.Test.YtfnlfpcfkbdcmaaGreatDoorT11
set_option linter.unusedSimpArgs false
set_option linter.unusedVariables false
set_option maxRecDepth 100000
set_option maxHeartbeats 0
open Go.Proofs.Tryz
namespace Go.Proofs.YtfnlfpcfkbdcmaaGreatDoor
open Go.RowKit
section
variable {j:O}{l:S qn}{m:V}
def wI (w:I) (n:O) (a:S qn) (b:V) (e:Ending) (w':I):Prop:= ∃A c,e=t' (BA #[Z A n c,b])/\zM w' 0 w A n c a/\r' w w w'
def YP (m:V) (l:S qn):Bool:=gO l m&&Hx l
def DN (m:V) (l:S qn):S qn:=if YP m l=true then yH m.toNat l (U (l.headD [])) (Vq l) l else []
def Sy (m:V) (l:S qn):Int:=if YP m l=true then 0 else 13
theorem wL (h:YP m l=false):DN m l=[]:=by unfold DN;rw [qJ (by rw [h];decide)]
theorem w_ (h:YP m l=false):Sy m l=13:=by unfold Sy;rw [qJ (by rw [h];decide)]
theorem AO (h:YP m l=true):DN m l=yH m.toNat l (U (l.headD [])) (Vq l) l:=by unfold DN;rw [qk h]
theorem AI (h:YP m l=true):Sy m l=0:=by unfold Sy;rw [qk h]
theorem bp (h:Hx l=true): ∀x∈l,U x=U (l.headD []):=by
 unfold Hx at h;rw [xT] at h;exact λx a=>by simpa using h x a
theorem Kl (A:q') (n c:O) (a:S qn) (w:I) (h:vm w w A n a) (b:n<=100000):
  xG 101 #[Z A n c] w λe w'=>e=t' (.bool (Hx a))/\Dr w w':=
 (sM A n c _ a w h b).mono λe w' h=>⟨h.1,h.2▸Dr.refl _⟩
theorem FJ (m:V) (A:q') (n c:O) (b:S qn) (w:I) (h:vm w w A n b) (P:n<=100000) (s: ∀x∈b,U x<=1000000):
  xG 69 #[m,Z A n c] w (wI w (U (DN m b)) (DN m b) (Sy m b)):=by
 have i:U b=n:=by obtain⟨_,_,h2,_⟩:=h;exact h2
 cases d:gO (n:V) m
 focus
  rw [wL (by unfold YP;rw [i,d];rfl),w_ (by unfold YP;rw [i,d];rfl)];have o:G (∀W,xG 100 #[n,m] W λe w'=>e=t' false/\W=w'):=λW=>by rw [<-d];exact dv _ _ _
  clear h i d s
 rotate_left
 focus
  have o:G (∀W,xG 100 #[n,m] W λe w'=>e=t' true/\W=w'):=λW=>by rw [<-d];exact dv _ _ _
  cases g:Hx b
  focus
   rw [wL (by unfold YP;rw [g,Bool.and_false]),w_ (by unfold YP;rw [g,Bool.and_false])];have ln:G (xG 101 #[Z A n c] w λe w'=>e=t' false/\Dr w w'):=by rw [<-g];exact Kl A n c b w h P
   clear h i g d s
  rotate_left
  focus
   have F:YP m b=true:=by unfold YP;rw [i,d,g];rfl
   obtain⟨p,cK⟩: ∃p:O,m=(p:V):=by unfold gO at d;simp at d;exact⟨m.toNat,M⟩
   subst cK;have uK:n+p<=255/\1<=n:=by unfold gO at d;simp at d;omega
   rw [AO F,AI F,zc,i,x_];have ln:G (xG 101 #[Z A n c] w λe w'=>e=t' true/\Dr w w'):=by rw [<-g];exact Kl A n c b w h P
   obtain⟨L,q⟩: ∃L,U (b.headD [])=L:=⟨_,rfl⟩;have cL: ∀x∈b,U x=L:=by rw [<-q];exact bp g
   have H:L<=1000000:=by
    rw [<-q];cases b with
    |nil=>simp
    |cons a t=>exact s a (qo ..)
   rw [q];have j:=T (λW=>bz n p W uK.1);unfold Ps at j;unfold mC at j;simp only [yj] at j;have C:=
    T (λW l k u K X R=>bQ p n L (Vq n) l A k u b W M M uK.2 X H R ((h.below K).more K.size) cL)
   unfold AA at C;generalize yH p n L (Vq n) b=d' at*;clear h i g d s F q cL H;obtain⟨N,v⟩: ∃N,p*n=N:=⟨_,rfl⟩;rw [v] at j C;generalize zP n (Vq n) N=xc at*;have cB:=(jb YE).1
  rotate_left
 rotate_left 2
 all_goals
  go_in;go_wp2_with fail;refine Ω (o _) ?_;go_wp2_with fail
 ·go_ret2;exact⟨_,_,rfl,zM.nil _ _ _ (qp _) (qx _),qZ _ _⟩
 ·refine zC ln ?_;intro qj f;replace f:=T f;go_wp2;go_ret2;exact⟨_,_,rfl,zM.nil _ _ _ (qp _) (Nat.le_of_eq f.size.symm),f.below _⟩
 ·refine zC ln ?_;intro qj f;replace f:=T f;go_wp2_with fail;refine(j _).mono ?_;rintro e w2 ⟨Ac,kc,rfl,hh,ih⟩;have B:=J7 hh;have z:=T (zi (zX (f.below _) ih) (Y #[p,n,Z Ac N kc] 154));have y:=T (MB.new (r:=(p:O)) (c:=(n:O)) B.1 B.2);clear B hh ih;obtain⟨cY,Q,iv⟩:=y.cells;go_wp2_with fail;refine(C _ _ _ _ z y.cap y.rd).mono ?_;rintro e ck ⟨A3,c3,rfl,E,D⟩;replace E:=T E;replace D:=T D;clear cY Q iv;go_wp2;go_ret2;exact⟨_,_,rfl,E.out.Vg (qx _) (qp _) z.size,zX z D⟩
end
section
variable {A:q'}{W a w:I}{base base' c i j kk l n x:O}{f:TypeId}{g:S Bool}
def kC (g:S Bool) (i:O):S Nat:=(List.range i).filter λt=>g.getD t false
def kB (kk:O) (g:S Bool) (i:O):S Nat:=(kC g i).take kk
def xy (l:S qn) (P:S O):S qn:=P.map λt=>l.getD t []
theorem RS (h:g.getD i false=true):kC g (i+1)=kC g i++[i]:=by
 unfold kC;rw [jA,vx,yW (p:=λt=>g.getD t false) h];rfl
theorem ij (h:g.getD i false=false):kC g (i+1)=kC g i:=by
 unfold kC;rw [jA,vx,yw (p:=λt=>g.getD t false) (by rw [h];decide)];simp
theorem il (h:g.getD i false=false):kB kk g (i+1)=kB kk g i:=by unfold kB;rw [ij h]
theorem NI (h: ¬U (kB kk g i)<kk):kB kk g (i+1)=kB kk g i:=by
 unfold kB at h⊢;rw [qh] at h;cases a:g.getD i false with
 |false=>rw [ij a]
 |true=>rw [RS a,ZV M]
theorem Ov (h:g.getD i false=true) (a:U (kB kk g i)<kk):kB kk g (i+1)=kB kk g i++[i]:=by
 unfold kB at a⊢;rw [qh] at a;rw [RS h,qH (by rw [qK];simp;omega),qH M]
theorem iy (h:x∈kC g i):x<i:=by
 unfold kC at h;exact js.1 (vJ.1 h).1
theorem Wq (h:x∈kC g i):g.getD x false=true:=by
 unfold kC at h;exact(vJ.1 h).2
theorem Nl (g:S Bool) (i:O):(kC g i).Nodup:=List.nodup_range.filter _
theorem NL (g:S Bool) (i:O):U (kC g i)<=i:=by
 have:=jN (λt=>g.getD t false) (List.range i);rw [yS] at this;exact this
theorem Wz (kk:O) (g:S Bool) (i:O):U (kB kk g i)=min kk (U (kC g i)):=by unfold kB;rw [qh]
theorem Oy (h:i<=kk):kB kk g i=kC g i:=by
 unfold kB;exact qH (qv (NL _ _) h)
theorem K8 (l:S qn) (P:S O):U (xy l P)=U P:=by simp [xy]
def NV (t:O):Value:=e' (t:V)
theorem N0:(prog.info? 3).map (λi=>(i.zero,i.size,i.bytes))=J (some (e' 0),1,8):=AL
theorem Zt {i:I} {size q:O} {d:q'} {E:TypeId} {g p:S la} (h:xp W base E size (Z A n c) n g) (o:xp W base' f q (Z d j l) j p) (r:E≠f) (m:W.grownBy i (d.map (·.block))):xp i base E size (Z A n c) n g:=by
 refine zI h λa s=> ?_;obtain⟨v,u,k⟩:=jV h _ (by rw [s];rfl);refine m.block _ (jz k) λe=> ?_;obtain⟨w,t,b⟩:=jV o _ e.symm;rw [k] at b;injection b with b;injection b with _ ht;exact r ht
theorem zM.apart {k:I} {b0 m u:O} {g:q'} {j:S qn} {q:S la} (h:zM W b0 base A n c j) (d:xp W base' f u (Z g l m) l q) (w:30≠f) (o:5≠f) (z:base<=base') (b:W.grownBy k (g.map (·.block))):zM k b0 base A n c j:=by
 obtain⟨⟨vs,h1,h2,h3⟩,y,h0⟩:=h;refine⟨⟨vs,Zt h1 d w b,h2,λi r hi=> ?_⟩,qv y b.size,h0⟩;obtain⟨Ai,s,t,x,v,a⟩:=h3 i r hi;refine⟨Ai,s,t,x,v, ?_⟩;rcases a with a|a
 ·refine .inl (a.keep λp C=>zw (b.block p.block M λe=> ?_));obtain⟨D,B,E⟩:=jV d _ e.symm;have:=d.lt _ (by rw [jH];exact e.symm);omega
 ·exact .inr (Zt a d o b)
def FX (w:I) (P:S O) (l:S qn) (e:Ending) (w':I):Prop:= ∃A c a c2,e=t' (BA #[Z A P c,Z a P c2])/\xp w' w 3 1 (Z A P c) P (P.map NV)/\zM w' w w a P c2 l/\r' w w w'
theorem OQ {B k:O} {c:S Bool} (h:E' w B 1 A n (c.map Value.bool)) (e:k<n): ∃a b,A=some a/\c.getD k false=b/\i' w (a.add k)=J (.bool b):=by
 obtain⟨a,u,f,_,i,d⟩:=h.at_ e;obtain⟨b,g,rfl⟩:=LX _ c k u i;exact⟨a,b,f,by rw [qd,g];rfl,d⟩
structure OZ (w W:I) (A Ag:q') (n:O) (xss:S qn) (gs:S Bool):Prop where
 row: ∀j,j<n-> ∃ad b Aj L cj,A=some ad/\xss.getD j []=b/\U b=L/\i' W (ad.add j)=J (Z Aj L cj)/\ ∀W',r' w w W'->j8 W' w w Aj cj b
 flag: ∀j,j<n-> ∃ad b,Ag=some ad/\gs.getD j false=b/\i' W (ad.add j)=J (.bool b)
theorem N5 {e:q'} {d:S qn} {h:S Bool} (r:vm w w A n d) (l:E' w w 1 e n (h.map Value.bool)) (W:I) (g:r' w w W):OZ w W A e n d h:=by
 refine⟨λj a=> ?_,λj a=>OQ (l.below g) a⟩;obtain⟨f,b,o,q,m,k,c,h1,h2,i⟩:=r.I0 a;exact⟨f,b,o,_,q,m,by rw [qd,k];rfl,rfl,(g.cell (yM c)).trans c,λt s=>⟨h1,h2, .inl (i.below s)⟩⟩
theorem bP (kk:O) (A cB:Option Addr) (n c cg:O) (F:S (S AB)) (d:S Bool) (w:I) (hn:n<=100000) (hk:kk<=100000) (hx:vm w w A n F) (hg:E' w w 1 cB n (d.map Value.bool)):
  xG 258 #[kk,Z A n c,Z cB n cg] w (FX w (kB kk d n) (xy F (kB kk d n))):=by
 have IN:=T (λW hB=>N5 hx hg W hB);obtain⟨i1,P,cK,cL,ln⟩:=qA Zz;replace P:=T P;replace cK:=T cK;replace cL:=T cL;replace ln:=T ln;obtain⟨i2,uK,hh,K,ck⟩:=qA N0;replace uK:=T uK;replace hh:=T hh;replace K:=T K;replace ck:=T ck;have NO:=T (λi h=>il (g:=d) (kk:=kk) (i:=i) h);have FU:=T (λi h=>NI (g:=d) (kk:=kk) (i:=i) h);have M':=T (λi h h2=>Ov (g:=d) (kk:=kk) (i:=i) h h2);clear hx hg;go_enter func258,ntmps258
 go_wp2_with fail;go_loopw [12,6,7] (λqj v6 v7 wr=> ∃(i L p o:O) (r t:Option Addr),qj=(i:la)/\v6=Z r L p/\v7=Z t L o/\i<=n/\L<=i/\G (U (kB kk d i)=L)/\G (r' w w wr)/\G (xp wr w 3 1 (Z r L p) L ((kB kk d i).map NV))/\G (zM wr w w t L o (xy F (kB kk d i)))) (λqj _ _ _=>n-(intOf qj).toNat)
 case atStart=>exact⟨0,0,0,0,none,none,rfl,rfl,rfl,M,M,by show(kB kk d 0).length=0;simp [kB,kC],qZ _ _,by show xp w _ _ _ _ _ _;simp only [kB,kC,List.range_zero,List.filter_nil,List.take_nil,xB];exact qP _ _ _ 1,by show zM _ _ _ _ _ _ _;simp only [xy,kB,kC,List.range_zero,List.filter_nil,List.take_nil,xB];exact zM.nil _ _ _ (qx _) (qx _)⟩
 case round=>
  obtain⟨i,L,p,o,r,t,rfl,rfl,rfl,O',OX,j,e,l,s⟩:=hrel;by_cases p':i<n
  ·have Q':(i:V)<(n:V):=M
   obtain⟨ad,b,X,iv,ih,hA,N,m',ej,R⟩:=(IN.out wr e).row i p';obtain⟨ag,f,N6,m,eg⟩:=(IN.out wr e).flag i p';subst hA;subst N6;replace N:=T N;have z':=T m';clear m';replace R:=T R;cases f
   focus have a:=NO.out i m
   rotate_left
   focus
    by_cases iL:L<kk
    ·have u':(L:V)<(kk:V):=M
     have a:=T (M'.out i m (by rw [j.out];exact iL))
     replace m:=T m;have N9:L+1<=maxLen:=SJ;have G':(L+1)*8<=140737488355328:=M;have D':L+1<=maxLen:=SJ;have J':(L+1)*24<=140737488355328:=M
     go_wp2_with (first|(at_builtin;refine qF _ rfl (.tmp 27) (.tmp 29) 62 rfl w 3 i2 () 1 8 jj uK.out hh.out K.out ck.out rfl M r L p _ rfl (l.out.alloc (Y #[i] 3)) ((wr:O)+1) _ 1 1 _ rfl (zU wr _ _) (IB rfl) N9 G' (show (w:O)<=(wr (Y #[i] 3):O) from qv e.out.size s8) ?_;intro A2 c2 v H k E;have y:r' w w v:=zG (e.out.alloc e.out.size (Y #[i] 3)) k (l.out.alloc (Y #[i] 3)) (show (w:O)<=(wr (Y #[i] 3):O) from qv e.out.size s8);have u:=zM.apart (s.out.below ((qZ _ wr).alloc (qx _) _)) (l.out.alloc _) FV FV (qx _) k;replace u:=T u;have N':=u.out.below ((qZ _ v).alloc (qx _) (Y #[Z X iv ih] 30));have D:=j8.below (R.out v y) u.out.b0s u.out.bs ((qZ _ v).alloc (qx _) (Y #[Z X iv ih] 30));obtain⟨⟨vs,q,z,C⟩,x,B⟩:=N';replace q:=T q;replace z:=T z;replace C:=T C;replace x:=T x;replace B:=T B;replace D:=T D;clear u s;replace H:=T H;replace y:=T y;clear k E)|(at_builtin;refine qF _ rfl (.tmp 31) (.tmp 33) 87 rfl w 30 i1 (Z none 0 0) 1 24 jr P.out cK.out cL.out ln.out rfl M t L o _ rfl q.out ((v:O)+1) _ 1 1 _ rfl (zU v _ _) (IB rfl) D' J' x.out ?_;intro A3 c3 w4 d' k E;have Q:r' w w w4:=zG (y.out.alloc y.out.size (Y #[Z X iv ih] 30)) k q.out x.out;have cY:=zM.Fv z'.out D.out q.out z.out C.out B.out x.out d' k;have I':=T (Zt (H.out.alloc _) q.out FV k);replace Q:=T Q;replace cY:=T cY;clear k E d' q z C x B D))
     go_roundw
     case rel=>exact⟨i+1,L+1,c2,c3,A2,A3,by go_num,rfl,rfl,M,M,by rw [a.out];show(_++[i]).length=L+1;rw [qK,j.out];rfl,Q,by rw [a.out,qg];exact I',by rw [a.out];unfold xy;rw [qg];simp only [jy,xB];rw [N.out];exact cY⟩
     case measure=>simp [intOf];omega
    focus
     have u':(kk:V)<=(L:V):=M
     have a:=FU.out i (by rw [j.out];exact iL)
   all_goals
    rw [<-a] at l s j;replace a:=T a;replace m:=T m
    go_wp2_with fail;go_roundw
    case rel=>exact⟨i+1,L,p,o,r,t,by go_num,rfl,rfl,M,M,j,e,l,s⟩
    case measure=>simp [intOf];omega
  ·have P':(n:V)<=(i:V):=M
   obtain rfl:i=n:=M
   go_wp2_with fail
   go_ret2;refine⟨r,p,t,o, ?_⟩;rw [j.out];exact⟨rfl,l.out,s.out,e.out⟩
def VR (a b:la) (f m:O->O) (s:O->la):Array Value:=((List.range 50).map λi=>if i=0 then a else if i=1 then b else if i<18 then e' (f (i-2)) else if i<34 then e' (m (i-18)) else s (i-34)).toArray
end
section
variable {j:O}
variable {W:I} {a:I} {bs:qn} {g:O} {l:O}
variable (v0:la) (v1:la) (f:O->O) (m:O->O) (s:O->la)
theorem XN:(VR v0 v1 f m s).size=50:=by simp [VR]
theorem kG {i:O} (h:i<50):(VR v0 v1 f m s)[i]? =J (if i=0 then v0 else if i=1 then v1 else if i<18 then e' (f (i-2)) else if i<34 then e' (m (i-18)) else s (i-34)):=by simp [VR,h]
theorem IK:(VR v0 v1 f m s)[0]? =some v0:=kG _ _ f m s M
theorem ml:(VR v0 v1 f m s)[1]? =some v1:=kG _ _ f m s M
theorem mL (h:l<16):(VR v0 v1 f m s)[2+l]? =J (e' (f l)):=by rw [kG _ _ _ _ _ M,qJ M,qJ M,qk M,show 2+l-2=l by omega]
theorem m8 (h:l<16):(VR v0 v1 f m s)[18+l]? =J (e' (m l)):=by rw [kG _ _ _ _ _ M,qJ M,qJ M,qJ M,qk M,show 18+l-18=l by omega]
theorem Cg (h:l<16):(VR v0 v1 f m s)[34+l]? =J (s l):=by rw [kG _ _ _ _ _ M,qJ M,qJ M,qJ M,qJ M,show 34+l-34=l by omega]
theorem FL {a:Array la} (b:a.size=50) (h: ∀i,i<50->a[i]? =J (if i=0 then v0 else if i=1 then v1 else if i<18 then e' (f (i-2)) else if i<34 then e' (m (i-18)) else s (i-34))):a=VR v0 v1 f m s:=by
 apply ZD;intro i;by_cases hi:i<50
 ·rw [h i hi,kG _ _ _ _ _ hi]
 ·rw [zg M,zg (by rw [XN];omega)]
theorem S4 (h:l<16) (v:O):(VR v0 v1 f m s).setIfInBounds (2+l) v=VR v0 v1 (λj=>if j=l then v else f j) m s:=by
 refine FL _ _ _ _ _ (by rw [yg,XN]) λi hi=> ?_;rw [jM,kG _ _ _ _ _ hi,XN];by_cases h1:2+l=i
 ·subst h1;rw [qk rfl,qk hi,qJ M,qJ M,qk M,qk M]
 ·rw [qJ h1];by_cases h2:i<18
  ·by_cases h3:i=0
   ·simp [h3]
   ·by_cases h4:i=1
    ·simp [h4]
    ·simp only [qJ h3,qJ h4,qk h2,qJ (show¬i-2=l by omega)]
  ·simp only [qJ (show¬i=0 by omega),qJ (show¬i=1 by omega),qJ h2]
theorem S5 (h:l<16) (v:O):(VR v0 v1 f m s).setIfInBounds (18+l) v=VR v0 v1 f (λj=>if j=l then v else m j) s:=by
 refine FL _ _ _ _ _ (by rw [yg,XN]) λi hi=> ?_;rw [jM,kG _ _ _ _ _ hi,XN];by_cases h1:18+l=i
 ·subst h1;rw [qk rfl,qk hi,qJ M,qJ M,qJ M,qk M,qk M]
 ·rw [qJ h1];by_cases h2:i<18
  ·simp only [qk h2]
  ·by_cases h3:i<34
   ·simp only [qJ (show¬i=0 by omega),qJ (show¬i=1 by omega),qJ h2,qk h3,qJ (show¬i-18=l by omega)]
   ·simp only [qJ (show¬i=0 by omega),qJ (show¬i=1 by omega),qJ h2,qJ h3]
theorem S7 (h:l<16) (v:la):(VR v0 v1 f m s).setIfInBounds (34+l) v=VR v0 v1 f m (λj=>if j=l then v else s j):=by
 refine FL _ _ _ _ _ (by rw [yg,XN]) λi hi=> ?_;rw [jM,kG _ _ _ _ _ hi,XN];by_cases h1:34+l=i
 ·subst h1;rw [qk rfl,qk hi,qJ M,qJ M,qJ M,qJ M,qk M]
 ·rw [qJ h1];by_cases h2:i<18
  ·simp only [qk h2]
  ·by_cases h3:i<34
   ·simp only [qJ h2,qk h3]
   ·simp only [qJ (show¬i=0 by omega),qJ (show¬i=1 by omega),qJ h2,qJ h3,qJ (show¬i-34=l by omega)]
end
section
variable {W a:I}{bs:qn}{g i j l x:O}
structure _e (W:I) (g lo hi:O) (bs:qn):Prop where
 ex: ∃(Al Ac:q') (cl cc:O) (s:O->la),F' W g 266 (VR (Z Al bs cl) (Z Ac bs cc) (Ho bs) (H4 bs) s)/\
  (xp W lo 5 1 (Z Al bs cl) bs (bs.map B8)/\ ∀k∈K' Al,k<hi)/\(xp W lo 25 1 (Z Ac bs cc) bs ((Xt bs).map _h)/\ ∀k∈K' Ac,k<hi)/\
  ∀l,l<16-> ∃A c,s l=Z A (H4 bs l) c/\xp W lo 3 1 (Z A (H4 bs l) c) (H4 bs l) ((Fs bs l).map NV)/\ ∀k∈K' A,k<hi
 lo:lo<=g
 hi:g<hi
 ok:gk bs=0
theorem _e.jZ {m:I} {lo hi:O} {l:S O} (h:_e W g lo hi bs) (i:qE l W m) (f: ∀k∈l,k<lo\/hi<=k):_e m g lo hi bs:=by
 obtain⟨⟨p,Ac,t,x,s,d,⟨h1,o⟩,⟨h2,n⟩,h3⟩,w,q,u⟩:=h;refine⟨⟨p,Ac,t,x,s,i.blk d (λr=>by have:=f g r;omega),⟨i.own h1 (λk a b=> ?_),o⟩,⟨i.own h2 (λk a b=> ?_),n⟩,λl v=> ?_⟩,w,q,u⟩
 ·have:=f k b;have:=(zj h1 k a).1;have:=o k a;omega
 ·have:=f k b;have:=(zj h2 k a).1;have:=n k a;omega
 ·obtain⟨A,c,e,j,d⟩:=h3 l v;exact⟨A,c,e,i.own j (λk a b=>by have:=f k b;have:=(zj j k a).1;have:=d k a;omega),d⟩
theorem _e.fresh {lo hi:O} (h:_e W g lo hi bs) (b:r' W W a):_e a g lo hi bs:=h.jZ (qE.jq (l:=[]) b) s8
theorem _e.dr {lo hi:O} (h:_e W g lo hi bs) (b:Dr W a):_e a g lo hi bs:=h.fresh (b.below _)
theorem S8 (bs:qn) (s:O) (h:s<U bs): ∃z:AB,bs[s]? =some z/\ra bs (s:V)=z.toNat:=by
 refine⟨bs[s],qX h, ?_⟩;unfold ra;rw [qJ M];show(bs.getD s 0).toNat=_;rw [qd,qX h];rfl
theorem CG (W:I) (g lo hi:O) (bs:qn) (sym:V) (h:_e W g lo hi bs):
  xG 209 #[mJ g,sym] W λe l=>e=t' (e' (ra bs sym:O))/\W=l:=by
 obtain⟨⟨o,Ac,j,x,s,b,⟨h1,c⟩,_,_⟩,_,_,q⟩:=h;have c0:i' W g=J (Z o bs j):=by rw [b.cell 0,IK]
 by_cases p:sym<0
 ·have a:ra bs sym=0:=qk (.inl p);rw [a];clear h1 c b;go_wp2;go_ret;exact⟨rfl,rfl⟩
 ·obtain⟨k,rfl⟩: ∃k:O,sym=(k:V):=⟨sym.toNat,M⟩;by_cases i:k<U bs
  ·obtain⟨z,f,a⟩:=S8 _ k i;rw [a];obtain⟨u,y,rfl,-,d,r⟩:=(E'.zY h1).byte i;obtain rfl:y=z:=by rw [f] at d;exact(zy d).symm
   have t:=y.toNat_lt;generalize y.toNat=w at*;have m:(k:V)<(U bs:V):=M;generalize U bs=n at*;clear h1 c b f d;go_wp2;go_ret;exact⟨rfl,rfl⟩
  ·have a:ra bs (k:V)=0:=qk (.inr M);rw [a];generalize U bs=n at*;clear h1 c b;go_wp2;go_ret;exact⟨rfl,rfl⟩
theorem Bx (W:I) (g lo hi:O) (bs:qn) (sym:V) (h:_e W g lo hi bs):
  xG 174 #[mJ g,sym] W λe a=>e=t' (e' (ra bs sym:O))/\W=a:=by
 have K:=T (CG W g _ _ _ sym h);clear h;go_in;go_wp2_with fail;refine Ω K ?_;go_wp2;go_ret;exact⟨rfl,rfl⟩
def dO (n:O) (P:S O):O->O->UInt8:=(JL n (L' (zP n (λi j=>vE n (P.getD i 0) j) (n*n)) n)).getD (λ_ _=>0)
end
section
variable {A:q'}{B L a b i j kk n p x:O}{P:S O}{W c wr:I}{d l:S qn}{g:S Bool}
theorem bU (a:n+p<=256) (b:U P=n) (c:P.Nodup) (e: ∀x∈P,x<n+p):JL n (L' (zP n (λi j=>vE n (P.getD i 0) j) (n*n)) n)=J (dO n P):=by
 obtain⟨X,d⟩:=AM n p P a b c e;unfold dO;rw [d];rfl
def pZ (n p L:O) (d:S qn):S qn:=d++yH p n L (Vq n) d
theorem N7 (a:U d=n):U (pZ n p L d)=n+p:=by unfold pZ;rw [qK,a,x_]
theorem N8 (b: ∀x∈d,U x=L): ∀x∈pZ n p L d,U x=L:=λx a=>by
 unfold pZ at a;rcases zt.1 a with h|h
 ·exact b x h
 ·exact V1 _ _ _ _ _ x h
def Xc (n:O) (P:S O) (l:S qn):S qn:=if P=List.range n then l else yH n n (U (l.headD [])) (dO n P) l
theorem UJ (b: ∀x∈l,U x=L) (h:0<U l):U (l.headD [])=L:=by
 cases l with
 |nil=>simp at h
 |cons a t=>exact b a (qo ..)
theorem bf (h:U l=n):U (Xc n P l)=n:=by
 unfold Xc;split
 ·exact h
 ·exact x_ ..
theorem bg (a: ∀x∈l,U x=L) (h:0<U l): ∀x∈Xc n P l,U x=L:=by
 unfold Xc;split
 ·exact a
 ·rw [UJ a h];exact V1 _ _ _ _ _
theorem SV (g:S Bool) (i:O):(kC g i).Pairwise (· < ·):=List.pairwise_lt_range.filter _
theorem Rn (kk:O) (g:S Bool) (i:O):(kB kk g i).Pairwise (· < ·):=(SV g i).sublist (List.take_sublist _ _)
theorem SY (kk:O) (g:S Bool) (i:O):(kB kk g i).Nodup:=(Nl g i).sublist (List.take_sublist _ _)
theorem RN {g:S Bool} (h:x∈kB kk g i):x<i:=iy (j2 h)
theorem N_ {g:S Bool} (h:x∈kB kk g i):g.getD x false=true:=Wq (j2 h)
theorem cR: ∀(n:O) (P:S O),P.Pairwise (· < ·)->U P=n->(∀x,P[n-1]? =some x->x=n-1)->P=List.range n
 |0,P,_,f,_=>by rw [xq.1 f];rfl
 |n+1,P,g,f,c=>by
  have j: ∀(i x:O),P[i]? =some x->i<=x:=by
   intro i;induction i with
   |zero=>intro x _;omega
   |succ i d=>
    intro x c;have hi:=(vp.1 c).1;have h1:=d P[i] (qX M);have h2:=Jg.1 g i (i+1) M hi M;rw [qX hi] at c;injection c with c
    omega
  have l:=c P[n] (by rw [Nat.add_sub_cancel];exact qX M)
  apply zm
  intro i;by_cases hi:i<n+1
  ·rw [qX M,jJ hi]
   congr 1
   have h1:=j i P[i] (qX M);have h2: ∀k,∀(h:i+k<U P),P[i]+k<=P[i+k]:=by
    intro k;induction k with
    |zero=>intro h;simp
    |succ k d=>
     intro h;have a:=d M;have b:=Jg.1 g (i+k) (i+(k+1)) M h M;omega
   have h3:=h2 (n-i) M;have e:P[i+(n-i)]'M=P[n]:=by congr 1;omega
   rw [e,l] at h3;omega
  ·rw [qO M,qO SZ]
def Zm (k m:V) (l:S qn) (g:S Bool):Int:=
 if gO k m&&(decide ((U l:V)=k+m)&&decide ((U g:V)=k+m)) then
  if Hx (xy l (kC g g)) then if(kC g g).length<k.toNat then 12 else 0 else 13
 else 13
def VG (k m:V) (l:S qn) (g:S Bool):S qn:=
 if Zm k m l g=0 then Xc k.toNat (kB k.toNat g g) (xy l (kB k.toNat g g))++DN m (Xc k.toNat (kB k.toNat g g) (xy l (kB k.toNat g g))) else []
theorem mq (c:gO (n:V) (p:V)=true) (d:U l=n+p) (a:U g=n+p) (b:Hx (xy l (kC g (n+p)))=false):Zm n p l g=13/\VG n p l g=[]:=by
 have e:Zm n p l g=13:=by
  unfold Zm;rw [qk (by rw [c,d,a];simp),a,qJ (by rw [b];decide)]
 exact⟨e,by unfold VG;rw [qJ (by rw [e];decide)]⟩
theorem A_ (f:gO (n:V) (p:V)=true) (d:U l=n+p) (a:U g=n+p) (c:Hx (xy l (kC g (n+p)))=true) (b:U (kC g (n+p))<n):Zm n p l g=12/\VG n p l g=[]:=by
 have e:Zm n p l g=12:=by
  unfold Zm;rw [qk (by rw [f,d,a];simp),a,qk c,qk (by rw [zc];exact b)]
 exact⟨e,by unfold VG;rw [qJ (by rw [e];decide)]⟩
theorem FY (d:gO (n:V) (p:V)=true) (c:U l=n+p) (a:U g=n+p) (b:Hx (xy l (kC g (n+p)))=true) (f:n<=U (kC g (n+p))):
  Zm n p l g=0/\VG n p l g=Xc n (kB n g (n+p)) (xy l (kB n g (n+p)))++DN p (Xc n (kB n g (n+p)) (xy l (kB n g (n+p)))):=by
 have e:Zm n p l g=0:=by
  unfold Zm;rw [qk (by rw [d,c,a];simp),a,qk b,qJ (by rw [zc];omega)]
 exact⟨e,by unfold VG;rw [qk e,zc,a]⟩
theorem Sk (b:Hx (xy l (kC g (n+p)))=true): ∃L,∀x∈xy l (kB n g (n+p)),U x=L:=by
 refine⟨_,λx a=>bp b x ?_⟩;unfold xy kB at a;unfold xy;rw [List.map_take] at a;exact j2 a
theorem ez {L:O} {l:S qn} (h: ∀x∈l,U x=L):Hx l=true:=by
 unfold Hx;rw [xT];intro x b;rw [jo,h x b];cases l with
 |nil=>cases b
 |cons a t=>exact(h a (qo ..)).symm
theorem cW {L:O} {d:S qn} (e:gO (n:V) (p:V)=true) (h1:1<=n) (a:U d=n) (c: ∀x∈d,U x=L):Sy p d=0/\DN p d=yH p n L (Vq n) d:=by
 have b:YP p d=true:=by unfold YP;rw [a,e,ez c];rfl
 exact⟨AI b,by rw [AO b,zc,a,UJ c M]⟩
theorem Iz (P:S O):P.map NV=(P.map λ(x:O)=>(x:V)).map I64:=by rw [vC];rfl
theorem Rm (m:n+p<=255) (h:U P=n) (l: ∀x∈P,x<n+p) (W:I) (b c:q') (f g:O) (h2:(n+p)*n<=f) (h1:E' W W 1 b ((n+p)*n) ((zP n (vE n) ((n+p)*n)).map B8)) (h3:E' W W 1 c n (P.map NV)):
  xG 259 #[.agg #[((n+p:O):V),n,Z b ((n+p)*n) f],Z c n g] W (Ps W n n (zP n (λi j=>vE n (P.getD i 0) j) (n*n)) 0):=by
 have d:=FZ _ _ n (vE n) rfl P [] l;rw [Ni,h,xY] at d;rw [Iz] at h3;refine Oq (n+p) n b c ((n+p)*n) f n g _ _ W M M rfl h2 M h1 h3 _ (λo a e w' k=> ?_) (λa=> ?_)
 ·rw [d] at a;injection a with a;subst a;exact k
 ·rw [d] at a;cases a
theorem OY (h:n+p<=255) (d:U P=n) (f:P.Nodup) (g: ∀x∈P,x<n+p) (W:I) (a:q') (c:O) (h1:E' W W 1 a (n*n) ((zP n (λi j=>vE n (P.getD i 0) j) (n*n)).map B8)):
  xG 261 #[.agg #[n,n,Z a (n*n) c]] W (Ps W n n (zP n (dO n P) (n*n)) 0):=by
 refine(Rs n a _ c _ W M rfl h1).mono λe w' b=> ?_;rw [bU M d f g] at b;exact b
theorem vm.AH {w:I} {n:O} {c:S qn} (h:vm w B A n c): ∃vs:S la,U vs=n/\E' w B 1 A n vs/\(∀u∈vs,u.oneCell'=true)/\ ∀(i:O) (d:qn),c[i]? =some d-> ∃(Ai:q') (b a:O),vs[i]? =J (Z Ai b a)/\b<=a/\a<=maxLen/\E' w B 1 Ai b (d.map B8):=by
 obtain⟨vs,h1,h2,h3⟩:=h;have g:U vs=n:=by have:=h1.1;omega
 refine⟨vs,g,h1,λu f=> ?_,h3⟩;obtain⟨i,hi,rfl⟩:=Q8 f;obtain⟨Ai,b,a,e,_⟩:=h3 i _ (qX (by omega:i<U c));rw [qX hi] at e;injection e with e;rw [e];rfl
structure Cat (W:I) (B base:O) (A:q') (n c:O) (xss:S qn):Prop where
 ex: ∃vs:S la,xp W base 30 1 (Z A n c) n vs/\U xss=n/\ ∀(i:O) (xs:qn),xss[i]? =some xs-> ∃(Ai:q') (ci:O),vs[i]? =J (Z Ai xs ci)/\U xs<=ci/\ci<=maxLen/\E' W B 1 Ai xs (xs.map B8)
structure Lt (W8 wr:I) (g7:O) (A:q'):Prop where
 size:(W8:O)<=(wr:O)
 heap: ∀g,g<(W8:O)->g≠g7->wr.heap[g]? =W8.heap[g]?
 row: ∀g,A.map (·.block)=some g->g=g7\/(W8:O)<=g
theorem Lt.start (W:I) (g:O):Lt W W g g:=⟨qx _,λ_ _ _=>rfl,λk a=>by injection a with a;exact .inl a.symm⟩
theorem Lt.below {b:I} (h:Lt c wr a A) (e:r' wr wr b):Lt c b a A:=
 ⟨qv h.size e.size,λg d f=>(e.block g (qB d h.size)).trans (h.heap g d f),h.row⟩
theorem Lt.app {d:I} {j:q'} {C:Obj} (h:Lt c W b A) (i:(W.alloc C).grownBy d (A.map (·.block))) (l:JU (W.alloc C) A j):Lt c d b j:=by
 have h2:=h.below (j1 C);refine⟨qv h2.size i.size,λg k f=>(i.block g (qB k h2.size) (λe=> ?_)).trans (h2.heap g k f),λg a=> ?_⟩
 ·rcases h.row g e.symm with h0|h0
  ·exact f h0
  ·omega
 ·rcases l with h0|h0
  ·exact h.row g (h0▸a)
  ·rw [h0] at a;injection a with a;exact .inr (a▸h2.size)
theorem Cat.row {i:I} {base n c g:O} {t:q'} {f:S qn} (h:Cat i B base A n c f) (y:B<=g) (x:g<base) (C:B<=(i:O)) (l:Lt i wr g t) (v:j<n):
  ∃d a Ai b,A=some d/\f[j]? =some a/\i' wr (d.add j)=J (Z Ai a b)/\U a<=b/\b<=maxLen/\E' wr B 1 Ai a (a.map B8):=by
 obtain⟨vs,h1,h2,h3⟩:=h.ex;obtain⟨d,u,k,o,m,w⟩:=(E'.zY h1).at_ v;obtain⟨Ai,b,e,q,s,r⟩:=h3 j _ (qX (by omega:j<U f));rw [m] at e;injection e with e;subst e;refine⟨d,_,Ai,b,k,qX M, ?_,q,s,r.keep λp z=>zw (l.heap p.block M M)⟩;rw [<-w];have D:=(h1.lt d.block (by rw [k];rfl)).1;exact zw (l.heap _ (by rw [xF];exact o) (by rw [xF];omega))
theorem Wj {h k:q'} {c1 c2:O} {p v:S qn} (l:B<=(W:O)) (h1:vm W B h a p) (h2:vm W B k b v) (N:a+b<=100000):
  xG 262 #[Z W 2 2] (W (Y #[Z h a c1,Z k b c2] 87)) λe w'=> ∃A c,e=t' (Z A (a+b) c)/\Cat w' B W A (a+b) c (p++v)/\r' W W w':=by
 have D:=F'.new W 87 #[Z h a c1,Z k b c2];have g:r' W W (W (Y #[Z h a c1,Z k b c2] 87)):=j1 _;have z:=h1.choose_spec.2.1;have X:=h1.below (g.mono l);have L:=h2.below (g.mono l);generalize W (Y #[Z h a c1,Z k b c2] 87)=n at*;obtain⟨f,y,R,o1,q1⟩:=X.AH;obtain⟨d,l2,E,o2,q2⟩:=L.AH;have Q:UX n n W 2 [f,d]:=by
  refine⟨rfl,λj H=> ?_⟩
  match j,H with
  |0,_=>exact⟨_,h,a,_,f,rfl,rfl,by rw [Ve];exact D.cell 0,R.more (qv l g.size),o1⟩
  |1,_=>exact⟨_,k,b,_,d,rfl,rfl,by rw [Ve];exact D.cell 1,E.more (qv l g.size),o2⟩
 have ht:La [f,d]=a+b:=by simp [La,y,l2]
 refine(ev _ 2 2 _ n M (by rw [ht];omega) Q).mono ?_;rintro e w' ⟨A,c,rfl,o,w⟩;rw [ht] at o⊢;have P:[f,d].flatten=f++d:=s8;rw [P] at o;have C:=w.mono (qv l g.size);refine⟨A,c,rfl,⟨f++d,qi o g.size, ?_,λi x hi=> ?_⟩,zX g w⟩
 ·have K:=h2.choose_spec.2.1;rw [qK,z,K]
 ·by_cases e:i<a
  ·rw [q_ M] at hi;obtain⟨Ai,F,q,r,t,s,m⟩:=q1 i x hi;have u:=m.len;subst u;exact⟨_,q,by rw [q_ M];exact r,t,s,m.below C⟩
  ·rw [qm M,z] at hi;obtain⟨Ai,F,q,r,t,s,m⟩:=q2 _ x hi;have u:=m.len;subst u;exact⟨_,q,by rw [qm M,y];exact r,t,s,m.below C⟩
end
section
variable {A:O->q'}{c m n q:O->O}{g j l lo:O}{v0 v1:la}{w w':I}{xs:O->S O}
structure HS (w:I) (g lo:O) (v0 v1:la) (q m n:O->O) (A:O->q') (c:O->O) (xs:O->S O):Prop where
 blk:F' w g 266 (VR v0 v1 q m (λl=> Z (A l) (n l) (c l)))
 own: ∀l,l<16->xp w lo 3 1 (Z (A l) (n l) (c l)) (n l) ((xs l).map NV)
 dis: ∀l l',l<16->l'<16->l≠l'-> ∀k∈K' (A l),k∉K' (A l')
theorem HS.fpg (h:HS w g lo v0 v1 q m n A c xs) (a:l<16): ∀k∈K' (A l),k≠g:=qT (h.own l a) h.blk FV
theorem HS.jZ {l:S O} (h:HS w g lo v0 v1 q m n A c xs) (b:qE l w w') (e:g∉l) (d: ∀j,j<16-> ∀k∈K' (A j),k∉l):HS w' g lo v0 v1 q m n A c xs:=⟨b.blk h.blk e,λl a=>b.own (h.own l a) (d l a),h.dis⟩
theorem HS.fresh (h:HS w g lo v0 v1 q m n A c xs) (a:r' w w w'):HS w' g lo v0 v1 q m n A c xs:=h.jZ (qE.jq (l:=[]) a) s8 s8
theorem HS.drew (h:HS w g lo v0 v1 q m n A c xs):HS w.drew g lo v0 v1 q m n A c xs:=⟨h.blk,h.own,h.dis⟩
theorem HS.m_ (h:HS w g lo v0 v1 q m n A c xs) (i:O) (u:la) (a:l<16):xp (w.setCell ⟨g,i,none⟩ u) lo 3 1 (Z (A l) (n l) (c l)) (n l) ((xs l).map NV):=
 ((qE.refl [g] w).zh (p:=⟨g,i,none⟩) (qy.2 rfl) u).own (h.own l a) (λk b=>by simpa using h.fpg a k b)
theorem HS.Lk (h:HS w g lo v0 v1 q m n A c xs) (b:l<16) (v:O):HS (w.setCell ⟨g,2+l,none⟩ v) g lo v0 v1 (λj=>if j=l then v else q j) m n A c xs:=
 ⟨by rw [<-S4 _ _ _ _ _ b];exact h.blk.zh _ _,λj a=>h.m_ _ _ a,h.dis⟩
theorem HS.lj (h:HS w g lo v0 v1 q m n A c xs) (b:l<16) (v:O):HS (w.setCell ⟨g,18+l,none⟩ v) g lo v0 v1 q (λj=>if j=l then v else m j) n A c xs:=
 ⟨by rw [<-S5 _ _ _ _ _ b];exact h.blk.zh _ _,λj a=>h.m_ _ _ a,h.dis⟩
theorem HS.lQ (h:HS w g lo v0 v1 q m n A c xs) (a:l<16):i' w ⟨g,2+l,none⟩=J (e' (q l)):=by rw [h.blk.cell,mL _ _ _ _ _ a]
theorem HS.iV (h:HS w g lo v0 v1 q m n A c xs) (a:l<16):i' w ⟨g,18+l,none⟩=J (e' (m l)):=by rw [h.blk.cell,m8 _ _ _ _ _ a]
theorem HS.WH (h:HS w g lo v0 v1 q m n A c xs) (a:l<16):i' w ⟨g,34+l,none⟩=J (Z (A l) (n l) (c l)):=by rw [h.blk.cell,Cg _ _ _ _ _ a]
theorem HS.push {f x:O} {d:q'} {o:Obj} (h:HS w g lo v0 v1 q m n A c xs) (s:l<16) (B:xp w' lo 3 1 (Z d (n l+1) f) (n l+1) ((xs l).map NV++[NV x])) (F:(w.alloc o).grownBy w' ((A l).map (·.block))) (H:JU (w.alloc o) (A l) d):
  HS (w'.setCell ⟨g,34+l,none⟩ (Z d (n l+1) f)) g lo v0 v1 q m (λj=>if j=l then n l+1 else n j) (λj=>if j=l then d else A j) (λj=>if j=l then f else c j) (λj=>if j=l then xs l++[x] else xs j):=by
 have D:=((qE.refl (K' (A l)) w).alloc o).grown F λk a=> .inl a;have E:=D.blk h.blk (λa=>h.fpg s g a rfl);have p:=λj b r=>D.own (h.own j b) (h.dis j l b s r);have C:qE [g] w' (w'.setCell ⟨g,34+l,none⟩ (Z d (n l+1) f)):=(qE.refl [g] w').zh (qy.2 rfl) _;refine⟨?_,λj b=> ?_,λj t b u v k a i=> ?_⟩
 ·have h1:=E.zh (34+l) (Z d (n l+1) f);rw [S7 _ _ _ _ _ s] at h1;have e:(λj=>if j=l then Value.slice d (n l+1) f else Value.slice (A j) (n j) (c j))=λj=>Value.slice (if j=l then d else A j) (if j=l then n l+1 else n j) (if j=l then f else c j):=by
   funext j;by_cases h:j=l<;>simp [h]
  rw [e] at h1;exact h1
 ·by_cases r:j=l
  ·subst r;simp only [qk,qg,jy,xB];exact C.own B (λk a=>by simpa using qT B E FV k a)
  ·simp only [qJ r];exact C.own (p j b r) (λk a=>by simpa using h.fpg b k a)
 ·have z:=Y9 H;have y: ∀j,j<16-> ∀k∈K' (A j),k<(w.alloc o:O):=λj b k a=>qB (zj (h.own j b) k a).2 s8;by_cases h1:j=l
  ·simp only [qk h1,qJ (show¬t=l from λe=>v (h1.trans e.symm))] at a i;rcases z k a with h2|h2
   ·exact h.dis l t s u (λe=>v (h1.trans e)) k h2 i
   ·have:=y t u k i;omega
  ·simp only [qJ h1] at a;by_cases h2:t=l
   ·simp only [qk h2] at i;rcases z k i with h3|h3
    ·exact h.dis j l b s h1 k a h3
    ·have:=y j b k a;omega
   ·simp only [qJ h2] at i;exact h.dis j t b u v k a i
theorem pT (l:O) (x:AB): ∀(bs:qn) (i:O),J6 l i (bs++[x])=J6 l i bs++(if x.toNat=l then [i+U bs] else [])
 |[],i=>by simp [J6]
 |y::t,i=>by
  show J6 l i (y::(t++[x]))=_
  unfold J6;rw [pT l x t (i+1),qf,show i+1+U t=i+(U t+1) by omega]
  split<;>simp
theorem nQ (l:O) (x:AB) (bs:qn) (a:x.toNat≠0):Fs (bs++[x]) l=Fs bs l++(if x.toNat=l then [U bs] else []):=by
 unfold Fs;by_cases h:l=0
 ·subst h;rw [qk rfl,qk rfl,qJ a];rfl
 ·rw [qJ h,qJ h,pT,jL]
theorem BQ (l:O) (x:AB) (bs:qn) (a:x.toNat=0):Fs (bs++[x]) l=Fs bs l:=by
 unfold Fs;by_cases h:l=0
 ·subst h;rw [qk rfl,qk rfl]
 ·rw [qJ h,qJ h,pT,qJ M,jx]
def VD (bs:qn) (i l:O):Nat:=if Fs (bs.take i) l=[] then 0 else(Xt bs).getD ((Fs (bs.take i) l).headD 0) 0
theorem tI (bs:qn) (l:O):VD bs bs l=Ho bs l:=by unfold VD Ho;rw [jP]
theorem Mz (a b:la): #[a,b,e' 0,e' 0,e' 0,e' 0,e' 0,e' 0,e' 0,e' 0,e' 0,e' 0,e' 0,e' 0,e' 0,e' 0,e' 0,e' 0,e' 0,e' 0,e' 0,e' 0,e' 0,e' 0,e' 0,e' 0,e' 0,e' 0,e' 0,e' 0,e' 0,e' 0,e' 0,e' 0,Z none 0 0,Z none 0 0,Z none 0 0,Z none 0 0,Z none 0 0,Z none 0 0,Z none 0 0,Z none 0 0,Z none 0 0,Z none 0 0,Z none 0 0,Z none 0 0,Z none 0 0,Z none 0 0,Z none 0 0,Z none 0 0]=VR a b (λ_=>0) (λ_=>0) (λ_=> Z none 0 0):=rfl
theorem qqp {n s x:O} (h:(List.range n)[s]? =some x):x=s:=by
 obtain⟨h1,h2⟩:=vp.1 h;rw [List.getElem_range] at h2;exact h2.symm
def LR:Prop:= ∀(a p q:O) (A e:q') (c f:O) (b:S qn) (d:S Bool) (w:I) (g:a+p=q) (h1:1<=a) (i:q<=255) (k:vm w w A q b) (h:E' w w 1 e q (d.map Value.bool)) (j: ∀x∈b,U x<=1000000),
  xG 237 #[a,p,Z A q c,Z e q f] w (wI w (U (VG a p b d)) (VG a p b d) (Zm a p b d))
theorem Lm (a p q:O) (A u:Option Addr) (c ih:O) (d:S (S AB)) (b:S Bool) (w:I) (o:a+p=q) (h1:1<=a) (hq:q<=255) (f:vm w w A q d) (hg:E' w w 1 u q (b.map Value.bool)) (hL: ∀x∈d,U x<=1000000) (hU:kB a b q=List.range a) (ha:Hx (xy d (kC b q))=true) (hf:a<=U (kC b q)):
  xG 237 #[a,p,Z A q c,Z u q ih] w (wI w (U (VG a p d b)) (VG a p d b) (Zm a p d b)):=by
 have hm:gO (a:V) (p:V)=true:=by unfold gO;simp;omega
 have hl:U d=a+p:=by obtain⟨_,_,h2,_⟩:=f;omega
 have hgl:U b=a+p:=by have:=hg.len;omega
 have KM:G (∀W,xG 100 #[a,p] W λe w'=>e=t' (.bool true)/\W=w'):=λW=>by rw [<-hm];exact dv _ _ _
 have N6:G (xG 258 #[q,Z A q c,Z u q ih] w (FX w (kC b q) (xy d (kC b q)))):=by
  have h:=bP q A u q c ih d b w M M f hg;rwa [Oy (qx _)] at h
 have hGl:=NL b q;have esum:(a:V)+(p:V)=(q:V):=M;have hRl:U (xy d (kC b q))=U (kC b q):=K8 _ _;unfold FX at N6;obtain⟨y,Z'⟩: ∃y,U (kC b q)=y:=⟨_,rfl⟩;have KA:G (∀(W:I) (E:Option Addr) (c2:O),zM W w w E y c2 (xy d (kC b q))->xG 101 #[Z E y c2] W λe w'=>e=t' (.bool true)/\Dr W w'):=λW E c2 h=>by rw [<-ha];exact Kl E y c2 _ W h.XB M
 have J':=FY hm hl hgl (by rw [o];exact ha) (by rw [o];omega)
 rw [o] at J';obtain⟨L,cY⟩:=Sk (n:=a) (by rw [o];exact ha)
 rw [o] at cY;have S':U (kB a b q)=a:=by rw [Wz];omega
 have hLm:L<=1000000:=by
  have h0:0<U (kB a b q):=M;have hx0:(kB a b q)[0]<U d:=by have:=RN (zx h0);omega
  have hm0:d.getD (kB a b q)[0] []∈xy d (kB a b q):=jB.2 ⟨_,zx h0,rfl⟩;rw [<-cY _ hm0];rw [qd,qX hx0];exact hL _ (zx hx0)
 have cB:G (∀W,r' w w W->xG 258 #[a,Z A q c,Z u q ih] W (FX W (kB a b q) (xy d (kB a b q)))):=λW B=>bP a A u q c ih d b W M M ((f.below B).more B.size) ((hg.below B).more B.size);have hPn:=SY a b q;have hPq: ∀x∈kB a b q,x<q:=λx f=>RN f;have hPs:=Rn a b q;have hll:U (xy d (kB a b q))=a:=by rw [K8,S']
 unfold FX at cB;rw [S'] at cB;rw [Z'] at N6;clear f hg hl hgl hL ha;generalize xy d (kC b q)=gss at*
 generalize kC b q=ln at*
 generalize xy d (kB a b q)=l at*
 generalize kB a b q=P at*
 have U':U (Xc a P l)=a:=bf hll;have G': ∀x∈Xc a P l,U x=L:=bg cY M;have iL:=cW hm h1 U' G';have hYl:U (DN p (Xc a P l))=p:=by rw [iL.2,x_]
 have hYL: ∀x∈DN p (Xc a P l),U x=L:=by rw [iL.2];exact V1 _ _ _ _ _
 rw [J'.1,J'.2];clear J';generalize N:Xc a P l=D at*
 generalize hY:DN p D=ck at*
 have KP:G (∀(W:I) (Ad:Option Addr) (uK:O),vm W (W:O) Ad a D->xG 69 #[p,Z Ad a uK] W λe w'=> ∃A c,e=t' (BA #[Z A p c,()])/\zM w' 0 (W:O) A p c ck/\r' (W:O) W w'):=λW Ad uK h=>by
  have:=FJ p Ad a uK D W h M (λx f=>by rw [G' x f];exact hLm)
  rw [hY,iL.1,hYl] at this;exact this
 have XL:G (∀x∈D++ck,U x<=1000000):=λx f=>by
  rcases zt.1 f with h|h
  ·rw [G' x h];exact hLm
  ·rw [hYL x h];exact hLm
 have hDY:G (U (D++ck)=q):=by unfold Hid;rw [qK,U',hYl];exact o
 obtain⟨s,hs⟩: ∃s,a=s+1:=⟨a-1,M⟩;have hsub:(a:V)-1=(s:V):=M;obtain⟨x,H⟩: ∃x,P[s]? =some x:=⟨P[s]'M,qX _⟩;have hxq:=hPq x (zQ H);have LAST:G (∀(W:I) (r:Option Addr) (K:O) (base:O),xp W base 3 1 (Z r a K) a (P.map NV)-> ∃g3,r=some ⟨g3,0,none⟩/\i' W ⟨g3,s,none⟩=J (x:la)):=λW r K base h=>by
  obtain⟨g,cap,hv,_,_⟩:=h.form M;have hA3:r=some ⟨g,0,none⟩:=by injection hv
  subst hA3;refine⟨g,rfl, ?_⟩;rw [h.cellAt s M,qD,H];rfl
 obtain⟨i1,N9,OX,M',p'⟩:=qA Zz;replace N9:=T N9;replace OX:=T OX;replace M':=T M';replace p':=T p';have hge:(a:V)<=(y:V):=M;have hz:=(jb YE).1;have hs1:(s:V)<(a:V):=M;have hs0:(0:V)<=(s:V):=M;have hxs:x=s:=by rw [hU] at H;exact qqp H
 have hPr:=hU;have hDe:D=l:=by rw [<-N];unfold Xc;rw [qk hPr]
 clear hU hPr iL hYl hYL U' G' hll cY hPn hPq hPs S' hY N hm hRl;subst hDe;replace H:=T H;replace Z':=T Z';replace hs:=T hs;have hxe:(x:V)=(s:V):=M;replace o:=T o;subst hxs;go_enter func237,ntmps237
 go_wp2_with fail;refine(KM.out _).mono ?_;rintro e w' ⟨rfl,rfl⟩
 go_wp2_with fail;refine N6.mono ?_;rintro e w1 ⟨A1,c1,E,c2,rfl,ho1,hl1,qj⟩
 have KA1:=T (KA.out w1 E c2 hl1);replace qj:=T qj;clear ho1 hl1 KA
 go_wp2_with fail;refine KA1.mono ?_;rintro e w2 ⟨rfl,N⟩
 have HB2:=T (zX qj (N.below _));clear N qj KA1
 go_wp2_with fail;refine(cB.out _ HB2).mono ?_;rintro e w3 ⟨r,K,A4,uK,rfl,ho3,hl3,hB3⟩
 have HBT:=T (zX HB2 hB3);have HRT:=T hl3.XB;obtain⟨g3,rfl,hc3⟩:=LAST.out _ _ _ _ ho3;clear ho3 hl3 hB3 HB2 cB N6
 go_wp2_with fail;refine(KP.out _ _ _ HRT).mono ?_;rintro e v ⟨A6,c6,rfl,hl6,I'⟩;have u':=T (zX HBT I');have HR6:=T ((HRT.below I').more I'.size);have HY6:=T hl6.XB;clear hl6 I' HBT HRT KP
 go_wp2_with (at_make;refine QA _ rfl _ _ 87 rfl w 30 i1 (Z none 0 0) 1 jr N9 OX M' .i64 .i64 _ q rfl rfl rfl (by rw [p'.out];omega) SJ u'.size ?_;intro w7 ho7 Y';have Q':=T (show r' w w w7 from u'.grown Y' u'.size (λk Q=>by cases Q));have iv:=(show r' v v w7 from(qZ _ v).grown Y' (qx _) (λk Q=>by cases Q));have HR7:=T (HR6.below iv);have HY7:=T (HY6.below iv);have X':=T (show zM w7 0 w v 0 q [] from zM.AH ho7 rfl (λi t hi=>by simp at hi) (qp _) Q'.size);have N':=T iv.size;have HLT:=T (X'.ex.choose_spec.1.lt v rfl).2;clear Y' ho7 iv u' HR6 HY6)
 have KC:=T (Wj (c1:=uK) (c2:=c6) N' HR7 HY7 M);generalize hg7e:(v:O)=g7 at*
 replace hg7e:=T hg7e;refine KC.mono ?_;rintro e w8 ⟨A8,c8,rfl,hr8,cL⟩;have HB8:=T (zX Q' cL);have HO8:=T (X'.below cL);have HS:=T (λ(W:I) (m:Option Addr) (B:Lt w8 W g7 m) (k:O) (Q:k<a+p)=>hr8.row (qx _) HLT (qv N' cL.size) B Q);have HG:=T (show g7<=(w8:O) from qv N' cL.size)
 clear hr8 cL Q' HR7 HY7 KC X' HLT N';rw [o.out] at HS
 go_wp2_with fail;go_loopw [107,21] (λv107 v21 wr=> ∃(j R:O) (m:Option Addr),v107=(j:la)/\v21=Z m j R/\j<=q/\G (Lt w8 wr g7 m)/\G (r' w w wr)/\G (zM wr 0 w m j R ((D++ck).take j))) (λv107 _ _=>q-(intOf v107).toNat)
 case atStart=>exact⟨0,q,_,rfl,rfl,M,Lt.start _ _,HB8,by rw [vG];exact HO8⟩
 case round=>
  clear HO8 HB8;obtain⟨j,R,m,rfl,rfl,hjn,HA,HB,HO⟩:=hrel;by_cases hlt:j<q
  ·have hlt':(j:V)<(q:V):=M
   obtain⟨ad,t,Ai,ci,hA,f,hc,-,-,hr⟩:=HS.out wr m HA j hlt;subst hA;have TK:(D++ck).take (j+1)=(D++ck).take j++[t]:=by rw [qs,f];rfl
   replace TK:=T TK;have hxl:=XL.out t (zQ f);have KCl:=T (yV Ai (U t) ci g7 t wr hr (qv HG HA.size) M);obtain⟨F,z'⟩: ∃F,U t=F:=⟨_,rfl⟩;rw [z'] at hc hxl KCl;replace z':=T z';have hc1:j+1<=maxLen:=SJ;have hc2:(j+1)*24<=140737488355328:=M;clear f hr
   go_wp2_with fail;refine KCl.mono ?_;rintro e X ⟨A9,c9,rfl,hh⟩;have HA9:=T (HA.below hh.2);have HB9:=T (zX HB hh.2);have P':=T (HO.below hh.2);have HR9:=T (j8.own (b0:=0) (qi hh.1 HB.size));have hln:G (U t=F):=z';clear hh KCl hc HO HB HA;have hLa:=P'.below ((qZ _ X).alloc (qx _) (Y #[Z A9 F c9] 30));have O':=j8.below (HR9.out.2) P'.b0s P'.bs ((qZ _ X).alloc (qx _) (Y #[Z A9 F c9] 30));obtain⟨⟨vs,z,cK,D'⟩,C,d'⟩:=hLa;replace z:=T z;replace cK:=T cK;replace D':=T D';replace C:=T C;replace d':=T d';replace O':=T O';clear P'
   go_wp2_with (at_builtin;refine qF _ rfl (.tmp 111) (.tmp 114) 87 rfl w 30 i1 (Z none 0 0) 1 24 jr N9 OX M' p' rfl M m j R _ rfl z ((X:O)+1) _ 1 1 _ rfl (zU X _ _) (IB rfl) hc1 hc2 C ?_;intro r K w4 ho4 m' _hsq;have hB4:r' w w w4:=zG (HB9.alloc HB9.size (Y #[Z A9 F c9] 30)) m' z C.out;have hP4:=zM.Fv hln O' z cK D' d' C ho4 m';have hA4:=T (HA9.app m' _hsq);replace hB4:=T hB4;replace hP4:=T hP4;clear m' _hsq ho4 z cK D' C d' O')
   go_roundw
   case rel=>exact⟨j+1,K,r,by go_num,rfl,M,hA4,hB4,by rw [TK.out];exact hP4⟩
   case measure=>simp [intOf];omega
  ·have hge:(q:V)<=(j:V):=M
   obtain rfl:j=q:=M;rw [qH (by rw [hDY.out];omega)] at HO
   clear HS
   go_wp2_with fail
   go_ret2;refine⟨m,R, ?_⟩;rw [hDY.out];exact⟨rfl,HO.out,HB.out⟩
theorem OK (a p q:O) (A N:Option Addr) (c cB:O) (d:S (S AB)) (b:S Bool) (w:I) (m:a+p=q) (h1:1<=a) (hq:q<=255) (f:vm w w A q d) (cL:E' w w 1 N q (b.map Value.bool)) (hL: ∀x∈d,U x<=1000000):
  xG 237 #[a,p,Z A q c,Z N q cB] w (wI w (U (VG a p d b)) (VG a p d b) (Zm a p d b)):=by
 have K:gO (a:V) (p:V)=true:=by unfold gO;simp;omega
 have X:U d=a+p:=by obtain⟨_,_,h2,_⟩:=f;omega
 have p':U b=a+p:=by have:=cL.len;omega
 have KM:G (∀W,xG 100 #[a,p] W λe w'=>e=t' (.bool true)/\W=w'):=λW=>by rw [<-K];exact dv _ _ _
 have uK:G (xG 258 #[q,Z A q c,Z N q cB] w (FX w (kC b q) (xy d (kC b q)))):=by
  have h:=bP q A N q c cB d b w M M f cL;rwa [Oy (qx _)] at h
 have hGl:=NL b q;have esum:(a:V)+(p:V)=(q:V):=M;have hRl:U (xy d (kC b q))=U (kC b q):=K8 _ _;unfold FX at uK;obtain⟨v,C⟩: ∃v,U (kC b q)=v:=⟨_,rfl⟩;cases B:Hx (xy d (kC b q))
 focus
  have u:=mq K X p' (by rw [m];exact B)
  rw [u.1,u.2];have Q:G (∀(W:I) (o:Option Addr) (c2:O),zM W w w o v c2 (xy d (kC b q))->xG 101 #[Z o v c2] W λe w'=>e=t' (.bool false)/\Dr W w'):=λW o c2 h=>by rw [<-B];exact Kl o v c2 _ W h.XB M
  rw [C] at uK;generalize xy d (kC b q)=gss at*
  generalize kC b q=ln at*
  clear f cL X p' hL u B K m hRl;replace C:=T C
 rotate_left
 focus
  have Q:G (∀(W:I) (o:Option Addr) (c2:O),zM W w w o v c2 (xy d (kC b q))->xG 101 #[Z o v c2] W λe w'=>e=t' (.bool true)/\Dr W w'):=λW o c2 h=>by rw [<-B];exact Kl o v c2 _ W h.XB M
  by_cases U':kB a b q=List.range a/\a<=U (kC b q)
  ·exact Lm a p q A N c cB d b w m h1 hq f cL hL U'.1 B U'.2
  by_cases hf:v<a
  focus
   have u:=A_ K X p' (by rw [m];exact B) (by rw [m];omega)
   rw [u.1,u.2];rw [C] at uK;generalize xy d (kC b q)=gss at*
   generalize kC b q=ln at*
   have hf':(v:V)<(a:V):=M;clear f cL X p' hL u B K m hRl;replace C:=T C
  rotate_left
  focus
   have u:=FY K X p' (by rw [m];exact B) (by rw [m];omega)
   rw [m] at u;obtain⟨L,cY⟩:=Sk (n:=a) (by rw [m];exact B)
   rw [m] at cY;have d':U (kB a b q)=a:=by rw [Wz];omega
   have hLm:L<=1000000:=by
    have h0:0<U (kB a b q):=M;have hx0:(kB a b q)[0]<U d:=by have:=RN (zx h0);omega
    have hm0:d.getD (kB a b q)[0] []∈xy d (kB a b q):=jB.2 ⟨_,zx h0,rfl⟩;rw [<-cY _ hm0];rw [qd,qX hx0];exact hL _ (zx hx0)
   have OX:G (∀W,r' w w W->xG 258 #[a,Z A q c,Z N q cB] W (FX W (kB a b q) (xy d (kB a b q)))):=λW hW=>bP a A N q c cB d b W M M ((f.below hW).more hW.size) ((cL.below hW).more hW.size);have hPn:=SY a b q;have hPq: ∀x∈kB a b q,x<q:=λx f=>RN f;have hPs:=Rn a b q;have hll:U (xy d (kB a b q))=a:=by rw [K8,d']
   unfold FX at OX;rw [d'] at OX;rw [C] at uK;clear f cL X p' hL B;generalize xy d (kC b q)=gss at*
   generalize kC b q=ln at*
   generalize xy d (kB a b q)=l at*
   generalize kB a b q=P at*
   have hDl:U (Xc a P l)=a:=bf hll;have hDL: ∀x∈Xc a P l,U x=L:=bg cY M;have P':=cW K h1 hDl hDL;have hback: ¬P=List.range a->Xc a P l=yH a a L (dO a P) l:=λh=>by unfold Xc;rw [qJ h,UJ cY M]
   have hYl:U (DN p (Xc a P l))=p:=by rw [P'.2,x_]
   have hYL: ∀x∈DN p (Xc a P l),U x=L:=by rw [P'.2];exact V1 _ _ _ _ _
   rw [u.1,u.2];clear u;generalize E:Xc a P l=D at*
   generalize hY:DN p D=ck at*
   have KP:G (∀(W:I) (Ad:Option Addr) (cd:O),vm W (W:O) Ad a D->xG 69 #[p,Z Ad a cd] W λe w'=> ∃A c,e=t' (BA #[Z A p c,()])/\zM w' 0 (W:O) A p c ck/\r' (W:O) W w'):=λW Ad cd h=>by
    have:=FJ p Ad a cd D W h M (λx f=>by rw [hDL x f];exact hLm)
    rw [hY,P'.1,hYl] at this;exact this
   have XL:G (∀x∈D++ck,U x<=1000000):=λx f=>by
    rcases zt.1 f with h|h
    ·rw [hDL x h];exact hLm
    ·rw [hYL x h];exact hLm
   have hDY:G (U (D++ck)=q):=by unfold Hid;rw [qK,hDl,hYl];exact m
   obtain⟨s,hs⟩: ∃s,a=s+1:=⟨a-1,M⟩;have hsub:(a:V)-1=(s:V):=M;obtain⟨x,G'⟩: ∃x,P[s]? =some x:=⟨P[s]'M,qX _⟩;have hxq:=hPq x (zQ G');have LAST:G (∀(W:I) (R:Option Addr) (c3:O) (base:O),xp W base 3 1 (Z R a c3) a (P.map NV)-> ∃g3,R=some ⟨g3,0,none⟩/\i' W ⟨g3,s,none⟩=J (x:la)):=λW R c3 base h=>by
    obtain⟨g,cap,hv,_,_⟩:=h.form M;have hA3:R=some ⟨g,0,none⟩:=by injection hv
    subst hA3;refine⟨g,rfl, ?_⟩;rw [h.cellAt s M,qD,G'];rfl
   obtain⟨i1,hi_,hy0,hy1,S'⟩:=qA Zz;replace hi_:=T hi_;replace hy0:=T hy0;replace hy1:=T hy1;replace S':=T S';have hge:(a:V)<=(v:V):=M;have hz:=(jb YE).1;have hs1:(s:V)<(a:V):=M;have hs0:(0:V)<=(s:V):=M;have hPx: ¬P=List.range a:=λe=>U' ⟨e,by rw [C];omega⟩
   have hxs:x≠s:=λe=>hPx (cR a P hPs d' (λy hy=>by rw [hs,Nat.add_sub_cancel] at hy⊢;rw [G'] at hy;injection hy with hy;omega))
   have e1:((x:V)==(s:V))=false:=SZ;have e2:((x:V) !=(s:V))=true:=SZ;have KW:=T (λW=>Sp a p W M);have cK:=T (λW Aw Ap kw kp h2 h1 h3=>Rm (n:=a) (p:=p) (P:=P) M d' (by rw [m];exact hPq) W Aw Ap kw kp h2 h1 h3)
   have I':=T (λW As ks h1=>OY (n:=a) (p:=p) (P:=P) M d' hPn (by rw [m];exact hPq) W As ks h1)
   have N':G (∀(W:I) (Am A4:Option Addr) (k cl:O),a*a<=k->E' W (W:O) 1 Am (a*a) ((zP a (dO a P) (a*a)).map B8)->vm W (W:O) A4 a l->xG 103 #[.agg #[a,a,Z Am (a*a) k],Z A4 a cl] W (AA W a D)):=λW Am A4 k cl qj hr f=>by
    rw [hback hPx];exact bQ a a L _ Am A4 k cl l W M M h1 qj hLm hr f cY
   unfold i_ mC at KW;unfold Ps mC at cK I';unfold AA at N';simp only [yj] at KW cK I';clear hPx U' hback P' hYl hYL hDl hDL hll cY hPn hPq hPs d' hY E K hRl;rw [m] at KW cK;obtain⟨N2,hN2⟩: ∃N2,a*a=N2:=⟨_,rfl⟩;obtain⟨N4,hN4⟩: ∃N4,q*a=N4:=⟨_,rfl⟩;rw [hN2] at cK I' N';rw [hN4] at KW cK;generalize zP a (vE a) N4=xw at*
   generalize zP a (λi j=>vE a (P.getD i 0) j) N2=xu at*
   generalize zP a (dO a P) N2=xv at*
   replace hN2:=T hN2;replace hN4:=T hN4;replace G':=T G';replace C:=T C;replace hs:=T hs;replace m:=T m
  rotate_left
 rotate_left 2
 all_goals
  go_enter func237,ntmps237
  go_wp2_with fail;refine(KM.out _).mono ?_;rintro e w' ⟨rfl,rfl⟩
  go_wp2_with fail;refine uK.mono ?_;rintro e w1 ⟨A1,c1,o,c2,rfl,D',ih,t⟩
  have hh:=T (Q.out w1 o c2 ih);replace t:=T t;clear D' ih Q
  go_wp2_with fail;refine hh.mono ?_;rintro e w2 ⟨rfl,E⟩
  have H:=T (zX t (E.below _));clear E t hh
  go_wp2_with fail
 ·go_ret2;exact⟨_,_,rfl,zM.nil _ _ _ (qp _) H.size,H.out⟩
 ·go_ret2;exact⟨_,_,rfl,zM.nil _ _ _ (qp _) H.size,H.out⟩
 ·refine(OX.out _ H).mono ?_;rintro e w3 ⟨R,c3,A4,c4,rfl,u',hl3,hB3⟩
  have HB3:=T (zX H hB3);obtain⟨g3,rfl,hc3⟩:=LAST.out _ _ _ _ u';replace u':=T u';replace hl3:=T hl3;clear hB3 H OX uK LAST
  go_wp2_with fail;refine(KW.out _).mono ?_;rintro e w4 ⟨Aw,kw,rfl,how,hBw⟩
  have hpw:=J7 how;have HB4:=T (zX HB3 hBw);have HL4:=T (hl3.below hBw);have KPk1:=T (cK.out w4 Aw g3 kw c3 hpw.2 hpw.1 (E'.zY (qG u' hBw)));clear hc3 how hBw hpw u' hl3 HB3 KW cK
  go_wp2_with fail;refine KPk1.mono ?_;rintro e w5 ⟨Au,ku,rfl,hou,hBu⟩
  have hpu:=J7 hou;have HB5:=T (zi (zX HB4 hBu) (Y #[a,a,Z Au N2 ku] 154));have HL5:=T ((HL4.below hBu).below (zi (qZ _ w5) (Y #[a,a,Z Au N2 ku] 154)));have Mu:=T (MB.new (r:=(a:O)) (c:=(a:O)) hpu.1 hpu.2);clear hpu hou hBu HB4 HL4 KPk1;obtain⟨qu0,qu1,qu2⟩:=Mu.cells
  go_wp2_with fail;generalize w5 (Y #[a,a,Z Au N2 ku] 154)=w5a at*
  generalize (w5:O)=gu at*
  refine(I'.out _ _ _ Mu.rd).mono ?_;rintro e z ⟨Av,kv,rfl,hov,hBv⟩;have hpv:=J7 hov;have HBv:=T (zi (zX HB5 hBv) (Y #[a,a,Z Av N2 kv] 154));have HLv:=T ((HL5.below hBv).below (zi (qZ _ z) (Y #[a,a,Z Av N2 kv] 154)));have Mv:=T (MB.new (r:=(a:O)) (c:=(a:O)) hpv.1 hpv.2);clear hpv hov hBv HB5 HL5 qu0 qu1 qu2 Mu I';obtain⟨qv0,qv1,qv2⟩:=Mv.cells
  go_wp2_with fail;generalize z (Y #[a,a,Z Av N2 kv] 154)=w6a at*
  generalize (z:O)=gv at*
  refine(N'.out _ _ _ _ _ Mv.cap Mv.rd HLv.out.XB).mono ?_;rintro e wT ⟨Ad,cd,rfl,hlt5,hBt5⟩;have HBT:=T (zX HBv hBt5);have HRT:=T hlt5.XB;clear hlt5 hBt5 HBv HLv Mv qv0 qv1 qv2 N'
  go_wp2_with fail;refine(KP.out _ _ _ HRT).mono ?_;rintro e z ⟨A6,c6,rfl,hl6,hB6⟩;have X':=T (zX HBT hB6);have HR6:=T ((HRT.below hB6).more hB6.size);have HY6:=T hl6.XB;clear hl6 hB6 HBT HRT KP
  go_wp2_with (at_make;refine QA _ rfl _ _ 87 rfl w 30 i1 (Z none 0 0) 1 jr hi_ hy0 hy1 .i64 .i64 _ q rfl rfl rfl (by rw [S'.out];omega) SJ X'.size ?_;intro w7 ho7 hg7;have HB7:=T (show r' w w w7 from X'.grown hg7 X'.size (λk qj=>by cases qj));have N6:=(show r' z z w7 from(qZ _ z).grown hg7 (qx _) (λk qj=>by cases qj));have HR7:=T (HR6.below N6);have HY7:=T (HY6.below N6);have HO7:=T (show zM w7 0 w z 0 q [] from zM.AH ho7 rfl (λi iv hi=>by simp at hi) (qp _) HB7.size);have HL67:=T N6.size;have HLT:=T (HO7.ex.choose_spec.1.lt z rfl).2;clear hg7 ho7 N6 X' HR6 HY6)
  have KC:=T (Wj (c1:=cd) (c2:=c6) HL67 HR7 HY7 M);generalize hg7e:(z:O)=g7 at*
  replace hg7e:=T hg7e;refine KC.mono ?_;rintro e w8 ⟨A8,c8,rfl,hr8,J'⟩;have HB8:=T (zX HB7 J');have HO8:=T (HO7.below J');have HS:=T (λ(W:I) (F:Option Addr) (hW:Lt w8 W g7 F) (k:O) (qj:k<a+p)=>hr8.row (qx _) HLT (qv HL67 J'.size) hW qj);have HG:=T (show g7<=(w8:O) from qv HL67 J'.size)
  clear hr8 J' HB7 HR7 HY7 KC HO7 HLT HL67;rw [m.out] at HS
  go_wp2_with fail;go_loopw [107,21] (λv107 v21 wr=> ∃(j M':O) (F:Option Addr),v107=(j:la)/\v21=Z F j M'/\j<=q/\G (Lt w8 wr g7 F)/\G (r' w w wr)/\G (zM wr 0 w F j M' ((D++ck).take j))) (λv107 _ _=>q-(intOf v107).toNat)
  case atStart=>exact⟨0,q,_,rfl,rfl,M,Lt.start _ _,HB8,by rw [vG];exact HO8⟩
  case round=>
   clear HO8 HB8;obtain⟨j,M',F,rfl,rfl,hjn,HA,HB,HO⟩:=hrel;by_cases hlt:j<q
   ·have hlt':(j:V)<(q:V):=M
    obtain⟨ad,iv,Ai,ci,hA,f,hc,-,-,hr⟩:=HS.out wr F HA j hlt;subst hA;have TK:(D++ck).take (j+1)=(D++ck).take j++[iv]:=by rw [qs,f];rfl
    replace TK:=T TK;have hxl:=XL.out iv (zQ f);have KCl:=T (yV Ai (U iv) ci g7 iv wr hr (qv HG HA.size) M);obtain⟨lx,Y'⟩: ∃lx,U iv=lx:=⟨_,rfl⟩;rw [Y'] at hc hxl KCl;replace Y':=T Y';have hc1:j+1<=maxLen:=SJ;have hc2:(j+1)*24<=140737488355328:=M;clear f hr
    go_wp2_with fail;refine KCl.mono ?_;rintro e w9 ⟨A9,c9,rfl,z'⟩;have HA9:=T (HA.below z'.2);have HB9:=T (zX HB z'.2);have HO9:=T (HO.below z'.2);have HR9:=T (j8.own (b0:=0) (qi z'.1 HB.size));have hln:G (U iv=lx):=Y';clear z' KCl hc HO HB HA;have hLa:=HO9.below ((qZ _ w9).alloc (qx _) (Y #[Z A9 lx c9] 30));have hRa:=j8.below (HR9.out.2) HO9.b0s HO9.bs ((qZ _ w9).alloc (qx _) (Y #[Z A9 lx c9] 30));obtain⟨⟨vs,iL,N9,Z'⟩,m',O'⟩:=hLa;replace iL:=T iL;replace N9:=T N9;replace Z':=T Z';replace m':=T m';replace O':=T O';replace hRa:=T hRa;clear HO9
    go_wp2_with (at_builtin;refine qF _ rfl (.tmp 111) (.tmp 114) 87 rfl w 30 i1 (Z none 0 0) 1 24 jr hi_ hy0 hy1 S' rfl M F j M' _ rfl iL ((w9:O)+1) _ 1 1 _ rfl (zU w9 _ _) (IB rfl) hc1 hc2 m' ?_;intro R c3 w4 ho4 Q' _hsq;have hB4:r' w w w4:=zG (HB9.alloc HB9.size (Y #[Z A9 lx c9] 30)) Q' iL m'.out;have hP4:=zM.Fv hln hRa iL N9 Z' O' m' ho4 Q';have hA4:=T (HA9.app Q' _hsq);replace hB4:=T hB4;replace hP4:=T hP4;clear Q' _hsq ho4 iL N9 Z' m' O' hRa)
    go_roundw
    case rel=>exact⟨j+1,c3,R,by go_num,rfl,M,hA4,hB4,by rw [TK.out];exact hP4⟩
    case measure=>simp [intOf];omega
   ·have hge:(q:V)<=(j:V):=M
    obtain rfl:j=q:=M;rw [qH (by rw [hDY.out];omega)] at HO
    clear HS
    go_wp2_with fail
    go_ret2;refine⟨F,M', ?_⟩;rw [hDY.out];exact⟨rfl,HO.out,HB.out⟩
theorem L_:LR:=OK
end
section
variable {A:q'}{B j n:O}{w:I}
theorem bG (A q:q') (n j c v B E:O) (a b:qn) (w:I) (h1:E' w B 1 A n (a.map B8)) (h2:E' w E 1 q j (b.map B8)) (N:n<=1000000000000) (P:j<=1000000000000):
  xG 149 #[Z A n c,Z q j v] w λe w'=>e=t' (.bool (decide (a=b)))/\Dr w w':=by
 have o:=h1.len;have l2:=h2.len;by_cases s:n=j
 ·subst s;have z:=T h1;have D:=T h2;have L:=T (show U a=n/\U b=n from⟨o,l2⟩);clear h1 h2 o l2;go_wp2;go_loopw [13] (λi wr=> ∃k:O,i=(k:la)/\k<=n/\G (Dr w wr)/\G (a.take k=b.take k)) (λi _=>n-(intOf i).toNat)
  ·exact⟨0,rfl,M,Dr.refl w,rfl⟩
  ·obtain⟨k,rfl,Q,g,t⟩:=hrel;by_cases r:k<n
   ·obtain⟨R,x,rfl,u,l,W⟩:=(g.reads z).byte r;obtain⟨H,y,rfl,p,d,F⟩:=(g.reads D).byte r;have uK:=j' k n;by_cases m:x=y
    ·subst m;have C:G (a.take (k+1)=b.take (k+1)):=by
      rw [qs,qs,t.out,l,d];rfl
     clear l d u p;go_wp2;go_quiet (fail);go_wp2_with fail;refine xk ?_;exact⟨k+1,xh,M,g.drewN _,C⟩
    ·have X:((x.toNat:V) !=(y.toNat:V))=true:=by
      rw [yo];intro h;exact m (jG.1 M)
     have f:G (decide (a=b)=false):=by
      rw [Hid,zW];rintro rfl;rw [l] at d;injection d with d;exact m d
     clear l d u p m;go_wp2;go_quiet (fail);go_wp2;go_ret;exact⟨j7 f.symm,g.drewN _⟩
   ·obtain rfl:k=n:=M;have f:G (decide (a=b)=true):=by
     have h:=t.out;rw [qH (by rw [L.out.1];exact qx _),qH (by rw [L.out.2];exact qx _)] at h;exact qw h
    go_wp2;go_ret;exact⟨j7 f.symm,g⟩
 ·have K:((n:V) !=(j:V))=true:=by rw [yo];omega
  have f:G (decide (a=b)=false):=by
   rw [Hid,zW];rintro rfl;omega
  clear s h1 h2 o l2;go_wp2;go_ret;exact⟨j7 f.symm,Dr.refl w⟩
theorem vm.len {a:S qn} (h:vm w B A n a):U a=n:=by obtain⟨_,_,h2,_⟩:=h;exact h2
theorem Dr.XB {a:I} (h:Dr a w) {b:S qn} (r:vm a B A n b):vm w B A n b:=r.below (h.below B)
theorem Ou (w:I) (base:O) (e:TypeId) (a:S la) (b:base<=(w:O)) (c:U a<=maxLen):xp (w (Y a.toArray e)) base e 1 (Z w a a) a a:=by
 have h:=World.ownsRow_lit (e:=e) (size:=1) w a.toArray a b c s8;simpa using h
theorem ek (s:O) (w:I) (c:s<4294967296):xG 56 #[.int .u32 s] w (jQ 5 w 4 ((C6 s).map B8)):=by
 have a:G ((C6 s).map B8=[gR ((s:V)%256),gR ((s:V)/256%256),gR ((s:V)/65536%256),gR ((s:V)/16777216)]):=by
  have b:s/16777216%256=s/16777216:=jk M;simp only [C6,jy,xB,B8,zS,Nat.reducePow,b];rfl
 go_wp2;go_ret;refine⟨some ⟨w,0,none⟩,4, ?_, ?_⟩
 ·rfl
 ·rw [a.out];exact⟨Ou w w _ [gR ((s:V)%256),gR ((s:V)/256%256),gR ((s:V)/65536%256),gR ((s:V)/16777216)] (qx _) (by simp [maxLen]),zi (qZ _ _) _⟩
theorem XI (A:q') (n c B:O) (a:qn) (w:I) (ht:Pl w) (h:E' w B 1 A n (a.map B8)) (t:B<=(w:O)) (u:n<=c) (q:c<=maxLen) (cL:n<=1000000000000):
  xG 35 #[Z A n c] w (jQ 5 w (n+4) ((dc a).map B8)):=by
 have P:=T ht;have H:=T h;have r:=T (show n<=c/\c<=maxLen from⟨u,q⟩);obtain⟨R,hi,l,f,m⟩:=xt QB;clear ht h u q;go_in;go_wp2_with fail;refine(yV A n c B a w H t M).mono ?_;rintro e s ⟨E,c1,rfl,g⟩;have b:=T g;have K:=g.below.size;clear g;go_wp2_with fail;refine zC (Wy A n c w a s (P.below b.below P.pos) ((H.more t).below b.below) K r.out.1 r.out.2) ?_;intro N i;have W:=T (zX b.below i);have F:=T (Qv b.out.1 i);clear i;go_wp2_with fail;refine(ek _ _ (RX a)).mono ?_;rintro e v ⟨L,z,rfl,d⟩;have k:=T (zX W d.below);have o:=T (Qv F d.below);have D:=T d.reads;clear d;go_wp2_with (at_builtin;refine qF _ rfl (.tmp 4) (.tmp 7) 30 rfl w 5 R (gR 0) 1 1 qu hi l f m rfl M E n c1 _ rfl o v L 4 z _ rfl D (YR _) ?_ ?_ ?_ ?_;rotate_left 3;intro C y X j p x;have Q:=T (zG k p o k.size);replace j:=T j;clear p x);rotate_left 1
 ·unfold maxLen;omega
 ·omega
 ·exact k.size
 go_ret;refine⟨C,y,rfl, ?_,Q⟩;have h:=j.out;rw [<-qg] at h;exact h
theorem Vr (A:q') (n c:O) (a:qn) (w:I) (ht:Pl w) (h:E' w (w:O) 1 A n (a.map B8)) (x:n<=c) (u:c<=maxLen) (X:n<=1000000000000):
  xG 106 #[Z A n c] w (Qr 5 w (vR a) (QH a)):=by
 have y:=h.len;by_cases h4:n<4
 ·have d:G (vR a=[]/\QH a=1):=⟨qk M,qk M⟩;have R:(n:V)-4<0:=M;clear h y ht;go_wp2;go_ret2;exact⟨_,0,by rw [d.out.1,d.out.2];rfl,by rw [d.out.1];exact yG.nil w _⟩
 obtain⟨k,rfl⟩: ∃k,n=k+4:=⟨n-4,M⟩;have qj:=T ht;have H:=T h;have d:G (vR a=(if VO a then a.take k else [])/\QH a=(if VO a then 0 else 5)/\VO a=decide (a.drop k=C6 (W7 (a.take k)))):=by
  refine⟨?_,qJ M, ?_⟩
  ·rw [vR,qJ M,show U a-4=k by omega]
  ·rw [VO,show U a-4=k by omega]
 have Q:(k:V)+4<=(c:V):=M;have cK:=vv k c;obtain⟨F,hi,ih,q,hh⟩:=qA QB;have P:=jI _ 5 F 1 qu hi q A (k+4) c k .i64 M;have l:k<=k+4:=M;have C:=T (λW f=>
  Wy A k c _ _ W (qj.below f qj.pos) ((H.below f).takeN l) f.size M u)
 have t:G (U (a.take k)=k):=by rw [Hid,qh];omega
 have o:=λ(W:I) (f:r' (w:O) w W)=>(H.below f).takeN l;have i:=λ(W:I) (f:r' (w:O) w W)=>(H.below f).VC l x;rw [show k+4-k=4 by omega] at i;replace o:=T o;replace i:=T i;clear hi ih q hh ht h y h4 x u;go_in;go_wp2_with fail;go_region_held3 (λw'=>r' (w:O) w w')
  (first|assumption|exact qZ _ _|(repeat (first|assumption|exact qZ _ _|(with_reducible refine zi ?_ _)|(with_reducible refine Below.drew ?_))))
  (first
   |(go_at_call 57;((with_reducible refine(C.out _ Z1).mono ?_);rintro e cY ⟨rfl,B⟩;have uK:=zX Z1 B))
   |(go_at_call 56;((with_reducible refine(ek _ _ (RX _)).mono ?_);rintro e L ⟨cB,cL,rfl,m⟩;have iv:=zX Z1 m.below;have K:=T m;clear m))
   |(go_at_call 149;((with_reducible refine(bG _ _ _ _ _ _ _ _ _ _ _ (i.out _ Z1) K.out.reads M M).mono ?_);rintro e p ⟨rfl,r⟩;have g:=Below.trans Z1 (r.below _);clear r)))
 rw [<-d.out.2.2];cases j:VO a
 ·have b:G (vR a=[]/\QH a=5):=by
   have h:=d.out;rw [j] at h;exact⟨h.1,h.2.1⟩
  clear j;go_wp2;go_ret2;exact⟨_,0,by rw [b.out.1,b.out.2];rfl,by rw [b.out.1];exact⟨qP _ _ _ 1,g⟩⟩
 ·have b:G (vR a=a.take k/\QH a=0):=by
   have h:=d.out;rw [j] at h;exact⟨h.1,h.2.1⟩
  clear j;have z:=T g;have D:=T (yV A k c _ _ p (o _ g) g.size M);go_wp2_with fail;refine D.mono ?_;rintro e N ⟨ln,E,rfl,v⟩;have s:=T v;clear v;go_wp2;go_ret2;refine⟨ln,E, ?_, ?_⟩
  ·rw [b.out.1,b.out.2,t.out];rfl
  ·rw [b.out.1,t.out];exact⟨qi s.out.1 z.size,zX z s.below⟩
theorem R4 (A:q') (n c B:O) (a:qn) (w:I) (h:E' w B 1 A n (a.map B8)) (F:B<=(w:O)) (L:n<=1000000000000):
  xG 72 #[Z A n c] w (jQ 5 w (n+4) ((dc a).map B8)):=by
 have H:=T h;obtain⟨x,hi,m,g,o⟩:=xt QB;have C:=T (R0 A n c B a w h SJ);have P:=RX a;have K:G (dc a=a++C6 (W7 a)):=rfl;generalize W7 a=s at*;clear h;go_in;go_wp2_with fail;refine Ω (C.out) ?_;go_wp2_with (at_builtin;refine qF _ rfl (.tmp 8) (.tmp 9) 30 rfl w 5 x (gR 0) 1 1 qu hi m g o rfl M w 0 0 [] rfl (ZR w _ _ (qx _)) B A n c _ rfl (H.alloc F _) (YR _) ?_ ?_ ?_ ?_;rotate_left 3;intro l c1 y b f r;have q:=T (zG (zi (qZ _ _) _) f (ZR w _ _ (qx _)) (zi (qZ _ w) _).size);replace b:=T b;clear f r);rotate_left 1
 ·unfold maxLen;omega
 ·omega
 ·exact(zi (qZ _ w) _).size
 have z:G (xp y w 5 1 (Z l n c1) n ((a++(C6 s).take 0).map B8)):=by
  have h:=b.out;rw [vG,jx];simpa [Hid] using h
 go_wp2;go_loopw [3,4,5] (λt v i wr=> ∃(k c0:O) (d:q'),t= .int .u32 ((s/256^k:O):V)/\v=Z d (n+k) c0/\i=(k:la)/\k<=4/\G (r' w w wr)/\
   G (xp wr w 5 1 (Z d (n+k) c0) (n+k) ((a++(C6 s).take k).map B8))) (λ_ _ i _=>4-(intOf i).toNat)
 ·exact⟨0,c1,l,by rw [Nat.pow_zero,Nat.div_one],rfl,rfl,M,q,z⟩
 ·obtain⟨k,c0,d,rfl,rfl,rfl,R,j,p⟩:=hrel;by_cases D:k<4
  ·have e:=T (sC s k D);have E:G (s/256^(k+1)=s/256^k/256):=by rw [vB,Nat.div_div_eq_div_mul];rfl
   have N:s/256^k<4294967296:=vQ (xr _ _) P;have Q:G (B8 (UInt8.ofNat (s/256^k))=gR (((s/256^k:O):V)%256)):=by
    simp only [B8,zS];rfl
   generalize s/256^k=u at*;go_wp2_with (at_builtin;refine qF _ rfl (.tmp 15) (.tmp 19) 30 rfl w 5 x (gR 0) 1 1 qu hi m g o rfl M d (n+k) c0 _ rfl (p.alloc _) _ _ 1 1 _ rfl (zU _ _ _) (IB rfl) ?_ ?_ ?_ ?_;rotate_left 3;intro l c1 y b f r;have q:=T (zG (zi j _) f (p.alloc _) (zi j _).size);replace b:=T b;clear f r);rotate_left 1
   ·unfold maxLen;omega
   ·omega
   ·exact(zi j _).size
   go_roundw
   case rel=>
    refine⟨k+1,c1,l,by rw [E.out];rfl,rfl,xh,M,q, ?_⟩;have h:=b.out;rw [e.out,<-jY,qg,jy,xB,Q.out];exact h
   case measure=>simp [intOf];omega
  ·obtain rfl:k=4:=M;go_wp2;go_ret;refine⟨d,c0,rfl, ?_,j⟩;rw [K.out];exact p.out
theorem R9 (A:q') (n c:O) (a:qn) (w:I) (h:E' w (w:O) 1 A n (a.map B8)) (F:n<=c) (K:n<=1000000000000):
  xG 42 #[Z A n c] w (Qr 5 w (vR a) (QH a)):=by
 have v:=h.len;by_cases h4:n<4
 ·have d:G (vR a=[]/\QH a=1):=⟨qk M,qk M⟩;have P:(n:V)<4:=M;clear h v;go_wp2;go_ret2;exact⟨_,0,by rw [d.out.1,d.out.2];rfl,by rw [d.out.1];exact yG.nil w _⟩
 obtain⟨k,rfl⟩: ∃k,n=k+4:=⟨n-4,M⟩;have H:=T h;have d:G (vR a=(if VO a then a.take k else [])/\QH a=(if VO a then 0 else 5)/\VO a=decide (dc (a.take k)=a)):=by
  refine⟨?_,qJ M, ?_⟩
  ·rw [vR,qJ M,show U a-4=k by omega]
  ·rw [sA,show U a-4=k by omega]
 have N:=vv k c;have y:k<=k+4:=M;have t:G (U (a.take k)=k):=by rw [Hid,qh];omega
 have j:=λ(W:I) (E:r' (w:O) w W)=>(H.below E).takeN y;replace j:=T j;obtain⟨C,hi,p,m,q⟩:=xt QB;clear h v h4 F;go_in;go_wp2_with fail;refine(R4 A k c _ _ w (j _ (qZ _ _)) (qx _) M).mono ?_;rintro e i ⟨z,c1,rfl,s⟩;have g:=T s;clear s;go_wp2_with fail;refine Ω (my z A _ _ c1 c _ _ _ _ i g.reads (H.below g.below)) ?_;rw [<-d.out.2.2];cases l:VO a
 ·have b:G (vR a=[]/\QH a=5):=by
   have h:=d.out;rw [l] at h;exact⟨h.1,h.2.1⟩
  clear l;go_wp2;go_ret2;exact⟨_,0,by rw [b.out.1,b.out.2];rfl,by rw [b.out.1];exact⟨qP _ _ _ 1,g.below⟩⟩
 ·have b:G (vR a=a.take k/\QH a=0):=by
   have h:=d.out;rw [l] at h;exact⟨h.1,h.2.1⟩
  clear l;have f:=T g.below;have r:=f.size;go_wp2_with (at_builtin;refine qF _ rfl (.tmp 16) (.tmp 21) 30 rfl (w:O) 5 C (gR 0) 1 1 qu hi p m q rfl M i 0 0 [] rfl (ZR i _ _ r) (w:O) A k c _ rfl (j _ (zi f _)) (YR _) ?_ ?_ ?_ ?_;rotate_left 3;intro D c2 L o u x;have B:=T (zG (zi f _) u (ZR i _ _ r) (zi f _).size);replace o:=T o;clear u x);rotate_left 1
  ·unfold maxLen;omega
  ·omega
  ·exact(zi f _).size
  go_ret2;refine⟨D,c2, ?_, ?_⟩
  ·rw [b.out.1,b.out.2,t.out];simp
  ·rw [b.out.1,t.out];have h:=o.out;exact⟨by simpa using h,B⟩
end
end Go.Proofs.YtfnlfpcfkbdcmaaGreatDoor
