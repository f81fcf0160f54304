import Derived.Test.YtfnlfpcfkbdcmaaGreatDoorL10
import Derived.Test.YtfnlfpcfkbdcmaaGreatDoorL11
set_option linter.unusedSimpArgs false
set_option linter.unusedVariables false
set_option maxRecDepth 100000
set_option maxHeartbeats 0
open Go.Proofs.Tryz
namespace Go.Proofs.YtfnlfpcfkbdcmaaGreatDoor
open Go.RowKit
section
variable {B j:Nat}{l:List qn}{m:Int}
def wI (w:World) (n:Nat) (a:List qn) (b:Int) (e:Ending) (w':World):Prop:= ∃A c,e= .returned (.tuple #[.slice A n c,b])/\zM w' 0 w A n c a/\Below w w w'
def YP (m:Int) (l:List qn):Bool:=kD l m&&pf l
def DN (m:Int) (l:List qn):List qn:=if YP m l=true then yH m.toNat l (l.headD []).length (Vq l) l else []
def Sy (m:Int) (l:List qn):Int:=if YP m l=true then 0 else 13
theorem wL (h:YP m l=false):DN m l=[]:=by unfold DN;rw [qJ (by rw [h];decide)]
theorem w_ (h:YP m l=false):Sy m l=13:=by unfold Sy;rw [qJ (by rw [h];decide)]
theorem AO (h:YP m l=true):DN m l=yH m.toNat l (l.headD []).length (Vq l) l:=by unfold DN;rw [qk h]
theorem AI (h:YP m l=true):Sy m l=0:=by unfold Sy;rw [qk h]
theorem bp (h:pf l=true): ∀x∈l,x.length=(l.headD []).length:=by
 unfold pf at h;rw [xT] at h;exact λx a=>by simpa using h x a
theorem Kl (A:q') (n c:Nat) (a:List qn) (w:World) (h:vm w w A n a) (b:n<=100000):
  Calls prog 101 #[.slice A n c] w λe w'=>e= .returned (.bool (pf a))/\Dr w w':=
 (sM A n c _ a w h b).mono λe w' h=>⟨h.1,h.2▸Dr.refl _⟩
theorem FJ (m:Int) (A:q') (n c:Nat) (b:List qn) (w:World) (h:vm w w A n b) (P:n<=100000) (s: ∀x∈b,x.length<=1000000):
  Calls prog 69 #[m, .slice A n c] w (wI w (DN m b).length (DN m b) (Sy m b)):=by
 have i:b.length=n:=by obtain⟨_,_,h2,_⟩:=h;exact h2
 cases d:kD (n:Int) m
 focus
  rw [wL (by unfold YP;rw [i,d];rfl),w_ (by unfold YP;rw [i,d];rfl)];have o:Hid (∀W,Calls prog 100 #[n,m] W λe w'=>e= .returned false/\W=w'):=λW=>by rw [<-d];exact dv _ _ _
  clear h i d s
 rotate_left
 focus
  have o:Hid (∀W,Calls prog 100 #[n,m] W λe w'=>e= .returned true/\W=w'):=λW=>by rw [<-d];exact dv _ _ _
  cases g:pf b
  focus
   rw [wL (by unfold YP;rw [g,Bool.and_false]),w_ (by unfold YP;rw [g,Bool.and_false])];have G:Hid (Calls prog 101 #[.slice A n c] w λe w'=>e= .returned false/\Dr w w'):=by rw [<-g];exact Kl A n c b w h P
   clear h i g d s
  rotate_left
  focus
   have F:YP m b=true:=by unfold YP;rw [i,d,g];rfl
   obtain⟨p,U⟩: ∃p:Nat,m=(p:Int):=by unfold kD at d;simp at d;exact⟨m.toNat,uK⟩
   subst U;have M:n+p<=255/\1<=n:=by unfold kD at d;simp at d;omega
   rw [AO F,AI F,zc,i,x_];have G:Hid (Calls prog 101 #[.slice A n c] w λe w'=>e= .returned true/\Dr w w'):=by rw [<-g];exact Kl A n c b w h P
   obtain⟨L,q⟩: ∃L,(b.headD []).length=L:=⟨_,rfl⟩;have O: ∀x∈b,x.length=L:=by rw [<-q];exact bp g
   have H:L<=1000000:=by
    rw [<-q];cases b with
    |nil=>simp
    |cons a t=>exact s a (qo ..)
   rw [q];have j:=qj (λW=>bz n p W M.1);unfold Ps at j;unfold mC at j;simp only [yj] at j;have C:=
    qj (λW l k u K X R=>bQ p n L (Vq n) l A k u b W uK uK M.2 X H R ((h.below K).more K.size) O)
   unfold AA at C;generalize yH p n L (Vq n) b=d' at*;clear h i g d s F q O H;obtain⟨N,v⟩: ∃N,p*n=N:=⟨_,rfl⟩;rw [v] at j C;generalize zP n (Vq n) N=xc at*;have Z:=(jb YE).1
  rotate_left
 rotate_left 2
 all_goals
  go_in;go_wp2_with fail;refine Ω (o _) ?_;go_wp2_with fail
 ·go_ret2;exact⟨_,_,rfl,zM.nil _ _ _ (qp _) (qx _),qZ _ _⟩
 ·refine zC G ?_;intro T f;replace f:=qj f;go_wp2;go_ret2;exact⟨_,_,rfl,zM.nil _ _ _ (qp _) (Nat.le_of_eq f.size.symm),f.below _⟩
 ·refine zC G ?_;intro T f;replace f:=qj f;go_wp2_with fail;refine(j _).mono ?_;rintro e w2 ⟨Ac,kc,rfl,J,I⟩;have B:=J7 J;have z:=qj (zi (zX (f.below _) I) (.cells #[p,n, .slice Ac N kc] 154));have y:=qj (MB.new (r:=(p:Nat)) (c:=(n:Nat)) B.1 B.2);clear B J I;obtain⟨V,Q,S⟩:=y.cells;go_wp2_with fail;refine(C _ _ _ _ z y.cap y.rd).mono ?_;rintro e Y ⟨A3,c3,rfl,E,D⟩;replace E:=qj E;replace D:=qj D;clear V Q S;go_wp2;go_ret2;exact⟨_,_,rfl,E.out.Vg (qx _) (qp _) z.size,zX z D⟩
end
section
variable {A:q'}{B base base' c i j kk l n x:Nat}{W a w wr:World}{f:TypeId}{g:List Bool}
def Q6 (g:List Bool) (i:Nat):List Nat:=(List.range i).filter λt=>g.getD t false
def vu (kk:Nat) (g:List Bool) (i:Nat):List Nat:=(Q6 g i).take kk
def xy (l:List qn) (P:List Nat):List qn:=P.map λt=>l.getD t []
theorem RS (h:g.getD i false=true):Q6 g (i+1)=Q6 g i++[i]:=by
 unfold Q6;rw [jA,vx,yW (p:=λt=>g.getD t false) h];rfl
theorem ij (h:g.getD i false=false):Q6 g (i+1)=Q6 g i:=by
 unfold Q6;rw [jA,vx,yw (p:=λt=>g.getD t false) (by rw [h];decide)];simp
theorem il (h:g.getD i false=false):vu kk g (i+1)=vu kk g i:=by unfold vu;rw [ij h]
theorem NI (h: ¬(vu kk g i).length<kk):vu kk g (i+1)=vu kk g i:=by
 unfold vu at h⊢;rw [qh] at h;cases a:g.getD i false with
 |false=>rw [ij a]
 |true=>rw [RS a,ZV uK]
theorem Ov (h:g.getD i false=true) (a:(vu kk g i).length<kk):vu kk g (i+1)=vu kk g i++[i]:=by
 unfold vu at a⊢;rw [qh] at a;rw [RS h,qH (by rw [qK];simp;omega),qH uK]
theorem iy (h:x∈Q6 g i):x<i:=by
 unfold Q6 at h;exact js.1 (vJ.1 h).1
theorem Wq (h:x∈Q6 g i):g.getD x false=true:=by
 unfold Q6 at h;exact(vJ.1 h).2
theorem Nl (g:List Bool) (i:Nat):(Q6 g i).Nodup:=List.nodup_range.filter _
theorem NL (g:List Bool) (i:Nat):(Q6 g i).length<=i:=by
 have:=jN (λt=>g.getD t false) (List.range i);rw [yS] at this;exact this
theorem Wz (kk:Nat) (g:List Bool) (i:Nat):(vu kk g i).length=min kk (Q6 g i).length:=by unfold vu;rw [qh]
theorem Oy (h:i<=kk):vu kk g i=Q6 g i:=by
 unfold vu;exact qH (qv (NL _ _) h)
theorem K8 (l:List qn) (P:List Nat):(xy l P).length=P.length:=by simp [xy]
def NV (t:Nat):Value:= .int .i64 (t:Int)
theorem N0:(prog.info? 3).map (λi=>(i.zero,i.size,i.bytes))=some (some (.int .i64 0),1,8):=AL
theorem Zt {i:World} {size q:Nat} {d:q'} {E:TypeId} {g p:List Value} (h:W.ownsRow base E size (.slice A n c) n g) (o:W.ownsRow base' f q (.slice d j l) j p) (r:E≠f) (m:W.grownBy i (d.map (·.block))):i.ownsRow base E size (.slice A n c) n g:=by
 refine zI h λa s=> ?_;obtain⟨v,u,k⟩:=jV h _ (by rw [s];rfl);refine m.block _ (jz k) λe=> ?_;obtain⟨w,t,b⟩:=jV o _ e.symm;rw [k] at b;injection b with b;injection b with _ ht;exact r ht
theorem zM.apart {k:World} {b0 m u:Nat} {g:q'} {j:List qn} {q:List Value} (h:zM W b0 base A n c j) (d:W.ownsRow base' f u (.slice g l m) l q) (w:30≠f) (o:5≠f) (z:base<=base') (b:W.grownBy k (g.map (·.block))):zM k b0 base A n c j:=by
 obtain⟨⟨vs,h1,h2,h3⟩,y,h0⟩:=h;refine⟨⟨vs,Zt h1 d w b,h2,λi r hi=> ?_⟩,qv y b.size,h0⟩;obtain⟨Ai,s,t,x,v,a⟩:=h3 i r hi;refine⟨Ai,s,t,x,v, ?_⟩;rcases a with a|a
 ·refine .inl (a.keep λp C=>zw (b.block p.block uK λe=> ?_));obtain⟨D,B,E⟩:=jV d _ e.symm;have:=d.lt _ (by rw [jH];exact e.symm);omega
 ·exact .inr (Zt a d o b)
def FX (w:World) (P:List Nat) (l:List qn) (e:Ending) (w':World):Prop:= ∃A c a c2,e= .returned (.tuple #[.slice A P c, .slice a P c2])/\w'.ownsRow w 3 1 (.slice A P c) P (P.map NV)/\zM w' w w a P c2 l/\Below w w w'
theorem OQ {k:Nat} {c:List Bool} (h:Reads w B 1 A n (c.map Value.bool)) (e:k<n): ∃a b,A=some a/\c.getD k false=b/\w.cell? (a.add k)=some (.bool b):=by
 obtain⟨a,u,f,_,i,d⟩:=h.at_ e;obtain⟨b,g,rfl⟩:=get_map _ c k u i;exact⟨a,b,f,by rw [qd,g];rfl,d⟩
structure OZ (w W:World) (A Ag:q') (n:Nat) (xss:List qn) (gs:List Bool):Prop where
 row: ∀j,j<n-> ∃ad b Aj L cj,A=some ad/\xss.getD j []=b/\b.length=L/\W.cell? (ad.add j)=some (.slice Aj L cj)/\ ∀W',Below w w W'->j8 W' w w Aj cj b
 flag: ∀j,j<n-> ∃ad b,Ag=some ad/\gs.getD j false=b/\W.cell? (ad.add j)=some (.bool b)
theorem N5 {e:q'} {d:List qn} {h:List Bool} (r:vm w w A n d) (l:Reads w w 1 e n (h.map Value.bool)) (W:World) (g:Below w w W):OZ w W A e n d h:=by
 refine⟨λj a=> ?_,λj a=>OQ (l.below g) a⟩;obtain⟨f,b,o,q,m,k,c,h1,h2,i⟩:=r.I0 a;exact⟨f,b,o,_,q,m,by rw [qd,k];rfl,rfl,(g.cell (yM c)).trans c,λt s=>⟨h1,h2, .inl (i.below s)⟩⟩
theorem bP (kk:Nat) (A Z:Option Addr) (n c cg:Nat) (F:List (List UInt8)) (d:List Bool) (w:World) (hn:n<=100000) (hk:kk<=100000) (hx:vm w w A n F) (hg:Reads w w 1 Z n (d.map Value.bool)):
  Calls prog 258 #[kk, .slice A n c, .slice Z n cg] w (FX w (vu kk d n) (xy F (vu kk d n))):=by
 have IN:=qj (λW hB=>N5 hx hg W hB);obtain⟨i1,P,U,O,G⟩:=qA Zz;replace P:=qj P;replace U:=qj U;replace O:=qj O;replace G:=qj G;obtain⟨i2,M,J,K,Y⟩:=qA N0;replace M:=qj M;replace J:=qj J;replace K:=qj K;replace Y:=qj Y;have NO:=qj (λi h=>il (g:=d) (kk:=kk) (i:=i) h);have FU:=qj (λi h=>NI (g:=d) (kk:=kk) (i:=i) h);have M':=qj (λi h h2=>Ov (g:=d) (kk:=kk) (i:=i) h h2);clear hx hg;go_enter func258,ntmps258
 go_wp2_with fail;go_loopw [12,6,7] (λT v6 v7 wr=> ∃(i L p o:Nat) (r t:Option Addr),T=(i:Value)/\v6= .slice r L p/\v7= .slice t L o/\i<=n/\L<=i/\Hid ((vu kk d i).length=L)/\Hid (Below w w wr)/\Hid (wr.ownsRow w 3 1 (.slice r L p) L ((vu kk d i).map NV))/\Hid (zM wr w w t L o (xy F (vu kk d i)))) (λT _ _ _=>n-(intOf T).toNat)
 case atStart=>exact⟨0,0,0,0,none,none,rfl,rfl,rfl,uK,uK,by show(vu kk d 0).length=0;simp [vu,Q6],qZ _ _,by show w.ownsRow _ _ _ _ _ _;simp only [vu,Q6,List.range_zero,List.filter_nil,List.take_nil,xB];exact qP _ _ _ 1,by show zM _ _ _ _ _ _ _;simp only [xy,vu,Q6,List.range_zero,List.filter_nil,List.take_nil,xB];exact zM.nil _ _ _ (qx _) (qx _)⟩
 case round=>
  obtain⟨i,L,p,o,r,t,rfl,rfl,rfl,O',OX,j,e,l,s⟩:=hrel;by_cases p':i<n
  ·have Q':(i:Int)<(n:Int):=uK
   obtain⟨ad,b,X,S,I,hA,N,m',ej,R⟩:=(IN.out wr e).row i p';obtain⟨ag,f,N6,m,eg⟩:=(IN.out wr e).flag i p';subst hA;subst N6;replace N:=qj N;have z':=qj m';clear m';replace R:=qj R;cases f
   focus have a:=NO.out i m
   rotate_left
   focus
    by_cases iL:L<kk
    ·have u':(L:Int)<(kk:Int):=uK
     have a:=qj (M'.out i m (by rw [j.out];exact iL))
     replace m:=qj m;have N9:L+1<=maxLen:=SJ;have G':(L+1)*8<=140737488355328:=uK;have D':L+1<=maxLen:=SJ;have J':(L+1)*24<=140737488355328:=uK
     go_wp2_with (first|(at_builtin;refine qF _ rfl (.tmp 27) (.tmp 29) 62 rfl w 3 i2 () 1 8 jj M.out J.out K.out Y.out rfl uK r L p _ rfl (l.out.alloc (.cells #[i] 3)) (wr.heap.size+1) _ 1 1 _ rfl (zU wr _ _) (one_one rfl) N9 G' (show w.heap.size<=(wr.alloc (.cells #[i] 3)).heap.size from qv e.out.size s8) ?_;intro A2 c2 v H k E;have y:Below w w v:=zG (e.out.alloc e.out.size (.cells #[i] 3)) k (l.out.alloc (.cells #[i] 3)) (show w.heap.size<=(wr.alloc (.cells #[i] 3)).heap.size from qv e.out.size s8);have u:=zM.apart (s.out.below ((qZ _ wr).alloc (qx _) _)) (l.out.alloc _) FV FV (qx _) k;replace u:=qj u;have N':=u.out.below ((qZ _ v).alloc (qx _) (.cells #[.slice X S I] 30));have D:=j8.below (R.out v y) u.out.b0s u.out.bs ((qZ _ v).alloc (qx _) (.cells #[.slice X S I] 30));obtain⟨⟨vs,q,z,C⟩,x,B⟩:=N';replace q:=qj q;replace z:=qj z;replace C:=qj C;replace x:=qj x;replace B:=qj B;replace D:=qj D;clear u s;replace H:=qj H;replace y:=qj y;clear k E)|(at_builtin;refine qF _ rfl (.tmp 31) (.tmp 33) 87 rfl w 30 i1 (.slice none 0 0) 1 24 jr P.out U.out O.out G.out rfl uK t L o _ rfl q.out (v.heap.size+1) _ 1 1 _ rfl (zU v _ _) (one_one rfl) D' J' x.out ?_;intro A3 c3 w4 d' k E;have Q:Below w w w4:=zG (y.out.alloc y.out.size (.cells #[.slice X S I] 30)) k q.out x.out;have V:=zM.Fv z'.out D.out q.out z.out C.out B.out x.out d' k;have I':=qj (Zt (H.out.alloc _) q.out FV k);replace Q:=qj Q;replace V:=qj V;clear k E d' q z C x B D))
     go_roundw
     case rel=>exact⟨i+1,L+1,c2,c3,A2,A3,by go_num,rfl,rfl,uK,uK,by rw [a.out];show(_++[i]).length=L+1;rw [qK,j.out];rfl,Q,by rw [a.out,qg];exact I',by rw [a.out];unfold xy;rw [qg];simp only [jy,xB];rw [N.out];exact V⟩
     case measure=>simp [intOf];omega
    focus
     have u':(kk:Int)<=(L:Int):=uK
     have a:=FU.out i (by rw [j.out];exact iL)
   all_goals
    rw [<-a] at l s j;replace a:=qj a;replace m:=qj m
    go_wp2_with fail;go_roundw
    case rel=>exact⟨i+1,L,p,o,r,t,by go_num,rfl,rfl,uK,uK,j,e,l,s⟩
    case measure=>simp [intOf];omega
  ·have P':(n:Int)<=(i:Int):=uK
   obtain rfl:i=n:=uK
   go_wp2_with fail
   go_ret2;refine⟨r,p,t,o, ?_⟩;rw [j.out];exact⟨rfl,l.out,s.out,e.out⟩
def VR (a b:Value) (f m:Nat->Nat) (s:Nat->Value):Array Value:=((List.range 50).map λi=>if i=0 then a else if i=1 then b else if i<18 then .int .i64 (f (i-2)) else if i<34 then .int .i64 (m (i-18)) else s (i-34)).toArray
end
section
variable {B:Nat} {j:Nat} {wr:World}
variable {W:World} {a:World} {bs:qn} {g:Nat} {l:Nat}
variable (v0:Value) (v1:Value) (f:Nat->Nat) (m:Nat->Nat) (s:Nat->Value)
theorem XN:(VR v0 v1 f m s).size=50:=by simp [VR]
theorem kG {i:Nat} (h:i<50):(VR v0 v1 f m s)[i]? =some (if i=0 then v0 else if i=1 then v1 else if i<18 then .int .i64 (f (i-2)) else if i<34 then .int .i64 (m (i-18)) else s (i-34)):=by simp [VR,h]
theorem IK:(VR v0 v1 f m s)[0]? =some v0:=kG _ _ f m s uK
theorem ml:(VR v0 v1 f m s)[1]? =some v1:=kG _ _ f m s uK
theorem mL (h:l<16):(VR v0 v1 f m s)[2+l]? =some (.int .i64 (f l)):=by rw [kG _ _ _ _ _ uK,qJ uK,qJ uK,qk uK,show 2+l-2=l by omega]
theorem m8 (h:l<16):(VR v0 v1 f m s)[18+l]? =some (.int .i64 (m l)):=by rw [kG _ _ _ _ _ uK,qJ uK,qJ uK,qJ uK,qk uK,show 18+l-18=l by omega]
theorem Cg (h:l<16):(VR v0 v1 f m s)[34+l]? =some (s l):=by rw [kG _ _ _ _ _ uK,qJ uK,qJ uK,qJ uK,qJ uK,show 34+l-34=l by omega]
theorem FL {a:Array Value} (b:a.size=50) (h: ∀i,i<50->a[i]? =some (if i=0 then v0 else if i=1 then v1 else if i<18 then .int .i64 (f (i-2)) else if i<34 then .int .i64 (m (i-18)) else s (i-34))):a=VR v0 v1 f m s:=by
 apply ZD;intro i;by_cases hi:i<50
 ·rw [h i hi,kG _ _ _ _ _ hi]
 ·rw [zg uK,zg (by rw [XN];omega)]
theorem S4 (h:l<16) (v:Nat):(VR v0 v1 f m s).setIfInBounds (2+l) v=VR v0 v1 (λj=>if j=l then v else f j) m s:=by
 refine FL _ _ _ _ _ (by rw [yg,XN]) λi hi=> ?_;rw [jM,kG _ _ _ _ _ hi,XN];by_cases h1:2+l=i
 ·subst h1;rw [qk rfl,qk hi,qJ uK,qJ uK,qk uK,qk uK]
 ·rw [qJ h1];by_cases h2:i<18
  ·by_cases h3:i=0
   ·simp [h3]
   ·by_cases h4:i=1
    ·simp [h4]
    ·simp only [qJ h3,qJ h4,qk h2,qJ (show¬i-2=l by omega)]
  ·simp only [qJ (show¬i=0 by omega),qJ (show¬i=1 by omega),qJ h2]
theorem S5 (h:l<16) (v:Nat):(VR v0 v1 f m s).setIfInBounds (18+l) v=VR v0 v1 f (λj=>if j=l then v else m j) s:=by
 refine FL _ _ _ _ _ (by rw [yg,XN]) λi hi=> ?_;rw [jM,kG _ _ _ _ _ hi,XN];by_cases h1:18+l=i
 ·subst h1;rw [qk rfl,qk hi,qJ uK,qJ uK,qJ uK,qk uK,qk uK]
 ·rw [qJ h1];by_cases h2:i<18
  ·simp only [qk h2]
  ·by_cases h3:i<34
   ·simp only [qJ (show¬i=0 by omega),qJ (show¬i=1 by omega),qJ h2,qk h3,qJ (show¬i-18=l by omega)]
   ·simp only [qJ (show¬i=0 by omega),qJ (show¬i=1 by omega),qJ h2,qJ h3]
theorem S7 (h:l<16) (v:Value):(VR v0 v1 f m s).setIfInBounds (34+l) v=VR v0 v1 f m (λj=>if j=l then v else s j):=by
 refine FL _ _ _ _ _ (by rw [yg,XN]) λi hi=> ?_;rw [jM,kG _ _ _ _ _ hi,XN];by_cases h1:34+l=i
 ·subst h1;rw [qk rfl,qk hi,qJ uK,qJ uK,qJ uK,qJ uK,qk uK]
 ·rw [qJ h1];by_cases h2:i<18
  ·simp only [qk h2]
  ·by_cases h3:i<34
   ·simp only [qJ h2,qk h3]
   ·simp only [qJ (show¬i=0 by omega),qJ (show¬i=1 by omega),qJ h2,qJ h3,qJ (show¬i-34=l by omega)]
end
section
variable {A:Nat->q'}{B g i j l lo x:Nat}{W a w w':World}{bs:qn}{c m n q:Nat->Nat}{v0 v1:Value}{xs:Nat->List Nat}
structure Cdr (W:World) (g lo hi:Nat) (bs:qn):Prop where
 ex: ∃(Al Ac:q') (cl cc:Nat) (s:Nat->Value),Blk W g 266 (VR (.slice Al bs cl) (.slice Ac bs cc) (Pk bs) (Pp bs) s)/\
  (W.ownsRow lo 5 1 (.slice Al bs cl) bs (bs.map B8)/\ ∀k∈fpS Al,k<hi)/\(W.ownsRow lo 25 1 (.slice Ac bs cc) bs ((Xt bs).map C16)/\ ∀k∈fpS Ac,k<hi)/\
  ∀l,l<16-> ∃A c,s l= .slice A (Pp bs l) c/\W.ownsRow lo 3 1 (.slice A (Pp bs l) c) (Pp bs l) ((YQ bs l).map NV)/\ ∀k∈fpS A,k<hi
 lo:lo<=g
 hi:g<hi
 ok:Y2 bs=0
theorem Cdr.jZ {m:World} {lo hi:Nat} {l:List Nat} (h:Cdr W g lo hi bs) (i:qE l W m) (f: ∀k∈l,k<lo\/hi<=k):Cdr m g lo hi bs:=by
 obtain⟨⟨p,Ac,t,x,s,d,⟨h1,o⟩,⟨h2,n⟩,h3⟩,w,q,u⟩:=h;refine⟨⟨p,Ac,t,x,s,i.blk d (λr=>by have:=f g r;omega),⟨i.own h1 (λk a b=> ?_),o⟩,⟨i.own h2 (λk a b=> ?_),n⟩,λl v=> ?_⟩,w,q,u⟩
 ·have:=f k b;have:=(zj h1 k a).1;have:=o k a;omega
 ·have:=f k b;have:=(zj h2 k a).1;have:=n k a;omega
 ·obtain⟨A,c,e,j,d⟩:=h3 l v;exact⟨A,c,e,i.own j (λk a b=>by have:=f k b;have:=(zj j k a).1;have:=d k a;omega),d⟩
theorem Cdr.fresh {lo hi:Nat} (h:Cdr W g lo hi bs) (b:Below W W a):Cdr a g lo hi bs:=h.jZ (qE.jq (l:=[]) b) s8
theorem Cdr.dr {lo hi:Nat} (h:Cdr W g lo hi bs) (b:Dr W a):Cdr a g lo hi bs:=h.fresh (b.below _)
theorem S8 (bs:qn) (s:Nat) (h:s<bs.length): ∃z:UInt8,bs[s]? =some z/\fL bs (s:Int)=z.toNat:=by
 refine⟨bs[s],qX h, ?_⟩;unfold fL;rw [qJ uK];show(bs.getD s 0).toNat=_;rw [qd,qX h];rfl
theorem CG (W:World) (g lo hi:Nat) (bs:qn) (sym:Int) (h:Cdr W g lo hi bs):
  Calls prog 209 #[.pointer g,sym] W λe l=>e= .returned (.int .i64 (fL bs sym:Nat))/\W=l:=by
 obtain⟨⟨o,Ac,j,x,s,b,⟨h1,c⟩,_,_⟩,_,_,q⟩:=h;have c0:W.cell? g=some (.slice o bs j):=by rw [b.cell 0,IK]
 by_cases p:sym<0
 ·have a:fL bs sym=0:=qk (.inl p);rw [a];clear h1 c b;go_wp2;go_ret;exact⟨rfl,rfl⟩
 ·obtain⟨k,rfl⟩: ∃k:Nat,sym=(k:Int):=⟨sym.toNat,uK⟩;by_cases i:k<bs.length
  ·obtain⟨z,f,a⟩:=S8 _ k i;rw [a];obtain⟨u,y,rfl,-,d,r⟩:=(Reads.zY h1).byte i;obtain rfl:y=z:=by rw [f] at d;exact(zy d).symm
   have t:=y.toNat_lt;generalize y.toNat=w at*;have m:(k:Int)<(bs.length:Int):=uK;generalize bs.length=n at*;clear h1 c b f d;go_wp2;go_ret;exact⟨rfl,rfl⟩
  ·have a:fL bs (k:Int)=0:=qk (.inr uK);rw [a];generalize bs.length=n at*;clear h1 c b;go_wp2;go_ret;exact⟨rfl,rfl⟩
theorem Bx (W:World) (g lo hi:Nat) (bs:qn) (sym:Int) (h:Cdr W g lo hi bs):
  Calls prog 174 #[.pointer g,sym] W λe a=>e= .returned (.int .i64 (fL bs sym:Nat))/\W=a:=by
 have K:=qj (CG W g _ _ _ sym h);clear h;go_in;go_wp2_with fail;refine Ω K ?_;go_wp2;go_ret;exact⟨rfl,rfl⟩
structure HS (w:World) (g lo:Nat) (v0 v1:Value) (q m n:Nat->Nat) (A:Nat->q') (c:Nat->Nat) (xs:Nat->List Nat):Prop where
 blk:Blk w g 266 (VR v0 v1 q m (λl=> .slice (A l) (n l) (c l)))
 own: ∀l,l<16->w.ownsRow lo 3 1 (.slice (A l) (n l) (c l)) (n l) ((xs l).map NV)
 dis: ∀l l',l<16->l'<16->l≠l'-> ∀k∈fpS (A l),k∉fpS (A l')
theorem HS.fpg (h:HS w g lo v0 v1 q m n A c xs) (a:l<16): ∀k∈fpS (A l),k≠g:=qT (h.own l a) h.blk FV
theorem HS.jZ {l:List Nat} (h:HS w g lo v0 v1 q m n A c xs) (b:qE l w w') (e:g∉l) (d: ∀j,j<16-> ∀k∈fpS (A j),k∉l):HS w' g lo v0 v1 q m n A c xs:=⟨b.blk h.blk e,λl a=>b.own (h.own l a) (d l a),h.dis⟩
theorem HS.fresh (h:HS w g lo v0 v1 q m n A c xs) (a:Below w w w'):HS w' g lo v0 v1 q m n A c xs:=h.jZ (qE.jq (l:=[]) a) s8 s8
theorem HS.drew (h:HS w g lo v0 v1 q m n A c xs):HS w.drew g lo v0 v1 q m n A c xs:=⟨h.blk,h.own,h.dis⟩
theorem HS.m_ (h:HS w g lo v0 v1 q m n A c xs) (i:Nat) (u:Value) (a:l<16):(w.setCell ⟨g,i,none⟩ u).ownsRow lo 3 1 (.slice (A l) (n l) (c l)) (n l) ((xs l).map NV):=
 ((qE.refl [g] w).zh (p:=⟨g,i,none⟩) (qy.2 rfl) u).own (h.own l a) (λk b=>by simpa using h.fpg a k b)
theorem HS.Lk (h:HS w g lo v0 v1 q m n A c xs) (b:l<16) (v:Nat):HS (w.setCell ⟨g,2+l,none⟩ v) g lo v0 v1 (λj=>if j=l then v else q j) m n A c xs:=
 ⟨by rw [<-S4 _ _ _ _ _ b];exact h.blk.zh _ _,λj a=>h.m_ _ _ a,h.dis⟩
theorem HS.lj (h:HS w g lo v0 v1 q m n A c xs) (b:l<16) (v:Nat):HS (w.setCell ⟨g,18+l,none⟩ v) g lo v0 v1 q (λj=>if j=l then v else m j) n A c xs:=
 ⟨by rw [<-S5 _ _ _ _ _ b];exact h.blk.zh _ _,λj a=>h.m_ _ _ a,h.dis⟩
theorem HS.lQ (h:HS w g lo v0 v1 q m n A c xs) (a:l<16):w.cell? ⟨g,2+l,none⟩=some (.int .i64 (q l)):=by rw [h.blk.cell,mL _ _ _ _ _ a]
theorem HS.iV (h:HS w g lo v0 v1 q m n A c xs) (a:l<16):w.cell? ⟨g,18+l,none⟩=some (.int .i64 (m l)):=by rw [h.blk.cell,m8 _ _ _ _ _ a]
theorem HS.WH (h:HS w g lo v0 v1 q m n A c xs) (a:l<16):w.cell? ⟨g,34+l,none⟩=some (.slice (A l) (n l) (c l)):=by rw [h.blk.cell,Cg _ _ _ _ _ a]
theorem HS.push {f x:Nat} {d:q'} {o:Obj} (h:HS w g lo v0 v1 q m n A c xs) (s:l<16) (B:w'.ownsRow lo 3 1 (.slice d (n l+1) f) (n l+1) ((xs l).map NV++[NV x])) (F:(w.alloc o).grownBy w' ((A l).map (·.block))) (H:JU (w.alloc o) (A l) d):
  HS (w'.setCell ⟨g,34+l,none⟩ (.slice d (n l+1) f)) g lo v0 v1 q m (λj=>if j=l then n l+1 else n j) (λj=>if j=l then d else A j) (λj=>if j=l then f else c j) (λj=>if j=l then xs l++[x] else xs j):=by
 have D:=((qE.refl (fpS (A l)) w).alloc o).grown F λk a=> .inl a;have E:=D.blk h.blk (λa=>h.fpg s g a rfl);have G:=λj b r=>D.own (h.own j b) (h.dis j l b s r);have C:qE [g] w' (w'.setCell ⟨g,34+l,none⟩ (.slice d (n l+1) f)):=(qE.refl [g] w').zh (qy.2 rfl) _;refine⟨?_,λj b=> ?_,λj t b u v k a i=> ?_⟩
 ·have h1:=E.zh (34+l) (.slice d (n l+1) f);rw [S7 _ _ _ _ _ s] at h1;have e:(λj=>if j=l then Value.slice d (n l+1) f else Value.slice (A j) (n j) (c j))=λj=>Value.slice (if j=l then d else A j) (if j=l then n l+1 else n j) (if j=l then f else c j):=by
   funext j;by_cases h:j=l<;>simp [h]
  rw [e] at h1;exact h1
 ·by_cases r:j=l
  ·subst r;simp only [qk,qg,jy,xB];exact C.own B (λk a=>by simpa using qT B E FV k a)
  ·simp only [qJ r];exact C.own (G j b r) (λk a=>by simpa using h.fpg b k a)
 ·have z:=Y9 H;have y: ∀j,j<16-> ∀k∈fpS (A j),k<(w.alloc o).heap.size:=λj b k a=>qB (zj (h.own j b) k a).2 s8;by_cases h1:j=l
  ·simp only [qk h1,qJ (show¬t=l from λe=>v (h1.trans e.symm))] at a i;rcases z k a with h2|h2
   ·exact h.dis l t s u (λe=>v (h1.trans e)) k h2 i
   ·have:=y t u k i;omega
  ·simp only [qJ h1] at a;by_cases h2:t=l
   ·simp only [qk h2] at i;rcases z k i with h3|h3
    ·exact h.dis j l b s h1 k a h3
    ·have:=y j b k a;omega
   ·simp only [qJ h2] at i;exact h.dis j t b u v k a i
theorem pT (l:Nat) (x:UInt8): ∀(bs:qn) (i:Nat),J6 l i (bs++[x])=J6 l i bs++(if x.toNat=l then [i+bs.length] else [])
 |[],i=>by simp [J6]
 |y::t,i=>by
  show J6 l i (y::(t++[x]))=_
  unfold J6;rw [pT l x t (i+1),qf,show i+1+t.length=i+(t.length+1) by omega]
  split<;>simp
theorem nQ (l:Nat) (x:UInt8) (bs:qn) (a:x.toNat≠0):YQ (bs++[x]) l=YQ bs l++(if x.toNat=l then [bs.length] else []):=by
 unfold YQ;by_cases h:l=0
 ·subst h;rw [qk rfl,qk rfl,qJ a];rfl
 ·rw [qJ h,qJ h,pT,jL]
theorem BQ (l:Nat) (x:UInt8) (bs:qn) (a:x.toNat=0):YQ (bs++[x]) l=YQ bs l:=by
 unfold YQ;by_cases h:l=0
 ·subst h;rw [qk rfl,qk rfl]
 ·rw [qJ h,qJ h,pT,qJ uK,jx]
def VD (bs:qn) (i l:Nat):Nat:=if YQ (bs.take i) l=[] then 0 else(Xt bs).getD ((YQ (bs.take i) l).headD 0) 0
theorem tI (bs:qn) (l:Nat):VD bs bs l=Pk bs l:=by unfold VD Pk;rw [jP]
theorem Mz (a b:Value): #[a,b, .int .i64 0, .int .i64 0, .int .i64 0, .int .i64 0, .int .i64 0, .int .i64 0, .int .i64 0, .int .i64 0, .int .i64 0, .int .i64 0, .int .i64 0, .int .i64 0, .int .i64 0, .int .i64 0, .int .i64 0, .int .i64 0, .int .i64 0, .int .i64 0, .int .i64 0, .int .i64 0, .int .i64 0, .int .i64 0, .int .i64 0, .int .i64 0, .int .i64 0, .int .i64 0, .int .i64 0, .int .i64 0, .int .i64 0, .int .i64 0, .int .i64 0, .int .i64 0, .slice none 0 0, .slice none 0 0, .slice none 0 0, .slice none 0 0, .slice none 0 0, .slice none 0 0, .slice none 0 0, .slice none 0 0, .slice none 0 0, .slice none 0 0, .slice none 0 0, .slice none 0 0, .slice none 0 0, .slice none 0 0, .slice none 0 0, .slice none 0 0]=VR a b (λ_=>0) (λ_=>0) (λ_=> .slice none 0 0):=rfl
def dO (n:Nat) (P:List Nat):Nat->Nat->UInt8:=(JL n (cellAt (zP n (λi j=>vE n (P.getD i 0) j) (n*n)) n)).getD (λ_ _=>0)
end
section
variable {A:q'}{B L a b i j kk n p x:Nat}{P:List Nat}{W c wr:World}{d l:List qn}{g:List Bool}
def pZ (n p L:Nat) (d:List qn):List qn:=d++yH p n L (Vq n) d
theorem N7 (a:d.length=n):(pZ n p L d).length=n+p:=by unfold pZ;rw [qK,a,x_]
theorem N8 (b: ∀x∈d,x.length=L): ∀x∈pZ n p L d,x.length=L:=λx a=>by
 unfold pZ at a;rcases zt.1 a with h|h
 ·exact b x h
 ·exact V1 _ _ _ _ _ x h
def Xc (n:Nat) (P:List Nat) (l:List qn):List qn:=if P=List.range n then l else yH n n (l.headD []).length (dO n P) l
theorem UJ (b: ∀x∈l,x.length=L) (h:0<l.length):(l.headD []).length=L:=by
 cases l with
 |nil=>simp at h
 |cons a t=>exact b a (qo ..)
theorem bf (h:l.length=n):(Xc n P l).length=n:=by
 unfold Xc;split
 ·exact h
 ·exact x_ ..
theorem bg (a: ∀x∈l,x.length=L) (h:0<l.length): ∀x∈Xc n P l,x.length=L:=by
 unfold Xc;split
 ·exact a
 ·rw [UJ a h];exact V1 _ _ _ _ _
theorem SV (g:List Bool) (i:Nat):(Q6 g i).Pairwise (· < ·):=List.pairwise_lt_range.filter _
theorem Rn (kk:Nat) (g:List Bool) (i:Nat):(vu kk g i).Pairwise (· < ·):=(SV g i).sublist (List.take_sublist _ _)
theorem SY (kk:Nat) (g:List Bool) (i:Nat):(vu kk g i).Nodup:=(Nl g i).sublist (List.take_sublist _ _)
theorem RN {g:List Bool} (h:x∈vu kk g i):x<i:=iy (j2 h)
theorem N_ {g:List Bool} (h:x∈vu kk g i):g.getD x false=true:=Wq (j2 h)
def Zm (k m:Int) (l:List qn) (g:List Bool):Int:=
 if kD k m&&(decide ((l.length:Int)=k+m)&&decide ((g.length:Int)=k+m)) then
  if pf (xy l (Q6 g g)) then if(Q6 g g).length<k.toNat then 12 else 0 else 13
 else 13
def VG (k m:Int) (l:List qn) (g:List Bool):List qn:=
 if Zm k m l g=0 then Xc k.toNat (vu k.toNat g g) (xy l (vu k.toNat g g))++DN m (Xc k.toNat (vu k.toNat g g) (xy l (vu k.toNat g g))) else []
theorem A_ (f:kD (n:Int) (p:Int)=true) (d:l.length=n+p) (a:g.length=n+p) (c:pf (xy l (Q6 g (n+p)))=true) (b:(Q6 g (n+p)).length<n):Zm n p l g=12/\VG n p l g=[]:=by
 have e:Zm n p l g=12:=by
  unfold Zm;rw [qk (by rw [f,d,a];simp),a,qk c,qk (by rw [zc];exact b)]
 exact⟨e,by unfold VG;rw [qJ (by rw [e];decide)]⟩
theorem FY (d:kD (n:Int) (p:Int)=true) (c:l.length=n+p) (a:g.length=n+p) (b:pf (xy l (Q6 g (n+p)))=true) (f:n<=(Q6 g (n+p)).length):
  Zm n p l g=0/\VG n p l g=Xc n (vu n g (n+p)) (xy l (vu n g (n+p)))++DN p (Xc n (vu n g (n+p)) (xy l (vu n g (n+p)))):=by
 have e:Zm n p l g=0:=by
  unfold Zm;rw [qk (by rw [d,c,a];simp),a,qk b,qJ (by rw [zc];omega)]
 exact⟨e,by unfold VG;rw [qk e,zc,a]⟩
theorem Sk (b:pf (xy l (Q6 g (n+p)))=true): ∃L,∀x∈xy l (vu n g (n+p)),x.length=L:=by
 refine⟨_,λx a=>bp b x ?_⟩;unfold xy vu at a;unfold xy;rw [List.map_take] at a;exact j2 a
theorem ez {L:Nat} {l:List qn} (h: ∀x∈l,x.length=L):pf l=true:=by
 unfold pf;rw [xT];intro x b;rw [jo,h x b];cases l with
 |nil=>cases b
 |cons a t=>exact(h a (qo ..)).symm
theorem cW {L:Nat} {d:List qn} (e:kD (n:Int) (p:Int)=true) (h1:1<=n) (a:d.length=n) (c: ∀x∈d,x.length=L):Sy p d=0/\DN p d=yH p n L (Vq n) d:=by
 have b:YP p d=true:=by unfold YP;rw [a,e,ez c];rfl
 exact⟨AI b,by rw [AO b,zc,a,UJ c uK]⟩
theorem vm.AH {w:World} {n:Nat} {A:Option Addr} {c:List (List UInt8)} (h:vm w B A n c): ∃vs:List Value,vs.length=n/\Reads w B 1 A n vs/\(∀u∈vs,u.oneCell'=true)/\ ∀(i:Nat) (d:List UInt8),c[i]? =some d-> ∃(Ai:Option Addr) (b a:Nat),vs[i]? =some (.slice Ai b a)/\b<=a/\a<=maxLen/\Reads w B 1 Ai b (d.map B8):=by
 obtain⟨vs,h1,h2,h3⟩:=h;have g:vs.length=n:=by have:=h1.1;omega
 refine⟨vs,g,h1,λu f=> ?_,h3⟩;obtain⟨i,hi,rfl⟩:=Q8 f;obtain⟨Ai,b,a,e,_⟩:=h3 i _ (qX (by omega:i<c.length))
 rw [qX hi] at e;injection e with e
 rw [e];rfl
structure Cat (W:World) (B base:Nat) (A:q') (n c:Nat) (xss:List qn):Prop where
 ex: ∃vs:List Value,W.ownsRow base 30 1 (.slice A n c) n vs/\xss.length=n/\ ∀(i:Nat) (xs:qn),xss[i]? =some xs-> ∃(Ai:q') (ci:Nat),vs[i]? =some (.slice Ai xs ci)/\xs.length<=ci/\ci<=maxLen/\Reads W B 1 Ai xs (xs.map B8)
structure Aside (W8 wr:World) (g7:Nat) (A:q'):Prop where
 size:W8.heap.size<=wr.heap.size
 heap: ∀g,g<W8.heap.size->g≠g7->wr.heap[g]? =W8.heap[g]?
 row: ∀g,A.map (·.block)=some g->g=g7\/W8.heap.size<=g
theorem Aside.start (W:World) (g:Nat):Aside W W g g:=⟨qx _,λ_ _ _=>rfl,λk a=>by injection a with a;exact .inl a.symm⟩
theorem Aside.below {b:World} (h:Aside c wr a A) (e:Below wr wr b):Aside c b a A:=
 ⟨qv h.size e.size,λg d f=>(e.block g (qB d h.size)).trans (h.heap g d f),h.row⟩
theorem Aside.app {d:World} {j:q'} {C:Obj} (h:Aside c W b A) (i:(W.alloc C).grownBy d (A.map (·.block))) (l:JU (W.alloc C) A j):Aside c d b j:=by
 have h2:=h.below (z8 C);refine⟨qv h2.size i.size,λg k f=>(i.block g (qB k h2.size) (λe=> ?_)).trans (h2.heap g k f),λg a=> ?_⟩
 ·rcases h.row g e.symm with h0|h0
  ·exact f h0
  ·omega
 ·rcases l with h0|h0
  ·exact h.row g (h0▸a)
  ·rw [h0] at a;injection a with a;exact .inr (a▸h2.size)
theorem Cat.row {i:World} {base n c g:Nat} {A t:Option Addr} {f:List (List UInt8)} (h:Cat i B base A n c f) (y:B<=g) (x:g<base) (C:B<=i.heap.size) (l:Aside i wr g t) (v:j<n):
  ∃d a Ai b,A=some d/\f[j]? =some a/\wr.cell? (d.add j)=some (.slice Ai a b)/\a.length<=b/\b<=maxLen/\Reads wr B 1 Ai a (a.map B8):=by
 obtain⟨vs,h1,h2,h3⟩:=h.ex;obtain⟨d,u,k,o,m,w⟩:=(Reads.zY h1).at_ v;obtain⟨Ai,b,e,q,s,r⟩:=h3 j _ (qX (by omega:j<f.length))
 rw [m] at e;injection e with e
 subst e;refine⟨d,_,Ai,b,k,qX uK, ?_,q,s,r.keep λp z=>zw (l.heap p.block uK uK)⟩;rw [<-w];have D:=(h1.lt d.block (by rw [k];rfl)).1
 exact zw (l.heap _ (by rw [xF];exact o) (by rw [xF];omega))
theorem Wj {h k:q'} {c1 c2:Nat} {p v:List qn} (l:B<=W.heap.size) (h1:vm W B h a p) (h2:vm W B k b v) (N:a+b<=100000):
  Calls prog 262 #[.slice W 2 2] (W.alloc (.cells #[.slice h a c1, .slice k b c2] 87)) λe w'=> ∃A c,e= .returned (.slice A (a+b) c)/\Cat w' B W A (a+b) c (p++v)/\Below W W w':=by
 have D:=Blk.new W 87 #[.slice h a c1, .slice k b c2];have g:Below W W (W.alloc (.cells #[.slice h a c1, .slice k b c2] 87)):=z8 _;have z:=h1.choose_spec.2.1;have M:=h1.below (g.mono l);have L:=h2.below (g.mono l);generalize W.alloc (.cells #[.slice h a c1, .slice k b c2] 87)=n at*;obtain⟨f,y,G,o1,q1⟩:=M.AH;obtain⟨d,l2,E,o2,q2⟩:=L.AH;have I:UX n n W 2 [f,d]:=by
  refine⟨rfl,λj H=> ?_⟩
  match j,H with
  |0,_=>exact⟨_,h,a,_,f,rfl,rfl,by rw [Ve];exact D.cell 0,G.more (qv l g.size),o1⟩
  |1,_=>exact⟨_,k,b,_,d,rfl,rfl,by rw [Ve];exact D.cell 1,E.more (qv l g.size),o2⟩
 have ht:total [f,d]=a+b:=by simp [total,y,l2]
 refine(ev _ 2 2 _ n uK (by rw [ht];omega) I).mono ?_;rintro e w' ⟨A,c,rfl,o,w⟩;rw [ht] at o⊢;have J:[f,d].flatten=f++d:=s8;rw [J] at o;have C:=w.mono (qv l g.size);refine⟨A,c,rfl,⟨f++d,qi o g.size, ?_,λi x hi=> ?_⟩,zX g w⟩
 ·have K:=h2.choose_spec.2.1;rw [qK,z,K]
 ·by_cases e:i<a
  ·rw [q_ uK] at hi;obtain⟨Ai,F,q,r,t,s,m⟩:=q1 i x hi;have u:=m.len;subst u;exact⟨_,q,by rw [q_ uK];exact r,t,s,m.below C⟩
  ·rw [qm uK,z] at hi;obtain⟨Ai,F,q,r,t,s,m⟩:=q2 _ x hi;have u:=m.len;subst u;exact⟨_,q,by rw [qm uK,y];exact r,t,s,m.below C⟩
theorem qqp {n s x:Nat} (h:(List.range n)[s]? =some x):x=s:=by
 obtain⟨h1,h2⟩:=vp.1 h;rw [List.getElem_range] at h2;exact h2.symm
def LR:Prop:= ∀(a p q:Nat) (A e:q') (c f:Nat) (b:List qn) (d:List Bool) (w:World) (g:a+p=q) (h1:1<=a) (i:q<=255) (k:vm w w A q b) (h:Reads w w 1 e q (d.map Value.bool)) (j: ∀x∈b,x.length<=1000000),
  Calls prog 237 #[a,p, .slice A q c, .slice e q f] w (wI w (VG a p b d).length (VG a p b d) (Zm a p b d))
theorem Lm (a p q:Nat) (A u:Option Addr) (c I:Nat) (d:List (List UInt8)) (b:List Bool) (w:World) (o:a+p=q) (h1:1<=a) (hq:q<=255) (f:vm w w A q d) (hg:Reads w w 1 u q (b.map Value.bool)) (hL: ∀x∈d,x.length<=1000000) (hU:vu a b q=List.range a) (ha:pf (xy d (Q6 b q))=true) (hf:a<=(Q6 b q).length):
  Calls prog 237 #[a,p, .slice A q c, .slice u q I] w (wI w (VG a p d b).length (VG a p d b) (Zm a p d b)):=by
 have hm:kD (a:Int) (p:Int)=true:=by unfold kD;simp;omega
 have hl:d.length=a+p:=by obtain⟨_,_,h2,_⟩:=f;omega
 have hgl:b.length=a+p:=by have:=hg.len;omega
 have KM:Hid (∀W,Calls prog 100 #[a,p] W λe w'=>e= .returned (.bool true)/\W=w'):=λW=>by rw [<-hm];exact dv _ _ _
 have N6:Hid (Calls prog 258 #[q, .slice A q c, .slice u q I] w (FX w (Q6 b q) (xy d (Q6 b q)))):=by
  have h:=bP q A u q c I d b w uK uK f hg;rwa [Oy (qx _)] at h
 have hGl:=NL b q;have esum:(a:Int)+(p:Int)=(q:Int):=uK;have hRl:(xy d (Q6 b q)).length=(Q6 b q).length:=K8 _ _;unfold FX at N6;obtain⟨y,Z'⟩: ∃y,(Q6 b q).length=y:=⟨_,rfl⟩;have KA:Hid (∀(W:World) (E:Option Addr) (c2:Nat),zM W w w E y c2 (xy d (Q6 b q))->Calls prog 101 #[.slice E y c2] W λe w'=>e= .returned (.bool true)/\Dr W w'):=λW E c2 h=>by rw [<-ha];exact Kl E y c2 _ W h.XB uK
 have J':=FY hm hl hgl (by rw [o];exact ha) (by rw [o];omega)
 rw [o] at J';obtain⟨L,V⟩:=Sk (n:=a) (by rw [o];exact ha)
 rw [o] at V;have S':(vu a b q).length=a:=by rw [Wz];omega
 have hLm:L<=1000000:=by
  have h0:0<(vu a b q).length:=uK;have hx0:(vu a b q)[0]<d.length:=by have:=RN (zx h0);omega
  have hm0:d.getD (vu a b q)[0] []∈xy d (vu a b q):=jB.2 ⟨_,zx h0,rfl⟩;rw [<-V _ hm0];rw [qd,qX hx0];exact hL _ (zx hx0)
 have Z:Hid (∀W,Below w w W->Calls prog 258 #[a, .slice A q c, .slice u q I] W (FX W (vu a b q) (xy d (vu a b q)))):=λW B=>bP a A u q c I d b W uK uK ((f.below B).more B.size) ((hg.below B).more B.size);have hPn:=SY a b q;have hPq: ∀x∈vu a b q,x<q:=λx f=>RN f;have hPs:=Rn a b q;have hll:(xy d (vu a b q)).length=a:=by rw [K8,S']
 unfold FX at Z;rw [S'] at Z;rw [Z'] at N6;clear f hg hl hgl hL ha;generalize xy d (Q6 b q)=gss at*
 generalize Q6 b q=G at*
 generalize xy d (vu a b q)=l at*
 generalize vu a b q=P at*
 have U':(Xc a P l).length=a:=bf hll;have G': ∀x∈Xc a P l,x.length=L:=bg V uK;have iL:=cW hm h1 U' G';have hYl:(DN p (Xc a P l)).length=p:=by rw [iL.2,x_]
 have hYL: ∀x∈DN p (Xc a P l),x.length=L:=by rw [iL.2];exact V1 _ _ _ _ _
 rw [J'.1,J'.2];clear J';generalize N:Xc a P l=D at*
 generalize hY:DN p D=Y at*
 have KP:Hid (∀(W:World) (Ad:Option Addr) (M:Nat),vm W W.heap.size Ad a D->Calls prog 69 #[p, .slice Ad a M] W λe w'=> ∃A c,e= .returned (.tuple #[.slice A p c,()])/\zM w' 0 W.heap.size A p c Y/\Below W.heap.size W w'):=λW Ad M h=>by
  have:=FJ p Ad a M D W h uK (λx f=>by rw [G' x f];exact hLm)
  rw [hY,iL.1,hYl] at this;exact this
 have XL:Hid (∀x∈D++Y,x.length<=1000000):=λx f=>by
  rcases zt.1 f with h|h
  ·rw [G' x h];exact hLm
  ·rw [hYL x h];exact hLm
 have hDY:Hid ((D++Y).length=q):=by unfold Hid;rw [qK,U',hYl];exact o
 obtain⟨s,hs⟩: ∃s,a=s+1:=⟨a-1,uK⟩;have hsub:(a:Int)-1=(s:Int):=uK;obtain⟨x,H⟩: ∃x,P[s]? =some x:=⟨P[s]'uK,qX _⟩;have hxq:=hPq x (zQ H);have LAST:Hid (∀(W:World) (r:Option Addr) (K:Nat) (base:Nat),W.ownsRow base 3 1 (.slice r a K) a (P.map NV)-> ∃g3,r=some ⟨g3,0,none⟩/\W.cell? ⟨g3,s,none⟩=some (x:Value)):=λW r K base h=>by
  obtain⟨g,cap,hv,_,_⟩:=h.form uK;have hA3:r=some ⟨g,0,none⟩:=by injection hv
  subst hA3;refine⟨g,rfl, ?_⟩;rw [h.cellAt s uK,qD,H];rfl
 obtain⟨i1,N9,OX,M',p'⟩:=qA Zz;replace N9:=qj N9;replace OX:=qj OX;replace M':=qj M';replace p':=qj p';have hge:(a:Int)<=(y:Int):=uK;have hz:=(jb YE).1;have hs1:(s:Int)<(a:Int):=uK;have hs0:(0:Int)<=(s:Int):=uK;have hxs:x=s:=by rw [hU] at H;exact qqp H
 have hPr:=hU;have hDe:D=l:=by rw [<-N];unfold Xc;rw [qk hPr]
 clear hU hPr iL hYl hYL U' G' hll V hPn hPq hPs S' hY N hm hRl;subst hDe;replace H:=qj H;replace Z':=qj Z';replace hs:=qj hs;have hxe:(x:Int)=(s:Int):=uK;replace o:=qj o;subst hxs;go_enter func237,ntmps237
 go_wp2_with fail;refine(KM.out _).mono ?_;rintro e w' ⟨rfl,rfl⟩
 go_wp2_with fail;refine N6.mono ?_;rintro e w1 ⟨A1,c1,E,c2,rfl,ho1,hl1,T⟩
 have KA1:=qj (KA.out w1 E c2 hl1);replace T:=qj T;clear ho1 hl1 KA
 go_wp2_with fail;refine KA1.mono ?_;rintro e w2 ⟨rfl,N⟩
 have HB2:=qj (zX T (N.below _));clear N T KA1
 go_wp2_with fail;refine(Z.out _ HB2).mono ?_;rintro e w3 ⟨r,K,A4,M,rfl,ho3,hl3,hB3⟩
 have HBT:=qj (zX HB2 hB3);have HRT:=qj hl3.XB;obtain⟨g3,rfl,hc3⟩:=LAST.out _ _ _ _ ho3;clear ho3 hl3 hB3 HB2 Z N6
 go_wp2_with fail;refine(KP.out _ _ _ HRT).mono ?_;rintro e v ⟨A6,c6,rfl,hl6,I'⟩;have u':=qj (zX HBT I');have HR6:=qj ((HRT.below I').more I'.size);have HY6:=qj hl6.XB;clear hl6 I' HBT HRT KP
 go_wp2_with (at_make;refine QA _ rfl _ _ 87 rfl w 30 i1 (.slice none 0 0) 1 jr N9 OX M' .i64 .i64 _ q rfl rfl rfl (by rw [p'.out];omega) SJ u'.size ?_;intro w7 ho7 Y';have Q':=qj (show Below w w w7 from u'.grown Y' u'.size (λk Q=>by cases Q));have S:=(show Below v v w7 from(qZ _ v).grown Y' (qx _) (λk Q=>by cases Q));have HR7:=qj (HR6.below S);have HY7:=qj (HY6.below S);have X':=qj (show zM w7 0 w v 0 q [] from zM.AH ho7 rfl (λi t hi=>by simp at hi) (qp _) Q'.size);have N':=qj S.size;have HLT:=qj (X'.ex.choose_spec.1.lt v rfl).2;clear Y' ho7 S u' HR6 HY6)
 have KC:=qj (Wj (c1:=M) (c2:=c6) N' HR7 HY7 uK);generalize hg7e:v.heap.size=g7 at*
 replace hg7e:=qj hg7e;refine KC.mono ?_;rintro e w8 ⟨A8,c8,rfl,hr8,O⟩;have HB8:=qj (zX Q' O);have HO8:=qj (X'.below O);have HS:=qj (λ(W:World) (m:Option Addr) (B:Aside w8 W g7 m) (k:Nat) (Q:k<a+p)=>hr8.row (qx _) HLT (qv N' O.size) B Q);have HG:=qj (show g7<=w8.heap.size from qv N' O.size)
 clear hr8 O Q' HR7 HY7 KC X' HLT N';rw [o.out] at HS
 go_wp2_with fail;go_loopw [107,21] (λv107 v21 wr=> ∃(j R:Nat) (m:Option Addr),v107=(j:Value)/\v21= .slice m j R/\j<=q/\Hid (Aside w8 wr g7 m)/\Hid (Below w w wr)/\Hid (zM wr 0 w m j R ((D++Y).take j))) (λv107 _ _=>q-(intOf v107).toNat)
 case atStart=>exact⟨0,q,_,rfl,rfl,uK,Aside.start _ _,HB8,by rw [vG];exact HO8⟩
 case round=>
  clear HO8 HB8;obtain⟨j,R,m,rfl,rfl,hjn,HA,HB,HO⟩:=hrel;by_cases hlt:j<q
  ·have hlt':(j:Int)<(q:Int):=uK
   obtain⟨ad,t,Ai,ci,hA,f,hc,-,-,hr⟩:=HS.out wr m HA j hlt;subst hA;have TK:(D++Y).take (j+1)=(D++Y).take j++[t]:=by rw [qs,f];rfl
   replace TK:=qj TK;have hxl:=XL.out t (zQ f);have KCl:=qj (yV Ai t.length ci g7 t wr hr (qv HG HA.size) uK);obtain⟨F,z'⟩: ∃F,t.length=F:=⟨_,rfl⟩;rw [z'] at hc hxl KCl;replace z':=qj z';have hc1:j+1<=maxLen:=SJ;have hc2:(j+1)*24<=140737488355328:=uK;clear f hr
   go_wp2_with fail;refine KCl.mono ?_;rintro e X ⟨A9,c9,rfl,J⟩;have HA9:=qj (HA.below J.2);have HB9:=qj (zX HB J.2);have P':=qj (HO.below J.2);have HR9:=qj (j8.own (b0:=0) (qi J.1 HB.size));have hln:Hid (t.length=F):=z';clear J KCl hc HO HB HA;have hLa:=P'.below ((qZ _ X).alloc (qx _) (.cells #[.slice A9 F c9] 30));have O':=j8.below (HR9.out.2) P'.b0s P'.bs ((qZ _ X).alloc (qx _) (.cells #[.slice A9 F c9] 30));obtain⟨⟨vs,z,U,D'⟩,C,d'⟩:=hLa;replace z:=qj z;replace U:=qj U;replace D':=qj D';replace C:=qj C;replace d':=qj d';replace O':=qj O';clear P'
   go_wp2_with (at_builtin;refine qF _ rfl (.tmp 111) (.tmp 114) 87 rfl w 30 i1 (.slice none 0 0) 1 24 jr N9 OX M' p' rfl uK m j R _ rfl z (X.heap.size+1) _ 1 1 _ rfl (zU X _ _) (one_one rfl) hc1 hc2 C ?_;intro r K w4 ho4 m' _hsq;have hB4:Below w w w4:=zG (HB9.alloc HB9.size (.cells #[.slice A9 F c9] 30)) m' z C.out;have hP4:=zM.Fv hln O' z U D' d' C ho4 m';have hA4:=qj (HA9.app m' _hsq);replace hB4:=qj hB4;replace hP4:=qj hP4;clear m' _hsq ho4 z U D' C d' O')
   go_roundw
   case rel=>exact⟨j+1,K,r,by go_num,rfl,uK,hA4,hB4,by rw [TK.out];exact hP4⟩
   case measure=>simp [intOf];omega
  ·have hge:(q:Int)<=(j:Int):=uK
   obtain rfl:j=q:=uK;rw [qH (by rw [hDY.out];omega)] at HO
   clear HS
   go_wp2_with fail
   go_ret2;refine⟨m,R, ?_⟩;rw [hDY.out];exact⟨rfl,HO.out,HB.out⟩
end
end Go.Proofs.YtfnlfpcfkbdcmaaGreatDoor
