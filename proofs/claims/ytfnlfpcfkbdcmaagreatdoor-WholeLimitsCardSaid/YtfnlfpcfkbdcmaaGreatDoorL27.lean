import Derived.Test.YtfnlfpcfkbdcmaaGreatDoorL24
import Derived.Test.YtfnlfpcfkbdcmaaGreatDoorL25
import Derived.Test.YtfnlfpcfkbdcmaaGreatDoorL26
set_option linter.unusedSimpArgs false
set_option linter.unusedVariables false
set_option maxRecDepth 100000
set_option maxHeartbeats 0
open Go.Proofs.Tryz
namespace Go.Proofs.YtfnlfpcfkbdcmaaGreatDoor
open Go.RowKit
variable {A:q'}{N cap gc go:Nat}{W W':World}{b:qn}{bk kk:Int}{c c':Cu}{pl:Bool}
theorem uA (b:qn):(Ft b).2.1.length<=32768:=by
 unfold Ft;split
 ·exact qp _
 ·show(H9 b).length<=_;unfold H9;split
  ·exact qp _
  ·exact Bd (gV b).1 (Tv b)
def Bg (W:World) (k f:Nat) (h:Value) (g:Int) (j:Bool) (i n:Nat) (A:q') (N cap:Nat) (b:qn) (r:Int×List Rec×Cu) (e:Ending) (a:World):Prop:=
 ∃d c,e= .returned (.tuple #[.slice d r.2.1.length c, .int .i64 r.1])/\a.ownsRow W 45 4 (.slice d r.2.1.length c) r.2.1.length (ji r.2.1)/\OR a k f h g j i n A N cap b r.2.2/\qE [f] W a
theorem CW (W:World) (g o:Nat) (n:q') (d B:Nat) (bk:Int) (pl:Bool) (rc nb:Nat) (A:q') (N cap:Nat) (b:qn) (c:Cu) (ht:Tab W) (h:OR W g o (.slice n N d) bk pl rc nb A N cap b c) (X:Reads W B 1 n N (b.map B8)) (S:B<=W.heap.size) (hN:N<=100000000) (P':N<=d) (hcm:d<=maxLen):
  Calls prog 111 #[.pointer g] W (Bg W g o (.slice n N d) bk pl rc nb A N cap b (Vd b c)):=by
 have H:=qj h;obtain⟨R,a⟩:=j1 (Vd b c);rw [<-a];unfold Vd at a;dsimp only at a;have M:=h.cur.len;have G':=h.cur.le;have w:(b.drop c.at_).length=N-c.at_:=by rw [qI,M]
 obtain⟨i0,hi,N6,d',Q'⟩:=qA QB;have hcut:=jI _ 5 _ 1 qu hi d' n N d _ .i64 G';have j:=DK _ (d-c.at_) B _ W.drew (λi hi=>ht i hi) (by rw [w];exact(X.VC G' P').drew) S (by rw [w];omega) (by rw [w];omega) uK;rw [w] at j;replace j:=qj j;have KA:=qj (JJ _ o A N _ b c h.drew.cur);have OX:=uA (b.drop c.at_);have D:=qj (λW k (h:Cur W o A N cap b c)=>Qs W o A N _ b c k h);unfold X1 at D;unfold Bf at j;generalize Ft (b.drop c.at_)=r at*;obtain⟨E,v,O⟩:=r;dsimp only at a j OX;have q0:=h.c0;have q1:W.cell? ⟨g,1,none⟩=some (.slice n N d):=h.cell 1;have p':=qj h.blk.lt;generalize Z:c.at_=k at*;replace a:=qj a;clear h ht X hi N6 d' Q' w;go_in;go_wp2_with fail;refine zv 18 (λW=>W.cell? g=some (.pointer o)/\W.cell? ⟨g,1,none⟩=some (.slice n N d)) AL ⟨q0,q1⟩ (λC=> ?_);refine zq [0,1,2,3,4,5] (a':= ?_) ?_;refine zq [6,7] (a':= ?_) ?_;refine vf 8 KA ?_;rintro e w' ⟨rfl,rfl⟩;refine⟨_,rfl,(C),λC=> ?_⟩;refine zq [9] (a':= ?_) ?_;refine vf 10 j ?_;rintro e Y ⟨A1,c1,rfl,s⟩;refine⟨_,rfl,(⟨(s.2.cell (p:= g) p').trans q0,(s.2.cell (p:=⟨g,1,none⟩) p').trans q1⟩),λC=> ?_⟩;refine zq [11,12,13,14,15,16,17] (a':= ?_) ?_;refine zV AL ?_ _;have t:=qj (H.drew.fresh s.2);have U:=qj ((qZ W.heap.size W).drew.trans s.2);have J:=qj s.1;have M':=qj H.cur.blk.lt;have N9:=t.c0;clear s C q0 q1 hcut;by_cases G:E=0
 case neg=>
  have m:=qj (a.out.trans (qk G));have I':(E !=0)=true:=by simpa using G
  go_wp2;go_ret2;unfold Bg;rw [m.out];exact⟨_,0,rfl,qP _ _ _ _,t,qE.jq U⟩
 subst G;have f:=a.out;rw [qJ s8] at f;have z':=qj (D _ (O:Int) t.cur);generalize (jW b (O:Int) c).1=ys,(jW b (O:Int) c).2=c2 at*;have F:=qj (λW A c B h S=>UE true A v c B v W h S uK);unfold gZ at F;generalize hX true v=l at*;obtain⟨y,l⟩:=l;dsimp only at f F;replace f:=qj f;go_wp2_with fail;refine z'.mono ?_;rintro e u ⟨A2,X',rfl,D',z,-⟩;have V:=qj (t.step D' z);have Q:=qj ((qE.jq U).then z);have u':=qj (Reads.zY (z.own J (λk hk J'=>by have:=(zj J k hk).1;have e:W.drew.heap.size=W.heap.size:=rfl;rw [qy.1 J'] at this;have:=M'.out;omega)));have m':=qj (F u A1 c1 u u' (qx _));clear D' z N9;go_wp2_with fail;refine m'.mono ?_;rintro e w3 ⟨A3,c3,rfl,iL,K⟩;have T:=qj (V.fresh K);have L:=qj (Q.fresh K);have O':=qj (qi iL Q.size);clear iL K;by_cases I:y=0
 focus
  subst I;have x:=f.out;rw [qJ s8] at x;by_cases q:l=[]
  focus
   have m:=qj (x.trans (qk q));subst q;clear x
  rotate_left
  ·have m:=qj (x.trans (qJ q));have Z': ¬l.length=0:=λe=>q (xq.1 e);have U':((l.length:Int)==0)=false:=by simp;exact q
   clear x q;go_wp2;go_ret2;unfold Bg;rw [m.out];exact⟨_,_,rfl,O',T,L⟩
 rotate_left
 focus
  have m:=qj (f.out.trans (qk I));have N':(y==0)=false:=by simpa using I
  have I':(y !=0)=true:=by simpa using I
 all_goals
  go_wp2;go_ret2;unfold Bg;rw [m.out];exact⟨none,0,rfl,qP _ _ _ _,T,L⟩
theorem pO (b:qn) (d:Bool): ∀(f:Nat) (c:Cu) (a:List Rec),(gu b d f c a).2.length<=a.length+f
 |0,c,a=>qx _
 |f+1,c,a=>by
  unfold gu;split
  ·show a.length<=_;omega
  ·split
   ·exact qp _
   ·have:=pO b d f (FQ b d c).2 (a++[(FQ b d c).1])
    rw [qK,zJ] at this;omega
theorem TQ (b:qn) (c:Cu):(Vd b c).2.1.length<=32768:=by
 unfold Vd;dsimp only;split
 ·exact qp _
 ·split
  ·exact qp _
  ·split
   ·exact qp _
   ·have h1:=uA (b.drop c.at_);have h2:=pO (Ft (b.drop c.at_)).2.1 true (Ft (b.drop c.at_)).2.1.length ⟨0,0⟩ [];show(gu _ true _ _ _).2.length<=_;simp only [zF] at h2;omega
def gg (W:World) (k f:Nat) (h:Value) (g:Int) (j:Bool) (i n:Nat) (A:q') (N cap:Nat) (b:qn) (r:Int×List Rec) (e:Ending) (a:World):Prop:=
 ∃d c c2,e= .returned (.tuple #[.slice d r.2 c, .int .i64 r.1])/\a.ownsRow W 45 4 (.slice d r.2 c) r.2 (ji r.2)/\OR a k f h g j i n A N cap b c2/\qE [f] W a
theorem TZ (W:World) (D F:Nat) (Y:Option Addr) (M B:Nat) (bk:Int) (pl:Bool) (j a:Nat) (A:Option Addr) (N cap:Nat) (b:List UInt8) (c:Cu) (ht:Tab W) (hgl:0<B) (h:OR W D F (.slice Y N M) bk pl j a A N cap b c) (hr:Reads W B 1 Y N (b.map B8)) (X:B<=W.heap.size) (X':B<=F) (hN:N<=100000000) (hcs:N<=M) (hcm:M<=maxLen) (hnb:a<=20000):
  Calls prog 78 #[.pointer D] W (gg W D F (.slice Y N M) bk pl j a A N cap b (PN b j a c [])):=by
 have H:=qj h;have HT:=qj ht;have HR:=qj hr;have HG:=qj X';have HGL:=qj hgl;obtain⟨K,iL⟩: ∃R,R=PN b j a c []:=⟨_,rfl⟩;rw [<-iL];replace iL:Hid (PN b j a c []=K):=iL.symm;have hbN:Hid (b.length=N):=h.cur.len;obtain⟨i0,hi,I',N',N9⟩:=qA PH;replace hi:=qj hi;replace I':=qj I';replace N':=qj N';replace N9:=qj N9;have KX:=qj (λW c h ht hr X=>CW W D F Y M B bk pl j a A N cap b c ht h hr X hN hcs hcm);have q9:W.cell? ⟨D,9,none⟩=some (a:Value):=h.cell 9;have U':=qj h.cur.blk.lt;have hgoW:=qj h.blk.lt;have hfAW:Hid (∀k∈fpS A,k<W.heap.size):=λk d=>(zj h.cur.own k d).2;clear h ht hr X' hgl;go_enter func78,ntmps78
 go_wp2_with fail;go_loopw [4,12] (λv4 P' wr=> ∃(i f m U:Nat) (o:Cu) (q:List Rec) (G:Option Addr),v4= .slice G m U/\P'=(i:Value)/\i<=a/\m<=32768*i/\Hid (m=q.length)/\Hid (i+f=a)/\Hid (PN b j f o q=K)/\Hid (OR wr D F (.slice Y N M) bk pl j a A N cap b o)/\Hid (wr.ownsRow W.heap.size 45 4 (.slice G m U) m (ji q))/\Hid (qE [F] W wr)) (λ_ P' _=>a-(intOf P').toNat)
 case atStart=>exact⟨0,a,0,0,c,[],none,rfl,rfl,qp _,qx _,rfl,by rw [Hid];omega,iL,H,qP _ _ _ _,qE.refl _ _⟩
 case round=>
  clear H iL q9;obtain⟨i,f,m,U,o,q,G,rfl,rfl,hin,hm,O,HF,V,s,Z,w⟩:=hrel;by_cases hlt:i<a
  ·have hlt':(i:Int)<(a:Int):=uK
   obtain⟨f,rfl⟩: ∃f',f=f'+1:=⟨f-1,by have:=HF.out;omega⟩
   have O':Below B W wr:=w.below (λk d=>by rw [qy.1 d];exact HG) X
   have KB:=qj (KX.out wr o s (HT.below O' HGL) (HR.below O') (qv X w.size));have Q':=TQ b o;have g:=V.out;unfold PN at g;unfold Bg at KB;generalize Vd b o=r at*
   obtain⟨E,l,c2⟩:=r;dsimp only at g KB Q';replace g:=qj g;clear V O'
   go_wp2_with fail;refine KB.mono ?_;rintro e C ⟨A1,c1,rfl,ho1,hO1,m'⟩;have n:=qj hO1;have D':=qj (w.then m');have J:=qj (m'.own Z (λk d J'=>by have:=(zj Z k d).1;rw [qy.1 J'] at this;have:=U'.out;omega))
   have M':=qj (Reads.zY ho1);clear KB ho1 hO1 m' s w Z;by_cases hE:E=0
   case neg=>
    have z:Hid (K=(E,[])):=by rw [Hid,<-g.out,qk hE]
    have hEz:(E==0)=false:=by simpa using hE
    have hEn:(E !=0)=true:=by simpa using hE
    clear g
    go_wp2_with fail
    go_ret2;unfold gg;rw [z.out];exact⟨none,0,c2,rfl,qP _ _ _ _,n.out,D'.out⟩
   subst hE;have v:=g.out;rw [qJ s8] at v;replace v:=qj v;clear g;obtain⟨y,u'⟩: ∃y,y=l.length:=⟨_,rfl⟩;rw [<-u'] at M' Q'⊢;replace u':=qj u';have m':m+y<=maxLen:=SJ;have hm2:(m+y)*48<=140737488355328:=uK;have hszn:Hid (W.heap.size<=C.heap.size):=D'.size;have G': ∀u∈ji l,u.oneCell'=true:=λu hu=>by
    unfold ji at hu;obtain⟨x,hx,hux⟩:=List.mem_flatten.1 hu;obtain⟨t,-,rfl⟩:=jB.1 hx;exact tS t u hux
   replace G':=qj G'
   go_wp2_with (at_builtin;refine qF _ rfl (.tmp 22) (.tmp 23) 24 rfl W.heap.size 45 i0 (.agg #[.int .u64 0, .int .u8 0, .string "".toUTF8, .string "".toUTF8]) 4 48 QL hi I' N' N9 rfl uK G m U _ rfl J C A1 y c1 _ rfl M' G' m' hm2 hszn ?_;intro A4 c4 w4 z' hg4 _hs4;have T:qE (fpS G) C w4:=(qE.refl _ _).grown hg4 (λk d=> .inl d);replace z':=qj z';replace T:=qj T;clear hg4 _hs4)
   have d': ∀k∈fpS G,W.heap.size<=k:=λk d=>(zj J k d).1;have HO4:Hid (OR w4 D F (.slice Y N M) bk pl j a A N cap b c2):=⟨T.blk n.blk (λd=>by have:=d' _ d;have:=hgoW.out;omega),n.cur.jZ T (λd=>by have:=d' _ d;have:=U'.out;omega) (λk d J'=>by have:=d' _ J';have:=hfAW.out k d;omega),n.ne⟩
   have HMD4:Hid (qE [F] W w4):=D'.trans T (λk d=> .inr (d' k d));have HW4:Hid (w4.ownsRow W.heap.size 45 4 (.slice A4 (m+y) c4) (m+y) (ji (q++l))):=by rw [Hid,pR];exact z'.out
   have hM2:Hid (m+y=(q++l).length):=by rw [Hid,qK,O.out,u'.out]
   have hF2:Hid (i+1+f=a):=by have:=HF.out;rw [Hid];omega
   clear d' n D' J M' T z' G' hszn;go_roundw
   case rel=>exact⟨i+1,f,m+y,c4,c2,q++l,A4,by first|rfl|simp,by first|rfl|simp,uK,uK,hM2,hF2,v,HO4,HW4,HMD4⟩
   case measure=>simp [intOf];omega
  ·obtain rfl:i=a:=uK
   obtain rfl:f=0:=by have:=HF.out;omega
   have g:=V.out;unfold PN at g;rw [hbN.out,<-O.out] at g;have I:=qj (pb wr F A N cap b o s.cur);have q0:=s.c0;have hle:=s.cur.le;obtain⟨L,S⟩: ∃L,L=N-o.at_:=⟨_,rfl⟩;rw [<-S] at I;replace S:=qj S;by_cases Y':o.at_<N
   focus
    have z:Hid (K=(2,[])):=by rw [Hid,<-g,qk (.inl Y')]
    have OX:(0:Int)<(L:Int):=by have:=S.out;omega
    clear V g
   rotate_left
   focus
    have OX: ¬(0:Int)<(L:Int):=by have:=S.out;omega
    have hL00:L=0:=by have:=S.out;omega
    rw [hL00] at I;by_cases N6:m=j
    focus
     have v:=g
     rw [qJ (λh=>h.elim Y' λh=>h N6)] at v;have hmr1:((m:Int) !=(j:Int))=false:=SZ;have KC:=qj (λW h X=>JW G U W.heap.size q W h X (by have:=O.out;omega))
     rw [<-O.out] at KC;clear V g OX
    rotate_left
    focus
     have z:Hid (K=(2,[])):=by rw [Hid,<-g,qk (.inr N6)]
     have hmr1:((m:Int) !=(j:Int))=true:=SZ;have hmr2: ¬(m:Int)=(j:Int):=uK;clear V g OX
    rotate_left
   rotate_left 2
   all_goals
    go_wp2_with fail;refine I.mono ?_;rintro e C ⟨rfl,p⟩;have n:=qj (s.fresh (p.below _));have P:=qj (w.fresh (p.below _))
   focus clear I p s w
   rotate_left
   ·have J:=qj (qG Z (p.below _));have Z':=qj (KC.out C (Reads.zY J) (qx _));have q8:C.cell? ⟨D,8,none⟩=some (j:Value):=n.cell 8;clear I p s w KC q0 Z;subst N6
    go_wp2_with fail;refine Z'.mono ?_;rintro e w2 ⟨rfl,p'⟩;have S':=qj (n.fresh p');have HM2:=qj (P.fresh p');have HW2:=qj (qG J p');clear Z' p' n P J;by_cases Q:xu q=0
    ·have z:Hid (K=(0,q)):=by rw [Hid,<-v,qJ (by simpa using Q)]
     rw [Q];clear v Q
     go_wp2_with fail
     go_ret2;unfold gg;rw [z.out];exact⟨G,U,o,by rw [<-O.out];rfl,by rw [<-O.out];exact HW2,S'.out,HM2.out⟩
    ·have z:Hid (K=(6,[])):=by rw [Hid,<-v,qk (by simpa using Q)]
     have h6:xu q=6:=by
      revert Q
      unfold xu;split<;>simp
     rw [h6];clear v Q h6
     go_wp2_with fail
     go_ret2;unfold gg;rw [z.out];exact⟨none,0,o,rfl,qP _ _ _ _,S'.out,HM2.out⟩
   focus have q8:C.cell? ⟨D,8,none⟩=some (j:Value):=n.cell 8;clear I p s w q0 Z
   all_goals
    go_wp2_with fail
    go_ret2;unfold gg;rw [z.out];exact⟨none,0,o,rfl,qP _ _ _ _,n.out,P.out⟩
theorem vg {a:Func} {p s r q:Tmp} {b:TypeId} (h:a.results= #[.cell p b, .tmp s, .tmp r, .tmp q]) (tmps:Array Value) (w:World) (g:Nat) (c:Array Value) (v u x:Value)
  (l:tmps.getD p undef= .pointer g) (j:tmps.getD s undef=v) (d:tmps.getD r undef=u) (i:tmps.getD q undef=x) (e:(loadVar b g).run prog w= .ok (.agg c) w):
  (results a tmps).run prog w= .ok (.tuple #[.agg c,v,u,x]) w:=by
 have m:tmps[p]?.getD undef= .pointer g:=by simpa using l
 have k:tmps[s]?.getD undef=v:=by simpa using j
 have f:tmps[r]?.getD undef=u:=by simpa using d
 have n:tmps[q]?.getD undef=x:=by simpa using i
 simp [results,h,m,k,f,n,asAddr,e]
theorem jh:(prog.info? 23).map (·.size)=some 6:=AL
def opA (o:Opt):Array Value:= #[o.blk, .bool o.plain,o.bkt,o.data,o.par,o.chunk]
theorem yy (o:Opt):(opA o).all (·.oneCell')=true:=by simp [opA,Value.oneCell']
def opZ:Opt:=⟨0,false,0,0,0,0⟩
def P_ (W:World) (r:Int×Opt×List Rec×Nat) (e:Ending) (b:World):Prop:=
 ∃c a,e= .returned (.tuple #[.agg (opA r.2.1), .slice c r.2.2.1.length a,(r.2.2.2:Int), .int .i64 r.1])/\b.ownsRow W 45 4 (.slice c r.2.2.1.length a) r.2.2.1.length (ji r.2.2.1)/\Below W W b
theorem pI {W w:World} {A:q'} {m c:Nat} {g:Nat} {b:List Value} {f:Array Value} (h:w.ownsRow W 45 4 (.slice A m c) m b) (d:Blk w g 23 f) (a:Array Value):(w.setRow g a).ownsRow W 45 4 (.slice A m c) m b:=
 (Js w g a).own h (λk e=>by rw [qy];exact qT h d FV k e)
theorem Cs (b:qn):(ph b).2.2.2.1<=20000/\(ph b).2.1=⟨(ph b).2.1.blk,(ph b).2.1.plain,0,0,0,0⟩:=by
 refine⟨?_,rfl⟩;have key: ∀(m:Int) (c:Cu),0<=m->((jU b m c).1:Int)<=m:=λm c a=>by
  unfold jU;dsimp only;split
  ·exact a
  ·exact Yi _ m a
 unfold ph;dsimp only;have h2:=key ((jU b 20000 (if 1<(j_ b (jU b 32768 ⟨0,0⟩).2).1.toNat then vP (j_ b (jU b 32768 ⟨0,0⟩).2).2 2 else(j_ b (jU b 32768 ⟨0,0⟩).2).2)).1:Nat) (jU b 20000 (if 1<(j_ b (jU b 32768 ⟨0,0⟩).2).1.toNat then vP (j_ b (jU b 32768 ⟨0,0⟩).2).2 2 else(j_ b (jU b 32768 ⟨0,0⟩).2).2)).2 uK;have h1:=key 20000 (if 1<(j_ b (jU b 32768 ⟨0,0⟩).2).1.toNat then vP (j_ b (jU b 32768 ⟨0,0⟩).2).2 2 else(j_ b (jU b 32768 ⟨0,0⟩).2).2) uK;omega
theorem Gn (A:Option Addr) (n c:Nat) (b:List UInt8) (W:World) (ht:Tab W) (h:Reads W W.heap.size 1 A n (b.map B8)) (hc:n<=c) (hm:c<=maxLen) (hn:n<=100000000):
  Calls prog 44 #[.slice A n c] W (P_ W (JZ b)):=by
 obtain⟨R,a⟩: ∃R,R=JZ b:=⟨_,rfl⟩;rw [<-a];unfold JZ at a;dsimp only at a;have L:Below W.heap.size W (W.alloc (.cells #[(), .bool false,(),(),(),()] 23)):=(qZ _ _).alloc (qx _) _;have Q:=qj (Cw A n c b (W.alloc (.cells #[(), .bool false,(),(),(),()] 23)) (ht.below L ht.pos) ((h.below L).more s8) hc hm uK);have m':Hid (Blk (W.alloc (.cells #[(), .bool false,(),(),(),()] 23)) W.heap.size 23 (opA opZ)):=Blk.new _ _ _;have Y:=qj ht;have V:=qj L;have hbn:b.length=n:=h.len;have hwl:(kj b).2.length<=n:=by
  have hc:(vR b).length<=b.length:=by
   unfold vR;split
   ·exact qp _
   ·split
    ·rw [qh];omega
    ·exact qp _
  unfold kj;split
  ·exact qp _
  ·split
   ·exact qp _
   ·split
    ·exact qp _
    ·split
     ·exact qp _
     ·show((vR b).drop 5).length<=n
      rw [qI];omega
 unfold gU at Q;generalize kj b=wh at*
 obtain⟨G,rest⟩:=wh;dsimp only at a Q hwl;clear ht h L hbn;go_enter func44,ntmps44;replace a:=qj a
 go_wp2_with fail;generalize W.alloc (.cells #[(), .bool false,(),(),(),()] 23)=w0 at*
 refine Q.mono ?_;rintro e q ⟨E,c1,rfl,O',N9,D',hB⟩;have D:=qj (m'.below hB m'.lt);have I:=qj (V.trans (hB.mono V.size));have G':=qj O';have J':=qj (show rest.length<=c1/\c1<=maxLen from⟨N9,D'⟩)
 clear Q hB m' V O' N9 D';replace a:=a.out;by_cases J:G=0
 case neg=>
  have u:Hid (R=(G,opZ,[],0)):=by rw [Hid,a,qk J];rfl
  have OX:(G==0)=false:=by simpa using J
  have z':(G !=0)=true:=by simpa using J
  clear a
  go_wp2_with (first|(refine qC rfl 23 _ _ rfl W.heap.size (opA opZ) rfl rfl 23 (opA opZ) D.out jh rfl (yy _) ?_))
  refine qW (vg rfl _ _ W.heap.size (opA opZ) (.slice none 0 0) () G rfl rfl rfl rfl (qN _ W.heap.size 23 _ (opA opZ) (0,0) _ (D.row _) jK rfl jh)) rfl ?_;unfold P_;rw [u.out];exact⟨none,0,rfl,qP _ _ _ _,zu I (qx _) _⟩
 subst J;rw [qJ s8] at a;have X':=Cs rest;have O:=qj (λW d m bsl A N cap h=>Ew W d m bsl A N cap rest h);unfold BF at O;generalize ph rest=hd at*
 obtain⟨F,⟨g,j,k0,d0,q0',ch0⟩,rc,C,ch⟩:=hd;dsimp only at a O X';obtain⟨hnb,hop⟩:=X';injection hop with _ _ hk0 hd0 hq0 hch0
 subst hk0;subst hd0;subst hq0;subst hch0;have KN:=qj (Qk E rest c1 q rest q G' (qx _) uK);replace a:=qj a
 go_wp2_with fail;refine KN.mono ?_;rintro e z ⟨m,Ac,S',rfl,p',I',-,M⟩;have Z':Hid (OR (z.alloc (.cells #[.pointer m, .slice E rest c1,(), .bool false,(),(),(),(),(),()] 121)) z m (.slice E rest c1) 0 false 0 0 Ac rest S' rest ⟨0,0⟩):=⟨Blk.new _ _ _,p'.fresh ((qZ _ _).alloc (qx _) _),λe=>by have:=p'.blk.lt;omega⟩
 have u':Hid (Below q q (z.alloc (.cells #[.pointer m, .slice E rest c1,(), .bool false,(),(),(),(),(),()] 121))):=M.alloc M.size _;have x:Hid (q.heap.size<=z.heap.size/\q.heap.size<=m):=⟨M.size,I'⟩;clear KN p' I' M;have P':=qj (O.out _ _ _ _ _ _ _ Z');clear O
 go_wp2_with fail;generalize z.alloc (.cells #[.pointer m, .slice E rest c1,(), .bool false,(),(),(),(),(),()] 121)=w3 at*
 generalize z.heap.size=d at*
 refine P'.mono ?_;rintro e w4 ⟨rfl,hO4,hM4⟩;have iL:=qj hO4;have y:Hid (Below q q w4):=u'.trans (hM4.below (λk T=>by
  simp only [qL,xj,Ze] at T;rcases T with rfl|rfl
  ·exact x.out.1
  ·exact x.out.2) u'.size)
 have o:=qj (D.below y D.lt);have s:=qj (I.trans (y.mono I.size));clear P' hO4 hM4 Z' u';replace a:=a.out;by_cases U:F=0
 focus
  subst U;rw [qJ s8] at a;have P:=qj (λW d m As cs B A cap h1 h2 h3 h4 h5 h6 h7 h8=>TZ W d m As cs B g j rc C A rest cap rest ch h1 h2 h3 h4 h5 h6 uK h7 h8 hnb);unfold gg at P;generalize PN rest rc C ch []=lg at*
  obtain⟨H,l⟩:=lg;dsimp only at a P;replace a:=qj a;have Y':=qj (P.out w4 d m E c1 q Ac S' (Y.below s Y.pos) (qB Y.pos I.size) iL (G'.below y) y.size x.out.2 J'.out.1 J'.out.2);clear P
  go_wp2_with fail;refine Y'.mono ?_;rintro e f ⟨A6,c6,c2,rfl,ho6,M',d'⟩;have r:=qj M';have N':=qj (qi ho6 s.size);have N6:=d'.blk o (by rw [qy];have:=D.lt;have:=x.out.2;omega)
  have Q':=qj (s.trans (d'.below (λk T=>by rw [qy.1 T];exact qv I.size x.out.2) s.size))
  replace o:=qj N6;replace s:=Q';clear Y' ho6 M' d' N6 Q' y iL;replace a:=a.out;by_cases S:H=0
  ·subst S;have u:Hid (R=(0,⟨g,j,0,0,0,0⟩,l,C)):=by rw [Hid,a,qJ s8]
   clear a;have Z:f.cell? ⟨d,2,none⟩=some (g:Value):=r.cell 2;have z3:f.cell? ⟨d,3,none⟩=some (.bool j):=r.cell 3;have z4:f.cell? ⟨d,4,none⟩=some (.int .i64 0):=r.cell 4;have z5:f.cell? ⟨d,5,none⟩=some (.int .i64 0):=r.cell 5;have X:f.cell? ⟨d,6,none⟩=some (.int .i64 0):=r.cell 6;have z7:f.cell? ⟨d,7,none⟩=some (.int .i64 0):=r.cell 7;have z9:f.cell? ⟨d,9,none⟩=some (C:Value):=r.cell 9;have hgne:Hid (W.heap.size≠d):=by have:=D.lt;have:=x.out.1;rw [Hid];omega
   go_wp2_with fail;refine zv 13 (λW=>W.cell? ⟨d,2,none⟩=some (g:Value)/\W.cell? ⟨d,3,none⟩=some (.bool j)/\W.cell? ⟨d,4,none⟩=some (.int .i64 0)/\W.cell? ⟨d,5,none⟩=some (.int .i64 0)/\W.cell? ⟨d,6,none⟩=some (.int .i64 0)/\W.cell? ⟨d,7,none⟩=some (.int .i64 0)/\W.cell? ⟨d,9,none⟩=some (C:Value)) AL ⟨Z,z3,z4,z5,X,z7,z9⟩ (λU'=> ?_)
   refine Z6 [0,1,2] (a':= ?_) ?_;refine zq [3] (a':= ?_) ?_;refine Z6 [4,5,6,7] (a':= ?_) ?_;refine zq [8] (a':= ?_) ?_;refine carried 9 rfl AL SQ (λK hK=> ?_);refine wp_store_row 23 _ _ rfl W.heap.size (opA ⟨g,j,0,0,0,0⟩) rfl rfl 23 (opA opZ) (o.drew) jh rfl (yy _) ?_;have t: ∀(i:Nat) {v:Value},f.cell? ⟨d,i,none⟩=some v->(f.drew.setRow W.heap.size (opA ⟨g,j,0,0,0,0⟩)).cell? ⟨d,i,none⟩=some v:=λi v hv=>(Js f.drew W.heap.size _).cell (p:=⟨d,i,none⟩) (by rw [qy];exact λe=>hgne.out e.symm) hv
   refine hK _ _ ⟨t 2 Z,t 3 z3,t 4 z4,t 5 z5,t 6 X,t 7 z7,t 9 z9⟩ (λU'=> ?_);clear hK K;try simp only [Act.put,qQ,qY,qV]
   refine Z6 [10,11,12] (a':= ?_) ?_;refine zV AL ?_ _;have HLF:=qj (pI (w:=f.drew) N' o.drew (opA ⟨g,j,0,0,0,0⟩));have HBF:=qj (zu s.drew (qx _) (opA ⟨g,j,0,0,0,0⟩));have HGF:=qj (o.drew.row (opA ⟨g,j,0,0,0,0⟩));clear U' t Z z3 z4 z5 X z7 z9 r
   go_wp2_with fail;refine qW (vg rfl _ _ W.heap.size (opA ⟨g,j,0,0,0,0⟩) (.slice A6 l c6) C () rfl rfl rfl rfl (qN _ W.heap.size 23 _ (opA ⟨g,j,0,0,0,0⟩) (0,0) _ HGF jK rfl jh)) rfl ?_;unfold P_;rw [u.out];exact⟨A6,c6,rfl,HLF.out,HBF.out⟩
  focus
   have u:Hid (R=(H,opZ,[],0)):=by rw [Hid,a,qk S];rfl
   have OX:(H==0)=false:=by simpa using S
   have z':(H !=0)=true:=by simpa using S
   clear a r N'
  rotate_left
 rotate_left
 focus
  have u:Hid (R=(F,opZ,[],0)):=by rw [Hid,a,qk U];rfl
  have OX:(F==0)=false:=by simpa using U
  have z':(F !=0)=true:=by simpa using U
  clear a y iL
 rotate_left
 all_goals
  go_wp2_with (first|(refine qC rfl 23 _ _ rfl W.heap.size (opA opZ) rfl rfl 23 (opA opZ) o.out jh rfl (yy _) ?_))
 ·refine qW (vg rfl _ _ W.heap.size (opA opZ) (.slice none 0 0) () H rfl rfl rfl rfl (qN _ W.heap.size 23 _ (opA opZ) (0,0) _ (o.row _) jK rfl jh)) rfl ?_;unfold P_;rw [u.out];exact⟨none,0,rfl,qP _ _ _ _,zu s (qx _) _⟩
 ·refine qW (vg rfl _ _ W.heap.size (opA opZ) (.slice none 0 0) () F rfl rfl rfl rfl (qN _ W.heap.size 23 _ (opA opZ) (0,0) _ (o.row _) jK rfl jh)) rfl ?_;unfold P_;rw [u.out];exact⟨none,0,rfl,qP _ _ _ _,zu s (qx _) _⟩
theorem YN (o:Opt) (w:World):
  Calls prog 58 #[.agg (opA o)] w λe w'=>e= .returned (.int .i64 (J8 o))/\Below w w w':=by
 obtain⟨a,b,kk,d,g,i⟩:=o;have h:Hid (Below w w (w.alloc (.cells #[a,b,kk,d,g,i] 23))):=z8 _;have c:=λW=>qj (JX 2 a kk 0 0 0 b W ⟨uK,uK⟩);rw [VT 2 a kk 0 0 0 b] at c;have j:Hid (J8 ⟨a,b,kk,d,g,i⟩=vM 2 ⟨a,b,kk,0,0,0⟩):=rfl;rw [j.out];generalize vM 2 ⟨a,b,kk,0,0,0⟩=E at*;unfold opA;dsimp only;go_in;go_wp2_with fail;refine zC (c _).out ?_;intro l f;have k:=qj (h.trans (f.mono h.size));clear c f;go_wp2;go_ret;exact⟨rfl,k⟩
theorem VX (l:List Nat) (k M:Nat) (h: ∀x∈l,x<=M):(l.take k).sum<=M*k:=by
 induction k generalizing l with
 |zero=>simp
 |succ k b=>
  cases l with
  |nil=>simp
  |cons a t=>
   rw [List.take_succ_cons,List.sum_cons,Nat.mul_succ];have h1:=b t (λx c=>h x (qM _ c));have h2:=h a (qo ..);omega
theorem Z8 (A:q') (c B:Nat) (l:List Nat) (w:World) (h:Reads w B 1 A l (l.map NV)) (o:l.length<=100000) (f: ∀x∈l,x<=10000000):
  Calls prog 95 #[.slice A l c] w λe w'=>e= .returned l.sum/\w=w':=by
 have H:=qj h;have j:=qj f;clear h f;go_wp2;go_loopw [3,8] (λg d wr=> ∃k s:Nat,g=(s:Value)/\d=(k:Value)/\k<=l.length/\Hid (s=(l.take k).sum)/\s<=10000000*k/\wr=w) (λ_ d _=>l.length-(intOf d).toNat)
 ·exact⟨0,0,rfl,rfl,qp _,V3,qx _,rfl⟩
 ·obtain⟨k,s,rfl,rfl,p,HS,q,rfl⟩:=hrel;by_cases a:k<l.length
  ·have v:(k:Int)<(l.length:Int):=uK;obtain⟨t,u,rfl,-,b,n⟩:=H.at_ a;rw [qD,qX a] at b;have r:=j _ (zx a);have i:Hid (s+l[k]=(l.take (k+1)).sum):=by
    rw [Hid,qs,qX a,QE,<-HS.out];simp
   generalize l[k]=x at*;have m:u=(x:Value):=(zy b).symm;subst m;clear b HS;go_wp2_with fail;refine xk ?_;exact⟨k+1,s+x,xh,xb,uK,i,uK,y'⟩
  ·obtain rfl:k=l.length:=uK;rw [jP] at HS;go_wp2;go_ret;exact⟨by rw [<-HS.out];rfl,rfl⟩
theorem CO (A:q') (c B v:Nat) (l:List Nat) (w:World) (h:Reads w B 1 A l (l.map NV)) (C:l.length<=1000000000):
  Calls prog 228 #[.slice A l c,v] w λe w'=>(∃i:Int,e= .returned i/\decide (0<=i)=l.contains v)/\w=w':=by
 have H:=qj h;clear h;go_in;go_wp2_with fail;go_loopw [8] (λf wr=> ∃k:Nat,f=(k:Value)/\k<=l.length/\Hid ((l.take k).contains v=false)/\wr=w) (λf _=>l.length-(intOf f).toNat)
 ·exact⟨0,rfl,qp _,rfl,rfl⟩
 ·obtain⟨k,rfl,D,b,rfl⟩:=hrel;by_cases a:k<l.length
  ·have z:(k:Int)<(l.length:Int):=uK;have s:=xi k;obtain⟨t,u,rfl,-,d,r⟩:=H.at_ a;rw [qD,qX a] at d;have n:l.take (k+1)=l.take k++[l[k]]:=by rw [qs,qX a];rfl
   have m:Hid (l[k]=v->l.contains v=true):=λh=>by rw [List.contains_iff_mem,<-h];exact zx a
   have j:Hid (l[k]≠v->(l.take (k+1)).contains v=false):=λh=>by
    rw [n];have h1:=b.out;simp only [List.contains_eq_mem,zW,zt,qy,not_or] at h1⊢;exact⟨h1,λe=>h e.symm⟩
   generalize l[k]=x at*;have p:u=(x:Value):=(zy d).symm;subst p;clear d n b;by_cases g:x=v
   ·have q:=qj (m g);subst g;clear m j;go_wp2_with fail;go_ret;exact⟨⟨(k:Int),rfl,by rw [q.out];exact qw uK⟩,rfl⟩
   ·have y:((v:Int)==(x:Int))=false:=SZ;have o:=qj (j g);clear m j;go_wp2_with fail;refine xk ?_;exact⟨k+1,xb,uK,o,y'⟩
  ·obtain rfl:k=l.length:=uK;rw [jP] at b;go_wp2_with fail;go_ret;exact⟨⟨-1,rfl,by rw [b.out];rfl⟩,rfl⟩
theorem py (A:q') (c B v:Nat) (l:List Nat) (w:World) (h:Reads w B 1 A l (l.map NV)) (d:l.length<=1000000000):
  Calls prog 195 #[.slice A l c,v] w λe w'=>e= .returned (.bool (l.contains v))/\w=w':=by
 have a:=qj (CO A c B v l w h d);generalize l.contains v=b,l.length=n at*;clear h d;go_in;go_wp2_with fail;refine a.mono ?_;rintro e g ⟨⟨i,rfl,hi⟩,rfl⟩;have f:=qj hi;clear hi;go_wp2;go_ret;exact⟨by rw [<-f.out];rfl,rfl⟩
def r2A (a:Nat) (b:Int) (c:Bool) (kk:Int):Array Value:= #[.pointer a,b,c,kk,(),(),()]
theorem aD (a:Nat) (b:Int) (c:Bool) (kk:Int) (e:Int) (d:Bool) (f:Int):
  (r2A a b c kk).setIfInBounds 1 e=r2A a e c kk/\(r2A a b c kk).setIfInBounds 2 d=r2A a b d kk/\
  (r2A a b c kk).setIfInBounds 3 f=r2A a b c f:=by simp [r2A]
structure R2 (W:World) (go gc:Nat) (bk:Int) (pl:Bool) (kk:Int) (A:q') (N cap:Nat) (b:qn) (c:Cu):Prop where
 blk:Blk W go 166 (r2A gc bk pl kk)
 cur:Cur W gc A N cap b c
 ne:go≠gc
theorem R2.step (h:R2 W go gc bk pl kk A N cap b c) (a:Cur W' gc A N cap b c') (d:qE [gc] W W'):R2 W' go gc bk pl kk A N cap b c':=
 ⟨d.blk h.blk (by simpa using h.ne),a,h.ne⟩
theorem R2.fresh (h:R2 W go gc bk pl kk A N cap b c) (a:Below W W W'):R2 W' go gc bk pl kk A N cap b c:=h.step (h.cur.fresh a) (qE.jq a)
theorem R2.drew (h:R2 W go gc bk pl kk A N cap b c):R2 W.drew go gc bk pl kk A N cap b c:=h.fresh ((Dr.refl W|>.drewN 1).below _)
theorem R2.fp (h:R2 W go gc bk pl kk A N cap b c): ∀k∈fpS A,k≠go:=qT h.cur.own h.blk FV
theorem R2.Xm (h:R2 W go gc bk pl kk A N cap b c) (i:Nat) (u:Value):Cur (W.setCell ⟨go,i,none⟩ u) gc A N cap b c:=
 h.cur.jZ ((qE.refl [go] W).zh (qy.2 rfl) u) (by simpa using λe=>h.ne e.symm) (λk a=>by simpa using h.fp k a)
theorem R2.Ik (h:R2 W go gc bk pl kk A N cap b c) (v:Int):R2 (W.setCell ⟨go,1,none⟩ v) go gc v pl kk A N cap b c:=⟨by have:=h.blk.zh 1 v;rwa [(aD gc bk pl kk v pl kk).1] at this,h.Xm 1 _,h.ne⟩
theorem R2.GS (h:R2 W go gc bk pl kk A N cap b c) (v:Bool):R2 (W.setCell ⟨go,2,none⟩ v) go gc bk v kk A N cap b c:=⟨by have:=h.blk.zh 2 v;rwa [(aD gc bk pl kk bk v kk).2.1] at this,h.Xm 2 _,h.ne⟩
theorem R2.gJ (h:R2 W go gc bk pl kk A N cap b c) (v:Int):R2 (W.setCell ⟨go,3,none⟩ v) go gc bk pl v A N cap b c:=⟨by have:=h.blk.zh 3 v;rwa [(aD gc bk pl kk bk pl v).2.2] at this,h.Xm 3 _,h.ne⟩
theorem R2.cell (h:R2 W go gc bk pl kk A N cap b c) (i:Nat):W.cell? ⟨go,i,none⟩=(r2A gc bk pl kk)[i]? :=h.blk.cell i
theorem R2.c0 (h:R2 W go gc bk pl kk A N cap b c):W.cell? go=some (.pointer gc):=h.cell 0
theorem R2.frz (h:R2 W go gc bk pl kk A N cap b c) (i:Nat):W.frozen? ⟨go,i,none⟩=false:=h.blk.frozen i
def Db (W:World) (c a:Nat) (r:Int×Opt×Nat) (e:Ending) (b:World):Prop:=
 e= .returned (.tuple #[.int .i64 (r.2.2:Nat), .int .i64 r.1])/\Blk b c 166 (r2A a r.2.1.blk r.2.1.plain r.2.1.bkt)/\qE [c,a] W b
theorem rG (W:World) (a c B:Nat) (A A0:Option Addr) (N cap c0:Nat) (b:List UInt8) (ht:Tab W) (h:R2 W a c 0 false 0 A N cap b ⟨0,0⟩) (hgo:B<=a) (hgc:B<=c) (h0:Reads W B 1 A0 N (b.map B8)) (hT:0<B) (hc0:N<=c0) (hm0:c0<=maxLen) (hN:N<=1000000000):
  Calls prog 113 #[.pointer a, .slice A0 N c0] W (Db W a c (Y7 b)):=by
 have P':Hid (B<=W.heap.size):=qv hgo (zr h.blk.lt);have HML:Hid (∀W',qE [a,c] W W'->Below B W W'):=λW' hm=>hm.below (λk hk=>by simp at hk;rcases hk with rfl|rfl<;>assumption) P'.out
 have H:=qj h;have H0:=qj h0;have HT:=qj ht;replace hT:=qj hT;obtain⟨i0,hi,hz0,hz1,hz2⟩:=qA QB;have hcut:=qj (λk (hk:k<=c0)=>Qm (P:=prog) 30 5 i0 1 qu hi hz1 A0 N c0 k .i64 hk);have K0:=qj (Qs W c A N cap b ⟨0,0⟩ 5 h.cur);obtain⟨R,i⟩: ∃R,R=Y7 b:=⟨_,rfl⟩;rw [<-i];unfold Y7 at i;dsimp only at i;unfold X1 at K0;generalize (jW b 5 ⟨0,0⟩).1=tk at*
 generalize (jW b 5 ⟨0,0⟩).2=tc at*
 have K1:=qj (λW (h:Cur W c A N cap b tc)=>yK W c A N cap b tc 32768 h uK);generalize jU b 32768 tc=k at*
 obtain⟨g,kc⟩:=k;have K2:=qj (λW (h:Cur W c A N cap b kc)=>QS W c A N cap b kc h);dsimp only at i K1;generalize j_ b kc=p at*
 obtain⟨v,pc⟩:=p;dsimp only at i K2;obtain⟨c3,T⟩: ∃c3,c3=if 1<v.toNat then vP pc 2 else pc:=⟨_,rfl⟩
 rw [<-T] at i;have K3:=qj (λW (h:Cur W c A N cap b c3)=>yK W c A N cap b c3 64 h uK);generalize jU b 64 c3=r at*
 obtain⟨d,N9⟩:=r;dsimp only at i K3;have K4:=qj (λW (h:Cur W c A N cap b N9)=>Qs W c A N cap b N9 4 h);unfold X1 at K4;generalize (jW b 4 N9).1=tk2 at*
 generalize (jW b 4 N9).2=f at*
 have hb8:B8 v= .int .u8 (v.toNat:Int):=rfl;rw [hb8] at K2;have hp1:decide (v=1)=decide (v.toNat=1):=by
  by_cases h:v=1
  ·subst h;rfl
  ·have:v.toNat≠1:=λe=>h (jG.1 e)
   rw [qc h,qc this]
 rw [hp1] at i;have hy:=v.toNat_lt;generalize v.toNat=y at*
 replace i:=qj i;replace T:=qj T;unfold jS at K1 K2 K3;have q0:=h.c0;clear h hb8 hp1 h0 ht hi hz0 hz1 hz2;go_enter func113,ntmps113
 go_wp2_with fail;refine K0.mono ?_;rintro e w0 ⟨At,ct,rfl,N',S',-⟩;have O':=qj (H.step N' S');have HM0:=qj (S'.mono (l':=[a,c]) λk hk=>by rw [qy.1 hk];simp)
 have KI:=qj (K1.out w0 N');have q0':=O'.c0;clear K0 K1 N' S' H q0
 go_wp2_with fail;refine KI.mono ?_;rintro e w1 ⟨rfl,hc1,Z'⟩;have M':=O'.step hc1 Z';have f1:=M'.frz 1;have g1:w1.cell? ⟨a,1,none⟩=some (.int .i64 0):=M'.cell 1;have J':=qj (M'.Ik (g:Int));have HM2:Hid (qE [a,c] W (w1.setCell ⟨a,1,none⟩ g)):=Qf (yv HM0 Z') 1 g;have K2a:=qj (K2.out _ J'.cur);have q2:=J'.c0;clear KI K2 hc1 Z' M' O' HM0 q0'
 go_wp2_with fail;refine K2a.mono ?_;rintro e w3 ⟨rfl,hc3',Y'⟩;have u:=qj (J'.step hc3' Y');have N6:=qj (yv HM2 Y');have q3:=u.c0;clear K2a hc3' Y' J' HM2 q2 f1 g1;by_cases hy1:1<y
 focus
  have hy1':(1:Int)<(y:Int):=uK
  have K5:=qj (yB w3 c A N cap b pc 2 u.cur);have Q:=T.out;rw [qk hy1] at Q;rw [<-Q] at K5;unfold jS at K5
  go_wp2_with fail;refine K5.mono ?_;rintro e w4 ⟨rfl,hc4,OX⟩;have u':=qj (u.step hc4 OX);have HM4:=qj (yv N6 OX);have hd:((y:Int)==1)=decide (y=1):=by
   rw [qc uK];simp;omega
  clear K5 hc4 OX u N6 q3 Q T;generalize L:decide (y=1)=pl at*
  replace L:=qj L;have fa:=u'.frz 2;have ga:w4.cell? ⟨a,2,none⟩=some (.bool false):=u'.cell 2;have D:=qj (u'.out.GS pl);have z':=qj (Qf HM4 2 (.bool pl));have KA:=qj (K3.out _ D.cur);have qa:=D.c0;have X':=u'.c0;clear K3 u' HM4
 rotate_left
 focus
  have hy1': ¬(1:Int)<(y:Int):=uK
  have Q:=T.out;rw [qJ hy1] at Q;rw [<-Q] at u;have hd:((y:Int)==1)=decide (y=1):=by
   by_cases h:y=1
   ·subst h;rfl
   ·rw [qc h];simp;omega
  clear Q T q3;generalize L:decide (y=1)=pl at*
  replace L:=qj L;have fa:=u.frz 2;have ga:w3.cell? ⟨a,2,none⟩=some (.bool false):=u.cell 2;have D:=qj (u.out.GS pl);have z':=qj (Qf N6 2 (.bool pl));have KA:=qj (K3.out _ D.cur);have qa:=D.c0;have X':=u.c0;clear K3 u N6
 all_goals
  go_wp2_with fail;refine KA.mono ?_;rintro e wb ⟨rfl,m',M⟩;have x:=D.step m' M;have fb:=x.frz 3;have gb:wb.cell? ⟨a,3,none⟩=some (.int .i64 0):=x.cell 3;have w:=qj (x.gJ (d:Int));have G':=qj (Qf (yv z' M) 3 d);have KB:=qj (K4.out _ w.cur);have qb:=w.c0;clear K4 KA m' M x D z' qa X' fa ga
  go_wp2_with fail;generalize wb.setCell ⟨a,3,none⟩ d=wc at*
  clear fb gb;refine KB.mono ?_;rintro e G ⟨Au,cu,rfl,O,S,-⟩;have o:=qj (w.step O S);have z:=qj (yv G' S);have F:=qj (jg G c A N cap b f O);have qe:=o.c0;clear KB O S w G' qb
  go_wp2_with fail;by_cases n:f.err=0
  case neg=>
   have t:Hid (R=(f.err,⟨(g:Int),pl,(d:Int),0,0,0⟩,0)):=by rw [Hid,i.out,qk (by simpa using n),<-L.out]
   have hzn:(f.err==0)=false:=by simpa using n
   have hzn':(f.err !=0)=true:=by simpa using n
   generalize m:f.err=E at*
   replace m:=qj m;clear i;refine F.mono ?_;rintro e w' ⟨rfl,rfl⟩
   go_wp2_with fail
   go_ret2;unfold Db;rw [t.out];exact⟨rfl,o.blk,z.out⟩
  have l:=i.out;rw [qJ (by simpa using n)] at l
  rw [n] at F;have hle:f.at_<=N:=o.cur.le;have I:=qj (λW (h:Cur W c A N cap b f)=>JJ W c A N cap b f h);have K:=HML.out G z.out;have s:=Vr A0 f.at_ c0 (b.take f.at_) G (HT.below K hT) (((H0.below K).more (qv P' K.size)).takeN hle) uK hm0 uK;generalize f.at_=k at*
  generalize QH (b.take k)=E at*
  generalize vR (b.take k)=V at*
  have U':=hcut.out k uK;have hk0:(0:Int)<=(k:Int):=uK;have hkc:(k:Int)<=(c0:Int):=uK;have hkN:(k:Int)<=(N:Int):=uK;unfold Qr at s;replace s:=qj s;have iL:=qj (I.out G o.cur);replace l:=qj l;clear i hcut K n;refine F.mono ?_;rintro e w' ⟨rfl,rfl⟩;clear F
  go_wp2_with fail;refine iL.mono ?_;rintro e w' ⟨rfl,rfl⟩;clear iL
  go_wp2_with fail;refine s.mono ?_;rintro e j ⟨Av,cv,rfl,U⟩;have q:=qj (o.fresh U.2);have d':=qj (z.fresh U.2);clear s U o z qe U';by_cases m:E=0
  case neg=>
   have t:Hid (R=(E,⟨(g:Int),pl,(d:Int),0,0,0⟩,0)):=by rw [Hid,l.out,qk m]
   have hEz:(E==0)=false:=by simpa using m
   have hEn:(E !=0)=true:=by simpa using m
   clear l I
   go_wp2_with fail
   go_ret2;unfold Db;rw [t.out];exact⟨rfl,q.blk,d'.out⟩
  subst m;have t:Hid (R=(vM 2 ⟨(g:Int),pl,(d:Int),0,0,0⟩,⟨(g:Int),pl,(d:Int),0,0,0⟩,k)):=by rw [Hid,l.out,qJ s8]
  have Y:=qj (λW=>JX 2 (g:Int) (d:Int) 0 0 0 pl W ⟨uK,uK⟩);rw [VT 2 (g:Int) (d:Int) 0 0 0 pl] at Y;generalize vM 2 ⟨(g:Int),pl,(d:Int),0,0,0⟩=CE at*
  have HS:Hid (∀w',Below j.heap.size j w'->w'.cell? a=some (.pointer c)/\w'.cell? ⟨a,1,none⟩=some (g:Value)/\w'.cell? ⟨a,2,none⟩=some (.bool pl)/\w'.cell? ⟨a,3,none⟩=some (d:Value)/\w'.cell? ⟨a,4,none⟩=some (.int .i64 0)/\w'.cell? ⟨a,5,none⟩=some (.int .i64 0)/\w'.cell? ⟨a,6,none⟩=some (.int .i64 0)):=λw' X=>by
   have Z:=q.fresh X;exact⟨Z.cell 0,Z.cell 1,Z.cell 2,Z.cell 3,Z.cell 4,Z.cell 5,Z.cell 6⟩
  have D':=qj (λw' (X:Below j.heap.size j w')=>I.out w' (q.fresh X).cur);have p':=qj (Y.out j.drew);have I':=qj (D'.out j.drew (qZ _ j).drew);clear l I
  go_wp2_with fail;refine zv 12 (λW=>W.cell? a=some (.pointer c)/\W.cell? ⟨a,1,none⟩=some (g:Value)/\W.cell? ⟨a,2,none⟩=some (.bool pl)/\W.cell? ⟨a,3,none⟩=some (d:Value)/\W.cell? ⟨a,4,none⟩=some (.int .i64 0)/\W.cell? ⟨a,5,none⟩=some (.int .i64 0)/\W.cell? ⟨a,6,none⟩=some (.int .i64 0)) AL (HS.out _ (qZ _ _).drew) (λC=> ?_)
  refine zq [0,1,2,3,5,6] (a':= ?_) ?_;refine zq [7,8] (a':= ?_) ?_;refine vf 4 I' ?_;rintro e w' ⟨rfl,rfl⟩;refine⟨_,rfl,(C),λC=> ?_⟩;refine vf 9 p' ?_;rintro e w8 ⟨rfl,J⟩;refine⟨_,rfl,((HS.out _ ((qZ _ j).drew.trans J))),λC=> ?_⟩;refine zq [10,11] (a':= ?_) ?_;refine zV AL ?_ _;have HG:=qj (q.drew.fresh J);have Q':=qj (d'.drew.fresh J);clear D' I' Y p' HS J q d' C
  go_wp2_with fail
  go_ret2;unfold Db;rw [t.out];exact⟨rfl,HG.blk,Q'.out⟩
theorem Tg (c s:List Nat) (i:Nat) (b:i<c.length) (a:i<s.length):VU (c.drop i) (s.drop i)=xv c[i]++xv s[i]++VU (c.drop (i+1)) (s.drop (i+1)):=by
 rw [zK b,zK a];rfl
theorem C3 (W:World) (g B n l o cc cs:Nat) (Ac As:Option Addr) (c s:List Nat) (k0:W.cell? g=some (.slice Ac n cc)) (k1:W.cell? ⟨g,1,none⟩=some (.slice As n cs)) (k2:W.cell? ⟨g,2,none⟩=some (l:Value)) (k3:W.cell? ⟨g,3,none⟩=some (o:Value))
  (hg:g<W.heap.size) (hc:Reads W B 1 Ac n (c.map NV)) (hs:Reads W B 1 As n (s.map NV)) (hB:B<=W.heap.size) (hn:n<=20000) (d': ∀x∈c,x<=10000000) (u': ∀x∈s,x<=10000000) (hcl:l<=100000000) (hix:o<=100000000):
  Calls prog 62 #[.pointer g] W (jQ 5 W (Cz ⟨c,s,l,o⟩).length ((Cz ⟨c,s,l,o⟩).map B8)):=by
 have N:c.length=n:=hc.len;have N9:s.length=n:=hs.len;have O':=VX c c 10000000 d';rw [jP] at O';obtain⟨R,hR⟩: ∃R,R=Cz ⟨c,s,l,o⟩:=⟨_,rfl⟩;rw [<-hR];have I':Hid (xv c.sum++xv c.length++VU c s++xv l++xv o=R):=by rw [Hid,hR];rfl
 have HS:Hid (∀b,Below W.heap.size W b->b.cell? g=some (.slice Ac n cc)/\b.cell? ⟨g,1,none⟩=some (.slice As n cs)/\b.cell? ⟨g,2,none⟩=some (l:Value)/\b.cell? ⟨g,3,none⟩=some (o:Value)):=λb h=>
  ⟨(h.cell (p:= g) hg).trans k0,(h.cell (p:=⟨g,1,none⟩) hg).trans k1,(h.cell (p:=⟨g,2,none⟩) hg).trans k2,(h.cell (p:=⟨g,3,none⟩) hg).trans k3⟩
 have KS:=qj (Z8 Ac cc B c W.drew (by rw [N];exact hc.drew) uK d')
 rw [N] at KS;have N':=λW=>qj (vW c.sum W uK);have z':=λW=>qj (vW n W uK);have D':=λW=>qj (vW l W uK);have G':=λW=>qj (vW o W uK);have P':=qj (λx W (h:x<=10000000)=>vW x W uK);have l1:=(jn c.sum).2;have l2:=(jn n).2;have l3:=(jn l).2;have l4:=(jn o).2;rw [N] at I';have w1_:IntKind.u64.wrap (c.sum:Int)=(c.sum:Int):=by rw [qS];omega
 have Z':IntKind.u64.wrap (n:Int)=(n:Int):=by rw [qS];omega
 have w3_:IntKind.u64.wrap (l:Int)=(l:Int):=by rw [qS];omega
 have w4_:IntKind.u64.wrap (o:Int)=(o:Int):=by rw [qS];omega
 unfold jQ at N' z' D' G';generalize xv c.sum=x1 at*
 generalize xv n=Z at*
 generalize xv l=Q at*
 generalize xv o=O at*
 generalize c.sum=sm at*
 have HC:=qj hc;have HZ:=qj hs;replace N:=qj N;replace N9:=qj N9;replace d':=qj d';replace u':=qj u';clear hR O' hc hs k0 k1 k2 k3;go_enter func62,ntmps62
 go_wp2_with fail;refine zv 17 (λb=>b.cell? g=some (.slice Ac n cc)/\b.cell? ⟨g,1,none⟩=some (.slice As n cs)/\b.cell? ⟨g,2,none⟩=some (l:Value)/\b.cell? ⟨g,3,none⟩=some (o:Value)) AL (HS.out _ (qZ _ _).drew) (λd=> ?_)
 refine zq [0,1,2,3,7,8] (a':= ?_) ?_;refine zq [9,10,11,12] (a':= ?_) ?_;refine vf 4 KS ?_;rintro e w' ⟨rfl,rfl⟩;refine⟨_,rfl,(d),λd=> ?_⟩;refine zq [5] (a':= ?_) ?_;refine carried 6 rfl AL SQ (λK a=> ?_);go_simp
 (go_at_call 31;((with_reducible refine((N' _).out).mono ?_);rintro e X ⟨E,I,rfl,w⟩);have q:Below W.heap.size W X:=(qZ _ W).drew.trans w.2)
 refine a _ _ ((HS.out _ q)) (λd=> ?_);clear a K;try simp only [Act.put,qQ,qY,qV]
 refine carried 13 rfl AL SQ (λK a=> ?_);go_simp
 (go_at_call 31;((with_reducible refine((z' _).out).mono ?_);rintro e J ⟨H,F,rfl,f⟩);have k:=q.trans (f.2.mono q.size))
 refine a _ _ ((HS.out _ k)) (λd=> ?_);clear a K;try simp only [Act.put,qQ,qY,qV]
 have t:=qj (Yz J E H x1 Z I F x1 Z ((w.reads.below f.2).more f.2.size) f.reads uK);have j:Below W.heap.size W (J.alloc (.cells #[.slice E x1 I, .slice H Z F] 30)):=k.alloc k.size _;unfold jQ at t;have S':(x1++Z).length<=100:=by rw [qK];omega
 generalize x1++Z=V at*
 refine carried 14 rfl AL SQ (λK a=> ?_);go_simp;skip
 refine a _ _ ((HS.out _ j)) (λd=> ?_);clear a K;try simp only [Act.put,qQ,qY,qV]
 refine carried 15 rfl AL SQ (λK a=> ?_);go_simp
 (go_at_call 30;((with_reducible refine(t.out).mono ?_);rintro e wD ⟨U,P,rfl,v⟩);have A:=j.trans (v.2.mono j.size))
 refine a _ _ ((HS.out _ A)) (λd=> ?_);clear a K;try simp only [Act.put,qQ,qY,qV]
 refine zq [16] (a':= ?_) ?_;refine zV AL ?_ _;have m':=qj (qi v.1 j.size);have Y:=qj A;clear t KS N' z' w f v q k j A d w1_ Z' l1 l2;generalize L:V.length=m0 at*
 replace L:=qj L;obtain⟨q0,-,-,-⟩:=HS.out _ Y.out
 go_wp2_with fail;go_loopw [3,27] (λv3 OX wr=> ∃(i m c2:Nat) (M:Option Addr) (C:List UInt8),v3= .slice M m c2/\OX=(i:Value)/\i<=n/\m<=100+20*i/\Hid (C.length=m)/\Hid (C++VU (c.drop i) (s.drop i)++Q++O=R)/\Hid (wr.ownsRow W.heap.size 5 1 (.slice M m c2) m (C.map B8))/\Hid (Below W.heap.size W wr)) (λ_ OX _=>n-(intOf OX).toNat)
 case atStart=>exact⟨0,m0,P,U,V,rfl,rfl,qp _,uK,L,I',m',Y⟩
 case round=>
  clear m' Y L I' q0;obtain⟨i,m,c2,M,C,rfl,rfl,hin,hm,HL,HR,HO,z⟩:=hrel;by_cases p':i<n
  focus
   have hlt':(i:Int)<(n:Int):=uK
   have hi0:(0:Int)<=(i:Int):=uK;have N6:i<c.length:=by rw [N.out];exact p'
   have M':i<s.length:=by rw [N9.out];exact p'
   have G:=HR.out;rw [Tg c s i N6 M'] at G;have hxm:=d'.out _ (zx N6);have U':=u'.out _ (zx M');obtain⟨ad,u,Y',-,hu,hcell⟩:=(HC.below (z.mono hB)).at_ p';obtain⟨iL,u2,hA2,-,J',Q'⟩:=(HZ.below (z.mono hB)).at_ p';rw [qD,qX N6] at hu;rw [qD,qX M'] at J';generalize c[i]=x at*
   generalize s[i]=y at*
   have e1:u=(x:Value):=(zy hu).symm;have e2:u2=(y:Value):=(zy J').symm;subst e1;subst e2;subst Y';subst hA2;have D:Hid (W.heap.size<=wr.heap.size):=z.size;have KX:=λW=>qj (P'.out x W hxm);have KY:=λW=>qj (P'.out y W U');have lx:=(jn x).2;have ly:=(jn y).2;have wx:IntKind.u64.wrap (x:Int)=(x:Int):=by rw [qS];omega
   have wy:IntKind.u64.wrap (y:Int)=(y:Int):=by rw [qS];omega
   unfold jQ at KX KY;generalize xv x=S at*
   generalize xv y=T at*
   have r:Hid (∀b,Below wr.heap.size wr b->b.cell? ⟨g,1,none⟩=some (.slice (some iL) n cs)/\b.cell? (iL.add i)=some (y:Value)):=λb h=>⟨(HS.out b (z.trans (h.mono D))).2.1,(h.cell (p:=iL.add i) (yM Q')).trans Q'⟩;replace G:=qj G;clear hu J' HR
   go_wp2_with fail;refine zv 16 (λb=>b.cell? ⟨g,1,none⟩=some (.slice (some iL) n cs)/\b.cell? (iL.add i)=some (y:Value)) AL (r.out _ (qZ _ _).drew) (λd=> ?_)
   refine zq [0,1,2,4,5,6] (a':= ?_) ?_;refine zq [7,8,9,10,11] (a':= ?_) ?_;refine carried 3 rfl AL SQ (λK a=> ?_);go_simp
   (go_at_call 31;((with_reducible refine((KX _).out).mono ?_);rintro e X ⟨E,I,rfl,w⟩);have q:Below wr.heap.size wr X:=(qZ _ wr).drew.trans w.2)
   refine a _ _ ((r.out _ q)) (λd=> ?_);clear a K;try simp only [Act.put,qQ,qY,qV]
   refine carried 12 rfl AL SQ (λK a=> ?_);go_simp
   (go_at_call 31;((with_reducible refine((KY _).out).mono ?_);rintro e J ⟨H,F,rfl,f⟩);have k:=q.trans (f.2.mono q.size))
   refine a _ _ ((r.out _ k)) (λd=> ?_);clear a K;try simp only [Act.put,qQ,qY,qV]
   have t:=qj (Xe J M E H m S T c2 I F C S T (Reads.zY (qG HO k)) ((w.reads.below f.2).more f.2.size) f.reads uK);have j:Below wr.heap.size wr (J.alloc (.cells #[.slice M m c2, .slice E S I, .slice H T F] 30)):=k.alloc k.size _;unfold jQ at t;have S':(C++S++T).length<=100+20*(i+1):=by rw [qK,qK,HL.out];omega
   have X':Hid (C++S++T++VU (c.drop (i+1)) (s.drop (i+1))++Q++O=R):=by rw [Hid,<-G.out];simp
   generalize C++S++T=V at*
  rotate_left
  focus
   obtain rfl:i=n:=uK
   have G:Hid (C++Q++O=R):=by
    have h:=HR.out;rw [zD (by rw [N.out];exact qx _)] at h
    rw [show VU [] (s.drop i)=[] from rfl,jx] at h
    exact h
   have D:Hid (W.heap.size<=wr.heap.size):=z.size;have r:Hid (∀b,Below wr.heap.size wr b->b.cell? ⟨g,2,none⟩=some (l:Value)/\b.cell? ⟨g,3,none⟩=some (o:Value)):=λb h=>⟨(HS.out b (z.trans (h.mono D))).2.2.1,(HS.out b (z.trans (h.mono D))).2.2.2⟩;clear HR
   go_wp2_with fail;refine zv 16 (λb=>b.cell? ⟨g,2,none⟩=some (l:Value)/\b.cell? ⟨g,3,none⟩=some (o:Value)) AL (r.out _ (qZ _ _).drew) (λd=> ?_)
   refine zq [0,1,2,3,4,5] (a':= ?_) ?_;refine zq [7,8,9,10,11] (a':= ?_) ?_;refine carried 6 rfl AL SQ (λK a=> ?_);go_simp
   (go_at_call 31;((with_reducible refine((D' _).out).mono ?_);rintro e X ⟨E,I,rfl,w⟩);have q:Below wr.heap.size wr X:=(qZ _ wr).drew.trans w.2)
   refine a _ _ ((r.out _ q)) (λd=> ?_);clear a K;try simp only [Act.put,qQ,qY,qV]
   refine carried 12 rfl AL SQ (λK a=> ?_);go_simp
   (go_at_call 31;((with_reducible refine((G' _).out).mono ?_);rintro e J ⟨H,F,rfl,f⟩);have k:=q.trans (f.2.mono q.size))
   refine a _ _ ((r.out _ k)) (λd=> ?_);clear a K;try simp only [Act.put,qQ,qY,qV]
   have t:=qj (Xe J M E H m Q O c2 I F C Q O (Reads.zY (qG HO k)) ((w.reads.below f.2).more f.2.size) f.reads uK);have j:Below wr.heap.size wr (J.alloc (.cells #[.slice M m c2, .slice E Q I, .slice H O F] 30)):=k.alloc k.size _;unfold jQ at t;rw [G.out] at t
  rotate_left
  all_goals
   refine carried 13 rfl AL SQ (λK a=> ?_);go_simp;skip
   refine a _ _ ((r.out _ j)) (λd=> ?_);clear a K;try simp only [Act.put,qQ,qY,qV]
   refine carried 14 rfl AL SQ (λK a=> ?_);go_simp
   (go_at_call 30;((with_reducible refine(t.out).mono ?_);rintro e wD ⟨U,P,rfl,v⟩);have A:=j.trans (v.2.mono j.size))
   refine a _ _ ((r.out _ A)) (λd=> ?_);clear a K;try simp only [Act.put,qQ,qY,qV]
   refine zq [15] (a':= ?_) ?_;refine zV AL ?_ _
  ·have m':=qj (qi v.1 (qv D j.size));have Y:=qj (z.trans (A.mono D));clear t KX KY w f v q k j A d r G HO z;generalize L:V.length=m1 at*
   replace L:=qj L
   go_wp2_with fail;go_roundw
   case rel=>exact⟨i+1,m1,P,U,V,by first|rfl|simp,by first|rfl|simp,uK,S',L,X',m',Y⟩
   case measure=>simp [intOf];omega
  ·have HF:Hid (yG W wD 5 U R P (R.map B8)):=⟨qi v.1 (qv D j.size),z.trans (A.mono D)⟩;clear t D' G' w f v q k j A d r G HO z
   go_wp2_with fail;go_ret;exact⟨U,P,rfl,HF.out⟩
end Go.Proofs.YtfnlfpcfkbdcmaaGreatDoor
