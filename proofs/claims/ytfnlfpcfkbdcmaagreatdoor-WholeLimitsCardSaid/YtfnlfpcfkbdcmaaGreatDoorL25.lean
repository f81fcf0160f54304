import Derived.Test.YtfnlfpcfkbdcmaaGreatDoorL21
import Derived.Test.YtfnlfpcfkbdcmaaGreatDoorL22
import Derived.Test.YtfnlfpcfkbdcmaaGreatDoorL23
set_option linter.unusedSimpArgs false
set_option linter.unusedVariables false
set_option maxRecDepth 100000
set_option maxHeartbeats 0
open Go.Proofs.Tryz
namespace Go.Proofs.YtfnlfpcfkbdcmaaGreatDoor
open Go.RowKit
variable {W:World}{b0 c g:Nat}{bs:qn}
theorem uC (c:Cu) (n:Nat) (e:Int):c.at_<=(yO c n e).at_/\((yO c n e).err=0->c.err=0/\e=0/\(yO c n e).at_=c.at_+n):=by
 unfold yO;split
 ·rename_i h;exact⟨qx _,λh2=>absurd h2 h⟩
 ·rename_i h;split
  ·rename_i h2;exact⟨qx _,λh3=>absurd h3 h2⟩
  ·rename_i h2;exact⟨Jk _ _,λ_=>⟨by simpa using h,by simpa using h2,rfl⟩⟩
theorem BU (b:qn) (a:Int) (c:Cu):c.at_<=(xa b a c).2.at_/\((xa b a c).2.err=0->c.err=0/\c.at_+1<=(xa b a c).2.at_):=by
 have h:=uC c ((Q0 (b.drop c.at_) a).2.1+(Q0 (b.drop c.at_) a).1) (Xy (b.drop c.at_) a);refine⟨h.1,λh2=> ?_⟩;obtain⟨h3,h4,h5⟩:=h.2 h2;refine⟨h3, ?_⟩;show c.at_+1<=(yO c _ _).at_;rw [h5];have h6:(Q0 (b.drop c.at_) a).2.2=0:=by
  unfold Xy at h4;split at h4
  ·rename_i h7;exact absurd h4 h7
  ·rename_i h7;simpa using h7
 have h8:1<=(Q0 (b.drop c.at_) a).2.1:=by
  unfold Q0 at h6⊢;split at h6
  ·rename_i h7;exact absurd h6 h7
  ·rename_i h7;rw [qJ h7];split at h6
   ·cases h6
   ·rename_i d;rw [qJ d];have:=(PZ (b.drop c.at_) 0 0).2.1 (by have:=h7;unfold Ki at this;simpa using this);show 1<=(Ki _).2.1;unfold Ki;omega
 omega
theorem MK (b:qn) (a:Bool) (c:Cu) (h:(FQ b a c).2.err=0):c.at_+1<=(FQ b a c).2.at_:=by
 unfold FQ at h⊢;dsimp only at h⊢;generalize d:(if a=true then j_ b (if a=true then X7 b c else(0,c)).2 else(0,(if a=true then X7 b c else(0,c)).2))=y at*;have e:c.at_<=y.2.at_:=by
  rw [<-d];cases a with
  |true=>
   simp only [if_true];exact qv (uC c _ _).1 (uC (X7 b c).2 _ _).1
  |false=>simp
 have h1:=BU b 4000 y.2;have h2:=BU b 4000 (xa b 4000 y.2).2;have:=(h2.2 h).2;have:=h1.1;omega
theorem Mk (w:World) (t:Rec) (a:TypeId):Reads (w.alloc (.cells (rcC t).toArray a)) (w.heap.size+1) 4 w 1 (rcC t):=by
 refine⟨rfl,λ_=>⟨_,rfl,ze _,λj u b=> ?_⟩⟩;have e:(w.heap.size:Addr).add j=⟨w,j,none⟩:=by unfold Addr.add;split<;>simp_all
 rw [e,(Blk.new w a (rcC t).toArray).cell j];simpa using b
def gZ (w:World) (r:Int×List Rec) (e:Ending) (w':World):Prop:=
 ∃b a,e= .returned (.tuple #[.slice b r.2 a, .int .i64 r.1])/\w'.ownsRow w 45 4 (.slice b r.2 a) r.2 (ji r.2)/\Below w w w'
theorem UE (v:Bool) (Ab:Option Addr) (n c B:Nat) (b:List UInt8) (w:World) (h:Reads w B 1 Ab n (b.map B8)) (hB:B<=w.heap.size) (hn:n<=100000000):
  Calls prog 156 #[.bool v, .slice Ab n c] w (gZ w (hX v b)):=by
 have KN:=qj (Qk Ab n c B b w h hB uK);have N6:Hid (b.length=n):=h.len;obtain⟨R,hR⟩: ∃R,R=hX v b:=⟨_,rfl⟩;rw [<-hR];have O':Hid (gu b v n ⟨0,0⟩ []=R):=by rw [Hid,hR,<-N6.out];rfl
 obtain⟨i0,hi,m',I',G'⟩:=qA PH;replace hi:=qj hi;replace m':=qj m';replace I':=qj I';replace G':=qj G';clear h hB hR;go_enter func156,ntmps156
 go_wp2_with fail;refine KN.mono ?_;rintro e q ⟨o,A,cap,rfl,Y,Q',hAl,O⟩;have HC2:=qj (Y.fresh ((qZ _ _).alloc (qx _) (.cells #[.pointer o] 293)));have HB2:Hid (Below w w (q.alloc (.cells #[.pointer o] 293))):=O.alloc O.size _;have HK2:Hid (Blk (q.alloc (.cells #[.pointer o] 293)) q 293 #[.pointer o]):=Blk.new _ _ _;have D:Hid (w.heap.size<=o/\o<q.heap.size/\w.heap.size<=q.heap.size):=⟨Q',Y.blk.lt,O.size⟩;have HAg:Hid (∀k∈fpS A,k<q.heap.size):=λk j=>(zj Y.own k j).2;have G:Hid (q.heap.size<(q.alloc (.cells #[.pointer o] 293)).heap.size):=by rw [Hid];simp
 clear KN Y Q' hAl O
 go_wp2_with fail;generalize q.alloc (.cells #[.pointer o] 293)=s at*
 generalize q.heap.size=gr at*
 go_loopw [7] (λv7 wr=> ∃(f m K:Nat) (p:Cu) (y:List Rec) (x:Option Addr),v7= .slice x m K/\m<=100000000/\Hid (m=y.length)/\Hid (m<=p.at_)/\Hid (n-p.at_<=f)/\Hid (gu b v f p y=R)/\Hid (Cur wr o A n cap b p)/\Hid (Blk wr gr 293 #[.pointer o])/\Hid (wr.ownsRow s 45 4 (.slice x m K) m (ji y))/\Hid (Below w w wr)/\Hid (s.heap.size<=wr.heap.size)) (λv7 _=>100000001-Y8 v7)
 case atStart=>exact⟨n,0,0,⟨0,0⟩,[],none,rfl,uK,rfl,qx _,by rw [Hid];show n-0<=n;omega,O',HC2,HK2,qP _ _ _ _,HB2,qx _⟩
 case round=>
  clear HC2 HB2 HK2 O';obtain⟨f,m,K,p,y,x,rfl,hm8,HM,HMA,HF,d',Q,V,U,T,U'⟩:=hrel;have F:=qj (pb wr o A n cap b p Q);have q0:=V.cell 0;simp only [qR,qt] at q0;have OX:=Q.le;by_cases M':p.at_<n
  ·obtain⟨f,rfl⟩: ∃f',f=f'+1:=⟨f-1,by have:=HF.out;omega⟩
   have u:=d'.out;unfold gu at u;rw [qJ (by rw [N6.out];omega)] at u
   have H:=MK b v p;have P:=qj (λW h=>Gs v W o A n cap b p h);generalize FQ b v p=RC at*
   obtain⟨⟨g,i,a,d⟩,t⟩:=RC;unfold CC rcA STR at P;dsimp only at u H P;obtain⟨L,hL⟩: ∃L,L=n-p.at_:=⟨_,rfl⟩;rw [<-hL] at F;have hL0:(0:Int)<(L:Int):=uK;replace hL:=qj hL;replace u:=qj u;replace H:=qj H;replace M':=qj M';replace OX:=qj OX;clear d'
   go_wp2_with fail;refine F.mono ?_;rintro e w3 ⟨rfl,r⟩;have HC3:=qj (Q.dr r);have N9:=qj (V.below (r.below _) V.lt);have J':=qj (qG U (r.below _));have M:=qj (T.trans (r.below _));have HSZ3:Hid (s.heap.size<=w3.heap.size):=qv U' (r.below 0).size;have q3:=N9.cell 0;simp only [qR,qt] at q3;have KR3:=qj (P.out w3 HC3);clear F P Q V U T U' r q0
   go_wp2_with fail;refine KR3.mono ?_;rintro e l ⟨rfl,Z',I⟩;have Z:=qj (Z'.fresh ((qZ _ _).alloc (qx _) (.cells #[.int .u64 (g:Int), .int .u8 (i:Int), .string ⟨a.toArray⟩, .string ⟨d.toArray⟩] 45)));have z':Hid (Blk (l.alloc (.cells #[.int .u64 (g:Int), .int .u8 (i:Int), .string ⟨a.toArray⟩, .string ⟨d.toArray⟩] 45)) gr 293 #[.pointer o]):=(I.blk N9 (by rw [qy];have:=D.out;omega)).alloc _
   have D':=qj ((I.own J' (λk j p'=>by have:=(zj J' k j).1;rw [qy.1 p'] at this;have:=D.out;have:=G.out;omega)).alloc (.cells #[.int .u64 (g:Int), .int .u8 (i:Int), .string ⟨a.toArray⟩, .string ⟨d.toArray⟩] 45))
   have u':Below w w l:=M.trans (I.below (λk j=>by rw [qy.1 j];exact D.out.1) M.size)
   have N:Hid (Below w w (l.alloc (.cells #[.int .u64 (g:Int), .int .u8 (i:Int), .string ⟨a.toArray⟩, .string ⟨d.toArray⟩] 45))):=u'.alloc u'.size _;have P':Hid (s.heap.size<=(l.alloc (.cells #[.int .u64 (g:Int), .int .u8 (i:Int), .string ⟨a.toArray⟩, .string ⟨d.toArray⟩] 45)).heap.size):=qv (qv HSZ3 I.size) s8;have KE:=qj (jg (l.alloc (.cells #[.int .u64 (g:Int), .int .u8 (i:Int), .string ⟨a.toArray⟩, .string ⟨d.toArray⟩] 45)) o A n cap b t Z);have q5:=z'.cell 0;simp only [qR,qt] at q5;clear KR3 Z' I HC3 N9 J' M HSZ3 u' q3;by_cases C:t.err=0
   ·have X:=u.out
    rw [qJ (by simpa using C)] at X
    replace X:=qj X;have hadv2:=H.out C;have hle9:=Z.le;have hF2:Hid (n-t.at_<=f):=by have:=HF.out;rw [Hid];omega
    have Y':Hid (m+1<=t.at_):=by have:=HMA.out;rw [Hid];omega
    have hm9:m+1<=100000000:=by have:=Y'.out;omega
    rw [C] at KE;have hm1:m+1<=maxLen:=SJ;have hm2:(m+1)*48<=140737488355328:=uK;have hsz5:(l.alloc (.cells #[.int .u64 (g:Int), .int .u8 (i:Int), .string ⟨a.toArray⟩, .string ⟨d.toArray⟩] 45)).heap.size=l.heap.size+1:=s8;have N':=qv P' (show(l.alloc (.cells #[.int .u64 (g:Int), .int .u8 (i:Int), .string ⟨a.toArray⟩, .string ⟨d.toArray⟩] 45)).heap.size<=((l.alloc (.cells #[.int .u64 (g:Int), .int .u8 (i:Int), .string ⟨a.toArray⟩, .string ⟨d.toArray⟩] 45)).alloc (.cells #[.int .u64 (g:Int), .int .u8 (i:Int), .string ⟨a.toArray⟩, .string ⟨d.toArray⟩] 45)).heap.size by simp)
    clear u H hadv2 hle9 HF HMA C
    go_wp2_with fail;refine KE.mono ?_;rintro e w' ⟨rfl,rfl⟩
    go_wp2_with (first
     |(refine ja rfl 45 _ rfl l rfl 45 #[.int .u64 (g:Int), .int .u8 (i:Int), .string ⟨a.toArray⟩, .string ⟨d.toArray⟩] (0,0) _ (Blk.new l _ _) ZI rfl Yx ?_)
     |(at_builtin;refine qF _ rfl (.tmp 26) (.tmp 28) 24 rfl s 45 i0 (.agg #[.int .u64 0, .int .u8 0, .string "".toUTF8, .string "".toUTF8]) 4 48 QL hi m' I' G' rfl uK x m K _ rfl (D'.alloc _) ((l.alloc (.cells #[.int .u64 (g:Int), .int .u8 (i:Int), .string ⟨a.toArray⟩, .string ⟨d.toArray⟩] 45)).heap.size+1) (some ⟨(l.alloc (.cells #[.int .u64 (g:Int), .int .u8 (i:Int), .string ⟨a.toArray⟩, .string ⟨d.toArray⟩] 45)).heap.size,0,none⟩) 1 1 (rcC ⟨g,i,a,d⟩) (by first|rfl|(rw [hsz5];rfl)) (Mk _ ⟨g,i,a,d⟩ _) (tS _) hm1 hm2 N' ?_;intro A11 c11 S iL X' _hs11;have z:qE (fpS x) ((l.alloc (.cells #[.int .u64 (g:Int), .int .u8 (i:Int), .string ⟨a.toArray⟩, .string ⟨d.toArray⟩] 45)).alloc (.cells #[.int .u64 (g:Int), .int .u8 (i:Int), .string ⟨a.toArray⟩, .string ⟨d.toArray⟩] 45)) S:=(qE.refl _ _).grown X' (λk j=> .inl j);replace iL:=qj iL;replace z:=qj z;clear X' _hs11))
    have J: ∀k∈fpS x,s.heap.size<=k:=λk j=>(zj D' k j).1;have HC11:=qj ((Z.fresh ((qZ _ _).alloc (qx _) (.cells #[.int .u64 (g:Int), .int .u8 (i:Int), .string ⟨a.toArray⟩, .string ⟨d.toArray⟩] 45))).jZ z (λj=>by have:=J _ j;have:=D.out;have:=G.out;omega) (λk j p'=>by have:=J _ p';have:=HAg.out k j;have:=G.out;omega))
    have HK11:=qj (z.blk (z'.alloc (.cells #[.int .u64 (g:Int), .int .u8 (i:Int), .string ⟨a.toArray⟩, .string ⟨d.toArray⟩] 45)) (λj=>by have:=J _ j;have:=G.out;omega))
    have HB11:Hid (Below w w S):=(N.alloc N.size (.cells #[.int .u64 (g:Int), .int .u8 (i:Int), .string ⟨a.toArray⟩, .string ⟨d.toArray⟩] 45)).trans (z.below (λk j=>by have:=J k j;have:=D.out;have:=G.out;omega) (qv N.size s8))
    have HO11:Hid (S.ownsRow s 45 4 (.slice A11 (m+1) c11) (m+1) (ji (y++[⟨g,i,a,d⟩]))):=by rw [Hid,pR,mO];exact iL.out
    have HSZ11:Hid (s.heap.size<=S.heap.size):=qv N' z.size;have hM:=HM.out;clear J Z z' N D' z iL N' P' KE;go_roundw
    case rel=>exact⟨f,m+1,c11,t,y++[⟨g,i,a,d⟩],A11,by first|rfl|simp,hm9,by rw [Hid,qK,zJ,hM],Y',hF2,X,HC11,HK11,HO11,HB11,HSZ11⟩
    case measure=>simp [Y8];omega
   ·have HR:Hid (R=(t.err,[])):=by rw [Hid,<-u.out,qk C]
    have hzn:(t.err==0)=false:=by simpa using C
    have hzn':(t.err !=0)=true:=by simpa using C
    generalize t.err=E at*
    clear u H
    go_wp2_with fail;refine KE.mono ?_;rintro e w' ⟨rfl,rfl⟩
    go_wp2_with fail
    go_ret2;unfold gZ;rw [HR.out];exact⟨none,0,rfl,qP _ _ _ _,N.out⟩
  ·obtain S':n-p.at_=0:=uK
   rw [S'] at F;have HR:Hid (R=(0,y)):=by
    rw [Hid,<-d'.out];cases f with
    |zero=>rfl
    |succ f=>unfold gu;rw [qk (by rw [N6.out];omega)]
   clear S' d' M' OX
   go_wp2_with fail;refine F.mono ?_;rintro e w3 ⟨rfl,r⟩;have HOF:=qj (qi (qG U (r.below _)) (show w.heap.size<=s.heap.size by have:=D.out;have:=G.out;omega))
   have M:=qj (T.trans (r.below _));clear F r U T
   go_wp2_with fail
   go_ret2;unfold gZ;rw [HR.out];have hmo:=HM.out;subst hmo;exact⟨x,K,rfl,HOF.out,M.out⟩
theorem F_ (a:Bool) (l:List Rec) (k:Nat) (h:k<l.length):Zb a (l.take (k+1))=Zb a (l.take k)++Dn a l[k]:=by
 unfold Zb;have e:l.take (k+1)=l.take k++[l[k]]:=by rw [qs,qX h];rfl
 rw [e,qg,xM];simp
theorem YS (a:Bool) (l:List Rec) (k:Nat):(Zb a (l.take k)).length<=(Zb a l).length:=by
 conv=>rhs;rw [<-QG k l]
 unfold Zb;rw [qg,xM,qK];omega
theorem P8 (a:Bool) (A:q') (c B:Nat) (l:List Rec) (w:World) (h:Reads w B 4 A l (ji l)) (N:B<=w.heap.size) (hl:l.length<=1000000000) (P: ∀r∈l,Yj r) (u':(Zb a l).length<=1000000000):
  Calls prog 34 #[a, .slice A l c] w (jQ 5 w (Zb a l).length ((Zb a l).map B8)):=by
 obtain⟨Y,hi,D,s,E⟩:=xt QB;have H:=qj h;have V:=qj N;have Z:=qj P;clear h N P;go_wp2;go_loopw [5,10] (λv5 C wr=> ∃(k m c2:Nat) (d:q'),v5= .slice d m c2/\C=(k:Value)/\k<=l.length/\Hid (m=(Zb a (l.take k)).length)/\Hid (wr.ownsRow w 5 1 (.slice d m c2) m ((Zb a (l.take k)).map B8))/\Hid (Below w w wr)) (λ_ C _=>l.length-(intOf C).toNat)
 ·exact⟨0,0,0,none,rfl,rfl,qp _,rfl,qP _ _ _ _,qZ _ _⟩
 ·obtain⟨k,m,c2,d,rfl,rfl,hk,b,n,f⟩:=hrel;by_cases x:k<l.length
  ·have z':(k:Int)<(l.length:Int):=uK;obtain⟨ad,rfl,_,y0,y1,y2,y3⟩:=ZH (H.below (f.mono V)) k x;have u:=λW=>qj (F9 a _ W (Z _ (zx x)));have y:=qj (F_ a l k x);have Q:=qj (YS a l (k+1));have J:=YS a l k;rw [<-b.out] at J;have j:m+(Dn a l[k]).length=(Zb a (l.take (k+1))).length:=by rw [y.out,qK,<-b.out]
   have m':Hid ((Zb a (l.take k)).map B8++(Dn a l[k]).map B8=(Zb a (l.take (k+1))).map B8):=by rw [Hid,y.out,qg]
   have O:=Q.out;rw [<-j] at O;generalize o:(Zb a (l.take (k+1)))=ys at*;replace o:=qj o;generalize Zb a (l.take k)=zs,Dn a l[k]=i,(⟨l[k].src.toArray⟩:ByteArray)=K,(⟨l[k].txt.toArray⟩:ByteArray)=S2,(l[k].time:Int)=t,(l[k].level:Int)=M at*;unfold jQ at u;have iL:m+i.length<=maxLen:=SJ;have d':(m+i.length)*1<=140737488355328:=uK;have v:=qj (f.alloc f.size (.cells #[.int .u64 t, .int .u8 M, .string K, .string S2] 45));have I:=qj (n.alloc (.cells #[.int .u64 t, .int .u8 M, .string K, .string S2] 45));replace j:=qj j;clear J O b;go_wp2_with fail;refine(u _).out.mono ?_;rintro e L ⟨A3,S,rfl,p⟩;have z:=qj (qG I p.2);have q:=qj (v.trans (p.2.mono v.size));have F:=qj p.reads;have R:=qj q.size;clear u p n f;go_wp2_with (at_builtin;refine qF _ rfl (.tmp 14) (.tmp 17) 30 rfl w 5 Y (.int .u8 0) 1 1 qu hi D s E rfl uK d m c2 _ rfl z L A3 i S _ rfl F (YR _) iL d' R ?_;intro U T w4 g G X;have p':=qj (zG q G z R);replace g:=qj g;clear G X);rw [m'.out] at g;refine xk ?_;exact⟨k+1,m+i.length,T,U,xb,xb,uK,by rw [o.out];exact j,by rw [o.out];exact g,p'⟩
  ·obtain rfl:k=l.length:=uK;rw [jP] at b n;go_wp2;go_ret;refine⟨d,c2, ?_, ?_,f⟩
   ·rw [<-b.out];rfl
   ·rw [<-b.out];exact n.out
theorem pS (o:List Nat) (v:Nat) (m:Nat) (a:o.length=m+1):(o.map NV).set m (NV v)=(o.dropLast++[v]).map NV:=by
 have h:o≠[]:=by intro e;rw [e] at a;cases a
 obtain⟨b,x,rfl⟩: ∃b x,o=b++[x]:=⟨_,_,(ZE h).symm⟩;have c:b.length=m:=by simpa using a
 rw [Jz,qg,qg,jy,xB,<-c];rw [Qh _ _ s8];simp
theorem pN (o:List Nat) (m:Nat) (b:o.length=m+1):(o.map NV)[m]? =some (NV (o.getLastD 0)):=by
 have h:o≠[]:=by intro e;rw [e] at b;cases b
 obtain⟨a,x,rfl⟩: ∃a x,o=a++[x]:=⟨_,_,(ZE h).symm⟩;have c:a.length=m:=by simpa using b
 rw [qg,<-c,qm s8];simp
theorem DV (o:List Nat) (k:Nat) (h: ∀x∈o,x<=k):o.getLastD 0<=k:=by
 by_cases h0:o=[]
 ·subst h0;exact qp _
 ·obtain⟨a,x,rfl⟩: ∃a x,o=a++[x]:=⟨_,_,(ZE h0).symm⟩;simp only [Jj];exact h x s8
def gz (w:World) (g:List Nat) (e:Ending) (w':World):Prop:= ∃b a,e= .returned (.slice b g a)/\w'.ownsRow w 3 1 (.slice b g a) g (g.map NV)/\Below w w w'
theorem gj (size:Int) (s:Bool) (A:Option Addr) (c B:Nat) (l:List Rec) (w:World) (h:Reads w B 4 A l (ji l)) (hB:B<=w.heap.size) (hl:l.length<=1000000) (N': ∀r∈l,Yj r) (htot:(Zb s l).length<=1000000000):
  Calls prog 28 #[size, .bool s, .slice A l c] w (gz w (GX size s l)):=by
 obtain⟨i0,hi,iL,m',z'⟩:=qA Pf;replace hi:=qj hi;replace iL:=qj iL;replace m':=qj m';replace z':=qj z';have H:=qj h;have HB:=qj hB;have U':=qj N';clear h hB N';go_enter func28,ntmps28
 go_wp2_with fail;go_loopw [7,8,14] (λv7 v8 N9 wr=> ∃(k m c2 G:Nat) (Z:Option Addr) (o:List Nat),v7= .slice Z m c2/\v8=(G:Value)/\N9=(k:Value)/\k<=l.length/\m<=k/\Hid (o.length=m)/\Hid (G<=(Zb s (l.take k)).length)/\Hid (∀x∈o,x<=k)/\Hid (Yl size s o G (l.drop k)=GX size s l)/\Hid (wr.ownsRow w 3 1 (.slice Z m c2) m (o.map NV))/\Hid (Below w w wr)) (λ_ _ N9 _=>l.length-(intOf N9).toNat)
 case atStart=>exact⟨0,0,0,0,none,[],rfl,rfl,rfl,qp _,qx _,rfl,qp _,by simp [Hid],rfl,qP _ _ _ _,qZ _ _⟩
 case round=>
  obtain⟨k,m,c2,G,Z,o,rfl,rfl,rfl,hk,hmk,y,HH,P,HG,HO,HW⟩:=hrel;by_cases G':k<l.length
  ·have hlt':(k:Int)<(l.length:Int):=uK
   obtain⟨ad,rfl,_,y0,y1,y2,y3⟩:=ZH (H.below (HW.mono HB)) k G';have z:=λW=>qj (F9 s l[k] W (U'.out _ (zx G')));have P':=F_ s l k G';have hle:=YS s l (k+1);have S':(Zb s (l.take (k+1))).length=(Zb s (l.take k)).length+(Dn s l[k]).length:=by rw [P',qK]
   have hhv:=HH.out;have HD:Hid (l.drop k=l[k]::l.drop (k+1)):=zK G';have d:=HG.out;rw [HD.out] at d;unfold Yl at d;generalize GX size s l=GG at*
   generalize X:l.drop (k+1)=T at*
   replace X:=qj X;generalize Y:(Zb s (l.take (k+1))).length=tt at*
   replace Y:=qj Y;generalize (Zb s (l.take k)).length=t0 at*
   generalize Dn s l[k]=xs at*
   generalize (⟨l[k].src.toArray⟩:ByteArray)=S1 at*
   generalize (⟨l[k].txt.toArray⟩:ByteArray)=S2 at*
   generalize (l[k].time:Int)=t at*
   generalize (l[k].level:Int)=lv at*
   unfold jQ at z;generalize O':xs.length=n at*
   replace O':=qj O';have hb:G+n<=1000000000:=uK;have OX:Hid (G+n<=tt):=by rw [Hid];omega
   have M':Hid (n<=tt):=by rw [Hid];omega
   have v:=qj (HW.alloc HW.size (.cells #[.int .u64 t, .int .u8 lv, .string S1, .string S2] 45));have I:=qj (HO.alloc (.cells #[.int .u64 t, .int .u8 lv, .string S1, .string S2] 45));have N6:m+1<=maxLen:=SJ;have J':(m+1)*8<=140737488355328:=uK;have I':Hid (o=[]↔m=0):=by
    rw [Hid,<-y.out];exact xq.symm
   clear P' hle S' hhv HD HG HH HW HO htot;by_cases hz:m=0
   ·rw [qk (.inl (I'.out.2 hz))] at d
    subst hz;replace d:=qj d
    go_wp2_with fail;refine(z _).out.mono ?_;rintro e u ⟨A3,c3,rfl,i⟩;have b:=qj (qG I i.2);have g:=qj (v.trans (i.2.mono v.size));have J:Hid (w.heap.size<=u.heap.size):=g.size;clear z i I v
    go_wp2_with (at_builtin;refine qF _ rfl (.tmp 33) (.tmp 34) 62 rfl w 3 i0 () 1 8 jj hi iL m' z' rfl uK Z 0 c2 _ rfl (b.alloc _) (u.heap.size+1) u 1 1 [.int .i64 0] rfl (zU _ _ _) (one_one rfl) N6 J' (qv J s8) ?_;intro A4 F E C S d';have R:=qj (zG (g.alloc g.size (.cells #[()] 3)) S (b.alloc _) (qv J s8));clear S d';obtain⟨a,rfl⟩:=Zx C uK;have j:E.ownsRow w 3 1 (.slice a 1 F) 1 ((o++[0]).map NV):=(by rw [qg];exact C);have q:=(xU (k:=0) j (ze _)).1;have D':=(xU (k:=0) j (ze _)).2;rw [pN (o++[0]) 0 (by rw [qK,y.out];rfl)] at q;have f:=Qn (k:=0) j (NV 1);rw [pS (o++[0]) 1 0 (by rw [qK,y.out];rfl),Jz] at f;have M:Hid ((E.setCell a (.int .i64 1)).ownsRow w 3 1 (.slice a 1 F) 1 ((o++[1]).map NV)):=f;have U:=(yZ j).1;have D:Hid (Below w w (E.setCell a (.int .i64 1))):=R.setCell (p:= a) U (NV 1);unfold NV at q;simp only [Jj] at q;clear f C j R U)
    have N:Hid (∀x∈o++[1],x<=k+1):=λx O=>by
     rcases zt.1 O with h|h
     ·have:=P.out x h;omega
     ·rw [qy.1 h];omega
    have Q:Hid ((o++[1]).length=0+1):=by rw [Hid,qK,y.out];rfl
    go_roundw
    case rel=>exact⟨k+1,0+1,F,n,some ⟨a,0,none⟩,o++[1],by first|rfl|simp,by first|rfl|simp,by first|rfl|simp,uK,uK,Q,by rw [Y.out];exact M',N,by rw [X.out];exact d,M,D⟩
    case measure=>simp [intOf];omega
   ·rcases Int.lt_or_le 1 size with hs|hs
    focus
     have L:max 1 size=size:=uK
     have Q': ¬size<=1:=uK;by_cases hgt:size<(G:Int)+(n:Int)
     rotate_left
     focus have gA:=trivial
    rotate_left 2
    focus
     have L:max 1 size=1:=uK
     have Q': ¬1<size:=uK;by_cases hgt:1<(G:Int)+(n:Int)
     rotate_left
     focus have gA:=trivial
    all_goals first
     |clear gA
      rw [qJ (by rw [I'.out,L];omega)] at d
      clear L;replace d:=qj d;obtain⟨mm,K⟩: ∃mm,m=mm+1:=⟨m-1,uK⟩;have X':((m:Int)==0)=false:=SZ;have Z':(m:Int)-1=(mm:Int):=uK;have hmi2:(mm:Int)<(m:Int):=uK;have hmi0:(0:Int)<=(mm:Int):=uK;have u':Hid (mm<m):=by rw [Hid];omega
      have V:Hid (o.length=mm+1):=by rw [Hid,y.out,K]
      replace K:=qj K
      go_wp2_with fail;refine(z _).out.mono ?_;rintro e u ⟨A3,c3,rfl,i⟩;have b:=qj (qG I i.2);have g:=qj (v.trans (i.2.mono v.size));have J:Hid (w.heap.size<=u.heap.size):=g.size;clear z i I v;obtain⟨a,rfl⟩:=Zx b uK
      have q:=(xU (k:=mm) b u').1;have D':=(xU (k:=mm) b u').2;rw [pN o mm V.out] at q;have hxl:o.getLastD 0<=k:=DV o k P.out;have f:=Qn (k:=mm) b (NV (o.getLastD 0+1));rw [pS o (o.getLastD 0+1) mm V.out] at f;have p':NV (o.getLastD 0+1)= .int .i64 ((o.getLastD 0:Int)+1):=by unfold NV;rw [xe];rfl
      have D:=qj (g.setCell (p:=⟨a,mm,none⟩) (yZ b).1 (NV (o.getLastD 0+1)));rw [p'] at f D;have M:=qj f;clear f p';have N:Hid (∀x∈o.dropLast++[o.getLastD 0+1],x<=k+1):=λx O=>by
       rcases zt.1 O with h|h
       ·have:=P.out x (List.dropLast_subset _ h);omega
       ·rw [qy.1 h];omega
      have Q:Hid ((o.dropLast++[o.getLastD 0+1]).length=m):=by rw [Hid,qK,List.length_dropLast,V.out,K.out];rfl
      unfold NV at q;generalize o.dropLast++[o.getLastD 0+1]=o2 at*
      generalize o.getLastD 0=x at*
      clear b g P
      go_wp2_with fail;go_roundw
      case rel=>exact⟨k+1,m,c2,G+n,some ⟨a,0,none⟩,o2,by first|rfl|simp,by first|rfl|simp,by first|rfl|simp,uK,uK,Q,by rw [Y.out];exact OX,N,by rw [X.out];exact d,M,D⟩
      case measure=>simp [intOf];omega
     |rw [qk (.inr (by rw [L];omega))] at d
      clear L;replace d:=qj d
      go_wp2_with fail;refine(z _).out.mono ?_;rintro e u ⟨A3,c3,rfl,i⟩;have b:=qj (qG I i.2);have g:=qj (v.trans (i.2.mono v.size));have J:Hid (w.heap.size<=u.heap.size):=g.size;clear z i I v
      go_wp2_with (at_builtin;refine qF _ rfl (.tmp 33) (.tmp 34) 62 rfl w 3 i0 () 1 8 jj hi iL m' z' rfl uK Z m c2 _ rfl (b.alloc _) (u.heap.size+1) u 1 1 [.int .i64 0] rfl (zU _ _ _) (one_one rfl) N6 J' (qv J s8) ?_;intro A4 F E C S d';have R:=qj (zG (g.alloc g.size (.cells #[()] 3)) S (b.alloc _) (qv J s8));clear S d';obtain⟨a,rfl⟩:=Zx C uK;have j:E.ownsRow w 3 1 (.slice a (m+1) F) (m+1) ((o++[0]).map NV):=(by rw [qg];exact C);have q:=(xU (k:=m) j (ze _)).1;have D':=(xU (k:=m) j (ze _)).2;rw [pN (o++[0]) m (by rw [qK,y.out];rfl)] at q;have f:=Qn (k:=m) j (NV 1);rw [pS (o++[0]) 1 m (by rw [qK,y.out];rfl),Jz] at f;have M:Hid ((E.setCell ⟨a,m,none⟩ (.int .i64 1)).ownsRow w 3 1 (.slice a (m+1) F) (m+1) ((o++[1]).map NV)):=f;have U:=(yZ j).1;have D:Hid (Below w w (E.setCell ⟨a,m,none⟩ (.int .i64 1))):=R.setCell (p:=⟨a,m,none⟩) U (NV 1);unfold NV at q;simp only [Jj] at q;clear f C j R U)
      have N:Hid (∀x∈o++[1],x<=k+1):=λx O=>by
       rcases zt.1 O with h|h
       ·have:=P.out x h;omega
       ·rw [qy.1 h];omega
      have Q:Hid ((o++[1]).length=m+1):=by rw [Hid,qK,y.out];rfl
      go_roundw
      case rel=>exact⟨k+1,m+1,F,n,some ⟨a,0,none⟩,o++[1],by first|rfl|simp,by first|rfl|simp,by first|rfl|simp,uK,uK,Q,by rw [Y.out];exact M',N,by rw [X.out];exact d,M,D⟩
      case measure=>simp [intOf];omega
  ·obtain rfl:k=l.length:=uK
   have Y':Hid (GX size s l=o):=by rw [Hid,<-HG.out,List.drop_length];unfold Yl;rfl
   clear HG
   go_wp2_with fail;go_ret;unfold gz;rw [Y'.out,y.out];exact⟨Z,c2,rfl,HO.out,HW.out⟩
theorem EL (W:World) (base g c:Nat) (size:Int) (a:List qn) (h:DtI W base g size a c):
  Calls prog 199 #[.pointer g] W λe d=>e= .returned a.length/\W=d:=by
 obtain⟨j,i,f,ch,k,b⟩:=h;have c0:=b.blk.cell 0;simp only [qR,qt] at c0;generalize a.length=n at*;clear b;go_wp2;go_ret;exact⟨rfl,rfl⟩
def E4 (W:World) (a:List qn) (e:Ending) (b:World):Prop:= ∃A c,e= .returned (.slice A a c)/\b.ownsRow W 9 1 (.slice A a c) a (a.map STR)/\Below W W b
theorem OW (l:List qn): ∀u∈l.map STR,u.oneCell'=true:=by
 intro u a;obtain⟨s,_,rfl⟩:=jB.1 a;rfl
theorem Tu (A:q') (n c B:Nat) (i:List qn) (W:World) (h:Reads W B 1 A n (i.map STR)) (k:B<=W.heap.size) (m:n<=10000000):
  Calls prog 235 #[.slice A n c] W (E4 W i):=by
 have b:=λW=>Lib.run_eql_slice_nil W _ 9 A n c 0 0 jD;obtain⟨r,hi,f,e,g⟩:=xt XJ;have a:=h.len;unfold E4;rw [a];replace a:=qj a;have H:=qj h;cases A with
 |none=>
  have h0:n=0:=by
   rcases zA n with h0|h0
   ·exact h0
   ·obtain⟨j,b,_⟩:=h.2 h0;cases b
  subst h0;simp only [Option.isNone] at b;clear h k m;go_wp2;go_ret;have:=xq.1 a.out;subst this;exact⟨_,0,rfl,qP _ _ _ _,qZ _ _⟩
 |some j=>
  simp only [Option.isNone] at b;clear h;go_in;go_wp2_with (at_builtin;refine qF _ rfl (.tmp 5) (.tmp 6) 99 rfl W.heap.size 9 r (.string "".toUTF8) 1 16 jD hi f e g rfl uK W 0 0 [] rfl (ZR W _ _ (qx _)) B (some j) n c _ rfl (H.alloc k _) (OW _) ?_ ?_ ?_ ?_;rotate_left 3;intro o c1 s d l q;have p:=qj (zG (zi (qZ _ _) _) l (ZR W _ _ (qx _)) (zi (qZ _ W) _).size);replace d:=qj d;clear l q);rotate_left 1
  ·unfold maxLen;omega
  ·omega
  ·exact(zi (qZ _ W) _).size
  go_ret;refine⟨o,c1,s8, ?_,p⟩;have h:=d.out;simpa using h
theorem E5 (W:World) (base g j:Nat) (size:Int) (a:List qn) (h:DtI W base g size a j) (l:a.length<=10000000):
  Calls prog 200 #[.pointer g] W (E4 W a):=by
 obtain⟨o,m,q,ch,r,d⟩:=h;have c0:=d.blk.cell 0;simp only [qR,qt] at c0;have b:=qj (Tu o a m W a W (Reads.zY d.ot) (qx _) l);unfold E4 at b⊢;generalize a.length=n at*;clear d;go_in;go_wp2_with fail;refine b.mono ?_;rintro e s ⟨A,c,rfl,f,i⟩;have k:=qj f;have p:=qj i;clear f i;go_wp2;go_ret;exact⟨A,c,rfl,k,p⟩
theorem eT {z:UInt8}: ∀{x:UInt8},fI z=some x->(65<=z.toNat/\z.toNat<=90/\x.toNat=z.toNat+32)\/(((97<=z.toNat/\z.toNat<=122)\/(48<=z.toNat/\z.toNat<=57))/\x=z):=by
 intro x h;unfold fI at h;split at h
 ·rename_i h1;injection h with h;subst h;refine .inl ⟨h1.1,h1.2, ?_⟩;rw [zS,jk uK]
 ·split at h
  ·rename_i h1 h2;injection h with h;exact .inr ⟨h2,h.symm⟩
  ·cases h
theorem tU (z:UInt8) (w:World):
  Calls prog 183 #[.int .u8 (z.toNat:Int)] w λe w'=>e= .returned (.tuple #[.int .u8 (((fI z).getD 0).toNat:Int), .bool (fI z).isSome])/\w=w':=by
 have k:=z.toNat_lt;cases a:fI z with
 |some x=>
  have h:=eT a;rw [Zv,Xq];clear a;rcases h with⟨h1,h2,h3⟩|⟨h1|h1,rfl⟩
  ·rw [h3];generalize z.toNat=y at*;have l:IntKind.u8.wrap ((y:Int)+32)=((y+32:Nat):Int):=by rw [va];omega
   have b:(65:Int)<=(y:Int):=uK;have f:(y:Int)<=90:=uK;go_enter Jp,Zw;go_wp2;go_ret2;exact⟨yb,rfl⟩
  ·generalize x.toNat=y at*;have b:(65:Int)<=(y:Int):=uK;have f: ¬(y:Int)<=90:=uK;have c:(97:Int)<=(y:Int):=uK;have j:(y:Int)<=122:=uK;go_enter Jp,Zw;go_wp2;go_ret2;exact⟨yb,rfl⟩
  ·generalize x.toNat=y at*;have b: ¬(65:Int)<=(y:Int):=uK;have c: ¬(97:Int)<=(y:Int):=uK;have d:(48:Int)<=(y:Int):=uK;have g:(y:Int)<=57:=uK;go_enter Jp,Zw;go_wp2;go_ret2;exact⟨yb,rfl⟩
 |none=>
  have h: ¬(65<=z.toNat/\z.toNat<=90)/\ ¬(97<=z.toNat/\z.toNat<=122)/\ ¬(48<=z.toNat/\z.toNat<=57):=by
   unfold fI at a;split at a
   ·cases a
   ·split at a
    ·cases a
    ·rename_i h1 h2;exact⟨h1,λh=>h2 (.inl h),λh=>h2 (.inr h)⟩
  rw [Option.getD_none,Xz];have i:((0:UInt8).toNat:Int)=0:=rfl;rw [i];clear a;generalize z.toNat=y at*;have h4:y<48\/(57<y/\y<65)\/(90<y/\y<97)\/122<y:=uK;rcases h4 with h4|h4|h4|h4
  ·have b: ¬(65:Int)<=(y:Int):=uK;have c: ¬(97:Int)<=(y:Int):=uK;have d: ¬(48:Int)<=(y:Int):=uK;go_enter Jp,Zw;go_wp2;go_ret2;exact⟨yb,rfl⟩
  ·have b: ¬(65:Int)<=(y:Int):=uK;have c: ¬(97:Int)<=(y:Int):=uK;have d:(48:Int)<=(y:Int):=uK;have g: ¬(y:Int)<=57:=uK;go_enter Jp,Zw;go_wp2;go_ret2;exact⟨yb,rfl⟩
  ·have b:(65:Int)<=(y:Int):=uK;have f: ¬(y:Int)<=90:=uK;have c: ¬(97:Int)<=(y:Int):=uK;have d:(48:Int)<=(y:Int):=uK;have g: ¬(y:Int)<=57:=uK;go_enter Jp,Zw;go_wp2;go_ret2;exact⟨yb,rfl⟩
  ·have b:(65:Int)<=(y:Int):=uK;have f: ¬(y:Int)<=90:=uK;have c:(97:Int)<=(y:Int):=uK;have j: ¬(y:Int)<=122:=uK;have d:(48:Int)<=(y:Int):=uK;have g: ¬(y:Int)<=57:=uK;go_enter Jp,Zw;go_wp2;go_ret2;exact⟨yb,rfl⟩
def ZU (f:qn->qn):qn->qn->List (qn)->List qn
 |[],row,a=>VB f row a
 |c::t,row,a=>match fI c with|some x=>ZU f t (row++[x]) a|none=>ZU f t [] (VB f row a)
theorem EV (f:qn->qn) (s row:qn) (a:List qn) (k:Nat) (b:k<s.length):ZU f (s.drop k) row a=match fI s[k] with|some x=>ZU f (s.drop (k+1)) (row++[x]) a|none=>ZU f (s.drop (k+1)) [] (VB f row a):=by
 rw [zK b];rfl
theorem Bj (f:qn->qn) (row:qn) (a:List qn):(VB f row a).length<=a.length+1:=by
 unfold VB;split
 ·omega
 ·rw [qK,zJ];exact qx _
theorem kf (f:qn->qn): ∀(s row:qn) (a:List qn),ZU f s row a=a++(fo s row []).map f
 |[],row,a=>by
  show VB f row a=a++(PS row []).map f
  unfold VB PS;split<;>simp
 |c::t,row,a=>by
  have key: ∀(t row:qn) (o:List qn),fo t row o=o++fo t row []:=by
   intro t;induction t with
   |nil=>intro row o;show PS row o=o++PS row [];unfold PS;split<;>simp
   |cons c t b=>
    intro row o;unfold fo;cases fI c with
    |some x=>exact b _ _
    |none=>
     dsimp only;rw [b [] (PS row o),b [] (PS row [])];unfold PS;split<;>simp
  unfold ZU fo;cases fI c with
  |some x=>exact kf f t _ _
  |none=>
   dsimp only;rw [kf f t [] (VB f row a),key t [] (PS row [])];unfold VB PS;split<;>simp
theorem EX.push {a:World} {n b:Nat} {A d:q'} {x:UInt8} {o:Obj} (i:bs.length=n) (m:Blk W g 30 #[.slice A n c]) (l:W.ownsRow b0 5 1 (.slice A n c) n (bs.map B8)) (j:b0<=g) (f:b0<=W.heap.size) (h:(W.alloc o).grownBy a (A.map (·.block))) (h4:a.ownsRow b0 5 1 (.slice d (n+1) b) (n+1) (bs.map B8++[B8 x])):
  (a.cell? g=some (.slice A n c)/\a.frozen? g=false)/\EX (a.setCell g (.slice d (n+1) b)) b0 g (bs++[x])/\jO [30,5] b0 W (a.setCell g (.slice d (n+1) b)):=by
 have h0:=(qZ _ W).alloc (qx _) o;have o1:=qG l h0;have t:jO [30,5] b0 W a:=(jO.fresh h0 f).grown o1 s8 (qx _) (qv f h0.size) h;have s:jO [5] b0 W a:=(jO.fresh h0 f).grown o1 s8 (qx _) (qv f h0.size) h;have e:=s.blk m FV;refine⟨⟨by rw [e.cell 0];simp,e.frozen 0⟩,⟨d,b, ?_, ?_,j⟩,t.zh e s8 j 0 _⟩
 ·have:=e.zh 0 (.slice d (n+1) b);rw [qK,zJ,i];simpa using this
 ·rw [qK,zJ,i,qg];exact((qE.refl [g] a).zh (p:= g) (qy.2 rfl) _).own h4 (λk q r=>qT h4 e FV k q (qy.1 r))
theorem WS.Oh {b:World} {e:Nat} {d:Value} {f:qn} {i:List qn} (h:WS W b0 c e g d bs i) (j:EX b b0 c f) (a:jO [30,5] b0 W b):WS b b0 c e g d f i:=
 ⟨j,a.blk h.fn FV,h.outs.keep a FV FV,qv h.bs a.size⟩
theorem UB (gf:Nat) (f:List UInt8->List UInt8) (iL:Told gf f) (eg: ∀args w,(callFunc gf args).run prog w= .ok (.enter gf args) w) (W:World) (b0 g:Nat) (s:List UInt8) (a:List (List UInt8)) (h:ug W b0 g a) (F:b0<=W.heap.size) (K:a.length+s.length<=90000):
  Calls prog 134 #[STR s, .func (.func gf) #[] #[.pointer g]] W λe T=>e= .returned (.tuple #[])/\ug T b0 g (ZU f s [] a)/\Below b0 W T/\(ZU f s [] a).length<=a.length+s.length+1:=by
 obtain⟨i0,hi,M,E,O⟩:=qA xR;replace hi:=qj hi;replace M:=qj M;replace E:=qj E;replace O:=qj O;obtain⟨D,B⟩: ∃D:ByteArray,D=⟨s.toArray⟩:=⟨_,rfl⟩;have za:D.size=s.length:=by rw [B];simp [ByteArray.size]
 have Z:=qj (λn h W=>Yw D s B n h W);obtain⟨R,L⟩: ∃R,R=ZU f s [] a:=⟨_,rfl⟩;rw [<-L];have Y:Hid (ZU f (s.drop 0) [] a=R):=L.symm;unfold STR;rw [<-B];clear L B;have l:=λW gr gw bs a h K u'=>qj (mN gf f iL eg W b0 gr gw g bs a h K u');replace l:=qj l;obtain⟨N,i⟩: ∃N,N=s.length:=⟨_,rfl⟩;rw [<-i] at za K⊢;replace i:=qj i;have Q:jO [] b0 W (W.alloc (.cells #[.func (.func gf) #[] #[.pointer g]] 219)):=(jO.refl _ _ _).alloc F _;have S:Hid (WS ((W.alloc (.cells #[.func (.func gf) #[] #[.pointer g]] 219)).alloc (.cells #[.slice none 0 0] 30)) b0 (W.heap.size+1) W.heap.size g (.func (.func gf) #[] #[.pointer g]) [] a):=by
  have U:b0<=(W.alloc (.cells #[.func (.func gf) #[] #[.pointer g]] 219)).heap.size:=qv F s8;have kx:=Q.alloc U (.cells #[.slice none 0 0] 30);refine⟨⟨none,0, ?_,qP _ _ _ _,uK⟩,(Blk.new W _ _).alloc _,h.keep kx s8 s8,qv U s8⟩;have:=Blk.new (W.alloc (.cells #[.func (.func gf) #[] #[.pointer g]] 219)) 30 #[.slice none 0 0];simpa using this
 have d:Hid (Below b0 W ((W.alloc (.cells #[.func (.func gf) #[] #[.pointer g]] 219)).alloc (.cells #[.slice none 0 0] 30))):=(Q.alloc (qv F s8) _).below;clear Q h;go_enter func134,ntmps134
 go_wp2_with fail;generalize (W.alloc (.cells #[.func (.func gf) #[] #[.pointer g]] 219)).alloc (.cells #[.slice none 0 0] 30)=w0 at*
 go_loopw [12] (λI wr=> ∃(k:Nat) (row:List UInt8) (o:List (List UInt8)),I=(k:Value)/\k<=N/\row.length<=k/\o.length<=a.length+k/\Hid (ZU f (s.drop k) row o=R)/\Hid (WS wr b0 (W.heap.size+1) W.heap.size g (.func (.func gf) #[] #[.pointer g]) row o)/\Hid (Below b0 W wr)) (λI _=>N-(intOf I).toNat)
 case atStart=>exact⟨0,[],a,rfl,qp _,qx _,qx _,Y,S,d⟩
 case round=>
  clear S d Y;obtain⟨k,row,o,rfl,hk,z',ho,t,HS,d⟩:=hrel;by_cases G:k<N
  ·have D':(k:Int)<(N:Int):=uK
   have hx:=Z.out k (i.out▸G);have b:=t.out;rw [EV f s row o k (i.out▸G)] at b;generalize s[k]'(i.out▸G)=z at*
   have j:=λW=>qj (tU z W);have p':=Bj f row o;obtain⟨y,P⟩: ∃y,y=fI z:=⟨_,rfl⟩;rw [<-P] at j b;replace P:=qj P;cases y with
   |some x=>
    rw [show(some x).getD (0:UInt8)=x from rfl,show(some x).isSome=true from rfl] at j
    obtain⟨A,c,r,u,m'⟩:=HS.row;have r0:=r.cell 0;have kr:=r.frozen 0;simp only [qR,qt] at r0;generalize C:row.length=n at*
    replace C:=qj C;have d':n+1<=maxLen:=SJ;have m:(n+1)*1<=140737488355328:=uK;have r:=qj r;have u:=qj u;replace b:Hid (ZU f (s.drop (k+1)) (row++[x]) o=R):=b;clear t l
    go_wp2_with fail;refine(j _).out.mono ?_;rintro e w' ⟨rfl,rfl⟩;clear j
    go_wp2_with (at_builtin;refine qF _ rfl (.tmp 23) (.tmp 25) 30 rfl b0 5 i0 (.int .u8 0) 1 1 qu hi M E O rfl uK A n c _ rfl (u.alloc _) (wr.heap.size+1) wr.heap.size 1 1 [B8 x] rfl (zU _ _ _) (one_one rfl) d' m (qv HS.bs s8) ?_;intro A3 c3 w3 V X _;obtain⟨⟨j3,k3⟩,h3,v⟩:=EX.push C r u m' HS.bs X V;replace h3:=qj (HS.out.Oh h3 v);replace v:=qj (d.trans v.below);clear V X)
    go_roundw
    case rel=>exact⟨k+1,row++[x],o,by first|rfl|simp,uK,by rw [qK,C.out];simp;omega,uK,b,h3,v⟩
    case measure=>simp [intOf];omega
   |none=>
    rw [show(none:Option UInt8).getD (0:UInt8)=0 from rfl,show(none:Option UInt8).isSome=false from rfl] at j
    have q:=l.out wr (W.heap.size+1) W.heap.size row o HS uK uK;replace b:Hid (ZU f (s.drop (k+1)) [] (VB f row o)=R):=b;clear t l
    go_wp2_with fail;refine(j _).out.mono ?_;rintro e w' ⟨rfl,rfl⟩;clear j
    go_wp2_with fail;refine q.mono ?_;rintro e w2 ⟨rfl,p,m⟩;have J:=qj p;have H:=qj (d.trans m);clear q p m HS d
    go_wp2_with fail;go_roundw
    case rel=>exact⟨k+1,[],VB f row o,by first|rfl|simp,uK,s8,uK,b,J,H⟩
    case measure=>simp [intOf];omega
  ·obtain rfl:k=N:=uK
   have q:=l.out wr (W.heap.size+1) W.heap.size row o HS uK uK;have p':=Bj f row o;have HF:Hid (R=VB f row o):=by rw [Hid,<-t.out,zD (by rw [<-i.out];exact qx _)];rfl
   clear l t
   go_wp2_with fail;refine q.mono ?_;rintro e w2 ⟨rfl,p,m⟩;have J:=qj p;have H:=qj (d.trans m);clear q p m HS d
   go_wp2_with fail
   go_end0
   rw [HF.out];exact⟨rfl,J.outs,H.out,uK⟩
theorem I_:Told 135 id:=λW b0 g b s h a c _=>tE W _ g b s h a c
theorem lz:Told 136 (64:: ·):=λW b0 g b s h a c d=>tR W _ g b s h a c uK
theorem mi (r:Rec):kp r=Go.Lib.compact (srt (ZU (64:: ·) r.src [] (ZU id r.txt [] []))):=by
 unfold srt;rw [eh,kf,kf];simp [kp,hH]
def Fl (W:World) (r:Rec) (e:Ending) (a:World):Prop:= ∃A c,e= .returned (.slice A (kp r).length c)/\a.ownsRow W 9 1 (.slice A (kp r).length c) (kp r).length ((kp r).map STR)/\Below W W a
theorem S0 (r:Rec) (W:World) (h1:r.src.length<=4000) (h2:r.txt.length<=4000):
  Calls prog 92 #[.agg (rcC r).toArray] W (Fl W r):=by
 unfold Fl;rw [mi];have s:Below W W (W.alloc (.cells (rcC r).toArray 45)):=(qZ _ _).alloc (qx _) _;have d:=(Blk.new W 45 (rcC r).toArray).alloc (.cells #[.slice none 0 0] 99);have f:Below W W ((W.alloc (.cells (rcC r).toArray 45)).alloc (.cells #[.slice none 0 0] 99)):=s.alloc s8 _;have a:ug ((W.alloc (.cells (rcC r).toArray 45)).alloc (.cells #[.slice none 0 0] 99)) (W.heap.size+1) (W.heap.size+1) []:=by
  refine⟨none,0, ?_,qP _ _ _ _,qx _⟩;have:=Blk.new (W.alloc (.cells (rcC r).toArray 45)) 99 #[.slice none 0 0];simpa using this
 have b:W.heap.size+1<=((W.alloc (.cells (rcC r).toArray 45)).alloc (.cells #[.slice none 0 0] 99)).heap.size:=s8;have k:=λu a w=>qj (UB 135 id I_ (enters_of func135 AL rfl) u (W.heap.size+1) (W.heap.size+1) r.txt [] a w SZ);have i:=λu o a w (hl:o.length<=10000)=>qj (UB 136 (64:: ·) lz (enters_of func136 AL rfl) u (W.heap.size+1) (W.heap.size+1) r.src o a w uK);replace k:=qj k;replace i:=qj i;have X:(rcC r)[2]? =some (STR r.src):=rfl;have V:(rcC r)[3]? =some (STR r.txt):=rfl;have j:=d.cell 2;have m:=d.cell 3;rw [qR,X] at j;rw [qR,V] at m;have Q:(rcC r).toArray= #[.int .u64 (r.time:Int), .int .u8 (r.level:Int),STR r.src,STR r.txt]:=rfl;rw [Q] at s d f a b j m⊢;generalize ZU id r.txt [] []=o1 at*
 obtain⟨T,l⟩: ∃T,T=Go.Lib.compact (srt (ZU (64:: ·) r.src [] o1)):=⟨_,rfl⟩;rw [<-l];replace l:=qj l;unfold STR at*
 generalize (ByteArray.mk r.txt.toArray)=Z at*
 generalize (ByteArray.mk r.src.toArray)=iL at*
 generalize (r.time:Int)=tm at*
 generalize (r.level:Int)=lv at*
 replace d:=qj d;replace f:=qj f;replace a:=qj a;replace b:=qj b;clear s Q X V;go_enter func92,ntmps92
 go_wp2_with fail;generalize (W.alloc (.cells #[.int .u64 tm, .int .u8 lv, .string iL, .string Z] 45)).alloc (.cells #[.slice none 0 0] 99)=w1 at*
 refine(k.out w1 a b).out.mono ?_;rintro e L ⟨rfl,N,g,U⟩;have d':o1.length<=10000:=by simp at U;omega
 have I:=qj N;have M:=qj (f.trans (g.mono (jv _)));have y:W.heap.size+1<=L.heap.size:=qv b g.size;have u':=(g.cell (p:=⟨W,2,none⟩) (ze _)).trans j;clear k N g U j m d a f b
 go_wp2_with fail;refine(i.out L o1 I y d').out.mono ?_;rintro e B ⟨rfl,p',x,G'⟩;generalize ZU (64:: ·) r.src [] o1=o2 at*
 obtain⟨A,c,q,C,-⟩:=p';have E:=q.cell 0;simp only [qR,qt] at E;have Y:=qj (M.trans (x.mono (jv _)));have v:W.heap.size+1<=B.heap.size:=qv y x.size;have D':o2.length<=100000:=uK;have H:=qj (Sl A o2 c (W.heap.size+1) o2 B C uK v);have S:=Wf o2;generalize R:o2.length=n at*
 replace R:=qj R;replace S:=qj S;have O:=qj q;clear i I M y u' q C x
 go_wp2_with fail;refine H.mono ?_;rintro e z ⟨rfl,K,h⟩;have D:=(h.blk O FV).cell 0
 simp only [qR,qt] at D;have J:=qj (Y.trans (h.below.mono (jv _)));have F:W.heap.size+1<=z.heap.size:=qv v h.size;have t:=qj (SL A n c (W.heap.size+1) (srt o2) z K uK F);rw [<-l.out] at t;clear H K h O Y v E
 go_wp2_with fail;refine t.mono ?_;rintro e w5 ⟨rfl,P,G⟩;have z':=qj (qi P (jv _));have m':=qj (J.trans (G.below.mono (jv _)));clear t P G J F D
 go_wp2_with fail;go_ret;exact⟨A,c,rfl,z'.out,m'.out⟩
theorem af (A:Option Addr) (n c:Nat) (w:World) (a:n<42):
  Calls prog 147 #[.slice A n c] w λe w'=>e= .returned (.tuple #[.slice none 0 0, .slice none 0 0, .bool false])/\w=w':=by
 have h1:(n:Int)<42:=uK;go_enter func147,ntmps147
 go_wp2_with fail
 go_ret3;exact⟨rfl,rfl⟩
theorem Gx (A:Option Addr) (n c:Nat) (w:World) (g:42<=n) (l:n<=c) (o:c<=maxLen) (k:n<=1000000000):
  Calls prog 147 #[.slice A n c] w λe w'=>e= .returned (.tuple #[.slice A 21 c, .slice (xo A c (n-21) 1) 21 (c-(n-21)), .bool true])/\Dr w w':=by
 obtain⟨f,hi,h,a,i⟩:=qA QB;have j:=Qm (P:=prog) 30 5 f 1 qu hi a A n c 21 .i64 uK;rw [show((21:Nat):Int)=21 from rfl] at j
 have b:=jI (P:=prog) 30 5 f 1 qu hi a A n c (n-21) .i64 uK;rw [show n-(n-21)=21 by omega] at b
 obtain⟨m,d⟩: ∃m,n=m+21:=⟨n-21,uK⟩;rw [show n-21=m by omega] at b⊢
 have h1: ¬(n:Int)<42:=uK;have h2:(n:Int)-21=(m:Int):=uK;have h3:(0:Int)<=(m:Int):=uK;have h4:(m:Int)<=(c:Int):=uK;have h5:(m:Int)<=(n:Int):=uK;have h6:(21:Int)<=(c:Int):=uK;have p:IntKind.i64.wrap (m:Int)=(m:Int):=SX;replace d:=qj d;clear hi h a i g k;go_enter func147,ntmps147
 go_wp2_with fail;refine zv 10 (λW=>True) AL trivial (λq=> ?_)
 refine zq [0,1,2] (a':= ?_) ?_;refine zq [3,4,5] (a':= ?_) ?_;refine zq [6,7,8,9] (a':= ?_) ?_;refine zV AL ?_ _
 go_wp2_with fail
 go_ret3;exact⟨rfl,(Dr.refl w).drewN 1⟩
theorem Gv (A:Option Addr) (n c B:Nat) (a:List UInt8) (w:World) (ht:Tab w) (h:Reads w B 1 A n (a.map B8)) (p:B<=w.heap.size) (q:n<=c) (o:c<=maxLen) (z:n<=1000000):
  Calls prog 148 #[.slice A n c] w λe w'=>e= .returned (.bool (Qw a))/\Below w.heap.size w w':=by
 have g:=Vr A n c a w ht (h.more p) q o uK;unfold Qr at g;have i:=λW (t:Below w.heap.size w W)=>kt A n c B a W q o (h.below (t.mono p));rw [(Vf a).1,(Vf a).2] at i;obtain⟨R,b⟩: ∃R,R=Qw a:=⟨_,rfl⟩;rw [<-b];unfold Qw at b;generalize QH a=E at*
 generalize vR a=v at*
 generalize V6 a=F at*
 generalize XQ a=V at*
 replace g:=qj g;replace i:=qj i;replace b:=qj b;clear ht h;go_enter func148,ntmps148
 go_wp2_with fail;refine g.mono ?_;rintro e s ⟨u,c1,rfl,r⟩;have f:=qj r.2;have m:=qj (i.out s f);clear g i r
 go_wp2_with fail;refine m.mono ?_;rintro e y ⟨rfl,rfl⟩;clear m;by_cases k:E=0
 ·subst k
  by_cases hF:F=0
  ·subst hF
   by_cases j:V=3
   ·subst j
    have d:Hid (R=true):=by rw [Hid,b.out];rfl
    go_wp2_with fail;go_ret;rw [d.out];exact⟨rfl,f.out⟩
   ·have d:Hid (R=false):=by rw [Hid,b.out,qc j];rfl
    have l:(V==3)=false:=by simpa using j
    have x:decide (V=3)=false:=qc j
    go_wp2_with fail;go_ret;rw [d.out];exact⟨rfl,f.out⟩
  ·have d:Hid (R=false):=by rw [Hid,b.out,qc hF];simp
   have l:(F==0)=false:=by simpa using hF
   go_wp2_with fail;go_ret;rw [d.out];exact⟨rfl,f.out⟩
 ·have d:Hid (R=false):=by rw [Hid,b.out,qc k];simp
  have l:(E==0)=false:=by simpa using k
  go_wp2_with fail;go_ret;rw [d.out];exact⟨rfl,f.out⟩
def oK (W:World) (B:Nat) (r:Int×qn) (e:Ending) (c:World):Prop:=
 ∃d a b,a=r.2.length/\e= .returned (.tuple #[.slice d a b, .int .i64 r.1])/\Reads c B 1 d a (r.2.map B8)/\a<=b/\b<=maxLen/\Below W W c
theorem uW (b:List UInt8) (h:42<=b.length):(Zj b).length=21/\(Jw b).length=21:=by
 unfold Zj Jw;rw [qh,qI];omega
theorem Gy (A:Option Addr) (n c B:Nat) (b:List UInt8) (w:World) (ht:Tab w) (h:Reads w B 1 A n (b.map B8)) (o:B<=w.heap.size) (L:n<=c) (t:c<=maxLen) (T:n<=1000000000):
  Calls prog 105 #[.slice A n c] w (oK w B (UN b)):=by
 have q:b.length=n:=h.len;obtain⟨R,d⟩: ∃R,R=UN b:=⟨_,rfl⟩;rw [<-d];unfold UN at d;by_cases O:n<42
 ·have j:=qj (af A n c w O)
  have f:Hid (R=(1,[])):=by rw [Hid,d,qk uK]
  clear ht h d q;go_enter func105,ntmps105
  go_wp2_with fail;refine j.mono ?_;rintro e K ⟨rfl,rfl⟩;clear j
  go_wp2_with fail
  go_ret2;rw [f.out];exact⟨none,0,0,rfl,rfl,Reads.none_,qx _,FV,qZ _ _⟩
 rw [qJ uK] at d;obtain⟨s,l2⟩:=uW b uK;have j:=qj (Gx A n c w uK L t T);have m:Hid (∀W,Below w w W->Reads W B 1 A 21 ((Zj b).map B8)):=λW a=>(h.below (a.mono o)).takeN uK;have l:Hid (∀W,Below w w W->Reads W B 1 (xo A c (n-21) 1) 21 ((Jw b).map B8)):=λW a=>by
  have:=(h.below (a.mono o)).VC (k:=n-21) uK L;rw [show n-(n-21)=21 by omega] at this
  unfold Jw;rw [q];exact this
 have M:=qj (λW a=>Gv A 21 c B (Zj b) W (ht.below a ht.pos) (m.out W a) (qv o a.size) uK t uK);have r:=qj (λW a=>Gv (xo A c (n-21) 1) 21 (c-(n-21)) B (Jw b) W (ht.below a ht.pos) (l.out W a) (qv o a.size) uK uK uK);generalize Zj b=D at*
 generalize Jw b=E at*
 generalize Qw D=x at*
 generalize Qw E=y at*
 generalize P:xo A c (n-21) 1=S at*
 generalize Q:c-(n-21)=c2 at*
 replace d:=qj d;have z:Hid (21<=c/\21<=c2/\c2<=maxLen):=by rw [Hid];omega
 replace s:=qj s;replace l2:=qj l2;clear ht h q P Q;go_enter func105,ntmps105
 go_wp2_with fail;refine j.mono ?_;rintro e K ⟨rfl,F⟩;have p:=qj (F.below w);have G:=qj (M.out K p);clear j F M
 go_wp2_with fail;refine G.mono ?_;rintro e I ⟨rfl,C⟩;have i:=qj (p.trans (C.mono p.size));clear G C;cases x
 case true=>
  have f:Hid (R=(0,D)):=by rw [Hid,d.out,qk rfl]
  have v:=qj (m.out I i);clear r m l
  go_wp2_with fail
  go_ret2;rw [f.out];exact⟨A,21,c,s.symm,rfl,v.out,z.out.1,t,i.out⟩
 have g:=d.out;rw [qJ s8] at g;have H:=qj (r.out I i);replace g:=qj g;clear r m d
 go_wp2_with fail;refine H.mono ?_;rintro e N ⟨rfl,J⟩;have u:=qj (i.trans (J.mono i.size));clear H J;cases y
 case true=>
  have f:Hid (R=(0,E)):=by rw [Hid,g.out,qk rfl]
  have v:=qj (l.out N u);clear l
  go_wp2_with fail
  go_ret2;rw [f.out];exact⟨S,21,c2,l2.symm,rfl,v.out,z.out.2.1,z.out.2.2,u.out⟩
 have f:Hid (R=(5,[])):=by rw [Hid,g.out,qJ s8]
 clear l
 go_wp2_with fail
 go_ret2;rw [f.out];exact⟨none,0,0,rfl,rfl,Reads.none_,qx _,FV,u.out⟩
theorem aF (A:Option Addr) (n c B:Nat) (b:List UInt8) (w:World) (ht:Tab w) (h:Reads w B 1 A n (b.map B8)) (o:B<=w.heap.size) (l:n<=c) (m:c<=maxLen) (k:n<=1000000000):
  Calls prog 74 #[.slice A n c] w λe w'=>e= .returned (.bool (dp b))/\Below w w w':=by
 have d:=Gy A n c B b w ht h o l m k;obtain⟨R,a⟩: ∃R,R=dp b:=⟨_,rfl⟩;rw [<-a];unfold dp at a;unfold oK at d;generalize UN b=r at*
 obtain⟨E,s⟩:=r;dsimp only at a d;replace d:=qj d;replace a:=qj a;clear ht h;go_enter func74,ntmps74
 go_wp2_with fail;refine d.mono ?_;rintro e u ⟨q,v,c1,-,rfl,-,-,-,j⟩;have i:=qj j;clear d j;by_cases f:E=0
 ·subst f
  have g:Hid (R=true):=a.out
  go_wp2_with fail;go_ret;rw [g.out];exact⟨rfl,i.out⟩
 ·have g:Hid (R=false):=by rw [Hid,a.out];exact qc f
  have p:(E==0)=false:=by simpa using f
  have t:decide (E=0)=false:=qc f
  go_wp2_with fail;go_ret;rw [g.out];exact⟨rfl,i.out⟩
theorem rB (A:Option Addr) (n c B:Nat) (b:List UInt8) (w:World) (ht:Tab w) (h:Reads w B 1 A n (b.map B8)) (t:B<=w.heap.size) (s:n<=c) (r:c<=maxLen) (u:n<=1000000000):
  Calls prog 43 #[.slice A n c] w λe w'=>e= .returned (.tuple #[.int .i64 (Z7 b), .int .i64 (YU b)])/\Below w w w':=by
 have m:=kt A n c B b w s r h;rw [(Vf b).1,(Vf b).2] at m;have i:=aF A n c B b w ht h t s r u;obtain⟨o,g⟩: ∃R,R=Z7 b:=⟨_,rfl⟩;obtain⟨l,f⟩: ∃R,R=YU b:=⟨_,rfl⟩;rw [<-g,<-f];unfold Z7 at g;unfold YU at f;generalize XQ b=V at*
 generalize V6 b=E at*
 generalize dp b=x at*
 replace m:=qj m;replace i:=qj i;replace g:=qj g;replace f:=qj f;clear ht h;go_enter func43,ntmps43
 go_wp2_with fail;refine m.mono ?_;rintro e D ⟨rfl,rfl⟩;clear m;by_cases h1:V=1
 ·subst h1
  have d:Hid (o=1):=g.out;have a:Hid (l=0):=f.out;clear i
  go_wp2_with fail
  go_ret2;rw [d.out,a.out];exact⟨rfl,qZ _ _⟩
 have v:(V==1)=false:=by simpa using h1
 by_cases h2:V=2
 ·subst h2
  have d:Hid (o=2):=g.out;have a:Hid (l=0):=f.out;clear i
  go_wp2_with fail
  go_ret2;rw [d.out,a.out];exact⟨rfl,qZ _ _⟩
 have C:(V==2)=false:=by simpa using h2
 have j:=g.out;have k:=f.out;rw [qJ uK] at j k;replace j:=qj j;replace k:=qj k;clear g f
 go_wp2_with fail;refine i.mono ?_;rintro e z ⟨rfl,q⟩;have p:=qj q;clear i q;cases x
 case true=>
  have d:Hid (o=3):=j.out;have a:Hid (l=0):=k.out
  go_wp2_with fail
  go_ret2;rw [d.out,a.out];exact⟨rfl,p.out⟩
 by_cases h3:V=3
 ·subst h3
  have d:Hid (o=0):=j.out;have a:Hid (l=5):=k.out
  go_wp2_with fail
  go_ret2;rw [d.out,a.out];exact⟨rfl,p.out⟩
 ·have y:(V==3)=false:=by simpa using h3
  have d:Hid (o=0):=j.out;have a:Hid (l=E):=by rw [Hid,k.out,qJ s8,qJ h3]
  go_wp2_with fail
  go_ret2;rw [d.out,a.out];exact⟨rfl,p.out⟩
end Go.Proofs.YtfnlfpcfkbdcmaaGreatDoor
