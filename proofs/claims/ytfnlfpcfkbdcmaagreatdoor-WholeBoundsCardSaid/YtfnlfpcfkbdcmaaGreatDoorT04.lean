import Derived.Test.YtfnlfpcfkbdcmaaGreatDoorT00
import Derived.Test.YtfnlfpcfkbdcmaaGreatDoorT01
import Derived.Test.YtfnlfpcfkbdcmaaGreatDoorT02
set_option linter.unusedSimpArgs false
set_option linter.unusedVariables false
set_option maxRecDepth 100000
set_option maxHeartbeats 0
open Go.Proofs.Tryz
namespace Go.Proofs.YtfnlfpcfkbdcmaaGreatDoor
section
open Go.RowKit
theorem PK (a:O) (w:I) (d:a<256):
  xG 222 #[gR a] w λe w'=>e=t' (gR (hQ a))/\w=w':=by
 have b:=II a d;have f:bits .xor .u8 ((a:V)*2%256) 29=(((a*2%256)^^^29:O):V):=u8_xor_nat (a*2%256) 29 M M;by_cases h:a.testBit 7=true
 ·rw [h] at b;go_in;go_wp2;go_ret;exact⟨Jy (by rw [hQ,qk h,Nat.shiftLeft_eq]),rfl⟩
 ·have c:a.testBit 7=false:=by simpa using h
  rw [c] at b;go_in;go_wp2;go_ret;exact⟨Jy (by rw [hQ,qJ h,Nat.shiftLeft_eq];omega),rfl⟩
theorem cU (a b:O) (w:I) (A:a<256) (t:b<256):
  xG 221 #[gR a,gR b] w λe w'=>e=t' (gR (gm a b))/\w=w':=by
 go_in;go_wp2;go_loop [0,1,5] (λx y o=> ∃k l f g:O,x=gR l/\y=gR f/\o=gR g/\l<256/\f<256/\g<256/\f<2^k/\Xd k l f g=gm a b) (λ_ y _=>(intOf y).toNat)
 ·exact⟨8,a,b,0,rfl,rfl,rfl,A,t,M,t,rfl⟩
 ·obtain⟨k,x,y,o,rfl,rfl,rfl,c,B,i,p,r⟩:=hrel;have m:=T r;clear r;by_cases h0:y=0
  ·have v:G (o=gm a b):=by
    have h:=m.out;rw [h0,RY] at h;exact h
   have u:((y:V) !=0)=false:=by simp [h0]
   clear h0;go_wp2;go_ret;exact⟨Jy (by rw [v.out]),rfl⟩
  ·obtain⟨k,rfl⟩: ∃j,k=j+1:=by
    cases k with
    |zero=>exact absurd p SZ
    |succ j=>exact⟨j,rfl⟩
   have s:y/2<2^k:=by rw [vB] at p;omega
   have u:((y:V) !=0)=true:=by simp [h0]
   have d:=Il y B;have D:=u8_xor_nat o x i c;have z:o^^^x<256:=vz (n:=8) i c;have C:1<=y:=M;clear h0 p;by_cases h1:y%2=1
   focus
    have h2:(bits .and .u8 (y:V) 1==1)=true:=by rw [d,h1];rfl
    have q:G (Xd k (hQ x) (y/2) (o^^^x)=gm a b):=by
     have h:=m.out;rw [Xd,qk h1] at h;exact h
   rotate_left
   focus
    have h2:(bits .and .u8 (y:V) 1==1)=false:=by rw [d];simp;omega
    have q:G (Xd k (hQ x) (y/2) o=gm a b):=by
     have h:=m.out;rw [Xd,qJ h1] at h;exact h
   rotate_left
   all_goals
    clear h1 d;go_wp2_with (go_at_call 222;refine(PK _ _ c).mono ?_;rintro e w' ⟨rfl,rfl⟩)
   ·go_round
    case rel=>exact⟨k,hQ x,y/2,o^^^x,rfl,rfl,rfl,wK x,M,z,s,q⟩
    case measure=>simp [intOf];omega
   ·go_round
    case rel=>exact⟨k,hQ x,y/2,o,rfl,rfl,rfl,wK x,M,i,s,q⟩
    case measure=>simp [intOf];omega
theorem o9 (a n:O) (w:I) (r:a<256):
  xG 186 #[gR a, .int .u64 n] w λe w'=>e=t' (gR (yi a n))/\w=w':=by
 by_cases h0:n=0
 ·have v:((n:V)==0)=true:=by simp [h0]
  have d:G (yi a n=1):=by rw [h0];rfl
  clear h0;go_in;go_wp2;go_ret;exact⟨Jy (by rw [d.out];rfl),rfl⟩
 ·have v:((n:V)==0)=false:=by simp [h0]
  by_cases h1:a=0
  ·have s:((a:V)==0)=true:=by simp [h1]
   have d:G (yi a n=0):=by rw [h1];exact H_ n h0
   clear h0 h1;go_in;go_wp2;go_ret;exact⟨Jy (by rw [d.out];rfl),rfl⟩
  ·have s:((a:V)==0)=false:=by simp [h1]
   have d:=T (NR a n h1 r);clear h0 h1;go_in;go_wp2;go_loop [0,1,5] (λx y o=> ∃j m i:O,x=gR j/\y= .int .u64 m/\o=gR i/\j<256/\m<256/\i<256/\gm i (yi j m)=yi a (n%255)) (λ_ y _=>(intOf y).toNat)
   ·exact⟨a,n%255,1,rfl,rfl,rfl,r,M,M,dj _ (YK _ _)⟩
   ·obtain⟨x,y,o,rfl,rfl,rfl,b,z,c,q⟩:=hrel;have l:=T q;clear q;by_cases k:y=0
    ·have f:G (o=yi a n):=by
      have h:=l.out;rw [k,yi,fE o c,d.out] at h;exact h
     have u: ¬(0:V)<(y:V):=M;clear k;go_wp2;go_ret;exact⟨Jy (by rw [f.out]),rfl⟩
    ·have u:=yn y;have g:=cP y M;have t:=uI o x c;have p:=uI x x b;clear k;by_cases h1:y%2=1
     ·have h2:(bits .and .u64 (y:V) 1==1)=true:=by rw [g,h1];rfl
      have f:=T ((Gb o x y c b h1).trans l.out);clear h1 g;go_wp2_with fail;refine Ω (cU _ _ _ c b) ?_;go_wp2_with fail;refine Ω (cU _ _ _ b b) ?_;go_wp2;go_round
      case rel=>exact⟨gm x x,y/2,gm o x,rfl,rfl,rfl,p,M,t,f⟩
      case measure=>simp [intOf];omega
     ·have h2:(bits .and .u64 (y:V) 1==1)=false:=by rw [g];simp;omega
      have f:=T ((fR o x y b h1).trans l.out);clear h1 g;go_wp2_with fail;refine Ω (cU _ _ _ b b) ?_;go_wp2;go_round
      case rel=>exact⟨gm x x,y/2,o,rfl,rfl,rfl,p,M,c,f⟩
      case measure=>simp [intOf];omega
theorem wG (a:O) (w:I) (c:a<256):
  xG 144 #[gR a] w λe w'=>e=t' (BA #[gR (tv a),e' (e13 a)])/\w=w':=by
 by_cases h0:a=0
 ·have d:((a:V)==0)=true:=by simp [h0]
  have H:G (tv a=0/\e13 a=13):=by rw [h0];exact⟨sW,rfl⟩
  clear h0;go_wp2;go_ret2;exact⟨wF (by rw [H.out.1];rfl) (by rw [H.out.2]),rfl⟩
 ·have d:((a:V)==0)=false:=by simp [h0]
  have H:G (e13 a=0):=qJ h0;have b:=o9 a 254 w c;rw [<-D6] at b;replace b:=T b;clear h0;go_in;go_wp2_with fail;refine Ω (b.out) ?_;go_wp2;go_ret2;exact⟨wF rfl (by rw [H.out]),rfl⟩
def JR:Array Value:=Array.replicate 256 (gR 0)
theorem YL:(prog.info? 282).map (λi=>(i.zero,i.size))=J (some (.agg JR),256):=AL
def vt (c:O):Array Value:=((List.range 256).map λi=>Value.int .u8 ((gm c i:O):V)).toArray
theorem Jt (c:O):(vt c).size=256:=by simp [vt]
theorem pP (c i:O) (h:i<256):(vt c)[i]? =J (gR ((gm c i:O):V)):=by
 simp [vt,h]
theorem Kt (c:O):(vt c).all (·.oneCell')=true:=by
 unfold vt;rw [List.all_toArray,List.all_map];exact xT.2 λ_ _=>rfl
theorem uV (c:O):JR.size=(vt c).size:=by rw [Jt];simp [JR]
theorem Mc (c:O) (w:I) (u:c<256):
  xG 187 #[gR c] w λe w'=>e=t' (.agg (vt c))/\r' w w w':=by
 have B:=(jb YL).1;go_in;go_wp2_with fail;have t:r' w w ((w (Y JR 282)) (Y JR 282)):=(j1 _).alloc s8 _;have q:F' ((w (Y JR 282)) (Y JR 282)) w 282 JR:=(F'.new w _ _).alloc _;have s:F' ((w (Y JR 282)) (Y JR 282)) ((w:O)+1) 282 JR:=heap_alloc2_new w _ _;generalize (w (Y JR 282)) (Y JR 282)=H at*;revert t q s;refine vn ?_;intro t q s;go_loopw [4] (λi wr=> ∃k:O,i=(k:la)/\1<=k/\k<=256/\G (r' w w wr)/\G (F' wr w 282 JR)/\
   ∃d:Array la,G (F' wr ((w:O)+1) 282 d)/\G (d.size=256)/\G (∀j,j<k->d[j]? =J (gR ((gm c j:O):V)))) (λi _=>(256-intOf i).toNat)
 ·
  refine⟨1,rfl,M,M,t,q,JR,s,by simp [JR,Hid],λj o=> ?_⟩;obtain rfl:j=0:=M;rw [D5];rfl
 ·obtain⟨k,rfl,K,F,r,n,d,f,b,l⟩:=hrel;by_cases m:k<256
  ·have x:i' wr ⟨(w:O)+1,k/2,none⟩=J (gR ((gm c (k/2):O):V)):=by
    rw [f.cell,l.out _ M]
   have A:wr.frozen? ⟨(w:O)+1,k,none⟩=false:=f.frozen _;obtain⟨v,z⟩: ∃v,i' wr ⟨(w:O)+1,k,none⟩=some v:=by
    rw [f.cell];have D:k<d.size:=by rw [b.out];exact m
    exact⟨d[k],by simp [D]⟩
   have y:=uI c (k/2) u;have E:=u8_xor_nat (hQ (gm c (k/2))) c (wK _) u;have a:=iW c k u m;by_cases h1:k%2=1
   focus
    have h2:((k:V)%2==1)=true:=by rw [yp];omega
    rw [qk h1] at a;replace a:=T a;clear h1
   rotate_left
   focus
    have h2:((k:V)%2==1)=false:=by rw [zE];omega
    rw [qJ h1] at a;replace a:=T a;clear h1 E
   rotate_left
   all_goals
    go_wp2_with fail;refine Ω (PK _ _ y) ?_;go_wp2_with fail;clear x A z
   ·go_roundw
    case rel=>
     refine⟨k+1,xh,M,M,(r.setCell (p:=⟨(w:O)+1,k,none⟩) (jv _) _).setCell (p:=⟨(w:O)+1,k,none⟩) (jv _) _,
      (n.far (p:=⟨(w:O)+1,k,none⟩) (vV (ze _)) _).far (p:=⟨(w:O)+1,k,none⟩) (vV (ze _)) _,_,(f.zh _ _).zh _ _,by simpa [Hid] using b.out,λj o=> ?_⟩
     rw [jM,jM];by_cases g:k=j
     ·subst g;simp [b.out,m,a.out]
     ·rw [qJ g,qJ g];exact l j M
    case measure=>simp [intOf];omega
   ·go_roundw
    case rel=>
     refine⟨k+1,xh,M,M,r.setCell (p:=⟨(w:O)+1,k,none⟩) (jv _) _,
      n.far (p:=⟨(w:O)+1,k,none⟩) (vV (ze _)) _,_,f.zh _ _,by simpa [Hid] using b.out,λj o=> ?_⟩
     rw [jM];by_cases g:k=j
     ·subst g;simp [b.out,m,a.out]
     ·rw [qJ g];exact l j M
    case measure=>simp [intOf];omega
  ·have C:d=vt c:=by
    apply ZD;intro j;by_cases o:j<256
    ·rw [l.out j M,pP c j o]
    ·rw [zg (by rw [b.out];omega),zg (by rw [Jt];omega)]
   subst C;have h:(prog.info? 282).map (·.size)=J (vt c).size:=by rw [Jt];exact(jb YL).2
   replace h:=T h;clear l b B;go_wp2_with (first
    |(refine ja rfl 282 _ rfl ((w:O)+1) rfl 282 (vt c) (0,0) _ f underlying282 rfl h ?_)
    |(refine qC rfl 282 _ _ rfl w (vt c) rfl rfl 282 JR n h (uV c) (Kt c) ?_))
   exact qW (results_cell_row rfl _ _ w _ _ _ _ rfl (n.row _) underlying282 rfl h) rfl ⟨rfl,zu r (qx _) _⟩
theorem LQ (a b:AB):bits .xor .u8 (a.toNat:V) (b.toNat:V)=((a^^^b).toNat:V):=by
 rw [u8_xor_nat _ _ a.toNat_lt b.toNat_lt,J1]
theorem wH {a:qn} {k:O} {b:AB} (h:a[k]? =some b):a.getD k 0=b:=by
 rw [qd,h];rfl
theorem oV:(prog.info? 5).map (λi=>(i.zero,i.size,i.bytes))=J (some (gR 0),1,1):=AL
theorem wR (A P:Option Addr) (n u c c':O) (a b:S AB) (f:AB) (w:I) (h1:E' w w 1 A n (a.map B8)) (h2:E' w w 1 P u (b.map B8)) (hn:n<=1000000000) (N':u<=1000000000):
  xG 145 #[Z A n c,gR (f.toNat:V),Z P u c'] w (Qr 5 w (sS a f b) (NT a b)):=by
 have K:=h1.len;have l2:=h2.len;by_cases iv:n=u
 ·subst iv
  have l:G (sS a f b=Ds a f b/\NT a b=0):=⟨qk M,qk M⟩;have H1:=T h1;have H2:=T h2;have cL:=T K;clear h1 h2 K l2;obtain⟨i0,hi,F,z,ln⟩:=qA oV;have hz:=(jb YL).1;have ih:(prog.info? 282).map (·.size)=J (vt f.toNat).size:=by rw [Jt];exact(jb YL).2
  replace ih:=T ih;replace hi:=T hi;replace F:=T F;replace z:=T z;replace ln:=T ln;go_enter func145,ntmps145
  go_wp2_with fail;refine(Mc _ _ f.toNat_lt).mono ?_;rintro e s ⟨rfl,o⟩;replace o:=T o
  go_wp2_with (first
   |(refine Yo rfl 282 _ _ rfl s (vt f.toNat) rfl rfl 282 JR (F'.new _ _ _) ih (uV _) (Kt _) ?_;intro L D uK B q;replace D:=T D;replace uK:=T uK;replace B:=T B;replace q:=T q)
   |(at_make;refine xP _ rfl _ _ 30 rfl w 5 i0 (gR 0) 1 qu hi F z .i64 .i64 _ _ n rfl rfl rfl rfl ?_ ?_ ?_ ?_;rotate_left 3;intro H E r;replace E:=T E;replace r:=T r))
  rotate_left 1
  ·rw [ln.out];omega
  ·unfold maxLen;omega
  ·rw [q.out];simp;have:=o.size;omega
  have OX:(s:O)<(L:O):=by rw [q.out];simp
  have W:(w:O)<=(s:O):=o.size;have J':G (F' H s 282 (vt f.toNat)):=D.grown r s8;have G':G (r' w w H):=(B.out _ _ (o.alloc W _) W).grown r M s8;have iL:G (xp H w 5 1 (Z L n n) n (madeCells #[Value.int .u8 0] n).toList):=by
   have h:=E.out;rw [z_] at h;exact h
  clear E r D uK B q o hz hi F z ln;generalize (L:O)=g at*
  generalize (s:O)=hh at*
  go_loopw [24] (λi wr=> ∃k:O,i=(k:la)/\k<=n/\G (r' w w wr)/\G (F' wr hh 282 (vt f.toNat))/\
   ∃m:S la,G (xp wr w 5 1 (Z g n n) n m)/\G (∀j,j<k->m[j]? =J (B8 (a.getD j 0^^^fm f (b.getD j 0))))) (λi _=>n-(intOf i).toNat)
  case atStart=>exact⟨0,rfl,M,G',J',_,iL,λj t=>absurd t M⟩
  case round=>
   obtain⟨k,rfl,hk,C,cK,m,d,ck⟩:=hrel;by_cases R:k<n
   ·obtain⟨ad,x,rfl,hb,qj,u'⟩:=(H1.below C).byte R
    obtain⟨N6,y,rfl,m',cB,d'⟩:=(H2.below C).byte R;have p':i' wr ⟨hh,y.toNat,none⟩=J (gR ((fm f y).toNat:V)):=by
     rw [cK.cell,pP _ _ y.toNat_lt,Z5]
    have z':wr.frozen? ⟨g,k,none⟩=false:=d.frozenAt k;obtain⟨v,hv⟩: ∃v,i' wr ⟨g,k,none⟩=some v:=by
     rw [d.cellAt k M];have N:k<U m:=by have:=d.out.1;omega
     exact⟨m[k],qX N⟩
    have Q:G (a.getD k 0=x/\b.getD k 0=y):=⟨wH qj,wH cB⟩;have O':=LQ x (fm f y);have bx:x.toNat<256:=x.toNat_lt;have M':y.toNat<256:=y.toNat_lt;clear qj cB hb m'
    go_wp2_with fail;clear p' z' hv u' d';go_roundw
    case rel=>
     obtain⟨I',N9⟩:=d.stored k (gR ((x.toNat^^^(fm f y).toNat:O):V));refine⟨k+1,by go_num,M,C.setCell (p:=⟨g,k,none⟩) (by show (w:O)<=g;omega) _,cK.far (p:=⟨g,k,none⟩) (by show hh≠g;omega) _,_,I',λj t=> ?_⟩
     by_cases X:k=j
     ·subst X
      have N:k<U m:=by have:=d.out.1;omega
      rw [Qq N,Q.out.1,Q.out.2,B8,J1]
     ·rw [Z_ X];exact ck j M
    case measure=>simp [intOf];omega
   ·obtain rfl:k=n:=M
    have D':m=(Ds a f b).map B8:=by
     apply zm
     intro j;by_cases t:j<k
     ·rw [ck.out j t,qD,GB _ _ _ _ (by rw [cL.out];exact t)];rfl
     ·rw [qO (by have:=d.out.1;omega),qO (by rw [zH,Yp,cL.out];omega)]
    subst D'
    go_wp2_with fail
    go_ret2;have cY:U (Ds a f b)=k:=by rw [Yp,cL.out]
    refine⟨some ⟨g,0,none⟩,k, ?_, ?_⟩
    ·rw [l.out.1,l.out.2,cY];rfl
    ·rw [l.out.1,cY];exact⟨d.out,C.out⟩
 ·have he:((n:V) !=(u:V))=true:=by rw [yo];omega
  have l:G (sS a f b=[]/\NT a b=13):=⟨qJ M,qJ M⟩;clear iv h1 h2 K l2;go_enter func145,ntmps145
  go_wp2_with fail
  go_ret2;exact⟨none,0,by rw [l.out.1,l.out.2];rfl,by rw [l.out.1];exact yG.nil w _⟩
end
def pd (t:O×O×O):O×O×O×Nat:=
 if t.2.1=0 then(t.1,0,0,0) else(257+Nat.log2 (t.2.1-2),(t.2.1-2)-2^Nat.log2 (t.2.1-2),Nat.log2 t.2.2,t.2.2-2^Nat.log2 t.2.2)
def pz (l:S (O×O×O)):S Nat:=(List.range 265).map λs=>U (l.filter λt=>(pd t).1==s)+(if s=256 then 1 else 0)
def LW (l:S (O×O×O)):S Nat:=(List.range 12).map λs=>U (l.filter λt=>decide (256<(pd t).1)&&((pd t).2.2.1==s))
def DT (ls lf:qn) (s:Bw) (t:O×O×O):Bw:=
 if(pd t).1<256 then HU ls s (pd t).1
 else PR (HU lf (PR (HU ls s (pd t).1) (pd t).2.1 (((pd t).1:V)-257)) (pd t).2.2.1) (pd t).2.2.2 (pd t).2.2.1
def P1 (l:S (O×O×O)):qn:=X6 (pz l) 15
def de (l:S (O×O×O)):qn:=X6 (LW l) 15
def iT (l:S (O×O×O)):Bw:=HU (P1 l) (l.foldl (DT (P1 l) (de l)) (C4 (C4 ⟨[],0⟩ (P1 l)) (de l))) 256
def Sf (l:S (O×O×O)):qn:=(iT l).b
def YC (lf b:qn) (sym at_:O):V×(O×V×V)×Nat:=
 if kq b at_<sym-257 then(1,(0,0,0),at_)
 else if G5 lf b (at_+(sym-257))≠0 then(G5 lf b (at_+(sym-257)),(0,0,0),at_+(sym-257))
 else if kq b (Hr lf b (at_+(sym-257)))<(b9 lf b (at_+(sym-257))).toNat then(1,(0,0,0),Hr lf b (at_+(sym-257)))
 else(0,(0,((2+2^(sym-257)+kM b at_ (sym-257):O):V),((2^(b9 lf b (at_+(sym-257))).toNat+kM b (Hr lf b (at_+(sym-257))) (b9 lf b (at_+(sym-257))).toNat:O):V)),
  Hr lf b (at_+(sym-257))+(b9 lf b (at_+(sym-257))).toNat)
def XR (ls lf b:qn) (at_:O):V×Bool×(O×V×V)×Nat:=
 if G5 ls b at_≠0 then(G5 ls b at_,false,(0,0,0),Hr ls b at_)
 else if b9 ls b at_=256 then(0,false,(0,0,0),Hr ls b at_)
 else if b9 ls b at_<256 then(0,true,((b9 ls b at_).toNat,0,0),Hr ls b at_)
 else((YC lf b (b9 ls b at_).toNat (Hr ls b at_)).1,decide ((YC lf b (b9 ls b at_).toNat (Hr ls b at_)).1=0),(YC lf b (b9 ls b at_).toNat (Hr ls b at_)).2)
def ae (ls lf b:qn):O->V->O->S (O×V×V)->V×S (O×V×V)×O
 |0,_,at_,_=>(6,[],at_)
 |f+1,c,at_,a=>
  if(XR ls lf b at_).1≠0 then((XR ls lf b at_).1,[],(XR ls lf b at_).2.2.2)
  else if(XR ls lf b at_).2.1=false then(if cJ b (XR ls lf b at_).2.2.2≠0 then(2,[],(XR ls lf b at_).2.2.2) else(0,a,(XR ls lf b at_).2.2.2))
  else if c<max 1 (XR ls lf b at_).2.2.1.2.1 then(6,[],(XR ls lf b at_).2.2.2)
  else ae ls lf b f (c-max 1 (XR ls lf b at_).2.2.1.2.1) (XR ls lf b at_).2.2.2 (a++[(XR ls lf b at_).2.2.1])
def B2 (b:qn) (a:O):V×S (O×V×V):=
 if(gq b 265 0).1≠0 then((gq b 265 0).1,[])
 else if(gq b 12 (gq b 265 0).2.2).1≠0 then((gq b 12 (gq b 265 0).2.2).1,[])
 else((ae (gq b 265 0).2.1 (gq b 12 (gq b 265 0).2.2).2.1 b (a+1) a (gq b 12 (gq b 265 0).2.2).2.2 []).1,
  (ae (gq b 265 0).2.1 (gq b 12 (gq b 265 0).2.2).2.1 b (a+1) a (gq b 12 (gq b 265 0).2.2).2.2 []).2.1)
def Kh (b:qn):qn:=Sf (Bs b)
def sy (a:Bool) (b:qn):Bool:= !a&&decide (U (Kh b)<U b)
def uX (a:Bool) (b:qn):qn:=if sy a b=true then Kh b else b
def Mi (b:qn):Int:=if 32768<U b then 6 else 0
def nv (w:Bool) (n:O) (a:qn):qn:=dc ([if w then 1 else 0]++kD n++kD (U a)++a)
def Rv (b:qn) (a:Bool):qn:=if Mi b=0 then nv (sy a b) b (uX a b) else []
def g8 (b:qn):AB×Cu:=j_ b ⟨0,0⟩
def TT (b:qn):Cu:=if 1<(g8 b).1.toNat then vP (g8 b).2 2 else(g8 b).2
def GR (b:qn):O×Cu:=jU b 32768 (TT b)
def pr (b:qn):O×Cu:=jU b 32768 (GR b).2
def B3 (b:qn):Cu:=if 1032*(pr b).1+64<(GR b).1 then vP (pr b).2 6 else(pr b).2
def gL (b:qn):qn×Cu:=jW b (pr b).1 (B3 b)
def Hf (b:qn):Cu:=(jW b 4 (gL b).2).2
def hZ (b:qn):Cu:=if(Hf b).err≠0 then Hf b else vP (Hf b) (QH (b.take (Hf b).at_))
def bb (w:O) (n p:O) (a:qn):V×qn:=
 if w=0 then(if n≠p then(2,[]) else(0,a))
 else if(B2 a n).1≠0 then((B2 a n).1,[])
 else if(Yc n (B2 a n).2).1≠0 then((Yc n (B2 a n).2).1,[])
 else if(Yc n (B2 a n).2).2.length<n then(2,[]) else(0,(Yc n (B2 a n).2).2)
def fc (b:qn):Int:=if(hZ b).err≠0 then(hZ b).err else(bb (g8 b).1.toNat (GR b).1 (pr b).1 (gL b).1).1
def H9 (b:qn):qn:=if(hZ b).err≠0 then [] else(bb (g8 b).1.toNat (GR b).1 (pr b).1 (gL b).1).2
def hH (b:qn):V×qn×Nat:=if fc b≠0 then(fc b,[],0) else(0,H9 b,(hZ b).at_)
section
open Go.RowKit
variable {w:I}
theorem Wx (x:O) (h:x<4294967296):((x^^^Ht:O):V)=4294967295-(x:V):=by
 rw [oI x h,Ht];omega
theorem Rl (x:O) (w:I) (d:x<4294967296):
  xG 188 #[.int .u32 x] w λe w'=>e=t' (.int .u32 (uO x))/\w=w':=by
 have b:bits .xor .u32 ((x:V)/2) 3988292384=((x/2^^^3988292384:O):V):=u32_xor_nat (x/2) 3988292384 M M;by_cases h:x%2=1
 ·have c:((x:V)%2==1)=true:=by rw [yp];omega
  have a:G (uO x=x/2^^^3988292384):=qk h;clear h;go_wp2;go_ret;exact⟨Jy (by rw [a.out]),rfl⟩
 ·have c:((x:V)%2==1)=false:=by rw [zE];omega
  have a:G (uO x=x/2):=qJ h;clear h b;go_wp2;go_ret;exact⟨Jy (by rw [a.out];rfl),rfl⟩
theorem eK (s:O) (A:q') (n c B:O) (bs:qn) (w:I) (f:s<4294967296) (h:E' w B 1 A n (bs.map B8)) (p:n<=maxLen):
  xG 146 #[.int .u32 s,Z A n c] w λe w'=>e=t' (.int .u32 (sT s bs))/\w=w':=by
 unfold maxLen at p;have H:=T h;have L:=T h.len;clear h;have t:=T (Wx s f);go_wp2;go_loop [5,6] (λx i=> ∃k:O,x= .int .u32 (Fb (s^^^Ht) (bs.take k))/\i=(k:la)/\k<=n) (λ_ i=>n-(intOf i).toNat)
 ·exact⟨0,by rw [vG,oM,t.out],rfl,M⟩
 ·obtain⟨k,rfl,rfl,N⟩:=hrel;have a:Fb (s^^^Ht) (bs.take k)<4294967296:=fH _ _ (dz _ _ f fB);by_cases g:k<n
  ·obtain⟨C,b,rfl,q,d,E⟩:=H.byte g;have l:G (Fb (s^^^Ht) (bs.take (k+1))=F3 8 (Fb (s^^^Ht) (bs.take k)^^^b.toNat)):=by
    rw [qs,d];exact ao _ _ _
   have z:b.toNat<256:=b.toNat_lt;have K:=u32_xor_nat _ b.toNat a M;have v:Fb (s^^^Ht) (bs.take k)^^^b.toNat<4294967296:=dz _ _ a M;clear q d;generalize Fb (s^^^Ht) (bs.take k)=x at*;generalize x^^^b.toNat=y at*;go_wp2;go_loop [5,7] (λx j=> ∃m:O,x= .int .u32 (F3 m y)/\j=(m:la)/\m<=8) (λ_ j=>8-(intOf j).toNat)
   ·exact⟨0,rfl,rfl,M⟩
   ·obtain⟨m,rfl,rfl,D⟩:=hrel;have u:=D4 m y v;by_cases F:m<8
    ·have o:G (uO (F3 m y)=F3 (m+1) y):=by rw [fG m 1];rfl
     go_wp2_with fail;refine Ω (Rl _ _ u) ?_;go_wp2;go_round
     case rel=>exact⟨m+1,by rw [o.out],xh,M⟩
     case measure=>simp [intOf];omega
    ·obtain rfl:m=8:=M;go_wp2;go_round
     case rel=>exact⟨k+1,by rw [l.out],xh,M⟩
     case measure=>simp [intOf];omega
  ·obtain rfl:k=n:=M;have r:G (((sT s bs:O):V)=4294967295-((Fb (s^^^Ht) (bs.take k):O):V)):=by
    unfold sT;rw [qH (by rw [L.out];exact qx _)] at a⊢;exact Wx _ a
   go_wp2;go_ret;exact⟨Jy r.symm,rfl⟩
def Pl (w:I):Prop:= ∀i,i<16->i' w ⟨0,i,none⟩=J (.int .u32 ((F3 4 i:O):V))
theorem Pl.pos (h:Pl w):0<(w:O):=yM (h 0 M)
theorem Pl.below {w':I} {B:O} (h:Pl w) (a:r' B w w') (b:0<B):Pl w':=λi hi=>by
 rw [a.cell (p:=⟨0,i,none⟩) b];exact h i hi
theorem Wv (s:O) (h:s<4294967296):bits .xor .u32 IntKind.u32.max (s:V)=((s^^^Ht:O):V):=by
 rw [y_];exact u32_xor_nat _ s fB h
theorem bc (y:O) (a:y<4294967296) (ht:Pl w):
  bits .and .u32 (y:V) 15=((y%16:O):V)/\i' w ⟨0,y%16,none⟩=J (.int .u32 ((F3 4 (y%16):O):V))/\
  bits .xor .u32 ((y:V)/16) ((F3 4 (y%16):O):V)=((nib y:O):V)/\nib y<4294967296:=by
 have h1:F3 4 (y%16)<4294967296:=D4 _ _ M;refine⟨?_,ht _ M,u32_xor_nat (y/16) _ M h1,by rw [RZ];exact D4 _ _ a⟩;rw [show(15:V)=((15:O):V) from rfl,u32_and_nat y 15 a M,nat_mask4]
theorem mv (s:O) (A:q') (n c B:O) (a:S qn) (w:I) (D:s<4294967296) (ht:Pl w) (h:vm w B A n a) (cK:n<=maxLen):
  xG 88 #[.int .u32 s,Z A n c] w λe w'=>e=t' (.int .u32 (sT s a.flatten))/\w=w':=by
 unfold maxLen at cK;have H:=T h;have qj:=T ht;clear h ht;have m':=Wv s D;have r:=dz _ _ D fB;have cY:G (sT s a.flatten=Fb (s^^^Ht) a.flatten^^^Ht):=rfl;generalize s^^^Ht=f at*;go_wp2;go_loop [5,14] (λx i=> ∃k:O,x= .int .u32 (Fb f (a.take k).flatten)/\i=(k:la)/\k<=n) (λ_ i=>n-(intOf i).toNat)
 ·exact⟨0,rfl,rfl,M⟩
 ·obtain⟨k,rfl,rfl,hk⟩:=hrel;by_cases K:k<n
  ·obtain⟨ad,d,Ai,l,ci,rfl,p,C,X,u',v,o⟩:=H.row K;have cL:G (∀j,Fb (Fb f (a.take k).flatten) (d.take (j+1))=Fb (Fb f (a.take k).flatten) (d.take j++(d[j]?).toList)):=λj=>by rw [qs]
   have F:G (Fb f (a.take (k+1)).flatten=Fb (Fb f (a.take k).flatten) d):=by
    rw [qs,C,xM,uJ];simp [Hid]
   have iv:Fb f (a.take k).flatten<4294967296:=fH _ _ r;have R:=T o;have ih:=T o.len;have cB:l<=9223372036854775807:=by unfold maxLen at v;omega
   clear p C o v;generalize Fb f (a.take k).flatten=g at*;go_wp2;go_loop [5,20] (λx j=> ∃m:O,x= .int .u32 (Fb g (d.take m))/\j=(m:la)/\m<=l) (λ_ j=>l-(intOf j).toNat)
   ·exact⟨0,rfl,rfl,M⟩
   ·obtain⟨m,rfl,rfl,hm⟩:=hrel;by_cases hh:m<l
    ·obtain⟨iL,b,rfl,p,q,p'⟩:=R.byte hh;have t:Fb g (d.take m)<4294967296:=fH _ _ iv;have ln:G (Fb g (d.take (m+1))=nib (nib (Fb g (d.take m)^^^b.toNat))):=by
      rw [cL.out,q,om];exact ao _ _ _
     have ck:b.toNat<256:=b.toNat_lt;have e1:=u32_xor_nat _ b.toNat t M;have W:Fb g (d.take m)^^^b.toNat<4294967296:=dz _ _ t M;clear q p;generalize Fb g (d.take m)=x at*;generalize x^^^b.toNat=y at*;obtain⟨e2,c2,e3,E⟩:=bc y W qj.out;generalize nib y=z at*;obtain⟨e4,c4,e5,_⟩:=bc z E qj.out;generalize nib z=u at*;have q1:y%16<16:=M;have q2:z%16<16:=M;generalize y%16=uK,z%16=P at*;generalize F3 4 uK=ty,F3 4 P=tz at*;go_wp2;go_round
     case rel=>exact⟨m+1,by rw [ln.out],xh,M⟩
     case measure=>simp [intOf];omega
    ·obtain rfl:m=l:=M;have Q:=T (qH (by rw [ih.out];exact qx _));go_wp2;go_round
     case rel=>exact⟨k+1,by rw [F.out,Q.out],xh,M⟩
     case measure=>simp [intOf];omega
  ·obtain rfl:k=n:=M;have N:G (a.take k=a):=by
    obtain⟨cs,_,hl,_⟩:=H.out;exact qH M
   have L:Fb f (a.take k).flatten<4294967296:=fH _ _ r;have d':=Wv _ L;go_wp2;go_ret;exact⟨Jy (by rw [cY.out,N.out]),rfl⟩
theorem R0 (A:q') (n c B:O) (bs:qn) (w:I) (h:E' w B 1 A n (bs.map B8)) (a:n<=maxLen):
  xG 104 #[Z A n c] w λe w'=>e=t' (.int .u32 (W7 bs))/\w=w':=by
 have H:=T (eK 0 A n c B _ w M h a);clear h a;go_in;go_wp2_with fail;refine Ω (H.out) ?_;go_wp2;go_ret;exact⟨rfl,rfl⟩
theorem Wy (A:q') (n c B:O) (bs:qn) (w:I) (ht:Pl w) (h:E' w B 1 A n (bs.map B8)) (f:B<=(w:O)) (a:n<=c) (d:c<=maxLen):
  xG 57 #[Z A n c] w λe w'=>e=t' (.int .u32 (W7 bs))/\r' w w w':=by
 have b: ∀o,r' w w (w.alloc o):=λo=>j1 o;have H:=λt=>T (mv 0 w 1 1 _ _ _ M (ht.below (b _) ht.pos) (sF t h f a d) SJ);simp only [xI,List.flatten_nil,jx] at H;clear h a d f ht;go_in;go_wp2_with fail;refine Ω ((H _).out) ?_;go_wp2;go_ret;exact⟨rfl,b _⟩
theorem my (A f:q') (n g c a B h:O) (b d:qn) (w:I) (h1:E' w B 1 A n (b.map B8)) (h2:E' w h 1 f g (d.map B8)):
  xG 71 #[Z A n c,Z f g a] w λe w'=>e=t' (.bool (decide (b=d)))/\w=w':=by
 have j:=Kf (c:=c) _ 9 5 qu xS ju h1;have i:=Kf (c:=a) _ 9 5 qu xS ju h2;go_wp2;go_ret;exact⟨j7 (by rw [yx,yp,jo]),rfl⟩
end
structure JH where
 time:O
 level:O
 src:qn
 txt:qn
 deriving DecidableEq
def hX (l:S JH):Nat:=(l.map λr=>16+U r.src+U r.txt).sum
def X8 (r:JH):Bool:=decide (4000<U r.src)||decide (4000<U r.txt)
def kF (l:S JH):Int:=if 20000<U l\/l.any X8=true\/1048576<hX l then 6 else 0
def ei (a:Bool) (r:JH):qn:=(if a then kD r.time++[UInt8.ofNat r.level] else [])++(B1 r.src++B1 r.txt)
def pa (a:Bool) (l:S JH):qn:=(l.map (ei a)).flatten
def CL (b:qn) (a:Bool) (c:Cu):JH×Cu:=
 let t:=if a then X7 b c else(0,c)
 let y:=if a then j_ b t.2 else(0,t.2)
 (⟨t.1,y.1.toNat,(xa b 4000 y.2).1,(xa b 4000 (xa b 4000 y.2).2).1⟩,(xa b 4000 (xa b 4000 y.2).2).2)
def ri (b:qn) (a:Bool):O->Cu->S JH->V×S JH
 |0,c,d=>(0,d)
 |f+1,c,d=>if U b<=c.at_ then(0,d) else if(CL b a c).2.err≠0 then((CL b a c).2.err,[]) else ri b a f (CL b a c).2 (d++[(CL b a c).1])
def sc (a:Bool) (b:qn):V×S JH:=ri b a b ⟨0,0⟩ []
def Yl (size:V) (b:Bool):S O->O->S JH->S O
 |a,_,[]=>a
 |a,c,r::t=>if a=[]\/max 1 size<((c+U (ei b r):O):V) then Yl size b (a++[1]) (U (ei b r)) t
  else Yl size b (a.dropLast++[a.getLastD 0+1]) (c+U (ei b r)) t
def sh (size:V) (a:Bool) (l:S JH):S Nat:=Yl size a [] 0 l
def zig (d:O):Nat:=if d<9223372036854775808 then 2*d else 36893488147419103231-2*d
def zag (z:O):Nat:=if z%2=0 then z/2 else 18446744073709551615-z/2
def Kb:O->S JH->qn
 |_,[]=>[]
 |a,r::t=>kD (zig ((r.time+18446744073709551616-a)%18446744073709551616))++Kb r.time t
def Ya (x:O):S JH->O
 |[]=>0
 |r::t=>if r.level=x then Ya x t+1 else 0
def Xo:O->S JH->qn
 |0,_=>[]
 |f+1,[]=>[]
 |f+1,r::t=>UInt8.ofNat r.level::kD (Ya r.level t+1)++Xo f (t.drop (Ya r.level t))
def ui (l:S JH):qn:=Kb 0 l++Xo l l
def Q4 (b:qn):O->O->Cu->S O->S O×Cu
 |0,_,c,a=>(a,c)
 |f+1,d,c,a=>if c.err≠0 then(a,c) else Q4 b f ((d+zag (X7 b c).1)%18446744073709551616) (X7 b c).2 (a++[(d+zag (X7 b c).1)%18446744073709551616])
def fC (b:qn) (n:O) (a:qn) (c:Cu):AB×O×Cu:=
 let y:=j_ b c
 let k:=jU b ((n-U a:O):V) y.2
 (y.1,k.1,if k.2.err=0/\(k.1=0\/(a≠[]/\a.getLastD 0=y.1)) then vP k.2 2 else k.2)
def xx (b:qn) (n:O):O->Cu->qn->qn×Cu
 |0,c,a=>(a,c)
 |f+1,c,a=>if n<=U a\/c.err≠0 then(a,c) else xx b n f (fC b n a c).2.2 (a++List.replicate (fC b n a c).2.1 (fC b n a c).1)
def ZG (n:V) (b:qn):V×S O×qn×Nat:=
 if n<0\/20000<n then(13,[],[],0)
 else
  let t:=Q4 b n.toNat 0 ⟨0,0⟩ []
  let v:=xx b n.toNat (n.toNat+1) t.2 []
  if v.2.err≠0 then(v.2.err,[],[],0) else(0,t.1,v.1,v.2.at_)
def Hv (a n:O):Nat:=(if a/n=0 then 0 else Nat.log2 (a/n)+1)-1
def B5 (a:V):V->S V->Bool
 |_,[]=>true
 |b,x::t=>decide (b<x)&&(decide (x<a)&&B5 a x t)
def Kc (w:O):O->Bw->S O->Bw
 |_,s,[]=>s
 |a,s,x::t=>Kc w (x/2^w) (U_ s (x/2^w-a)) t
def Re (c:O) (a:S O):qn:=
 if a=[] then kD 0 else kD (U a)++(Kc (Hv c a) 0 (a.foldl (λs x=>Jh s (x%2^Hv c a) (Hv c a)) ⟨[],0⟩) a).b
def Ka (b:qn) (w:O):O->O->S O
 |0,_=>[]
 |n+1,at_=>kM b at_ w::Ka b w n (at_+w)
def Vi (b:qn) (d w:O):S O->O->V->O->S O->V×S O×O
 |[],_,_,at_,c=>(0,c,at_)
 |x::t,a,e,at_,c=>
  if uM b at_≠0 then(1,[],at_)
  else if(((a+Ju b at_)*2^w+x:O):V)<=e then(2,[],pq b at_)
  else if d<=(a+Ju b at_)*2^w+x then(8,[],pq b at_)
  else Vi b d w t (a+Ju b at_) (((a+Ju b at_)*2^w+x:O):V) (pq b at_) (c++[(a+Ju b at_)*2^w+x])
def ai (a n:O) (b:qn):V×S O×Nat:=
 if kq b 0<n*Hv a n then(1,[],0)
 else
  let r:=Vi b a (Hv a n) (Ka b (Hv a n) n 0) 0 (-1) (n*Hv a n) []
  if r.1≠0 then(r.1,[],0)
  else if kM b r.2.2 (kq b r.2.2%8)≠0 then(2,[],0)
  else(0,r.2.1,U b-kq b r.2.2/8)
def B6 (a:V) (b:qn):V×S O×Nat:=
 if a<0\/20000<a then(13,[],0)
 else
  let n:=jU b a ⟨0,0⟩
  if n.2.err≠0 then(n.2.err,[],0)
  else if n.1=0 then(0,[],n.2.at_)
  else
   let r:=ai a.toNat n.1 (b.drop n.2.at_)
   if r.1≠0 then(r.1,[],0) else(0,r.2.1,n.2.at_+r.2.2)
def _a:qn->qn->Bool
 |_,[]=>false
 |[],_::_=>true
 |x::a,y::b=>decide (x<y)||(decide (x=y)&&_a a b)
def al (a s:qn):Bool:=decide (s≠[])&&(decide (U s<=25)&&_a a s)
def XO:qn->S (qn)->Bool
 |_,[]=>true
 |a,s::t=>al a s&&XO s t
def T5 (l:S qn):Bool:=XO [] l&&decide (U l<=1048576)
def G4:qn->qn->O
 |x::a,y::b=>if x=y then G4 a b+1 else 0
 |_,_=>0
def Je:qn->S (qn)->qn
 |_,[]=>[]
 |a,s::t=>kD (G4 a s)++B1 (s.drop (G4 a s))++Je s t
def e9 (l:S qn):qn:=B1 (l.headD [])++Je (l.headD []) l.tail
def N1 (size:O):O->S (qn)->S (S qn)
 |0,_=>[]
 |f+1,l=>if l=[] then [] else l.take size::N1 size f (l.drop size)
def mx (size:O) (l:S qn):S qn:=(N1 size l l).map e9
def we (size:O) (l:S qn):qn:=kD (U l)++((mx size l).map λb=>kD (U b)).flatten++(mx size l).flatten
def JE (b a:qn) (first:Bool) (c:Cu):qn×Cu:=
 let n:=if first then(0,c) else jU b (U a:O) c
 let r:=xa b 25 n.2
 if r.2.err≠0 then([],r.2)
 else
  let s:=a.take n.1++r.1
  (s,if r.1=[]\/al a s=false\/(first=false/\G4 a s≠n.1) then vP r.2 2 else r.2)
def QV (b:qn):O->Bool->Cu->S (qn)->V×S qn
 |0,_,c,a=>((PW b c).err,a)
 |n+1,first,c,a=>
  if(JE b (a.getLastD []) first c).2.err≠0 then((JE b (a.getLastD []) first c).2.err,a)
  else QV b n false (JE b (a.getLastD []) first c).2 (a++[(JE b (a.getLastD []) first c).1])
def Q5 (b:qn):O->Cu->S O->S O×Cu
 |0,c,a=>(a,c)
 |f+1,c,a=>if c.err≠0 then(a,c) else Q5 b f (jU b 2000 c).2 (a++[(jU b 2000 c).1])
def yr (b:qn) (size:O):O->S O->Cu->S (qn)->V×S qn×O
 |_,[],c,a=>if c.err≠0 then(c.err,[],0) else(0,a,c.at_)
 |n,k::t,c,a=>
  if(jW b k c).2.err≠0 then((jW b k c).2.err,[],0)
  else if(QV (jW b k c).1 (min size n) true ⟨0,0⟩ a).1≠0 then((QV (jW b k c).1 (min size n) true ⟨0,0⟩ a).1,[],0)
  else yr b size (n-size) t (jW b k c).2 (QV (jW b k c).1 (min size n) true ⟨0,0⟩ a).2
def ab (size:V) (b:qn):V×S qn×Nat:=
 if size<1\/64<size then(13,[],0)
 else
  let n:=jU b 1048576 ⟨0,0⟩
  let z:=Q5 b ((n.1+size.toNat-1)/size.toNat) n.2 []
  yr b size.toNat n.1 z.1 z.2 []
section
open Go.RowKit
theorem Mh (n x:O) (h:x<2^n):x^^^(2^n-1)=2^n-1-x:=by
 apply Z9;intro i;rw [Zc,Nat.testBit_two_pow_sub_one,show 2^n-1-x=2^n-(x+1) by omega,Nat.testBit_two_pow_sub_succ h];by_cases hi:i<n
 ·simp [hi]
 ·have:x.testBit i=false:=Zd (qB h (zZ M M));simp [hi,this]
theorem gG (x:O) (h:x<18446744073709551616):bits .xor .u64 (x:V) 18446744073709551615=((18446744073709551615-x:O):V):=by
 rw [show(18446744073709551615:V)=((18446744073709551615:O):V) from rfl,u64_xor_nat x _ h M];congr 1;exact Mh 64 x h
theorem gh (x:O) (h:x<18446744073709551616):bits .xor .u64 (x:V) 0=(x:V):=by
 rw [show(0:V)=((0:O):V) from rfl,u64_xor_nat x _ h M,Nat.xor_zero]
theorem OA (d:O) (w:I) (h:d<18446744073709551616):
  xG 89 #[.int .u64 d] w λe w'=>e=t' (.int .u64 (zig d:O))/\w=w':=by
 obtain⟨r,a⟩:=zn (zig d);rw [<-a];unfold zig at a;by_cases c:d<9223372036854775808
 ·rw [qk c] at a;have h1:(d:V)/9223372036854775808=0:=M;have h2:IntKind.u64.wrap ((d:V)*2)=(r:V):=by rw [qS];omega
  have h3:=gh r M;replace a:=T a;go_wp2;go_ret;exact⟨rfl,rfl⟩
 ·rw [qJ c] at a;obtain⟨q,b⟩:=zn (2*d-18446744073709551616);have h1:(d:V)/9223372036854775808=1:=M;have h2:IntKind.u64.wrap ((d:V)*2)=(q:V):=by rw [qS];omega
  have h4:IntKind.u64.wrap (-1)=18446744073709551615:=by rw [qS];rfl
  have h3:bits .xor .u64 (q:V) 18446744073709551615=(r:V):=by rw [gG q M];congr 1;omega
  replace a:=T a;replace b:=T b;go_wp2;go_ret;exact⟨rfl,rfl⟩
theorem Oe (z:O) (w:I) (h:z<18446744073709551616):
  xG 253 #[.int .u64 z] w λe w'=>e=t' (.int .u64 (zag z:O))/\w=w':=by
 obtain⟨r,a⟩:=zn (zag z);rw [<-a];unfold zag at a;have c:=cP z h;obtain⟨y,f⟩:=zn (z/2);have j:(z:V)/2=(y:V):=M;by_cases b:z%2=0
 ·rw [qk b] at a;rw [b] at c;have h3:=gh r M;have g:y=r:=M;rw [g] at j;replace a:=T a;replace b:=T b;clear g f;have i:bits .and .u64 (z:V) 1=0:=c;go_wp2;go_ret;exact⟨rfl,rfl⟩
 ·rw [qJ b] at a;have d:z%2=1:=M;rw [d] at c;have i:bits .and .u64 (z:V) 1=1:=c;have h4:IntKind.u64.wrap (-1)=18446744073709551615:=by rw [qS];rfl
  have h3:bits .xor .u64 (y:V) 18446744073709551615=(r:V):=by rw [gG y M];congr 1;omega
  revert a b d f;refine yb ?_;intro a b d f;go_wp2;go_ret;exact⟨rfl,rfl⟩
theorem ow (os:Os) (args:Array la):laidMetH prog Rows.wholeTotalRow.laid ((World.doorLaid prog 400 os).forCall (λ_ _=>0) ⟨#[],args,[]⟩).memory:=
 laidMetH_of_parts3 (fuel:=8) (laidMet_of_run' 8 AL AL) AL AL
def Io:S Int:=[0,498536548,997073096,651767980,1994146192,1802195444,1303535960,1342533948,3988292384,4027552580,3604390888,3412177804,2607071920,2262029012,2685067896,3183342108]
theorem iq: ∀i,i<16->Io[i]? =J ((F3 4 i:O):V):=by
 intro i hi;have h: ∀i:Fin 16,Io[i.val]? =J ((F3 4 i.val:O):V):=by decide+kernel
 exact h ⟨i,hi⟩
theorem Rz {W:I} (h:laidMetH prog Rows.wholeTotalRow.laid W):Pl W:=by
 rw [MakeChecks.laidMetH_plain _ _ _ AL] at h;obtain⟨n,⟨l,f,a,m,o,q0,b,g,j,k,_,_⟩,_⟩:=h;obtain rfl:0=l:=zy (Eq.trans AL b);obtain rfl:204=f:=zy (Eq.trans AL g);have d:=Lib.cells_of_tab (zs:=Io) underlying204 underlying92 AL AL k;intro i hi;have c:=World.var?_cell b j i;rw [c];have e:a[i]? =a.toList[i]? :=s8;rw [e,d,qD,iq i hi];rfl
end
end Go.Proofs.YtfnlfpcfkbdcmaaGreatDoor
