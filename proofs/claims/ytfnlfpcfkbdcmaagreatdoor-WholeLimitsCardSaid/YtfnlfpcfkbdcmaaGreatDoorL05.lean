import Derived.Test.YtfnlfpcfkbdcmaaGreatDoorL00
import Derived.Test.YtfnlfpcfkbdcmaaGreatDoorL01
import Derived.Test.YtfnlfpcfkbdcmaaGreatDoorL02
set_option linter.unusedSimpArgs false
set_option linter.unusedVariables false
set_option maxRecDepth 100000
set_option maxHeartbeats 0
open Go.Proofs.Tryz
namespace Go.Proofs.YtfnlfpcfkbdcmaaGreatDoor
open Go.RowKit
section
variable {B:Nat}{a:World}{d:List Value}{e:TypeId}{l:List qn}
theorem PK (a:Nat) (w:World) (d:a<256):
  Calls prog 222 #[.int .u8 a] w λe w'=>e= .returned (.int .u8 (tw a))/\w=w':=by
 have b:=II a d;have f:bits .xor .u8 ((a:Int)*2%256) 29=(((a*2%256)^^^29:Nat):Int):=u8_xor_nat (a*2%256) 29 uK uK;by_cases h:a.testBit 7=true
 ·rw [h] at b;go_in;go_wp2;go_ret;exact⟨Jy (by rw [tw,qk h,Nat.shiftLeft_eq]),rfl⟩
 ·have c:a.testBit 7=false:=by simpa using h
  rw [c] at b;go_in;go_wp2;go_ret;exact⟨Jy (by rw [tw,qJ h,Nat.shiftLeft_eq];omega),rfl⟩
theorem cU (a b:Nat) (w:World) (A:a<256) (t:b<256):
  Calls prog 221 #[.int .u8 a, .int .u8 b] w λe w'=>e= .returned (.int .u8 (gm a b))/\w=w':=by
 go_in;go_wp2;go_loop [0,1,5] (λx y o=> ∃k l f g:Nat,x= .int .u8 l/\y= .int .u8 f/\o= .int .u8 g/\l<256/\f<256/\g<256/\f<2^k/\Xd k l f g=gm a b) (λ_ y _=>(intOf y).toNat)
 ·exact⟨8,a,b,0,rfl,rfl,rfl,A,t,uK,t,rfl⟩
 ·obtain⟨k,x,y,o,rfl,rfl,rfl,c,B,i,p,r⟩:=hrel;have m:=qj r;clear r;by_cases h0:y=0
  ·have v:Hid (o=gm a b):=by
    have h:=m.out;rw [h0,RY] at h;exact h
   have u:((y:Int) !=0)=false:=by simp [h0]
   clear h0;go_wp2;go_ret;exact⟨Jy (by rw [v.out]),rfl⟩
  ·obtain⟨k,rfl⟩: ∃j,k=j+1:=by
    cases k with
    |zero=>exact absurd p SZ
    |succ j=>exact⟨j,rfl⟩
   have s:y/2<2^k:=by rw [vB] at p;omega
   have u:((y:Int) !=0)=true:=by simp [h0]
   have d:=Il y B;have D:=u8_xor_nat o x i c;have z:o^^^x<256:=vz (n:=8) i c;have C:1<=y:=uK;clear h0 p;by_cases h1:y%2=1
   focus
    have h2:(bits .and .u8 (y:Int) 1==1)=true:=by rw [d,h1];rfl
    have q:Hid (Xd k (tw x) (y/2) (o^^^x)=gm a b):=by
     have h:=m.out;rw [Xd,qk h1] at h;exact h
   rotate_left
   focus
    have h2:(bits .and .u8 (y:Int) 1==1)=false:=by rw [d];simp;omega
    have q:Hid (Xd k (tw x) (y/2) o=gm a b):=by
     have h:=m.out;rw [Xd,qJ h1] at h;exact h
   rotate_left
   all_goals
    clear h1 d;go_wp2_with (go_at_call 222;refine(PK _ _ c).mono ?_;rintro e w' ⟨rfl,rfl⟩)
   ·go_round
    case rel=>exact⟨k,tw x,y/2,o^^^x,rfl,rfl,rfl,wK x,uK,z,s,q⟩
    case measure=>simp [intOf];omega
   ·go_round
    case rel=>exact⟨k,tw x,y/2,o,rfl,rfl,rfl,wK x,uK,i,s,q⟩
    case measure=>simp [intOf];omega
theorem o9 (a n:Nat) (w:World) (r:a<256):
  Calls prog 186 #[.int .u8 a, .int .u64 n] w λe w'=>e= .returned (.int .u8 (yi a n))/\w=w':=by
 by_cases h0:n=0
 ·have v:((n:Int)==0)=true:=by simp [h0]
  have d:Hid (yi a n=1):=by rw [h0];rfl
  clear h0;go_in;go_wp2;go_ret;exact⟨Jy (by rw [d.out];rfl),rfl⟩
 ·have v:((n:Int)==0)=false:=by simp [h0]
  by_cases h1:a=0
  ·have s:((a:Int)==0)=true:=by simp [h1]
   have d:Hid (yi a n=0):=by rw [h1];exact H_ n h0
   clear h0 h1;go_in;go_wp2;go_ret;exact⟨Jy (by rw [d.out];rfl),rfl⟩
  ·have s:((a:Int)==0)=false:=by simp [h1]
   have d:=qj (NR a n h1 r);clear h0 h1;go_in;go_wp2;go_loop [0,1,5] (λx y o=> ∃j m i:Nat,x= .int .u8 j/\y= .int .u64 m/\o= .int .u8 i/\j<256/\m<256/\i<256/\gm i (yi j m)=yi a (n%255)) (λ_ y _=>(intOf y).toNat)
   ·exact⟨a,n%255,1,rfl,rfl,rfl,r,uK,uK,dj _ (YK _ _)⟩
   ·obtain⟨x,y,o,rfl,rfl,rfl,b,z,c,q⟩:=hrel;have l:=qj q;clear q;by_cases k:y=0
    ·have f:Hid (o=yi a n):=by
      have h:=l.out;rw [k,yi,fE o c,d.out] at h;exact h
     have u: ¬(0:Int)<(y:Int):=uK;clear k;go_wp2;go_ret;exact⟨Jy (by rw [f.out]),rfl⟩
    ·have u:=yn y;have g:=cP y uK;have t:=uI o x c;have p:=uI x x b;clear k;by_cases h1:y%2=1
     ·have h2:(bits .and .u64 (y:Int) 1==1)=true:=by rw [g,h1];rfl
      have f:=qj ((Gb o x y c b h1).trans l.out);clear h1 g;go_wp2_with fail;refine Ω (cU _ _ _ c b) ?_;go_wp2_with fail;refine Ω (cU _ _ _ b b) ?_;go_wp2;go_round
      case rel=>exact⟨gm x x,y/2,gm o x,rfl,rfl,rfl,p,uK,t,f⟩
      case measure=>simp [intOf];omega
     ·have h2:(bits .and .u64 (y:Int) 1==1)=false:=by rw [g];simp;omega
      have f:=qj ((fR o x y b h1).trans l.out);clear h1 g;go_wp2_with fail;refine Ω (cU _ _ _ b b) ?_;go_wp2;go_round
      case rel=>exact⟨gm x x,y/2,o,rfl,rfl,rfl,p,uK,c,f⟩
      case measure=>simp [intOf];omega
theorem wG (a:Nat) (w:World) (c:a<256):
  Calls prog 144 #[.int .u8 a] w λe w'=>e= .returned (.tuple #[.int .u8 (DW a), .int .i64 (e13 a)])/\w=w':=by
 by_cases h0:a=0
 ·have d:((a:Int)==0)=true:=by simp [h0]
  have H:Hid (DW a=0/\e13 a=13):=by rw [h0];exact⟨sW,rfl⟩
  clear h0;go_wp2;go_ret2;exact⟨wF (by rw [H.out.1];rfl) (by rw [H.out.2]),rfl⟩
 ·have d:((a:Int)==0)=false:=by simp [h0]
  have H:Hid (e13 a=0):=qJ h0;have b:=o9 a 254 w c;rw [<-D6] at b;replace b:=qj b;clear h0;go_in;go_wp2_with fail;refine Ω (b.out) ?_;go_wp2;go_ret2;exact⟨wF rfl (by rw [H.out]),rfl⟩
def pf (l:List qn):Bool:=l.all λb=>decide (b.length=(l.headD []).length)
theorem sN (h: ∀(i:Nat) (b:qn),l[i]? =some b->b.length=(l.headD []).length):pf l=true:=by
 unfold pf;rw [xT];intro b a;obtain⟨i,hi,rfl⟩:=Q8 a;rw [jo];exact h i _ (qX _)
theorem Nw {i:Nat} {b:qn} (a:l[i]? =some b) (h:b.length≠(l.headD []).length):pf l=false:=by
 unfold pf;rw [List.all_eq_false];exact⟨b,zQ a,by simpa using h⟩
theorem vm.LZ {w:World} {n k:Nat} {A:q'} {d:List qn} (h:vm w B A n d) (g:k<n): ∃b a Ai c,A=some b/\d[k]? =some a/\w.cell? (b.add k)=some (.slice Ai a c):=by
 obtain⟨b,a,Ai,m,c,j,_,l,f,_,_,e⟩:=h.row g;have i:=e.len;subst i;exact⟨b,a,_,c,j,l,f⟩
theorem sM (A:q') (n c B:Nat) (d:List qn) (w:World) (h:vm w B A n d) (Z:n<=100000):
  Calls prog 101 #[.slice A n c] w λe w'=>e= .returned (.bool (pf d))/\w=w':=by
 have E:d.length=n:=by obtain⟨_,_,h2,_⟩:=h;exact h2
 have H:=qj (λk (R:k<n)=>h.LZ R);have r:=qj (λh=>sN (l:=d) h);have q:=qj (λi b f h=>Nw (l:=d) (i:=i) (b:=b) f h);obtain⟨L,p⟩: ∃L,(d.headD []).length=L:=⟨_,rfl⟩;rw [p] at r q;have P:Hid (∀m,d[0]? =some m->m.length=L):=λm u=>by
  rw [<-p];cases d with
  |nil=>simp at u
  |cons a t=>simp at u;rw [u];rfl
 have I:=qj E;obtain⟨G,y⟩: ∃G,pf d=G:=⟨_,rfl⟩;rw [y] at r q;rw [y];clear h E y;go_wp2;go_loop [7] (λx=> ∃i:Nat,x=(i:Value)/\i<=n/\Hid (∀t b,t<i->d[t]? =some b->b.length=L)) (λx=>n-(intOf x).toNat)
 ·exact⟨0,rfl,uK,λt b ht=>uK⟩
 ·obtain⟨i,rfl,d',C⟩:=hrel;by_cases K:i<n
  ·have Y:=j' i n;obtain⟨D,m,J,c0,S,Q,v⟩:=H 0 uK;subst S;obtain⟨N,o,Ai,V,F,z,O⟩:=H i K;obtain rfl:D=N:=by injection F
   have j:=P m Q;rw [j] at v;have iL:w.cell? D=some (.slice J L c0):=by simpa [Addr.add] using v
   clear v F;by_cases g:o.length=L
   ·have M:Hid (∀t b,t<i+1->d[t]? =some b->b.length=L):=λt b ht f=>by
     by_cases e:t=i
     ·rw [e,z] at f;injection f with f;rw [<-f];exact g
     ·exact C t b uK f
    rw [g] at O;replace j:=qj j;go_wp2;go_round
    case rel=>exact⟨i+1,xh,uK,M⟩
    case measure=>simp [intOf];omega
   ·have s:=qj (q i o z g);have T:((o.length:Int) !=(L:Int))=true:=SZ;generalize o.length=X at*;go_wp2;go_ret;exact⟨by rw [s.out];rfl,rfl⟩
  ·have s:=qj (r (λt b f=>C.out t b (by have:=(vp.1 f).1;have:=I.out;omega) f));go_wp2;go_ret;exact⟨by rw [s.out];rfl,rfl⟩
def JR:Array Value:=Array.replicate 256 (.int .u8 0)
theorem YL:(prog.info? 282).map (λi=>(i.zero,i.size))=some (some (.agg JR),256):=AL
def vt (c:Nat):Array Value:=((List.range 256).map λi=>Value.int .u8 ((gm c i:Nat):Int)).toArray
theorem Jt (c:Nat):(vt c).size=256:=by simp [vt]
theorem pP (c i:Nat) (h:i<256):(vt c)[i]? =some (.int .u8 ((gm c i:Nat):Int)):=by
 simp [vt,h]
theorem Kt (c:Nat):(vt c).all (·.oneCell')=true:=by
 unfold vt;rw [List.all_toArray,List.all_map];exact xT.2 λ_ _=>rfl
theorem uV (c:Nat):JR.size=(vt c).size:=by rw [Jt];simp [JR]
theorem Uz (c:Nat) (w:World) (u:c<256):
  Calls prog 187 #[.int .u8 c] w λe w'=>e= .returned (.agg (vt c))/\Below w w w':=by
 have B:=(jb YL).1;go_in;go_wp2_with fail;have t:Below w w ((w.alloc (.cells JR 282)).alloc (.cells JR 282)):=(z8 _).alloc s8 _;have q:Blk ((w.alloc (.cells JR 282)).alloc (.cells JR 282)) w 282 JR:=(Blk.new w _ _).alloc _;have s:Blk ((w.alloc (.cells JR 282)).alloc (.cells JR 282)) (w.heap.size+1) 282 JR:=heap_alloc2_new w _ _;generalize (w.alloc (.cells JR 282)).alloc (.cells JR 282)=H at*;revert t q s;refine vn ?_;intro t q s;go_loopw [4] (λi wr=> ∃k:Nat,i=(k:Value)/\1<=k/\k<=256/\Hid (Below w w wr)/\Hid (Blk wr w 282 JR)/\
   ∃d:Array Value,Hid (Blk wr (w.heap.size+1) 282 d)/\Hid (d.size=256)/\Hid (∀j,j<k->d[j]? =some (.int .u8 ((gm c j:Nat):Int)))) (λi _=>(256-intOf i).toNat)
 ·
  refine⟨1,rfl,uK,uK,t,q,JR,s,by simp [JR,Hid],λj o=> ?_⟩;obtain rfl:j=0:=uK;rw [D5];rfl
 ·obtain⟨k,rfl,G,I,r,n,d,f,b,l⟩:=hrel;by_cases m:k<256
  ·have x:wr.cell? ⟨w.heap.size+1,k/2,none⟩=some (.int .u8 ((gm c (k/2):Nat):Int)):=by
    rw [f.cell,l.out _ uK]
   have A:wr.frozen? ⟨w.heap.size+1,k,none⟩=false:=f.frozen _;obtain⟨v,z⟩: ∃v,wr.cell? ⟨w.heap.size+1,k,none⟩=some v:=by
    rw [f.cell];have D:k<d.size:=by rw [b.out];exact m
    exact⟨d[k],by simp [D]⟩
   have y:=uI c (k/2) u;have E:=u8_xor_nat (tw (gm c (k/2))) c (wK _) u;have a:=iW c k u m;by_cases h1:k%2=1
   focus
    have h2:((k:Int)%2==1)=true:=by rw [yp];omega
    rw [qk h1] at a;replace a:=qj a;clear h1
   rotate_left
   focus
    have h2:((k:Int)%2==1)=false:=by rw [zE];omega
    rw [qJ h1] at a;replace a:=qj a;clear h1 E
   rotate_left
   all_goals
    go_wp2_with fail;refine Ω (PK _ _ y) ?_;go_wp2_with fail;clear x A z
   ·go_roundw
    case rel=>
     refine⟨k+1,xh,uK,uK,(r.setCell (p:=⟨w.heap.size+1,k,none⟩) (jv _) _).setCell (p:=⟨w.heap.size+1,k,none⟩) (jv _) _,
      (n.far (p:=⟨w.heap.size+1,k,none⟩) (vV (ze _)) _).far (p:=⟨w.heap.size+1,k,none⟩) (vV (ze _)) _,_,(f.zh _ _).zh _ _,by simpa [Hid] using b.out,λj o=> ?_⟩
     rw [jM,jM];by_cases g:k=j
     ·subst g;simp [b.out,m,a.out]
     ·rw [qJ g,qJ g];exact l j uK
    case measure=>simp [intOf];omega
   ·go_roundw
    case rel=>
     refine⟨k+1,xh,uK,uK,r.setCell (p:=⟨w.heap.size+1,k,none⟩) (jv _) _,
      n.far (p:=⟨w.heap.size+1,k,none⟩) (vV (ze _)) _,_,f.zh _ _,by simpa [Hid] using b.out,λj o=> ?_⟩
     rw [jM];by_cases g:k=j
     ·subst g;simp [b.out,m,a.out]
     ·rw [qJ g];exact l j uK
    case measure=>simp [intOf];omega
  ·have C:d=vt c:=by
    apply ZD;intro j;by_cases o:j<256
    ·rw [l.out j uK,pP c j o]
    ·rw [zg (by rw [b.out];omega),zg (by rw [Jt];omega)]
   subst C;have h:(prog.info? 282).map (·.size)=some (vt c).size:=by rw [Jt];exact(jb YL).2
   replace h:=qj h;clear l b B;go_wp2_with (first
    |(refine ja rfl 282 _ rfl (w.heap.size+1) rfl 282 (vt c) (0,0) _ f underlying282 rfl h ?_)
    |(refine qC rfl 282 _ _ rfl w (vt c) rfl rfl 282 JR n h (uV c) (Kt c) ?_))
   exact qW (results_cell_row rfl _ _ w _ _ _ _ rfl (n.row _) underlying282 rfl h) rfl ⟨rfl,zu r (qx _) _⟩
theorem LQ (a b:UInt8):bits .xor .u8 (a.toNat:Int) (b.toNat:Int)=((a^^^b).toNat:Int):=by
 rw [u8_xor_nat _ _ a.toNat_lt b.toNat_lt,J1]
theorem wH {a:qn} {k:Nat} {b:UInt8} (h:a[k]? =some b):a.getD k 0=b:=by
 rw [qd,h];rfl
theorem bJ:(prog.info? 5).map (λi=>(i.zero,i.size,i.bytes))=some (some (.int .u8 0),1,1):=AL
theorem wR (A P:Option Addr) (n u c c':Nat) (a b:List UInt8) (f:UInt8) (w:World) (h1:Reads w w 1 A n (a.map B8)) (h2:Reads w w 1 P u (b.map B8)) (hn:n<=1000000000) (N':u<=1000000000):
  Calls prog 145 #[.slice A n c, .int .u8 (f.toNat:Int), .slice P u c'] w (Qr 5 w (sS a f b) (NT a b)):=by
 have K:=h1.len;have l2:=h2.len;by_cases S:n=u
 ·subst S
  have l:Hid (sS a f b=Ds a f b/\NT a b=0):=⟨qk uK,qk uK⟩;have H1:=qj h1;have H2:=qj h2;have O:=qj K;clear h1 h2 K l2;obtain⟨i0,hi,F,z,G⟩:=qA bJ;have hz:=(jb YL).1;have I:(prog.info? 282).map (·.size)=some (vt f.toNat).size:=by rw [Jt];exact(jb YL).2
  replace I:=qj I;replace hi:=qj hi;replace F:=qj F;replace z:=qj z;replace G:=qj G;go_enter func145,ntmps145
  go_wp2_with fail;refine(Uz _ _ f.toNat_lt).mono ?_;rintro e s ⟨rfl,o⟩;replace o:=qj o
  go_wp2_with (first
   |(refine Yo rfl 282 _ _ rfl s (vt f.toNat) rfl rfl 282 JR (Blk.new _ _ _) I (uV _) (Kt _) ?_;intro L D M B q;replace D:=qj D;replace M:=qj M;replace B:=qj B;replace q:=qj q)
   |(at_make;refine xP _ rfl _ _ 30 rfl w 5 i0 (.int .u8 0) 1 qu hi F z .i64 .i64 _ _ n rfl rfl rfl rfl ?_ ?_ ?_ ?_;rotate_left 3;intro H E r;replace E:=qj E;replace r:=qj r))
  rotate_left 1
  ·rw [G.out];omega
  ·unfold maxLen;omega
  ·rw [q.out];simp;have:=o.size;omega
  have OX:s.heap.size<L.heap.size:=by rw [q.out];simp
  have W:w.heap.size<=s.heap.size:=o.size;have J':Hid (Blk H s 282 (vt f.toNat)):=D.grown r s8;have G':Hid (Below w w H):=(B.out _ _ (o.alloc W _) W).grown r uK s8;have iL:Hid (H.ownsRow w 5 1 (.slice L n n) n (madeCells #[Value.int .u8 0] n).toList):=by
   have h:=E.out;rw [z_] at h;exact h
  clear E r D M B q o hz hi F z G;generalize L.heap.size=g at*
  generalize s.heap.size=J at*
  go_loopw [24] (λi wr=> ∃k:Nat,i=(k:Value)/\k<=n/\Hid (Below w w wr)/\Hid (Blk wr J 282 (vt f.toNat))/\
   ∃m:List Value,Hid (wr.ownsRow w 5 1 (.slice g n n) n m)/\Hid (∀j,j<k->m[j]? =some (B8 (a.getD j 0^^^fm f (b.getD j 0))))) (λi _=>n-(intOf i).toNat)
  case atStart=>exact⟨0,rfl,uK,G',J',_,iL,λj t=>absurd t uK⟩
  case round=>
   obtain⟨k,rfl,hk,C,U,m,d,Y⟩:=hrel;by_cases R:k<n
   ·obtain⟨ad,x,rfl,hb,T,u'⟩:=(H1.below C).byte R
    obtain⟨N6,y,rfl,m',Z,d'⟩:=(H2.below C).byte R;have p':wr.cell? ⟨J,y.toNat,none⟩=some (.int .u8 ((fm f y).toNat:Int)):=by
     rw [U.cell,pP _ _ y.toNat_lt,Z5]
    have z':wr.frozen? ⟨g,k,none⟩=false:=d.frozenAt k;obtain⟨v,hv⟩: ∃v,wr.cell? ⟨g,k,none⟩=some v:=by
     rw [d.cellAt k uK];have N:k<m.length:=by have:=d.out.1;omega
     exact⟨m[k],qX N⟩
    have Q:Hid (a.getD k 0=x/\b.getD k 0=y):=⟨wH T,wH Z⟩;have O':=LQ x (fm f y);have bx:x.toNat<256:=x.toNat_lt;have M':y.toNat<256:=y.toNat_lt;clear T Z hb m'
    go_wp2_with fail;clear p' z' hv u' d';go_roundw
    case rel=>
     obtain⟨I',N9⟩:=d.stored k (.int .u8 ((x.toNat^^^(fm f y).toNat:Nat):Int));refine⟨k+1,by go_num,uK,C.setCell (p:=⟨g,k,none⟩) (by show w.heap.size<=g;omega) _,U.far (p:=⟨g,k,none⟩) (by show J≠g;omega) _,_,I',λj t=> ?_⟩
     by_cases X:k=j
     ·subst X
      have N:k<m.length:=by have:=d.out.1;omega
      rw [Qq N,Q.out.1,Q.out.2,B8,J1]
     ·rw [Z_ X];exact Y j uK
    case measure=>simp [intOf];omega
   ·obtain rfl:k=n:=uK
    have D':m=(Ds a f b).map B8:=by
     apply zm
     intro j;by_cases t:j<k
     ·rw [Y.out j t,qD,GB _ _ _ _ (by rw [O.out];exact t)];rfl
     ·rw [qO (by have:=d.out.1;omega),qO (by rw [zH,Yp,O.out];omega)]
    subst D'
    go_wp2_with fail
    go_ret2;have V:(Ds a f b).length=k:=by rw [Yp,O.out]
    refine⟨some ⟨g,0,none⟩,k, ?_, ?_⟩
    ·rw [l.out.1,l.out.2,V];rfl
    ·rw [l.out.1,V];exact⟨d.out,C.out⟩
 ·have he:((n:Int) !=(u:Int))=true:=by rw [yo];omega
  have l:Hid (sS a f b=[]/\NT a b=13):=⟨qJ uK,qJ uK⟩;clear S h1 h2 K l2;go_enter func145,ntmps145
  go_wp2_with fail
  go_ret2;exact⟨none,0,by rw [l.out.1,l.out.2];rfl,by rw [l.out.1];exact yG.nil w _⟩
end
section
open Go.Maps
variable {A:q'}{B M base c g m n:Nat}{a b w w':World}{bs:qn}{d:List Value}{e k:TypeId}{v:Int}
theorem Mj:laidOutB prog=true:=AL
theorem Mx:Keyed prog 269:=
 Keyed.of_law (deep_law_laid Mj (m:=2) uK (xD AL) AL (by rw [Zf]))
def k3 (k:UInt8×UInt8×UInt8):Value:= .agg #[B8 k.1,B8 k.2.1,B8 k.2.2]
def kl3 (k:UInt8×UInt8×UInt8):Lit:= .string (keyBytes [.int .u8 (k.1.toNat:Int), .int .u8 (k.2.1.toNat:Int), .int .u8 (k.2.2.toNat:Int)])
theorem wf8 (a:UInt8):(Lit.int .u8 (a.toNat:Int)).wf=true:=WalkArith.wf_u8 (by have:=a.toNat_lt;omega)
theorem My (k:UInt8×UInt8×UInt8):keyOf prog 269 (k3 k)=some (kl3 k):=by
 have e:prog.keyType 269=true:=AL;have c:prog.cellsOf 269=3:=AL;have d:prog.cellsOf 5=1:=AL;have f:prog.types.size+1=(prog.types.size-1)+1+1:=by
  have:1<=prog.types.size:=xD AL;omega
 have h:(k3 k).formed prog 269=true:=by simp [Value.formed,Zf,c,k3]
 unfold keyOf;simp only [Zf,e,h,Bool.and_self,if_true];rw [f];generalize prog.types.size-1=m;have j: ∀a:UInt8,prog.keyLits (m+1) 5 [.int .u8 (a.toNat:Int)]=some [.int .u8 (a.toNat:Int)]:=λa=>by
  unfold Program.keyLits;simp only [xS,wf8,and_self,if_true]
 have g: ∀b,prog.keyLits (m+1+1) 269 b=if b.length=prog.cellsOf 269 then((List.range 3).mapM λi=>prog.keyLits (m+1) 5 ((b.drop (i*prog.cellsOf 5)).take (prog.cellsOf 5))).map List.flatten else none:=λb=>by
  rw [Program.keyLits];exact Zf
 rw [g,c,d];simp [k3,Value.cells,B8,j,jA,kl3]
theorem Oc {k a:UInt8×UInt8×UInt8} (h:kl3 k=kl3 a):k=a:=by
 have h2:=Mx.inj (My k) (by rw [h];exact My a);unfold k3 B8 at h2;simp only [Value.agg.injEq,Array.mk.injEq,List.cons.injEq,Value.int.injEq,true_and,and_true] at h2;obtain⟨h3,h4,h5⟩:=h2;have c:=jG.1 (show k.1.toNat=a.1.toNat by omega);have d:=jG.1 (show k.2.1.toNat=a.2.1.toNat by omega);have b:=jG.1 (show k.2.2.toNat=a.2.2.toNat by omega);exact Prod.ext c (Prod.ext d b)
theorem Wb (k:UInt8×UInt8×UInt8):WideAt.IsKeyLit (kl3 k):=Mx.key (My k)
def places (b:qn):Nat->DataW Unit
 |0=> .map []
 |m+1=>if m+3<=b.length then(places b m).put (kl3 (JQ b m)) (.lit (.int .i64 (m:Int))) else places b m
theorem kH (b:qn): ∀m,IsMap (places b m)
 |0=>isMap_empty
 |m+1=>by
  unfold places;split
  ·exact(kH b m).put _ _
  ·exact kH b m
theorem Dv (b:qn) (k:UInt8×UInt8×UInt8): ∀m,Maps.has (places b m) (kl3 k)=(Ko b m k).isSome/\(places b m).atKey (kl3 k) (.lit (.int .i64 0))= .lit (.int .i64 (((Ko b m k).getD 0:Nat):Int))
 |0=>⟨rfl,rfl⟩
 |m+1=>by
  have d:=Dv b k m;unfold places Ko;by_cases a:m+3<=b.length
  ·rw [qk a]
   by_cases c:JQ b m=k
   ·rw [qk ⟨a,c⟩,c]
    exact⟨has_put_same (kH b m) (Wb k) _,atKey_put_same (kH b m) (Wb k) _ _⟩
   ·rw [qJ (λh=>c h.2)]
    have e:kl3 k≠kl3 (JQ b m):=λh=>c (Oc h).symm;rw [has_put_other e,atKey_put_other e];exact d
  ·rw [qJ a,qJ (λh=>a h.1)]
   exact d
theorem VZ {w:World} {n:Nat} {A:q'} {bs:qn} (h:Reads w B 1 A n (bs.map B8)) (b:0<n): ∃a,A=some a/\ ∀j,j<bs.length->w.cell? (a.add j)=some (.int .u8 ((bs.getD j 0).toNat:Int)):=by
 obtain⟨a,d,_,c⟩:=h.2 b;exact⟨a,d,λj e=>c j _ (by rw [qD,qd,qX e];rfl)⟩
theorem MQ:(prog.info? 269).map (λi=>(i.zero,i.size))=some (some (.agg #[.int .u8 0, .int .u8 0, .int .u8 0]),3):=AL
theorem OC:(prog.info? 269).map (·.size)=some 3:=AL
theorem WB (A:q') (n c B i:Nat) (bs:qn) (w:World) (h:Reads w B 1 A n (bs.map B8)) (s:B<=w.heap.size) (hi:i+3<=n) (J:n<4611686018427387904):
  Calls prog 175 #[.slice A n c,i] w λe w'=>e= .returned (k3 (JQ bs i))/\Below w w w':=by
 have K:=h.len;have m:=h.alloc s (.cells #[.int .u8 0, .int .u8 0, .int .u8 0] 269);obtain⟨b,rfl,d⟩:=VZ m uK;have u:=(jb MQ).1;have c0:=d i uK;have c1:=d (i+1) uK;have c2:=d (i+2) uK;have d1:b.add (i+1)=⟨b.block,b.off+(i+1),none⟩:=by unfold Addr.add;simp
 have d2:b.add (i+2)=⟨b.block,b.off+(i+2),none⟩:=by unfold Addr.add;simp
 have q:=c1;have r:=c2;rw [d1] at q;rw [d2] at r;clear d1 d2;have v:(i:Int)<n:=uK;have D:(i:Int)+1<n:=uK;have l2:(i:Int)+2<n:=uK;have t:(0:Int)<=(i:Int)+1:=uK;have E:(0:Int)<=(i:Int)+2:=uK;have F:IntKind.i64.wrap ((i:Int)+1)=(i:Int)+1:=by rw [show((i:Int)+1)=((i+1:Nat):Int) by omega,qU];omega
 have x:IntKind.i64.wrap ((i:Int)+2)=(i:Int)+2:=by rw [show((i:Int)+2)=((i+2:Nat):Int) by omega,qU];omega
 unfold JQ k3 B8;generalize (bs.getD i 0).toNat=k,(bs.getD (i+1) 0).toNat=l,(bs.getD (i+2) 0).toNat=g at*;clear h d m;go_in;go_wp2_with fail;have j:Below w w (w.alloc (.cells #[.int .u8 0, .int .u8 0, .int .u8 0] 269)):=z8 _;have a:Blk (w.alloc (.cells #[.int .u8 0, .int .u8 0, .int .u8 0] 269)) w 269 #[.int .u8 0, .int .u8 0, .int .u8 0]:=Blk.new _ _ _;generalize w.alloc (.cells #[.int .u8 0, .int .u8 0, .int .u8 0] 269)=f at*;have I:f.cell? w.heap.size=some (.int .u8 0):=a.cell 0;have G:f.cell? ⟨w,1,none⟩=some (.int .u8 0):=a.cell 1;have H:f.cell? ⟨w,2,none⟩=some (.int .u8 0):=a.cell 2;have y:=a.frozen 0;have z:=a.frozen 1;have M:=a.frozen 2;replace a:=qj a;replace j:=qj j;go_region;go_wp2_with fail;have o:Blk (((f.drew.setCell w (.int .u8 (k:Int))).setCell ⟨w,1,none⟩ (.int .u8 (l:Int))).setCell ⟨w,2,none⟩ (.int .u8 (g:Int))) w 269 #[.int .u8 (k:Int), .int .u8 (l:Int), .int .u8 (g:Int)]:=((a.drew.zh 0 _).zh 1 _).zh 2 _;exact qW (results_cell_row rfl _ _ w _ _ _ _ rfl o Zf rfl OC) rfl ⟨rfl,((j.drew.setCell (p:= w.heap.size) (qx _) _).setCell (p:=⟨w,1,none⟩) (qx _) _).setCell (p:=⟨w,2,none⟩) (qx _) _⟩
theorem eq8 (x y:UInt8):((x.toNat:Int)==(y.toNat:Int))=(x==y):=by
 rw [yx,yp,yp];constructor
 ·intro h;exact jG.1 uK
 ·intro h;rw [h]
theorem CH (A:q') (n c B p i:Nat) (bs:qn) (w:World) (h:Reads w B 1 A n (bs.map B8)) (F:p<i) (hi:i<n) (N:n<4611686018427387904):
  Calls prog 176 #[.slice A n c,p,i] w λe w'=>e= .returned (.int .i64 (Z3 bs p i))/\Dr w w':=by
 have u:=h.len;have H:=qj h;obtain⟨C,rfl,b⟩:=VZ h uK;clear b h;go_wp2;go_loopw [7] (λv wr=> ∃k:Nat,v=(k:Value)/\k<=257/\Hid (Dr w wr)/\Hid (Z3 bs p i=uZ bs p i (257-k) k)) (λv _=>(257-intOf v).toNat)
 ·exact⟨0,rfl,uK,Dr.refl w,rfl⟩
 ·obtain⟨k,rfl,O,d,f⟩:=hrel;have r:=d.reads H.out;by_cases L:k<257
  ·have E:(k:Int)<257:=uK;by_cases t:i+k<n
   focus
    obtain⟨J,o,b⟩:=VZ r uK;injection o with o;subst o;have c1:=b (p+k) uK;have c2:=b (i+k) uK
   rotate_left;rotate_left
   all_goals
    have z:IntKind.i64.wrap ((i:Int)+(k:Int))=(i:Int)+(k:Int):=by rw [show((i:Int)+(k:Int))=((i+k:Nat):Int) by omega,qU];omega
   focus
    have G:IntKind.i64.wrap ((p:Int)+(k:Int))=(p:Int)+(k:Int):=by rw [show((p:Int)+(k:Int))=((p+k:Nat):Int) by omega,qU];omega
    have M:(i:Int)+(k:Int)<n:=uK;have l2:(p:Int)+(k:Int)<n:=uK;have D:(0:Int)<=(i:Int)+(k:Int):=uK;have K:(0:Int)<=(p:Int)+(k:Int):=uK;have s:=eq8 (bs.getD (p+k) 0) (bs.getD (i+k) 0);have g:Hid (f_ bs p i k=(bs.getD (p+k) 0==bs.getD (i+k) 0)):=by
     unfold f_;rw [u];simp [t,Hid]
    have q:Hid (uZ bs p i (257-k) k=if f_ bs p i k=true then uZ bs p i (257-(k+1)) (k+1) else k):=by
     obtain⟨m,l⟩: ∃m,257-k=m+1:=⟨256-k,uK⟩;rw [l,show 257-(k+1)=m by omega];rfl
    generalize bs.getD (p+k) 0=x,bs.getD (i+k) 0=y at*;clear b r;cases j:(x==y)
    focus
     rw [j] at s g;have a:Hid (Z3 bs p i=k):=by
      rw [Hid,f.out,q.out,g.out];rfl
     clear j
    rotate_left
    ·rw [j] at s g;have a:Hid (Z3 bs p i=uZ bs p i (257-(k+1)) (k+1)):=by
      rw [Hid,f.out,q.out,g.out];rfl
     clear j;go_wp2;go_quiet (fail);go_wp2_with fail;refine xk ?_;exact⟨k+1,xh,uK,d.drewN _,a⟩
   rotate_left
   focus
    have I:decide ((i:Int)+(k:Int)<n)=false:=by rw [zW];omega
    have a:Hid (Z3 bs p i=k):=by
     rw [Hid,f.out];obtain⟨m,l⟩: ∃m,257-k=m+1:=⟨256-k,uK⟩;rw [l];show(if f_ bs p i k=true then _ else k)=k;rw [qJ (by unfold f_;rw [u];simp [t])]
   all_goals
    go_wp2;go_quiet (fail);go_wp2;go_ret;exact⟨Jy (by rw [a.out]),d.drewN _⟩
  ·obtain rfl:k=257:=uK;have a:Hid (Z3 bs p i=257):=f.out;go_wp2;go_quiet (fail);go_wp2;go_ret;exact⟨Jy (by rw [a.out]),d.drewN _⟩
theorem lZ (w:World):(zeroValue 3).run prog w= .ok () w:=AL
def Chn (w:World) (base g:Nat) (bs:qn) (m:Nat) (M:Nat) (A:q') (c:Nat):Prop:=
 Blk w g 200 #[.map (some M), .slice A m c]/\base<=g/\base<=M/\w.ownsMap prog 269 (plainElem prog 3) M m (places bs m)/\w.ownsRow base 3 1 (.slice A m c) m ((PO bs m).map I64)
theorem X3 {D:DataW Unit} {k:TypeId} {R:Value->Option (DataW Unit×List MemPlace)} (h:w.ownsMap prog k R M n D) (a:w'.heap[M]? =w.heap[M]?):w'.ownsMap prog k R M n D:=by
 obtain⟨b,c,h1,h2⟩:=h;exact⟨b,c,a.trans h1,h2⟩
theorem vT {size:Nat} (h:w.ownsRow base e size (.slice A n c) n d) (i: ∀a,A=some a->w'.heap[a.block]? =w.heap[a.block]?):w'.ownsRow base e size (.slice A n c) n d:=by
 refine⟨h.1,h.2.imp id λ⟨g,cap,cur,b,j,f,r⟩=>⟨g,cap,cur,b,j, ?_,r⟩⟩;injection b with b;exact(i _ b).trans f
theorem Chn.below {g:Nat} (h:Chn w base g bs m M A c) (e:Below w w w'):Chn w' base g bs m M A c:=by
 obtain⟨h1,h2,h3,h4,h5⟩:=h;refine⟨h1.below e h1.lt,h2,h3,X3 h4 (e.block _ h4.lt),vT h5 λa b=>e.block _ ?_⟩;rcases h5.2 with⟨h0,_⟩|⟨i,_,_,d,_,f,_⟩
 ·injection h0 with h0;rw [h0] at b;cases b
 ·injection d with d;rw [d] at b;injection b with b;subst b;exact(show Blk _ _ _ _ from f).lt
theorem look_eq {W:World} (h:w.ownsMap prog 269 (plainElem prog 3) M m (places bs m)) (g:W.heap[M]? =w.heap[M]?) (k:UInt8×UInt8×UInt8):
  (Instr.lookup 198 (.map (some M)) (k3 k) true).run prog W= .ok (.tuple #[(((Ko bs m k).getD 0:Nat):Int), .bool (Ko bs m k).isSome]) W:=by
 have h2:=X3 h g;obtain⟨v,j,a,b⟩:=h2.look_ok Mx underlying198 (lZ W) (plainElem_int yu FV) (My k);obtain⟨c,rfl,f,_⟩:=plainElem_int_inv yu b;obtain⟨d,i⟩:=Dv bs k m;rw [a,d];have e:=zo Prod.fst f;rw [i] at e;simp only [DataW.lit.injEq,Lit.int.injEq,true_and] at e;rw [e]
theorem EP (A:q') (n c B base i g M y:Nat) (D:q') (bs:qn) (w:World) (h:Reads w B 1 A n (bs.map B8)) (T:B<=w.heap.size) (hi:i<=n) (hn:n<4611686018427387904) (X:Chn w base g bs i M D y):
  Calls prog 124 #[.pointer g, .slice A n c,i] w λe w'=> ∃a d1:Nat,Va (DA bs i) (a,d1)/\e= .returned (.tuple #[a,d1])/\Below w w w':=by
 have V:=h.len;by_cases hs:n<i+3
 ·have OX:(n:Int)<(i:Int)+3:=uK;have N:=Ry (b:=bs) (at_:=i) uK uK;replace N:=qj N;clear X h V;go_wp2;go_ret2;exact⟨0,0,N,rfl,qZ _ _⟩
 have C:=qj X;have H:=qj h;have L:=qj V;have K:Hid (∀W,Below w w W->Calls prog 175 #[.slice A n c,i] W λe w'=>e= .returned (k3 (JQ bs i))/\Below W.heap.size W w'):=λW f=>
  WB A n c B i _ W (H.below (f.mono T)) (qv T f.size) uK hn
 have s:=C.out.1.cell 0;simp only [qR,qt] at s;have E:Hid (∀W,Below w w W->W.cell? g=some (.map (some M))/\W.cell? ⟨g,1,none⟩=some (.slice D i y)):=λW f=>
  ⟨(C.out.1.below f C.out.1.lt).cell 0,(C.out.1.below f C.out.1.lt).cell 1⟩
 have l:Hid (∀W,Below w w W->(Instr.lookup 198 (.map (some M)) (k3 (JQ bs i)) true).run prog W= .ok (.tuple #[(((Ko bs i (JQ bs i)).getD 0:Nat):Int), .bool (Ko bs i (JQ bs i)).isSome]) W):=λW f=>
  look_eq C.out.2.2.2.1 (f.block _ C.out.2.2.2.1.lt) _
 clear X h V;have Z:=qj (sH bs i);cases d:Ko bs i (JQ bs i)
 focus have o:=qj (pV (by rw [L.out];omega) (qx _) uK (by rw [xO];exact Z) d)
 rotate_left
 focus
  rename_i p0;have Hl:=qj d
 rotate_left
 all_goals
  rw [d] at l;simp only [Option.getD_none,Zv,Xz,Xq] at l;clear d;go_in;go_wp2_with fail;go_region_held3 (λw'=>w'.cell? g=some (.map (some M))/\Below w w w')
   (first|assumption|exact⟨s,qZ _ _⟩|exact⟨s,Below.drew (qZ _ _)⟩|exact⟨v,j⟩)
   (first|(go_at_call 175;((with_reducible refine(K.out _ (by first|assumption|exact qZ _ _|exact Below.drew (qZ _ _))).mono ?_);rintro e S ⟨rfl,u⟩;have j:Below w w S:=Below.trans (by first|assumption|exact qZ _ _|exact Below.drew (qZ _ _)) (u.mono (by first|exact qx _|simp));have v:=(E.out _ j).1;have p':=l.out _ j;clear u)))
  go_wp2_with fail
 ·go_loopw [6,7,8] (λG U t wr=>G= .int .i64 0/\U= .int .i64 0/\t= .int .i64 0/\Hid (Below w w wr)) (λ_ _ _ _=>0)
  ·exact⟨rfl,rfl,rfl,j⟩
  ·obtain⟨rfl,rfl,rfl,m⟩:=hrel;go_wp2;go_ret2;exact⟨0,0,o,rfl,m⟩
 ·have HC:Hid (∀W,Below w w W->Chn W base g bs i M D y):=λW f=>C.below f;have HR:Hid (∀W,Below w w W->Reads W B 1 A n (bs.map B8)):=λW f=>H.below (f.mono T);clear p' v s K;go_loopw [6,7,8] (λG U t wr=> ∃(q a d1:Nat),G=(a:Value)/\U=(d1:Value)/\t= .int .i64 (da (Ko bs q (JQ bs i)))/\q<=i/\a<=257/\Hid (i-q<=win i)/\Hid (Va (VK bs i (i-q)) (a,d1))/\Hid (Below w w wr)) (λ_ _ t _=>(intOf t+1).toNat)
  ·exact⟨i,0,0,rfl,rfl,by rw [Hl.out];rfl,qx _,uK,(show i-i<=win i by omega),(by rw [xO];exact Z),j⟩
  ·obtain⟨q,a,d1,rfl,rfl,rfl,J,O',O,x,m⟩:=hrel;cases d:Ko bs q (JQ bs i)
   ·have o:=qj (pV (by rw [L.out];omega) J O x d);clear d;simp only [da];go_wp2;go_ret2;exact⟨a,_,o,rfl,m⟩
   ·rename_i p;have Q:=qj (YI d);have Q':=Q.out.1;by_cases J':4095<i-p
    focus
     have o:=qj (Gh (by rw [L.out];omega) J O x d J');have m':(4095:Int)<(i:Int)-(p:Int):=uK
    rotate_left
    focus
     by_cases I':257<=a
     focus
      have o:=qj (GH O x I');have m':(i:Int)-(p:Int)<=4095:=uK
     rotate_left
     ·have m':(i:Int)-(p:Int)<=4095:=uK;have N9:(a:Int)<257:=uK;have iL:((p:Int) != -1)=true:=by rw [yo];omega
      have z:=qj (sB (by rw [L.out];omega) J x d);have Ha:=qj (CH A n c B p i _ _ (HR _ m) uK uK hn);have N':Hid (FE bs p=da (Ko bs p (JQ bs i))):=by
       unfold FE;rw [qk Q.out.2.1,Q.out.2.2.1];rfl
      have M':=wY bs p i;have D':Hid (da (Ko bs p (JQ bs i))+1<=(p:Int)):=by
       cases h:Ko bs p (JQ bs i)
       ·simp [da,Hid]
       ·have:=(YI h).1;simp only [da,Hid];omega
      have u':Hid (-1<=da (Ko bs p (JQ bs i))):=by
       cases h:Ko bs p (JQ bs i)
       ·simp [da,Hid]
       ·simp only [da,Hid];omega
      clear d;simp only [da];go_wp2_with fail;refine zC Ha ?_;intro R hD;have I:=qj (m.trans (hD.below _));clear hD;generalize Z3 bs p i=k at*;have P:=HC R I.out;have g1:R.cell? ⟨g,1,none⟩=some (.slice D i y):=P.1.cell 1;have z':=Reads.zY P.2.2.2.2;obtain⟨ad,rfl,_,G'⟩:=z'.2 uK;have P':R.cell? (ad.add p)=some (.int .i64 (da (Ko bs p (JQ bs i)))):=by
       have h:=G' p _ (by rw [qD,Ng bs i p uK];rfl);rw [h,N'.out];rfl
      have S':=j' p i;clear P z' G';by_cases d':a<k
      ·have N6:=j' a k;rw [qk d'] at z;have F:=qj z.out.2.2;have Y:Hid (i-p<=win i):=by unfold win Hid;omega
       have Hm:=qj (show k<=257 from M');generalize r:da (Ko bs p (JQ bs i))=pv at*;replace r:=qj r;go_wp2;go_roundw
       case rel=>exact⟨p,k,i-p,rfl,xh,zo (Value.int .i64) r.symm,uK,Hm,Y,F,I⟩
       case measure=>have h1:=D'.out;have h2:=u'.out;simp only [intOf];omega
      ·rw [qJ d'] at z;have F:=qj z.out.2.2;have Y:Hid (i-p<=win i):=by unfold win Hid;omega
       generalize r:da (Ko bs p (JQ bs i))=pv at*;replace r:=qj r;go_wp2;go_roundw
       case rel=>exact⟨p,a,d1,rfl,rfl,zo (Value.int .i64) r.symm,uK,O',Y,F,I⟩
       case measure=>have h1:=D'.out;have h2:=u'.out;simp only [intOf];omega
    all_goals
     have iL:((p:Int) != -1)=true:=by rw [yo];omega
     clear d;simp only [da];go_wp2;go_ret2;exact⟨a,d1,o,rfl,m⟩
def Qx (w w':World):Prop:= ∀(k:Nat) (t:TypeId) (b:Array Value) (a:Nat×Nat),w.heap[k]? =some (.cells b t a)->t≠200->t≠3->w'.heap[k]? =some (.cells b t a)
theorem Qx.refl (w:World):Qx w w:=λ_ _ _ _ h _ _=>h
theorem Qx.trans {c:World} (h:Qx a b) (f:Qx b c):Qx a c:=λk t e d g h1 h2=>f k t e d (h k t e d g h1 h2) h1 h2
theorem yF {k:Nat} {o:Obj} (h:w.heap[k]? =some o):k<w.heap.size:=by
 rcases jE k w.heap.size with a|b
 ·exact a
 ·rw [zg b] at h;cases h
theorem Qx.alloc (w:World) (o:Obj):Qx w (w.alloc o):=λk _ _ _ a _ _=>(heap_alloc_old w o (yF a)).trans a
theorem Qx.below (h:Below w w w'):Qx w w':=λk _ _ _ a _ _=>(h.block k (yF a)).trans a
theorem Qx.setCell {d:Array Value} {t:TypeId} {c:Nat×Nat} (b:w.heap[g]? =some (.cells d t c)) (ht:t=200\/t=3) (j:Nat) (u:Value):Qx w (w.setCell ⟨g,j,none⟩ u):=λk h i f a h1 h2=>by
 have e:k≠g:=by
  rintro rfl;rw [b] at a;injection a with a
  injection a with _ a
  subst a;rcases ht with ht|ht
  ·exact h1 ht
  ·exact h2 ht
 exact(jT w ⟨g,j,none⟩ u k e).trans a
theorem Qx.grown {row:Option Nat} (h:w.grownBy w' row) (i: ∀g,row=some g->(∃f c,w.heap[g]? =some (.cells f 3 c))\/ ∃d b,w.heap[g]? =some (.map d b)):Qx w w':=λk t f c a h1 h2=>by
 refine(h.block k (yF a) λe=> ?_).trans a;rcases i k e.symm with⟨l,j,h3⟩|⟨d,b,h3⟩
 ·rw [a] at h3
  injection h3 with h3
  injection h3 with _ h3
  exact h2 h3
 ·rw [a] at h3;cases h3
theorem yk {size:Nat} {f:List Value} (h:w.ownsRow base e size (.slice A n c) n f): ∀g,A.map (·.block)=some g-> ∃j i,w.heap[g]? =some (.cells j e i):=by
 intro g a;rcases h.2 with⟨h0,_⟩|⟨k,_,cur,b,_,d,_⟩
 ·injection h0 with h0;rw [h0] at a;cases a
 ·injection b with b;rw [b] at a;injection a with a;subst a;exact⟨_,_,d⟩
theorem UC {D:DataW Unit} {R:Value->Option (DataW Unit×List MemPlace)} (h:w.ownsMap prog k R M n D): ∃b a,w.heap[M]? =some (.map b a):=by
 obtain⟨b,a,h,_⟩:=h;exact⟨b,a,h⟩
theorem dg {b:Array Value} {i:List Value} (d:Blk w g 200 b) (h:w.ownsRow base 3 1 (.slice A n c) n i):some g≠A.map (·.block):=by
 intro e;obtain⟨k,j,a⟩:=yk h g e.symm;have f:w.heap[g]? =some (.cells b 200):=d;rw [f] at a;injection a with a;injection a with _ a;exact absurd a FV
theorem BJ {b:Array Value} {D:DataW Unit} {R:Value->Option (DataW Unit×List MemPlace)} (c:Blk w g 200 b) (h:w.ownsMap prog k R M n D):g≠M:=by
 rintro rfl;obtain⟨f,e,a⟩:=UC h;have d:w.heap[g]? =some (.cells b 200):=c;rw [d] at a;cases a
theorem uH {D:DataW Unit} {R:Value->Option (DataW Unit×List MemPlace)} (h:w.ownsRow base 3 1 (.slice A n c) n d) (f:w.ownsMap prog k R M m D):A.map (·.block)≠some M:=by
 intro e;obtain⟨l,i,b⟩:=yk h M e;obtain⟨j,g,a⟩:=UC f;rw [b] at a;cases a
theorem Eu:(prog.info? 3).map (λi=>(i.zero,i.size,i.bytes))=some (some (.int .i64 0),1,8):=AL
def ub (w:World) (base g:Nat) (bs:qn) (m:Nat) (M:Nat) (A:q') (c:Nat) (v:Int):Prop:=
 Blk w g 200 #[.map (some M), .slice A (m+1) c]/\base<=g/\base<=M/\w.ownsMap prog 269 (plainElem prog 3) M m (places bs m)/\w.ownsRow base 3 1 (.slice A (m+1) c) (m+1) ((PO bs m).map I64++[I64 v])
theorem ub.below {v:Int} (h:ub w base g bs m M A c v) (b:Below w w w'):ub w' base g bs m M A c v:=by
 obtain⟨h1,h2,h3,h4,h5⟩:=h;refine⟨h1.below b h1.lt,h2,h3,X3 h4 (b.block _ h4.lt),vT h5 λa e=>b.block _ ?_⟩;obtain⟨i,f,d⟩:=yk h5 _ (by rw [e];rfl);exact yF d
theorem BX {c1:Nat} {d:q'} (h:Chn w base g bs m M A c) (q:base<=w.heap.size) (o:b.ownsRow base 3 1 (.slice d (m+1) c1) (m+1) ((PO bs m).map I64++[I64 (-1)])) (j:(w.alloc (.cells #[.int .i64 (-1)] 3)).grownBy b (A.map (·.block))):
  ub (b.setCell ⟨g,1,none⟩ (.slice d (m+1) c1)) base g bs m M d c1 (-1)/\Below base w (b.setCell ⟨g,1,none⟩ (.slice d (m+1) c1))/\Qx w (b.setCell ⟨g,1,none⟩ (.slice d (m+1) c1))/\Blk b g 200 #[.map (some M), .slice A m c]:=by
 obtain⟨h1,h2,h3,h4,h5⟩:=h;have n:Blk (w.alloc (.cells #[.int .i64 (-1)] 3)) g 200 #[.map (some M), .slice A m c]:=h1.alloc _;have i:=h5.alloc (.cells #[.int .i64 (-1)] 3);have r:=h4.alloc (.cells #[.int .i64 (-1)] 3);have f:=n.grown j (dg n i);have l:=r.kept j (λe=>uH i r e.symm);refine⟨⟨(f.zh 1 (.slice d (m+1) c1)),h2,h3,l.setCell (BJ f l).symm _,vT o λa s=> ?_⟩, ?_, ?_,f⟩
 ·refine jT b ⟨g,1,none⟩ _ a.block ?_;intro e;exact dg f o (by rw [s];exact zo _ e.symm)
 ·have u:Below base w (w.alloc (.cells #[.int .i64 (-1)] 3)):=(qZ _ _).alloc q _;exact(zG u j i (qv q s8)).setCell h2 _
 ·refine((Qx.alloc w _).trans (Qx.grown j λk t=> .inl ?_)).trans (Qx.setCell f (.inl rfl) _ _);exact yk i k t
theorem pW (h:Below B a w) (n:Nat):Below B a (w.drewN n):=⟨h.os,h.tape,h.output,h.size,h.block⟩
theorem Cb (h:ub w base g bs m M A c v) (a:FE bs m=v) (b:bs.length<m+3):Chn w base g bs (m+1) M A c:=by
 obtain⟨h1,h2,h3,h4,h5⟩:=h;refine⟨h1,h2,h3, ?_, ?_⟩
 ·have e:places bs (m+1)=places bs m:=by unfold places;rw [qJ uK];cases m<;>rfl
  rw [e];exact h4.mono (jv m)
 ·rw [fD,qg,a];exact h5
theorem EU {w':World} (h:ub w base g bs m M A c v) (f:FE bs m=v) (i:w'.ownsMap prog 269 (plainElem prog 3) M (m+1) (places bs (m+1))) (d:w.grownBy w' (some M)):Chn w' base g bs (m+1) M A c:=by
 obtain⟨h1,h2,h3,h4,h5⟩:=h;refine⟨h1.grown d (λe=>BJ h1 h4 (zy e)),h2,h3,i, ?_⟩;rw [fD,qg,f];refine vT h5 λa b=>d.block _ ?_ ?_
 ·obtain⟨l,k,j⟩:=yk h5 _ (by rw [b];rfl);exact yF j
 ·intro e;exact uH h5 h4 (by rw [b];exact e)
theorem tl {b:Nat} (u:Int) (h:ub w base g bs m M b c v):ub (w.setCell ⟨b,m,none⟩ u) base g bs m M b c u/\Qx w (w.setCell ⟨b,m,none⟩ u)/\base<=b:=by
 obtain⟨h1,h2,h3,h4,h5⟩:=h;have j:some g≠some b:=dg h1 h5;have i:some b≠some M:=uH h5 h4;obtain⟨l,k,f⟩:=yk h5 b rfl;refine⟨⟨h1.far (p:=⟨b,m,none⟩) (λe=>j (zo _ e)) _,h2,h3,h4.setCell (a:=⟨b,m,none⟩) (λe=>i (zo _ e.symm)) _, ?_⟩,Qx.setCell f (.inr rfl) _ _, ?_⟩
 ·have h:=(h5.stored m u).1;rw [Qh _ _ (by simp [PX])] at h;simpa [PX,I64] using h
 ·rcases h5.2 with⟨h0,_⟩|⟨o,_,_,d,n,_⟩
  ·cases h0
  ·simp only [Ql,Option.some.injEq,Addr.mk.injEq,and_true] at d;omega
theorem F4 (A:q') (n c B base i g M I:Nat) (J:q') (bs:qn) (w:World) (h:Reads w B 1 A n (bs.map B8)) (hB:B<=base) (E:base<=w.heap.size) (hi:i<n) (hn:n<4294967296) (hC:Chn w base g bs i M J I):
  Calls prog 125 #[.pointer g, .slice A n c,i] w λe w'=>(∃v,e= .returned v)/\(∃A' c',Chn w' base g bs (i+1) M A' c')/\Below base w w'/\Qx w w':=by
 have s:=h.len;have C:=qj hC;have H:=qj h;have L:=qj s;obtain⟨i0,X,V,Y,m'⟩:=xt Eu;have g1:w.cell? ⟨g,1,none⟩=some (.slice J i I):=C.out.1.cell 1;have D':i+1<=maxLen:=SJ;have z':(i+1)*8<=140737488355328:=uK;clear hC h s;by_cases hs:n<i+3
 focus
  have J':(n:Int)<(i:Int)+3:=uK;have Hp:Hid (FE bs i= -1):=by unfold FE;rw [qJ (by rw [L.out];omega)];rfl
 rotate_left
 focus
  have K:Hid (∀W,Below base w W->base<=W.heap.size->Calls prog 175 #[.slice A n c,i] W λe w'=>e= .returned (k3 (JQ bs i))/\Below W.heap.size W w'):=λW hW M'=>
   WB A n c B i _ W (H.below (hW.mono hB)) (qv hB M') uK uK
  have HL:Hid (∀(W:World) (l:q') (c1 q:Nat) (v:Int),ub W base g bs i M l c1 v->(Instr.lookup 198 (.map (some M)) (k3 (JQ bs i)) true).run prog (W.drewN q)= .ok (.tuple #[(((Ko bs i (JQ bs i)).getD 0:Nat):Int), .bool (Ko bs i (JQ bs i)).isSome]) (W.drewN q)):=λW l c1 q v hW=>
   look_eq hW.2.2.2.1 (show(W.drewN q).heap[M]? =W.heap[M]?from rfl) _
  have hz:=(jb MQ).1;obtain⟨m,o,f,d⟩: ∃m o f:Nat,k3 (JQ bs i)= .agg #[.int .u8 m, .int .u8 o, .int .u8 f]:=⟨_,_,_,rfl⟩;have Hk:=qj (My (JQ bs i));rw [d] at K HL Hk;clear d;have G':Hid (places bs (i+1)=(places bs i).put (kl3 (JQ bs i)) (.lit (.int .i64 (i:Int)))):=by
   show(if i+3<=bs.length then _ else _)=_;rw [qk (by rw [L.out];omega)]
  have d':Hid (FE bs i=da (Ko bs i (JQ bs i))):=by unfold FE;rw [qk (by rw [L.out];omega)];rfl
 rotate_left
 all_goals
  go_in;go_wp2_with (at_builtin;refine qF _ rfl (.tmp 13) (.tmp 14) 62 rfl base 3 i0 () 1 8 jj X V Y m' rfl uK J i I _ rfl (C.out.2.2.2.2.alloc _) (w.heap.size+1) w 1 1 [.int .i64 (-1)] rfl (zU _ _ _) (one_one rfl) D' z' (qv E s8) ?_;intro l c1 O P S u';have F:=qj (BX C E P S);have f1:=F.out.2.2.2.frozen 1;have z1:O.cell? ⟨g,1,none⟩=some (.slice J i I):=F.out.2.2.2.cell 1;clear P S u')
 ·exact qW (v:= .tuple #[]) (by simp [results,results125,go_sem]) rfl ⟨⟨_,rfl⟩,⟨l,c1,Cb F.out.1 Hp (by rw [L.out];omega)⟩,F.out.2.1,F.out.2.2.1⟩
 ·have p':=qv E F.out.2.1.size;generalize O.setCell ⟨g,1,none⟩ (.slice l (i+1) c1)=w3 at*;refine zC (K _ F.out.2.1 p') ?_;intro u x;replace x:=qj x;go_wp2_with fail;have r:ub (u.alloc (.cells #[.int .u8 m, .int .u8 o, .int .u8 f] 269)) base g bs i M l c1 (-1):=F.out.1.below (x.alloc x.size _);have U:Below base w (u.alloc (.cells #[.int .u8 m, .int .u8 o, .int .u8 f] 269)):=F.out.2.1.trans ((x.alloc x.size _).mono p');have Z:Qx w (u.alloc (.cells #[.int .u8 m, .int .u8 o, .int .u8 f] 269)):=(F.out.2.2.1.trans (Qx.below x)).trans (Qx.alloc u _);have y:Blk (u.alloc (.cells #[.int .u8 m, .int .u8 o, .int .u8 f] 269)) u 269 #[.int .u8 m, .int .u8 o, .int .u8 f]:=Blk.new _ _ _;generalize u.alloc (.cells #[.int .u8 m, .int .u8 o, .int .u8 f] 269)=a,u.heap.size=j at*;have s:=λq=>HL.out a l _ q _ r;have n0:a.cell? g=some (.map (some M)):=r.1.cell 0;have n1:a.cell? ⟨g,1,none⟩=some (.slice l (i+1) c1):=r.1.cell 1;have k0:a.cell? j=some (.int .u8 m):=y.cell 0;have k1:a.cell? ⟨j,1,none⟩=some (.int .u8 o):=y.cell 1;have k2:a.cell? ⟨j,2,none⟩=some (.int .u8 f):=y.cell 2;revert r U Z y;refine yl ?_;intro r U Z y;clear f1 z1 p';cases iL:Ko bs i (JQ bs i)
  focus
   rw [iL] at s d';simp only [Option.getD_none,Xz] at s;clear iL;go_quiet (fail);go_wp2_with fail;have t:Hid (ub (a.drewN nq) base g bs i M l c1 (-1)):=r.out;have T:Hid (Below base w (a.drewN nq)):=pW U _;have T6:Hid (Qx w (a.drewN nq)):=Z.out;have n0:(a.drewN nq).cell? g=some (.map (some M)):=t.out.1.cell 0;have D:Hid (Blk (a.drewN nq) j 269 #[.int .u8 m, .int .u8 o, .int .u8 f]):=y.out;have k0:(a.drewN nq).cell? j=some (.int .u8 m):=D.cell 0;have k1:(a.drewN nq).cell? ⟨j,1,none⟩=some (.int .u8 o):=D.cell 1;have k2:(a.drewN nq).cell? ⟨j,2,none⟩=some (.int .u8 f):=D.cell 2;clear s;generalize a.drewN nq=z at*
  rotate_left
  focus
   rename_i p;rw [iL] at s d';simp only [Zv,Xq] at s;clear iL;obtain⟨b,rfl,I'⟩: ∃b,l=some ⟨b,0,none⟩/\base<=b:=by
    rcases r.out.2.2.2.2.2 with⟨_,h0⟩|⟨b,cap,cur,hv,hb,_⟩
    ·omega
    ·simp only [Ql] at hv;exact⟨b,hv.1,hb⟩
   have rc:a.cell? ⟨b,i,none⟩=some (.int .i64 (-1)):=by
    rw [r.out.2.2.2.2.cellAt i uK,qm (by simp [PX])];simp [PX,I64]
   have rf:=r.out.2.2.2.2.frozenAt i;have N9:(i:Int)<(i:Int)+1:=uK;go_quiet (fail);go_wp2_with fail;have S6:=qj (tl (p:Int) (show ub (a.drewN nq) base g bs i M b c1 (-1) from r.out));have N6:j≠b:=by
    intro e;obtain⟨cs,fr,hc⟩:=yk r.out.2.2.2.2 b rfl;have N:a.heap[j]? =some (.cells #[.int .u8 m, .int .u8 o, .int .u8 f] 269):=y.out;rw [e,hc] at N;injection N with N;injection N with _ N;exact absurd N FV
   have t:=qj S6.out.1;have T:Hid (Below base w ((a.drewN nq).setCell ⟨b,i,none⟩ p)):=(pW U _).setCell I' _;have T6:=qj ((show Qx w (a.drewN nq) from Z.out).trans S6.out.2.1);have n0:((a.drewN nq).setCell ⟨b,i,none⟩ p).cell? g=some (.map (some M)):=t.out.1.cell 0;have D:Hid (Blk ((a.drewN nq).setCell ⟨b,i,none⟩ p) j 269 #[.int .u8 m, .int .u8 o, .int .u8 f]):=(show Blk (a.drewN nq) j _ _ from y.out).far N6 _;have k0:((a.drewN nq).setCell ⟨b,i,none⟩ p).cell? j=some (.int .u8 m):=D.cell 0;have k1:((a.drewN nq).setCell ⟨b,i,none⟩ p).cell? ⟨j,1,none⟩=some (.int .u8 o):=D.cell 1;have k2:((a.drewN nq).setCell ⟨b,i,none⟩ p).cell? ⟨j,2,none⟩=some (.int .u8 f):=D.cell 2;clear s;generalize (a.drewN nq).setCell ⟨b,i,none⟩ p=z at*
  rotate_left
  all_goals
   go_still_tail 6,AL;have Q:Hid (z.drew.ownsMap prog 269 (plainElem prog 3) M i (places bs i)):=t.out.2.2.2.1;go_wp2_with (at_mapUpdate;refine wpList_mapUpdate_own _ rfl _ _ _ 198 rfl 269 3 Mx underlying198 _ M i (places bs i) rfl Q SJ _ _ (kl3 (JQ bs i)) rfl rfl Hk (.lit (.int .i64 (i:Int))) [] (plainElem_int yu (WalkArith.wf_i64 uK)) ?_;intro w7 R G);rw [<-G'.out] at R
  ·have C7:ub z.drew base g bs i M l c1 (-1):=t.out;go_end0;exact⟨⟨_,rfl⟩,⟨l,c1,EU C7 (by rw [d'.out];rfl) R G⟩,T.drew.grown G (qv E T.size) (λk d=>by injection d with d;rw [<-d];exact t.out.2.2.1),(show Qx w z.drew from T6.out).trans (Qx.grown G λk d=> .inr (by injection d with d;rw [<-d];exact UC Q))⟩
  ·have C7:ub z.drew base g bs i M b c1 ((p:Int)):=t.out;go_end0;exact⟨⟨_,rfl⟩,⟨_,c1,EU C7 (by rw [d'.out];rfl) R G⟩,T.drew.grown G (qv E T.size) (λk d=>by injection d with d;rw [<-d];exact t.out.2.2.1),(show Qx w z.drew from T6.out).trans (Qx.grown G λk d=> .inr (by injection d with d;rw [<-d];exact UC Q))⟩
end
end Go.Proofs.YtfnlfpcfkbdcmaaGreatDoor
