import Derived.Test.YtfnlfpcfkbdcmaaGreatDoorL22
import Derived.Test.YtfnlfpcfkbdcmaaGreatDoorL23
set_option linter.unusedSimpArgs false
set_option linter.unusedVariables false
set_option maxRecDepth 100000
set_option maxHeartbeats 0
open Go.Proofs.Tryz
namespace Go.Proofs.YtfnlfpcfkbdcmaaGreatDoor
open Go.RowKit
section
variable {A A0 A1 f:q'}{N a base c0 c1 cap g gc i k n0 n1 v:Nat}{V W W' W4:World}{b:qn}{c:Cu}{l x y:List Nat}{t:TypeId}
def bdC (a b:Value) (k i:Nat):Array Value:= #[a,b,k,i,zn,zn,zn,zn,zn,zn]
structure JN (W:World) (base g:Nat) (A0:q') (n0 c0:Nat) (x:List Nat) (A1:q') (n1 c1:Nat) (y:List Nat) (k i:Nat):Prop where
 blk:Blk W g 174 (bdC (.slice A0 n0 c0) (.slice A1 n1 c1) k i)
 o0:W.ownsRow base 3 1 (.slice A0 n0 c0) n0 (x.map NV)
 o1:W.ownsRow base 3 1 (.slice A1 n1 c1) n1 (y.map NV)
 ap: ∀k∈fpS A0,k∉fpS A1
 bs:base<=W.heap.size
theorem JN.q0 (h:JN W base g A0 n0 c0 x A1 n1 c1 y k i):W.cell? g=some (.slice A0 n0 c0):=h.blk.cell 0
theorem JN.q1 (h:JN W base g A0 n0 c0 x A1 n1 c1 y k i):W.cell? ⟨g,1,none⟩=some (.slice A1 n1 c1):=h.blk.cell 1
theorem JN.q2 (h:JN W base g A0 n0 c0 x A1 n1 c1 y k i):W.cell? ⟨g,2,none⟩=some (k:Value):=h.blk.cell 2
theorem JN.q3 (h:JN W base g A0 n0 c0 x A1 n1 c1 y k i):W.cell? ⟨g,3,none⟩=some (i:Value):=h.blk.cell 3
theorem JN.jZ (h:JN W base g A0 n0 c0 x A1 n1 c1 y k i) (a:qE l W W') (b:g∉l) (h1: ∀k∈fpS A0,k∉l) (h2: ∀k∈fpS A1,k∉l):JN W' base g A0 n0 c0 x A1 n1 c1 y k i:=
 ⟨a.blk h.blk b,a.own h.o0 h1,a.own h.o1 h2,h.ap,qv h.bs a.size⟩
theorem JN.fresh (h:JN W base g A0 n0 c0 x A1 n1 c1 y k i) (a:Below W W W'):JN W' base g A0 n0 c0 x A1 n1 c1 y k i:=h.jZ (qE.jq (l:=[]) a) s8 s8 s8
theorem JN.cur (h:JN W base g A0 n0 c0 x A1 n1 c1 y k i) (d:Cur W gc A N cap b c) (j:qE [gc] W W'):JN W' base g A0 n0 c0 x A1 n1 c1 y k i:=
 h.jZ j (λe=>h.blk.ne_ d.blk FV (qy.1 e)) (λk f a=>qT h.o0 d.blk FV k f (qy.1 a)) (λk f a=>qT h.o1 d.blk FV k f (qy.1 a))
theorem JN.lH (h:JN W base g A0 n0 c0 x A1 n1 c1 y k i) (w:Cur W gc A N cap b c) (o:Obj) {l:Nat} (B:(W.alloc o).grownBy W4 (A0.map (·.block))) (r:W4.ownsRow base 3 1 (.slice f (n0+1) l) (n0+1) (x.map NV++[NV v])) (C:JU (W.alloc o) A0 f) (z:V.heap.size<=base) (u:qE [g] V W):
  (W4.cell? g=some (.slice A0 n0 c0)/\W4.frozen? g=false)/\JN (W4.setCell g (.slice f (n0+1) l)) base g f (n0+1) l (x++[v]) A1 n1 c1 y k i/\qE [g] V (W4.setCell g (.slice f (n0+1) l))/\Cur (W4.setCell g (.slice f (n0+1) l)) gc A N cap b c:=by
 have t:=(qZ _ W).alloc (qx _) o;have h1:=h.fresh t;have q1:=w.fresh t;have m:=(qE.refl _ _).grown B (λk a=> .inl a);have j:=m.blk h1.blk (λa=>qT h1.o0 h1.blk FV g a rfl);have s:=m.own h1.o1 (λk a d=>h1.ap k d a);have n:=q1.jZ m (λe=>qT h1.o0 q1.blk FV _ e rfl) (xz q1.own h1.o0 FV);have q:qE [g] W4 (W4.setCell g (.slice f (n0+1) l)):=(qE.refl _ _).zh (p:= g) (qy.2 rfl) _;refine⟨⟨j.cell 0,j.frozen 0⟩,⟨j.zh 0 _, ?_, ?_, ?_, ?_⟩, ?_, ?_⟩
 ·rw [qg];exact q.own r (λk a d=>qT r j FV k a (qy.1 d))
 ·exact q.own s (λk a d=>qT s j FV k a (qy.1 d))
 ·intro k a d;rcases Y9 C k a with h2|h2
  ·exact h.ap k h2 d
  ·have:=(zj h1.o1 k d).2;omega
 ·rw [zO];exact qv h1.bs m.size
 ·exact((u.alloc o).trans m (λk a=> .inr (qv z (zj h1.o0 k a).1))).zh (p:= g) (qy.2 rfl) _
 ·exact n.jZ q (λe=>n.blk.ne_ j FV (qy.1 e)) (λk a d=>qT n.own j FV k a (qy.1 d))
theorem JN.lB (h:JN W base g A0 n0 c0 x A1 n1 c1 y k i) (w:Cur W gc A N cap b c) (o:Obj) {l:Nat} (B:(W.alloc o).grownBy W4 (A1.map (·.block))) (r:W4.ownsRow base 3 1 (.slice f (n1+1) l) (n1+1) (y.map NV++[NV v])) (C:JU (W.alloc o) A1 f) (z:V.heap.size<=base) (u:qE [g] V W):
  (W4.cell? ⟨g,1,none⟩=some (.slice A1 n1 c1)/\W4.frozen? ⟨g,1,none⟩=false)/\JN (W4.setCell ⟨g,1,none⟩ (.slice f (n1+1) l)) base g A0 n0 c0 x f (n1+1) l (y++[v]) k i/\qE [g] V (W4.setCell ⟨g,1,none⟩ (.slice f (n1+1) l))/\Cur (W4.setCell ⟨g,1,none⟩ (.slice f (n1+1) l)) gc A N cap b c:=by
 have t:=(qZ _ W).alloc (qx _) o;have h1:=h.fresh t;have q1:=w.fresh t;have m:=(qE.refl _ _).grown B (λk a=> .inl a);have j:=m.blk h1.blk (λa=>qT h1.o1 h1.blk FV g a rfl);have s:=m.own h1.o0 (λk a d=>h1.ap k a d);have n:=q1.jZ m (λe=>qT h1.o1 q1.blk FV _ e rfl) (xz q1.own h1.o1 FV);have q:qE [g] W4 (W4.setCell ⟨g,1,none⟩ (.slice f (n1+1) l)):=(qE.refl _ _).zh (p:=⟨g,1,none⟩) (qy.2 rfl) _;refine⟨⟨j.cell 1,j.frozen 1⟩,⟨j.zh 1 _, ?_, ?_, ?_, ?_⟩, ?_, ?_⟩
 ·exact q.own s (λk a d=>qT s j FV k a (qy.1 d))
 ·rw [qg];exact q.own r (λk a d=>qT r j FV k a (qy.1 d))
 ·intro k a d;rcases Y9 C k d with h2|h2
  ·exact h.ap k a h2
  ·have:=(zj h1.o0 k a).2;omega
 ·rw [zO];exact qv h1.bs m.size
 ·exact((u.alloc o).trans m (λk a=> .inr (qv z (zj h1.o1 k a).1))).zh (p:=⟨g,1,none⟩) (qy.2 rfl) _
 ·exact n.jZ q (λe=>n.blk.ne_ j FV (qy.1 e)) (λk a d=>qT n.own j FV k a (qy.1 d))
theorem JN.GS (h:JN W base g A0 n0 c0 x A1 n1 c1 y k i) (f:Cur W gc A N cap b c) (v:Nat) (l:qE [g] V W):
  JN (W.setCell ⟨g,2,none⟩ v) base g A0 n0 c0 x A1 n1 c1 y v i/\qE [g] V (W.setCell ⟨g,2,none⟩ v)/\Cur (W.setCell ⟨g,2,none⟩ v) gc A N cap b c:=by
 have j:qE [g] W (W.setCell ⟨g,2,none⟩ v):=(qE.refl _ _).zh (p:=⟨g,2,none⟩) (qy.2 rfl) _;exact⟨⟨h.blk.zh 2 _,j.own h.o0 (λk a d=>qT h.o0 h.blk FV k a (qy.1 d)),j.own h.o1 (λk a d=>qT h.o1 h.blk FV k a (qy.1 d)),h.ap,by rw [zO];exact h.bs⟩,l.zh (p:=⟨g,2,none⟩) (qy.2 rfl) _,
  f.jZ j (λe=>f.blk.ne_ h.blk FV (qy.1 e)) (λk a d=>qT f.own h.blk FV k a (qy.1 d))⟩
theorem JN.gJ (h:JN W base g A0 n0 c0 x A1 n1 c1 y k i) (f:Cur W gc A N cap b c) (v:Nat) (l:qE [g] V W):
  JN (W.setCell ⟨g,3,none⟩ v) base g A0 n0 c0 x A1 n1 c1 y k v/\qE [g] V (W.setCell ⟨g,3,none⟩ v)/\Cur (W.setCell ⟨g,3,none⟩ v) gc A N cap b c:=by
 have j:qE [g] W (W.setCell ⟨g,3,none⟩ v):=(qE.refl _ _).zh (p:=⟨g,3,none⟩) (qy.2 rfl) _;exact⟨⟨h.blk.zh 3 _,j.own h.o0 (λk a d=>qT h.o0 h.blk FV k a (qy.1 d)),j.own h.o1 (λk a d=>qT h.o1 h.blk FV k a (qy.1 d)),h.ap,by rw [zO];exact h.bs⟩,l.zh (p:=⟨g,3,none⟩) (qy.2 rfl) _,
  f.jZ j (λe=>f.blk.ne_ h.blk FV (qy.1 e)) (λk a d=>qT f.own h.blk FV k a (qy.1 d))⟩
theorem PtI.Vg {b d:Nat} {e:List Nat} (h:PtI W base g t d e) (c:b<=base):PtI W b g t d e:=by
 obtain⟨f,ch,i,j,a⟩:=h;exact⟨f,_,i,j,a.blk,qi a.oh c,qi a.ol c,a.t1,a.t2,qv c a.bs⟩
theorem PtI.jZ {c:World} {b:List Nat} {l:List Nat} (h:PtI W base g t a b) (j:qE l W c) (n:g∉l) (f: ∀k∈l,k<base):PtI c base g t a b:=by
 obtain⟨d,ch,e,i,m⟩:=h;exact⟨d,_,e,i,m.jZ j n f⟩
theorem Rd.ovr {f:World} {N cap at_:Nat} {A:q'} {b:qn} (h:Rd W a A N cap b at_) (c:Ovr base [g] W f) (j:a<base) (l:a≠g) (i: ∀k∈fpS A,k<base/\k≠g):Rd f a A N cap b at_:=
 ⟨c.blk h.blk j (λe=>l (qy.1 e)),c.own h.own (λk d=>⟨(i k d).1,λe=>(i k d).2 (qy.1 e)⟩),h.le,h.lim⟩
theorem ID (b:qn) (at_:Nat):Ju b at_<=8*b.length:=by
 unfold Ju;cases a:una b at_ with
 |none=>simp
 |some i=>
  have:=aW b _ _ _ a;unfold q7 at this;simp;omega
theorem Ow (b:qn) (at_:Nat):uM b at_=0\/uM b at_=1:=by
 unfold uM;split
 ·exact .inr rfl
 ·exact .inl rfl
theorem Tp (b:qn) (d w:Nat) (a:List Nat) (i:Nat) (hi:i<a.length) (c:Nat) (e:Int) (at_:Nat) (f:List Nat):Vi b d w (a.drop i) c e at_ f=
  if uM b at_≠0 then(1,[],at_)
  else if(((c+Ju b at_)*2^w+a[i]:Nat):Int)<=e then(2,[],pq b at_)
  else if d<=(c+Ju b at_)*2^w+a[i] then(8,[],pq b at_)
  else Vi b d w (a.drop (i+1)) (c+Ju b at_) (((c+Ju b at_)*2^w+a[i]:Nat):Int) (pq b at_) (f++[(c+Ju b at_)*2^w+a[i]]):=by
 rw [zK hi];rfl
theorem Wn (h x w:Nat) (d:h<=10000000000) (c:w<=14) (f:x<2^w):bits .or .i64 ((h*2^w:Nat):Int) (x:Int)=((h*2^w+x:Nat):Int)/\h*2^w+x<=200000000000000:=by
 have a:2^w<=2^14:=zZ uK c;have b:=xA d a;have e:(2:Nat)^14=16384:=rfl;rw [e] at b a;refine⟨?_,uK⟩;rw [RD _ _ uK uK,xH h (2^w),<-Nat.two_pow_add_eq_or_of_lt f]
theorem WN (b:qn) (w:Nat): ∀(n a:Nat),∀x∈Ka b w n a,x<2^w
 |0,a,x,c=>by cases c
 |n+1,a,x,c=>by
  rcases qL.1 c with rfl|c
  ·exact Zr _ _ _
  ·exact WN b w n _ x c
def IF (W:World) (b:Nat) (r:Int×List Nat×Nat) (e:Ending) (a:World):Prop:=
 Below W W a/\((r.1≠0/\e= .returned (.tuple #[.pointer none,(), .int .i64 r.1]))\/(r.1=0/\ ∃g,e= .returned (.tuple #[.pointer (some ⟨g,0,none⟩),(r.2.2:Int),()])/\W.heap.size<=g/\PtI a W g 366 b r.2.1))
theorem nR (p n:Nat) (Ab:Option Addr) (N c B:Nat) (b:List UInt8) (W:World) (hr:Reads W B 1 Ab N (b.map B8)) (hB:B<=W.heap.size) (hN:N<=1000000000) (h1:1<=n) (hn:n<=p) (hbd:p<=20000):
  Calls prog 256 #[p,n, .slice Ab N c] W (IF W (pU p n) (Fz p n b)):=by
 have d':=hr.len;have KR:=qj (P7 Ab N c B b W hr hB hN);have KW:=λW=>qj (Dk p n W h1 hn hbd);have N9:=p5 h1 hn hbd;obtain⟨R,L⟩: ∃R,R=Fz p n b:=⟨_,rfl⟩;rw [<-L];unfold Fz at L;generalize pU p n=j at*
 replace L:=qj L;replace d':=qj d';clear hr;go_enter func256,ntmps256
 go_wp2_with fail;refine KR.mono ?_;rintro e v ⟨o,A,cap,rfl,Q',hgr,hfA,hB1⟩;have HRD:=qj Q';have J:=qj hB1;have HGR:=qj hgr;have Y':Hid (∀k∈fpS A,k<v.heap.size):=λk m=>(zj Q'.own k m).2;have z':Hid (o<v.heap.size):=Q'.blk.lt;clear KR Q' hgr hfA hB1
 go_wp2_with fail;refine(KW _).out.mono ?_;rintro e w' ⟨rfl,rfl⟩;clear KW;have T:Hid (Below v v (v.alloc (.cells #[j, .slice none 0 0, .slice none 0 0] 366))):=(qZ _ _).alloc (qx _) _;have iL:Hid (Blk (v.alloc (.cells #[j, .slice none 0 0, .slice none 0 0] 366)) v 366 #[j, .slice none 0 0, .slice none 0 0]):=Blk.new _ _ _;have hz0:=iL.cell 0;simp only [qR,qt] at hz0
 go_wp2_with fail;generalize v.alloc (.cells #[j, .slice none 0 0, .slice none 0 0] 366)=w2 at*
 have KL:=qj (Tk w2 o A N cap b n j 0 (HRD.fresh T) h1 uK N9);have hgg:Hid (v.heap.size<w2.heap.size):=iL.lt;refine KL.mono ?_;clear KL;rintro e w3 (⟨m',rfl,hB3⟩|⟨hge,A3,c3,rfl,ho3,hr3,X'⟩)
 ·have r:Hid (R=(1,[],0)):=by rw [Hid,L.out,qk m']
  have U':Hid (Below W.heap.size W w3):=J.trans ((T.mono J.size|>.mono (qx _)).trans (hB3.mono (qv J.size T.size)));clear m' L hB3
  go_wp2_with fail
  go_ret3;rw [r.out];exact⟨U'.out, .inl ⟨FV,rfl⟩⟩
 ·have D:=L.out
  rw [qJ uK] at D;rw [jL] at hr3;have HR3:=qj hr3;have HO3:=qj ho3;have HA3:Hid (∀k∈fpS A3,k<w3.heap.size):=λk m=>(zj ho3 k m).2;have U':Hid (Below W.heap.size W w3):=J.trans ((T.mono J.size).trans (X'.below (B:=W.heap.size) (λk m=>by rw [qy.1 m];exact HGR) (qv J.size T.size)))
  obtain⟨g,hg⟩: ∃g,g=v.heap.size:=⟨_,rfl⟩;rw [<-hg] at iL hgg Y' z'⊢;have S:Hid (W.heap.size<=g):=by rw [Hid,hg];exact J.size
  obtain⟨base,D'⟩: ∃base,base=w3.heap.size:=⟨_,rfl⟩;have HBS:Hid (w2.heap.size<=base):=by rw [Hid,D'];exact X'.size
  have Y:Hid (g<base):=qB hgg HBS.out;have HGRB:Hid (o<base):=Nat.lt_trans z' Y.out;have HFB:Hid (∀k∈fpS A,k<base/\k≠g):=λk m=>⟨Nat.lt_trans (Y'.out k m) Y,vV (Y'.out k m)⟩;have M':Hid (o≠g):=vV z'.out;have HP3:Hid (PtI w3 base g 366 j []):=⟨none,0,none,0,X'.blk iL (λe=>M'.out (qy.1 e).symm),qP _ _ _ _,qP _ _ _ _,FV,FV,by rw [D'];exact qx _⟩
  rw [<-D'] at HA3;have HXS:=qj (WN b j n 0);have N':=Ut b j n 0;generalize Ka b j n 0=ls at*
  obtain⟨F,hRG⟩: ∃F,F=Vi b p j ls 0 (-1) (n*j) []:=⟨_,rfl⟩;rw [<-hRG] at D;have HG0:Hid (Vi b p j (ls.drop 0) 0 (-1) (n*j) []=F):=hRG.symm;replace D:=qj D;replace N':=qj N';clear hr3 ho3 X' hg D' J T iL hgg z' Y' HRD hRG hge L
  go_wp2_with fail;go_loopw [13,14,47] (λv13 v14 v47 wr=> ∃(i V at_:Nat) (p':Int) (t:List Nat),v13=(V:Value)/\v14=(p':Value)/\v47=(i:Value)/\i<=n/\V<=20000/\t.length<=i/\Hid (Vi b p j (ls.drop i) V p' at_ t=F)/\Hid (Rd wr o A N cap b at_)/\Hid (PtI wr base g 366 j t)/\Hid (wr.ownsRow w2 25 1 (.slice A3 n c3) n (ls.map LV))/\Hid (Below W.heap.size W wr)) (λ_ _ v47 _=>n-(intOf v47).toNat)
  case atStart=>exact⟨0,0,n*j,-1,[],rfl,rfl,rfl,qp _,qp _,qx _,HG0,HR3,HP3,HO3,U'⟩
  case round=>
   clear HG0 HR3 HP3 HO3 U';obtain⟨i,V,at_,p',t,rfl,rfl,rfl,hi,hhi,hol,HG,G,HP,U,w⟩:=hrel;by_cases m':i<n
   ·have hlt':(i:Int)<(n:Int):=uK
    have hi0:(0:Int)<=(i:Int):=uK;have hil:i<ls.length:=by rw [N'.out];exact m'
    obtain⟨ad,u,rfl,-,hu,hcell⟩:=(Reads.zY U).at_ m';rw [qD,qX hil] at hu;have G':=HXS.out _ (zx hil);have I:=HG.out;rw [Tp b p j ls i hil] at I;have KU:=qj (tf wr o A N cap at_ b G);have hud:=ID b at_;rw [d'.out] at hud;generalize ls[i]=x at*
    have hu2:u= .int .u16 (x:Int):=(zy hu).symm;subst hu2;generalize Ju b at_=d at*
    have her01:=Ow b at_;generalize uM b at_=er at*
    replace her01:=qj her01;generalize pq b at_=Z' at*
    unfold JD at KU;obtain⟨h2,OX⟩: ∃h2,h2=V+d:=⟨_,rfl⟩;rw [<-OX] at I;have hsum:(V:Int)+(d:Int)=(h2:Int):=by rw [OX];exact(xe _ _).symm
    have hh2b:h2<=10000000000:=uK;obtain⟨hor,hidb⟩:=Wn h2 x j hh2b N9 G';have P':h2*2^j<=h2*2^j+x:=Jk _ _;have hsh:(h2:Int)*2^j=((h2*2^j:Nat):Int):=by rw [zB,j6];rfl
    have hh2p:h2<=h2*2^j:=Xp _ (Nat.pow_pos uK);obtain⟨s,hid2⟩: ∃s,s=h2*2^j+x:=⟨_,rfl⟩;rw [<-hid2] at I hor hidb P';generalize h2*2^j=hp at*
    have hpb:hp<=200000000000000:=qv P' hidb;have hidh:h2<=s:=qv hh2p P';have wx:IntKind.i64.wrap (x:Int)=(x:Int):=XY x (qv (zr G') (qv (zZ uK N9) FV));replace I:=qj I;replace OX:=qj OX;replace hid2:=qj hid2;replace G':=qj G';clear hu HG hud P' hh2p;by_cases he:er=0
    ·subst he
     have E:=I.out;rw [qJ FV] at E;replace E:=qj E;clear I
     go_wp2_with fail;refine KU.mono ?_;rintro e f ⟨rfl,N6,M⟩;have O:=qj N6;have z:=qj (HP.jZ M (λe=>M'.out (qy.1 e).symm) (λk m=>by rw [qy.1 m];exact HGRB))
     have HO4:=qj (M.own U (λk m hk'=>qT U G.blk FV k m (qy.1 hk')));have q:=qj (w.trans (M.below (B:=W.heap.size) (λk m=>by rw [qy.1 m];exact HGR) w.size))
     obtain⟨_,_,_,_,O'⟩:=z.out;have z0:=O'.c0;clear KU N6 M O' G HP U w;by_cases hlow:(s:Int)<=p'
     ·have P:Hid (F=(2,[],Z')):=by rw [Hid,<-E.out,qk hlow]
      have r:Hid (R=(2,[],0)):=by rw [Hid,D.out,P.out];rfl
      clear E
      go_wp2_with fail
      go_ret3;rw [r.out];exact⟨q.out, .inl ⟨FV,rfl⟩⟩
     ·by_cases hhb:p<=s
      ·have P:Hid (F=(8,[],Z')):=by rw [Hid,<-E.out,qJ hlow,qk hhb]
       have r:Hid (R=(8,[],0)):=by rw [Hid,D.out,P.out];rfl
       have hhb':(p:Int)<=(s:Int):=uK;clear E
       go_wp2_with fail
       go_ret3;rw [r.out];exact⟨q.out, .inl ⟨FV,rfl⟩⟩
      ·have HG4:Hid (Vi b p j (ls.drop (i+1)) h2 (s:Int) Z' (t++[s])=F):=by rw [Hid,<-E.out,qJ hlow,qJ hhb]
       have hhb': ¬(p:Int)<=(s:Int):=uK;have KA:=qj (Bb f base g j s 366 t z uK N9 uK);unfold ME at KA;have hol2:Hid ((t++[s]).length<=i+1):=by rw [Hid,qK,zJ];omega
       clear E
       go_wp2_with fail;refine KA.mono ?_;rintro e w5 ⟨rfl,hp5,I'⟩;have X:=qj hp5;have HR5:=qj (O.ovr I' HGRB M' HFB);have HO5:=qj (I'.own HO4 (λk m=>⟨HA3.out k m,λe=>by
        obtain⟨_,_,_,_,O'⟩:=z.out;exact qT HO4 O'.blk FV k m (qy.1 e)⟩))
       have Q:=qj (q.trans (I'.below (B:=W.heap.size) q.size (qv S (zr Y)) (λk m=>by rw [qy.1 m];exact S)))
       have hh20:h2<=20000:=uK;clear KA hp5 I' O z HO4 q hsum hor hsh wx
       go_wp2_with fail;go_roundw
       case rel=>exact⟨i+1,h2,Z',(s:Int),t++[s],by first|rfl|simp,by first|rfl|simp,by first|rfl|simp,uK,hh20,hol2.out,HG4,HR5,X,HO5,Q⟩
       case measure=>simp [intOf];omega
    ·have P:Hid (F=(1,[],at_)):=by rw [Hid,<-I.out,qk he]
     have r:Hid (R=(1,[],0)):=by rw [Hid,D.out,P.out];rfl
     obtain rfl:er=1:=her01.resolve_left he;clear I he
     go_wp2_with fail;refine KU.mono ?_;rintro e f ⟨rfl,N6,M⟩;have q:=qj (w.trans (M.below (B:=W.heap.size) (λk m=>by rw [qy.1 m];exact HGR) w.size))
     clear KU N6 M G HP U w
     go_wp2_with fail
     go_ret3;rw [r.out];exact⟨q.out, .inl ⟨FV,rfl⟩⟩
   ·obtain rfl:i=n:=uK
    have hge: ¬(i:Int)<(i:Int):=uK;have P:Hid (F=(0,t,at_)):=by rw [Hid,<-HG.out,zD (by rw [N'.out];exact qx _)];rfl
    have hR3:=D.out;rw [P.out] at hR3;have K:Hid (R=if QF b at_ (q7 b at_%8)≠0 then(2,[],0) else(0,t,b.length-q7 b at_/8)):=hR3
    rw [d'.out] at K;have S':=qj (XV wr o A N cap at_ b G);have hlN:q7 b at_<=8*N:=by unfold q7;rw [d'.out];omega
    have hlN2:q7 b at_<=8000000000:=uK;have hmod:(q7 b at_:Int).tmod 8=((q7 b at_%8:Nat):Int):=FC _ 8;have hdiv:(q7 b at_:Int).tdiv 8=((q7 b at_/8:Nat):Int):=Y_ _ 8;have hdN:q7 b at_/8<=N:=uK;have hsub:(N:Int)-((q7 b at_/8:Nat):Int)=((N-q7 b at_/8:Nat):Int):=(Int.ofNat_sub hdN).symm;have hfin:N-q7 b at_/8<=1000000000:=qv (Qd _ _) hN;have hr8:q7 b at_%8<8:=xC _ uK;have KG:Hid (∀f,Rd f o A N cap b at_-> ∀a:Nat,a=q7 b at_%8->Calls prog 274 #[.pointer o,a] f (JD f o A N cap b (.tuple #[.int .u64 (QF b at_ a),()]) (at_+a))):=λf h a C=>by
     have hle:a<=q7 b at_:=by rw [C];exact Nat.mod_le _ _
     obtain⟨ge,gv,ga⟩:=Ws hle uK;have:=UF f o A N cap at_ b (a:Int) h;rw [ge,gv,ga] at this;exact this
    have KL0:Hid (∀f,Rd f o A N cap b at_->Calls prog 273 #[.pointer o] f λe Z=>e= .returned (.int .i64 (q7 b at_))/\Dr f Z):=λf h=>XV f o A N cap at_ b h;have KL2:Hid (∀f a,a=q7 b at_%8->Rd f o A N cap b (at_+a)->Calls prog 273 #[.pointer o] f λe Z=>e= .returned ((q7 b at_-a:Nat):Int)/\Dr f Z):=λf a C h=>by
     have:=XV f o A N cap (at_+a) b h;have e:q7 b (at_+a)=q7 b at_-a:=by unfold q7;omega
     rwa [e] at this
    have u': ∀a,a=q7 b at_%8->((q7 b at_-a:Nat):Int).tdiv 8=((q7 b at_/8:Nat):Int):=λa C=>by
     refine(show((q7 b at_-a:Nat):Int).tdiv 8=(((q7 b at_-a)/8:Nat):Int) from Y_ _ 8).trans ?_
     congr 1;omega
    replace u':=qj u';obtain⟨a,C⟩: ∃a,a=q7 b at_%8:=⟨_,rfl⟩;rw [<-C] at K hmod hr8;have KG1:=λf h=>qj (KG.out f h a C);have KL3:=λf h=>qj (KL2.out f a C h);have hdv2:=u'.out a C;have hlr:q7 b at_-a<=8000000000:=qv (Qd _ _) hlN2;generalize q7 b at_-a=lf2 at*
    generalize hlf8:q7 b at_/8=q8 at*
    generalize q7 b at_=lf at*
    have hz:Hid (a=0->QF b at_ a=0):=λh=>by rw [h];rfl
    generalize QF b at_ a=y at*
    replace C:=qj C;replace hlf8:=qj hlf8;have J':=HP;clear KG KL2 u' HG hR3 hlN HP U D;by_cases hr0:a=0
    focus
     have hy:=hz.out hr0
     subst hr0;have r:Hid (R=(0,t,N-q8)):=by rw [Hid,K,qJ (by simpa using hy)]
     clear K hz KG1 KL3 hdv2 hlr hr8 hy
    rotate_left
    focus have hr1:(0:Int)<(a:Int):=uK
    rotate_left
    all_goals
     go_wp2_with fail;refine S'.mono ?_;rintro e f ⟨rfl,H⟩;have O:=qj (G.dr H);have z:=qj (J'.jZ (Zp (l:=[]) H) s8 s8)
     have q:=qj (w.trans (H.below W.heap.size))
    ·have KL4:Hid (Calls prog 273 #[.pointer o] f λe Z=>e= .returned ((lf:Nat):Int)/\Dr f Z):=KL0.out f O.out;clear S' H G w J'
     go_wp2_with fail;refine KL4.mono ?_;rintro e w5 ⟨rfl,hD5⟩;have X:=qj (z.jZ (Zp (l:=[]) hD5) s8 s8)
     have Q:=qj (q.trans (hD5.below W.heap.size));clear KL4 hD5 z q
     go_wp2_with fail
     go_ret3;rw [r.out];exact⟨Q.out, .inr ⟨rfl,g,by first|rfl|simp,S.out,X.out.Vg (qv S (zr Y))⟩⟩
    ·have KG4:=KG1 f O.out;unfold JD at KG4;clear S' H G w J' KG1 hz
     go_wp2_with fail;refine KG4.mono ?_;rintro e w5 ⟨rfl,hr5,hm5⟩;have HR5:=qj hr5;have X:=qj (z.jZ hm5 (λe=>M'.out (qy.1 e).symm) (λk m=>by rw [qy.1 m];exact HGRB))
     have Q:=qj (q.trans (hm5.below (B:=W.heap.size) (λk m=>by rw [qy.1 m];exact HGR) q.size))
     have KL5:=KL3 w5 HR5.out;clear KG4 hr5 hm5 O z q KL3;by_cases hy:y=0
     ·subst hy
      have r:Hid (R=(0,t,N-q8)):=by rw [Hid,K,qJ s8]
      clear K
      go_wp2_with fail;refine KL5.mono ?_;rintro e w6 ⟨rfl,hD6⟩;have HP6:=qj (X.jZ (Zp (l:=[]) hD6) s8 s8)
      have HB6:=qj (Q.trans (hD6.below W.heap.size));clear KL5 hD6 X Q
      go_wp2_with fail
      go_ret3;rw [r.out];exact⟨HB6.out, .inr ⟨rfl,g,by first|rfl|simp,S.out,HP6.out.Vg (qv S (zr Y))⟩⟩
     ·have r:Hid (R=(2,[],0)):=by rw [Hid,K,qk hy]
      have hy2:((y:Int)==0)=false:=by rw [zE];omega
      clear K
      go_wp2_with fail
      go_ret3;rw [r.out];exact⟨Q.out, .inl ⟨FV,rfl⟩⟩
theorem EO (b:qn) (d w:Nat): ∀(g:List Nat) (c:Nat) (f:Int) (at_:Nat) (a:List Nat),(∀x∈a,x<d)->(∀x∈(Vi b d w g c f at_ a).2.1,x<d)/\(Vi b d w g c f at_ a).2.1.length<=a.length+g.length
 |[],c,f,at_,a,h=>⟨h,by show a.length<=_;omega⟩
 |x::t,c,f,at_,a,h=>by
  unfold Vi;split
  ·exact⟨s8,s8⟩
  ·split
   ·exact⟨s8,s8⟩
   ·split
    ·exact⟨s8,s8⟩
    ·rename_i h3
     have:=EO b d w t (c+Ju b at_) (((c+Ju b at_)*2^w+x:Nat):Int) (pq b at_) (a++[(c+Ju b at_)*2^w+x]) (λy e=>by
      rcases zt.1 e with e|e
      ·exact h y e
      ·rw [qy.1 e];omega)
     refine⟨this.1, ?_⟩;have h2:=this.2;rw [qK,zJ] at h2;rw [qf];omega
theorem Ig (a n:Nat) (b:qn):(∀x∈(Fz a n b).2.1,x<a)/\(Fz a n b).2.1.length<=n:=by
 unfold Fz;split
 ·exact⟨s8,s8⟩
 ·have h:=EO b a (pU a n) (Ka b (pU a n) n 0) 0 (-1) (n*pU a n) [] s8;rw [Ut] at h;dsimp only;split
  ·exact⟨s8,s8⟩
  ·split
   ·exact⟨s8,s8⟩
   ·exact⟨h.1,by have:=h.2;simpa using this⟩
theorem Ei (a n:Nat) (b:qn):(Fz a n b).2.2<=b.length:=by
 unfold Fz;split
 ·exact qp _
 ·dsimp only;split
  ·exact qp _
  ·split
   ·exact qp _
   ·exact Qd _ _
def iu (W:World) (r:Int×List Nat×Nat) (e:Ending) (a:World):Prop:=
 Below W W a/\((r.1≠0/\e= .returned (.tuple #[.pointer none,(), .int .i64 r.1]))\/(r.1=0/\ ∃g b,e= .returned (.tuple #[.pointer (some ⟨g,0,none⟩),(r.2.2:Int),()])/\W.heap.size<=g/\b<=14/\PtI a W g 366 b r.2.1/\(∀x∈r.2.1,x<=20000)/\r.2.1.length<=20000))
theorem TP (a:Nat) (m:q') (N c B:Nat) (b:qn) (W:World) (y:Reads W B 1 m N (b.map B8)) (O:B<=W.heap.size) (I:N<=1000000000) (N6:N<=c) (X:a<=20000):
  Calls prog 232 #[a, .slice m N c] W (iu W (dw a b)):=by
 obtain⟨i0,hi,OX,Y,O'⟩:=qA xR;have M':=qj (λi (h:i<=N)=>jI _ 5 _ 1 qu hi Y m N c i .i64 h);have V:=y.len;have KN:=qj (Qk m N c B b W y O I);obtain⟨R,j⟩:=j1 (dw a b);rw [<-j];unfold dw at j;rw [qJ uK] at j;dsimp only at j;rw [zc] at j;have hm:=vX b (a:Int) ⟨0,0⟩ uK;have v:=λr g A cap (h:Cur r g A N cap b ⟨0,0⟩)=>qj (yK r g A N _ b _ (a:Int) h uK);replace v:=qj v;generalize jU b (a:Int) ⟨0,0⟩=ic at*;obtain⟨n,c0⟩:=ic;dsimp only at j hm;have T:n<=a:=uK;clear hm;have S': ¬(a:Int)<0:=uK;have X': ¬(20000:Int)<(a:Int):=uK;replace j:=qj j;replace V:=qj V;have H:=qj y;clear y hi OX Y O';go_in;go_wp2_with fail;refine KN.mono ?_;rintro e w1 ⟨C,A,cap,rfl,hc,m',N9,Z⟩;have G:=qj Z;have z':=qj m';have M:=v _ C A _ hc;unfold jS at M;clear hc m' N9 Z;go_wp2_with fail;refine zC M ?_;rintro l ⟨u,iL⟩;have F:=qj u;have f:=qj (G.trans (iL.below (λk hk=>by rw [qy.1 hk];exact z') G.size));have w:=qj (jg l C A N _ b _ u);have p:=λr (h:Cur r C A N cap b c0)=>qj (JJ r C A N _ b _ h);replace p:=qj p;have Q:=qj u.le;clear M u iL;by_cases o:c0.err=0
 ·have d:=j.out;rw [qJ (by simpa using o)] at d;rw [o] at w;by_cases p':n=0
  focus
   subst p';rw [qk rfl] at d;replace d:=qj d;have d':Hid (Below l l (l.alloc (.cells #[(),zn,zn] 366))):=z8 _;have L:=p _ (F.fresh d');have U:Hid (PtI (l.alloc (.cells #[(),zn,zn] 366)) l l 366 0 []):=⟨_,0,_,0,Blk.new _ _ _,qP _ _ _ _,qP _ _ _ _,FV,FV,s8⟩
  rotate_left
  focus
   rw [qJ p'] at d;have Z':((n:Int)==0)=false:=by rw [zE];omega
   have L:=p l F.out;have hcut:=M' _ Q.out;have H2:=(H.below (f.mono O)).VC Q N6;have D':=qj (nR a n _ _ (c-c0.at_) B _ l H2 (qv O f.size) (qv (Qd _ _) I) uK T X);have q:=Ig a n (b.drop c0.at_);have G':=p5 (show 1<=n by omega) T X;have J':(Fz a n (b.drop c0.at_)).2.2<=1000000000:=qv (Ei _ _ _) (by rw [qI];have:=V.out;omega);have U':=qv Q I;generalize pU a n=wd,Fz a n (b.drop c0.at_)=N' at*;obtain⟨z,I',Uj⟩:=N';dsimp only at d q J';replace d:=qj d;replace q:=qj q;clear H2;generalize u':xo m c c0.at_ 1=A' at*
  rotate_left
  all_goals
   go_wp2_with fail;refine Ω w ?_;go_wp2_with fail;refine Ω L ?_;go_wp2_with fail
  ·go_ret3;rw [d.out];exact⟨f.trans (d'.mono f.size), .inr ⟨rfl,l,0,rfl,f.size,uK,U.out.Vg f.size,s8,s8⟩⟩
  ·refine D'.mono ?_;rintro e w3 ⟨t,⟨J,rfl⟩|⟨h0,g,rfl,hg,hp⟩⟩
   ·have s:=qj (d.out.trans (qk J));have D:z≠0:=J;have Q':(z==0)=false:=by simpa using D
    have K:=qj D;have S:=qj (f.trans (t.mono f.size));dsimp only;clear J D t;go_wp2;go_ret3;rw [s.out];exact⟨S, .inl ⟨K,rfl⟩⟩
   ·obtain rfl:z=0:=h0;have s:=qj (d.out.trans (qJ FV));have S:=qj (f.trans (t.mono f.size));have P':=p _ (F.fresh t);have U:=qj (hp.Vg f.size);have HG:=qj (qv f.size hg);dsimp only;clear t hp hg;go_wp2_with fail;refine Ω P' ?_;go_wp2;go_ret3;rw [s.out];exact⟨S, .inr ⟨rfl,g,wd,xb,HG.out,G',U.out,λx hx=>by have:=q.out.1 x hx;omega,qv q.out.2 (qv T X)⟩⟩
 ·have s:=qj (j.out.trans (qk o));have Y':(c0.err==0)=false:=by simpa using o
  have K:=qj o;generalize hE:c0.err=E at*;clear o;go_wp2_with fail;refine Ω w ?_;go_wp2;go_ret3;rw [s.out];exact⟨f, .inl ⟨K,rfl⟩⟩
theorem BC (W:World) (base g c:Nat) (a:List Nat) (h:PtI W base g 366 c a):
  Calls prog 233 #[.pointer g] W λe d=>e= .returned a.length/\W=d:=by
 obtain⟨f,ch,i,j,b⟩:=h;have c1:=b.c1;generalize a.length=n at*;clear b;go_wp2;go_ret;exact⟨rfl,rfl⟩
theorem Cm (W:World) (base g a i:Nat) (t:TypeId) (b:List Nat) (h:PtI W base g t a b) (k:a<=14) (hi:i<b.length) (l:b[i]<=20000):
  Calls prog 257 #[.pointer g,i] W λe s=>e= .returned (.int .i64 (b[i]:Nat))/\Dr W s:=by
 obtain⟨K,ch,M,z,c⟩:=h;have c0:=c.c0;have c1:=c.c1;have c2:=c.c2;obtain⟨I,r,y,-,j,E⟩:=(Reads.zY c.oh).at_ hi;obtain⟨L,u,w,-,f,N⟩:=(Reads.zY c.ol).at_ hi;subst y;subst w;rw [qD,hiL,qD,qX hi] at j;rw [qD,loL,qD,qX hi] at f;have q:r= .int .i64 ((b[i]/2^a:Nat):Int):=(zy j).symm;have v:u= .int .u16 ((b[i]%2^a:Nat):Int):=(zy f).symm;subst q;subst v;have F:(0:Int)<=(i:Int):=uK;have O:(i:Int)<(b.length:Int):=uK;generalize b[i]=x at*
 generalize b.length=n at*
 have d:x%2^a<2^a:=xC _ (Nat.pow_pos uK);have m:2^a<=2^14:=zZ uK k;have G:x/2^a<=20000:=qv (xr _ _) l;obtain⟨o,-⟩:=Wn (x/2^a) (x%2^a) a uK k d;rw [xH,Qe] at o;have p:2^a*(x/2^a)<=x:=Nat.mul_div_le _ _;have A:((x/2^a:Nat):Int)*2^a=((2^a*(x/2^a):Nat):Int):=by rw [zB,j6,Int.mul_comm];rfl
 have C:IntKind.i64.wrap ((x%2^a:Nat):Int)=((x%2^a:Nat):Int):=XY _ (qv (zr d) (qv m FV));have H:IntKind.i64.wrap ((2^a*(x/2^a):Nat):Int)=((2^a*(x/2^a):Nat):Int):=XY _ (qv p (qv l FV));generalize 2^a*(x/2^a)=J at*
 generalize x/2^a=D at*
 generalize x%2^a=B at*
 clear c j f m d;go_enter func257,ntmps257
 go_wp2_with fail;go_quiet (fail)
 go_wp2_with fail;go_ret;exact⟨rfl,⟨_,rfl⟩⟩
theorem Gm (a:qn) (l:List qn) (k:Nat) (b:k<l.length):Je a (l.drop k)=xv (kB a l[k])++UQ (l[k].drop (kB a l[k]))++Je l[k] (l.drop (k+1)):=by
 rw [zK b];rfl
theorem UT (s:qn):(UQ s).length<=10+s.length:=by
 have:=(jn s).2;unfold UQ;rw [qK];omega
theorem gC (A:Option Addr) (n c B:Nat) (l:List (List UInt8)) (W:World) (h:Reads W B 1 A n (l.map STR)) (hB:B<=W.heap.size) (hn:n<=1000) (h1:1<=n) (hc:n<=c) (D: ∀s∈l,s.length<=25):
  Calls prog 128 #[.slice A n c] W (jQ 5 W (D1 l).length ((D1 l).map B8)):=by
 have hl:=h.len;obtain⟨i0,hi,Q',I',hz2⟩:=qA XJ;have h0:0<l.length:=uK;obtain⟨F,u,hA,-,Q,Z⟩:=h.at_ (show 0<n by omega)
 subst hA;have ha0:F.add 0=F:=by unfold Addr.add;simp
 rw [qD,qX h0] at Q;have Y:u=STR l[0]:=(zy Q).symm;subst Y;have d:=qj (Yd l[0] W (by have:=D _ (zx h0);omega))
 have lt0:=UT l[0];have l0:=D _ (zx h0);obtain⟨R,hR⟩: ∃R,R=D1 l:=⟨_,rfl⟩;rw [<-hR];have N6:Hid (UQ l[0]++Je l[0] (l.drop 1)=R):=by
  rw [Hid,hR]
  match l,h0 with
  |a::t,_=>rfl
 have H1:=qj (h.VC (k:=1) uK hc);have hcut:=jI (P:=prog) 99 9 i0 1 jD hi I' (some F) n c 1 .i64 uK;rw [show((1:Nat):Int)=1 from rfl] at hcut
 have H:=qj h;have G':=qj D;have HL:=qj hl;unfold STR at Z d;rw [ha0] at Z;unfold jQ at d⊢;generalize hy:UQ l[0]=y at*
 generalize N:l[0]=s0 at*
 replace N:=qj N;clear hy h D hR Q hl hi Q' I' hz2;generalize J':xo (some F) c 1 1=A1 at*
 replace J':=qj J';go_enter func128,ntmps128
 go_wp2_with fail;refine d.mono ?_;rintro e w1 ⟨A3,c3,rfl,X⟩;have w:=qj X.1;have HB:=qj X.2;clear X d
 go_wp2_with fail;generalize g:y.length=m0 at*
 replace g:=qj g;go_loopw [3,14] (λv3 u' wr=> ∃(k m c2:Nat) (j:Option Addr) (f:List UInt8) (p:List UInt8),v3= .slice j m c2/\u'=(k:Value)/\k+1<=n/\m<=35+60*k/\Hid (f.length=m)/\Hid (l[k]? =some p)/\Hid (f++Je p (l.drop (k+1))=R)/\Hid (wr.ownsRow W.heap.size 5 1 (.slice j m c2) m (f.map B8))/\Hid (Below W.heap.size W wr)) (λ_ u' _=>n-(intOf u').toNat)
 case atStart=>exact⟨0,m0,c3,A3,y,s0,rfl,rfl,uK,uK,g,by rw [Hid,qX h0,N.out],N6,w,HB⟩
 case round=>
  clear w HB g N6 Z;obtain⟨k,m,c2,j,f,p,rfl,rfl,hk,hm,d',V,I,U,v⟩:=hrel;by_cases Y':k+1<n
  ·have hlt':(k:Int)<((n-1:Nat):Int):=uK
   have S':k<n-1:=uK;have hk0:(0:Int)<=(k:Int):=uK;have hkn:(k:Int)<(n:Int):=uK;have G:k+1<l.length:=by rw [HL.out];exact Y'
   have z:=I.out;rw [Gm p l (k+1) G] at z;obtain⟨ad1,u1,O,-,iL,M'⟩:=(H.below (v.mono hB)).at_ (show k<n by omega)
   injection O with O
   subst O;rw [qD,V.out] at iL;have Y:u1=STR p:=(zy iL).symm;subst Y;obtain⟨ad2,u2,X',-,S,N9⟩:=(H1.below (v.mono hB)).at_ S';rw [qD,jt,show 1+k=k+1 by omega,qX G] at S
   have hsl:=G'.out _ (zx G);have hp:=G'.out p (zQ V);have Z':Hid (l[k+1]? =some l[k+1]):=qX G;generalize l[k+1]=s at*
   have e2:u2=STR s:=(zy S).symm;subst e2;subst X';have T:=qj (kV p s wr uK uK);have OX:=(WV p s).2;generalize kB p s=q at*
   have L:=λW=>qj (vW q W uK);have d:=λW=>qj (Yd (s.drop q) W (by rw [qI];omega))
   have lq:=(jn q).2;have lt:=UT (s.drop q);have ltd:(s.drop q).length<=25:=by rw [qI];omega
   have hfr:=λW=>CX ⟨s.toArray⟩ s rfl q OX W;have wq:IntKind.u64.wrap (q:Int)=(q:Int):=by rw [qS];omega
   have N':Hid (W.heap.size<=wr.heap.size):=v.size;unfold jQ at L d;unfold STR at M' N9 T d;generalize xv q=o at*
   generalize UQ (s.drop q)=r at*
   generalize (⟨(s.drop q).toArray⟩:ByteArray)=SD at*
   generalize (⟨s.toArray⟩:ByteArray)=SS_ at*
   generalize (⟨p.toArray⟩:ByteArray)=SP at*
   replace z:=qj z;clear iL S I V
   go_wp2_with fail;refine T.mono ?_;rintro e i ⟨rfl,hD⟩;have M:=qj (v.trans (hD.below W.heap.size));have D':=qj (qG U (hD.below _));have z':Hid (W.heap.size<=i.heap.size):=M.size;clear T hD v U N' M' N9
   go_wp2_with fail;refine zv 11 (λ_=>True) AL trivial (λC=> ?_)
   refine zq [0,1,2,4,5,6] (a':= ?_) ?_;refine carried 3 rfl AL SQ (λK b=> ?_);go_simp
   (go_at_call 31;((with_reducible refine((L _).out).mono ?_);rintro e wA ⟨A5,c5,rfl,p'⟩);have bA:Below i i wA:=(qZ _ i).drew.trans p'.2)
   refine b _ _ (trivial) (λC=> ?_);clear b K;try simp only [Act.put,qQ,qY,qV]
   refine carried 7 rfl AL SQ (λK b=> ?_);go_simp
   (go_at_call 84;((with_reducible refine((d _).out).mono ?_);rintro e wB ⟨A6,c6,rfl,x⟩);have J:=bA.trans (x.2.mono bA.size))
   refine b _ _ (trivial) (λC=> ?_);clear b K;try simp only [Act.put,qQ,qY,qV]
   have KA:=qj (Xe wB j A5 A6 m o r c2 c5 c6 f o r (Reads.zY (qG D' J)) ((p'.reads.below x.2).more x.2.size) x.reads uK);have E:Below i i (wB.alloc (.cells #[.slice j m c2, .slice A5 o c5, .slice A6 r c6] 30)):=J.alloc J.size _;unfold jQ at KA;have hl12:(f++o++r).length<=35+60*(k+1):=by rw [qK,qK,d'.out];omega
   have O':Hid (f++o++r++Je s (l.drop (k+1+1))=R):=by rw [Hid,<-z.out];simp
   generalize f++o++r=y0 at*
   refine carried 8 rfl AL SQ (λK b=> ?_);go_simp;skip
   refine b _ _ (trivial) (λC=> ?_);clear b K;try simp only [Act.put,qQ,qY,qV]
   refine carried 9 rfl AL SQ (λK b=> ?_);go_simp
   (go_at_call 30;((with_reducible refine(KA.out).mono ?_);rintro e wD ⟨A7,c7,rfl,m'⟩);have bD:=E.trans (m'.2.mono E.size))
   refine b _ _ (trivial) (λC=> ?_);clear b K;try simp only [Act.put,qQ,qY,qV]
   refine zq [10] (a':= ?_) ?_;refine zV AL ?_ _;have U':=qj (qi m'.1 (qv z' E.size));have P':=qj (M.trans (bD.mono z'));clear KA L d p' x m' bA J E bD C z D' M;generalize g:y0.length=m1 at*
   replace g:=qj g
   go_wp2_with fail;go_roundw
   case rel=>exact⟨k+1,m1,c7,A7,y0,s,by first|rfl|simp,by first|rfl|simp,uK,hl12,g,Z',O',U',P'⟩
   case measure=>simp [intOf];omega
  ·have hge: ¬(k:Int)<((n-1:Nat):Int):=uK
   have hge2: ¬k<n-1:=uK;have w:Hid (f=R):=by
    have h:=I.out;rw [zD (by rw [HL.out];omega)] at h
    rw [Hid,<-h];simp [Je]
   clear I
   go_wp2_with fail;go_ret;exact⟨j,c2,by rw [<-w.out,d'.out];rfl,by rw [<-w.out,d'.out];exact⟨U.out,v.out⟩⟩
end
section
variable {A:q'}{B a b i k n x:Nat}{l:List Rec}{w:World}
theorem EW (W:World) (i k n f m:q') (c d n3 a b c1 c2 q o r:Nat) (l e g j h:qn) (h1:Reads W W 1 i c (l.map B8)) (h2:Reads W W 1 k d (e.map B8)) (h3:Reads W W 1 n n3 (g.map B8)) (h4:Reads W W 1 f a (j.map B8)) (h5:Reads W W 1 m b (h.map B8)) (ht:c+d+n3+a+b<=1000000000):
  Calls prog 30 #[.slice W 5 5] (W.alloc (.cells #[.slice i c c1, .slice k d c2, .slice n n3 q, .slice f a o, .slice m b r] 30)) (jQ 5 (W.alloc (.cells #[.slice i c c1, .slice k d c2, .slice n n3 q, .slice f a o, .slice m b r] 30)) (l++e++g++j++h).length ((l++e++g++j++h).map B8)):=by
 have x:=h1.len;have w:=h2.len;have u:=h3.len;have v:=h4.len;have t:=h5.len;have K:=fZ W 5 [(i,c,c1,l),(k,d,c2,e),(n,n3,q,g),(f,a,o,j),(m,b,r,h)] (by
  intro p s;simp only [qL,xj,Ze] at s;rcases s with rfl|rfl|rfl|rfl|rfl
  ·exact h1
  ·exact h2
  ·exact h3
  ·exact h4
  ·exact h5) s8 SZ
 simpa [jY] using K
theorem Mg (p:Bool) (w:World):Calls prog 32 #[p] w λe w'=>e= .returned (.int .u8 ((dJ p).toNat:Int))/\w=w':=by
 cases p
 ·go_wp2;go_ret;exact⟨rfl,rfl⟩
 ·go_wp2;go_ret;exact⟨rfl,rfl⟩
theorem nD (l:List Rec): ∀k,ji (l.take k)=(ji l).take (k*4):=by
 induction l with
 |nil=>intro k;simp [ji]
 |cons a l b=>
  intro k;cases k with
  |zero=>simp [ji]
  |succ k=>
   rw [List.take_succ_cons,show ji (a::l.take k)=rcC a++ji (l.take k) by simp [ji],show ji (a::l)=rcC a++ji l by simp [ji],b k];have c:(rcC a).length=4:=rfl;rw [show(k+1)*4=(rcC a).length+k*4 by rw [c];omega,List.take_length_add_append]
theorem nF (l:List Rec): ∀k,ji (l.drop k)=(ji l).drop (k*4):=by
 induction l with
 |nil=>intro k;simp [ji]
 |cons a l b=>
  intro k;cases k with
  |zero=>simp [ji]
  |succ k=>
   rw [List.drop_succ_cons,show ji (a::l)=rcC a++ji l by simp [ji],b k];have c:(rcC a).length=4:=rfl;rw [show(k+1)*4=(rcC a).length+k*4 by rw [c];omega,List.drop_length_add_append]
theorem Reads.ik (h:Reads w B 4 A n (ji l)) (a:k<=n):Reads w B 4 A k (ji (l.take k)):=by rw [nD];exact h.take a
theorem Reads.MG {c:Nat} (h:Reads w B 4 A n (ji l)) (b:k<=n) (a:n<=c):Reads w B 4 (xo A c k 4) (n-k) (ji (l.drop k)):=by rw [nF];exact h.cut b a
def Es (a:Bool):List Nat->List Rec->Prop
 |[],_=>True
 |n::c,l=>n<=l.length/\(Zb true (l.take n)).length<=32768/\(a=false->Sq (P9 (Zb true (l.take n))))/\Es a c (l.drop n)
theorem pL (b:qn) (a:Bool) (h:b.length<=32768):(Fx b a).length<=40000:=by
 unfold Fx;split
 ·unfold HU;rw [ve];have h1:=(jn b).2;have h2:=(jn (uX a b).length).2;have h3:(uX a b).length<=b.length:=by
   unfold uX;split
   ·rename_i h;unfold g8 at h;have:=xD (Bool.and_eq_true_iff.1 h).2;omega
   ·exact qx _
  simp only [qK,qf,zF];omega
 ·exact qp _
theorem LF (h1:a<=x) (h2:x<=20000):a-b<9223372036854775808:=vQ (qv (Qd _ _) (qv h1 h2)) FV
theorem Lg {j:Nat} (h:n<=280000+a+i) (h1:a<=20000) (h2:i<=j) (h3:j<=b) (h4:b<=20000):n<=900000000:=uK
theorem LG (h1:a<=x) (h2:x<=20000):a-b<=100000:=uK
theorem Lh {c:Nat} (h:n<=280000+a+i) (h1:a<=b) (h2:c=n+(b-a)+1):c<=280000+b+(i+1):=uK
theorem sk {a:List Nat} (h: ∀k,(h:k+1<a.length)->a[k]<a[k+1]) (p:Nat): ∀d i,(b:i+d<a.length)->a[i]'uK/p<=a[i+d]/p
 |0,i,_=>qx _
 |d+1,i,b=>qv (sk h p d i _) (Nat.div_le_div_right (zr (h _ _)))
def oC (w:World) (r:qn) (a:Int) (e:Ending) (w':World):Prop:= ∃A c,e= .returned (.tuple #[.slice A r c,a])/\yG w w' 5 A r c (r.map B8)
theorem rO (g:Nat) (A:Option Addr) (n c B:Nat) (a:List Nat) (w:World) (h:Reads w B 1 A n (a.map NV)) (hB:B<=w.heap.size) (N':g<=20000) (hr:dy g (-1) (J9 a)=true) (h0:1<=n):
  Calls prog 91 #[g, .slice A n c] w (oC w (FZ g a) 0):=by
 have Q:=h.len;have Y':=U3 g (-1) a uK hr;rw [Q] at Y';have hn:n<=g:=uK;obtain⟨hin,hup⟩:=rm g (-1) a hr;have KR:=qj (EM g A n c B a w h uK);rw [hr] at KR;have KN:=qj (vW n w uK);have KW:=λW=>qj (Dk g n W h0 hn N');have J:=p5 h0 hn N';have hR:Hid (FZ g a=xv n++(Kc (pU g n) 0 (YJ (pU g n) a) a).b):=by
  unfold FZ;rw [qJ (by rintro rfl;simp at Q;omega),Q];rfl
 generalize FZ g a=R at*
 generalize pU g n=d at*
 have nl:=(jn n).2;generalize xv n=hd at*
 have wn:IntKind.u64.wrap (n:Int)=(n:Int):=by rw [qS];omega
 have h1: ¬(g:Int)<0:=uK;have h2: ¬(20000:Int)<(g:Int):=uK;have hn0:((n:Int)==0)=false:=by rw [zE];omega
 have H:=qj h;have HIN:=qj hin;have HUP:=qj hup;have v:=qj Q;have hw63:d<=63:=uK;replace J:=qj J;clear h hin hup Q hr Y';unfold jQ at KN;go_enter func91,ntmps91
 go_wp2_with fail;refine KR.mono ?_;rintro e w' ⟨rfl,rfl⟩
 go_wp2_with fail;refine KN.mono ?_;rintro e f ⟨A1,c1,rfl,hf1⟩;have iL:=qj hf1;clear KR KN hf1
 go_wp2_with fail;refine(KW _).out.mono ?_;rintro e w' ⟨rfl,rfl⟩;clear KW
 go_wp2_with fail;obtain⟨w2,z'⟩: ∃w2,w2=f.alloc (.cells #[d, .slice none 0 0, .slice none 0 0] 214):=⟨_,rfl⟩;have HP0:Hid (PtI w2 (f.heap.size+1) f 214 d (a.take 0)):=by
  rw [z'];exact⟨none,0,none,0,Blk.new _ _ _,qP _ _ _ _,qP _ _ _ _,FV,FV,s8⟩
 have HB0:Hid (Below f f w2):=by rw [z'];exact(qZ _ _).alloc (qx _) _
 rw [<-z'];clear z';go_loopw [43] (λM' wr=> ∃k:Nat,M'=(k:Value)/\k<=n/\Hid (PtI wr (f.heap.size+1) f 214 d (a.take k))/\Hid (Below f f wr)) (λM' _=>n-(intOf M').toNat)
 case atStart=>exact⟨0,rfl,qp _,HP0,HB0⟩
 case round=>
  clear HP0 HB0;obtain⟨k,rfl,hk,Z,X⟩:=hrel;have L:Hid (Below w w wr):=iL.out.2.trans (X.mono iL.out.2.size);by_cases E:k<n
  ·have hlt':(k:Int)<(n:Int):=uK
   have hk0:(0:Int)<=(k:Int):=uK;have Q':k<a.length:=by rw [v.out];exact E
   obtain⟨ad,u,rfl,-,o,hcell⟩:=(H.below (L.mono hB)).at_ E;rw [qD,qX Q'] at o;have hxb:=HIN.out _ (zx Q');have htk:a.take (k+1)=a.take k++[a[k]]:=by rw [qs,qX Q'];rfl
   have hx1:a[k]<=20000:=uK;have t:=qj (Bb wr (f.heap.size+1) f d a[k] 214 (a.take k) Z hx1 (qv J (qx _)) (by rw [qh];omega))
   rw [<-htk] at t;unfold ME at t;generalize a[k]=x at*
   have U:u=(x:Value):=(zy o).symm;subst U;clear o htk hxb
   go_wp2_with fail;refine t.mono ?_;rintro e w3 ⟨rfl,hp3,ho3⟩;have HP3:=qj hp3;have HB3:=qj (X.trans (ho3.below (B:=f.heap.size) X.size (jv _) (λk hk=>by rw [qy.1 hk];exact qx _)))
   clear t hp3 ho3 Z X L
   go_wp2_with fail;go_roundw
   case rel=>exact⟨k+1,by first|rfl|simp,uK,HP3,HB3⟩
   case measure=>simp [intOf];omega
  ·obtain rfl:k=n:=uK
   rw [qH (by rw [v.out];exact qx _)] at Z
   obtain⟨Ah,ch,Al,cl,I⟩:=Z.out;rw [v.out] at I;have HPT:=qj I;have hgs:Hid (f.heap.size<wr.heap.size):=I.blk.lt;have hge: ¬(k:Int)<(k:Int):=uK;obtain⟨w3,d'⟩: ∃w3,w3=wr.alloc (.cells #[.slice none 0 0,()] 187):=⟨_,rfl⟩;have HW0:Hid (WrB wr w3 wr.heap.size (YJ d (a.take 0))):=by
    rw [d'];refine⟨none,0,⟨Blk.new _ _ _,qP _ _ _ _,by simp [YJ,Bw.ok],FV⟩,by simp [fpS],(qZ _ _).alloc (qx _) _⟩
   have HPK:Hid (∀G,Below wr.heap.size wr G->Pt G (f.heap.size+1) f 214 d Ah k ch (hiL d a) Al k cl (loL d a)):=λG h=>I.fresh h;have z2:=(I.fresh (show Below wr.heap.size wr w3 from by rw [d'];exact(qZ _ _).alloc (qx _) _)).c2
   rw [d'] at z2;clear Z I;obtain⟨V,hV⟩: ∃V,V=wr:=⟨_,rfl⟩;subst hV
   go_wp2_with fail;rw [<-d'];have N6: ∀i,(h:i<a.length)->a[i]<=20000:=λi h=>by have:=HIN.out _ (zx h);omega
   replace N6:=qj N6;clear z2 d';go_loopw [53] (λS' wq=> ∃j:Nat,S'=(j:Value)/\j<=k/\Hid (WrB V wq V (YJ d (a.take j)))) (λS' _=>k-(intOf S').toNat)
   case atStart=>exact⟨0,rfl,qp _,HW0⟩
   case round=>
    clear HW0;obtain⟨j,rfl,hj,z⟩:=hrel;obtain⟨A4,D',p,F,r⟩:=z.out;have y:=HPK.out _ r;have z0:=y.c0;by_cases E:j<k
    ·have hlt':(j:Int)<(k:Int):=uK
     have hj0:(0:Int)<=(j:Int):=uK;have Z':j<a.length:=by rw [v.out];exact E
     obtain⟨ad,u,hAl,-,o,hcell⟩:=(Reads.zY y.ol).at_ E;subst hAl;rw [qD,loL,qD,qX Z'] at o;have U:u= .int .u16 ((a[j]%2^d:Nat):Int):=(zy o).symm;subst U;have hxl:a[j]%2^d<2^d:=xC _ (Nat.pow_pos uK);have hp14:2^d<=2^14:=zZ uK J.out;have D:=aa d a j uK;have O':j*d<=20000*14:=xA uK J.out;have K:=V_ _ V 187 [] A4 D' _ (a[j]%2^d) (d:Int) p uK uK;rw [O8 hxl hw63,<-Gk d a j Z'] at K;unfold XX at K;replace K:=qj K;have wx:IntKind.u64.wrap ((a[j]%2^d:Nat):Int)=((a[j]%2^d:Nat):Int):=by rw [qS];omega
     generalize a[j]%2^d=xl at*
     have T:=qj p;have N:=qj F;have P:=qj r;clear o hxl hp14 D O' z p F r y
     go_wp2_with fail;refine K.mono ?_;rintro e C ⟨rfl,A5,cap5,Y,S⟩;have P':Hid (WrB V C V (YJ d (a.take (j+1)))):=WrB.step T N P Y S;clear K Y S T N P
     go_wp2_with fail;go_roundw
     case rel=>exact⟨j+1,by first|rfl|simp,uK,P'⟩
     case measure=>simp [intOf];omega
    ·obtain rfl:j=k:=uK
     rw [qH (by rw [v.out];exact qx _)] at z
     have D:=aa d a j (by rw [v.out];exact qx _)
     rw [qH (by rw [v.out];exact qx _)] at D
     have O':j*d<=20000*14:=xA uK J.out;have hge: ¬(j:Int)<(j:Int):=uK;have z1:=y.c1;have hsn0:(YJ d a).n<=280000:=uK;have HF0:Hid (Kc d 0 (YJ d a) (a.drop 0)=Kc d 0 (YJ d a) a):=rfl;generalize hFF:Kc d 0 (YJ d a) a=FF at*
     generalize YJ d a=s0 at*
     clear D O' hFF p F r y z0
     go_wp2_with fail;go_loopw [13,66] (λv13 OX wq=> ∃(i l:Nat) (s:Bw),v13=(l:Value)/\OX=(i:Value)/\i<=j/\l<=20000/\s.n<=280000+l+i/\Hid (∀m,i<=m->(h:m<a.length)->l<=a[m]/2^d)/\Hid (Kc d l s (a.drop i)=FF)/\Hid (WrB V wq V s)) (λ_ OX _=>j-(intOf OX).toNat)
     case atStart=>exact⟨0,0,s0,rfl,rfl,qp _,uK,uK,λ_ _ _=>qp _,HF0,z⟩
     case round=>
      clear HF0 z z1 hsn0;obtain⟨i,l,s,rfl,rfl,hi,hwas,D,J',HG,z⟩:=hrel;obtain⟨A4,D',p,F,r⟩:=z.out;have y:=HPK.out _ r;by_cases E:i<j
      ·have hlt':(i:Int)<(j:Int):=uK
       have hi0:(0:Int)<=(i:Int):=uK;have p':i<a.length:=by rw [v.out];exact E
       obtain⟨ad,u,hAh,-,o,hcell⟩:=(Reads.zY y.oh).at_ E;subst hAh;rw [qD,hiL,qD,qX p'] at o;have U:u= .int .i64 ((a[i]/2^d:Nat):Int):=(zy o).symm;subst U;have U':=J'.out i (qx _) p';have hx2:=N6.out i p';have X':a[i]/2^d<=a[i]:=xr _ _;have G':=HG.out;rw [rM d l s a i p'] at G';have HMO2:Hid (∀m,i+1<=m->(h:m<a.length)->a[i]/2^d<=a[m]/2^d):=λm hm h=>by
        have:=sk HUP (2^d) (m-i) i uK;have e:i+(m-i)=m:=uK;simpa only [e] using this
       generalize a[i]/2^d=q at*
       have hsub:(q:Int)-(l:Int)=((q-l:Nat):Int):=(Int.ofNat_sub U').symm;have hwsub:wrap64 ((q-l:Nat):Int)=((q-l:Nat):Int):=Kr _ (LF X' hx2);have M:=tD _ V 187 [] A4 D' s ((q-l:Nat):Int) p (Lg D hwas hi hn N');rw [O9 (LG X' hx2)] at M;have hun:=Nd (q-l) s;unfold XX at M;generalize U_ s (q-l)=s2 at*
       have hs2:s2.n<=280000+q+(i+1):=Lh D U' hun;replace M:=qj M;replace G':=qj G';generalize q-l=dd at*
       have T:=qj p;have N:=qj F;have P:=qj r;clear o U' hun z p F r y HG J'
       go_wp2_with fail;refine M.mono ?_;rintro e C ⟨rfl,A5,cap5,Y,S⟩;have P':Hid (WrB V C V s2):=WrB.step T N P Y S;clear M Y S T N P
       go_wp2_with fail;go_roundw
       case rel=>exact⟨i+1,q,s2,by first|rfl|simp,by first|rfl|simp,uK,uK,hs2,HMO2,G',P'⟩
       case measure=>simp [intOf];omega
      ·obtain rfl:i=j:=uK
       have hge: ¬(i:Int)<(i:Int):=uK;have HFs:Hid (s=FF):=by
        have h:=HG.out;rw [zD (by rw [v.out];exact qx _)] at h
        exact h
       have hbl:s.b.length<=1000000:=by have:=p.ok;unfold Bw.ok at this;omega
       have KB:=qj (FM _ V 187 [] A4 D' s p uK);have I':Hid (Below f f wr):=X.trans (r.mono (zr hgs));have u':=λG (h:Below wr.heap.size wr G)=>(Reads.zY iL.out.1).below (show Below f f G from I'.trans (h.mono I'.size))
       replace u':=qj u';have L:Hid (Below w w wr):=iL.out.2.trans (I'.mono iL.out.2.size);have hR2:Hid (R=hd++s.b):=by rw [Hid,hR.out,HFs.out]
       generalize s.b=sb at*
       unfold jQ at KB;clear HG z p F r y J' D
       go_wp2_with fail;refine KB.mono ?_;rintro e C ⟨A5,c5,rfl,O⟩;have hw15:f.heap.size<=C.heap.size:=qv I'.size O.2.size;have t:=qj (Yz C A1 A5 hd sb c1 c5 hd sb ((u'.out C O.2).more hw15) O.reads (qv (Nat.add_le_add nl hbl) FV))
       have m':Hid (Below w w C):=L.trans (O.2.mono L.size);rw [<-hR2.out] at t;unfold jQ at t;clear KB O L u'
       go_wp2_with fail;refine t.mono ?_;rintro e w6 ⟨A6,c6,rfl,N9⟩;have HX:Hid (yG w w6 5 A6 R c6 (R.map B8)):=⟨qi N9.1 (qv m'.size s8),(m'.alloc m'.size _).trans (N9.2.mono (qv m'.size s8))⟩
       clear t N9 m'
       go_wp2_with fail
       go_ret2;exact⟨A6,c6,rfl,HX.out⟩
end
end Go.Proofs.YtfnlfpcfkbdcmaaGreatDoor
