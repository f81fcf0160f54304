import Derived.Test.YtfnlfpcfkbdcmaaGreatDoorL06
import Derived.Test.YtfnlfpcfkbdcmaaGreatDoorL07
import Derived.Test.YtfnlfpcfkbdcmaaGreatDoorL08
set_option linter.unusedSimpArgs false
set_option linter.unusedVariables false
set_option maxRecDepth 100000
set_option maxHeartbeats 0
open Go.Proofs.Tryz
namespace Go.Proofs.YtfnlfpcfkbdcmaaGreatDoor
open Go.RowKit
section
variable {A:q'}{W W' a:World}{b:qn}{cap g n:Nat}{l:List Nat}{rest:List Value}{s:Bw}{t:TypeId}
structure Wr (W:World) (g:Nat) (t:TypeId) (rest:List Value) (A:q') (cap:Nat) (s:Bw):Prop where
 blk:Blk W g t (Value.slice A s.b.length cap::Value.int .i64 s.n::rest).toArray
 own:W.ownsRow 0 5 1 (.slice A s.b.length cap) s.b.length (s.b.map B8)
 ok:s.ok
 ne:t≠5
structure WrK (W W':World) (g:Nat) (A A':q'):Prop where
 jZ:qE (g::fpS A) W W'
 fp: ∀k∈fpS A',k∈fpS A\/W.heap.size<=k
theorem WrK.refl (W:World) (g:Nat) (A:q'):WrK W W g A A:=⟨qE.refl _ _,λ_ h=> .inl h⟩
theorem WrK.trans {W c e:World} {g:Nat} {A f d:q'} (h:WrK W c g A f) (b:WrK c e g f d):WrK W e g A d:=
 ⟨h.jZ.trans b.jZ λk a=>by
  rcases qL.1 a with rfl|a
  ·exact .inl (qo ..)
  ·exact(h.fp k a).imp (λh2=>qM _ h2) id,
  λk a=>(b.fp k a).elim (λh2=>h.fp k h2) λh2=> .inr (qv h.jZ.size h2)⟩
theorem WrK.drew {W:World} {g:Nat} {A b:q'} (h:WrK W a g A b):WrK W a.drew g A b:=⟨h.jZ.drew,h.fp⟩
theorem Wr.VH (h:Wr W g t rest A cap s):W.cell? g=some (.slice A s.b.length cap):=by rw [h.blk.cell 0];simp
theorem Wr.V9 (h:Wr W g t rest A cap s):W.cell? ⟨g,1,none⟩=some (s.n:Value):=by rw [h.blk.cell 1];simp
theorem Wr.jZ (h:Wr W g t rest A cap s) (a:qE l W W') (c:g∉l) (b: ∀k∈fpS A,k∉l):Wr W' g t rest A cap s:=⟨a.blk h.blk c,a.own h.own b,h.ok,h.ne⟩
theorem Wr.fresh (h:Wr W g t rest A cap s) (a:Below W W W'):Wr W' g t rest A cap s:=h.jZ (qE.jq (l:=[]) a) s8 s8
theorem Wr.drew (h:Wr W g t rest A cap s):Wr W.drew g t rest A cap s:=h.fresh ((Dr.refl W|>.drewN 1).below _)
theorem Wr.fp (h:Wr W g t rest A cap s): ∀k∈fpS A,k≠g:=qT h.own h.blk λe=>h.ne e.symm
theorem Wr.reads (h:Wr W g t rest A cap s):Reads W W 1 A s.b.length (s.b.map B8):=Reads.zY h.own
structure WrR (W:World) (g:Nat) (t:TypeId) (rest:List Value) (ga cap n:Nat) (b:qn):Prop where
 blk:Blk W g t (Value.slice ga b cap::Value.int .i64 n::rest).toArray
 own:W.ownsRow 0 5 1 (.slice ga b cap) b (b.map B8)
 len:b.length=n/8+1
 ne:t≠5
theorem WrR.VH {W:World} {g:Nat} {t:TypeId} {rest:List Value} {a cap:Nat} (h:WrR W g t rest a cap n b):W.cell? g=some (.slice a b cap):=by rw [h.blk.cell 0];simp
theorem WrR.V9 {W:World} {g:Nat} {t:TypeId} {rest:List Value} {a cap:Nat} (h:WrR W g t rest a cap n b):W.cell? ⟨g,1,none⟩=some (n:Value):=by rw [h.blk.cell 1];simp
theorem Kq {w:World} {base c:Nat} {E:TypeId} {A:q'} {b:List Value} (h:w.ownsRow base E 1 (.slice A n c) n b) (e:0<n): ∃d,A=some ⟨d,0,none⟩:=by
 rcases h.2 with⟨a,h0⟩|⟨g,cap,cur,a,_⟩
 ·omega
 ·simp only [Ql] at a;exact⟨g,a.1⟩
theorem eM {s:Bw} (h:s.n%8=0):Yh s=s.b++[0]:=by unfold Yh;rw [qk h]
theorem FR {s:Bw} (h:s.n%8≠0):Yh s=s.b:=by unfold Yh;rw [qJ h]
theorem WK (z x r:Nat) (a:z<256) (g:x<2) (f:r<8):bits .or .u8 (z:Int) (IntKind.u8.wrap (IntKind.u8.wrap (x:Int)*2^(7-r)))=((UInt8.ofNat (z|||x*2^(7-r))).toNat:Int):=by
 have d:IntKind.u8.wrap (x:Int)=(x:Int):=by rw [va];omega
 have e:(x:Int)*2^(7-r)=((x*2^(7-r):Nat):Int):=by rw [zB,j6];rfl
 have h7:2^(7-r)<=2^7:=zZ uK uK;have b:x*2^(7-r)<256:=by
  have:=xA (show x<=1 by omega) h7;omega
 have c:IntKind.u8.wrap ((x*2^(7-r):Nat):Int)=((x*2^(7-r):Nat):Int):=by rw [va];omega
 rw [d,e,c,u8_or_nat _ _ a b,zS,jk (Nat.or_lt_two_pow a b)]
theorem uD (W:World) (g:Nat) (t:TypeId) (rest:List Value) (A:Option Addr) (cap:Nat) (s:Bw) (x:Nat) (h:Wr W g t rest A cap s) (X:x<2) (hl:s.n<=1000000000):
  Calls prog 181 #[.pointer g, .int .u64 x] W λe W'=>e= .returned (.tuple #[])/\ ∃A' Q',Wr W' g t rest A' Q' (De s x)/\WrK W W' g A A':=by
 obtain⟨i0,hi,S,P,T⟩:=qA xR;have H:=qj h;have C:=Rx s h.ok;have N:=h.ok;unfold Bw.ok at N;have c0:=h.VH;have c1:=h.V9;have k0:=h.blk.frozen 0;have o:(s.n:Int).tmod 8=((s.n%8:Nat):Int):=FC s.n 8;have v:(s.n:Int).tdiv 8=((s.n/8:Nat):Int):=Y_ s.n 8;have E:s.n%8<8:=xC _ uK;have M':s.n/8<=125000000:=uK;have z':(s.n:Int)+1<9223372036854775808:=uK;have HX:=qj X;replace hi:=qj hi;replace S:=qj S;replace P:=qj P;replace T:=qj T;clear h;by_cases u:s.n%8=0
 focus
  have N6:s.b.length+1<=maxLen:=SJ
  have N9:(s.b.length+1)*1<=140737488355328:=uK;have L:=eM u;have X':(s.n:Int).tmod 8=0:=uK;replace u:=qj u;replace C:=qj C;replace N:=qj N;replace L:=qj L;replace o:=qj o;replace v:=qj v;go_enter func181,ntmps181
  go_wp2_with (at_builtin;refine qF _ rfl (.tmp 14) (.tmp 15) 30 rfl 0 5 i0 (.int .u8 0) 1 1 qu hi S P T rfl uK A s.b.length cap _ rfl (H.own.alloc _) (W.heap.size+1) W.heap.size 1 1 [.int .u8 0] rfl (zU _ _ _) (one_one rfl) N6 N9 (qp _) ?_;intro A3 m D B I Q;have M:=qj (H.blk.alloc (.cells #[.int .u8 0] 5)|>.grown I (λe=>H.fp g (ZO.2 e.symm) rfl));have z4:=M.cell 0;have y4:=M.frozen 0;replace B:=qj B;replace I:=qj I;replace Q:=qj Q;simp only [qR,qt] at z4)
  obtain⟨a,rfl⟩:=Kq B (Nat.succ_pos _);have c:Hid (WrR (D.setCell g (.slice a (s.b.length+1) m)) g t rest a m s.n (s.b++[0])):=by
   refine⟨?_, ?_, ?_,H.ne⟩
   ·have:=M.zh 0 (.slice a (s.b.length+1) m)
    rw [qK,zJ];simpa using this
   ·have ho:(D.setCell g (.slice a (s.b.length+1) m)).ownsRow 0 5 1 (.slice a (s.b.length+1) m) (s.b.length+1) (s.b.map B8++[.int .u8 0]):=((qE.refl [g] D).zh (p:= g) (qy.2 rfl) _).own B (λk i=>by simpa using qT B M (λe=>H.ne e.symm) k i)
    rw [qK,zJ,qg];exact ho
   ·rw [<-C.out,L.out]
  have G:Hid (WrK W (D.setCell g (.slice a (s.b.length+1) m)) g A a):=
   ⟨(((qE.refl (g::fpS A) W).alloc _).grown I (λk i=> .inl (qM _ i))).zh (p:= g) (qo ..) _,λk i=>(Y9 Q k i).imp id λh=>qv s8 h⟩
  have p':Hid (s.b++[0]=Yh s):=L.symm;clear M z4 y4 B I Q c0 c1 k0 L C N N6 N9 X' u;generalize D.setCell g (.slice a (s.b.length+1) m)=w at*
  generalize s.b++[0]=d at*
  clear H
 rotate_left
 focus
  have N':0<s.b.length:=uK
  obtain⟨a,rfl⟩:=Kq H.own N';have c:Hid (WrR W g t rest a cap s.n s.b):=⟨H.blk,H.own,by rw [<-C,FR u],H.ne⟩
  have G:Hid (WrK W W g a a):=WrK.refl _ _ _;have p':Hid (s.b=Yh s):=(FR u).symm;obtain⟨R,d'⟩: ∃R,R=s.n%8:=⟨_,rfl⟩;have O':(s.n:Int).tmod 8=(R:Int):=by rw [d'];exact o
  have P':((R:Int)==0)=false:=SZ;replace d':=qj d';clear N C N' k0 c0 hi S P T;replace o:=qj o;replace v:=qj v;replace u:=qj u;have OX:=qj M';have S':=qj E;have Y':=qj hl;have U':=qj z';clear M' E hl z';go_enter func181,ntmps181
  go_wp2_with fail;have M':=OX.out;have E:=S'.out;have z':=U'.out;clear O' P' c1;clear H;generalize s.b=d at*
 rotate_left
 all_goals
  have y:s.n/8<d.length:=by rw [c.len];omega
  obtain⟨z,ef⟩:=xU c.own y;have O:(d.map B8)[s.n/8]? =some (.int .u8 ((d.getD (s.n/8) 0).toNat:Int)):=by rw [qD,qd,qX y];rfl
  rw [O] at z;have J:=(d.getD (s.n/8) 0).toNat_lt;have D':=WK (d.getD (s.n/8) 0).toNat x (s.n%8) J X E;have J':Hid (De s x=⟨d.set (s.n/8) (UInt8.ofNat ((d.getD (s.n/8) 0).toNat|||x*2^(7-s.n%8))),s.n+1⟩):=by rw [Hid,p'.out];rfl
  have U:=o.out;have G':=v.out;have h7:(7:Int)-((s.n%8:Nat):Int)=((7-s.n%8:Nat):Int):=uK;have u':7-s.n%8<8:=uK;have Z:((s.n/8:Nat):Int)<(d.length:Int):=uK;have c0:=c.out.VH;have c1:=c.out.V9;clear O y o v J;generalize (UInt8.ofNat ((d.getD (s.n/8) 0).toNat|||x*2^(7-s.n%8)))=f at*
  generalize (d.getD (s.n/8) 0).toNat=zz at*
  generalize s.n%8=r at*
  generalize s.n/8=q at*
  generalize 7-r=F at*
  have wq:IntKind.i64.wrap (q:Int)=(q:Int):=SX;have I':IntKind.i64.wrap (r:Int)=(r:Int):=SX;have V:IntKind.i64.wrap (F:Int)=(F:Int):=SX;have m':(0:Int)<=(q:Int):=uK
 focus refine zv 21 (λW=>W.cell? g=some (.slice a d m)/\W.cell? ⟨g,1,none⟩=some (s.n:Value)/\W.cell? ⟨a,q,none⟩=some (.int .u8 zz)) AL ⟨c0,c1,z⟩ (λiL=> ?_)
 rotate_left
 focus refine zv 21 (λW=>W.cell? g=some (.slice a d cap)/\W.cell? ⟨g,1,none⟩=some (s.n:Value)/\W.cell? ⟨a,q,none⟩=some (.int .u8 zz)) AL ⟨c0,c1,z⟩ (λiL=> ?_)
 rotate_left
 all_goals
  refine zq [0,1,2,3,4,5] (a':= ?_) ?_;refine zq [6,7,8,9,10,11] (a':= ?_) ?_;refine zq [12,13,14,15,16,17] (a':= ?_) ?_;refine zq [18,19,20] (a':= ?_) ?_;refine j4 21 rfl AL FV SQ (λK l=> ?_);go_simp;refine l _ _ ?_;clear l K;try simp only [Act.put,qQ,qY,qV]
  refine j4 22 rfl AL FV SQ (λK l=> ?_);go_simp;refine l _ _ ?_;clear l K;try simp only [Act.put,qQ,qY,qV]
  refine zV AL ?_ _;have j:a≠g:=qT c.own c.blk (λe=>c.ne e.symm) a (by simp [fpS])
 ·have HP:Hid (Wr ((((w.setCell ⟨a,q,none⟩ (.int .u8 (f.toNat:Int))).drew).setCell ⟨g,1,none⟩ (.int .i64 ((s.n:Int)+1)))) g t rest a m ⟨d.set q f,s.n+1⟩):=by
   have b1:=(c.blk.far (p:=⟨a,q,none⟩) j.symm (.int .u8 (f.toNat:Int))).drew.zh 1 (.int .i64 ((s.n:Int)+1));have o1:=Qn (k:=q) c.own (.int .u8 (f.toNat:Int));have o2:=((qE.refl [g] _).zh (p:=⟨g,1,none⟩) (qy.2 rfl) (.int .i64 ((s.n:Int)+1))).own (show(w.setCell ⟨a,q,none⟩ (.int .u8 (f.toNat:Int))).drew.ownsRow 0 5 1 _ _ _ from o1) (λk i=>by simpa [fpS] using λe:k=g=>j (by simp [fpS] at i;omega))
   refine⟨?_, ?_, ?_,c.ne⟩
   ·dsimp only
    rw [xE];simpa using b1
   ·dsimp only
    rw [xE,JY];exact o2
   ·unfold Bw.ok
    dsimp only;rw [xE,c.len];omega
  have Y:Hid (WrK W ((((w.setCell ⟨a,q,none⟩ (.int .u8 (f.toNat:Int))).drew).setCell ⟨g,1,none⟩ (.int .i64 ((s.n:Int)+1)))) g A a):=
   G.trans ⟨((qE.refl [g,a] w).zh (p:=⟨a,q,none⟩) s8 _).drew.zh (p:=⟨g,1,none⟩) s8 _,λk i=> .inl i⟩
  have d1:(w.setCell ⟨a,q,none⟩ (.int .u8 (f.toNat:Int))).drew.cell? ⟨g,1,none⟩=some (s.n:Value):=by
   have:=(c.blk.far (p:=⟨a,q,none⟩) j.symm (.int .u8 (f.toNat:Int))).drew.cell 1;simpa using this
  have d2:(w.setCell ⟨a,q,none⟩ (.int .u8 (f.toNat:Int))).drew.frozen? ⟨g,1,none⟩=false:=(c.blk.far (p:=⟨a,q,none⟩) j.symm (.int .u8 (f.toNat:Int))).drew.frozen 1;clear iL c G j c0 c1 z ef D' U G' h7 u' Z wq I' V m';generalize (w.setCell ⟨a,q,none⟩ (.int .u8 (f.toNat:Int))).drew=w6 at*
  go_wp2_with fail
  go_end0
  rw [J'.out];exact⟨rfl,some ⟨a,0,none⟩,m,HP.out,Y.out⟩
 ·have HP:Hid (Wr ((((W.setCell ⟨a,q,none⟩ (.int .u8 (f.toNat:Int))).drew).setCell ⟨g,1,none⟩ (.int .i64 ((s.n:Int)+1)))) g t rest a cap ⟨d.set q f,s.n+1⟩):=by
   have b1:=(c.blk.far (p:=⟨a,q,none⟩) j.symm (.int .u8 (f.toNat:Int))).drew.zh 1 (.int .i64 ((s.n:Int)+1));have o1:=Qn (k:=q) c.own (.int .u8 (f.toNat:Int));have o2:=((qE.refl [g] _).zh (p:=⟨g,1,none⟩) (qy.2 rfl) (.int .i64 ((s.n:Int)+1))).own (show(W.setCell ⟨a,q,none⟩ (.int .u8 (f.toNat:Int))).drew.ownsRow 0 5 1 _ _ _ from o1) (λk i=>by simpa [fpS] using λe:k=g=>j (by simp [fpS] at i;omega))
   refine⟨?_, ?_, ?_,c.ne⟩
   ·dsimp only
    rw [xE];simpa using b1
   ·dsimp only
    rw [xE,JY];exact o2
   ·unfold Bw.ok
    dsimp only;rw [xE,c.len];omega
  have Y:Hid (WrK W ((((W.setCell ⟨a,q,none⟩ (.int .u8 (f.toNat:Int))).drew).setCell ⟨g,1,none⟩ (.int .i64 ((s.n:Int)+1)))) g a a):=
   G.trans ⟨((qE.refl [g,a] W).zh (p:=⟨a,q,none⟩) s8 _).drew.zh (p:=⟨g,1,none⟩) s8 _,λk i=> .inl i⟩
  have d1:(W.setCell ⟨a,q,none⟩ (.int .u8 (f.toNat:Int))).drew.cell? ⟨g,1,none⟩=some (s.n:Value):=by
   have:=(c.blk.far (p:=⟨a,q,none⟩) j.symm (.int .u8 (f.toNat:Int))).drew.cell 1;simpa using this
  have d2:(W.setCell ⟨a,q,none⟩ (.int .u8 (f.toNat:Int))).drew.frozen? ⟨g,1,none⟩=false:=(c.blk.far (p:=⟨a,q,none⟩) j.symm (.int .u8 (f.toNat:Int))).drew.frozen 1;clear iL c G j c0 c1 z ef D' U G' h7 u' Z wq I' V m';generalize (W.setCell ⟨a,q,none⟩ (.int .u8 (f.toNat:Int))).drew=w6 at*
  go_wp2_with fail
  go_end0
  rw [J'.out];exact⟨rfl,some ⟨a,0,none⟩,cap,HP.out,Y.out⟩
end
section
variable {n:Int}{x:Nat}
def XX (W:World) (g:Nat) (t:TypeId) (rest:List Value) (A:q') (v:Value) (s:Bw) (e:Ending) (a:World):Prop:=e= .returned v/\ ∃b c,Wr a g t rest b c s/\WrK W a g A b
theorem Cp (h:n<0\/64<n\/(n<64/\x/2^n.toNat≠0)):G4 x n=13:=qk h
theorem Fm (h: ¬(n<0\/64<n\/(n<64/\x/2^n.toNat≠0))):G4 x n=0:=qJ h
theorem V_ (W:World) (g:Nat) (t:TypeId) (rest:List Value) (A:q') (cap:Nat) (s:Bw) (x:Nat) (n:Int) (h:Wr W g t rest A cap s) (F:x<18446744073709551616) (Q:s.n<=900000000):
  Calls prog 132 #[.pointer g, .int .u64 x,n] W (XX W g t rest A (.int .i64 (G4 x n)) (PR s x n)):=by
 have H:=qj h;clear h;unfold PR;by_cases h1:n<0
 ·rw [Cp (.inl h1),qJ FV];go_wp2;go_ret;exact⟨rfl,A,_,H,WrK.refl _ _ _⟩
 by_cases h2:64<n
 ·rw [Cp (.inr (.inl h2)),qJ FV];go_wp2;go_ret;exact⟨rfl,A,_,H,WrK.refl _ _ _⟩
 obtain⟨m,rfl⟩: ∃m:Nat,n=(m:Int):=⟨n.toNat,uK⟩;have l:(m:Int).toNat=m:=rfl;have u:=Pd x m;by_cases h3:(m:Int)<64/\x/2^m≠0
 ·rw [Cp (.inr (.inr (by rw [l];exact h3))),qJ FV];obtain⟨h3,h4⟩:=h3;generalize x/2^m=y at*;have h7:((y:Int) !=0)=true:=SZ;clear h4;go_wp2;go_ret;exact⟨rfl,A,_,H,WrK.refl _ _ _⟩
 ·rw [Fm (by rw [l];omega),qk rfl,l];have T:m<=64:=uK;have d:(decide ((m:Int)<64)=false)\/(decide ((m:Int)<64)=true/\((x:Int)/2^m !=0)=false):=by
   by_cases h4:(m:Int)<64
   ·refine .inr ⟨qw h4, ?_⟩;have h0:x/2^m=0:=by
     rcases zA (x/2^m) with h5|h5
     ·exact h5
     ·exact absurd ⟨h4,uK⟩ h3
    rw [u,h0];rfl
   ·exact .inl (qc h4)
  clear h3 u l;rcases d with d|⟨d,O⟩<;>
  ·go_wp2;go_loopw [7] (λq wr=> ∃(k:Nat) (i:Int) (a:Bw) (c:q') (f:Nat),q=(i:Value)/\Hid (i+1=(k:Int))/\k<=m/\Hid (Jh a x k=Jh s x m)/\Hid (a.n+k<=900000064)/\Hid (Wr wr g t rest c f a)/\Hid (WrK W wr g A c)) (λq _=>((intOf q)+1).toNat)
   ·exact⟨m,(m:Int)-1,s,A,cap,xh,by rw [Hid];omega,qx _,rfl,by rw [Hid];omega,H,WrK.refl _ _ _⟩
   ·obtain⟨k,i,a,c,f,rfl,G,R,r,HS,E,w⟩:=hrel;have D:=G.out;cases k with
    |zero=>
     have hi:i= -1:=uK;subst hi;clear D d;go_wp2;go_ret;refine⟨rfl,c,f, ?_,w⟩;have:=r.out;rw [<-this];exact E.out
    |succ j=>
     obtain rfl:i=(j:Int):=uK;have P:j<64:=uK;have u:=Pd x j;have B:x/2^j<18446744073709551616:=vQ (xr _ _) F;have S:=cP _ B;have v:x/2^j%2<2:=xC _ uK;have I:Hid (Jh (De a (x/2^j%2)) x j=Jh s x m):=r.out;have M:=xi j;have N:IntKind.i64.wrap (j:Int)=(j:Int):=SX;have z:=qj (λb L=>uD _ g t _ c f a b E.drew L (by have:=HS.out;omega));generalize x/2^j=y at*;have C:=qj (z _ v);generalize y%2=b at*;clear D B v r;go_wp2_with fail;go_still_tail 7,AL;go_wp2_with fail;refine zC C ?_;rintro w' ⟨K,J,o,p⟩;replace o:=qj o;replace p:=qj p;go_wp2;go_roundw
     case rel=>exact⟨j,(j:Int)-1,De a b,K,J,xh,by rw [Hid];omega,uK,I,by have:=HS.out;rw [Hid,cZ];omega,o,w.drew.trans p⟩
     case measure=>simp [intOf]
theorem tD (W:World) (g:Nat) (t:TypeId) (rest:List Value) (A:q') (cap:Nat) (s:Bw) (n:Int) (h:Wr W g t rest A cap s) (E:s.n<=900000000):
  Calls prog 133 #[.pointer g,n] W (XX W g t rest A (.int .i64 (sg n)) (oW s n)):=by
 have H:=qj h;clear h;unfold oW;by_cases h1:n<0
 ·rw [show sg n=13 from qk (.inl h1),qJ FV];go_wp2;go_ret;exact⟨rfl,A,_,H,WrK.refl _ _ _⟩
 by_cases h2:100000<n
 ·rw [show sg n=13 from qk (.inr h2),qJ FV];go_wp2;go_ret;exact⟨rfl,A,_,H,WrK.refl _ _ _⟩
 rw [show sg n=0 from qJ uK,qk rfl];obtain⟨m,rfl⟩: ∃m:Nat,n=(m:Int):=⟨n.toNat,uK⟩;rw [show(m:Int).toNat=m from rfl];have B:m<=100000:=uK;go_wp2;go_loopw [16] (λr wr=> ∃(k j:Nat) (a:Bw) (d:q') (i:Nat),r=(j:Value)/\Hid (j+k=m)/\j<=m/\Hid (U_ a k=U_ s m)/\Hid (a.n+k<=900100000)/\Hid (Wr wr g t rest d i a)/\Hid (WrK W wr g A d)) (λr _=>m-(intOf r).toNat)
 ·exact⟨m,0,s,A,cap,rfl,by rw [Hid];omega,qp _,rfl,by rw [Hid];omega,H,WrK.refl _ _ _⟩
 ·obtain⟨k,j,a,d,i,rfl,o,C,l,HS,w,v⟩:=hrel;by_cases y:j<m
  focus
   have D:=j' j m;obtain⟨k,rfl⟩: ∃x,k=x+1:=⟨k-1,by have:=o.out;omega⟩;have p:Hid (U_ (De a 0) k=U_ s m):=l.out;have f:=qj (uD _ g t _ d i a 0 w uK (by have:=HS.out;omega))
  rotate_left
  focus
   have z:=vv j m;obtain rfl:k=0:=by have:=o.out;omega
   have p:Hid (De a 1=U_ s m):=l.out;have f:=qj (uD _ g t _ d i a 1 w uK (by have:=HS.out;omega))
  rotate_left
  all_goals
   clear l;go_wp2_with fail;refine zC f ?_;rintro w' ⟨u,q,b,c⟩;replace b:=qj b;replace c:=qj c;go_wp2_with fail
  ·refine xk ?_;exact⟨k,j+1,De a 0,u,q,s8,by have:=o.out;rw [Hid];omega,uK,p,by have:=HS.out;rw [Hid,cZ];omega,b,v.trans c⟩
  ·go_ret;exact⟨rfl,u,q,by rw [<-p.out];exact b,v.trans c⟩
theorem FM (W:World) (g:Nat) (t:TypeId) (rest:List Value) (A:q') (cap:Nat) (s:Bw) (h:Wr W g t rest A cap s) (f:s.b.length<=1000000000):
  Calls prog 123 #[.pointer g] W (jQ 5 W s.b.length (s.b.map B8)):=by
 have c:=qj (yV A _ cap W _ W h.reads (qx _) uK);have c0:=h.VH;unfold jQ at c⊢;clear h;go_in;go_wp2_with fail;refine c.mono ?_;rintro e i ⟨d,c1,rfl,a⟩;replace a:=qj a;go_wp2;go_ret;exact⟨d,_,rfl,a⟩
end
section
variable {A:q'}{B n:Nat}{b:List Value}{w w':World}
theorem Reads.mB {size:Nat} (h:Reads w B size A n b) (i: ∀a,A=some a->w'.heap[a.block]? =w.heap[a.block]?):Reads w' B size A n b:=
 ⟨h.1,λc=>by
  obtain⟨a,e,f,d⟩:=h.2 c;exact⟨a,e,f,λj u g=>(zw (by rw [xF];exact i a e)).trans (d j u g)⟩⟩
def Off (A:q') (l:List Nat):Prop:= ∀a,A=some a->a.block∉l
theorem qE.ma {l:List Nat} {size:Nat} {c:List Value} (h:qE l w w') (b:Reads w B size A n c) (j:B<=w.heap.size) (d:Off A l):Reads w' B size A n c:=by
 rcases zA n with h0|h0
 ·subst h0;exact⟨b.1,λh=>absurd h uK⟩
 ·obtain⟨f,e,g,_⟩:=b.2 h0;exact b.mB λi a=>by
   rw [e] at a;injection a with a;subst a;exact h.block _ uK (d f e)
theorem WrK.reads {W c:World} {g size:Nat} {f a:q'} (h:WrK W c g A f) (d:Reads W B size a n b) (i:B<=W.heap.size) (e:Off a (g::fpS A)):Reads c B size a n b:=h.jZ.ma d i e
theorem CP {s:Bw} {x k:Nat} (b:k<=64) (a:x<2^k):PR s x (k:Int)=Jh s x k/\G4 x (k:Int)=0:=by
 have h:=Fm (by
  rw [show(k:Int).toNat=k from rfl,xW a];omega)
 unfold PR;rw [h,qk rfl];exact⟨rfl,rfl⟩
theorem mA (m:Nat) (l:qn):XT m l<=m:=by
 induction m generalizing l with
 |zero=>cases l<;>simp [XT]
 |succ m a=>cases l with
  |nil=>simp [XT]
  |cons x t=>unfold XT;split<;>first|(have:=a t;omega)|omega
theorem yL {a:Type} {l:List a} {i:Nat} {x:a} (h:l[i]? =some x):l.drop i=x::l.drop (i+1):=by
 have hi:i<l.length:=by
  rcases jE i l.length with h2|h2
  ·exact h2
  ·rw [qO h2] at h;cases h
 rw [qX hi] at h;injection h with h;rw [zK hi,h]
theorem CU (W:World) (g:Nat) (t:TypeId) (rest:List Value) (A:Option Addr) (cap:Nat) (s:Bw) (Q:Option Addr) (n c B:Nat) (bs:List UInt8) (hw:Wr W g t rest A cap s) (K:Reads W B 1 Q n (bs.map B8)) (hB:B<=W.heap.size) (ho:Off Q (g::fpS A)) (hl:s.n<=500000000):
  Calls prog 172 #[.pointer g, .slice Q n c] W (XX W g t rest A (.int .i64 (Y2 bs)) (dc s bs)):=by
 have D:=qj (kY Q n c B bs W K hB);have H:=qj K;have u':=qj hw;have BB:=qj hB;have HO:=qj ho;have J:=qj K.len;have HL:=qj hl;clear K hw hB ho hl;unfold dc;rcases uf bs with l|l
 ·have hn:n<=300:=by have:=(ZT l).1;rw [J.out] at this;exact this
  have HE:=qj l;rw [l] at D⊢;rw [qk rfl];clear l;go_enter func172,ntmps172
  go_wp2_with fail;refine D.mono ?_;rintro e w1 ⟨rfl,j⟩;have I':=qj (u'.fresh j);have N6:Hid (WrK W w1 g A A):=⟨qE.jq j,λk h=> .inl h⟩;clear D j u'
  go_wp2_with fail;go_loopw [6] (λX wr=> ∃(i f:Nat) (a:Bw) (q:Option Addr) (G:Nat),X=(i:Value)/\i<=n/\Hid (n-i<=f)/\Hid (QR f a (bs.drop i)=QR bs s bs)/\Hid (a.n<=500000000+10*i)/\Hid (Wr wr g t rest q G a)/\Hid (WrK W wr g A q)) (λX _=>n-(intOf X).toNat)
  case atStart=>exact⟨0,n,s,A,cap,rfl,qp _,by rw [Hid];omega,by rw [Hid,Zy,J.out],by rw [Hid];exact HL,I',N6⟩
  case round=>
   clear I' N6;obtain⟨i,f,a,q,G,rfl,hi,T,m,HS,HW,M⟩:=hrel;by_cases hlt:i<n
   ·have hlt':(i:Int)<(n:Int):=uK
    obtain⟨f,rfl⟩: ∃f',f=f'+1:=⟨f-1,by have:=T.out;omega⟩
    have HR:=M.reads H BB HO.out;obtain⟨ad,z,F,-,d,U'⟩:=HR.byte hlt;subst F;rw [yL d] at m;have G':=z.toNat_lt;by_cases L:0<z.toNat
    ·have J':(0:Int)<(z.toNat:Int):=uK
     have o:Hid (QR f (Jh a z.toNat 4) (bs.drop (i+1))=QR bs s bs):=by
      have:=m.out;rwa [QR.eq_3,qk L] at this
     have Y':z.toNat<=15:=(ZT HE).2.2 z (zQ d);have d':=CP (s:=a) (x:=z.toNat) (k:=4) uK uK;have O:=qj (V_ wr g t rest q G a z.toNat (4:Nat) HW uK (by have:=HS.out;omega))
     rw [d'.1,d'.2] at O;unfold XX at O;have iL:Hid ((Jh a z.toNat 4).n<=500000000+10*(i+1)):=by rw [Hid,YH];have:=HS.out;omega
     have Q':IntKind.u64.wrap (z.toNat:Int)=(z.toNat:Int):=by rw [qS];omega
     generalize Jh a z.toNat 4=Z at*
     generalize z.toNat=zz at*
     clear d' m d L G' Y'
     go_wp2_with fail;refine O.mono ?_;rintro e w ⟨rfl,r,u,E,C⟩;have N9:=qj E;have N:=qj (M.trans C);clear O E C
     go_wp2_with fail;go_roundw
     case rel=>exact⟨i+1,f,Z,r,u,by first|rfl|simp,uK,by have:=T.out;rw [Hid];omega,o,iL,N9,N⟩
     case measure=>simp [intOf];omega
    ·have J': ¬(0:Int)<(z.toNat:Int):=uK
     have V:z.toNat=0:=uK;rw [V] at U';have S:z=0:=jG.1 V;have o:Hid (QR f (Jh (Jh a 0 4) (XT 63 (bs.drop (i+1))) 6) (bs.drop (i+1+XT 63 (bs.drop (i+1))))=QR bs s bs):=by
      have:=m.out;rw [QR.eq_3,qJ L,vh] at this;exact this
     clear m L G' J' V d S;obtain⟨b,I⟩: ∃b,b=XT 63 (bs.drop (i+1)):=⟨_,rfl⟩;rw [<-I] at o;have OX:=qj I;have hzn63:b<=63:=by rw [I];exact mA _ _
     clear I;obtain⟨v,P'⟩: ∃v,v=wr:=⟨_,rfl⟩;subst P'
     go_wp2_with fail;go_loopw [7] (λU wr=> ∃(k:Nat),U=(k:Value)/\1<=k/\k<=64/\i+k<=n/\Hid (b+1=k+XT (64-k) (bs.drop (i+k)))/\v=wr) (λU _=>64-(intOf U).toNat)
     case atStart=>exact⟨1,rfl,uK,uK,uK,by show b+1=1+XT 63 (bs.drop (i+1));rw [OX.out];omega,rfl⟩
     case round=>
      obtain⟨k,rfl,hk1,hk,N',y,rfl⟩:=hrel;have hsum:wrap64 ((i:Int)+(k:Int))=(i:Int)+(k:Int):=yT _ ⟨uK,uK⟩;by_cases p:k<64/\i+k<n/\(bs.drop (i+k)).headD 1=0
      ·obtain⟨h1,h2,h3⟩:=p
       have h1':(k:Int)<64:=uK;have h2':(i:Int)+(k:Int)<(n:Int):=uK;obtain⟨Z',z,F,-,d,P⟩:=HR.byte h2;obtain rfl:=zy F;rw [yL d] at h3 y;have S:z=0:=by simpa using h3
       subst S;have hcell3:v.cell? (ad.add (i+k))=some (.int .u8 0):=P;have HZ2:Hid (b+1=k+1+XT (64-(k+1)) (bs.drop (i+(k+1)))):=by
        have:=y.out;rw [show 64-k=(64-(k+1))+1 by omega] at this
        unfold XT at this;rw [qk rfl] at this;rw [Hid,<-vo i k 1];omega
       clear y d P h3
       go_wp2_with fail;go_roundw
       case rel=>exact⟨k+1,s8,uK,uK,uK,HZ2,trivial⟩
       case measure=>simp [intOf];omega
      ·have X':(¬(k:Int)<64)\/((k:Int)<64/\ ¬((i:Int)+(k:Int)<(n:Int)))\/((k:Int)<64/\(i:Int)+(k:Int)<(n:Int)/\ ∃z:Nat,v.cell? (ad.add (i+k))=some (.int .u8 z)/\((z:Int)==0)=false):=by
        by_cases h1:k<64
        ·by_cases h2:i+k<n
         ·obtain⟨Z',z,F,-,d,P⟩:=HR.byte h2
          obtain rfl:=zy F;rw [yL d] at p;refine .inr (.inr ⟨uK,uK,z.toNat,P, ?_⟩);have h3:z≠0:=λe=>p ⟨h1,h2,by simpa using e⟩
          have h4:z.toNat≠0:=λe=>h3 (jG.1 e);simp;omega
         ·exact .inr (.inl ⟨uK,uK⟩)
        ·exact .inl uK
       have m':k=b+1:=by
        have h0:XT (64-k) (bs.drop (i+k))=0:=by
         by_cases h1:k<64
         ·rw [show 64-k=(64-(k+1))+1 by omega]
          cases hd:bs.drop (i+k) with
          |nil=>rfl
          |cons x t=>
           rw [hd] at p;have h2:i+k<n:=by
            rcases jE (i+k) n with h|h
            ·exact h
            ·rw [zD (by rw [J.out];exact h)] at hd;cases hd
           unfold XT;rw [qJ (λe=>p ⟨h1,h2,by simpa using e⟩)]
         ·rw [show 64-k=0 by omega];cases bs.drop (i+k)<;>rfl
        have:=y.out;omega
       have hk64:(k:Int)-1=(b:Int):=uK;have Q':IntKind.u64.wrap (b:Int)=(b:Int):=by rw [qS];omega
       have R:=CP (s:=a) (x:=0) (k:=4) uK uK;have p':=qj (V_ v g t rest q G a 0 (4:Nat) HW uK (by have:=HS.out;omega))
       have z':=CP (s:=Jh a 0 4) (x:=b) (k:=6) uK uK;have Y:=qj (λw r u (h2:Wr w g t rest r u (Jh a 0 4))=>V_ w g t rest r u (Jh a 0 4) b (6:Nat) h2 uK (by rw [YH];have:=HS.out;omega))
       rw [R.1,R.2] at p';rw [z'.1,z'.2] at Y;unfold XX at p' Y;have iL:Hid ((Jh (Jh a 0 4) b 6).n<=500000000+10*(i+k)):=by rw [Hid,YH,YH];have:=HS.out;omega
       have O':Hid (QR f (Jh (Jh a 0 4) b 6) (bs.drop (i+k))=QR bs s bs):=by
        have:=o.out;rw [Hid,<-this,m',vo i 1,Nat.add_comm 1]
       generalize Jh a 0 4=Z at*
       generalize Jh Z b 6=s3 at*
       have hkz2:=qj m';have hw0:IntKind.u64.wrap (0:Int)=0:=rfl;clear R z' m' p y o;rcases X' with h1|⟨h1,h2⟩|⟨h1,h2,z,h3,h4⟩<;>
       ·go_wp2_with fail
        refine p'.mono ?_;rintro e w ⟨rfl,r,u,E,C⟩;have KQ:=qj (Y.out w r u E);have N:=qj (M.trans C);clear E C
        go_wp2_with fail;refine KQ.mono ?_;rintro e w3 ⟨rfl,A3,S',M',D'⟩;have HW3:=qj M';have HK3:=qj (N.trans D');clear M' D' KQ N
        go_wp2_with fail;go_roundw
        case rel=>exact⟨i+k,f,s3,A3,S',by first|rfl|simp,N',by have:=T.out;rw [Hid];omega,O',iL,HW3,HK3⟩
        case measure=>simp [intOf];omega
   ·have hge: ¬(i:Int)<(n:Int):=uK
    obtain rfl:i=n:=uK;have o:Hid (a=QR bs s bs):=by
     have:=m.out;rw [zD (by rw [J.out];exact qx _)] at this
     rw [Hid,<-this];cases f<;>rfl
    clear m
    go_wp2_with fail;go_ret;exact⟨rfl,q,G,by rw [<-o.out];exact HW,M.out⟩
 ·have HE:=qj l
  rw [l] at D⊢;rw [qJ FV];go_enter func172,ntmps172
  go_wp2_with fail;refine D.mono ?_;rintro e w1 ⟨rfl,j⟩;replace j:=qj j;clear l
  go_wp2_with fail;go_ret;exact⟨rfl,A,cap,u'.fresh j,⟨qE.jq j,λk h=> .inl h⟩⟩
end
section
open Go.Maps
variable {A:q'}{base c n:Nat}{w:World}
def itC (t:Nat×Int×Int):List Value:=[.int .u8 (t.1:Int), .int .i64 t.2.1, .int .i64 t.2.2]
def kR (l:List (Nat×Int×Int)):List Value:=(l.map itC).flatten
theorem Mp (l:List (Nat×Int×Int)):(kR l).length=l.length*3:=by
 induction l with
 |nil=>rfl
 |cons a l b=>
  rw [show kR (a::l)=itC a++kR l by simp [kR]];rw [qK,b,qf];simp only [itC,qf,zF];omega
theorem fJ: ∀(l:List (Nat×Int×Int)) (j f:Nat) (h:j<l.length),f<3->(kR l)[j*3+f]? =(itC l[j])[f]?
 |a::l,0,f,_,b=>by
  rw [show kR (a::l)=itC a++kR l by simp [kR],jd,jL,q_ (by simp only [itC,qf,zF];omega)]
  rfl
 |a::l,j+1,f,h,b=>by
  rw [show kR (a::l)=itC a++kR l by simp [kR],qm (by simp only [itC,qf,zF];omega)]
  rw [show(j+1)*3+f-(itC a).length=j*3+f by simp only [itC,qf,zF];omega]
  exact fJ l j f _ b
theorem MP {B:Nat} {l:List (Nat×Int×Int)} (h:Reads w B 3 A n (kR l)) (j:Nat) (c:j<l.length): ∃a,A=some a/\a.block<B/\w.cell? (a.add (j*3))=some (.int .u8 ((l[j].1:Nat):Int))/\
  w.cell? ⟨(a.add (j*3)).block,(a.add (j*3)).off+1,none⟩=some (.int .i64 l[j].2.1)/\w.cell? ⟨(a.add (j*3)).block,(a.add (j*3)).off+2,none⟩=some (.int .i64 l[j].2.2):=by
 have e:=h.1;rw [Mp] at e;obtain⟨a,f,d,b⟩:=h.2 uK;have h0:=fJ l j 0 c uK;have h1:=fJ l j 1 c uK;have h2:=fJ l j 2 c uK;have c1:=b _ _ h1;have c2:=b _ _ h2;rw [<-QZ,show(a.add (j*3)).add 1=⟨(a.add (j*3)).block,(a.add (j*3)).off+1,none⟩ from rfl] at c1;rw [<-QZ,show(a.add (j*3)).add 2=⟨(a.add (j*3)).block,(a.add (j*3)).off+2,none⟩ from rfl] at c2;exact⟨a,f,d,b _ _ (by simpa [itC] using h0),c1,c2⟩
theorem Oa {b:qn} (h:w.ownsRow base 5 1 (.slice A n c) n (b.map B8)) (j:Nat) (g:j<n): ∃a,A=some a/\w.cell? (a.add j)=some (.int .u8 ((b.getD j 0).toNat:Int)):=by
 obtain⟨a,f,d⟩:=VZ (Reads.zY h) uK;have e:=h.1;rw [zH] at e;exact⟨a,f,d j uK⟩
theorem Cr {f:World} {b:Nat} {j:List Value} {d:Array Value} {o:Obj} (g:Blk w b 193 d) (h:w.ownsRow base 5 1 (.slice A n c) n j) (k:(w.alloc o).grownBy f (A.map (·.block))):Blk f b 193 d:=by
 refine(g.alloc o).grown k λe=> ?_;obtain⟨l,m,a⟩:=yk h b e.symm;have i:w.heap[b]? =some (.cells d 193):=g;rw [i] at a;injection a with a;injection a with _ a;exact absurd a FV
theorem MU (A:q') (c B:Nat) (f:Int) (l:List (Nat×Int×Int)) (w:World) (h:Reads w B 3 A l (kR l)) (hB:B<=w.heap.size) (hl:l.length<=100000) (N': ∀t∈l,t.1<256) (hm:f<=9223372036854775807):
  Calls prog 250 #[.slice A l c,f] w λe w'=> ∃A' c',e= .returned (.tuple #[.slice A' (Yc f l).2.length c', .int .i64 (Yc f l).1])/\w'.ownsRow w 5 1 (.slice A' (Yc f l).2.length c') (Yc f l).2.length ((Yc f l).2.map B8)/\Below w w w':=by
 by_cases V:f<0
 ·have Y:Hid (Yc f l=(13,[])):=by unfold Yc;rw [qk V];rfl
  clear h;go_wp2;go_ret2;rw [Y.out];exact⟨none,0,rfl,qP _ _ _ 1,qZ _ _⟩
 have H:=qj h;have O':=qj N';have h0:0<=f:=uK;have Y:Hid (Yc f l=Vk f l []):=by unfold Yc;rw [qJ V];rfl
 obtain⟨i0,hi,N,O,R⟩:=xt Tj;have hz:=(jb (show(prog.info? 193).map (λi=>(i.zero,i.size))=some (some (.agg #[.int .u8 0,(),()]),3) by kernel_rfl)).1;clear h N' V;go_wp2;go_loopw [6,13] (λv6 p' wr=> ∃(k y:Nat) (s:q') (b:qn),v6= .slice s b y/\p'=(k:Value)/\k<=l.length/\b.length<=257*k/\Hid (Vk f (l.drop k) b=Yc f l)/\Hid (Below w w wr)/\Hid (wr.ownsRow w 5 1 (.slice s b y) b (b.map B8))) (λ_ p' _=>l.length-(intOf p').toNat)
 ·exact⟨0,0,none,[],rfl,rfl,uK,s8,Y.symm,qZ _ _,qP _ _ _ 1⟩
 ·obtain⟨k,y,s,b,rfl,rfl,hk,ho,Hp,F,HO⟩:=hrel;by_cases D':k<l.length
  ·have hlt':(k:Int)<l.length:=uK;obtain⟨ad,rfl,hadb,S,T,y2⟩:=MP (H.below (F.mono hB)) k D';have OX:=F.size;have I':=O' l[k] (zx D');have Hd:=qj (zK D');have g:Hid (Vk f (l[k]::l.drop (k+1)) b=Yc f l):=by rw [<-Hd.out];exact Hp.out
   clear Hp;obtain⟨t,ht⟩:=j1 (l[k]);rw [<-ht] at g S T y2 I';clear ht;obtain⟨lt,m,o⟩:=t;simp only at S T y2 I';have M:=λW=>qj (F6 (lt:Int) m o W);go_wp2_with fail;have D:Below w w (wr.alloc (.cells #[.int .u8 (lt:Int),m,o] 193)):=F.alloc OX _;have P:=X4 HO ((qZ wr.heap.size wr).alloc (qx _) (.cells #[.int .u8 (lt:Int),m,o] 193));have I:Blk (wr.alloc (.cells #[.int .u8 (lt:Int),m,o] 193)) wr.heap.size 193 #[.int .u8 (lt:Int),m,o]:=Blk.new _ _ _;generalize wr.alloc (.cells #[.int .u8 (lt:Int),m,o] 193)=w1,wr.heap.size=z at*;revert D P I;refine vn ?_;intro D P I;refine zC (M w1).out ?_;intro u K;have r:=qj (D.trans (K.mono D.size));have U:=qj (X4 P K);have Q:=qj (I.below K I.lt);have x0:u.cell? z=some (.int .u8 (lt:Int)):=Q.cell 0;have x1:u.cell? ⟨z,1,none⟩=some (m:Value):=Q.cell 1;have x2:u.cell? ⟨z,2,none⟩=some (o:Value):=Q.cell 2;have m':=r.size;clear K F HO M S T y2;rw [pY] at g;simp only at g;cases C:YB (lt:Int) m o
   ·rw [qk C] at g;clear C;go_wp2;go_ret2;rw [<-g.out];exact⟨none,0,rfl,qP _ _ _ 1,r⟩
   ·rw [qJ (by rw [C];simp)] at g;rcases H4 C with⟨rfl,rfl⟩|⟨hlt0,hn3,hn257,hd1,hd4⟩
    ·rw [qJ uK] at g;clear C;have u':max (1:Int) 0=1:=rfl;rw [u'] at g;by_cases G:f-(b.length:Int)<1
     ·rw [qk G] at g;go_wp2;go_ret2;rw [<-g.out];exact⟨none,0,rfl,qP _ _ _ 1,r⟩
     ·rw [qJ G,qk rfl] at g;have hlim':(1:Int)<=f-(b.length:Int):=uK;go_wp2_with (at_builtin;refine qF _ rfl (.tmp 39) (.tmp 42) 30 rfl w 5 i0 (.int .u8 0) 1 1 qu hi N O R rfl uK s b y _ rfl (U.alloc _) (u.heap.size+1) u 1 1 [.int .u8 (lt:Int)] rfl (zU _ _ _) (one_one rfl) SJ uK (qv m' s8) ?_;intro A3 c3 w3 p v Z;have z':=qj (zG (r.alloc m' (.cells #[.int .u8 (lt:Int)] 5)) v (U.alloc _) (qv m' s8));clear v Z;replace p:=qj p);go_roundw
      case rel=>
       refine⟨k+1,c3,A3,b++[UInt8.ofNat lt],s8,xh,uK,SZ,g,z', ?_⟩;have h:=p.out;rw [show(.int .u8 (lt:Int):Value)=B8 (UInt8.ofNat lt) by unfold B8;rw [zS];congr 2;omega] at h;simpa [Hid] using h
      case measure=>simp [intOf];omega
    ·have Q':lt=0:=uK;subst Q';obtain⟨n,rfl⟩: ∃n:Nat,m=(n:Int):=⟨m.toNat,uK⟩;obtain⟨d,rfl⟩: ∃n:Nat,o=(n:Int):=⟨o.toNat,uK⟩;clear C;have u':max (1:Int) (n:Int)=(n:Int):=uK;rw [u'] at g;by_cases N6:(b.length:Int)<(d:Int)
     ·rw [qk N6] at g;go_wp2;go_ret2;rw [<-g.out];exact⟨none,0,rfl,qP _ _ _ 1,r⟩
     ·rw [qJ N6] at g;have hfar':(d:Int)<=(b.length:Int):=uK;by_cases G:f-(b.length:Int)<(n:Int)
      ·rw [qk G] at g;go_wp2;go_ret2;rw [<-g.out];exact⟨none,0,rfl,qP _ _ _ 1,r⟩
      ·rw [qJ G,qJ uK,zc,zc] at g;have hlim':(n:Int)<=f-(b.length:Int):=uK;have hne:((n:Int)==0)=false:=by rw [zE];omega
       go_wp2_with fail;have M':decide (b.length<d)=false:=by rw [zW];omega
       simp only [M'];clear M';go_loopw [6,46] (λv6 X wr=> ∃(j J:Nat) (L:q') (a:qn),v6= .slice L a J/\X=(j:Value)/\j<=n/\a.length=b.length+j/\Hid (PI d (n-j) a=PI d n b)/\Hid (Below w w wr)/\Hid (wr.ownsRow w 5 1 (.slice L a J) a (a.map B8))/\Hid (Blk wr z 193 #[.int .u8 0,n,d])) (λ_ X _=>n-(intOf X).toNat)
       ·exact⟨0,y,s,b,rfl,rfl,uK,rfl,rfl,r,U,Q⟩
       ·obtain⟨j,J,L,a,rfl,rfl,hj,N9,Hc,G',E,iL⟩:=hrel;by_cases hjn:j<n
        ·have hjn':(j:Int)<n:=uK;have q2:wr.cell? ⟨z,2,none⟩=some (d:Value):=iL.cell 2;obtain⟨q,hq⟩:=j1 (a.length-d);have hqd:q+d=a.length:=uK;obtain⟨S',rfl,cq'⟩:=Oa E q uK;have U':Hid (PI d (n-(j+1)) (a++[a.getD q 0])=PI d n b):=by
          have h:=Hc.out;rw [show n-j=(n-(j+1))+1 by omega] at h;rw [hq];exact h
         have HX:Hid (B8 (a.getD q 0)= .int .u8 (((a.getD q 0).toNat:Nat):Int)):=rfl;generalize hx:a.getD q 0=x at*;clear hx hq;have r1:IntKind.i64.wrap ((a.length:Int)-(d:Int))=(q:Int):=by rw [show((a.length:Int)-(d:Int))=((q:Nat):Int) by omega,qU];omega
         have r2:(a.length:Int)-(d:Int)=(q:Int):=uK;have l1:(q:Int)<(a.length:Int):=uK;have d':=G'.size;have hob:a.length<=257*k+257:=uK;have X':=qj N9;clear N9;generalize J':x.toNat=xn at*;go_wp2_with (at_builtin;refine qF _ rfl (.tmp 48) (.tmp 57) 30 rfl w 5 i0 (.int .u8 0) 1 1 qu hi N O R rfl uK (some S') a J _ rfl (E.alloc _) (wr.heap.size+1) wr.heap.size 1 1 [.int .u8 (xn:Int)] rfl (zU _ _ _) (one_one rfl) SJ uK (qv d' s8) ?_;intro A3 c3 w3 p v Z;have z':=qj (zG (G'.alloc d' (.cells #[.int .u8 (xn:Int)] 5)) v (E.alloc _) (qv d' s8));have P':=qj (Cr iL E v);clear v Z;replace p:=qj p);go_roundw
         case rel=>
          refine⟨j+1,c3,A3,a++[x],s8,xh,uK,by have:=X'.out;simp;omega,U',z', ?_,P'⟩;have h:=p.out;rw [<-HX.out] at h;simpa [Hid] using h
         case measure=>simp [intOf];omega
        ·have Z':j=n:=uK;have He:Hid (a=PI d n b):=by
          have h:=Hc.out;rw [Z',xO] at h;exact h
         rw [<-He.out] at g;go_wp2_with fail;refine xk ?_;exact⟨k+1,J,L,a,rfl,xh,uK,uK,g,G',E⟩
  ·have hkl:k=l.length:=uK;have He:Hid (Yc f l=(0,b)):=by
    have h:=Hp.out;rw [hkl,List.drop_length] at h;exact h.symm
   go_wp2;go_ret2;rw [He.out];exact⟨s,y,rfl,HO,F⟩
end
section
variable {b:UInt8}
def mkE (bs:qn):Int:=if bs.length<=4 then 1 else if bs.take 4≠[70,73,82,75] then 3 else if 1<=(bs.getD 4 0).toNat/\(bs.getD 4 0).toNat<=3 then 0 else 4
def mkV (bs:qn):Int:=if bs.length<=4 then 0 else if bs.take 4≠[70,73,82,75] then 0 else if 1<=(bs.getD 4 0).toNat/\(bs.getD 4 0).toNat<=3 then((bs.getD 4 0).toNat:Int) else 0
theorem Ty:(prog.info? 5).map (λi=>(i.zero,i.size,i.bytes))=some (some (.int .u8 0),1,1):=AL
theorem XE (A:q') (n c:Nat) (w:World) (b:n<=4):
  Calls prog 73 #[.slice A n c] w λe w'=>e= .returned (.tuple #[(), .int .i64 1])/\w=w':=by
 have a:(n:Int)<=4:=uK;go_wp2;go_ret2;exact⟨rfl,rfl⟩
theorem pj {w:World} {B n:Nat} {A:q'} {bs:qn} (h:Reads w B 1 A n (bs.map B8)) (b:0<n): ∃a,A=some a/\ ∀(j:Nat) (x:UInt8),bs[j]? =some x->w.cell? (a.add j)=some (.int .u8 (x.toNat:Int)):=by
 obtain⟨a,d,_,c⟩:=h.2 b;exact⟨a,d,λj x e=>c j _ (by rw [qD,e];rfl)⟩
theorem WR (b0 d b c a:UInt8) (rest:qn):
  ([b0,d,b,c]≠[70,73,82,75]->mkV (b0::d::b::c::a::rest)=0/\mkE (b0::d::b::c::a::rest)=3)/\
  ([b0,d,b,c]=[70,73,82,75]->((1<=a.toNat/\a.toNat<=3)->mkV (b0::d::b::c::a::rest)=(a.toNat:Int)/\mkE (b0::d::b::c::a::rest)=0)/\
   (¬(1<=a.toNat/\a.toNat<=3)->mkV (b0::d::b::c::a::rest)=0/\mkE (b0::d::b::c::a::rest)=4)):=by
 have j:(b0::d::b::c::a::rest).take 4=[b0,d,b,c]:=rfl;have i:(b0::d::b::c::a::rest).getD 4 0=a:=rfl;have g: ¬(b0::d::b::c::a::rest).length<=4:=by simp only [qf];omega
 unfold mkV mkE;rw [qJ g,qJ g,j,i];refine⟨λh=>⟨qk h,qk h⟩,λh=> ?_⟩;have f: ¬([b0,d,b,c]≠([70,73,82,75]:qn)):=λh2=>h2 h;rw [qJ f,qJ f];exact⟨λe=>⟨qk e,qk e⟩,λe=>⟨qJ e,qJ e⟩⟩
theorem Wt {b0 a c:UInt8} (h:[b0,a,b,c]≠[70,73,82,75]):b0≠70\/(b0=70/\a≠73)\/(b0=70/\a=73/\b≠82)\/(b0=70/\a=73/\b=82/\c≠75):=by
 by_cases h0:b0=70
 ·by_cases h1:a=73
  ·by_cases h2:b=82
   ·by_cases h3:c=75
    ·subst h0;subst h1;subst h2;subst h3;exact absurd rfl h
    ·exact .inr (.inr (.inr ⟨h0,h1,h2,h3⟩))
   ·exact .inr (.inr (.inl ⟨h0,h1,h2⟩))
  ·exact .inr (.inl ⟨h0,h1⟩)
 ·exact .inl h0
theorem ET (A:q') (n c B:Nat) (b0 d f b a:UInt8) (rest:qn) (w:World) (z:n<=c) (y:c<=maxLen) (h:Reads w B 1 A n ((b0::d::f::b::a::rest).map B8)):
  Calls prog 73 #[.slice A n c] w λe w'=>e= .returned (.tuple #[.int .i64 (mkV (b0::d::f::b::a::rest)), .int .i64 (mkE (b0::d::f::b::a::rest))])/\w=w':=by
 have r:=h.len;simp only [qf] at r;have u:(4:Int)<n:=uK;have C:(4:Int)<=c:=uK;have q:Reads w B 1 A 4 ([b0,d,f,b].map B8):=h.takeN uK;have D:=Kf (c:=c) _ 9 5 qu xS ju q;obtain⟨m,rfl,o⟩:=pj h uK;have s:=o 4 a rfl;rw [show m.add 4=⟨m.block,m.off+4,none⟩ from rfl] at s;have W:=λw=>qj (Qp (a.toNat:Int) 1 3 w);have x:a.toNat<256:=a.toNat_lt;have t:=WR b0 d f b a rest;generalize mkV (b0::d::f::b::a::rest)=V,mkE (b0::d::f::b::a::rest)=E at*;obtain⟨l,j⟩:=t;clear o q h r;by_cases g:[b0,d,f,b]=([70,73,82,75]:qn)
 ·obtain⟨k3,p⟩:=j g;simp only [List.cons.injEq,and_true] at g;obtain⟨rfl,rfl,rfl,rfl⟩:=g;clear l j;by_cases i:1<=a.toNat/\a.toNat<=3
  focus
   obtain⟨rfl,rfl⟩:=k3 i;rw [show Vp (a.toNat:Int) 1 3=true by unfold Vp;simp;omega] at W;clear p i
  rotate_left
  focus
   obtain⟨rfl,rfl⟩:=p i;rw [show Vp (a.toNat:Int) 1 3=false by unfold Vp;simp;omega] at W;clear k3 i
  all_goals
   go_in;go_wp2_with fail;refine(W _).out.mono ?_;rintro e w' ⟨rfl,rfl⟩;go_wp2_with fail;go_ret2;exact⟨rfl,rfl⟩
 ·obtain⟨rfl,rfl⟩:=l g;have v:(!b0==70||(!d==73||(!f==82|| !b==75)))=true:=by
   rcases Wt g with h|⟨_,h⟩|⟨_,_,h⟩|⟨_,_,_,h⟩<;>simp [h]
  clear l j g;go_in;go_wp2_with fail;go_ret2;exact⟨rfl,rfl⟩
theorem kt (A:q') (n c B:Nat) (bs:qn) (w:World) (b:n<=c) (g:c<=maxLen) (h:Reads w B 1 A n (bs.map B8)):
  Calls prog 73 #[.slice A n c] w λe w'=>e= .returned (.tuple #[.int .i64 (mkV bs), .int .i64 (mkE bs)])/\w=w':=by
 have a:=h.len
 match bs,h,a with
 |b0::i::d::f::j::rest,h,_=>exact ET A n c B _ i d f j _ w b g h
 |[],_,a=>exact XE A n c w (by simp at a;omega)
 |[_],_,a=>exact XE A n c w (by simp at a;omega)
 |[_,_],_,a=>exact XE A n c w (by simp at a;omega)
 |[_,_,_],_,a=>exact XE A n c w (by simp at a;omega)
 |[_,_,_,_],_,a=>exact XE A n c w (by simp at a;omega)
end
end Go.Proofs.YtfnlfpcfkbdcmaaGreatDoor
