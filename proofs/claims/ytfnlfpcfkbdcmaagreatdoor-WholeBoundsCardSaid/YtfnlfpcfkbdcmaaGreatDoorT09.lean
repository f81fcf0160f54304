import Derived.Test.YtfnlfpcfkbdcmaaGreatDoorT06
import Derived.Test.YtfnlfpcfkbdcmaaGreatDoorT08
set_option linter.unusedSimpArgs false
set_option linter.unusedVariables false
set_option maxRecDepth 100000
set_option maxHeartbeats 0
open Go.Proofs.Tryz
namespace Go.Proofs.YtfnlfpcfkbdcmaaGreatDoor
open Go.RowKit
section
variable {A:q'}{W W':I}{a cap g n:O}{b:qn}{l:S O}{rest:S la}{s:Bw}{t:TypeId}
structure Wr (W:I) (g:O) (t:TypeId) (rest:S la) (A:q') (cap:O) (s:Bw):Prop where
 blk:F' W g t (Value.slice A (U s.b) cap::Value.int .i64 s.n::rest).toArray
 own:xp W 0 5 1 (Z A (U s.b) cap) (U s.b) (s.b.map B8)
 ok:s.ok
 ne:t≠5
structure XP (W W':I) (g:O) (A A':q'):Prop where
 jZ:qE (g::K' A) W W'
 fp: ∀k∈K' A',k∈K' A\/(W:O)<=k
theorem XP.refl (W:I) (g:O) (A:q'):XP W W g A A:=⟨qE.refl _ _,λ_ h=> .inl h⟩
theorem XP.trans {W c e:I} {g:O} {A f d:q'} (h:XP W c g A f) (b:XP c e g f d):XP W e g A d:=
 ⟨h.jZ.trans b.jZ λk a=>by
  rcases qL.1 a with rfl|a
  ·exact .inl (qo ..)
  ·exact(h.fp k a).imp (λh2=>qM _ h2) id,
  λk a=>(b.fp k a).elim (λh2=>h.fp k h2) λh2=> .inr (qv h.jZ.size h2)⟩
theorem XP.drew {W a:I} {g:O} {A b:q'} (h:XP W a g A b):XP W a.drew g A b:=⟨h.jZ.drew,h.fp⟩
theorem Wr.VH (h:Wr W g t rest A cap s):i' W g=J (Z A (U s.b) cap):=by rw [h.blk.cell 0];simp
theorem Wr.V9 (h:Wr W g t rest A cap s):i' W ⟨g,1,none⟩=J (s.n:la):=by rw [h.blk.cell 1];simp
theorem Wr.jZ (h:Wr W g t rest A cap s) (a:qE l W W') (c:g∉l) (b: ∀k∈K' A,k∉l):Wr W' g t rest A cap s:=⟨a.blk h.blk c,a.own h.own b,h.ok,h.ne⟩
theorem Wr.fresh (h:Wr W g t rest A cap s) (a:r' W W W'):Wr W' g t rest A cap s:=h.jZ (qE.jq (l:=[]) a) s8 s8
theorem Wr.drew (h:Wr W g t rest A cap s):Wr W.drew g t rest A cap s:=h.fresh ((Dr.refl W|>.drewN 1).below _)
theorem Wr.fp (h:Wr W g t rest A cap s): ∀k∈K' A,k≠g:=qT h.own h.blk λe=>h.ne e.symm
theorem Wr.reads (h:Wr W g t rest A cap s):E' W W 1 A (U s.b) (s.b.map B8):=E'.zY h.own
structure WrR (W:I) (g:O) (t:TypeId) (rest:S la) (ga cap n:O) (b:qn):Prop where
 blk:F' W g t (Value.slice ga b cap::Value.int .i64 n::rest).toArray
 own:xp W 0 5 1 (Z ga b cap) b (b.map B8)
 len:U b=n/8+1
 ne:t≠5
theorem WrR.VH {W:I} {g:O} {t:TypeId} {rest:S la} {cap:O} (h:WrR W g t rest a cap n b):i' W g=J (Z a b cap):=by rw [h.blk.cell 0];simp
theorem WrR.V9 {W:I} {g:O} {t:TypeId} {rest:S la} {cap:O} (h:WrR W g t rest a cap n b):i' W ⟨g,1,none⟩=J (n:la):=by rw [h.blk.cell 1];simp
theorem Kq {w:I} {base c:O} {E:TypeId} {A:q'} {b:S la} (h:xp w base E 1 (Z A n c) n b) (e:0<n): ∃d,A=some ⟨d,0,none⟩:=by
 rcases h.2 with⟨a,h0⟩|⟨g,cap,cur,a,_⟩
 ·omega
 ·simp only [Ql] at a;exact⟨g,a.1⟩
theorem eM {s:Bw} (h:s.n%8=0):Yh s=s.b++[0]:=by unfold Yh;rw [qk h]
theorem FR {s:Bw} (h:s.n%8≠0):Yh s=s.b:=by unfold Yh;rw [qJ h]
theorem WK (z x r:O) (a:z<256) (g:x<2) (f:r<8):bits .or .u8 (z:V) (IntKind.u8.wrap (IntKind.u8.wrap (x:V)*2^(7-r)))=((UInt8.ofNat (z|||x*2^(7-r))).toNat:V):=by
 have d:IntKind.u8.wrap (x:V)=(x:V):=by rw [va];omega
 have e:(x:V)*2^(7-r)=((x*2^(7-r):O):V):=by rw [zB,j6];rfl
 have h7:2^(7-r)<=2^7:=zZ M M;have b:x*2^(7-r)<256:=by
  have:=xA (show x<=1 by omega) h7;omega
 have c:IntKind.u8.wrap ((x*2^(7-r):O):V)=((x*2^(7-r):O):V):=by rw [va];omega
 rw [d,e,c,u8_or_nat _ _ a b,zS,jk (Nat.or_lt_two_pow a b)]
theorem uD (W:I) (g:O) (t:TypeId) (rest:S la) (A:Option Addr) (cap:O) (s:Bw) (x:O) (h:Wr W g t rest A cap s) (X:x<2) (hl:s.n<=1000000000):
  xG 181 #[mJ g, .int .u64 x] W λe W'=>e=t' (BA #[])/\ ∃A' Q',Wr W' g t rest A' Q' (De s x)/\XP W W' g A A':=by
 obtain⟨i0,hi,iv,P,qj⟩:=qA xR;have H:=T h;have C:=Rx s h.ok;have N:=h.ok;unfold Bw.ok at N;have c0:=h.VH;have c1:=h.V9;have k0:=h.blk.frozen 0;have o:(s.n:V).tmod 8=((s.n%8:O):V):=FC s.n 8;have v:(s.n:V).tdiv 8=((s.n/8:O):V):=Y_ s.n 8;have E:s.n%8<8:=xC _ M;have M':s.n/8<=125000000:=M;have z':(s.n:V)+1<9223372036854775808:=M;have HX:=T X;replace hi:=T hi;replace iv:=T iv;replace P:=T P;replace qj:=T qj;clear h;by_cases u:s.n%8=0
 focus
  have N6:U s.b+1<=maxLen:=SJ
  have N9:(U s.b+1)*1<=140737488355328:=M;have L:=eM u;have X':(s.n:V).tmod 8=0:=M;replace u:=T u;replace C:=T C;replace N:=T N;replace L:=T L;replace o:=T o;replace v:=T v;go_enter func181,ntmps181
  go_wp2_with (at_builtin;refine qF _ rfl (.tmp 14) (.tmp 15) 30 rfl 0 5 i0 (gR 0) 1 1 qu hi iv P qj rfl M A (U s.b) cap _ rfl (H.own.alloc _) ((W:O)+1) (W:O) 1 1 [gR 0] rfl (zU _ _ _) (IB rfl) N6 N9 (qp _) ?_;intro A3 m D B ih Q;have uK:=T (H.blk.alloc (Y #[gR 0] 5)|>.grown ih (λe=>H.fp g (ZO.2 e.symm) rfl));have z4:=uK.cell 0;have y4:=uK.frozen 0;replace B:=T B;replace ih:=T ih;replace Q:=T Q;simp only [qR,qt] at z4)
  obtain⟨a,rfl⟩:=Kq B (Nat.succ_pos _);have c:G (WrR (D.setCell g (Z a (U s.b+1) m)) g t rest a m s.n (s.b++[0])):=by
   refine⟨?_, ?_, ?_,H.ne⟩
   ·have:=uK.zh 0 (Z a (U s.b+1) m)
    rw [qK,zJ];simpa using this
   ·have ho:xp (D.setCell g (Z a (U s.b+1) m)) 0 5 1 (Z a (U s.b+1) m) (U s.b+1) (s.b.map B8++[gR 0]):=((qE.refl [g] D).zh (p:= g) (qy.2 rfl) _).own B (λk i=>by simpa using qT B uK (λe=>H.ne e.symm) k i)
    rw [qK,zJ,qg];exact ho
   ·rw [<-C.out,L.out]
  have ln:G (XP W (D.setCell g (Z a (U s.b+1) m)) g A a):=
   ⟨(((qE.refl (g::K' A) W).alloc _).grown ih (λk i=> .inl (qM _ i))).zh (p:= g) (qo ..) _,λk i=>(Y9 Q k i).imp id λh=>qv s8 h⟩
  have p':G (s.b++[0]=Yh s):=L.symm;clear uK z4 y4 B ih Q c0 c1 k0 L C N N6 N9 X' u;generalize D.setCell g (Z a (U s.b+1) m)=w at*
  generalize s.b++[0]=d at*
  clear H
 rotate_left
 focus
  have N':0<U s.b:=M
  obtain⟨a,rfl⟩:=Kq H.own N';have c:G (WrR W g t rest a cap s.n s.b):=⟨H.blk,H.own,by rw [<-C,FR u],H.ne⟩
  have ln:G (XP W W g a a):=XP.refl _ _ _;have p':G (s.b=Yh s):=(FR u).symm;obtain⟨R,d'⟩: ∃R,R=s.n%8:=⟨_,rfl⟩;have O':(s.n:V).tmod 8=(R:V):=by rw [d'];exact o
  have P':((R:V)==0)=false:=SZ;replace d':=T d';clear N C N' k0 c0 hi iv P qj;replace o:=T o;replace v:=T v;replace u:=T u;have OX:=T M';have S':=T E;have Y':=T hl;have U':=T z';clear M' E hl z';go_enter func181,ntmps181
  go_wp2_with fail;have M':=OX.out;have E:=S'.out;have z':=U'.out;clear O' P' c1;clear H;generalize s.b=d at*
 rotate_left
 all_goals
  have y:s.n/8<U d:=by rw [c.len];omega
  obtain⟨z,ef⟩:=xU c.own y;have cL:(d.map B8)[s.n/8]? =J (gR ((d.getD (s.n/8) 0).toNat:V)):=by rw [qD,qd,qX y];rfl
  rw [cL] at z;have hh:=(d.getD (s.n/8) 0).toNat_lt;have D':=WK (d.getD (s.n/8) 0).toNat x (s.n%8) hh X E;have J':G (De s x=⟨d.set (s.n/8) (UInt8.ofNat ((d.getD (s.n/8) 0).toNat|||x*2^(7-s.n%8))),s.n+1⟩):=by rw [Hid,p'.out];rfl
  have cK:=o.out;have G':=v.out;have h7:(7:V)-((s.n%8:O):V)=((7-s.n%8:O):V):=M;have u':7-s.n%8<8:=M;have cB:((s.n/8:O):V)<(U d:V):=M;have c0:=c.out.VH;have c1:=c.out.V9;clear cL y o v hh;generalize (UInt8.ofNat ((d.getD (s.n/8) 0).toNat|||x*2^(7-s.n%8)))=f at*
  generalize (d.getD (s.n/8) 0).toNat=zz at*
  generalize s.n%8=r at*
  generalize s.n/8=q at*
  generalize 7-r=F at*
  have wq:DW (q:V)=(q:V):=SX;have I':DW (r:V)=(r:V):=SX;have cY:DW (F:V)=(F:V):=SX;have m':(0:V)<=(q:V):=M
 focus refine zv 21 (λW=>i' W g=J (Z a d m)/\i' W ⟨g,1,none⟩=J (s.n:la)/\i' W ⟨a,q,none⟩=J (gR zz)) AL ⟨c0,c1,z⟩ (λiL=> ?_)
 rotate_left
 focus refine zv 21 (λW=>i' W g=J (Z a d cap)/\i' W ⟨g,1,none⟩=J (s.n:la)/\i' W ⟨a,q,none⟩=J (gR zz)) AL ⟨c0,c1,z⟩ (λiL=> ?_)
 rotate_left
 all_goals
  refine zq [0,1,2,3,4,5] (a':= ?_) ?_;refine zq [6,7,8,9,10,11] (a':= ?_) ?_;refine zq [12,13,14,15,16,17] (a':= ?_) ?_;refine zq [18,19,20] (a':= ?_) ?_;refine j4 21 rfl AL FV SQ (λK l=> ?_);go_simp;refine l _ _ ?_;clear l K;try simp only [Act.put,qQ,qY,qV]
  refine j4 22 rfl AL FV SQ (λK l=> ?_);go_simp;refine l _ _ ?_;clear l K;try simp only [Act.put,qQ,qY,qV]
  refine zV AL ?_ _;have j:a≠g:=qT c.own c.blk (λe=>c.ne e.symm) a (by simp [K'])
 ·have HP:G (Wr ((((w.setCell ⟨a,q,none⟩ (gR (f.toNat:V))).drew).setCell ⟨g,1,none⟩ (e' ((s.n:V)+1)))) g t rest a m ⟨d.set q f,s.n+1⟩):=by
   have b1:=(c.blk.far (p:=⟨a,q,none⟩) j.symm (gR (f.toNat:V))).drew.zh 1 (e' ((s.n:V)+1));have o1:=Qn (k:=q) c.own (gR (f.toNat:V));have o2:=((qE.refl [g] _).zh (p:=⟨g,1,none⟩) (qy.2 rfl) (e' ((s.n:V)+1))).own (show(w.setCell ⟨a,q,none⟩ (gR (f.toNat:V))).drew.ownsRow 0 5 1 _ _ _ from o1) (λk i=>by simpa [K'] using λe:k=g=>j (by simp [K'] at i;omega))
   refine⟨?_, ?_, ?_,c.ne⟩
   ·dsimp only
    rw [xE];simpa using b1
   ·dsimp only
    rw [xE,JY];exact o2
   ·unfold Bw.ok
    dsimp only;rw [xE,c.len];omega
  have ck:G (XP W ((((w.setCell ⟨a,q,none⟩ (gR (f.toNat:V))).drew).setCell ⟨g,1,none⟩ (e' ((s.n:V)+1)))) g A a):=
   ln.trans ⟨((qE.refl [g,a] w).zh (p:=⟨a,q,none⟩) s8 _).drew.zh (p:=⟨g,1,none⟩) s8 _,λk i=> .inl i⟩
  have d1:(w.setCell ⟨a,q,none⟩ (gR (f.toNat:V))).drew.cell? ⟨g,1,none⟩=J (s.n:la):=by
   have:=(c.blk.far (p:=⟨a,q,none⟩) j.symm (gR (f.toNat:V))).drew.cell 1;simpa using this
  have d2:(w.setCell ⟨a,q,none⟩ (gR (f.toNat:V))).drew.frozen? ⟨g,1,none⟩=false:=(c.blk.far (p:=⟨a,q,none⟩) j.symm (gR (f.toNat:V))).drew.frozen 1;clear iL c ln j c0 c1 z ef D' cK G' h7 u' cB wq I' cY m';generalize (w.setCell ⟨a,q,none⟩ (gR (f.toNat:V))).drew=w6 at*
  go_wp2_with fail
  go_end0
  rw [J'.out];exact⟨rfl,some ⟨a,0,none⟩,m,HP.out,ck.out⟩
 ·have HP:G (Wr ((((W.setCell ⟨a,q,none⟩ (gR (f.toNat:V))).drew).setCell ⟨g,1,none⟩ (e' ((s.n:V)+1)))) g t rest a cap ⟨d.set q f,s.n+1⟩):=by
   have b1:=(c.blk.far (p:=⟨a,q,none⟩) j.symm (gR (f.toNat:V))).drew.zh 1 (e' ((s.n:V)+1));have o1:=Qn (k:=q) c.own (gR (f.toNat:V));have o2:=((qE.refl [g] _).zh (p:=⟨g,1,none⟩) (qy.2 rfl) (e' ((s.n:V)+1))).own (show(W.setCell ⟨a,q,none⟩ (gR (f.toNat:V))).drew.ownsRow 0 5 1 _ _ _ from o1) (λk i=>by simpa [K'] using λe:k=g=>j (by simp [K'] at i;omega))
   refine⟨?_, ?_, ?_,c.ne⟩
   ·dsimp only
    rw [xE];simpa using b1
   ·dsimp only
    rw [xE,JY];exact o2
   ·unfold Bw.ok
    dsimp only;rw [xE,c.len];omega
  have ck:G (XP W ((((W.setCell ⟨a,q,none⟩ (gR (f.toNat:V))).drew).setCell ⟨g,1,none⟩ (e' ((s.n:V)+1)))) g a a):=
   ln.trans ⟨((qE.refl [g,a] W).zh (p:=⟨a,q,none⟩) s8 _).drew.zh (p:=⟨g,1,none⟩) s8 _,λk i=> .inl i⟩
  have d1:(W.setCell ⟨a,q,none⟩ (gR (f.toNat:V))).drew.cell? ⟨g,1,none⟩=J (s.n:la):=by
   have:=(c.blk.far (p:=⟨a,q,none⟩) j.symm (gR (f.toNat:V))).drew.cell 1;simpa using this
  have d2:(W.setCell ⟨a,q,none⟩ (gR (f.toNat:V))).drew.frozen? ⟨g,1,none⟩=false:=(c.blk.far (p:=⟨a,q,none⟩) j.symm (gR (f.toNat:V))).drew.frozen 1;clear iL c ln j c0 c1 z ef D' cK G' h7 u' cB wq I' cY m';generalize (W.setCell ⟨a,q,none⟩ (gR (f.toNat:V))).drew=w6 at*
  go_wp2_with fail
  go_end0
  rw [J'.out];exact⟨rfl,some ⟨a,0,none⟩,cap,HP.out,ck.out⟩
end
section
variable {n:V}{x:O}
def XX (W:I) (g:O) (t:TypeId) (rest:S la) (A:q') (v:la) (s:Bw) (e:Ending) (a:I):Prop:=e=t' v/\ ∃b c,Wr a g t rest b c s/\XP W a g A b
theorem Cp (h:n<0\/64<n\/(n<64/\x/2^n.toNat≠0)):Sc x n=13:=qk h
theorem Fm (h: ¬(n<0\/64<n\/(n<64/\x/2^n.toNat≠0))):Sc x n=0:=qJ h
theorem V_ (W:I) (g:O) (t:TypeId) (rest:S la) (A:q') (cap:O) (s:Bw) (x:O) (n:V) (h:Wr W g t rest A cap s) (F:x<18446744073709551616) (Q:s.n<=900000000):
  xG 132 #[mJ g, .int .u64 x,n] W (XX W g t rest A (e' (Sc x n)) (PR s x n)):=by
 have H:=T h;clear h;unfold PR;by_cases h1:n<0
 ·rw [Cp (.inl h1),qJ FV];go_wp2;go_ret;exact⟨rfl,A,_,H,XP.refl _ _ _⟩
 by_cases h2:64<n
 ·rw [Cp (.inr (.inl h2)),qJ FV];go_wp2;go_ret;exact⟨rfl,A,_,H,XP.refl _ _ _⟩
 obtain⟨m,rfl⟩: ∃m:O,n=(m:V):=⟨n.toNat,M⟩;have l:(m:V).toNat=m:=rfl;have u:=Pd x m;by_cases h3:(m:V)<64/\x/2^m≠0
 ·rw [Cp (.inr (.inr (by rw [l];exact h3))),qJ FV];obtain⟨h3,h4⟩:=h3;generalize x/2^m=y at*;have h7:((y:V) !=0)=true:=SZ;clear h4;go_wp2;go_ret;exact⟨rfl,A,_,H,XP.refl _ _ _⟩
 ·rw [Fm (by rw [l];omega),qk rfl,l];have X:m<=64:=M;have d:(decide ((m:V)<64)=false)\/(decide ((m:V)<64)=true/\((x:V)/2^m !=0)=false):=by
   by_cases h4:(m:V)<64
   ·refine .inr ⟨qw h4, ?_⟩;have h0:x/2^m=0:=by
     rcases zA (x/2^m) with h5|h5
     ·exact h5
     ·exact absurd ⟨h4,M⟩ h3
    rw [u,h0];rfl
   ·exact .inl (qc h4)
  clear h3 u l;rcases d with d|⟨d,e⟩<;>
  ·go_wp2;go_loopw [7] (λq wr=> ∃(k:O) (i:V) (a:Bw) (c:q') (f:O),q=(i:la)/\G (i+1=(k:V))/\k<=m/\G (Jh a x k=Jh s x m)/\G (a.n+k<=900000064)/\G (Wr wr g t rest c f a)/\G (XP W wr g A c)) (λq _=>((intOf q)+1).toNat)
   ·exact⟨m,(m:V)-1,s,A,cap,xh,by rw [Hid];omega,qx _,rfl,by rw [Hid];omega,H,XP.refl _ _ _⟩
   ·obtain⟨k,i,a,c,f,rfl,ln,R,r,HS,E,w⟩:=hrel;have D:=ln.out;cases k with
    |zero=>
     have hi:i= -1:=M;subst hi;clear D d;go_wp2;go_ret;refine⟨rfl,c,f, ?_,w⟩;have:=r.out;rw [<-this];exact E.out
    |succ j=>
     obtain rfl:i=(j:V):=M;have P:j<64:=M;have u:=Pd x j;have B:x/2^j<18446744073709551616:=vQ (xr _ _) F;have iv:=cP _ B;have v:x/2^j%2<2:=xC _ M;have ih:G (Jh (De a (x/2^j%2)) x j=Jh s x m):=r.out;have uK:=xi j;have N:DW (j:V)=(j:V):=SX;have z:=T (λb L=>uD _ g t _ c f a b E.drew L (by have:=HS.out;omega));generalize x/2^j=y at*;have C:=T (z _ v);generalize y%2=b at*;clear D B v r;go_wp2_with fail;go_still_tail 7,AL;go_wp2_with fail;refine zC C ?_;rintro w' ⟨K,hh,o,p⟩;replace o:=T o;replace p:=T p;go_wp2;go_roundw
     case rel=>exact⟨j,(j:V)-1,De a b,K,hh,xh,by rw [Hid];omega,M,ih,by have:=HS.out;rw [Hid,cZ];omega,o,w.drew.trans p⟩
     case measure=>simp [intOf]
theorem tD (W:I) (g:O) (t:TypeId) (rest:S la) (A:q') (cap:O) (s:Bw) (n:V) (h:Wr W g t rest A cap s) (E:s.n<=900000000):
  xG 133 #[mJ g,n] W (XX W g t rest A (e' (sg n)) (oW s n)):=by
 have H:=T h;clear h;unfold oW;by_cases h1:n<0
 ·rw [show sg n=13 from qk (.inl h1),qJ FV];go_wp2;go_ret;exact⟨rfl,A,_,H,XP.refl _ _ _⟩
 by_cases h2:100000<n
 ·rw [show sg n=13 from qk (.inr h2),qJ FV];go_wp2;go_ret;exact⟨rfl,A,_,H,XP.refl _ _ _⟩
 rw [show sg n=0 from qJ M,qk rfl];obtain⟨m,rfl⟩: ∃m:O,n=(m:V):=⟨n.toNat,M⟩;rw [show(m:V).toNat=m from rfl];have B:m<=100000:=M;go_wp2;go_loopw [16] (λr wr=> ∃(k j:O) (a:Bw) (d:q') (i:O),r=(j:la)/\G (j+k=m)/\j<=m/\G (U_ a k=U_ s m)/\G (a.n+k<=900100000)/\G (Wr wr g t rest d i a)/\G (XP W wr g A d)) (λr _=>m-(intOf r).toNat)
 ·exact⟨m,0,s,A,cap,rfl,by rw [Hid];omega,qp _,rfl,by rw [Hid];omega,H,XP.refl _ _ _⟩
 ·obtain⟨k,j,a,d,i,rfl,o,C,l,HS,w,v⟩:=hrel;by_cases y:j<m
  focus
   have D:=j' j m;obtain⟨k,rfl⟩: ∃x,k=x+1:=⟨k-1,by have:=o.out;omega⟩;have p:G (U_ (De a 0) k=U_ s m):=l.out;have f:=T (uD _ g t _ d i a 0 w M (by have:=HS.out;omega))
  rotate_left
  focus
   have z:=vc j m;obtain rfl:k=0:=by have:=o.out;omega
   have p:G (De a 1=U_ s m):=l.out;have f:=T (uD _ g t _ d i a 1 w M (by have:=HS.out;omega))
  rotate_left
  all_goals
   clear l;go_wp2_with fail;refine zC f ?_;rintro w' ⟨u,q,b,c⟩;replace b:=T b;replace c:=T c;go_wp2_with fail
  ·refine xk ?_;exact⟨k,j+1,De a 0,u,q,s8,by have:=o.out;rw [Hid];omega,M,p,by have:=HS.out;rw [Hid,cZ];omega,b,v.trans c⟩
  ·go_ret;exact⟨rfl,u,q,by rw [<-p.out];exact b,v.trans c⟩
theorem FM (W:I) (g:O) (t:TypeId) (rest:S la) (A:q') (cap:O) (s:Bw) (h:Wr W g t rest A cap s) (f:U s.b<=1000000000):
  xG 123 #[mJ g] W (jQ 5 W (U s.b) (s.b.map B8)):=by
 have c:=T (yV A _ cap W _ W h.reads (qx _) M);have c0:=h.VH;unfold jQ at c⊢;clear h;go_in;go_wp2_with fail;refine c.mono ?_;rintro e i ⟨d,c1,rfl,a⟩;replace a:=T a;go_wp2;go_ret;exact⟨d,_,rfl,a⟩
end
section
variable {A:q'}{B n:O}{b:S la}{w w':I}
theorem E'.mB {size:O} (h:E' w B size A n b) (i: ∀a,A=some a->w'.heap[a.block]? =w.heap[a.block]?):E' w' B size A n b:=
 ⟨h.1,λc=>by
  obtain⟨a,e,f,d⟩:=h.2 c;exact⟨a,e,f,λj u g=>(zw (by rw [xF];exact i a e)).trans (d j u g)⟩⟩
def Off (A:q') (l:S O):Prop:= ∀a,A=some a->a.block∉l
theorem qE.ma {l:S O} {size:O} {c:S la} (h:qE l w w') (b:E' w B size A n c) (j:B<=(w:O)) (d:Off A l):E' w' B size A n c:=by
 rcases zA n with h0|h0
 ·subst h0;exact⟨b.1,λh=>absurd h M⟩
 ·obtain⟨f,e,g,_⟩:=b.2 h0;exact b.mB λi a=>by
   rw [e] at a;injection a with a;subst a;exact h.block _ M (d f e)
theorem XP.reads {W c:I} {g size:O} {f a:q'} (h:XP W c g A f) (d:E' W B size a n b) (i:B<=(W:O)) (e:Off a (g::K' A)):E' c B size a n b:=h.jZ.ma d i e
theorem CP {s:Bw} {x k:O} (b:k<=64) (a:x<2^k):PR s x (k:V)=Jh s x k/\Sc x (k:V)=0:=by
 have h:=Fm (by
  rw [show(k:V).toNat=k from rfl,xW a];omega)
 unfold PR;rw [h,qk rfl];exact⟨rfl,rfl⟩
theorem mA (m:O) (l:qn):XT m l<=m:=by
 induction m generalizing l with
 |zero=>cases l<;>simp [XT]
 |succ m a=>cases l with
  |nil=>simp [XT]
  |cons x t=>unfold XT;split<;>first|(have:=a t;omega)|omega
theorem yL {a:Type} {l:S a} {i:O} {x:a} (h:l[i]? =some x):l.drop i=x::l.drop (i+1):=by
 have hi:i<U l:=by
  rcases jE i (U l) with h2|h2
  ·exact h2
  ·rw [qO h2] at h;cases h
 rw [qX hi] at h;injection h with h;rw [zK hi,h]
theorem CU (W:I) (g:O) (t:TypeId) (rest:S la) (A:Option Addr) (cap:O) (s:Bw) (Q:Option Addr) (n c B:O) (bs:S AB) (hw:Wr W g t rest A cap s) (K:E' W B 1 Q n (bs.map B8)) (hB:B<=(W:O)) (ho:Off Q (g::K' A)) (hl:s.n<=500000000):
  xG 172 #[mJ g,Z Q n c] W (XX W g t rest A (e' (gk bs)) (C4 s bs)):=by
 have D:=T (kY Q n c B bs W K hB);have H:=T K;have u':=T hw;have BB:=T hB;have HO:=T ho;have hh:=T K.len;have HL:=T hl;clear K hw hB ho hl;unfold C4;rcases uf bs with l|l
 ·have hn:n<=300:=by have:=(ZT l).1;rw [hh.out] at this;exact this
  have HE:=T l;rw [l] at D⊢;rw [qk rfl];clear l;go_enter func172,ntmps172
  go_wp2_with fail;refine D.mono ?_;rintro e w1 ⟨rfl,j⟩;have I':=T (u'.fresh j);have N6:G (XP W w1 g A A):=⟨qE.jq j,λk h=> .inl h⟩;clear D j u'
  go_wp2_with fail;go_loopw [6] (λX wr=> ∃(i f:O) (a:Bw) (q:Option Addr) (ln:O),X=(i:la)/\i<=n/\G (n-i<=f)/\G (QR f a (bs.drop i)=QR bs s bs)/\G (a.n<=500000000+10*i)/\G (Wr wr g t rest q ln a)/\G (XP W wr g A q)) (λX _=>n-(intOf X).toNat)
  case atStart=>exact⟨0,n,s,A,cap,rfl,qp _,by rw [Hid];omega,by rw [Hid,Zy,hh.out],by rw [Hid];exact HL,I',N6⟩
  case round=>
   clear I' N6;obtain⟨i,f,a,q,ln,rfl,hi,qj,m,HS,HW,uK⟩:=hrel;by_cases hlt:i<n
   ·have hlt':(i:V)<(n:V):=M
    obtain⟨f,rfl⟩: ∃f',f=f'+1:=⟨f-1,by have:=qj.out;omega⟩
    have HR:=uK.reads H BB HO.out;obtain⟨ad,z,F,-,d,U'⟩:=HR.byte hlt;subst F;rw [yL d] at m;have G':=z.toNat_lt;by_cases L:0<z.toNat
    ·have J':(0:V)<(z.toNat:V):=M
     have o:G (QR f (Jh a z.toNat 4) (bs.drop (i+1))=QR bs s bs):=by
      have:=m.out;rwa [QR.eq_3,qk L] at this
     have Y':z.toNat<=15:=(ZT HE).2.2 z (zQ d);have d':=CP (s:=a) (x:=z.toNat) (k:=4) M M;have cL:=T (V_ wr g t rest q ln a z.toNat (4:O) HW M (by have:=HS.out;omega))
     rw [d'.1,d'.2] at cL;unfold XX at cL;have iL:G ((Jh a z.toNat 4).n<=500000000+10*(i+1)):=by rw [Hid,YH];have:=HS.out;omega
     have Q':IntKind.u64.wrap (z.toNat:V)=(z.toNat:V):=by rw [qS];omega
     generalize Jh a z.toNat 4=cB at*
     generalize z.toNat=zz at*
     clear d' m d L G' Y'
     go_wp2_with fail;refine cL.mono ?_;rintro e w ⟨rfl,r,u,E,C⟩;have N9:=T E;have N:=T (uK.trans C);clear cL E C
     go_wp2_with fail;go_roundw
     case rel=>exact⟨i+1,f,cB,r,u,by first|rfl|simp,M,by have:=qj.out;rw [Hid];omega,o,iL,N9,N⟩
     case measure=>simp [intOf];omega
    ·have J': ¬(0:V)<(z.toNat:V):=M
     have cY:z.toNat=0:=M;rw [cY] at U';have iv:z=0:=jG.1 cY;have o:G (QR f (Jh (Jh a 0 4) (XT 63 (bs.drop (i+1))) 6) (bs.drop (i+1+XT 63 (bs.drop (i+1))))=QR bs s bs):=by
      have:=m.out;rw [QR.eq_3,qJ L,vh] at this;exact this
     clear m L G' J' cY d iv;obtain⟨b,ih⟩: ∃b,b=XT 63 (bs.drop (i+1)):=⟨_,rfl⟩;rw [<-ih] at o;have OX:=T ih;have hzn63:b<=63:=by rw [ih];exact mA _ _
     clear ih;obtain⟨v,P'⟩: ∃v,v=wr:=⟨_,rfl⟩;subst P'
     go_wp2_with fail;go_loopw [7] (λcK wr=> ∃(k:O),cK=(k:la)/\1<=k/\k<=64/\i+k<=n/\G (b+1=k+XT (64-k) (bs.drop (i+k)))/\v=wr) (λcK _=>64-(intOf cK).toNat)
     case atStart=>exact⟨1,rfl,M,M,M,by show b+1=1+XT 63 (bs.drop (i+1));rw [OX.out];omega,rfl⟩
     case round=>
      obtain⟨k,rfl,hk1,hk,N',y,rfl⟩:=hrel;have hsum:wrap64 ((i:V)+(k:V))=(i:V)+(k:V):=yT _ ⟨M,M⟩;by_cases p:k<64/\i+k<n/\(bs.drop (i+k)).headD 1=0
      ·obtain⟨h1,h2,h3⟩:=p
       have h1':(k:V)<64:=M;have h2':(i:V)+(k:V)<(n:V):=M;obtain⟨Z',z,F,-,d,P⟩:=HR.byte h2;obtain rfl:=zy F;rw [yL d] at h3 y;have iv:z=0:=by simpa using h3
       subst iv;have hcell3:i' v (ad.add (i+k))=J (gR 0):=P;have HZ2:G (b+1=k+1+XT (64-(k+1)) (bs.drop (i+(k+1)))):=by
        have:=y.out;rw [show 64-k=(64-(k+1))+1 by omega] at this
        unfold XT at this;rw [qk rfl] at this;rw [Hid,<-vo i k 1];omega
       clear y d P h3
       go_wp2_with fail;go_roundw
       case rel=>exact⟨k+1,s8,M,M,M,HZ2,trivial⟩
       case measure=>simp [intOf];omega
      ·have X':(¬(k:V)<64)\/((k:V)<64/\ ¬((i:V)+(k:V)<(n:V)))\/((k:V)<64/\(i:V)+(k:V)<(n:V)/\ ∃z:O,i' v (ad.add (i+k))=J (gR z)/\((z:V)==0)=false):=by
        by_cases h1:k<64
        ·by_cases h2:i+k<n
         ·obtain⟨Z',z,F,-,d,P⟩:=HR.byte h2
          obtain rfl:=zy F;rw [yL d] at p;refine .inr (.inr ⟨M,M,z.toNat,P, ?_⟩);have h3:z≠0:=λe=>p ⟨h1,h2,by simpa using e⟩
          have h4:z.toNat≠0:=λe=>h3 (jG.1 e);simp;omega
         ·exact .inr (.inl ⟨M,M⟩)
        ·exact .inl M
       have m':k=b+1:=by
        have h0:XT (64-k) (bs.drop (i+k))=0:=by
         by_cases h1:k<64
         ·rw [show 64-k=(64-(k+1))+1 by omega]
          cases hd:bs.drop (i+k) with
          |nil=>rfl
          |cons x t=>
           rw [hd] at p;have h2:i+k<n:=by
            rcases jE (i+k) n with h|h
            ·exact h
            ·rw [zD (by rw [hh.out];exact h)] at hd;cases hd
           unfold XT;rw [qJ (λe=>p ⟨h1,h2,by simpa using e⟩)]
         ·rw [show 64-k=0 by omega];cases bs.drop (i+k)<;>rfl
        have:=y.out;omega
       have hk64:(k:V)-1=(b:V):=M;have Q':IntKind.u64.wrap (b:V)=(b:V):=by rw [qS];omega
       have R:=CP (s:=a) (x:=0) (k:=4) M M;have p':=T (V_ v g t rest q ln a 0 (4:O) HW M (by have:=HS.out;omega))
       have z':=CP (s:=Jh a 0 4) (x:=b) (k:=6) M M;have ck:=T (λw r u (h2:Wr w g t rest r u (Jh a 0 4))=>V_ w g t rest r u (Jh a 0 4) b (6:O) h2 M (by rw [YH];have:=HS.out;omega))
       rw [R.1,R.2] at p';rw [z'.1,z'.2] at ck;unfold XX at p' ck;have iL:G ((Jh (Jh a 0 4) b 6).n<=500000000+10*(i+k)):=by rw [Hid,YH,YH];have:=HS.out;omega
       have O':G (QR f (Jh (Jh a 0 4) b 6) (bs.drop (i+k))=QR bs s bs):=by
        have:=o.out;rw [Hid,<-this,m',vo i 1,Nat.add_comm 1]
       generalize Jh a 0 4=cB at*
       generalize Jh cB b 6=s3 at*
       have hkz2:=T m';have hw0:IntKind.u64.wrap (0:V)=0:=rfl;clear R z' m' p y o;rcases X' with h1|⟨h1,h2⟩|⟨h1,h2,z,h3,h4⟩<;>
       ·go_wp2_with fail
        refine p'.mono ?_;rintro e w ⟨rfl,r,u,E,C⟩;have KQ:=T (ck.out w r u E);have N:=T (uK.trans C);clear E C
        go_wp2_with fail;refine KQ.mono ?_;rintro e w3 ⟨rfl,A3,S',M',D'⟩;have HW3:=T M';have HK3:=T (N.trans D');clear M' D' KQ N
        go_wp2_with fail;go_roundw
        case rel=>exact⟨i+k,f,s3,A3,S',by first|rfl|simp,N',by have:=qj.out;rw [Hid];omega,O',iL,HW3,HK3⟩
        case measure=>simp [intOf];omega
   ·have hge: ¬(i:V)<(n:V):=M
    obtain rfl:i=n:=M;have o:G (a=QR bs s bs):=by
     have:=m.out;rw [zD (by rw [hh.out];exact qx _)] at this
     rw [Hid,<-this];cases f<;>rfl
    clear m
    go_wp2_with fail;go_ret;exact⟨rfl,q,ln,by rw [<-o.out];exact HW,uK.out⟩
 ·have HE:=T l
  rw [l] at D⊢;rw [qJ FV];go_enter func172,ntmps172
  go_wp2_with fail;refine D.mono ?_;rintro e w1 ⟨rfl,j⟩;replace j:=T j;clear l
  go_wp2_with fail;go_ret;exact⟨rfl,A,cap,u'.fresh j,⟨qE.jq j,λk h=> .inl h⟩⟩
def pcC (a b c d:O):Array Value:= #[a,b,c,d]
theorem WC (a b c d:O):(pcC a b c d).all (·.oneCell')=true:=by simp [pcC,Value.oneCell']
def pcT (p:O×O×O×O):Array Value:=pcC p.1 p.2.1 p.2.2.1 p.2.2.2
theorem fy:(prog.info? 254).map (·.size)=some 4:=AL
def Bp (t:O×O×O):Prop:=t.1<256/\YB (t.1:V) (t.2.1:V) (t.2.2:V)=true
theorem BP (t:O×O×O) (w:I) (ht:Bp t):
  xG 170 #[.agg #[gR (t.1:V),(t.2.1:V),(t.2.2:V)]] w λe w'=>e=t' (BA #[.agg (pcT (pd t)),()])/\r' w w w':=by
 obtain⟨lt,a,c⟩:=t;obtain⟨B,j⟩:=ht;dsimp only at B j⊢;have X:=λW=>T (F6 (lt:V) (a:V) (c:V) W);rw [j] at X;unfold pcT pd;dsimp only;by_cases h0:a=0
 focus
  subst h0;rw [qk rfl];rw [show((0:O):V)=0 from rfl] at X⊢;have R:DW (lt:V)=(lt:V):=SX;clear j
 rotate_left
 focus
  rw [qJ h0];have s:lt=0/\3<=a/\a<=257/\1<=c/\c<=4095:=by
   unfold YB at j;rw [qJ M] at j;have:=xD j;omega
  obtain⟨rfl,h3,Q,h1,C⟩:=s;have v:=λW=>T (Bk (a-2) W M M);have z:=λW=>T (Bk c W M M);have N:=PB (x:=a-2) M M;have H:=PB (x:=c) M M;have L:(a:V)-2=((a-2:O):V):=M;have F:a-2<256:=M;generalize Nat.log2 (a-2)=f,Nat.log2 c=k at*;generalize r:a-2-2^f=m,u:c-2^k=n at*;generalize a-2=l2 at*;have E:wrap64 (257+(f:V))=257+(f:V):=by rw [wrap64];omega
  have y:G (pcC (257+f) m k n= #[e' (257+(f:V)),e' (m:V),e' (k:V),e' (n:V)]):=by rw [Hid];unfold pcC;rw [xe];rfl
  have K:((a:V)==0)=false:=SZ;rw [show((0:O):V)=0 from rfl] at X⊢;clear j r u h0
 rotate_left
 all_goals
  go_in;go_wp2_with fail;refine zC (X _).out ?_;intro g d
 ·have b:F' g ((w:O)+1) 254 (pcC 0 0 0 0):=by
   refine F'.below ?_ d s8;have h:=F'.new (w (Y #[gR (lt:V),(),c] 193)) 254 (pcC 0 0 0 0);simpa [pcC] using h
  have ht:F' g w 193 #[gR (lt:V),(),c]:=by
   refine F'.below ?_ d SZ;exact(F'.new w _ _).alloc _
  have i:=T (((qZ w w).alloc (qx _) (Y #[gR (lt:V),(),c] 193)).alloc s8 (Y #[(),(),(),()] 254)|>.trans (d.mono SZ));have P:i' g (w:O)=J (gR (lt:V)):=ht.cell 0;have p:i' g ⟨w,1,none⟩=J (e' 0):=ht.cell 1;replace b:=T b;clear d ht;go_wp2_with (first|(refine qC rfl 254 _ _ rfl ((w:O)+1) (pcC lt 0 0 0) rfl rfl 254 (pcC 0 0 0 0) b.out fy rfl (WC _ _ _ _) ?_));exact qW (zN rfl _ _ _ _ _ rfl rfl (qN _ _ _ _ _ _ _ (b.row _) underlying254 rfl fy)) rfl ⟨rfl,zu i (jv _) _⟩
 ·have b:F' g ((w:O)+1) 254 (pcC 0 0 0 0):=by
   refine F'.below ?_ d s8;have h:=F'.new (w (Y #[gR 0,a,c] 193)) 254 (pcC 0 0 0 0);simpa [pcC] using h
  have ht:F' g w 193 #[gR 0,a,c]:=by
   refine F'.below ?_ d SZ;exact(F'.new w _ _).alloc _
  have i:=T (((qZ w w).alloc (qx _) (Y #[gR 0,a,c] 193)).alloc s8 (Y #[(),(),(),()] 254)|>.trans (d.mono SZ));have p:i' g ⟨w,1,none⟩=J (a:la):=ht.cell 1;replace b:=T b;replace ht:=T ht;clear d;go_wp2_with fail;refine zC (v _).out ?_;intro A l;have q:i' A ⟨w,2,none⟩=J (c:la):=(ht.below (l.below _) ht.lt).cell 2;replace b:=T (b.below (l.below _) b.lt);replace i:=T (i.trans (l.below _));clear l p;go_wp2_with fail;refine zC (z _).out ?_;intro D o;replace b:=T (b.below (o.below _) b.lt);replace i:=T (i.trans (o.below _));clear o q;go_wp2_with (first|(rw [<-y.out];refine qC rfl 254 _ _ rfl ((w:O)+1) (pcC (257+f) m k n) rfl rfl 254 (pcC 0 0 0 0) b.out fy rfl (WC _ _ _ _) ?_));exact qW (zN rfl _ _ _ _ _ rfl rfl (qN _ _ _ _ _ _ _ (b.row _) underlying254 rfl fy)) rfl ⟨rfl,zu i (jv _) _⟩
end
section
variable {a b c d:O}{ch k m n:V}
def G2 (k m ch n:V):Bool:=gO k m&&(decide (1<=ch)&&(decide (ch<=4096)&&(decide (0<=n)&&decide (n<=8388608))))
def Fa (d n:O):Nat:=(n+d-1)/d
def G3 (k m ch n:O):Nat:=Fa (k*ch) n*((k+m)*(ch+4))
def ZM (k m ch n:V):Int:=if G2 k m ch n=true then(if G3 k.toNat m.toNat ch.toNat n.toNat<=16777216 then 0 else 6) else 13
def Vx (k m ch n:V):Nat:=if ZM k m ch n=0 then G3 k.toNat m.toNat ch.toNat n.toNat else 0
theorem Ro (h:G2 k m ch n=true): ∃a b c d:O,k=(a:V)/\m=(b:V)/\ch=(c:V)/\n=(d:V)/\1<=a/\a+b<=255/\1<=c/\c<=4096/\d<=8388608:=by
 unfold G2 gO at h;simp only [zR,zd] at h;exact⟨k.toNat,m.toNat,ch.toNat,n.toNat,M,M,M,M,M,M,M,M,M⟩
theorem iQ (h1:1<=a) (h2:a+b<=255) (h3:1<=c) (h4:c<=4096) (h5:d<=8388608):G2 a b c d=true:=by
 unfold G2 gO;simp only [zR,zd];omega
theorem UY (h:G2 k m ch n=false):ZM k m ch n=13/\Vx k m ch n=0:=by
 have e:ZM k m ch n=13:=by unfold ZM;rw [qJ (by rw [h];decide)]
 exact⟨e,by unfold Vx;rw [e];rfl⟩
theorem UK (h:G2 a b c d=true) (f:G3 a b c d<=16777216):ZM a b c d=0/\Vx a b c d=G3 a b c d:=by
 have e:ZM a b c d=0:=by unfold ZM;rw [qk h];simp only [zc];rw [qk f]
 exact⟨e,by unfold Vx;rw [qk e];simp only [zc]⟩
theorem bh (h:G2 a b c d=true) (f:16777216<G3 a b c d):ZM a b c d=6/\Vx a b c d=0:=by
 have e:ZM a b c d=6:=by unfold ZM;rw [qk h];simp only [zc];rw [qJ M]
 exact⟨e,by unfold Vx;rw [e];rfl⟩
theorem mj {n:O} (a:1<=d):Fa d n<=n:=by
 unfold Fa;rcases zA n with h|h
 ·subst h;rw [jL,xW M];omega
 ·apply Nat.div_le_of_le_mul;have:n+d<=d*n+1:=by
   obtain⟨e,rfl⟩: ∃e,d=e+1:=⟨d-1,M⟩;obtain⟨f,rfl⟩: ∃f,n=f+1:=⟨n-1,M⟩;rw [Nat.add_mul,Nat.mul_add];omega
  omega
theorem OP {n:O} (a:1<=d):Fa d n=if n/d*d<n then n/d+1 else n/d:=by
 unfold Fa;have h1:=Qe n d;have h2:=xC n (show 0<d by omega);have h3:n/d*d=d*(n/d):=xH _ _;rw [h3];by_cases h:n%d=0
 ·rw [qJ M];have:n+d-1=d*(n/d)+(d-1):=M;rw [this,Nat.mul_add_div M,xW (show d-1<d by omega),v_]
 ·rw [qk M];have:n+d-1=d*(n/d+1)+(n%d-1):=by rw [Nat.mul_add];omega
  rw [this,Nat.mul_add_div M,xW (show n%d-1<d by omega),v_]
theorem D9 {A B:O} (c:a<=A) (d:b<=B):a*b<=A*B:=xA c d
theorem cN (h2:a+b<=255) (h4:c<=4096):(a+b)*(c+4)<=1045500:=by
 have:=D9 h2 (show c+4<=4100 by omega);omega
theorem cm (h2:a<=255) (h4:c<=4096):a*c<=1044480:=by
 have:=D9 h2 h4;omega
theorem V2 (h1:1<=a) (h3:1<=c):1<=a*c:=by
 have:=D9 h1 h3;omega
theorem oj {s l:O} (a:s<=8388608) (b:l<=1045500):s*l<=8770289664000:=by
 have:=D9 a b;omega
theorem Gc (k m ch n:V):(k<1/\G2 k m ch n=false)\/(1<=k/\m<0/\G2 k m ch n=false)\/(1<=k/\0<=m/\255<k/\G2 k m ch n=false)\/(1<=k/\0<=m/\k<=255/\255-k<m/\G2 k m ch n=false)\/
  (1<=k/\0<=m/\k<=255/\m<=255-k/\ch<1/\G2 k m ch n=false)\/(1<=k/\0<=m/\k<=255/\m<=255-k/\1<=ch/\4096<ch/\G2 k m ch n=false)\/(1<=k/\0<=m/\k<=255/\m<=255-k/\1<=ch/\ch<=4096/\n<0/\G2 k m ch n=false)\/
  (1<=k/\0<=m/\k<=255/\m<=255-k/\1<=ch/\ch<=4096/\0<=n/\8388608<n/\G2 k m ch n=false)\/(1<=k/\0<=m/\k<=255/\m<=255-k/\1<=ch/\ch<=4096/\0<=n/\n<=8388608/\G2 k m ch n=true):=by
 have a:G2 k m ch n=decide ((1<=k/\0<=m/\k+m<=255)/\1<=ch/\ch<=4096/\0<=n/\n<=8388608):=by
  rw [yx];unfold G2 gO;simp only [zR,zd]
 have F: ¬((1<=k/\0<=m/\k+m<=255)/\1<=ch/\ch<=4096/\0<=n/\n<=8388608)->G2 k m ch n=false:=λh=>by rw [a];exact qc h
 have b:((1<=k/\0<=m/\k+m<=255)/\1<=ch/\ch<=4096/\0<=n/\n<=8388608)->G2 k m ch n=true:=λh=>by rw [a];exact qw h
 clear a;by_cases h1:k<1
 ·exact .inl ⟨h1,F (λh=>M)⟩
 by_cases h2:m<0
 ·exact .inr (.inl ⟨M,h2,F (λh=>M)⟩)
 by_cases h3:255<k
 ·exact .inr (.inr (.inl ⟨M,M,h3,F (λh=>M)⟩))
 by_cases h4:255-k<m
 ·exact .inr (.inr (.inr (.inl ⟨M,M,M,h4,F (λh=>M)⟩)))
 by_cases h5:ch<1
 ·exact .inr (.inr (.inr (.inr (.inl ⟨M,M,M,M,h5,F (λh=>M)⟩))))
 by_cases h6:4096<ch
 ·exact .inr (.inr (.inr (.inr (.inr (.inl ⟨M,M,M,M,M,h6,F (λh=>M)⟩)))))
 by_cases h7:n<0
 ·exact .inr (.inr (.inr (.inr (.inr (.inr (.inl ⟨M,M,M,M,M,M,h7,F (λh=>M)⟩))))))
 by_cases h8:8388608<n
 ·exact .inr (.inr (.inr (.inr (.inr (.inr (.inr (.inl ⟨M,M,M,M,M,M,M,h8,F (λh=>M)⟩)))))))
 exact .inr (.inr (.inr (.inr (.inr (.inr (.inr (.inr ⟨M,M,M,M,M,M,M,M,b ⟨⟨M,M,M⟩,M,M,M,M⟩⟩)))))))
theorem Vn (w:I) (a c b:la):r' w w (w (Y #[a,c,b] 108)):=j1 _
theorem cO (k m ch n:V) (w:I):xG 96 #[.agg #[k,m,ch],n] w λe w'=>e=t' (.bool (G2 k m ch n))/\r' w w w':=by
 have a:=T (Vn w k m ch);rcases Gc k m ch n with⟨h1,e⟩|⟨h1,h2,e⟩|⟨h1,h2,h3,e⟩|⟨h1,h2,h3,h4,e⟩|⟨h1,h2,h3,h4,h5,e⟩|⟨h1,h2,h3,h4,h5,h6,e⟩|⟨h1,h2,h3,h4,h5,h6,h7,e⟩|⟨h1,h2,h3,h4,h5,h6,h7,h8,e⟩|⟨h1,h2,h3,h4,h5,h6,h7,h8,e⟩
 ·rw [e];clear e;go_wp2;go_ret;exact⟨by first|rfl|(simp;omega),a.out⟩
 ·rw [e];clear e;go_wp2;go_ret;exact⟨by first|rfl|(simp;omega),a.out⟩
 ·rw [e];clear e;go_wp2;go_ret;exact⟨by first|rfl|(simp;omega),a.out⟩
 all_goals
  rw [e];clear e;have b:DW (255-k)=255-k:=by
   obtain⟨s,b⟩: ∃s:O,255-k=(s:V):=⟨(255-k).toNat,M⟩;rw [b,qU];omega
  go_wp2;go_ret;exact⟨by first|rfl|(simp;omega),a.out⟩
theorem eZ (a b c:O) (w:I) (h1:a<=255) (h2:c<=4096):xG 66 #[.agg #[a,b,c]] w λe w'=>e=t' ((a*c:O):V)/\r' w w w':=by
 have f:=T (Vn w a b c);have h:=cm h1 h2;have g:=(zB a c).symm;generalize a*c=d at*;go_wp2;go_ret;exact⟨rfl,f⟩
theorem eJ (a b c:O) (w:I) (h1:a+b<=255) (h2:c<=4096):xG 97 #[.agg #[a,b,c]] w λe w'=>e=t' (((a+b)*(c+4):O):V)/\r' w w w':=by
 have f:=T (Vn w a b c);have l:=cN h1 h2;have j:(a:V)+(b:V)=((a+b:O):V):=M;have g:(c:V)+4=((c+4:O):V):=M;have k:((a+b:O):V)*((c+4:O):V)=(((a+b)*(c+4):O):V):=(zB _ _).symm;have n:a+b<=255:=h1;have h:c+4<=4100:=M;generalize (a+b)*(c+4)=d at*
 generalize a+b=m at*
 generalize c+4=i at*
 go_enter func97,ntmps97
 go_wp2_with fail;go_ret;exact⟨rfl,f.out⟩
theorem di (a b c n:O) (w:I) (h1:a<=255) (h2:c<=4096) (x:1<=a) (A:1<=c) (N:n<=8388608):xG 65 #[.agg #[a,b,c],n] w λe w'=>e=t' (e' (Fa (a*c) n:O))/\r' w w w':=by
 have u:=T (Vn w a b c);have f:=F'.new w 108 #[a,b,c];have o:=T (λW=>eZ a b c W h1 h2);have s:=cm h1 h2;have C:=V2 x A;generalize a*c=d at*;unfold Fa;have Q:DW ((n:V)+(d:V))=((n+d:O):V):=by rw [<-xe,qU];omega
 have B:DW (((n+d:O):V)-1)=((n+d-1:O):V):=by
  rw [show((n+d:O):V)-1=((n+d-1:O):V) by omega,qU];omega
 have P:(n+d-1)/d<=n+d:=qv (xr _ _) M;have t:((n+d-1:O):V)/(d:V)=(((n+d-1)/d:O):V):=(JK _ _).symm;have L:((n+d-1:O):V).tdiv (d:V)=(((n+d-1)/d:O):V):=by rw [Int.tdiv_eq_ediv_of_nonneg M];exact t
 generalize (n+d-1)/d=q at*;have E:DW (q:V)=(q:V):=SX;generalize n+d-1=y,n+d=z at*;have H: ¬d=0:=M;go_in;go_wp2_with fail;generalize w (Y #[a,b,c] 108)=i at*;have h:G (∀W,r' i i W->i' W (w:O)=J (a:la)/\i' W ⟨w,1,none⟩=J (b:la)/\i' W ⟨w,2,none⟩=J (c:la)):=λW k=>⟨(f.below k f.lt).cell 0,(f.below k f.lt).cell 1,(f.below k f.lt).cell 2⟩;refine zv 9 (λW=>i' W (w:O)=J (a:la)/\i' W ⟨w,1,none⟩=J (b:la)/\i' W ⟨w,2,none⟩=J (c:la)) AL (h _ (qZ _ _).drew) (λj=> ?_);refine zq [0,1,5] (a':= ?_) ?_;refine IA 2 rfl AL SQ (λK g=> ?_);go_simp
 (go_at_call 66;((with_reducible refine(o.out _).mono ?_);rintro e F ⟨rfl,l⟩);have m:=T (zX (qZ _ i).drew l);clear l)
 refine g _ _ ((h _ m)) (λj=>xb ?_);clear g K;refine zq [3,4] (a':= ?_) ?_;refine IA 6 rfl AL SQ (λK g=> ?_);go_simp
 (go_at_call 66;((with_reducible refine(o.out _).mono ?_);rintro e D ⟨rfl,p⟩);have r:=T (zX m.out p);clear p)
 refine g _ _ ((h _ r)) (λj=>xb ?_);clear g K;refine zq [7,8] (a':= ?_) ?_;refine zV AL ?_ _;have v:=T (zX u r);clear j h f;go_wp2;go_ret;exact⟨rfl,v⟩
def Ri (w:I) (v:O) (a:V) (e:Ending) (w':I):Prop:=e=t' (BA #[v,a])/\r' w w w'
theorem Uk (k m ch n:V) (w:I):xG 64 #[k,m,ch,n] w (Ri w (Vx k m ch n) (ZM k m ch n)):=by
 have E:=T (Vn w k m ch);have f:=F'.new w 108 #[k,m,ch];have p:=T (λW=>cO k m ch n W);cases g:G2 k m ch n with
 |false=>
  rw [(UY g).1,(UY g).2];rw [g] at p;have u:=And.intro (f.cell 0) (And.intro (f.cell 1) (f.cell 2));clear f g;go_in;go_wp2_with fail;generalize w (Y #[k,m,ch] 108)=P at*;refine zC (p _) ?_;intro B i;have hh:=T (zX E i);clear u i;go_wp2;go_ret2;exact⟨rfl,hh⟩
 |true=>
  rw [g] at p;obtain⟨a,b,c,d,rfl,rfl,rfl,rfl,h1,h2,h3,h4,h5⟩:=Ro g;have iv:=T (λW=>di a b c d W M h4 h1 h3 h5);have L:=T (λW=>eJ a b c W h2 h4);have ih:=qv (mj (V2 h1 h3)) h5;have R:=cN h2 h4;have y:=oj ih R;have Q:(G3 a b c d<=16777216/\ZM a b c d=0/\Vx a b c d=G3 a b c d)\/(16777216<G3 a b c d/\ZM a b c d=6/\Vx a b c d=0):=by
   by_cases h:G3 a b c d<=16777216
   ·exact .inl ⟨h,UK g h⟩
   ·exact .inr ⟨M,bh g M⟩
  have uK:((Fa (a*c) d:O):V)*(((a+b)*(c+4):O):V)=((G3 a b c d:O):V):=(zB _ _).symm;have X:G3 a b c d<=8770289664000:=y;have ln:DW ((G3 a b c d:O):V)=((G3 a b c d:O):V):=SX;clear y;generalize Fa (a*c) d=s,(a+b)*(c+4)=l,G3 a b c d=z at*;have N:DW ((s:V)*(l:V))=(z:V):=by rw [uK];exact ln
  clear g;have j:G (∀W,r' (w (Y #[a,b,c] 108):O) (w (Y #[a,b,c] 108)) W->i' W (w:O)=J (a:la)/\i' W ⟨w,1,none⟩=J (b:la)/\i' W ⟨w,2,none⟩=J (c:la)):=λW r=>⟨(f.below r f.lt).cell 0,(f.below r f.lt).cell 1,(f.below r f.lt).cell 2⟩;have u:=j _ (qZ _ _);clear f;rcases Q with⟨H,x,v⟩|⟨H,x,v⟩
  all_goals
   rw [x,v];clear x v;have t:(z:V)<=16777216\/(16777216:V)<(z:V):=M;go_in;go_wp2_with fail;generalize w (Y #[a,b,c] 108)=P at*;refine zC (p _) ?_;intro B i;replace i:=T i;go_wp2_with fail;refine zv 7 (λW=>i' W (w:O)=J (a:la)/\i' W ⟨w,1,none⟩=J (b:la)/\i' W ⟨w,2,none⟩=J (c:la)) AL (j _ i.drew) (λq=> ?_);refine zq [0,1,3] (a':= ?_) ?_;refine IA 2 rfl AL SQ (λK o=> ?_);go_simp
   (go_at_call 65;((with_reducible refine(iv.out _).mono ?_);rintro e cK ⟨rfl,C⟩);have F:=T (zX i.out.drew C);clear C)
   refine o _ _ ((j _ F)) (λq=>xb ?_);clear o K;refine IA 4 rfl AL SQ (λK o=> ?_);go_simp
   (go_at_call 97;((with_reducible refine(L.out _).mono ?_);rintro e cY ⟨rfl,A⟩);have D:=T (zX F.out A);clear A)
   refine o _ _ ((j _ D)) (λq=>xb ?_);clear o K;refine zq [5,6] (a':= ?_) ?_;refine zV AL ?_ _;have cL:=T (zX E D);clear q u j N ln;rcases t with t|t
   all_goals
    first
     |(exfalso;omega)
     |(go_wp2
       go_ret2;exact⟨rfl,cL⟩)
theorem dG {k:O} (h:k<12):1<=2^k/\2^k<=2048:=⟨Nat.one_le_two_pow,by have:=zZ (show 0<2 by omega) (show k<=11 by omega);simpa using this⟩
theorem Ea (x b:O) (w:I) (f:b<12) (h:x<2^b):
  xG 303 #[x,b] w λe w'=>e=t' true/\w=w':=by
 obtain⟨d,g⟩:=dG f;obtain⟨a,c⟩:=zn (2^b);have l:(2:V)^b=(a:V):=by rw [c,j6];rfl
 rw [<-c] at h d g;have m:DW (a:V)=(a:V):=SX;have k:wrap64 (a:V)=(a:V):=by rw [wrap64];omega
 have i:=xi x;have q:=j' x a;clear c;go_wp2;go_ret;exact⟨rfl,rfl⟩
def QJ (a:O) (b c:V):Array Value:= #[gR (a:V),b,c]
theorem X5 (a:O) (b c:V):(QJ a b c).all (·.oneCell')=true:=by simp [QJ,Value.oneCell']
theorem vq:(prog.info? 193).map (·.size)=some 3:=AL
theorem MV (sym len c far:O) (w:I) (h1:257<=sym) (h2:sym<265) (d:len<2^(sym-257)) (x:c<12) (l:far<2^c):
  xG 301 #[.agg #[sym,len,c,far]] w λe w'=>e=t' (BA #[.agg (QJ 0 ((2+2^(sym-257)+len:O):V) ((2^c+far:O):V)),()])/\r' w w w':=by
 have k:=λW=>T (Ea _ _ W M d);have r:=λW=>T (Ea _ c W x l);obtain⟨m,s⟩:=dG (show sym-257<12 by omega);obtain⟨q1,q2⟩:=dG x;obtain⟨b,y⟩:=zn (sym-257);rw [<-y] at k d m s⊢;have X:(sym:V)-257=(b:V):=M;obtain⟨P,g⟩:=zn (2^b);obtain⟨D,i⟩:=zn (2^c);have L:(2:V)^b=(P:V):=by rw [g,j6];rfl
 have uK:(2:V)^c=(D:V):=by rw [i,j6];rfl
 rw [<-g] at d m s⊢;rw [<-i] at l q1 q2⊢;have A:((2+P+len:O):V)=2+(P:V)+(len:V):=M;have z:((D+far:O):V)=(D:V)+(far:V):=M;rw [A,z];have E:DW (b:V)=(b:V):=SX;have f:DW (P:V)=(P:V):=SX;have j:DW (2+(P:V))=2+(P:V):=SX;have B:DW (2+(P:V)+(len:V))=2+(P:V)+(len:V):=SX;have F:DW (D:V)=(D:V):=SX;have Q:DW ((D:V)+(far:V))=(D:V)+(far:V):=SX;have K:=xi sym;have R: ¬(sym:V)<256:=M;have H:(257:V)<=(sym:V):=M;have N:(sym:V)<265:=M;have c0:=xi c;have c1:(c:V)<12:=M;clear y g i A z d l;go_in;go_wp2_with fail;have a:G (F' ((w (Y #[sym,len,c,far] 254)) (Y #[gR 0,(),()] 193)) w 254 #[sym,len,c,far]):=(F'.new w _ _).alloc _;have u:G (F' ((w (Y #[sym,len,c,far] 254)) (Y #[gR 0,(),()] 193)) ((w:O)+1) 193 (QJ 0 0 0)):=by
  have h:=F'.new (w (Y #[sym,len,c,far] 254)) 193 (QJ 0 0 0);rw [Hid];simpa [QJ] using h
 have p:G (r' w w ((w (Y #[sym,len,c,far] 254)) (Y #[gR 0,(),()] 193))):=((qZ _ w).alloc (qx _) _).alloc s8 _;generalize ((w (Y #[sym,len,c,far] 254)) (Y #[gR 0,(),()] 193))=j at*;refine Ω (k _).out ?_;have t:=a.cell 0;have v:=a.cell 1;have n:=a.cell 2;have o:=a.cell 3;simp only [qR,qt,yN] at t v n o;go_wp2_with fail;refine Ω (r _).out ?_;go_wp2_with fail;go_still_tail 13,AL;change wpList _ _ _ _ _ j.drew;have q:=T (u.drew);have C:=T p.drew;clear t v n o k r;generalize j.drew=B at*;go_wp2_with (first|(refine qC rfl 193 _ _ rfl ((w:O)+1) (QJ 0 (2+(P:V)+(len:V)) ((D:V)+(far:V))) rfl rfl 193 (QJ 0 0 0) q.out vq rfl (X5 _ _ _) ?_));exact qW (zN rfl _ _ _ _ _ rfl rfl (qN _ _ _ _ _ _ _ (q.row _) jc rfl vq)) rfl ⟨rfl,zu C (jv _) _⟩
def VF (r:JH):S Value:=[.int .u64 (r.time:V),gR (r.level:V),Lj r.src,Lj r.txt]
def ji (l:S JH):S Value:=(l.map VF).flatten
theorem mM (l:S JH):U (ji l)=U l*4:=by
 induction l with
 |nil=>rfl
 |cons a l b=>
  rw [show ji (a::l)=VF a++ji l by simp [ji]];rw [qK,b,qf];simp only [VF,qf,zF];omega
theorem kg: ∀(l:S JH) (j f:O) (h:j<U l),f<4->(ji l)[j*4+f]? =(VF l[j])[f]?
 |a::l,0,f,_,b=>by
  rw [show ji (a::l)=VF a++ji l by simp [ji],jd,jL,q_ (by simp only [VF,qf,zF];omega)]
  rfl
 |a::l,j+1,f,h,b=>by
  rw [show ji (a::l)=VF a++ji l by simp [ji],qm (by simp only [VF,qf,zF];omega)]
  rw [show(j+1)*4+f-U (VF a)=j*4+f by simp only [VF,qf,zF];omega]
  exact kg l j f _ b
theorem pR (a b:S JH):ji (a++b)=ji a++ji b:=by simp [ji]
theorem mO (t:JH):ji [t]=VF t:=by simp [ji]
theorem tS (t:JH): ∀u∈VF t,u.oneCell'=true:=by
 intro u a;simp only [VF,qL,xj,Ze] at a;rcases a with rfl|rfl|rfl|rfl<;>rfl
theorem ZH {w:I} {B n:O} {A:q'} {l:S JH} (h:E' w B 4 A n (ji l)) (j:O) (c:j<U l): ∃a,A=some a/\a.block<B/\i' w (a.add (j*4))=J (.int .u64 (l[j].time:V))/\
  w.cell? ⟨(a.add (j*4)).block,(a.add (j*4)).off+1,none⟩=J (gR (l[j].level:V))/\i' w ⟨(a.add (j*4)).block,(a.add (j*4)).off+2,none⟩=J (.string ⟨l[j].src.toArray⟩)/\i' w ⟨(a.add (j*4)).block,(a.add (j*4)).off+3,none⟩=J (.string ⟨l[j].txt.toArray⟩):=by
 have e:=h.1;rw [mM] at e;obtain⟨a,f,d,b⟩:=h.2 M;have h0:=kg l j 0 c M;have h1:=b _ _ ((kg l j 1 c M).trans rfl);have h2:=b _ _ ((kg l j 2 c M).trans rfl);have h3:=b _ _ ((kg l j 3 c M).trans rfl);rw [<-QZ,show(a.add (j*4)).add 1=⟨(a.add (j*4)).block,(a.add (j*4)).off+1,none⟩ from rfl] at h1;rw [<-QZ,show(a.add (j*4)).add 2=⟨(a.add (j*4)).block,(a.add (j*4)).off+2,none⟩ from rfl] at h2;rw [<-QZ,show(a.add (j*4)).add 3=⟨(a.add (j*4)).block,(a.add (j*4)).off+3,none⟩ from rfl] at h3;exact⟨a,f,d,b _ _ (by simpa [VF] using h0),h1,h2,h3⟩
theorem PH:(prog.info? 45).map (λi=>(i.zero,i.size,i.bytes))=J (some (.agg #[.int .u64 0,gR 0, .string "".toUTF8, .string "".toUTF8]),4,48):=AL
theorem OH (t c:V) (a S2:ByteArray) (w:I):
  xG 50 #[.agg #[.int .u64 t,gR c, .string a, .string S2]] w λe w'=>e=t' (.bool (decide (4000<a.size)||decide (4000<S2.size)))/\r' w w w':=by
 have b:G (r' w w (w (Y #[.int .u64 t,gR c, .string a, .string S2] 45))):=j1 _;by_cases h1:4000<a.size
 ·have f:(4000:V)<(a.size:V):=M;rw [qw h1,Bool.true_or];go_wp2;go_ret;exact⟨rfl,b⟩
 ·have f: ¬(4000:V)<(a.size:V):=M;rw [qc h1,Bool.false_or];by_cases h2:4000<S2.size
  ·have d:(4000:V)<(S2.size:V):=M;rw [qw h2];go_wp2;go_ret;exact⟨rfl,b⟩
  ·have d: ¬(4000:V)<(S2.size:V):=M;rw [qc h2];go_wp2;go_ret;exact⟨rfl,b⟩
theorem pt (l:S JH) (k:O) (h:k<U l):hX (l.take (k+1))=hX (l.take k)+(16+l[k].src.length+l[k].txt.length):=by
 unfold hX;have e:l.take (k+1)=l.take k++[l[k]]:=by rw [qs,qX h];rfl
 rw [e,qg,QE];simp only [jy,xB,List.sum_cons,List.sum_nil];omega
theorem df (l:S JH) (h:l.any X8=false): ∀k,hX (l.take k)<=8016*k
 |0=>by simp [hX]
 |k+1=>by
  have b:=df l h k;by_cases a:k<U l
  ·rw [pt l k a]
   have:=List.any_eq_false.1 h _ (zx a);unfold X8 at this;simp only [J3,zd,not_or] at this;omega
  ·have e:l.take (k+1)=l.take k:=by rw [qH M,qH M]
   rw [e];omega
theorem EY (A:q') (c B:O) (l:S JH) (w:I) (h:E' w B 4 A l (ji l)) (r:B<=(w:O)) (cL:U l<=20000) (q:l.any X8=false):
  xG 51 #[Z A l c] w λe w'=>e=t' (e' (hX l:O))/\r' w w w':=by
 have H:=T h;have x:=T r;have p:=T q;clear h r q;go_wp2;go_loopw [3,8] (λy m wr=> ∃k s:O,y=(s:la)/\m=(k:la)/\k<=U l/\G (s=hX (l.take k))/\s<=8016*k/\G (r' w w wr)) (λ_ m _=>U l-(intOf m).toNat)
 ·exact⟨0,0,rfl,rfl,qp _,by simp [Hid,hX],qx _,qZ _ _⟩
 ·obtain⟨k,s,rfl,rfl,P,HS,D,g⟩:=hrel;by_cases n:k<U l
  ·have N:(k:V)<(U l:V):=M;obtain⟨uK,rfl,_,ln,X,R,E⟩:=ZH (H.below (g.mono x)) k n;have f:G (s+(16+l[k].src.length+l[k].txt.length)=hX (l.take (k+1))):=by rw [Hid,pt l k n,<-HS.out]
   have a:=df l p (k+1);rw [<-f.out] at a;have h4:=List.any_eq_false.1 p _ (zx n);unfold X8 at h4;simp only [J3,zd,not_or] at h4;have v:(ByteArray.mk l[k].src.toArray).size=l[k].src.length:=rfl;have u:(ByteArray.mk l[k].txt.toArray).size=l[k].txt.length:=rfl;generalize (⟨l[k].src.toArray⟩:ByteArray)=o,(⟨l[k].txt.toArray⟩:ByteArray)=S2,(l[k].time:V)=t,(l[k].level:V)=z at*;rw [<-v,<-u] at f a h4;obtain⟨b,i⟩:=zn o.size;obtain⟨d,j⟩:=zn S2.size;rw [<-i,<-j] at f a h4;have F:(o.size:V)=(b:V):=by rw [i]
   have L:(S2.size:V)=(d:V):=by rw [j]
   have K:b<=4000:=by
    omega
   have Q:d<=4000:=by
    omega
   have W:s<=160320000:=M;have C:=T (g.alloc g.size (Y #[.int .u64 t,gR z, .string o, .string S2] 45));replace a:=T a;clear v u HS D h4;go_wp2_with fail;refine xk ?_;exact⟨k+1,s+(16+b+d),xh,xg,M,f,a.out,C⟩
  ·obtain rfl:k=U l:=M;rw [jP] at HS;go_wp2;go_ret;exact⟨by rw [<-HS.out];rfl,g⟩
theorem Ob (r:JH):(decide (4000<(ByteArray.mk r.src.toArray).size)||decide (4000<(ByteArray.mk r.txt.toArray).size))=X8 r:=rfl
theorem Gr (A:q') (c B:O) (l:S JH) (w:I) (h:E' w B 4 A l (ji l)) (r:B<=(w:O)) (ih:U l<=1000000000):
  xG 83 #[Z A l c, .func (.func 50) #[] #[]] w λe w'=>(∃i:V,e=t' i/\decide (0<=i)=l.any X8)/\r' w w w':=by
 have H:=T h;have s:=T r;clear h r;go_wp2;go_loopw [8] (λd wr=> ∃k:O,d=(k:la)/\k<=U l/\G ((l.take k).any X8=false)/\G (r' w w wr)) (λd _=>U l-(intOf d).toNat)
 ·exact⟨0,rfl,qp _,rfl,qZ _ _⟩
 ·obtain⟨k,rfl,L,b,a⟩:=hrel;by_cases f:k<U l
  ·have N:(k:V)<(U l:V):=M;have x:=xi k;obtain⟨C,rfl,_,y,z,K,v⟩:=ZH (H.below (a.mono s)) k f;have p:l.take (k+1)=l.take k++[l[k]]:=by rw [qs,qX f];rfl
   have j:=λW=>T (OH (l[k].time:V) (l[k].level:V) ⟨l[k].src.toArray⟩ ⟨l[k].txt.toArray⟩ W);rw [Ob] at j;have o:G ((l.take (k+1)).any X8=X8 l[k]):=by rw [Hid,p,List.any_append,b.out];simp
   have m:G (X8 l[k]=true->l.any X8=true):=λh=>ZQ.2 ⟨_,zx f,h⟩;generalize (⟨l[k].src.toArray⟩:ByteArray)=D,(⟨l[k].txt.toArray⟩:ByteArray)=S2,(l[k].time:V)=t,(l[k].level:V)=F,X8 l[k]=u at*;clear p b;go_wp2_with fail;refine zC (j _).out ?_;intro E n;have q:=T (a.trans (n.mono a.size));clear j n;cases u with
   |true=>
    have g:=m rfl;replace g:=T g;go_wp2;go_ret;exact⟨⟨(k:V),rfl,by rw [g.out];exact qw M⟩,q⟩
   |false=>
    go_wp2_with fail;refine xk ?_;exact⟨k+1,xg,M,o,q⟩
  ·obtain rfl:k=U l:=M;rw [jP] at b;go_wp2;go_ret;exact⟨⟨-1,rfl,by rw [b.out];rfl⟩,a⟩
theorem dD (A:q') (c B:O) (l:S JH) (w:I) (h:E' w B 4 A l (ji l)) (g:B<=(w:O)) (a:U l<=1000000000):
  xG 49 #[Z A l c, .func (.func 50) #[] #[]] w λe w'=>e=t' (.bool (l.any X8))/\r' w w w':=by
 have d:=T (Gr A c B l w h g a);generalize l.any X8=b,U l=n at*;clear h g a;go_in;go_wp2_with fail;refine d.mono ?_;rintro e m ⟨⟨i,rfl,hi⟩,f⟩;have j:=T hi;have k:=T f;clear hi f;go_wp2;go_ret;exact⟨by rw [<-j.out];rfl,k⟩
theorem JW (A:q') (c B:O) (l:S JH) (w:I) (h:E' w B 4 A l (ji l)) (q:B<=(w:O)) (t:U l<=1000000000):
  xG 27 #[Z A l c] w λe w'=>e=t' (e' (kF l))/\r' (w:O) w w':=by
 obtain⟨R,b⟩:=zn (kF l);rw [<-b];unfold kF at b;have d:=T (dD A c B l w h q t);have g:=λW (k:r' (w:O) w W)=>EY A c B l W (h.below (k.mono q)) (qv q k.size);replace g:=T g;by_cases h1:20000<U l
 ·rw [qk (.inl h1)] at b;subst b;have v:(20000:V)<(U l:V):=M;generalize U l=n at*;clear h;go_wp2;go_ret;exact⟨rfl,qZ _ _⟩
 ·have v: ¬(20000:V)<(U l:V):=M;cases h2:l.any X8
  focus
   rw [h2] at d;have o:=T (λW k=>g.out W k M h2);have r:=df l h2 l;rw [jP] at r;by_cases h3:1048576<hX l
   focus
    rw [qk (.inr (.inr h3))] at b;subst b;have s:(1048576:V)<(hX l:V):=M;generalize hX l=W at*
   rotate_left
   focus
    rw [qJ (λh=>h.elim h1 λh=>h.elim (λh=>by rw [h2] at h;cases h) h3)] at b;subst b;generalize hX l=W at*
   rotate_left
  rotate_left 2
  focus rw [qk (.inr (.inl h2))] at b;subst b;rw [h2] at d
  rotate_left
  all_goals
   generalize U l=n at*;clear h h2;go_in;go_wp2_with fail;refine zC d ?_;intro m a
  rotate_left;rotate_left
  ·replace a:=T a;go_wp2;go_ret;exact⟨rfl,a⟩
  all_goals
   have f:=T a;have i:=T (o m a);go_wp2_with fail;refine zC i ?_;intro u j;have p:=T (f.trans (j.mono f.size));clear j;go_wp2;go_ret;exact⟨rfl,p⟩
end
section
variable {A:q'}{E t:TypeId}{W W' W2:I}{b b0 c g n:O}{l:S TypeId}
structure jO (l:S TypeId) (b0:O) (W W':I):Prop where
 below:r' b0 W W'
 kept: ∀(k:O) (cs:Array la) (t:TypeId) (fr:O×O),W.heap[k]? =J (Y cs t fr)->t∉l->W'.heap[k]? =J (Y cs t fr)
theorem jO.refl (l:S TypeId) (b0:O) (W:I):jO l b0 W W:=⟨qZ _ _,λ_ _ _ _ h _=>h⟩
theorem jO.trans (h:jO l b0 W W') (b:jO l b0 W' W2):jO l b0 W W2:=⟨h.below.trans b.below,λk c t a d ht=>b.kept k c t a (h.kept k c t a d ht) ht⟩
theorem jO.fresh (h:r' W W W') (b:b0<=(W:O)):jO l b0 W W':=⟨h.mono b,λk d t c a _=>(h.block k (jz a)).trans a⟩
theorem jO.alloc (h:jO l b0 W W') (a:b0<=(W':O)) (o:Obj):jO l b0 W (W'.alloc o):=h.trans (jO.fresh (j1 o) a)
theorem jO.dr (h:jO l b0 W W') (a:Dr W' W2):jO l b0 W W2:=h.trans ⟨a.below _,λk d t c b _=>by obtain⟨n,rfl⟩:=a;exact b⟩
theorem jO.zh {b:Array la} (h:jO l b0 W W') (c:F' W' g t b) (ht:t∈l) (f:b0<=g) (i:O) (u:la):jO l b0 W (W'.setCell ⟨g,i,none⟩ u):=
 h.trans ⟨(qZ _ _).setCell f u,λk o n m a j=>(jT W' ⟨g,i,none⟩ u k (by
  intro e;have d:W'.heap[g]? =J (Y b t (0,0)):=c;rw [show k=g from e,d] at a
  injection a with a
  injection a with _ a
  exact j (a▸ht))).trans a⟩
theorem jO.grown {size:O} {m:S la} (h:jO l b0 W W') (f:xp W' b E size (Z A n c) n m) (j:E∈l) (i:b0<=b) (o:b0<=(W':O)) (g:W'.grownBy W2 (A.map (·.block))):jO l b0 W W2:=
 h.trans ⟨(qZ _ _).grown g o (λk d=>qv i (zj f k (ZO.2 d)).1),λk r t q d ht=>(g.block k (jz d) λe=>by
  obtain⟨s,p,a⟩:=jV f k e.symm;rw [d] at a;injection a with a
  injection a with _ a
  exact ht (a▸j)).trans d⟩
theorem jO.blk {a:Array la} (h:jO l b0 W W') (b:F' W g t a) (ht:t∉l):F' W' g t a:=h.kept g a t _ b ht
theorem jO.own {size:O} {f:S la} (h:jO l b0 W W') (e:xp W b E size (Z A n c) n f) (ht:E∉l):xp W' b E size (Z A n c) n f:=
 zI e λa g=>by
  obtain⟨j,i,d⟩:=jV e _ (by rw [g];rfl)
  rw [d];exact h.kept _ _ _ _ d ht
theorem jO.size (h:jO l b0 W W'):(W:O)<=(W':O):=h.below.size
def ug (W:I) (b0 g:O) (a:S qn):Prop:= ∃A c,F' W g 99 #[Z A a c]/\xp W b0 9 1 (Z A a c) a (a.map Lj)/\b0<=g
theorem ug.keep {l:S TypeId} {b0:O} {W d:I} {e:S qn} (h:ug W b0 g e) (a:jO l b W d) (h1:99∉l) (h2:9∉l):ug d b0 g e:=by
 obtain⟨A,c,i,f,j⟩:=h;exact⟨A,c,a.blk i h1,a.own f h2,j⟩
theorem ug.push {W a:I} {b0:O} {d:q'} {f:S qn} {s:qn} {o:Obj} (j:U f=n) (q:F' W g 99 #[Z A n c]) (m:xp W b0 9 1 (Z A n c) n (f.map Lj)) (l:b0<=g) (e:b0<=(W:O)) (i:(W.alloc o).grownBy a (A.map (·.block))) (h4:xp a b0 9 1 (Z d (n+1) b) (n+1) (f.map Lj++[Lj s])):
  ug (a.setCell g (Z d (n+1) b)) b0 g (f++[s])/\jO [99,9] b0 W (a.setCell g (Z d (n+1) b)):=by
 have h0:=(qZ _ W).alloc (qx _) o;have o1:=qG m h0;have v:jO [99,9] b0 W a:=(jO.fresh h0 e).grown o1 s8 (qx _) (qv e h0.size) i;have u:jO [9] b0 W a:=(jO.fresh h0 e).grown o1 s8 (qx _) (qv e h0.size) i;have h:=u.blk q FV;refine⟨⟨d,b, ?_, ?_,l⟩,v.zh h s8 l 0 _⟩
 ·have:=h.zh 0 (Z d (n+1) b);rw [qK,zJ,j];simpa using this
 ·rw [qK,zJ,j,qg];exact((qE.refl [g] a).zh (p:= g) (qy.2 rfl) _).own h4 (λk r t=>qT h4 h FV k r (qy.1 t))
end
section
open Go.Sort Go.Shelf
def Si:Go.Shelf.Ren:=⟨fun|6=>137|8=>180|9=>184|19=>210|20=>211|21=>212|22=>213|23=>214|24=>215|25=>216|26=>217|27=>218|28=>219|29=>220|36=>243|31=>244|32=>245|37=>246|38=>247|39=>248|41=>265|n=>n,fun|27=>99|29=>9|3=>3|32=>88|26=>99|0=>0|44=>92|46=>43|4=>4|36=>327|35=>326|41=>267|5=>5|9=>9|53=>356|57=>359|63=>376|64=>201|n=>n,fun|n=>n⟩
theorem WD:Go.Proofs.SlLaysM.n6 prog Si:={
 mixed:=AL,
 f6:=⟨ "slices.Sort[[]string,string]",FV,func137.trans (zo _ AL)⟩,
 f8:=func180.trans (zo _ AL),
 f9:=⟨ "slices.pdqsortOrdered[string]",FV,func184.trans (zo _ AL)⟩,
 f19:=func210.trans (zo _ AL),
 f20:=func211.trans (zo _ AL),
 f21:=⟨ "slices.insertionSortOrdered[string]",FV,func212.trans (zo _ AL)⟩,
 f22:=⟨ "slices.heapSortOrdered[string]",FV,func213.trans (zo _ AL)⟩,
 f23:=⟨ "slices.breakPatternsOrdered[string]",FV,func214.trans (zo _ AL)⟩,
 f24:=⟨ "slices.choosePivotOrdered[string]",FV,func215.trans (zo _ AL)⟩,
 f25:=⟨ "slices.reverseRangeOrdered[string]",FV,func216.trans (zo _ AL)⟩,
 f26:=⟨ "slices.partialInsertionSortOrdered[string]",FV,func217.trans (zo _ AL)⟩,
 f27:=⟨ "cmp.Less[string]",FV,func218.trans (zo _ AL)⟩,
 f28:=⟨ "slices.partitionEqualOrdered[string]",FV,func219.trans (zo _ AL)⟩,
 f29:=⟨ "slices.partitionOrdered[string]",FV,func220.trans (zo _ AL)⟩,
 f31:=func244.trans (zo _ AL),
 f32:=func245.trans (zo _ AL),
 f36:=⟨ "slices.siftDownOrdered[string]",FV,func243.trans (zo _ AL)⟩,
 f37:=⟨ "slices.medianAdjacentOrdered[string]",FV,func246.trans (zo _ AL)⟩,
 f38:=⟨ "slices.medianOrdered[string]",FV,func247.trans (zo _ AL)⟩,
 f39:=⟨ "cmp.isNaN[string]",FV,func248.trans (zo _ AL)⟩,
 f41:=⟨ "slices.order2Ordered[string]",FV,func265.trans (zo _ AL)⟩,
 t0:=underlying0,
 a0:=isAgg0,
 z0:=sizeOf0,
 v0:=zeroValue0,
 t3:=yu,
 a3:=isAgg3,
 z3:=sizeOf3,
 v3:=zeroValue3,
 t4:=underlying4,
 a4:=isAgg4,
 z4:=sizeOf4,
 v4:=zeroValue4,
 t5:=xS,
 a5:=isAgg5,
 z5:=sizeOf5,
 v5:=zeroValue5,
 t9:=ju,
 a9:=isAgg9,
 z9:=sizeOf9,
 v9:=J5,
 t26:=jD,
 a26:=isAgg99,
 z26:=sizeOf99,
 v26:=zeroValue99,
 t27:=jD,
 a27:=isAgg99,
 z27:=sizeOf99,
 v27:=zeroValue99,
 t29:=ju,
 a29:=isAgg9,
 z29:=sizeOf9,
 v29:=J5,
 t32:=underlying88,
 a32:=isAgg88,
 z32:=sizeOf88,
 v32:=zeroValue88,
 t35:=underlying326,
 a35:=isAgg326,
 z35:=sizeOf326,
 v35:=zeroValue326,
 t36:=underlying327,
 a36:=isAgg327,
 z36:=sizeOf327,
 v36:=zeroValue327,
 t41:=underlying267,
 a41:=isAgg267,
 z41:=sizeOf267,
 v41:=zeroValue267,
 t44:=underlying92,
 a44:=isAgg92,
 z44:=sizeOf92,
 v44:=zeroValue92,
 t46:=underlying43,
 a46:=isAgg43,
 z46:=sizeOf43,
 v46:=zeroValue43,
 t53:=underlying356,
 a53:=isAgg356,
 z53:=sizeOf356,
 v53:=zeroValue356,
 t57:=underlying359,
 a57:=isAgg359,
 z57:=sizeOf359,
 v57:=zeroValue359,
 t63:=underlying376,
 a63:=isAgg376,
 z63:=sizeOf376,
 v63:=zeroValue376,
 t64:=underlying201,
 a64:=isAgg201,
 z64:=sizeOf201,
 v64:=zeroValue201}
def SI:Go.Shelf.Ren:=⟨fun|44=>138|n=>n,fun|25=>99|26=>9|3=>3|4=>4|0=>0|n=>n,fun|n=>n⟩
theorem iX:Go.Proofs.SlLaysN.n44 prog SI:={
 mixed:=AL,
 f44:=⟨ "slices.Compact[[]string,string]",FV,func138.trans (zo _ AL)⟩,
 t0:=underlying0,
 a0:=isAgg0,
 z0:=sizeOf0,
 v0:=zeroValue0,
 t3:=yu,
 a3:=isAgg3,
 z3:=sizeOf3,
 v3:=zeroValue3,
 t4:=underlying4,
 a4:=isAgg4,
 z4:=sizeOf4,
 v4:=zeroValue4,
 t25:=jD,
 a25:=isAgg99,
 z25:=sizeOf99,
 v25:=zeroValue99,
 t26:=ju,
 a26:=isAgg9,
 z26:=sizeOf9,
 v26:=J5,
 i26:=by kernel_rfl}
theorem tT (zs:S qn):U (Go.Lib.compact zs)<=U zs:=by
 unfold Go.Lib.compact Go.Lib.compactUpTo;rw [zH];exact qv (jN _ _) s8
theorem tW (l:S qn):l.map encStr=l.map Lj:=rfl
def srt (l:S qn):S qn:=l.mergeSort λx y=>decide (x<=y)
theorem Wf (l:S qn):U (srt l)=U l:=List.length_mergeSort l
theorem Sl (A:q') (n c b0:O) (a:S qn) (W:I) (h:xp W b0 9 1 (Z A n c) n (a.map Lj)) (q:n<=1000000000) (j:b0<=(W:O)):
  xG 137 #[Z A n c] W λe f=>e=t' (BA #[])/\xp f b0 9 1 (Z A n c) n ((srt a).map Lj)/\jO [9] b0 W f:=by
 have d:U a=n:=by have:=h.1;simpa using this
 rcases zA n with rfl|o
 ·have k:=xq.1 d;subst k;refine(AnyM.slices_Sort_string_none WD A c W).mono ?_;rintro e w' ⟨rfl,rfl⟩;exact⟨rfl,by simpa [srt] using h,jO.refl _ _ _⟩
 ·obtain⟨g,rfl⟩:=Kq h o;obtain⟨p,h1,h2,h3,r,b,h4,h5⟩:=yZ h;subst d;have l:=holds_of_block b h5;refine(AnyM.slices_Sort_string WD g 0 c a W l b.lt M).mono ?_;rintro e w' ⟨rfl,m,os,rfl⟩;have i:=ownsRow_sorted (os:=os) (n:=m) (Wf a) p b h1 h2 M;exact⟨rfl,i,(jO.refl _ _ _).grown h s8 (qx _) j (grownBy_sorted _)⟩
theorem SL (A:q') (n c b0:O) (a:S qn) (W:I) (h:xp W b0 9 1 (Z A n c) n (a.map Lj)) (C:n<=1000000000) (u:b0<=(W:O)):
  xG 138 #[Z A n c] W λe d=>e=t' (Z A (U (Go.Lib.compact a)) c)/\xp d b0 9 1 (Z A (U (Go.Lib.compact a)) c) (U (Go.Lib.compact a)) ((Go.Lib.compact a).map Lj)/\jO [9] b0 W d:=by
 have f:U a=n:=by have:=h.1;simpa using this
 rcases zA n with rfl|s
 ·have j:=xq.1 f;subst j;refine(AnyG.slices_Compact_string_empty iX A c W).mono ?_;rintro e w' ⟨rfl,rfl⟩;exact⟨rfl,h,jO.refl _ _ _⟩
 ·obtain⟨g,rfl⟩:=Kq h s;obtain⟨l,h1,h2,h3,B,i,h4,h5⟩:=yZ h;subst f;have o:=holds_of_block i h5;have v:=tT a;refine(AnyG.slices_Compact_string iX g 0 c a W o M h1).mono ?_;rintro e w' ⟨rfl,q,rfl⟩;have p:U (Go.Lib.compact a++List.replicate (U a-U (Go.Lib.compact a)) [])=U a:=SZ;have b:=ownsRow_sorted (os:= #[]) (n:=q) p l i h1 h2 M;rw [grow_empty] at b;refine⟨rfl, ?_,(jO.refl _ _ _).grown h s8 (qx _) u (by have:=grownBy_sorted (w:=W) (g:=g) (n:=q) (os:= #[]) (Go.Lib.compact a++List.replicate (U a-U (Go.Lib.compact a)) []).toArray;rwa [grow_empty] at this)⟩;obtain⟨m,D,x,y,t,r,z,k⟩:=yZ b;refine⟨s8, .inr ⟨g,c,t,rfl,m,r,M,x,M, ?_⟩⟩;have:=zo (List.take (U (Go.Lib.compact a))) k;rw [List.take_take,vZ v] at this;rw [z_,this,qg,ZV s8,qH s8];rfl
end
end Go.Proofs.YtfnlfpcfkbdcmaaGreatDoor
