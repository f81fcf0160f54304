import Derived.Test.YtfnlfpcfkbdcmaaGreatDoorTA
set_option linter.unusedSimpArgs false
set_option linter.unusedVariables false
set_option maxRecDepth 100000
set_option maxHeartbeats 0
open Go.Proofs.Tryz
namespace Go.Proofs.YtfnlfpcfkbdcmaaGreatDoor
open Go.RowKit
variable {a b:V}
theorem Jy {k:IntKind} (h:a=b):Ending.returned (.int k a)=t' (.int k b):=by rw [h]
theorem j7 {a b:Bool} (h:a=b):Ending.returned a=t' b:=by rw [h]
theorem wF {k l:IntKind} {c d:V} (h:a=c) (h2:b=d):Ending.returned (BA #[.int k a, .int l b])=t' (BA #[.int k c, .int l d]):=by rw [h,h2]
theorem II (a:O) (b:a<256):(bits .and .u8 (a:V) 128 !=0)=a.testBit 7:=by
 rw [show(128:V)=((128:O):V) from rfl,u8_and_nat a 128 b M,nat_bit 7 a,Nat.testBit_eq_decide_div_mod_eq];rcases vL (a/2^7) with h|h<;>rw [h]<;>rfl
theorem Il (a:O) (b:a<256):bits .and .u8 (a:V) 1=((a%2:O):V):=by
 rw [show(1:V)=((1:O):V) from rfl,u8_and_nat a 1 b M,nat_mask1]
theorem VS (a:O) (b:a<9223372036854775808):(BitVec.ofInt 64 (a:V)).toNat=a:=by
 rw [BitVec.ofInt_natCast,BitVec.toNat_ofNat];exact jk M
theorem a8 (a b:O) (c:a<9223372036854775808) (d:b<9223372036854775808):bits .and .i64 (a:V) (b:V)=((a&&&b:O):V):=by
 have e:a&&&b<2^63:=Nat.and_lt_two_pow _ M;show DW ((BitVec.ofInt 64 (a:V)&&&BitVec.ofInt 64 (b:V)).toNat:V)=_;rw [BitVec.toNat_and,VS a c,VS b d,qU];omega
theorem RD (a b:O) (c:a<9223372036854775808) (d:b<9223372036854775808):bits .or .i64 (a:V) (b:V)=((a|||b:O):V):=by
 have e:a|||b<2^63:=Nat.or_lt_two_pow M M;show DW ((BitVec.ofInt 64 (a:V)|||BitVec.ofInt 64 (b:V)).toNat:V)=_;rw [BitVec.toNat_or,VS a c,VS b d,qU];omega
theorem a_ (a b:O) (c:a<9223372036854775808) (d:b<9223372036854775808):bits .xor .i64 (a:V) (b:V)=((a^^^b:O):V):=by
 have e:a^^^b<2^63:=vz M M;show DW ((BitVec.ofInt 64 (a:V)^^^BitVec.ofInt 64 (b:V)).toNat:V)=_;rw [BitVec.toNat_xor,VS a c,VS b d,qU];omega
theorem Kr (n:O) (h:n<9223372036854775808):wrap64 (n:V)=(n:V):=yT n ⟨M,M⟩
theorem cP (a:O) (b:a<18446744073709551616):bits .and .u64 (a:V) 1=((a%2:O):V):=by
 rw [show(1:V)=((1:O):V) from rfl,u64_and_nat a 1 b M,nat_mask1]
def Fk (x lo hi:V):Bool:=decide (lo<=x/\x<=hi)
def stp (d q c:V):Bool:=Fk d 1 255&&(Fk q 0 (255-d)&&Fk c 1 4096)
def chk (v b k d q c:V):Int:=
 if v<1\/3<v then 4 else if Fk b 16 32768=false then 9
 else if v=1 then(if k=0/\d=0/\q=0/\c=0 then 0 else 9)
 else if Fk k 1 64=false then 9
 else if v=2 then(if d=0/\q=0/\c=0 then 0 else 9)
 else(if stp d q c=true then 0 else 9)
theorem Qp (x lo hi:V) (w:I):xG 47 #[x,lo,hi] w λe w'=>e=t' (.bool (Fk x lo hi))/\w'=w:=by
 unfold Fk;by_cases h1:lo<=x
 ·by_cases h2:x<=hi
  ·go_wp2;go_ret;exact⟨j7 SZ,rfl⟩
  ·go_wp2;go_ret;exact⟨j7 SZ,rfl⟩
 ·go_wp2;go_ret;exact⟨j7 SZ,rfl⟩
theorem Di (b k d q c:V) (p:Bool) (w:I) (h: -9223372036854775808<=d/\d<=9223372036854775807):
  xG 48 #[.agg #[b,p,k,d,q,c]] w λe w'=>e=t' (.bool (stp d q c))/\r' (w:O) w w':=by
 unfold stp;have a:=λw=>Qp d 1 255 w;have f:=λw=>Qp q 0 (255-d) w;have H3:=λw=>Qp c 1 4096 w;have g:Fk d 1 255=true->1<=d/\d<=255:=by unfold Fk;simp
 obtain⟨l,m⟩:=h;cases h1:Fk d 1 255
 focus
  rw [h1] at a;replace a:=T a
 rotate_left
 focus
  obtain⟨j,i⟩:=g h1;clear g;cases h2:Fk q 0 (255-d)
  focus
   rw [h1] at a;rw [h2] at f;replace a:=T a;replace f:=T f
  rotate_left
  focus
   rw [h1] at a;rw [h2] at f;revert a f H3;refine vn ?_;intro a f H3
  rotate_left
 rotate_left 2
 all_goals
  go_in;go_wp2_with fail;refine(a _).mono ?_;rintro e w' ⟨rfl,rfl⟩;go_wp2_with fail
 ·go_ret;exact⟨rfl,j1 _⟩
 ·refine(f _).mono ?_;rintro e w' ⟨rfl,rfl⟩;go_wp2_with fail;go_ret;exact⟨rfl,j1 _⟩
 ·refine(f _).mono ?_;rintro e w' ⟨rfl,rfl⟩;go_wp2_with fail;refine(H3 _).mono ?_;rintro e w' ⟨rfl,rfl⟩;go_wp2_with fail;go_ret;exact⟨rfl,j1 _⟩
theorem two (x lo hi:V):x<lo\/hi<x\/(lo<=x/\x<=hi):=M
end Go.Proofs.YtfnlfpcfkbdcmaaGreatDoor
