import Derived.Test.YtfnlfpcfkbdcmaaGreatDoorL00
import Derived.ProofKit
set_option linter.unusedSimpArgs false
set_option linter.unusedVariables false
set_option maxRecDepth 100000
set_option maxHeartbeats 0
open Go.Proofs.Tryz
namespace Go.Proofs.YtfnlfpcfkbdcmaaGreatDoor
open Go.RowKit
def Vp (x lo hi:Int):Bool:=decide (lo<=x/\x<=hi)
def stp (d q c:Int):Bool:=Vp d 1 255&&(Vp q 0 (255-d)&&Vp c 1 4096)
def chk (v b k d q c:Int):Int:=
 if v<1\/3<v then 4 else if Vp b 16 32768=false then 9
 else if v=1 then(if k=0/\d=0/\q=0/\c=0 then 0 else 9)
 else if Vp k 1 64=false then 9
 else if v=2 then(if d=0/\q=0/\c=0 then 0 else 9)
 else(if stp d q c=true then 0 else 9)
theorem Qp (x lo hi:Int) (w:World):Calls prog 47 #[x,lo,hi] w λe w'=>e= .returned (.bool (Vp x lo hi))/\w'=w:=by
 unfold Vp;by_cases h1:lo<=x
 ·by_cases h2:x<=hi
  ·go_wp2;go_ret;exact⟨j7 SZ,rfl⟩
  ·go_wp2;go_ret;exact⟨j7 SZ,rfl⟩
 ·go_wp2;go_ret;exact⟨j7 SZ,rfl⟩
theorem Di (b k d q c:Int) (p:Bool) (w:World) (h: -9223372036854775808<=d/\d<=9223372036854775807):
  Calls prog 48 #[.agg #[b,p,k,d,q,c]] w λe w'=>e= .returned (.bool (stp d q c))/\Below w.heap.size w w':=by
 unfold stp;have a:=λw=>Qp d 1 255 w;have f:=λw=>Qp q 0 (255-d) w;have H3:=λw=>Qp c 1 4096 w;have g:Vp d 1 255=true->1<=d/\d<=255:=by unfold Vp;simp
 obtain⟨l,m⟩:=h;cases h1:Vp d 1 255
 focus
  rw [h1] at a;replace a:=qj a
 rotate_left
 focus
  obtain⟨j,i⟩:=g h1;clear g;cases h2:Vp q 0 (255-d)
  focus
   rw [h1] at a;rw [h2] at f;replace a:=qj a;replace f:=qj f
  rotate_left
  focus
   rw [h1] at a;rw [h2] at f;revert a f H3;refine vn ?_;intro a f H3
  rotate_left
 rotate_left 2
 all_goals
  go_in;go_wp2_with fail;refine(a _).mono ?_;rintro e w' ⟨rfl,rfl⟩;go_wp2_with fail
 ·go_ret;exact⟨rfl,z8 _⟩
 ·refine(f _).mono ?_;rintro e w' ⟨rfl,rfl⟩;go_wp2_with fail;go_ret;exact⟨rfl,z8 _⟩
 ·refine(f _).mono ?_;rintro e w' ⟨rfl,rfl⟩;go_wp2_with fail;refine(H3 _).mono ?_;rintro e w' ⟨rfl,rfl⟩;go_wp2_with fail;go_ret;exact⟨rfl,z8 _⟩
theorem two (x lo hi:Int):x<lo\/hi<x\/(lo<=x/\x<=hi):=uK
theorem qqA (b k d q c:Int):b<16\/32768<b\/(16<=b/\b<=32768/\k≠0)\/(16<=b/\b<=32768/\k=0/\d≠0)\/(16<=b/\b<=32768/\k=0/\d=0/\q≠0)\/(16<=b/\b<=32768/\k=0/\d=0/\q=0/\c≠0)\/(16<=b/\b<=32768/\k=0/\d=0/\q=0/\c=0):=by
 rcases two b 16 32768 with h|h|⟨h1,h2⟩
 ·exact .inl h
 ·exact .inr (.inl h)
 by_cases a:k=0
 ·by_cases e:d=0
  ·by_cases f:q=0
   ·by_cases g:c=0
    ·exact .inr (.inr (.inr (.inr (.inr (.inr ⟨h1,h2,a,e,f,g⟩)))))
    ·exact .inr (.inr (.inr (.inr (.inr (.inl ⟨h1,h2,a,e,f,g⟩)))))
   ·exact .inr (.inr (.inr (.inr (.inl ⟨h1,h2,a,e,f⟩))))
  ·exact .inr (.inr (.inr (.inl ⟨h1,h2,a,e⟩)))
 ·exact .inr (.inr (.inl ⟨h1,h2,a⟩))
theorem qqe (b k d q c:Int):b<16\/32768<b\/(16<=b/\b<=32768/\k<1)\/(16<=b/\b<=32768/\64<k)\/(16<=b/\b<=32768/\1<=k/\k<=64/\d≠0)\/(16<=b/\b<=32768/\1<=k/\k<=64/\d=0/\q≠0)\/(16<=b/\b<=32768/\1<=k/\k<=64/\d=0/\q=0/\c≠0)\/(16<=b/\b<=32768/\1<=k/\k<=64/\d=0/\q=0/\c=0):=by
 rcases two b 16 32768 with h|h|⟨h1,h2⟩
 ·exact .inl h
 ·exact .inr (.inl h)
 rcases two k 1 64 with h|h|⟨h3,h4⟩
 ·exact .inr (.inr (.inl ⟨h1,h2,h⟩))
 ·exact .inr (.inr (.inr (.inl ⟨h1,h2,h⟩)))
 by_cases a:d=0
 ·by_cases e:q=0
  ·by_cases f:c=0
   ·exact .inr (.inr (.inr (.inr (.inr (.inr (.inr ⟨h1,h2,h3,h4,a,e,f⟩))))))
   ·exact .inr (.inr (.inr (.inr (.inr (.inr (.inl ⟨h1,h2,h3,h4,a,e,f⟩))))))
  ·exact .inr (.inr (.inr (.inr (.inr (.inl ⟨h1,h2,h3,h4,a,e⟩)))))
 ·exact .inr (.inr (.inr (.inr (.inl ⟨h1,h2,h3,h4,a⟩))))
theorem qqE (b k d q c:Int):b<16\/32768<b\/(16<=b/\b<=32768/\k<1)\/(16<=b/\b<=32768/\64<k)\/(16<=b/\b<=32768/\1<=k/\k<=64/\d<1)\/(16<=b/\b<=32768/\1<=k/\k<=64/\255<d)\/(16<=b/\b<=32768/\1<=k/\k<=64/\1<=d/\d<=255/\q<0)\/(16<=b/\b<=32768/\1<=k/\k<=64/\1<=d/\d<=255/\255-d<q)\/
   (16<=b/\b<=32768/\1<=k/\k<=64/\1<=d/\d<=255/\0<=q/\q<=255-d/\c<1)\/(16<=b/\b<=32768/\1<=k/\k<=64/\1<=d/\d<=255/\0<=q/\q<=255-d/\4096<c)\/(16<=b/\b<=32768/\1<=k/\k<=64/\1<=d/\d<=255/\0<=q/\q<=255-d/\1<=c/\c<=4096):=by
 rcases two b 16 32768 with h|h|⟨h1,h2⟩
 ·exact .inl h
 ·exact .inr (.inl h)
 rcases two k 1 64 with h|h|⟨h3,h4⟩
 ·exact .inr (.inr (.inl ⟨h1,h2,h⟩))
 ·exact .inr (.inr (.inr (.inl ⟨h1,h2,h⟩)))
 rcases two d 1 255 with h|h|⟨h5,h6⟩
 ·exact .inr (.inr (.inr (.inr (.inl ⟨h1,h2,h3,h4,h⟩))))
 ·exact .inr (.inr (.inr (.inr (.inr (.inl ⟨h1,h2,h3,h4,h⟩)))))
 rcases two q 0 (255-d) with h|h|⟨h7,h8⟩
 ·exact .inr (.inr (.inr (.inr (.inr (.inr (.inl ⟨h1,h2,h3,h4,h5,h6,h⟩))))))
 ·exact .inr (.inr (.inr (.inr (.inr (.inr (.inr (.inl ⟨h1,h2,h3,h4,h5,h6,h⟩)))))))
 rcases two c 1 4096 with h|h|⟨a,e⟩
 ·exact .inr (.inr (.inr (.inr (.inr (.inr (.inr (.inr (.inl ⟨h1,h2,h3,h4,h5,h6,h7,h8,h⟩))))))))
 ·exact .inr (.inr (.inr (.inr (.inr (.inr (.inr (.inr (.inr (.inl ⟨h1,h2,h3,h4,h5,h6,h7,h8,h⟩)))))))))
 ·exact .inr (.inr (.inr (.inr (.inr (.inr (.inr (.inr (.inr (.inr ⟨h1,h2,h3,h4,h5,h6,h7,h8,a,e⟩)))))))))
theorem L8 (v b k d q c:Int) (p:Bool) (w:World) (g: -9223372036854775808<=d/\d<=9223372036854775807):
  Calls prog 11 #[v, .agg #[b,p,k,d,q,c]] w λe w'=>e= .returned (.int .i64 (chk v b k d q c))/\Below w w w':=by
 obtain⟨j,l⟩:=g;have a:v<1\/3<v\/v=1\/v=2\/v=3:=uK;have h1:b<16\/32768<b\/(16<=b/\b<=32768/\k≠0)\/(16<=b/\b<=32768/\k=0/\d≠0)\/(16<=b/\b<=32768/\k=0/\d=0/\q≠0)\/(16<=b/\b<=32768/\k=0/\d=0/\q=0/\c≠0)\/(16<=b/\b<=32768/\k=0/\d=0/\q=0/\c=0):=qqA b k d q c;have h2:b<16\/32768<b\/(16<=b/\b<=32768/\k<1)\/(16<=b/\b<=32768/\64<k)\/(16<=b/\b<=32768/\1<=k/\k<=64/\d≠0)\/(16<=b/\b<=32768/\1<=k/\k<=64/\d=0/\q≠0)\/(16<=b/\b<=32768/\1<=k/\k<=64/\d=0/\q=0/\c≠0)\/(16<=b/\b<=32768/\1<=k/\k<=64/\d=0/\q=0/\c=0):=qqe b k d q c;have h3:b<16\/32768<b\/(16<=b/\b<=32768/\k<1)\/(16<=b/\b<=32768/\64<k)\/(16<=b/\b<=32768/\1<=k/\k<=64/\d<1)\/(16<=b/\b<=32768/\1<=k/\k<=64/\255<d)\/(16<=b/\b<=32768/\1<=k/\k<=64/\1<=d/\d<=255/\q<0)\/(16<=b/\b<=32768/\1<=k/\k<=64/\1<=d/\d<=255/\255-d<q)\/
   (16<=b/\b<=32768/\1<=k/\k<=64/\1<=d/\d<=255/\0<=q/\q<=255-d/\c<1)\/(16<=b/\b<=32768/\1<=k/\k<=64/\1<=d/\d<=255/\0<=q/\q<=255-d/\4096<c)\/(16<=b/\b<=32768/\1<=k/\k<=64/\1<=d/\d<=255/\0<=q/\q<=255-d/\1<=c/\c<=4096):=qqE b k d q c
 rcases a with a|a|rfl|rfl|rfl;rotate_left;rotate_left
 ·clear h2 h3;rcases h1 with h|h|⟨h1,h2,h⟩|⟨h1,h2,rfl,h⟩|⟨h1,h2,rfl,rfl,h⟩|⟨h1,h2,rfl,rfl,rfl,h⟩|⟨h1,h2,rfl,rfl,rfl,rfl⟩
  all_goals
   try have f:=yo.2 h
   go_in;go_wp2_with fail;go_ret;refine⟨Jy ?_,z8 _⟩;try clear f
   unfold chk Vp;simp only [zW];repeat' split
   all_goals first|rfl|(exfalso;omega)|(exfalso;simp_all;done)|(exfalso;simp_all;omega)
 ·clear h1 h3;rcases h2 with h|h|⟨h1,h2,h⟩|⟨h1,h2,h⟩|⟨h1,h2,h3,h4,h⟩|⟨h1,h2,h3,h4,rfl,h⟩|⟨h1,h2,h3,h4,rfl,rfl,h⟩|⟨h1,h2,h3,h4,rfl,rfl,rfl⟩
  all_goals
   try have f:=yo.2 h
   go_in;go_wp2_with fail;go_ret;refine⟨Jy ?_,z8 _⟩;try clear f
   unfold chk Vp;simp only [zW];repeat' split
   all_goals first|rfl|(exfalso;omega)|(exfalso;simp_all;done)|(exfalso;simp_all;omega)
 ·clear h1 h2;rcases h3 with h|h|⟨h1,h2,h⟩|⟨h1,h2,h⟩|⟨h1,h2,h3,h4,h⟩|⟨h1,h2,h3,h4,h⟩|⟨h1,h2,h3,h4,h5,h6,h⟩|⟨h1,h2,h3,h4,h5,h6,h⟩|⟨h1,h2,h3,h4,h5,h6,h7,h8,h⟩|⟨h1,h2,h3,h4,h5,h6,h7,h8,h⟩|⟨h1,h2,h3,h4,h5,h6,h7,h8,i,m⟩
  all_goals
   go_in;go_wp2_with fail;go_ret;refine⟨Jy ?_,z8 _⟩;unfold chk stp Vp;simp only [zW,zR,zd];repeat' split
   all_goals first|rfl|(exfalso;omega)|(exfalso;simp_all;done)|(exfalso;simp_all;omega)
 all_goals
  clear h1 h2 h3;go_in;go_wp2_with fail;go_ret;refine⟨Jy ?_,z8 _⟩;unfold chk;rw [qk uK]
end Go.Proofs.YtfnlfpcfkbdcmaaGreatDoor
