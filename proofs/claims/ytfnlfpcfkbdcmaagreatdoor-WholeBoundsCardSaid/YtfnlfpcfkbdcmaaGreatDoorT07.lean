import Derived.Test.YtfnlfpcfkbdcmaaGreatDoorT00
set_option linter.unusedSimpArgs false
set_option linter.unusedVariables false
set_option maxRecDepth 100000
set_option maxHeartbeats 0
open Go.Proofs.Tryz
namespace Go.Proofs.YtfnlfpcfkbdcmaaGreatDoor
open Go.RowKit
variable {b c d k q v:V}
theorem WE (h:v<1\/3<v):chk v b k d q c=4:=by unfold chk;rw [qk h]
theorem MD (h: ¬(v<1\/3<v)) (a:Fk b 16 32768=false):chk v b k d q c=9:=by unfold chk;rw [qJ h,qk a]
theorem lY (a:Fk b 16 32768=true):chk 1 b k d q c=if k=0/\d=0/\q=0/\c=0 then 0 else 9:=by
 unfold chk;rw [qJ M,qJ (by simp [a]),qk rfl]
theorem Mf (h:v=2\/v=3) (a:Fk b 16 32768=true) (e:Fk k 1 64=false):chk v b k d q c=9:=by
 unfold chk;rw [qJ M,qJ (by simp [a]),qJ M,qk e]
theorem lK (a:Fk b 16 32768=true) (e:Fk k 1 64=true):chk 2 b k d q c=if d=0/\q=0/\c=0 then 0 else 9:=by
 unfold chk;rw [qJ M,qJ (by simp [a]),qJ M,qJ (by simp [e]),qk rfl]
theorem iK (a:Fk b 16 32768=true) (e:Fk k 1 64=true):chk 3 b k d q c=if stp d q c=true then 0 else 9:=by
 unfold chk;rw [qJ M,qJ (by simp [a]),qJ M,qJ (by simp [e]),qJ M]
theorem Yf {W a:I} (c:r' W W a):(∀b o,b<(W:O)->i' a ⟨b,o,none⟩=i' W ⟨b,o,none⟩)/\(∀b o,b<(W:O)->a.frozen? ⟨b,o,none⟩=W.frozen? ⟨b,o,none⟩):=
 ⟨λb o h=>c.cell h,λb o h=>c.frozen h⟩
theorem JX (v b k d q c:V) (p:Bool) (w:I) (t: -9223372036854775808<=d/\d<=9223372036854775807):
  xG 26 #[v, .agg #[b,p,k,d,q,c]] w λe w'=>e=t' (e' (chk v b k d q c))/\r' (w:O) w w':=by
 have a:=λw=>Qp b 16 32768 w;have f:=λw=>Qp k 1 64 w;have H3:=λw=>Di b k d q c p w t;have n:v<1\/3<v\/v=1\/v=2\/v=3:=M;rcases n with n|n|rfl|rfl|rfl
 ·rw [WE (Or.inl n)];clear f H3;generalize Fk b 16 32768=u at*;replace a:=T a;go_enter vw,vK;go_wp2_with fail;refine(a _).mono ?_;rintro e w' ⟨rfl,rfl⟩;go_wp2_with fail;go_ret;exact⟨rfl,(j1 _).alloc s8 _⟩
 ·rw [WE (Or.inr n)];clear f H3;generalize Fk b 16 32768=u at*;replace a:=T a;go_enter vw,vK;go_wp2_with fail;refine(a _).mono ?_;rintro e w' ⟨rfl,rfl⟩;go_wp2_with fail;go_ret;exact⟨rfl,(j1 _).alloc s8 _⟩
 ·clear f H3;cases g:Fk b 16 32768
  focus
   rw [MD M g];rw [g] at a;replace a:=T a
  rotate_left
  focus
   rw [lY g];rw [g] at a;replace a:=T a;clear g;by_cases l:k=0/\d=0/\q=0/\c=0
   focus
    rw [qk l];obtain⟨rfl,rfl,rfl,rfl⟩:=l
   rotate_left
   ·rw [qJ l];go_enter vw,vK;go_wp2_with fail;refine(a _).mono ?_;rintro e w' ⟨rfl,rfl⟩;go_wp2_with fail;all_goals first|(go_ret;exact⟨rfl,(j1 _).alloc s8 _⟩)|(exfalso;simp_all;done)|(exfalso;omega)
  all_goals
   go_enter vw,vK;go_wp2_with fail;refine(a _).mono ?_;rintro e w' ⟨rfl,rfl⟩;go_wp2_with fail;go_ret;exact⟨rfl,(j1 _).alloc s8 _⟩
 ·clear H3;cases g:Fk b 16 32768
  ·rw [MD M g];rw [g] at a;replace a:=T a;clear f;go_enter vw,vK;go_wp2_with fail;refine(a _).mono ?_;rintro e w' ⟨rfl,rfl⟩;go_wp2_with fail;all_goals first|(go_ret;exact⟨rfl,(j1 _).alloc s8 _⟩)|(exfalso;simp_all;done)|(exfalso;omega)
  ·rw [g] at a;replace a:=T a;cases h:Fk k 1 64
   focus
    rw [Mf (Or.inl rfl) g h];rw [h] at f;replace f:=T f
   rotate_left
   focus
    rw [lK g h];rw [h] at f;replace f:=T f;clear g h;by_cases l:d=0/\q=0/\c=0
    focus
     rw [qk l];obtain⟨rfl,rfl,rfl⟩:=l
    rotate_left
    focus rw [qJ l]
   all_goals
    go_enter vw,vK;go_wp2_with fail;refine(a _).mono ?_;rintro e w' ⟨rfl,rfl⟩;go_wp2_with fail;refine(f _).mono ?_;rintro e w' ⟨rfl,rfl⟩;go_wp2_with fail;all_goals first|(go_ret;exact⟨rfl,(j1 _).alloc s8 _⟩)|(exfalso;simp_all;done)|(exfalso;omega)
 ·cases g:Fk b 16 32768
  ·rw [MD M g];rw [g] at a;replace a:=T a;clear f H3;go_enter vw,vK;go_wp2_with fail;refine(a _).mono ?_;rintro e w' ⟨rfl,rfl⟩;go_wp2_with fail;all_goals first|(go_ret;exact⟨rfl,(j1 _).alloc s8 _⟩)|(exfalso;simp_all;done)|(exfalso;omega)
  ·rw [g] at a;replace a:=T a;cases j:stp d q c
   focus
    rw [j] at H3;replace H3:=T H3;cases h:Fk k 1 64
    focus
     rw [Mf (Or.inr rfl) g h];clear f g h j
    rotate_left
    focus
     rw [iK g h,qJ (by simp [j])];clear f g h j
    rotate_left
   rotate_left 2
   focus
    rw [j] at H3;replace H3:=T H3;cases h:Fk k 1 64
    focus
     rw [Mf (Or.inr rfl) g h];rw [h] at f;replace f:=T f;clear g h j
    rotate_left
    focus
     rw [iK g h,qk j];rw [h] at f;replace f:=T f;clear g h j
    rotate_left
   rotate_left 2
   all_goals
    go_enter vw,vK;go_wp2_with fail;refine(a _).mono ?_;rintro e w' ⟨rfl,rfl⟩;go_wp2_with fail;refine(H3 _).mono ?_;rintro e m ⟨rfl,i⟩;obtain⟨o,s⟩:=Yf i
   rotate_left;rotate_left
   focus go_wp2_with fail;refine(f _).mono ?_;rintro e w' ⟨rfl,rfl⟩
   rotate_left
   focus go_wp2_with fail;refine(f _).mono ?_;rintro e w' ⟨rfl,rfl⟩
   all_goals
    go_wp2_with fail;all_goals first|(go_ret;refine⟨rfl, ?_⟩;(repeat (with_reducible refine Below.setCell ?_ s8 _));exact((j1 _).alloc s8 _).trans (i.mono SZ))|(exfalso;simp_all;done)|(exfalso;omega)
end Go.Proofs.YtfnlfpcfkbdcmaaGreatDoor
