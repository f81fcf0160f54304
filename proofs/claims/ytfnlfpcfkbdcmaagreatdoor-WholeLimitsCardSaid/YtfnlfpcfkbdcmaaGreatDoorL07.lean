import Derived.Test.YtfnlfpcfkbdcmaaGreatDoorL03
set_option linter.unusedSimpArgs false
set_option linter.unusedVariables false
set_option maxRecDepth 100000
set_option maxHeartbeats 0
open Go.Proofs.Tryz
namespace Go.Proofs.YtfnlfpcfkbdcmaaGreatDoor
open Go.RowKit
variable {b c d k q v:Int}
theorem WE (h:v<1\/3<v):chk v b k d q c=4:=by unfold chk;rw [qk h]
theorem MD (h: ¬(v<1\/3<v)) (a:Vp b 16 32768=false):chk v b k d q c=9:=by unfold chk;rw [qJ h,qk a]
theorem lY (a:Vp b 16 32768=true):chk 1 b k d q c=if k=0/\d=0/\q=0/\c=0 then 0 else 9:=by
 unfold chk;rw [qJ uK,qJ (by simp [a]),qk rfl]
theorem Mf (h:v=2\/v=3) (a:Vp b 16 32768=true) (e:Vp k 1 64=false):chk v b k d q c=9:=by
 unfold chk;rw [qJ uK,qJ (by simp [a]),qJ uK,qk e]
theorem lK (a:Vp b 16 32768=true) (e:Vp k 1 64=true):chk 2 b k d q c=if d=0/\q=0/\c=0 then 0 else 9:=by
 unfold chk;rw [qJ uK,qJ (by simp [a]),qJ uK,qJ (by simp [e]),qk rfl]
theorem iK (a:Vp b 16 32768=true) (e:Vp k 1 64=true):chk 3 b k d q c=if stp d q c=true then 0 else 9:=by
 unfold chk;rw [qJ uK,qJ (by simp [a]),qJ uK,qJ (by simp [e]),qJ uK]
theorem Yf {W a:World} (c:Below W W a):(∀b o,b<W.heap.size->a.cell? ⟨b,o,none⟩=W.cell? ⟨b,o,none⟩)/\(∀b o,b<W.heap.size->a.frozen? ⟨b,o,none⟩=W.frozen? ⟨b,o,none⟩):=
 ⟨λb o h=>c.cell h,λb o h=>c.frozen h⟩
theorem JX (v b k d q c:Int) (p:Bool) (w:World) (t: -9223372036854775808<=d/\d<=9223372036854775807):
  Calls prog 26 #[v, .agg #[b,p,k,d,q,c]] w λe w'=>e= .returned (.int .i64 (chk v b k d q c))/\Below w.heap.size w w':=by
 have a:=λw=>Qp b 16 32768 w;have f:=λw=>Qp k 1 64 w;have H3:=λw=>Di b k d q c p w t;have n:v<1\/3<v\/v=1\/v=2\/v=3:=uK;rcases n with n|n|rfl|rfl|rfl
 ·rw [WE (Or.inl n)];clear f H3;generalize Vp b 16 32768=u at*;replace a:=qj a;go_enter vw,vK;go_wp2_with fail;refine(a _).mono ?_;rintro e w' ⟨rfl,rfl⟩;go_wp2_with fail;go_ret;exact⟨rfl,(z8 _).alloc s8 _⟩
 ·rw [WE (Or.inr n)];clear f H3;generalize Vp b 16 32768=u at*;replace a:=qj a;go_enter vw,vK;go_wp2_with fail;refine(a _).mono ?_;rintro e w' ⟨rfl,rfl⟩;go_wp2_with fail;go_ret;exact⟨rfl,(z8 _).alloc s8 _⟩
 ·clear f H3;cases g:Vp b 16 32768
  focus
   rw [MD uK g];rw [g] at a;replace a:=qj a
  rotate_left
  focus
   rw [lY g];rw [g] at a;replace a:=qj a;clear g;by_cases l:k=0/\d=0/\q=0/\c=0
   focus
    rw [qk l];obtain⟨rfl,rfl,rfl,rfl⟩:=l
   rotate_left
   ·rw [qJ l];go_enter vw,vK;go_wp2_with fail;refine(a _).mono ?_;rintro e w' ⟨rfl,rfl⟩;go_wp2_with fail;all_goals first|(go_ret;exact⟨rfl,(z8 _).alloc s8 _⟩)|(exfalso;simp_all;done)|(exfalso;omega)
  all_goals
   go_enter vw,vK;go_wp2_with fail;refine(a _).mono ?_;rintro e w' ⟨rfl,rfl⟩;go_wp2_with fail;go_ret;exact⟨rfl,(z8 _).alloc s8 _⟩
 ·clear H3;cases g:Vp b 16 32768
  ·rw [MD uK g];rw [g] at a;replace a:=qj a;clear f;go_enter vw,vK;go_wp2_with fail;refine(a _).mono ?_;rintro e w' ⟨rfl,rfl⟩;go_wp2_with fail;all_goals first|(go_ret;exact⟨rfl,(z8 _).alloc s8 _⟩)|(exfalso;simp_all;done)|(exfalso;omega)
  ·rw [g] at a;replace a:=qj a;cases h:Vp k 1 64
   focus
    rw [Mf (Or.inl rfl) g h];rw [h] at f;replace f:=qj f
   rotate_left
   focus
    rw [lK g h];rw [h] at f;replace f:=qj f;clear g h;by_cases l:d=0/\q=0/\c=0
    focus
     rw [qk l];obtain⟨rfl,rfl,rfl⟩:=l
    rotate_left
    focus rw [qJ l]
   all_goals
    go_enter vw,vK;go_wp2_with fail;refine(a _).mono ?_;rintro e w' ⟨rfl,rfl⟩;go_wp2_with fail;refine(f _).mono ?_;rintro e w' ⟨rfl,rfl⟩;go_wp2_with fail;all_goals first|(go_ret;exact⟨rfl,(z8 _).alloc s8 _⟩)|(exfalso;simp_all;done)|(exfalso;omega)
 ·cases g:Vp b 16 32768
  ·rw [MD uK g];rw [g] at a;replace a:=qj a;clear f H3;go_enter vw,vK;go_wp2_with fail;refine(a _).mono ?_;rintro e w' ⟨rfl,rfl⟩;go_wp2_with fail;all_goals first|(go_ret;exact⟨rfl,(z8 _).alloc s8 _⟩)|(exfalso;simp_all;done)|(exfalso;omega)
  ·rw [g] at a;replace a:=qj a;cases j:stp d q c
   focus
    rw [j] at H3;replace H3:=qj H3;cases h:Vp k 1 64
    focus
     rw [Mf (Or.inr rfl) g h];clear f g h j
    rotate_left
    focus
     rw [iK g h,qJ (by simp [j])];clear f g h j
    rotate_left
   rotate_left 2
   focus
    rw [j] at H3;replace H3:=qj H3;cases h:Vp k 1 64
    focus
     rw [Mf (Or.inr rfl) g h];rw [h] at f;replace f:=qj f;clear g h j
    rotate_left
    focus
     rw [iK g h,qk j];rw [h] at f;replace f:=qj f;clear g h j
    rotate_left
   rotate_left 2
   all_goals
    go_enter vw,vK;go_wp2_with fail;refine(a _).mono ?_;rintro e w' ⟨rfl,rfl⟩;go_wp2_with fail;refine(H3 _).mono ?_;rintro e m ⟨rfl,i⟩;obtain⟨o,s⟩:=Yf i
   rotate_left;rotate_left
   focus go_wp2_with fail;refine(f _).mono ?_;rintro e w' ⟨rfl,rfl⟩
   rotate_left
   focus go_wp2_with fail;refine(f _).mono ?_;rintro e w' ⟨rfl,rfl⟩
   all_goals
    go_wp2_with fail;all_goals first|(go_ret;refine⟨rfl, ?_⟩;(repeat (with_reducible refine Below.setCell ?_ s8 _));exact((z8 _).alloc s8 _).trans (i.mono SZ))|(exfalso;simp_all;done)|(exfalso;omega)
end Go.Proofs.YtfnlfpcfkbdcmaaGreatDoor
