/-
  Cauchy's matrices, plain: whatever rows, no one twice, of the identity with Cauchy's matrix below it have an inverse.
-/
import Derived.Test.YtbokbndphpdgoaaLin3
namespace Go.Proofs.Ytbokbndphpdgoaa.Lin
set_option linter.unusedVariables false
set_option linter.unusedSimpArgs false

def lsum (f : Nat → UInt8) : List Nat → UInt8
  | [] => 0
  | x :: r => f x ^^^ lsum f r
theorem lsum_congr {f g : Nat → UInt8} : ∀ l : List Nat, (∀ x ∈ l, f x = g x) → lsum f l = lsum g l
  | [], _ => rfl
  | x :: r, h => by rw [lsum, lsum, h x (List.mem_cons_self ..), lsum_congr r (fun y hy => h y (List.mem_cons_of_mem _ hy))]
theorem lsum_xor (f g : Nat → UInt8) : ∀ l, lsum (fun t => f t ^^^ g t) l = lsum f l ^^^ lsum g l
  | [] => (fx_self 0).symm
  | x :: r => by rw [lsum, lsum_xor f g r, xor4]; rfl
theorem lsum_mul (c : UInt8) (f : Nat → UInt8) : ∀ l, lsum (fun t => fm c (f t)) l = fm c (lsum f l)
  | [] => (fm_zero c).symm
  | x :: r => by rw [lsum, lsum_mul c f r, lsum, fm_xor]
theorem lsum_append (f : Nat → UInt8) : ∀ l m, lsum f (l ++ m) = lsum f l ^^^ lsum f m
  | [], m => by rw [List.nil_append]; exact (zero_fx _).symm
  | x :: r, m => by rw [List.cons_append, lsum, lsum_append f r m, lsum, fx_assoc]
theorem lsum_range (f : Nat → UInt8) : ∀ n, lsum f (List.range n) = sum f n
  | 0 => rfl
  | n + 1 => by rw [List.range_succ, lsum_append, lsum_range f n]; show _ ^^^ (f n ^^^ 0) = _; rw [fx_zero]; rfl
theorem lsum_filter (f : Nat → UInt8) (p : Nat → Bool) : ∀ l, (∀ x ∈ l, p x = false → f x = 0) → lsum f (l.filter p) = lsum f l
  | [], _ => rfl
  | x :: r, h => by
    have ih := lsum_filter f p r (fun y hy => h y (List.mem_cons_of_mem _ hy))
    cases hp : p x
    · rw [List.filter_cons_of_neg (by simp [hp]), ih, lsum, h x (List.mem_cons_self ..) hp, zero_fx]
    · rw [List.filter_cons_of_pos hp, lsum, lsum, ih]
theorem fx_ne {a b : UInt8} (h : a ≠ b) : a ^^^ b ≠ 0 := fun e => h (fx_cancel a b e)
theorem fi_ne {a : UInt8} (h : a ≠ 0) : fi a ≠ 0 := fun e => by
  have h1 := fm_fi a h
  rw [e, fm_zero] at h1
  exact absurd h1 (by decide)
theorem fm_ne {a b : UInt8} (h : fm a b = 0) (hb : b ≠ 0) : a = 0 := (fm_eq_zero a b h).resolve_right hb
theorem fi_add {p q : UInt8} (hp : p ≠ 0) (hq : q ≠ 0) : fi p ^^^ fi q = fm (fm (p ^^^ q) (fi p)) (fi q) := by
  have h1 : fm (fm p (fi p)) (fi q) = fi q := by rw [fm_fi p hp, one_fm]
  have h2 : fm (fm q (fi p)) (fi q) = fi p := by rw [fm_comm q, fm_assoc, fm_fi q hq, fm_one]
  rw [xor_fm, xor_fm, h1, h2, fx_comm]

/-- Cauchy: nothing but nothing is sent to nothing -/
theorem cauchy (a b : Nat → UInt8) : ∀ (xs ys : List Nat) (v : Nat → UInt8), xs.length = ys.length → xs.Pairwise (fun x x' => a x ≠ a x') → ys.Pairwise (fun y y' => b y ≠ b y') → (∀ x ∈ xs, ∀ y ∈ ys, a x ≠ b y) →
    (∀ x ∈ xs, lsum (fun y => fm (v y) (fi (a x ^^^ b y))) ys = 0) → ∀ y ∈ ys, v y = 0
  | _, [], _, _, _, _, _, _ => fun y hy => by cases hy
  | [], y0 :: ys, _, hl, _, _, _, _ => by simp at hl
  | x0 :: xs, y0 :: ys, v, hl, hx, hy, hxy, h => by
    have hx1 := (List.pairwise_cons.1 hx).1
    have hx2 := (List.pairwise_cons.1 hx).2
    have hy1 := (List.pairwise_cons.1 hy).1
    have hy2 := (List.pairwise_cons.1 hy).2
    have hne0 : ∀ y ∈ y0 :: ys, a x0 ^^^ b y ≠ 0 := fun y hy => fx_ne (hxy x0 (List.mem_cons_self ..) y hy)
    have hne : ∀ x ∈ xs, ∀ y ∈ y0 :: ys, a x ^^^ b y ≠ 0 := fun x hxm y hy => fx_ne (hxy x (List.mem_cons_of_mem _ hxm) y hy)
    obtain ⟨w, hw⟩ : ∃ w : Nat → UInt8, ∀ y, w y = fm (v y) (fi (a x0 ^^^ b y)) := ⟨_, fun _ => rfl⟩
    have hvw : ∀ y ∈ y0 :: ys, v y = fm (w y) (a x0 ^^^ b y) := fun y hy => by rw [hw, fm_assoc, fi_fm _ (hne0 y hy), fm_one]
    have h0 : w y0 ^^^ lsum w ys = 0 := by
      have := h x0 (List.mem_cons_self ..)
      rw [← lsum_congr (f := w) _ (fun y _ => hw y)] at this
      exact this
    have hw0 : w y0 = lsum w ys := fx_cancel _ _ h0
    have hall0 : lsum w (y0 :: ys) = 0 := h0
    have hS : ∀ x ∈ xs, lsum (fun y => fm (w y) (fi (a x ^^^ b y))) (y0 :: ys) = 0 := fun x hxm => by
      have hsum := h x (List.mem_cons_of_mem _ hxm)
      have e : ∀ y ∈ y0 :: ys, fm (v y) (fi (a x ^^^ b y)) = w y ^^^ fm (a x0 ^^^ a x) (fm (w y) (fi (a x ^^^ b y))) := fun y hy => by
        have hq := hne x hxm y hy
        have e1 : a x0 ^^^ b y = (a x ^^^ b y) ^^^ (a x0 ^^^ a x) := by
          rw [fx_comm (a x0) (a x), ← fx_assoc, fx_assoc (a x), fx_comm (b y), ← fx_assoc, fx_self, zero_fx, fx_comm]
        rw [hvw y hy, e1, fm_xor, xor_fm, fm_assoc, fm_fi _ hq, fm_one, fm_comm (w y) (a x0 ^^^ a x), fm_assoc]
      rw [lsum_congr _ e, lsum_xor, hall0, zero_fx, lsum_mul] at hsum
      rw [fm_comm] at hsum
      exact fm_ne hsum (fx_ne (hx1 x hxm))
    have hS2 : ∀ x ∈ xs, lsum (fun y => fm (fm (w y) (b y ^^^ b y0)) (fi (a x ^^^ b y))) ys = 0 := fun x hxm => by
      have hs := hS x hxm
      have hq0 := hne x hxm y0 (List.mem_cons_self ..)
      rw [lsum, hw0, fm_comm (lsum w ys), ← lsum_mul, ← lsum_xor] at hs
      have e : ∀ y ∈ ys, fm (fi (a x ^^^ b y0)) (w y) ^^^ fm (w y) (fi (a x ^^^ b y)) = fm (fi (a x ^^^ b y0)) (fm (fm (w y) (b y ^^^ b y0)) (fi (a x ^^^ b y))) := fun y hy => by
        have hq := hne x hxm y (List.mem_cons_of_mem _ hy)
        have e1 : (a x ^^^ b y) ^^^ (a x ^^^ b y0) = b y ^^^ b y0 := by
          rw [fx_comm (a x) (b y), fx_assoc, ← fx_assoc (a x), fx_self, zero_fx]
        rw [fm_comm (fi (a x ^^^ b y0)) (w y), ← fm_xor, fx_comm, fi_add hq hq0, e1]
        rw [fm_comm (fi (a x ^^^ b y0)) (fm (fm (w y) (b y ^^^ b y0)) (fi (a x ^^^ b y))), fm_assoc (w y), fm_assoc (w y)]
      rw [lsum_congr _ e, lsum_mul, fm_comm] at hs
      exact fm_ne hs (fi_ne hq0)
    have ih := cauchy a b xs ys (fun y => fm (w y) (b y ^^^ b y0)) (by simpa using hl) hx2 hy2 (fun x hxm y hym => hxy x (List.mem_cons_of_mem _ hxm) y (List.mem_cons_of_mem _ hym)) hS2
    have hwy : ∀ y ∈ ys, w y = 0 := fun y hym => fm_ne (ih y hym) (fx_ne (fun e => hy1 y hym e.symm))
    have hwy0 : w y0 = 0 := by
      rw [hw0, lsum_congr (g := fun _ => 0) ys hwy]
      have : ∀ l : List Nat, lsum (fun _ => 0) l = 0 := fun l => by
        induction l with
        | nil => rfl
        | cons x r ih => rw [lsum, ih, fx_self]
      exact this ys
    intro y hym
    rw [hvw y hym]
    rcases List.mem_cons.1 hym with e | e
    · rw [e, hwy0, zero_fm]
    · rw [hwy y e, zero_fm]

/-- the row number x of the identity with Cauchy's matrix below it -/
def wholeC (n x j : Nat) : UInt8 := if x < n then one x j else fi (UInt8.ofNat (x ^^^ j))
theorem ofNat_xor (x y : Nat) (hx : x < 256) (hy : y < 256) : UInt8.ofNat (x ^^^ y) = UInt8.ofNat x ^^^ UInt8.ofNat y := by
  apply u8_ext
  have hxy : x ^^^ y < 256 := Nat.xor_lt_two_pow (n := 8) hx hy
  rw [UInt8.toNat_xor, UInt8.toNat_ofNat', UInt8.toNat_ofNat', UInt8.toNat_ofNat', Nat.mod_eq_of_lt hxy, Nat.mod_eq_of_lt hx, Nat.mod_eq_of_lt hy]
theorem ofNat_ne {x y : Nat} (hx : x < 256) (hy : y < 256) (h : x ≠ y) : UInt8.ofNat x ≠ UInt8.ofNat y := fun e => h (by
  have := congrArg UInt8.toNat e
  rwa [UInt8.toNat_ofNat', UInt8.toNat_ofNat', Nat.mod_eq_of_lt hx, Nat.mod_eq_of_lt hy] at this)
theorem filter_both (p : Nat → Bool) (l : List Nat) : (l.filter p).length + (l.filter fun x => !p x).length = l.length := by
  induction l with
  | nil => rfl
  | cons x r ih =>
    cases hp : p x
    · rw [List.filter_cons_of_neg (by simp [hp]), List.filter_cons_of_pos (by simp [hp]), List.length_cons, List.length_cons]; omega
    · rw [List.filter_cons_of_pos hp, List.filter_cons_of_neg (by simp [hp]), List.length_cons, List.length_cons]; omega
theorem picked_inverse (n m : Nat) (P : List Nat) (hn : n + m ≤ 256) (hl : P.length = n) (hnd : P.Nodup) (hP : ∀ x ∈ P, x < n + m) : ∃ X, inverse n (fun i j => wholeC n (P.getD i 0) j) = some X := by
  cases hi : inverse n (fun i j => wholeC n (P.getD i 0) j) with
  | some X => exact ⟨X, rfl⟩
  | none =>
    exfalso
    obtain ⟨v, ⟨t0, ht0, hne⟩, h0⟩ := inverse_none hi
    apply hne
    have hrow : ∀ x ∈ P, sum (fun t => fm (wholeC n x t) (v t)) n = 0 := fun x hx => by
      obtain ⟨s, hs, rfl⟩ := List.getElem_of_mem hx
      have := h0 s (by omega)
      rw [List.getD_eq_getElem?_getD, List.getElem?_eq_getElem hs] at this
      exact this
    have hid : ∀ t, t < n → t ∈ P → v t = 0 := fun t ht htP => by
      have h1 := hrow t htP
      have e : sum (fun u => fm (wholeC n t u) (v u)) n = fm (wholeC n t t) (v t) := sum_one n ht (fun u hu hne => by
        unfold wholeC
        rw [if_pos ht, one_ne (Ne.symm hne), zero_fm])
      rw [e] at h1
      unfold wholeC at h1
      rw [if_pos ht, one_self, one_fm] at h1
      exact h1
    by_cases htP : t0 ∈ P
    · exact hid t0 ht0 htP
    · have hlen : (P.filter fun x => !decide (x < n)).length = ((List.range n).filter fun t => !decide (t ∈ P)).length := by
        have h1 := filter_both (fun x => decide (x < n)) P
        have h2 := filter_both (fun t => decide (t ∈ P)) (List.range n)
        rw [List.length_range] at h2
        have hp : (P.filter fun x => decide (x < n)).Perm ((List.range n).filter fun t => decide (t ∈ P)) := by
          rw [List.perm_ext_iff_of_nodup (hnd.filter _) (List.nodup_range.filter _)]
          intro x
          simp only [List.mem_filter, List.mem_range, decide_eq_true_eq]
          exact And.comm
        have h3 := hp.length_eq
        omega
      refine cauchy UInt8.ofNat UInt8.ofNat (P.filter fun x => !decide (x < n)) ((List.range n).filter fun t => !decide (t ∈ P)) v hlen ?_ ?_ ?_ ?_ t0 (List.mem_filter.2 ⟨List.mem_range.2 ht0, by simpa using htP⟩)
      · exact (hnd.filter _).imp_of_mem fun hx hx' hne => ofNat_ne (by have := hP _ (List.mem_filter.1 hx).1; omega) (by have := hP _ (List.mem_filter.1 hx').1; omega) hne
      · exact (List.nodup_range.filter _).imp_of_mem fun hx hx' hne => ofNat_ne (by have := List.mem_range.1 (List.mem_filter.1 hx).1; omega) (by have := List.mem_range.1 (List.mem_filter.1 hx').1; omega) hne
      · intro x hx y hy
        have h1 := List.mem_filter.1 hx
        have h2 := List.mem_range.1 (List.mem_filter.1 hy).1
        have h3 := hP x h1.1
        have h4 : ¬ x < n := by simpa using h1.2
        exact ofNat_ne (by omega) (by omega) (by omega)
      · intro x hx
        have h1 := List.mem_filter.1 hx
        have h3 := hP x h1.1
        have h4 : ¬ x < n := by simpa using h1.2
        rw [lsum_filter _ _ _ (fun y hy hf => by
          have hyP : y ∈ P := by simpa using hf
          rw [hid y (List.mem_range.1 hy) hyP, zero_fm]), lsum_range, ← hrow x h1.1]
        apply sum_congr
        intro t ht
        unfold wholeC
        rw [if_neg h4, ofNat_xor x t (by omega) (by omega), fm_comm]
end Go.Proofs.Ytbokbndphpdgoaa.Lin
