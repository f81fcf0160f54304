/-
  Tokens of bytes as plain lists: how far two places are alike, the best distance, the tokens; chains of places. No program is in sight here.
-/
import Derived.KernelRfl
namespace Go.Proofs.Ytiakpffmjkkniaa
set_option linter.unusedSimpArgs false
set_option linter.unusedVariables false
namespace Lzp

def ok (b : List UInt8) (p at_ k : Nat) : Bool := decide (at_ + k < b.length) && (b.getD (p + k) 0 == b.getD (at_ + k) 0)
def mrun (b : List UInt8) (p at_ : Nat) : Nat → Nat → Nat
  | 0, k => k
  | f+1, k => if ok b p at_ k = true then mrun b p at_ f (k + 1) else k
/-- how many bytes are the same from two places on, 257 at most -/
def mlen (b : List UInt8) (p at_ : Nat) : Nat := mrun b p at_ 257 0

theorem mrun_ge (b : List UInt8) (p at_ : Nat) : ∀ f k, k ≤ mrun b p at_ f k
  | 0, k => Nat.le_refl k
  | f+1, k => by
    unfold mrun
    split
    · exact Nat.le_trans (Nat.le_succ k) (mrun_ge b p at_ f (k + 1))
    · exact Nat.le_refl k
theorem mrun_le (b : List UInt8) (p at_ : Nat) : ∀ f k, mrun b p at_ f k ≤ k + f
  | 0, k => Nat.le_refl k
  | f+1, k => by
    unfold mrun
    split
    · have := mrun_le b p at_ f (k + 1); omega
    · omega
theorem mrun_ok (b : List UInt8) (p at_ : Nat) : ∀ f k j, k ≤ j → j < mrun b p at_ f k → ok b p at_ j = true
  | 0, k, j, h1, h2 => absurd h2 (by unfold mrun; omega)
  | f+1, k, j, h1, h2 => by
    unfold mrun at h2
    split at h2
    · rename_i hk
      rcases Nat.eq_or_lt_of_le h1 with rfl | hlt
      · exact hk
      · exact mrun_ok b p at_ f (k + 1) j hlt h2
    · omega
theorem mrun_stop (b : List UInt8) (p at_ : Nat) : ∀ f k, mrun b p at_ f k < k + f → ok b p at_ (mrun b p at_ f k) = false
  | 0, k, h => absurd h (by unfold mrun; omega)
  | f+1, k, h => by
    unfold mrun at h ⊢
    split
    · rename_i hk
      rw [if_pos hk] at h
      exact mrun_stop b p at_ f (k + 1) (by omega)
    · rename_i hk
      simpa using hk
theorem mlen_le (b : List UInt8) (p at_ : Nat) : mlen b p at_ ≤ 257 := by
  have := mrun_le b p at_ 257 0; unfold mlen; omega
theorem mlen_ok (b : List UInt8) (p at_ j : Nat) (h : j < mlen b p at_) : ok b p at_ j = true := mrun_ok b p at_ 257 0 j (Nat.zero_le _) h
theorem mlen_stop (b : List UInt8) (p at_ : Nat) (h : mlen b p at_ < 257) : ok b p at_ (mlen b p at_) = false := mrun_stop b p at_ 257 0 (by unfold mlen at h; omega)
theorem mlen_end (b : List UInt8) (p at_ : Nat) (h : at_ ≤ b.length) : at_ + mlen b p at_ ≤ b.length := by
  rcases Nat.eq_zero_or_pos (mlen b p at_) with h0 | h0
  · omega
  · have := mlen_ok b p at_ (mlen b p at_ - 1) (by omega)
    unfold ok at this
    simp only [Bool.and_eq_true, decide_eq_true_eq] at this
    omega
/-- three bytes -/
def key (b : List UInt8) (i : Nat) : UInt8 × UInt8 × UInt8 := (b.getD i 0, b.getD (i + 1) 0, b.getD (i + 2) 0)
theorem mlen_key {b : List UInt8} {p at_ : Nat} (h : 3 ≤ mlen b p at_) : key b p = key b at_ := by
  have h0 := mlen_ok b p at_ 0 (by omega)
  have h1 := mlen_ok b p at_ 1 (by omega)
  have h2 := mlen_ok b p at_ 2 (by omega)
  unfold ok at h0 h1 h2
  simp only [Bool.and_eq_true, beq_iff_eq, Nat.add_zero] at h0 h1 h2
  unfold key
  rw [h0.2, h1.2, h2.2]
theorem key_mlen {b : List UInt8} {p at_ : Nat} (h : key b p = key b at_) (hl : at_ + 3 ≤ b.length) : 3 ≤ mlen b p at_ := by
  unfold key at h
  simp only [Prod.mk.injEq] at h
  obtain ⟨h0, h1, h2⟩ := h
  rcases Nat.lt_or_ge (mlen b p at_) 3 with hlt | hge
  · have hs := mlen_stop b p at_ (by omega)
    exfalso
    have hm : mlen b p at_ = 0 ∨ mlen b p at_ = 1 ∨ mlen b p at_ = 2 := by omega
    unfold ok at hs
    rcases hm with hm | hm | hm <;> rw [hm] at hs
    · rw [Nat.add_zero, Nat.add_zero, h0] at hs; simp at hs; omega
    · rw [h1] at hs; simp at hs; omega
    · rw [h2] at hs; simp at hs; omega
  · exact hge

/-- of the distances 1 .. D the nearest of those with most bytes: the bytes, and it -/
def best (b : List UInt8) (at_ : Nat) : Nat → Nat × Nat
  | 0 => (0, 0)
  | D+1 => if (best b at_ D).1 < mlen b (at_ - (D + 1)) at_ then (mlen b (at_ - (D + 1)) at_, D + 1) else best b at_ D
def win (at_ : Nat) : Nat := min 4095 at_
def tok (b : List UInt8) (at_ : Nat) : Nat × Nat := best b at_ (win at_)
theorem best_le (b : List UInt8) (at_ : Nat) : ∀ D, (best b at_ D).1 ≤ 257 ∧ (best b at_ D).2 ≤ D
  | 0 => ⟨by unfold best; omega, by unfold best; omega⟩
  | D+1 => by
    have h := best_le b at_ D
    unfold best
    split
    · exact ⟨mlen_le _ _ _, Nat.le_refl _⟩
    · exact ⟨h.1, by omega⟩
theorem best_dist (b : List UInt8) (at_ : Nat) : ∀ D, 0 < (best b at_ D).1 → 1 ≤ (best b at_ D).2 ∧ (best b at_ D).1 = mlen b (at_ - (best b at_ D).2) at_
  | 0, h => absurd h (by unfold best; omega)
  | D+1, h => by
    unfold best at h ⊢
    split
    · exact ⟨Nat.succ_le_succ (Nat.zero_le _), rfl⟩
    · rename_i hn
      rw [if_neg hn] at h
      exact best_dist b at_ D h
theorem best_end (b : List UInt8) (at_ : Nat) (h : at_ ≤ b.length) : ∀ D, at_ + (best b at_ D).1 ≤ b.length
  | 0 => by unfold best; omega
  | D+1 => by
    have h2 := best_end b at_ h D
    unfold best
    split
    · exact mlen_end _ _ _ h
    · exact h2
/-- no distance looked at has more bytes, and of those with as many the nearest is told -/
theorem best_max (b : List UInt8) (at_ : Nat) : ∀ D d, 1 ≤ d → d ≤ D → mlen b (at_ - d) at_ ≤ (best b at_ D).1 ∧ (mlen b (at_ - d) at_ = (best b at_ D).1 → (best b at_ D).2 ≤ d)
  | 0, d, h1, h2 => by omega
  | D+1, d, h1, h2 => by
    unfold best
    rcases Nat.lt_or_ge D d with hlt | hge
    · have hd : d = D + 1 := by omega
      subst hd
      split
      · exact ⟨Nat.le_refl _, fun _ => Nat.le_refl _⟩
      · rename_i hn
        exact ⟨Nat.le_of_not_lt hn, fun _ => Nat.le_trans (best_le b at_ D).2 (Nat.le_succ D)⟩
    · have ih := best_max b at_ D d h1 hge
      split
      · rename_i hn
        exact ⟨by omega, fun he => by omega⟩
      · exact ih
/-- chains only know places with the same three bytes: what they tell of distances 1 .. D -/
def Near (s : Nat × Nat) (t : Nat × Nat) : Prop := (3 ≤ s.1 ∧ t = s) ∨ (s.1 < 3 ∧ t = (0, 0))
theorem near_zero (b : List UInt8) (at_ : Nat) : Near (best b at_ 0) (0, 0) := .inr ⟨by unfold best; omega, rfl⟩
theorem near_skip {b : List UInt8} {at_ : Nat} {t : Nat × Nat} : ∀ (n D : Nat), (∀ d, D < d → d ≤ D + n → mlen b (at_ - d) at_ < 3) → Near (best b at_ D) t → Near (best b at_ (D + n)) t
  | 0, D, _, hn => hn
  | n+1, D, h, hn => by
    have ih := near_skip n D (fun d h1 h2 => h d h1 (by omega)) hn
    have hm := h (D + n + 1) (by omega) (by omega)
    show Near (best b at_ (D + n + 1)) t
    unfold best
    rcases ih with ⟨h3, rfl⟩ | ⟨h3, rfl⟩
    · rw [if_neg (by omega)]; exact .inl ⟨h3, rfl⟩
    · split
      · exact .inr ⟨hm, rfl⟩
      · exact .inr ⟨h3, rfl⟩
theorem near_top {b : List UInt8} {at_ D : Nat} {t : Nat × Nat} (hn : Near (best b at_ D) t) (ht : 257 ≤ t.1) : ∀ n, Near (best b at_ (D + n)) t
  | 0 => hn
  | n+1 => by
    have ih := near_top hn ht n
    show Near (best b at_ (D + n + 1)) t
    unfold best
    have hm := mlen_le b (at_ - (D + n + 1)) at_
    rcases ih with ⟨h3, rfl⟩ | ⟨_, rfl⟩
    · rw [if_neg (by omega)]; exact .inl ⟨h3, rfl⟩
    · exact absurd ht (by simp)
theorem near_hit {b : List UInt8} {at_ D : Nat} {t : Nat × Nat} (hn : Near (best b at_ D) t) (hm : 3 ≤ mlen b (at_ - (D + 1)) at_) :
    Near (best b at_ (D + 1)) (if t.1 < mlen b (at_ - (D + 1)) at_ then (mlen b (at_ - (D + 1)) at_, D + 1) else t) := by
  unfold best
  rcases hn with ⟨h3, rfl⟩ | ⟨h3, rfl⟩
  · split
    · exact .inl ⟨hm, rfl⟩
    · exact .inl ⟨h3, rfl⟩
  · rw [if_pos (by omega), if_pos (by show 0 < _; omega)]
    exact .inl ⟨hm, rfl⟩

/-! chains -/
/-- the last of the first m places that has these three bytes -/
def last (b : List UInt8) : Nat → UInt8 × UInt8 × UInt8 → Option Nat
  | 0, _ => none
  | m+1, k => if m + 3 ≤ b.length ∧ key b m = k then some m else last b m k
theorem last_some {b : List UInt8} {k : UInt8 × UInt8 × UInt8} : ∀ {m p : Nat}, last b m k = some p → p < m ∧ p + 3 ≤ b.length ∧ key b p = k ∧ ∀ q, p < q → q < m → q + 3 ≤ b.length → key b q ≠ k
  | 0, p, h => by cases h
  | m+1, p, h => by
    unfold last at h
    split at h
    · rename_i hc
      cases h
      exact ⟨Nat.lt_succ_self _, hc.1, hc.2, fun q h1 h2 => by omega⟩
    · rename_i hc
      obtain ⟨h1, h2, h3, h4⟩ := last_some h
      refine ⟨by omega, h2, h3, fun q hq1 hq2 hq3 hk => ?_⟩
      rcases Nat.lt_or_ge q m with hlt | hge
      · exact h4 q hq1 hlt hq3 hk
      · have : q = m := by omega
        subst this
        exact hc ⟨hq3, hk⟩
theorem last_none {b : List UInt8} {k : UInt8 × UInt8 × UInt8} : ∀ {m : Nat}, last b m k = none → ∀ q, q < m → q + 3 ≤ b.length → key b q ≠ k
  | 0, _, q, h, _ => by omega
  | m+1, h, q, hq, hl => by
    unfold last at h
    split at h
    · cases h
    · rename_i hc
      intro hk
      rcases Nat.lt_or_ge q m with hlt | hge
      · exact last_none h q hlt hl hk
      · have : q = m := by omega
        subst this
        exact hc ⟨hl, hk⟩
/-- a place, or none, as a number -/
def num : Option Nat → Int
  | some p => (p : Int)
  | none => -1
/-- of each of the first m places the one ahead with the same three bytes -/
def prev (b : List UInt8) (p : Nat) : Int := if p + 3 ≤ b.length then num (last b p (key b p)) else -1
def prevs (b : List UInt8) (m : Nat) : List Int := (List.range m).map (prev b)
theorem prevs_succ (b : List UInt8) (m : Nat) : prevs b (m + 1) = prevs b m ++ [prev b m] := by simp [prevs, List.range_succ]
theorem prevs_len (b : List UInt8) (m : Nat) : (prevs b m).length = m := by simp [prevs]
theorem prevs_at (b : List UInt8) (m p : Nat) (h : p < m) : (prevs b m)[p]? = some (prev b p) := by
  unfold prevs; rw [List.getElem?_map, List.getElem?_range h]; rfl

/-- the state of the search: places from q on are done; the next one is p -/
theorem near_next {b : List UInt8} {at_ q p : Nat} {t : Nat × Nat} (hl : at_ + 3 ≤ b.length) (hq : q ≤ at_) (hn : Near (best b at_ (at_ - q)) t) (hp : last b q (key b at_) = some p) :
    p < q ∧ 3 ≤ mlen b p at_ ∧ Near (best b at_ (at_ - p)) (if t.1 < mlen b p at_ then (mlen b p at_, at_ - p) else t) := by
  obtain ⟨h1, h2, h3, h4⟩ := last_some hp
  have hm : 3 ≤ mlen b p at_ := key_mlen h3 hl
  refine ⟨h1, hm, ?_⟩
  have hs := near_skip (t := t) (q - 1 - p) (at_ - q) (b := b) (at_ := at_) (fun d hd1 hd2 => by
    rcases Nat.lt_or_ge (mlen b (at_ - d) at_) 3 with h | h
    · exact h
    · exact absurd (mlen_key h) (h4 (at_ - d) (by omega) (by omega) (by omega))) hn
  have e : at_ - q + (q - 1 - p) + 1 = at_ - p := by omega
  have e2 : at_ - (at_ - q + (q - 1 - p) + 1) = p := by omega
  have hh := near_hit hs (by rw [e2]; exact hm)
  rw [e2, e] at hh
  exact hh
theorem near_done_none {b : List UInt8} {at_ q : Nat} {t : Nat × Nat} (hl : at_ + 3 ≤ b.length) (hq : q ≤ at_) (hw : at_ - q ≤ win at_) (hn : Near (best b at_ (at_ - q)) t) (hp : last b q (key b at_) = none) : Near (tok b at_) t := by
  have hs := near_skip (t := t) (win at_ - (at_ - q)) (at_ - q) (b := b) (at_ := at_) (fun d hd1 hd2 => by
    rcases Nat.lt_or_ge (mlen b (at_ - d) at_) 3 with h | h
    · exact h
    · have hwa : win at_ ≤ at_ := Nat.min_le_right _ _
      exact absurd (mlen_key h) (last_none hp (at_ - d) (by omega) (by omega))) hn
  rw [show at_ - q + (win at_ - (at_ - q)) = win at_ by omega] at hs
  exact hs
theorem near_done_far {b : List UInt8} {at_ q p : Nat} {t : Nat × Nat} (hl : at_ + 3 ≤ b.length) (hq : q ≤ at_) (hw : at_ - q ≤ win at_) (hn : Near (best b at_ (at_ - q)) t) (hp : last b q (key b at_) = some p) (hf : 4095 < at_ - p) : Near (tok b at_) t := by
  obtain ⟨h1, h2, h3, h4⟩ := last_some hp
  have hw2 : win at_ = 4095 := by unfold win; omega
  have hs := near_skip (t := t) (win at_ - (at_ - q)) (at_ - q) (b := b) (at_ := at_) (fun d hd1 hd2 => by
    rcases Nat.lt_or_ge (mlen b (at_ - d) at_) 3 with h | h
    · exact h
    · exact absurd (mlen_key h) (h4 (at_ - d) (by omega) (by omega) (by omega))) hn
  rw [show at_ - q + (win at_ - (at_ - q)) = win at_ by omega] at hs
  exact hs
theorem near_done_top {b : List UInt8} {at_ q : Nat} {t : Nat × Nat} (hw : at_ - q ≤ win at_) (hn : Near (best b at_ (at_ - q)) t) (ht : 257 ≤ t.1) : Near (tok b at_) t := by
  have hs := near_top hn ht (win at_ - (at_ - q))
  rw [show at_ - q + (win at_ - (at_ - q)) = win at_ by omega] at hs
  exact hs
theorem near_short {b : List UInt8} {at_ : Nat} (hl : b.length < at_ + 3) (h : at_ ≤ b.length) : Near (tok b at_) (0, 0) := by
  have := best_end b at_ h (win at_)
  exact .inr ⟨by unfold tok; omega, rfl⟩

/-! tokens: a byte's number, how many, how far -/
def step (b : List UInt8) (at_ : Nat) : Nat := if 3 ≤ (tok b at_).1 then (tok b at_).1 else 1
def one (b : List UInt8) (at_ : Nat) : Nat × Nat × Nat := if 3 ≤ (tok b at_).1 then (0, (tok b at_).1, (tok b at_).2) else ((b.getD at_ 0).toNat, 0, 0)
def toks (b : List UInt8) : Nat → Nat → List (Nat × Nat × Nat)
  | 0, _ => []
  | f+1, at_ => if at_ < b.length then one b at_ :: toks b f (at_ + step b at_) else []
def find (b : List UInt8) : List (Nat × Nat × Nat) := toks b b.length 0
theorem step_pos (b : List UInt8) (at_ : Nat) : 1 ≤ step b at_ := by unfold step; split <;> omega
theorem step_end (b : List UInt8) (at_ : Nat) (h : at_ < b.length) : at_ + step b at_ ≤ b.length := by
  unfold step
  split
  · exact best_end b at_ (by omega) _
  · omega
theorem toks_fuel (b : List UInt8) : ∀ f g at_, b.length - at_ ≤ f → b.length - at_ ≤ g → toks b f at_ = toks b g at_
  | 0, 0, _, _, _ => rfl
  | 0, g+1, at_, h, _ => by unfold toks; rw [if_neg (by omega)]
  | f+1, 0, at_, _, h => by unfold toks; rw [if_neg (by omega)]
  | f+1, g+1, at_, h1, h2 => by
    unfold toks
    split
    · have := step_pos b at_
      rw [toks_fuel b f g _ (by omega) (by omega)]
    · rfl
/-- the tokens from a place on -/
def from_ (b : List UInt8) (at_ : Nat) : List (Nat × Nat × Nat) := toks b b.length at_
theorem from_end (b : List UInt8) (at_ : Nat) (h : b.length ≤ at_) : from_ b at_ = [] := by
  unfold from_
  rw [toks_fuel b b.length 0 at_ (by omega) (by omega)]; rfl
theorem from_step (b : List UInt8) (at_ : Nat) (h : at_ < b.length) : from_ b at_ = one b at_ :: from_ b (at_ + step b at_) := by
  have := step_pos b at_
  unfold from_
  obtain ⟨m, hm⟩ : ∃ m, b.length = m + 1 := ⟨b.length - 1, by omega⟩
  rw [toks_fuel b b.length (m + 1) at_ (by omega) (by omega)]
  show (if at_ < b.length then one b at_ :: toks b m (at_ + step b at_) else []) = _
  rw [if_pos h, toks_fuel b m b.length _ (by omega) (by omega)]
theorem toks_len (b : List UInt8) : ∀ f at_, (toks b f at_).length ≤ f
  | 0, _ => Nat.le_refl 0
  | f+1, at_ => by
    unfold toks
    split
    · have := toks_len b f (at_ + step b at_)
      simp only [List.length_cons]; omega
    · exact Nat.zero_le _
theorem find_len (b : List UInt8) : (find b).length ≤ b.length := toks_len b b.length 0
theorem find_from (b : List UInt8) : find b = from_ b 0 := rfl
end Lzp
end Go.Proofs.Ytiakpffmjkkniaa
