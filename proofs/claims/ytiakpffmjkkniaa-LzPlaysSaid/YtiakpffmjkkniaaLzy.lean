/-
  What tokens play: plain lists. No program is in sight here.
-/
import Derived.Test.YtiakpffmjkkniaaLzq
namespace Go.Proofs.Ytiakpffmjkkniaa
namespace Lzp
def copyN (d : Nat) : Nat → List UInt8 → List UInt8
  | 0, out => out
  | n+1, out => copyN d n (out ++ [out.getD (out.length - d) 0])
theorem copyN_len (d : Nat) : ∀ n out, (copyN d n out).length = out.length + n
  | 0, out => rfl
  | n+1, out => by
    show (copyN d n _).length = _
    rw [copyN_len d n, List.length_append, List.length_singleton]; omega
/-- tokens played behind what there is: the error's number, and the bytes -/
def playGo (most : Int) : List (Nat × Int × Int) → List UInt8 → Int × List UInt8
  | [], out => (0, out)
  | t :: r, out =>
    if mayB (t.1 : Int) t.2.1 t.2.2 = false then (7, [])
    else if (out.length : Int) < t.2.2 then (8, [])
    else if most - (out.length : Int) < max 1 t.2.1 then (6, [])
    else if t.2.1 = 0 then playGo most r (out ++ [UInt8.ofNat t.1])
    else playGo most r (copyN t.2.2.toNat t.2.1.toNat out)
theorem playGo_cons (most : Int) (t : Nat × Int × Int) (r : List (Nat × Int × Int)) (out : List UInt8) : playGo most (t :: r) out =
    (if mayB (t.1 : Int) t.2.1 t.2.2 = false then (7, [])
    else if (out.length : Int) < t.2.2 then (8, [])
    else if most - (out.length : Int) < max 1 t.2.1 then (6, [])
    else if t.2.1 = 0 then playGo most r (out ++ [UInt8.ofNat t.1])
    else playGo most r (copyN t.2.2.toNat t.2.1.toNat out)) := rfl
def play (most : Int) (l : List (Nat × Int × Int)) : Int × List UInt8 := if most < 0 then (13, []) else playGo most l []
theorem may_cases {lit len dist : Int} (h : mayB lit len dist = true) : (len = 0 ∧ dist = 0) ∨ (lit = 0 ∧ 3 ≤ len ∧ len ≤ 257 ∧ 1 ≤ dist ∧ dist ≤ 4095) := by
  unfold mayB at h
  split at h
  · rename_i h0; exact .inl ⟨h0, by simpa using h⟩
  · exact .inr (by simpa using h)
/-- a found token as one that is played -/
def it (t : Nat × Nat × Nat) : Nat × Int × Int := (t.1, (t.2.1 : Int), (t.2.2 : Int))

/-- the bytes from a place on, copied as long as they are alike -/
theorem copy_take (b : List UInt8) (d pos : Nat) (hd : 1 ≤ d) (hdp : d ≤ pos) : ∀ n, pos + n ≤ b.length → (∀ k, k < n → b.getD (pos - d + k) 0 = b.getD (pos + k) 0) → copyN d n (b.take pos) = b.take (pos + n) := by
  have key : ∀ n j, pos + j + n ≤ b.length → (∀ k, k < j + n → b.getD (pos - d + k) 0 = b.getD (pos + k) 0) → copyN d n (b.take (pos + j)) = b.take (pos + j + n) := by
    intro n
    induction n with
    | zero => intro j _ _; rfl
    | succ n ih =>
      intro j h1 h2
      show copyN d n (b.take (pos + j) ++ [(b.take (pos + j)).getD ((b.take (pos + j)).length - d) 0]) = _
      have hl : (b.take (pos + j)).length = pos + j := by rw [List.length_take]; omega
      have e1 : (b.take (pos + j)).getD ((b.take (pos + j)).length - d) 0 = b.getD (pos + j) 0 := by
        rw [hl, List.getD_eq_getElem?_getD, List.getElem?_take, if_pos (by omega), show pos + j - d = pos - d + j by omega, ← List.getD_eq_getElem?_getD]
        exact h2 j (by omega)
      have e2 : b.take (pos + j) ++ [b.getD (pos + j) 0] = b.take (pos + (j + 1)) := by
        rw [show pos + (j + 1) = pos + j + 1 by omega, List.take_add_one, List.getD_eq_getElem?_getD, List.getElem?_eq_getElem (show pos + j < b.length by omega)]; rfl
      rw [e1, e2, ih (j + 1) (by omega) (fun k hk => h2 k (by omega))]
      congr 1; omega
  intro n h1 h2
  exact key n 0 (by omega) (fun k hk => h2 k (by omega))

/-- the found tokens played from a place on -/
theorem play_from (b : List UInt8) (most : Int) : ∀ f pos, b.length - pos ≤ f → pos ≤ b.length →
    playGo most ((from_ b pos).map it) (b.take pos) = if most < (b.length : Int) ∧ pos < b.length then (6, []) else (0, b)
  | f, pos, hf, hp => by
    rcases Nat.lt_or_ge pos b.length with hlt | hge
    · match f with
      | 0 => omega
      | f+1 =>
        have hs := step_pos b pos
        have he := step_end b pos hlt
        have ih := play_from b most f (pos + step b pos) (by omega) he
        have hmay := one_may b pos
        have hl : (b.take pos).length = pos := by rw [List.length_take]; omega
        rw [from_step b pos hlt, List.map_cons]
        show (if mayB ((it (one b pos)).1 : Int) (it (one b pos)).2.1 (it (one b pos)).2.2 = false then _ else if ((b.take pos).length : Int) < (it (one b pos)).2.2 then _ else if most - ((b.take pos).length : Int) < max 1 (it (one b pos)).2.1 then _ else if (it (one b pos)).2.1 = 0 then playGo most ((from_ b (pos + step b pos)).map it) (b.take pos ++ [UInt8.ofNat (it (one b pos)).1]) else playGo most ((from_ b (pos + step b pos)).map it) (copyN (it (one b pos)).2.2.toNat (it (one b pos)).2.1.toNat (b.take pos))) = _
        rw [if_neg (by rw [show mayB ((it (one b pos)).1 : Int) (it (one b pos)).2.1 (it (one b pos)).2.2 = true from hmay]; simp), hl]
        by_cases h3 : 3 ≤ (tok b pos).1
        · have ho : one b pos = (0, (tok b pos).1, (tok b pos).2) := by unfold one; rw [if_pos h3]
          have hst : step b pos = (tok b pos).1 := by unfold step; rw [if_pos h3]
          have hd := best_dist b pos (win pos) (show 0 < (tok b pos).1 by omega)
          have hdl := (best_le b pos (win pos)).2
          have hw := win_le pos
          have hd1 : 1 ≤ (tok b pos).2 := hd.1
          have hd2 : (tok b pos).2 ≤ pos := by show (best b pos (win pos)).2 ≤ pos; omega
          have hml : (tok b pos).1 = mlen b (pos - (tok b pos).2) pos := hd.2
          rw [hst] at ih he
          rw [ho]
          show (if (pos : Int) < (((tok b pos).2 : Nat) : Int) then _ else if most - (pos : Int) < max 1 (((tok b pos).1 : Nat) : Int) then _ else if (((tok b pos).1 : Nat) : Int) = 0 then _ else playGo most ((from_ b (pos + step b pos)).map it) (copyN (((tok b pos).2 : Nat) : Int).toNat (((tok b pos).1 : Nat) : Int).toNat (b.take pos))) = _
          rw [if_neg (by omega)]
          have hcp : copyN (tok b pos).2 (tok b pos).1 (b.take pos) = b.take (pos + (tok b pos).1) := copy_take b _ pos hd1 hd2 _ he (fun k hk => by
            have := mlen_ok b (pos - (tok b pos).2) pos k (by rw [← hml]; exact hk)
            unfold ok at this
            simp only [Bool.and_eq_true, beq_iff_eq] at this
            exact this.2)
          by_cases hm : most - (pos : Int) < max 1 (((tok b pos).1 : Nat) : Int)
          · rw [if_pos hm, if_pos ⟨by omega, hlt⟩]
          · rw [if_neg hm, if_neg (by omega), Int.toNat_natCast, Int.toNat_natCast, hcp, hst, ih]
            by_cases hmb : most < (b.length : Int)
            · rw [if_pos ⟨hmb, by omega⟩, if_pos ⟨hmb, hlt⟩]
            · rw [if_neg (fun h => hmb h.1), if_neg (fun h => hmb h.1)]
        · have ho : one b pos = ((b.getD pos 0).toNat, 0, 0) := by unfold one; rw [if_neg h3]
          have hst : step b pos = 1 := by unfold step; rw [if_neg h3]
          rw [hst] at ih he
          rw [ho]
          show (if (pos : Int) < ((0 : Nat) : Int) then _ else if most - (pos : Int) < max 1 ((0 : Nat) : Int) then _ else if ((0 : Nat) : Int) = 0 then playGo most ((from_ b (pos + step b pos)).map it) (b.take pos ++ [UInt8.ofNat (b.getD pos 0).toNat]) else _) = _
          rw [if_neg (by omega)]
          have hcp : b.take pos ++ [UInt8.ofNat (b.getD pos 0).toNat] = b.take (pos + 1) := by
            rw [UInt8.ofNat_toNat, List.take_add_one, List.getD_eq_getElem?_getD, List.getElem?_eq_getElem hlt]; rfl
          by_cases hm : most - (pos : Int) < max 1 ((0 : Nat) : Int)
          · rw [if_pos hm, if_pos ⟨by omega, hlt⟩]
          · rw [if_neg hm, if_pos (by rfl), hcp, hst, ih]
            by_cases hmb : most < (b.length : Int)
            · rw [if_pos ⟨hmb, by omega⟩, if_pos ⟨hmb, hlt⟩]
            · rw [if_neg (fun h => hmb h.1), if_neg (fun h => hmb h.1)]
    · rw [from_end b pos hge, if_neg (fun h => by omega), List.take_of_length_le hge]; rfl
theorem play_find (b : List UInt8) (most : Int) (h0 : 0 ≤ most) : play most ((find b).map it) = if most < (b.length : Int) then (6, []) else (0, b) := by
  unfold play
  rw [if_neg (by omega), find_from]
  have h := play_from b most b.length 0 (by omega) (Nat.zero_le _)
  rw [List.take_zero] at h
  rw [h]
  by_cases hm : most < (b.length : Int)
  · rw [if_pos ⟨hm, by omega⟩, if_pos hm]
  · rw [if_neg (fun h => hm h.1), if_neg hm]
end Lzp
end Go.Proofs.Ytiakpffmjkkniaa
