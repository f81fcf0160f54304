/-
  A matrix and what the same steps make of another one: clear: walked.
-/
import Derived.Test.YtbokbndphpdgoaaMatwk3
namespace Go.Proofs.Ytbokbndphpdgoaa
set_option linter.unusedSimpArgs false
set_option linter.unusedVariables false
open Go.RowKit

/-- the pair at block g -/
structure Pw (W : World) (base g R C : Nat) (A : Option Addr) (n k : Nat) (f : Nat → Nat → UInt8) (A' : Option Addr) (n' k' : Nat) (f' : Nat → Nat → UInt8) : Prop where
  a : Wk W base g 0 R C A n k f
  b : Wk W base g 3 R R A' n' k' f'
  ne : ∀ x y, A = some x → A' = some y → x.block ≠ y.block
theorem Pw.below {W W' : World} {base g R C n k n' k' : Nat} {A A' : Option Addr} {f f' : Nat → Nat → UInt8} (h : Pw W base g R C A n k f A' n' k' f') (hB : Below W.heap.size W W') : Pw W' base g R C A n k f A' n' k' f' := ⟨h.a.below hB, h.b.below hB, h.ne⟩
theorem Pw.opA {W W' : World} {base g R C n k n' k' : Nat} {A A' : Option Addr} {f f' f2 : Nat → Nat → UInt8} (h : Pw W base g R C A n k f A' n' k' f') (ha : Wk W' base g 0 R C A n k f2) (hg : W.grownBy W' (A.map (·.block))) : Pw W' base g R C A n k f2 A' n' k' f' :=
  ⟨ha, h.b.grown hg h.a.ne (fun y hy e => by
    cases A with
    | none => simp at e
    | some x => simp at e; exact h.ne x y rfl hy e), h.ne⟩
theorem Pw.opB {W W' : World} {base g R C n k n' k' : Nat} {A A' : Option Addr} {f f' f2 : Nat → Nat → UInt8} (h : Pw W base g R C A n k f A' n' k' f') (hb : Wk W' base g 3 R R A' n' k' f2) (hg : W.grownBy W' (A'.map (·.block))) : Pw W' base g R C A n k f A' n' k' f2 :=
  ⟨h.a.grown hg h.b.ne (fun x hx e => by
    cases A' with
    | none => simp at e
    | some y => simp at e; exact h.ne x y hx rfl e.symm), hb, h.ne⟩
theorem Pw.eqf {W : World} {base g R C n k n' k' : Nat} {A A' : Option Addr} {f f' f2 f2' : Nat → Nat → UInt8} (h : Pw W base g R C A n k f A' n' k' f') (e : ∀ i j, i < R → f i j = f2 i j) (e' : ∀ i j, i < R → f' i j = f2' i j) : Pw W base g R C A n k f2 A' n' k' f2' := ⟨h.a.eqf (fun i j hi _ => e i j hi), h.b.eqf (fun i j hi _ => e' i j hi), h.ne⟩
theorem Wk.frame {W W' w : World} {base g o R C n k : Nat} {A : Option Addr} {f : Nat → Nat → UInt8} (h : Wk W base g o R C A n k f) (hB : Below base w W) (hg : W.grownBy W' (A.map (·.block))) : Below base w W' :=
  hB.grown hg h.bs (fun j hj => by
    cases A with
    | none => simp at hj
    | some x =>
      simp at hj
      have := (h.lt x rfl).1
      omega)
theorem Pw.more {W W' w : World} {base g R C n k n' k' : Nat} {A A' : Option Addr} {f f' : Nat → Nat → UInt8} (h : Pw W base g R C A n k f A' n' k' f') (hB : Below base w W) (hk : Below W.heap.size W W') : Below base w W' := hB.trans (hk.mono h.a.bs)

theorem wrow_at {w : World} {base g o R C n k : Nat} {A : Option Addr} {f : Nat → Nat → UInt8} (h : Wk w base g o R C A n k f) (ho : o = 0 ∨ o = 3) (i col : Nat) (hR : R ≤ 255) (hC : C ≤ 255) (hi : i < R) (hc : col < C) :
    Calls Try.prog 50 #[.pointer (some ⟨g, o, none⟩), .int .i64 i] w fun e w' => ∃ ad, e = .returned (.slice (some ad) C (k - i * C)) ∧ w'.cell? (ad.add col) = some (.int .u8 ((f i col).toNat : Int)) ∧ Below w.heap.size w w' := by
  obtain ⟨ad, b, hA, hlt, hb, ec⟩ := (h.reads hi).byte (k := col) hc
  rw [rowF_get _ _ _ hc] at hb
  injection hb with hb
  subst hb
  have := wrow_any h ho i hR hC hi
  rw [hA] at this
  exact this.mono fun e w' hr => ⟨ad, hr.1, (hr.2.cell (p := ad.add col) (by rw [block_of_add]; exact hlt)).trans ec, hr.2⟩

/-- the rows below kk are cleared, but the row at -/
def clrF (at_ kk : Nat) (D : Nat → UInt8) (F : Nat → Nat → UInt8) (r t : Nat) : UInt8 := if r < kk ∧ r ≠ at_ then F r t ^^^ fm (D r) (F at_ t) else F r t
theorem clrF_zero (at_ : Nat) (D : Nat → UInt8) (F : Nat → Nat → UInt8) (r t : Nat) : F r t = clrF at_ 0 D F r t := by
  unfold clrF
  rw [if_neg (by omega)]
theorem clrF_here (at_ kk : Nat) (D : Nat → UInt8) (F : Nat → Nat → UInt8) (t : Nat) : clrF at_ kk D F kk t = F kk t := by
  unfold clrF
  rw [if_neg (by omega)]
theorem clrF_skip (at_ kk : Nat) (D : Nat → UInt8) (F : Nat → Nat → UInt8) (h : kk = at_ ∨ D kk = 0) (r t : Nat) : clrF at_ kk D F r t = clrF at_ (kk + 1) D F r t := by
  unfold clrF
  by_cases h1 : r = kk
  · subst h1
    rw [if_neg (by omega)]
    rcases h with h | h
    · rw [if_neg (by omega)]
    · by_cases h2 : r = at_
      · rw [if_neg (by omega)]
      · rw [if_pos ⟨by omega, h2⟩, h, zero_fm, fx_zero]
  · by_cases h2 : r < kk ∧ r ≠ at_
    · rw [if_pos h2, if_pos ⟨by omega, h2.2⟩]
    · rw [if_neg h2, if_neg (by omega)]
theorem clrF_add (at_ kk : Nat) (D : Nat → UInt8) (F : Nat → Nat → UInt8) (h : kk ≠ at_) (r t : Nat) : addF kk (D kk) at_ (clrF at_ kk D F) r t = clrF at_ (kk + 1) D F r t := by
  unfold addF
  by_cases h1 : r = kk
  · subst h1
    rw [if_pos rfl, clrF_here]
    unfold clrF
    rw [if_neg (by omega), if_pos ⟨by omega, h⟩]
  · rw [if_neg h1]
    unfold clrF
    by_cases h2 : r < kk ∧ r ≠ at_
    · rw [if_pos h2, if_pos ⟨by omega, h2.2⟩]
    · rw [if_neg h2, if_neg (by omega)]
theorem clrF_end (at_ R col p : Nat) (W X : Nat → Nat → UInt8) (r t : Nat) (hr : r < R) : clrF at_ R (fun r => Lin.scaleF at_ (fi (Lin.swapF at_ p W at_ col)) (Lin.swapF at_ p W) r col) (Lin.scaleF at_ (fi (Lin.swapF at_ p W at_ col)) (Lin.swapF at_ p X)) r t = Lin.stepW at_ col p W X r t := by
  unfold clrF Lin.stepW Lin.clearF
  by_cases h1 : r = at_
  · rw [if_neg (by omega), if_pos h1]
  · rw [if_pos ⟨hr, h1⟩, if_neg h1]

set_option maxRecDepth 100000 in
set_option maxHeartbeats 4000000 in
theorem clear_any {w : World} {base g R C n k n' k' : Nat} {A A' : Option Addr} {f f' : Nat → Nat → UInt8} (h : Pw w base g R C A n k f A' n' k' f') (at_ col : Nat) (hR : R ≤ 255) (hC : C ≤ 255) (hat : at_ < R) (hcol : col < C) :
    Calls Try.prog 44 #[.pointer (some ⟨g, 0, none⟩), .int .i64 at_, .int .i64 col] w fun e w' =>
      e = .returned (.bool (decide (Lin.pivot (fun t => f t col) R at_ < R))) ∧ Below base w w' ∧
      Pw w' base g R C A n k (if Lin.pivot (fun t => f t col) R at_ < R then Lin.stepW at_ col (Lin.pivot (fun t => f t col) R at_) f f else f) A' n' k' (if Lin.pivot (fun t => f t col) R at_ < R then Lin.stepW at_ col (Lin.pivot (fun t => f t col) R at_) f f' else f') := by
  have PS := Lin.pivot_spec (fun t => f t col) (Nat.le_of_lt hat)
  generalize Lin.pivot (fun t => f t col) R at_ = p at *
  obtain ⟨p1, p2, p3, p4⟩ := PS
  replace p3 := Lib.hid p3; replace p4 := Lib.hid p4
  have H := Lib.hid h
  have RA := Lib.hid (fun W f1 f2 i (hW : Pw W base g R C A n k f1 A' n' k' f2) (hi : i < R) => wrow_at hW.a (.inl rfl) i col hR hC hi hcol)
  have SA := Lib.hid (fun W f1 f2 i j (hW : Pw W base g R C A n k f1 A' n' k' f2) (hi : i < R) (hj : j < R) => swap_any hW.a (.inl rfl) i j hR hC hi hj)
  have SB := Lib.hid (fun W f1 f2 i j (hW : Pw W base g R C A n k f1 A' n' k' f2) (hi : i < R) (hj : j < R) => swap_any hW.b (.inr rfl) i j hR hR hi hj)
  have CA := Lib.hid (fun W f1 f2 i c (hW : Pw W base g R C A n k f1 A' n' k' f2) (hi : i < R) => scale_any hW.a (.inl rfl) i c hR hC hi)
  have CB := Lib.hid (fun W f1 f2 i c (hW : Pw W base g R C A n k f1 A' n' k' f2) (hi : i < R) => scale_any hW.b (.inr rfl) i c hR hR hi)
  have DA := Lib.hid (fun W f1 f2 i c j (hW : Pw W base g R C A n k f1 A' n' k' f2) (hi : i < R) (hj : j < R) => wadd_any hW.a (.inl rfl) i c j hR hC hi hj)
  have DB := Lib.hid (fun W f1 f2 i c j (hW : Pw W base g R C A n k f1 A' n' k' f2) (hi : i < R) (hj : j < R) => wadd_any hW.b (.inr rfl) i c j hR hR hi hj)
  have IV := Lib.hid (fun W (a : UInt8) => inv_any a.toNat W a.toNat_lt)
  have CR := Lib.hid (fun W f1 f2 (hW : Pw W base g R C A n k f1 A' n' k' f2) => hW.a.c0)
  have HCol := Lib.hid hcol
  have colb : col < 255 := by omega
  clear h hC
  go_enter Try.func44, Try.ntmps44
  go_wp2_with fail
  go_loopw [7] (fun v7 wr => ∃ i : Nat, v7 = .int .i64 i ∧ at_ ≤ i ∧ i ≤ p ∧ Hid (Pw wr base g R C A n k f A' n' k' f') ∧ Hid (Below base w wr)) (fun v7 _ => p - (intOf v7).toNat)
  case atStart => exact ⟨at_, rfl, by omega, p1, H, Below.refl _ _⟩
  case round =>
    clear H
    obtain ⟨i, rfl, hi1, hi2, HP, HB⟩ := hrel
    have r0 := CR.out _ _ _ HP.out
    by_cases hip : i < p
    · have hiR : i < R := by omega
      have hiR' : (i : Int) < (R : Int) := by omega
      have hz : (f i col).toNat = 0 := by have h0 : f i col = 0 := p3.out i hi1 hip; rw [h0]; rfl
      have dlt : decide ((i : Int) < (R : Int)) = true := by simpa using hiR'
      have RAi := RA.out wr f f' i HP.out hiR
      rw [hz] at RAi
      replace RAi := Lib.hid RAi
      go_wp2_with fail
      refine RAi.out.mono ?_; rintro e w1 ⟨ad, rfl, ec, hB1⟩
      have HB1 := Lib.hid (HP.out.more HB.out hB1)
      have HP1 := Lib.hid (HP.out.below hB1)
      clear hB1 HP HB r0
      go_wp2_with fail
      go_roundw
      case rel => exact ⟨i + 1, by go_num, by omega, by omega, HP1, HB1⟩
      case measure => simp [intOf]; omega
    · have hip2 : i = p := by omega
      subst hip2
      by_cases hpR : i < R
      · have hiR' : (i : Int) < (R : Int) := by omega
        have hne : ¬ (i : Int) = (R : Int) := by omega
        have dlt : decide ((i : Int) < (R : Int)) = true := by simpa using hiR'
        have hz0 := p4.out hpR
        have hz : ¬ (f i col).toNat = 0 := fun e => hz0 (u8_ext (by rw [e]; rfl))
        have hzI : ¬ ((f i col).toNat : Int) = 0 := by omega
        have RAi := Lib.hid (RA.out wr f f' i HP.out hpR)
        replace hz0 := Lib.hid hz0
        generalize hfv : (f i col).toNat = fv at *
        replace hfv := Lib.hid hfv
        go_wp2_with fail
        refine RAi.out.mono ?_; rintro e w1 ⟨ad, rfl, ec, hB1⟩
        have HB1 := Lib.hid (HP.out.more HB.out hB1)
        have HP1 := Lib.hid (HP.out.below hB1)
        clear hB1 HP HB r0 RAi
        have r1 := CR.out _ _ _ HP1.out
        go_wp2_with fail
        have e0 : Lin.swapF at_ i f at_ col = f i col := if_pos rfl
        have SAi := Lib.hid (fun W hW => SA.out W f f' at_ i hW (by omega) hpR)
        have SBi := Lib.hid (fun W hW => SB.out W (Lin.swapF at_ i f) f' at_ i hW (by omega) hpR)
        have haR : at_ < R := by omega
        go_wp2_with fail
        refine (SAi.out _ HP1.out).mono ?_; rintro e w2 ⟨rfl, hW2, hg2⟩
        have HP2 := Lib.hid (HP1.out.opA hW2 hg2)
        have HB2 := Lib.hid (HP1.out.a.frame HB1.out hg2)
        clear hW2 hg2 HP1 HB1 r1
        go_wp2_with fail
        refine (SBi.out _ HP2.out).mono ?_; rintro e w3 ⟨rfl, hW3, hg3⟩
        have HP3 := Lib.hid (HP2.out.opB hW3 hg3)
        have HB3 := Lib.hid (HP2.out.b.frame HB2.out hg3)
        clear hW3 hg3 HP2 HB2 SAi SBi
        obtain ⟨a0, ha0⟩ : ∃ a0, Hid (Lin.swapF at_ i f at_ col = a0) := ⟨_, rfl⟩
        have RAt := RA.out _ _ _ at_ HP3.out haR
        rw [ha0.out] at RAt
        replace RAt := Lib.hid RAt
        have IVa := IV.out
        have IVa := Lib.hid (fun W => IVa W a0)
        rw [← fi_toNat] at IVa
        have hx8 := a0.toNat_lt
        have CAi := Lib.hid (fun W hW => CA.out W (Lin.swapF at_ i f) (Lin.swapF at_ i f') at_ (fi a0) hW haR)
        have CBi := Lib.hid (fun W hW => CB.out W (Lin.scaleF at_ (fi a0) (Lin.swapF at_ i f)) (Lin.swapF at_ i f') at_ (fi a0) hW haR)
        have hy8 := (fi a0).toNat_lt
        go_wp2_with fail
        refine RAt.out.mono ?_; rintro e w4 ⟨ad2, rfl, ec2, hB4⟩
        have HB4 := Lib.hid (HP3.out.more HB3.out hB4)
        have HP4 := Lib.hid (HP3.out.below hB4)
        clear hB4 HP3 HB3 RAt
        go_wp2_with fail; refine (IVa.out _).mono ?_; rintro e w' ⟨rfl, rfl⟩
        clear IVa ec2
        go_wp2_with fail
        refine (CAi.out _ HP4.out).mono ?_; rintro e w5 ⟨rfl, hW5, hg5⟩
        have HP5 := Lib.hid (HP4.out.opA hW5 hg5)
        have HB5 := Lib.hid (HP4.out.a.frame HB4.out hg5)
        clear hW5 hg5 HP4 HB4
        go_wp2_with fail
        refine (CBi.out _ HP5.out).mono ?_; rintro e w6 ⟨rfl, hW6, hg6⟩
        have HP6 := Lib.hid (HP5.out.opB hW6 hg6)
        have HB6 := Lib.hid (HP5.out.b.frame HB5.out hg6)
        clear hW6 hg6 HP5 HB5 CAi CBi
        have FE := Lib.hid (fun r t hr => clrF_end at_ R col i f f r t hr)
        have FE' := Lib.hid (fun r t hr => clrF_end at_ R col i f f' r t hr)
        rw [ha0.out] at FE FE'
        generalize Lin.scaleF at_ (fi a0) (Lin.swapF at_ i f) = F at *
        generalize Lin.scaleF at_ (fi a0) (Lin.swapF at_ i f') = F' at *
        have r6 := CR.out _ _ _ HP6.out
        clear hx8 hy8 hz hzI
        go_wp2_with fail
        go_loopw [84] (fun v84 wr => ∃ kk : Nat, v84 = .int .i64 kk ∧ kk ≤ R ∧ Hid (Pw wr base g R C A n k (clrF at_ kk (fun r => F r col) F) A' n' k' (clrF at_ kk (fun r => F r col) F')) ∧ Hid (Below base w wr)) (fun v84 _ => R - (intOf v84).toNat)
        case atStart => exact ⟨0, rfl, by omega, HP6.out.eqf (fun r t _ => clrF_zero _ _ _ r t) (fun r t _ => clrF_zero _ _ _ r t), HB6⟩
        case round =>
          clear HP6 HB6 r6
          obtain ⟨kk, rfl, hkR, HP, HB⟩ := hrel
          by_cases hlt : kk < R
          · have hlt' : (kk : Int) < (R : Int) := by omega
            have RAk := RA.out _ _ _ kk HP.out hlt
            rw [clrF_here] at RAk
            obtain ⟨d, hd⟩ : ∃ d, Hid (F kk col = d) := ⟨_, rfl⟩
            rw [hd.out] at RAk
            replace RAk := Lib.hid RAk
            have hd8 := d.toNat_lt
            by_cases hka : kk = at_
            · have hkaI : ((kk : Int) != (at_ : Int)) = false := by rw [hka]; simp
              have hkaI2 : ((kk : Int) == (at_ : Int)) = true := by rw [hka]; simp
              have HS := Lib.hid (HP.out.eqf (fun r t _ => clrF_skip at_ kk (fun r => F r col) F (.inl hka) r t) (fun r t _ => clrF_skip at_ kk (fun r => F r col) F' (.inl hka) r t))
              replace hka := Lib.hid hka
              go_wp2_with fail
              refine RAk.out.mono ?_; rintro e w7 ⟨ad3, rfl, ec3, hB7⟩
              have HB7 := Lib.hid (HS.out.more HB.out hB7)
              have HP7 := Lib.hid (HS.out.below hB7)
              clear hB7 HP HB HS
              go_wp2_with fail
              go_roundw
              case rel => exact ⟨kk + 1, by go_num, by omega, HP7, HB7⟩
              case measure => simp [intOf]; omega
            · have hkaI : ((kk : Int) != (at_ : Int)) = true := by simp; omega
              have hkaI2 : ((kk : Int) == (at_ : Int)) = false := by simp; omega
              by_cases hd0 : d = 0
              · have hdn : d.toNat = 0 := by rw [hd0]; rfl
                have HS := Lib.hid (HP.out.eqf (fun r t _ => clrF_skip at_ kk (fun r => F r col) F (.inr (by show F kk col = 0; rw [hd.out, hd0])) r t) (fun r t _ => clrF_skip at_ kk (fun r => F r col) F' (.inr (by show F kk col = 0; rw [hd.out, hd0])) r t))
                rw [hdn, Int.natCast_zero] at RAk
                replace hdn := Lib.hid hdn
                clear hd8
                replace hd0 := Lib.hid hd0
                go_wp2_with fail
                refine RAk.out.mono ?_; rintro e w7 ⟨ad3, rfl, ec3, hB7⟩
                have HB7 := Lib.hid (HS.out.more HB.out hB7)
                have HP7 := Lib.hid (HS.out.below hB7)
                clear hB7 HP HB HS
                go_wp2_with fail
                go_roundw
                case rel => exact ⟨kk + 1, by go_num, by omega, HP7, HB7⟩
                case measure => simp [intOf]; omega
              · have hdn : ¬ d.toNat = 0 := fun e => hd0 (u8_ext (by rw [e]; rfl))
                have hdI : ¬ (d.toNat : Int) = 0 := by omega
                have DAk := Lib.hid (fun W f1 f2 hW => DA.out W f1 f2 kk d at_ hW hlt haR)
                have DBk := Lib.hid (fun W f1 f2 hW => DB.out W f1 f2 kk d at_ hW hlt haR)
                have SA2 : Hid (∀ r t, addF kk d at_ (clrF at_ kk (fun r => F r col) F) r t = clrF at_ (kk + 1) (fun r => F r col) F r t) := fun r t => by rw [← hd.out]; exact clrF_add at_ kk (fun r => F r col) F hka r t
                have SB2 : Hid (∀ r t, addF kk d at_ (clrF at_ kk (fun r => F r col) F') r t = clrF at_ (kk + 1) (fun r => F r col) F' r t) := fun r t => by rw [← hd.out]; exact clrF_add at_ kk (fun r => F r col) F' hka r t
                obtain ⟨dn, hdn2⟩ : ∃ dn, Hid (d.toNat = dn) := ⟨_, rfl⟩
                rw [hdn2.out] at DAk DBk RAk hd8 hdn hdI
                replace hd0 := Lib.hid hd0
                go_wp2_with fail
                refine RAk.out.mono ?_; rintro e w7 ⟨ad3, rfl, ec3, hB7⟩
                have HB7 := Lib.hid (HP.out.more HB.out hB7)
                have HP7 := Lib.hid (HP.out.below hB7)
                clear hB7 HP HB
                go_wp2_with fail
                refine (DAk.out _ _ _ HP7.out).mono ?_; rintro e w8 ⟨rfl, hW8, hg8⟩
                have HP8 := Lib.hid (HP7.out.opA hW8 hg8)
                have HB8 := Lib.hid (HP7.out.a.frame HB7.out hg8)
                clear hW8 hg8 HP7 HB7 ec3
                go_wp2_with fail
                refine (DBk.out _ _ _ HP8.out).mono ?_; rintro e w9 ⟨rfl, hW9, hg9⟩
                have HP9 := Lib.hid ((HP8.out.opB hW9 hg9).eqf (fun r t _ => SA2.out r t) (fun r t _ => SB2.out r t))
                have HB9 := Lib.hid (HP8.out.b.frame HB8.out hg9)
                clear hW9 hg9 HP8 HB8
                go_wp2_with fail
                go_roundw
                case rel => exact ⟨kk + 1, by go_num, by omega, HP9, HB9⟩
                case measure => simp [intOf]; omega
          · have hge : (R : Int) ≤ kk := by omega
            have hkk : kk = R := by omega
            subst hkk
            go_wp2_with fail
            go_ret
            refine ⟨by first | rfl | rw [decide_eq_true hpR], HB.out, ?_⟩
            first
              | exact HP.out.eqf (fun r t hr => FE.out r t hr) (fun r t hr => FE'.out r t hr)
              | (rw [if_pos hpR, if_pos hpR]; exact HP.out.eqf (fun r t hr => FE.out r t hr) (fun r t hr => FE'.out r t hr))
      · have hiR : i = R := by omega
        have dlt : decide ((i : Int) < (R : Int)) = false := by simp; omega
        have hiR' : (R : Int) ≤ (i : Int) := by omega
        have heq : (i : Int) = (R : Int) := by omega
        go_wp2_with fail
        go_ret
        refine ⟨by first | rfl | rw [decide_eq_false hpR], HB.out, ?_⟩
        first
          | exact HP.out
          | (rw [if_neg hpR, if_neg hpR]; exact HP.out)
end Go.Proofs.Ytbokbndphpdgoaa
