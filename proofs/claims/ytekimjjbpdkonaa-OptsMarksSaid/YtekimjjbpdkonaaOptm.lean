/-
  The marks of versions: what the program and the document read of bytes, and the mark that is made.
-/
import Derived.Test.YtekimjjbpdkonaaOptl
import Derived.Test.YtekimjjbpdkonaaMem
import Derived.Test.YtekimjjbpdkonaaApp
import Derived.Test.YtekimjjbpdkonaaAr
namespace Go.Proofs.Ytekimjjbpdkonaa
open Go.RowKit
set_option linter.unusedSimpArgs false

namespace Optp
/-- the error and the version that bytes begin with -/
def mkE (bs : List UInt8) : Int := if bs.length ≤ 4 then 1 else if bs.take 4 ≠ [70, 73, 82, 75] then 3 else if 1 ≤ (bs.getD 4 0).toNat ∧ (bs.getD 4 0).toNat ≤ 3 then 0 else 4
def mkV (bs : List UInt8) : Int := if bs.length ≤ 4 then 0 else if bs.take 4 ≠ [70, 73, 82, 75] then 0 else if 1 ≤ (bs.getD 4 0).toNat ∧ (bs.getD 4 0).toNat ≤ 3 then ((bs.getD 4 0).toNat : Int) else 0
end Optp

theorem info_b : (Try.prog.info? 5).map (fun i => (i.zero, i.size, i.bytes)) = some (some (.int .u8 0), 1, 1) := by kernel_rfl
theorem b8_one (l : List UInt8) : ∀ u ∈ l.map B8, u.oneCell' = true := by
  intro u hu
  obtain ⟨b, _, rfl⟩ := List.mem_map.1 hu
  rfl
theorem new_own (w : World) (base : Nat) (e : TypeId) (cs : List Value) (hb : base ≤ w.heap.size) (hm : cs.length ≤ maxLen) : (w.alloc (.cells cs.toArray e)).ownsRow base e 1 (.slice (some ⟨w.heap.size, 0, none⟩) cs.length cs.length) cs.length cs := by
  have h := World.ownsRow_lit (base := base) (e := e) (size := 1) w cs.toArray cs.length hb hm (by simp)
  simpa using h

set_option maxRecDepth 100000 in
theorem marked_short (A : Option Addr) (n c : Nat) (w : World) (hn : n ≤ 4) :
    Calls Try.prog 15 #[.slice A n c] w fun e w' => e = .returned (.tuple #[.int .i64 0, .int .i64 1]) ∧ w = w' := by
  have hn' : (n : Int) ≤ 4 := by omega
  go_enter Try.func15, Try.ntmps15
  go_wp2_with fail
  go_ret2
  exact ⟨rfl, rfl⟩

set_option maxRecDepth 100000 in
theorem refMarked_short (A : Option Addr) (n c : Nat) (w : World) (hn : n ≤ 4) :
    Calls Try.prog 16 #[.slice A n c] w fun e w' => e = .returned (.tuple #[.int .i64 0, .int .i64 1]) ∧ w = w' := by
  have hn' : (n : Int) < 5 := by omega
  go_enter Try.func16, Try.ntmps16
  go_wp2_with fail
  go_ret2
  exact ⟨rfl, rfl⟩

theorem reads_cells {w : World} {B n : Nat} {A : Option Addr} {bs : List UInt8} (h : Reads w B 1 A n (bs.map B8)) (hn : 0 < n) : ∃ ad, A = some ad ∧ ∀ (j : Nat) (x : UInt8), bs[j]? = some x → w.cell? (ad.add j) = some (.int .u8 (x.toNat : Int)) := by
  obtain ⟨ad, hA, _, hc⟩ := h.2 hn
  exact ⟨ad, hA, fun j x hx => hc j (B8 x) (by rw [List.getElem?_map, hx]; rfl)⟩

/-- what the first five bytes say -/
theorem mk_long (b0 b1 b2 b3 b4 : UInt8) (rest : List UInt8) :
    ([b0, b1, b2, b3] ≠ [70, 73, 82, 75] → Optp.mkV (b0 :: b1 :: b2 :: b3 :: b4 :: rest) = 0 ∧ Optp.mkE (b0 :: b1 :: b2 :: b3 :: b4 :: rest) = 3) ∧
    ([b0, b1, b2, b3] = [70, 73, 82, 75] → ((1 ≤ b4.toNat ∧ b4.toNat ≤ 3) → Optp.mkV (b0 :: b1 :: b2 :: b3 :: b4 :: rest) = (b4.toNat : Int) ∧ Optp.mkE (b0 :: b1 :: b2 :: b3 :: b4 :: rest) = 0) ∧
      (¬ (1 ≤ b4.toNat ∧ b4.toNat ≤ 3) → Optp.mkV (b0 :: b1 :: b2 :: b3 :: b4 :: rest) = 0 ∧ Optp.mkE (b0 :: b1 :: b2 :: b3 :: b4 :: rest) = 4)) := by
  have e1 : (b0 :: b1 :: b2 :: b3 :: b4 :: rest).take 4 = [b0, b1, b2, b3] := rfl
  have e2 : (b0 :: b1 :: b2 :: b3 :: b4 :: rest).getD 4 0 = b4 := rfl
  have e3 : ¬ (b0 :: b1 :: b2 :: b3 :: b4 :: rest).length ≤ 4 := by simp only [List.length_cons]; omega
  unfold Optp.mkV Optp.mkE
  rw [if_neg e3, if_neg e3, e1, e2]
  refine ⟨fun h => ⟨if_pos h, if_pos h⟩, fun h => ?_⟩
  have hn : ¬ ([b0, b1, b2, b3] ≠ ([70, 73, 82, 75] : List UInt8)) := fun h2 => h2 h
  rw [if_neg hn, if_neg hn]
  exact ⟨fun hx => ⟨if_pos hx, if_pos hx⟩, fun hx => ⟨if_neg hx, if_neg hx⟩⟩
theorem four_ne {b0 b1 b2 b3 : UInt8} (h : [b0, b1, b2, b3] ≠ [70, 73, 82, 75]) : b0 ≠ 70 ∨ (b0 = 70 ∧ b1 ≠ 73) ∨ (b0 = 70 ∧ b1 = 73 ∧ b2 ≠ 82) ∨ (b0 = 70 ∧ b1 = 73 ∧ b2 = 82 ∧ b3 ≠ 75) := by
  by_cases h0 : b0 = 70
  · by_cases h1 : b1 = 73
    · by_cases h2 : b2 = 82
      · by_cases h3 : b3 = 75
        · subst h0; subst h1; subst h2; subst h3; exact absurd rfl h
        · exact .inr (.inr (.inr ⟨h0, h1, h2, h3⟩))
      · exact .inr (.inr (.inl ⟨h0, h1, h2⟩))
    · exact .inr (.inl ⟨h0, h1⟩)
  · exact .inl h0

theorem u8_ne {b : UInt8} {k : UInt8} (m : Nat) (hm : k.toNat = m) (h : b ≠ k) : ((b.toNat : Int) != (m : Int)) = true := by
  rw [bne_iff_ne]
  intro h2
  exact h (UInt8.toNat_inj.1 (by omega))

set_option maxRecDepth 100000 in
set_option maxHeartbeats 2000000 in
theorem marked_long (A : Option Addr) (n c B : Nat) (b0 b1 b2 b3 b4 : UInt8) (rest : List UInt8) (w : World) (hc : n ≤ c) (hm : c ≤ maxLen) (h : Reads w B 1 A n ((b0 :: b1 :: b2 :: b3 :: b4 :: rest).map B8)) :
    Calls Try.prog 15 #[.slice A n c] w fun e w' => e = .returned (.tuple #[.int .i64 (Optp.mkV (b0 :: b1 :: b2 :: b3 :: b4 :: rest)), .int .i64 (Optp.mkE (b0 :: b1 :: b2 :: b3 :: b4 :: rest))]) ∧ w = w' := by
  have hl := h.len
  simp only [List.length_cons] at hl
  have hn4 : (4 : Int) < n := by omega
  have hc4 : (4 : Int) ≤ c := by omega
  have r4 : Reads w B 1 A 4 ([b0, b1, b2, b3].map B8) := h.takeN (k := 4) (by omega)
  have hs := run_str (P := Try.prog) (w := w) (c := c) 33 9 5 Try.underlying33 Try.underlying5 Try.underlying9 r4
  obtain ⟨ad, rfl, hcell⟩ := reads_cells h (by omega)
  have c4 := hcell 4 b4 rfl
  rw [show ad.add 4 = ⟨ad.block, ad.off + 4, none⟩ from rfl] at c4
  have W := fun w => Lib.hid (within_any (b4.toNat : Int) 1 3 w)
  have hb4 : b4.toNat < 256 := b4.toNat_lt
  have hk := mk_long b0 b1 b2 b3 b4 rest
  generalize Optp.mkV (b0 :: b1 :: b2 :: b3 :: b4 :: rest) = V at *
  generalize Optp.mkE (b0 :: b1 :: b2 :: b3 :: b4 :: rest) = E at *
  obtain ⟨k1, k2⟩ := hk
  clear hcell r4 h hl
  by_cases hmg : [b0, b1, b2, b3] = ([70, 73, 82, 75] : List UInt8)
  · obtain ⟨k3, k4⟩ := k2 hmg
    simp only [List.cons.injEq, and_true] at hmg
    obtain ⟨rfl, rfl, rfl, rfl⟩ := hmg
    clear k1 k2
    by_cases hx : 1 ≤ b4.toNat ∧ b4.toNat ≤ 3
    · obtain ⟨rfl, rfl⟩ := k3 hx
      rw [show Optp.wi (b4.toNat : Int) 1 3 = true by unfold Optp.wi; simp; omega] at W
      clear k4 hx
      go_enter Try.func15, Try.ntmps15
      go_wp2_with fail
      refine (W _).out.mono ?_; rintro e w' ⟨rfl, rfl⟩
      go_wp2_with fail
      go_ret2
      exact ⟨rfl, rfl⟩
    · obtain ⟨rfl, rfl⟩ := k4 hx
      rw [show Optp.wi (b4.toNat : Int) 1 3 = false by unfold Optp.wi; simp; omega] at W
      clear k3 hx
      go_enter Try.func15, Try.ntmps15
      go_wp2_with fail
      refine (W _).out.mono ?_; rintro e w' ⟨rfl, rfl⟩
      go_wp2_with fail
      go_ret2
      exact ⟨rfl, rfl⟩
  · obtain ⟨rfl, rfl⟩ := k1 hmg
    have hne : (!b0 == 70 || (!b1 == 73 || (!b2 == 82 || !b3 == 75))) = true := by
      rcases four_ne hmg with h | ⟨_, h⟩ | ⟨_, _, h⟩ | ⟨_, _, _, h⟩ <;> simp [h]
    clear k1 k2 hmg
    go_enter Try.func15, Try.ntmps15
    go_wp2_with fail
    go_ret2
    exact ⟨rfl, rfl⟩

set_option maxRecDepth 100000 in
set_option maxHeartbeats 2000000 in
theorem refMarked_long (A : Option Addr) (n c B : Nat) (b0 b1 b2 b3 b4 : UInt8) (rest : List UInt8) (w : World) (h : Reads w B 1 A n ((b0 :: b1 :: b2 :: b3 :: b4 :: rest).map B8)) :
    Calls Try.prog 16 #[.slice A n c] w fun e w' => e = .returned (.tuple #[.int .i64 (Optp.mkV (b0 :: b1 :: b2 :: b3 :: b4 :: rest)), .int .i64 (Optp.mkE (b0 :: b1 :: b2 :: b3 :: b4 :: rest))]) ∧ w = w' := by
  have hl := h.len
  simp only [List.length_cons] at hl
  have hn4 : (5 : Int) ≤ n := by omega
  have hn0 : (0 : Int) < n := by omega
  have hn1 : (1 : Int) < n := by omega
  have hn2 : (2 : Int) < n := by omega
  have hn3 : (3 : Int) < n := by omega
  have hn5 : (4 : Int) < n := by omega
  obtain ⟨ad, rfl, hcell⟩ := reads_cells h (by omega)
  have c0 := hcell 0 b0 rfl
  have c1 := hcell 1 b1 rfl
  have c2 := hcell 2 b2 rfl
  have c3 := hcell 3 b3 rfl
  have c4 := hcell 4 b4 rfl
  rw [show ad.add 0 = ad from rfl] at c0
  rw [show ad.add 1 = ⟨ad.block, ad.off + 1, none⟩ from rfl] at c1
  rw [show ad.add 2 = ⟨ad.block, ad.off + 2, none⟩ from rfl] at c2
  rw [show ad.add 3 = ⟨ad.block, ad.off + 3, none⟩ from rfl] at c3
  rw [show ad.add 4 = ⟨ad.block, ad.off + 4, none⟩ from rfl] at c4
  have hb4 : b4.toNat < 256 := b4.toNat_lt
  have hk := mk_long b0 b1 b2 b3 b4 rest
  generalize Optp.mkV (b0 :: b1 :: b2 :: b3 :: b4 :: rest) = V at *
  generalize Optp.mkE (b0 :: b1 :: b2 :: b3 :: b4 :: rest) = E at *
  obtain ⟨k1, k2⟩ := hk
  clear hcell h hl
  by_cases hmg : [b0, b1, b2, b3] = ([70, 73, 82, 75] : List UInt8)
  · obtain ⟨k3, k4⟩ := k2 hmg
    simp only [List.cons.injEq, and_true] at hmg
    obtain ⟨rfl, rfl, rfl, rfl⟩ := hmg
    clear k1 k2
    by_cases hx : 1 ≤ b4.toNat ∧ b4.toNat ≤ 3
    · obtain ⟨rfl, rfl⟩ := k3 hx
      have hx1 : (1 : Int) ≤ (b4.toNat : Int) := by omega
      have hx2 : (b4.toNat : Int) ≤ 3 := by omega
      clear k4 hx k3
      go_enter Try.func16, Try.ntmps16
      go_wp2_with fail
      go_ret2
      exact ⟨rfl, rfl⟩
    · obtain ⟨rfl, rfl⟩ := k4 hx
      by_cases hx1 : (b4.toNat : Int) < 1
      · clear k4 hx k3
        go_enter Try.func16, Try.ntmps16
        go_wp2_with fail
        go_ret2
        exact ⟨rfl, rfl⟩
      · have hx2 : (3 : Int) < (b4.toNat : Int) := by omega
        clear k4 hx k3
        go_enter Try.func16, Try.ntmps16
        go_wp2_with fail
        go_ret2
        exact ⟨rfl, rfl⟩
  · obtain ⟨rfl, rfl⟩ := k1 hmg
    rcases four_ne hmg with h | ⟨rfl, h⟩ | ⟨rfl, rfl, h⟩ | ⟨rfl, rfl, rfl, h⟩
    · have hne : ((b0.toNat : Int) != 70) = true := u8_ne 70 rfl h
      clear k1 k2 hmg h
      go_enter Try.func16, Try.ntmps16
      go_wp2_with fail
      go_ret2
      exact ⟨rfl, rfl⟩
    · have hne : ((b1.toNat : Int) != 73) = true := u8_ne 73 rfl h
      clear k1 k2 hmg h
      go_enter Try.func16, Try.ntmps16
      go_wp2_with fail
      go_ret2
      exact ⟨rfl, rfl⟩
    · have hne : ((b2.toNat : Int) != 82) = true := u8_ne 82 rfl h
      clear k1 k2 hmg h
      go_enter Try.func16, Try.ntmps16
      go_wp2_with fail
      go_ret2
      exact ⟨rfl, rfl⟩
    · have hne : ((b3.toNat : Int) != 75) = true := u8_ne 75 rfl h
      clear k1 k2 hmg h
      go_enter Try.func16, Try.ntmps16
      go_wp2_with fail
      go_ret2
      exact ⟨rfl, rfl⟩

theorem marked_any (A : Option Addr) (n c B : Nat) (bs : List UInt8) (w : World) (hc : n ≤ c) (hm : c ≤ maxLen) (h : Reads w B 1 A n (bs.map B8)) :
    Calls Try.prog 15 #[.slice A n c] w fun e w' => e = .returned (.tuple #[.int .i64 (Optp.mkV bs), .int .i64 (Optp.mkE bs)]) ∧ w = w' := by
  have hl := h.len
  match bs, h, hl with
  | b0 :: b1 :: b2 :: b3 :: b4 :: rest, h, _ => exact marked_long A n c B b0 b1 b2 b3 b4 rest w hc hm h
  | [], _, hl => exact marked_short A n c w (by simp at hl; omega)
  | [_], _, hl => exact marked_short A n c w (by simp at hl; omega)
  | [_, _], _, hl => exact marked_short A n c w (by simp at hl; omega)
  | [_, _, _], _, hl => exact marked_short A n c w (by simp at hl; omega)
  | [_, _, _, _], _, hl => exact marked_short A n c w (by simp at hl; omega)
theorem refMarked_any (A : Option Addr) (n c B : Nat) (bs : List UInt8) (w : World) (h : Reads w B 1 A n (bs.map B8)) :
    Calls Try.prog 16 #[.slice A n c] w fun e w' => e = .returned (.tuple #[.int .i64 (Optp.mkV bs), .int .i64 (Optp.mkE bs)]) ∧ w = w' := by
  have hl := h.len
  match bs, h, hl with
  | b0 :: b1 :: b2 :: b3 :: b4 :: rest, h, _ => exact refMarked_long A n c B b0 b1 b2 b3 b4 rest w h
  | [], _, hl => exact refMarked_short A n c w (by simp at hl; omega)
  | [_], _, hl => exact refMarked_short A n c w (by simp at hl; omega)
  | [_, _], _, hl => exact refMarked_short A n c w (by simp at hl; omega)
  | [_, _, _], _, hl => exact refMarked_short A n c w (by simp at hl; omega)
  | [_, _, _, _], _, hl => exact refMarked_short A n c w (by simp at hl; omega)
end Go.Proofs.Ytekimjjbpdkonaa
