/-
  The field over bytes: products, inverses, sums of products, what is added to bytes; the laws without bounds.
-/
import Derived.Test.YtbokbndphpdgoaaGfp
namespace Go.Proofs.Ytbokbndphpdgoaa

def fm (a b : UInt8) : UInt8 := UInt8.ofNat (Gfp.gm a.toNat b.toNat)
theorem fm_toNat (a b : UInt8) : (fm a b).toNat = Gfp.gm a.toNat b.toNat := by
  unfold fm
  rw [UInt8.toNat_ofNat']
  exact Nat.mod_eq_of_lt (Gfp.gm_lt _ _ a.toNat_lt)
theorem u8_ext {a b : UInt8} (h : a.toNat = b.toNat) : a = b := UInt8.toNat_inj.1 h
theorem fm_comm (a b : UInt8) : fm a b = fm b a := u8_ext (by rw [fm_toNat, fm_toNat]; exact Gfp.gm_comm _ _ a.toNat_lt b.toNat_lt)
theorem fm_assoc (a b c : UInt8) : fm (fm a b) c = fm a (fm b c) := u8_ext (by simp only [fm_toNat]; exact Gfp.gm_assoc _ _ _ a.toNat_lt b.toNat_lt c.toNat_lt)
theorem fm_xor (a b c : UInt8) : fm a (b ^^^ c) = fm a b ^^^ fm a c := u8_ext (by simp only [fm_toNat, UInt8.toNat_xor]; exact Gfp.gm_xor_right _ _ _)
theorem xor_fm (a b c : UInt8) : fm (a ^^^ b) c = fm a c ^^^ fm b c := u8_ext (by simp only [fm_toNat, UInt8.toNat_xor]; exact Gfp.gm_xor_left _ _ _)
theorem fm_one (a : UInt8) : fm a 1 = a := u8_ext (by rw [fm_toNat]; exact Gfp.gm_one _ a.toNat_lt)
theorem one_fm (a : UInt8) : fm 1 a = a := by rw [fm_comm, fm_one]
theorem fm_zero (a : UInt8) : fm a 0 = 0 := u8_ext (by rw [fm_toNat]; exact Gfp.gm_zero _)
theorem zero_fm (a : UInt8) : fm 0 a = 0 := by rw [fm_comm, fm_zero]
def fi (a : UInt8) : UInt8 := UInt8.ofNat (Gfp.invV a.toNat)
theorem fi_toNat (a : UInt8) : (fi a).toNat = Gfp.invV a.toNat := by
  unfold fi
  rw [UInt8.toNat_ofNat']
  exact Nat.mod_eq_of_lt (Gfp.invV_lt _)
theorem fm_fi (a : UInt8) (h : a ≠ 0) : fm a (fi a) = 1 := u8_ext (by
  rw [fm_toNat, fi_toNat]
  exact Gfp.gm_invV _ (fun h0 => h (u8_ext h0)) a.toNat_lt)
theorem fi_fm (a : UInt8) (h : a ≠ 0) : fm (fi a) a = 1 := by rw [fm_comm, fm_fi a h]
theorem fi_zero : fi 0 = 0 := u8_ext (by rw [fi_toNat]; exact Gfp.invV_zero)
theorem fm_eq_zero (a b : UInt8) (h : fm a b = 0) : a = 0 ∨ b = 0 := by
  have h2 : Gfp.gm a.toNat b.toNat = 0 := by rw [← fm_toNat, h]; rfl
  rcases Gfp.gm_eq_zero _ _ a.toNat_lt b.toNat_lt h2 with h3 | h3
  · exact .inl (u8_ext h3)
  · exact .inr (u8_ext h3)
theorem fx_self (a : UInt8) : a ^^^ a = 0 := UInt8.xor_self
theorem fx_zero (a : UInt8) : a ^^^ 0 = a := UInt8.xor_zero
theorem zero_fx (a : UInt8) : 0 ^^^ a = a := UInt8.zero_xor
theorem fx_comm (a b : UInt8) : a ^^^ b = b ^^^ a := UInt8.xor_comm a b
theorem fx_assoc (a b c : UInt8) : a ^^^ b ^^^ c = a ^^^ (b ^^^ c) := UInt8.xor_assoc a b c
theorem fx_cancel (a b : UInt8) (h : a ^^^ b = 0) : a = b := by
  have h2 : a ^^^ b ^^^ b = b := by rw [h, zero_fx]
  rwa [fx_assoc, fx_self, fx_zero] at h2

/-- the sum of the first k products -/
def dotF (xs ys : List UInt8) : Nat → UInt8
  | 0 => 0
  | k+1 => dotF xs ys k ^^^ fm (xs.getD k 0) (ys.getD k 0)
/-- the sum of products, and the error, as the functions tell them -/
def dotR (xs ys : List UInt8) : UInt8 := if xs.length = ys.length then dotF xs ys xs.length else 0
def eLen (xs ys : List UInt8) : Int := if xs.length = ys.length then 0 else 13
/-- c times b added to a list -/
def addL (xs : List UInt8) (c : UInt8) (ys : List UInt8) : List UInt8 := (List.range xs.length).map fun i => xs.getD i 0 ^^^ fm c (ys.getD i 0)
/-- what Add hands back -/
def addR (xs : List UInt8) (c : UInt8) (ys : List UInt8) : List UInt8 := if xs.length = ys.length then addL xs c ys else []
theorem addL_length (xs : List UInt8) (c : UInt8) (ys : List UInt8) : (addL xs c ys).length = xs.length := by simp [addL]
theorem addL_getD (xs : List UInt8) (c : UInt8) (ys : List UInt8) (i : Nat) (h : i < xs.length) : (addL xs c ys).getD i 0 = xs.getD i 0 ^^^ fm c (ys.getD i 0) := by
  simp [addL, List.getD_eq_getElem?_getD, h]
theorem addL_getElem? (xs : List UInt8) (c : UInt8) (ys : List UInt8) (i : Nat) (h : i < xs.length) : (addL xs c ys)[i]? = some (xs.getD i 0 ^^^ fm c (ys.getD i 0)) := by
  simp [addL, h]
theorem addL_snoc (xs : List UInt8) (c : UInt8) (ys : List UInt8) (k : Nat) (x : UInt8) (h : xs[k]? = some x) : addL (xs.take (k + 1)) c ys = addL (xs.take k) c ys ++ [x ^^^ fm c (ys.getD k 0)] := by
  have hk : k < xs.length := (List.getElem?_eq_some_iff.1 h).1
  unfold addL
  rw [List.length_take, List.length_take, Nat.min_eq_left (by omega), Nat.min_eq_left (by omega), List.range_succ, List.map_append]
  congr 1
  · apply List.map_congr_left
    intro i hi
    have hi' := List.mem_range.1 hi
    simp [List.getD_eq_getElem?_getD, hi', Nat.lt_succ_of_lt hi']
  · simp [List.getD_eq_getElem?_getD, List.getElem?_take, h]
theorem list_ext_getD {xs ys : List UInt8} (hl : xs.length = ys.length) (h : ∀ i, i < xs.length → xs.getD i 0 = ys.getD i 0) : xs = ys := by
  apply List.ext_getElem?
  intro i
  by_cases hi : i < xs.length
  · have h2 := h i hi
    rw [List.getD_eq_getElem?_getD, List.getD_eq_getElem?_getD, List.getElem?_eq_getElem hi, List.getElem?_eq_getElem (by omega)] at h2
    rw [List.getElem?_eq_getElem hi, List.getElem?_eq_getElem (by omega)]
    exact congrArg some h2
  · rw [List.getElem?_eq_none (by omega), List.getElem?_eq_none (by omega)]
theorem addL_twice (xs : List UInt8) (c d : UInt8) (ys : List UInt8) : addL (addL xs c ys) d ys = addL xs (c ^^^ d) ys := by
  refine list_ext_getD (by simp [addL_length]) fun i hi => ?_
  rw [addL_length, addL_length] at hi
  rw [addL_getD _ _ _ _ (by rw [addL_length]; exact hi), addL_getD _ _ _ _ hi, addL_getD _ _ _ _ hi, xor_fm, fx_assoc]
theorem addL_zero (xs ys : List UInt8) : addL xs 0 ys = xs := by
  refine list_ext_getD (addL_length _ _ _) fun i hi => ?_
  rw [addL_length] at hi
  rw [addL_getD _ _ _ _ hi, zero_fm, fx_zero]
theorem addL_self (xs : List UInt8) (c : UInt8) (ys : List UInt8) : addL (addL xs c ys) c ys = xs := by rw [addL_twice, fx_self, addL_zero]
end Go.Proofs.Ytbokbndphpdgoaa
