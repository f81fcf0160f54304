/-
  The chains of places in memory; longest walked.
-/
import Derived.Test.YtiakpffmjkkniaaLzw
namespace Go.Proofs.Ytiakpffmjkkniaa
set_option linter.unusedSimpArgs false
set_option linter.unusedVariables false
open Go.RowKit Go.Maps

theorem zeroI (w : World) : (zeroValue 3).run Try.prog w = .ok (.int .i64 0) w := by kernel_rfl
/-- the chains in memory: block g holds the map and the row of the ones ahead, of the first m places -/
def Chn (w : World) (base g : Nat) (bs : List UInt8) (m : Nat) (M : Nat) (A : Option Addr) (c : Nat) : Prop :=
  Blk w g 46 #[.map (some M), .slice A m c] ∧ base ≤ g ∧ base ≤ M ∧ w.ownsMap Try.prog 52 (plainElem (H := Unit) Try.prog 3) M m (places bs m) ∧ w.ownsRow base 3 1 (.slice A m c) m ((Lzp.prevs bs m).map I64)

theorem ownsMap_block {w w' : World} {M n : Nat} {D : DataW Unit} {k : TypeId} {R : Value → Option (DataW Unit × List MemPlace)} (h : w.ownsMap Try.prog k R M n D) (hb : w'.heap[M]? = w.heap[M]?) : w'.ownsMap Try.prog k R M n D := by
  obtain ⟨es, clock, h1, h2⟩ := h
  exact ⟨es, clock, hb.trans h1, h2⟩
theorem ownsRow_block {w w' : World} {base n c size : Nat} {A : Option Addr} {e : TypeId} {xs : List Value} (h : w.ownsRow base e size (.slice A n c) n xs) (hb : ∀ a, A = some a → w'.heap[a.block]? = w.heap[a.block]?) : w'.ownsRow base e size (.slice A n c) n xs := by
  refine ⟨h.1, h.2.imp id fun ⟨g, cap, cur, hv, hg, hc, r⟩ => ⟨g, cap, cur, hv, hg, ?_, r⟩⟩
  injection hv with hv
  exact (hb _ hv).trans hc
theorem Chn.below {w w' : World} {base g m M c : Nat} {A : Option Addr} {bs : List UInt8} (h : Chn w base g bs m M A c) (hb : Below w.heap.size w w') : Chn w' base g bs m M A c := by
  obtain ⟨h1, h2, h3, h4, h5⟩ := h
  refine ⟨h1.below hb h1.lt, h2, h3, ownsMap_block h4 (hb.block _ h4.lt), ownsRow_block h5 fun a ha => hb.block _ ?_⟩
  rcases h5.2 with ⟨h0, _⟩ | ⟨g', _, _, hv, _, hc, _⟩
  · injection h0 with h0; rw [h0] at ha; cases ha
  · injection hv with hv
    rw [hv] at ha
    injection ha with ha
    subst ha
    exact (show Blk _ _ _ _ from hc).lt
theorem look_eq {w W : World} {bs : List UInt8} {m M : Nat} (h : w.ownsMap Try.prog 52 (plainElem (H := Unit) Try.prog 3) M m (places bs m)) (hW : W.heap[M]? = w.heap[M]?) (k : UInt8 × UInt8 × UInt8) :
    (Instr.lookup 43 (.map (some M)) (k3 k) true).run Try.prog W = .ok (.tuple #[.int .i64 (((Lzp.last bs m k).getD 0 : Nat) : Int), .bool (Lzp.last bs m k).isSome]) W := by
  have h2 := ownsMap_block h hW
  obtain ⟨v, ps, hrun, hv⟩ := h2.look_ok law3 Try.underlying43 (zeroI W) (plainElem_int Try.underlying3 (by decide)) (key3 k)
  obtain ⟨c, rfl, hc, _⟩ := plainElem_int_inv Try.underlying3 hv
  obtain ⟨p1, p2⟩ := places_look bs k m
  rw [hrun, p1]
  have e := congrArg Prod.fst hc
  rw [p2] at e
  simp only [DataW.lit.injEq, Lit.int.injEq, true_and] at e
  rw [e]
theorem step_lookup_eq {P : Program} {w : World} {ops : Array Oper} {o : Oper} {a : Act} {K : Act → World → Prop} {Q : Exit → Act → World → Prop} {E : Prop} (hg : o.guard = none) (m x : Operand) (t : TypeId) (hop : o.op = Op.lookup t m x true)
    (mv xv r : Value) (hm : a.eval m = mv) (hx : a.eval x = xv) (hrun : (Instr.lookup t mv xv true).run P w = .ok r w) (hK : K (a.put o.dst r) w) : if Region.wanted o (yielded ops a.tmps) = true then Oper.wp P o a w K Q else E := by
  have hw : Region.wanted o (yielded ops a.tmps) = true := by simp [Region.wanted, hg]
  rw [if_pos hw]
  unfold Oper.wp
  simp [execOp, hop, hm, hx, hrun, Result.andThen]
  exact hK

set_option maxRecDepth 100000 in
set_option maxHeartbeats 1000000 in
theorem longest_any (A : Option Addr) (n c B base i g M cp : Nat) (Ap : Option Addr) (bs : List UInt8) (w : World) (h : Reads w B 1 A n (bs.map B8)) (hB : B ≤ w.heap.size) (hi : i ≤ n) (hn : n < 4611686018427387904) (hC : Chn w base g bs i M Ap cp) :
    Calls Try.prog 19 #[.pointer (some ⟨g, 0, none⟩), .slice A n c, .int .i64 i] w fun e w' => ∃ n1 d1 : Nat, Lzp.Near (Lzp.tok bs i) (n1, d1) ∧ e = .returned (.tuple #[.int .i64 (n1 : Int), .int .i64 (d1 : Int)]) ∧ Below w.heap.size w w' := by
  have hl := h.len
  by_cases hs : n < i + 3
  · have hs' : (n : Int) < (i : Int) + 3 := by omega
    have hr := Lzp.near_short (b := bs) (at_ := i) (by omega) (by omega)
    replace hr := Lib.hid hr
    clear hC h hl
    go_enter Try.func19, Try.ntmps19
    go_wp2_with fail
    go_ret2
    exact ⟨0, 0, hr.out, rfl, Below.refl _ _⟩
  have C := Lib.hid hC
  have H := Lib.hid h
  have L := Lib.hid hl
  have hs' : (i : Int) + 3 ≤ n := by omega
  have K : Hid (∀ W, Below w.heap.size w W → Calls Try.prog 21 #[.slice A n c, .int .i64 i] W fun e w' => e = .returned (k3 (Lzp.key bs i)) ∧ Below W.heap.size W w') := fun W hW =>
    key_any A n c B i bs W (H.out.below (hW.mono hB)) (Nat.le_trans hB hW.size) (by omega) hn
  have hg0 := C.out.1.cell 0
  simp only [List.getElem?_toArray, List.getElem?_cons_zero] at hg0
  have HG : Hid (∀ W, Below w.heap.size w W → W.cell? ⟨g, 0, none⟩ = some (.map (some M)) ∧ W.cell? ⟨g, 1, none⟩ = some (.slice Ap i cp)) := fun W hW =>
    ⟨(C.out.1.below hW C.out.1.lt).cell 0, (C.out.1.below hW C.out.1.lt).cell 1⟩
  have HL : Hid (∀ W, Below w.heap.size w W → (Instr.lookup 43 (.map (some M)) (k3 (Lzp.key bs i)) true).run Try.prog W = .ok (.tuple #[.int .i64 (((Lzp.last bs i (Lzp.key bs i)).getD 0 : Nat) : Int), .bool (Lzp.last bs i (Lzp.key bs i)).isSome]) W) := fun W hW =>
    look_eq C.out.2.2.2.1 (hW.block _ C.out.2.2.2.1.lt) _
  clear hC h hl
  have hnear0 := Lib.hid (Lzp.near_zero bs i)
  cases hlast : Lzp.last bs i (Lzp.key bs i)
  · have Hd : Hid (Lzp.Near (Lzp.tok bs i) (0, 0)) := Lzp.near_done_none (q := i) (by rw [L.out]; omega) (Nat.le_refl _) (by omega) (by rw [Nat.sub_self]; exact hnear0.out) hlast
    rw [hlast] at HL
    simp only [Option.getD_none, Option.getD_some, Option.isSome_none, Option.isSome_some] at HL
    clear hlast
    go_enter Try.func19, Try.ntmps19
    go_wp2_with fail
    go_region_held3 (fun w' => w'.cell? ⟨g, 0, none⟩ = some (.map (some M)) ∧ Below w.heap.size w w')
      (first | assumption | exact ⟨hg0, Below.refl _ _⟩ | exact ⟨hg0, Below.drew (Below.refl _ _)⟩ | exact ⟨hG1, hS1⟩)
      (first | (go_at_call 21; ((with_reducible refine (K.out _ (by first | assumption | exact Below.refl _ _ | exact Below.drew (Below.refl _ _))).mono ?_); rintro e w1 ⟨rfl, hB1⟩; have hS1 : Below w.heap.size w w1 := Below.trans (by first | assumption | exact Below.refl _ _ | exact Below.drew (Below.refl _ _)) (hB1.mono (by first | exact Nat.le_refl _ | simp)); have hG1 := (HG.out _ hS1).1; have hlk := HL.out _ hS1; clear hB1)))
    go_wp2_with fail
    go_loopw [6, 7, 8] (fun v6 v7 v8 wr => v6 = .int .i64 0 ∧ v7 = .int .i64 0 ∧ v8 = .int .i64 0 ∧ Hid (Below w.heap.size w wr)) (fun _ _ _ _ => 0)
    case atStart => exact ⟨rfl, rfl, rfl, hS1⟩
    case round =>
      obtain ⟨rfl, rfl, rfl, HB⟩ := hrel
      go_wp2_with fail
      go_ret2
      exact ⟨0, 0, Hd.out, rfl, HB.out⟩
  · rename_i p0
    have Hl := Lib.hid hlast
    rw [hlast] at HL
    simp only [Option.getD_none, Option.getD_some, Option.isSome_none, Option.isSome_some] at HL
    clear hlast
    go_enter Try.func19, Try.ntmps19
    go_wp2_with fail
    go_region_held3 (fun w' => w'.cell? ⟨g, 0, none⟩ = some (.map (some M)) ∧ Below w.heap.size w w')
      (first | assumption | exact ⟨hg0, Below.refl _ _⟩ | exact ⟨hg0, Below.drew (Below.refl _ _)⟩ | exact ⟨hG1, hS1⟩)
      (first | (go_at_call 21; ((with_reducible refine (K.out _ (by first | assumption | exact Below.refl _ _ | exact Below.drew (Below.refl _ _))).mono ?_); rintro e w1 ⟨rfl, hB1⟩; have hS1 : Below w.heap.size w w1 := Below.trans (by first | assumption | exact Below.refl _ _ | exact Below.drew (Below.refl _ _)) (hB1.mono (by first | exact Nat.le_refl _ | simp)); have hG1 := (HG.out _ hS1).1; have hlk := HL.out _ hS1; clear hB1)))
    go_wp2_with fail
    have HC : Hid (∀ W, Below w.heap.size w W → Chn W base g bs i M Ap cp) := fun W hW => C.out.below hW
    have HR : Hid (∀ W, Below w.heap.size w W → Reads W B 1 A n (bs.map B8)) := fun W hW => H.out.below (hW.mono hB)
    clear hlk hG1 hg0 K HL HG
    go_loopw [6, 7, 8] (fun v6 v7 v8 wr => ∃ (q n1 d1 : Nat), v6 = .int .i64 n1 ∧ v7 = .int .i64 d1 ∧ v8 = .int .i64 (Lzp.num (Lzp.last bs q (Lzp.key bs i))) ∧ q ≤ i ∧ n1 ≤ 257 ∧ Hid (i - q ≤ Lzp.win i) ∧ Hid (Lzp.Near (Lzp.best bs i (i - q)) (n1, d1)) ∧ Hid (Below w.heap.size w wr)) (fun _ _ v8 _ => (intOf v8 + 1).toNat)
    case atStart => exact ⟨i, 0, 0, rfl, rfl, by rw [Hl.out]; rfl, Nat.le_refl _, by omega, (show i - i ≤ Lzp.win i by omega), (by rw [Nat.sub_self]; exact hnear0.out), hS1⟩
    case round =>
      obtain ⟨q, n1, d1, rfl, rfl, rfl, hq, hn1, Hw, Hn, HB⟩ := hrel
      cases hlast : Lzp.last bs q (Lzp.key bs i)
      · have Hd : Hid (Lzp.Near (Lzp.tok bs i) (n1, d1)) := Lzp.near_done_none (by rw [L.out]; omega) hq Hw.out Hn.out hlast
        clear hlast
        simp only [Lzp.num]
        go_wp2_with fail
        go_ret2
        exact ⟨n1, d1, Hd.out, rfl, HB.out⟩
      · rename_i p
        have Hlp := Lib.hid (Lzp.last_some hlast)
        have hpq : p < q := Hlp.out.1
        by_cases hfar : 4095 < i - p
        · have Hd : Hid (Lzp.Near (Lzp.tok bs i) (n1, d1)) := Lzp.near_done_far (by rw [L.out]; omega) hq Hw.out Hn.out hlast hfar
          have hfar' : (4095 : Int) < (i : Int) - (p : Int) := by omega
          have hne : ((p : Int) != -1) = true := by rw [bne_iff_ne]; omega
          clear hlast
          simp only [Lzp.num]
          go_wp2_with fail
          go_ret2
          exact ⟨n1, d1, Hd.out, rfl, HB.out⟩
        · by_cases htop : 257 ≤ n1
          · have Hd : Hid (Lzp.Near (Lzp.tok bs i) (n1, d1)) := Lzp.near_done_top Hw.out Hn.out htop
            have hfar' : (i : Int) - (p : Int) ≤ 4095 := by omega
            have htop' : (257 : Int) ≤ (n1 : Int) := by omega
            have hne : ((p : Int) != -1) = true := by rw [bne_iff_ne]; omega
            clear hlast
            simp only [Lzp.num]
            go_wp2_with fail
            go_ret2
            exact ⟨n1, d1, Hd.out, rfl, HB.out⟩
          · have hfar' : (i : Int) - (p : Int) ≤ 4095 := by omega
            have htop' : (n1 : Int) < 257 := by omega
            have hne : ((p : Int) != -1) = true := by rw [bne_iff_ne]; omega
            have Hx := Lib.hid (Lzp.near_next (by rw [L.out]; omega) hq Hn.out hlast)
            have Ha := Lib.hid (alike_any A n c B p i bs wr (HR.out wr HB.out) (by omega) (by omega) hn)
            have Hpr : Hid (Lzp.prev bs p = Lzp.num (Lzp.last bs p (Lzp.key bs i))) := by
              unfold Lzp.prev
              rw [if_pos Hlp.out.2.1, Hlp.out.2.2.1]; rfl
            have hk257 := Lzp.mlen_le bs p i
            have Hlt : Hid (Lzp.num (Lzp.last bs p (Lzp.key bs i)) + 1 ≤ (p : Int)) := by
              cases h : Lzp.last bs p (Lzp.key bs i)
              · simp [Lzp.num, Hid]
              · have := (Lzp.last_some h).1; simp only [Lzp.num, Hid]; omega
            have Hlt0 : Hid (-1 ≤ Lzp.num (Lzp.last bs p (Lzp.key bs i))) := by
              cases h : Lzp.last bs p (Lzp.key bs i)
              · simp [Lzp.num, Hid]
              · simp only [Lzp.num, Hid]; omega
            clear hlast
            simp only [Lzp.num]
            go_wp2_with fail
            refine Ha.out.mono ?_; rintro e w2 ⟨rfl, hD⟩
            have HB2 := Lib.hid (HB.out.trans (hD.below _))
            clear hD
            generalize Lzp.mlen bs p i = k at *
            have C2 := HC.out w2 HB2.out
            have g1 : w2.cell? ⟨g, 1, none⟩ = some (.slice Ap i cp) := C2.1.cell 1
            have hRp := Reads.of_own C2.2.2.2.2
            obtain ⟨ad, rfl, _, hcp⟩ := hRp.2 (by omega)
            have hc1 : w2.cell? (ad.add p) = some (.int .i64 (Lzp.num (Lzp.last bs p (Lzp.key bs i)))) := by
              have h := hcp p (I64 (Lzp.prev bs p)) (by rw [List.getElem?_map, Lzp.prevs_at bs i p (by omega)]; rfl)
              rw [h, Hpr.out]; rfl
            have hpi : (p : Int) < (i : Int) := by omega
            clear C2 hRp hcp
            by_cases hkn : n1 < k
            · have hkn' : (n1 : Int) < (k : Int) := by omega
              rw [if_pos hkn] at Hx
              have Hv := Lib.hid Hx.out.2.2
              have Hw2 : Hid (i - p ≤ Lzp.win i) := by unfold Lzp.win Hid; omega
              have Hm := Lib.hid (show k ≤ 257 from hk257)
              generalize hpv : Lzp.num (Lzp.last bs p (Lzp.key bs i)) = pv at *
              replace hpv := Lib.hid hpv
              go_wp2_with fail
              go_roundw
              case rel => exact ⟨p, k, i - p, rfl, by go_num, congrArg (Value.int .i64) hpv.out.symm, by omega, Hm.out, Hw2, Hv.out, HB2.out⟩
              case measure => have h1 := Hlt.out; have h2 := Hlt0.out; simp only [intOf]; omega
            · have hkn' : (k : Int) ≤ (n1 : Int) := by omega
              rw [if_neg hkn] at Hx
              have Hv := Lib.hid Hx.out.2.2
              have Hw2 : Hid (i - p ≤ Lzp.win i) := by unfold Lzp.win Hid; omega
              generalize hpv : Lzp.num (Lzp.last bs p (Lzp.key bs i)) = pv at *
              replace hpv := Lib.hid hpv
              go_wp2_with fail
              go_roundw
              case rel => exact ⟨p, n1, d1, rfl, rfl, congrArg (Value.int .i64) hpv.out.symm, by omega, hn1, Hw2, Hv.out, HB2.out⟩
              case measure => have h1 := Hlt.out; have h2 := Hlt0.out; simp only [intOf]; omega
end Go.Proofs.Ytiakpffmjkkniaa
