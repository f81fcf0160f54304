/-
  The law of stripes: alive, walked.
-/
import Derived.Test.YtjbedcgacnnanaaDoorSte
import Derived.Test.YtjbedcgacnnanaaDoorSame
import Derived.Test.YtjbedcgacnnanaaDoorTcs
import Derived.Lib.SlBytesConst
namespace Go.Proofs.YtjbedcgacnnanaaDoor
set_option linter.unusedSimpArgs false
set_option linter.unusedVariables false
open Go.RowKit

theorem wpList_append_if {P : Program} {w : World} {ops : Array Oper} {rest : List Oper} {o : Oper} {a : Act} {Q : Exit → Act → World → Prop} (hw : Region.wanted o (yielded ops a.tmps) = true) (s x : Operand) (t : TypeId)
    (ho : o.op = .call { callee := .builtin .append, args := #[s, x], argTypes := #[t, t] })
    (base : Nat) (e : TypeId) (i : TypeInfo) (z : Value) (size bytes : Nat) (ht : P.underlying t = some (.slice e)) (hi : P.info? e = some i) (hz : i.zero = some z)
    (hsize : i.size = size) (hby : i.bytes = bytes) (hzs : z.cells.size = size) (hsz : 0 < size)
    (A0 : Option Addr) (n c0 : Nat) (xs : List Value) (hs : a.eval s = .slice A0 n c0) (hown : w.ownsRow base e size (.slice A0 n c0) n xs)
    (B : Nat) (A : Option Addr) (m c : Nat) (news : List Value) (hx : a.eval x = .slice A m c) (hr : Reads w B size A m news) (h1 : ∀ u ∈ news, u.oneCell' = true)
    (h63 : n + m ≤ maxLen) (hbytes : (n + m) * bytes ≤ 140737488355328) (hbase : base ≤ w.heap.size)
    (h : ∀ A' c' w', w'.ownsRow base e size (.slice A' (n + m) c') (n + m) (xs ++ news) → w.grownBy w' (A0.map (·.block)) → Stays w A0 A' → wpList P ops Q rest (a.put o.dst (.slice A' (n + m) c')) w') : wpList P ops Q (o :: rest) a w :=
  wpList_step fun K hK => by
    rw [if_pos hw]
    exact wp_append_any w s x t ho base e i z size bytes ht hi hz hsize hby hzs hsz A0 n c0 xs hs hown B A m c news hx hr h1 h63 hbytes hbase fun A' c' w' h2 h3 h4 => hK _ _ (h A' c' w' h2 h3 h4)
theorem Stp.alive_val : Stp.layV 1 1 1 [97] = Crcp.put [97] ++ Crcp.put [97] := by
  have h : Rsp.allV 1 1 1 (Stp.partsB 1 1 [97]) = [[97], [97]] := by decide +kernel
  have h2 : Stp.layV 1 1 1 [97] = Stp.oneB 1 1 1 [97] ++ [] := rfl
  rw [h2]
  unfold Stp.oneB
  rw [h]; rfl
theorem shp_one : Shp 1 1 1 1 1 1 10 1 10 := by
  refine ⟨?_, ?_, ?_, ?_, ?_, ?_, ?_, ?_, ?_, ?_, ?_⟩ <;> decide
set_option maxRecDepth 100000 in
set_option maxHeartbeats 4000000 in
theorem stAlive_any (w : World) (ht : Tab w) : Calls Tryd.prog 9 #[] w fun e w' => e = .returned (.bool true) ∧ Below w.heap.size w w' := by
  have kc := fun (w : World) (C : Array Value) (n c : Nat) => Lib.run_convert_bytes_const (P := Tryd.prog) w 27 5 C n c Tryd.underlying27 Tryd.underlying5
  obtain ⟨i0, hi, hz0, hz1, hz2⟩ := info_parts info_u8
  replace hi := Lib.hid hi; replace hz0 := Lib.hid hz0; replace hz1 := Lib.hid hz1; replace hz2 := Lib.hid hz2
  have RD : ∀ W : World, Reads (W.alloc (.cells #[.int .u8 97] 5 (1, 2))) (W.alloc (.cells #[.int .u8 97] 5 (1, 2))).heap.size 1 (some ⟨W.heap.size, 0, none⟩) 1 ([97].map B8) := fun W => by
    refine ⟨rfl, fun _ => ⟨_, rfl, by simp, fun j u hu => ?_⟩⟩
    match j with
    | 0 => rw [add_zero_off]; exact (cell_of_row _ _ 0 #[.int .u8 97] 5 (1, 2) (heap_alloc_new W _)).trans hu
    | j + 1 => simp at hu
  have NB : ∀ W : World, Below W.heap.size W (W.alloc (.cells #[.int .u8 97] 5 (1, 2))) := fun W => (Below.refl _ _).alloc (Nat.le_refl _) _
  have KL : Hid (∀ W : World, Tab W → Calls Tryd.prog 12 #[.int .i64 1, .int .i64 1, .int .i64 1, .slice (some ⟨W.heap.size, 0, none⟩) 1 1] (W.alloc (.cells #[.int .u8 97] 5 (1, 2))) fun e w' => ∃ A c, e = .returned (.tuple #[.slice A 10 c, .int .i64 0]) ∧ Hid (Reads w' w'.heap.size 1 A 10 ((Crcp.put [97] ++ Crcp.put [97]).map B8)) ∧ Hid (Below W.heap.size W w')) := fun W hT => by
    refine (lay_in 1 1 1 1 1 1 10 1 10 _ 1 [97] (W.alloc (.cells #[.int .u8 97] 5 (1, 2))) shp_one (hT.below (NB W) hT.pos) (RD W) (Nat.le_refl _) (by unfold maxLen; omega)).mono ?_
    rintro e w' ⟨A, c, rfl, hf⟩
    rw [Stp.alive_val] at hf
    exact ⟨A, c, rfl, hf.reads, below_then (NB W) hf.2⟩
  have KPut : Hid (∀ W : World, Tab W → Calls Tryd.prog 20 #[.slice (some ⟨W.heap.size, 0, none⟩) 1 1] (W.alloc (.cells #[.int .u8 97] 5 (1, 2))) fun e w' => ∃ A c, e = .returned (.slice A 5 c) ∧ Hid (Reads w' w'.heap.size 1 A 5 ((Crcp.put [97]).map B8)) ∧ Hid (Below W.heap.size W w')) := fun W hT => by
    refine (refPut_any _ 1 1 _ [97] (W.alloc (.cells #[.int .u8 97] 5 (1, 2))) (RD W) (Nat.le_refl _) (by omega)).mono ?_
    rintro e w' ⟨A, c, rfl, hf⟩
    exact ⟨A, c, rfl, hf.reads, below_then (NB W) hf.2⟩
  have TW := Lib.hid ht
  have HP : Hid (0 < w.heap.size) := ht.pos
  clear RD NB ht
  go_enter Tryd.func9, Tryd.ntmps9
  go_wp2_with fail
  refine (KL.out _ TW.out).mono ?_; rintro e w1 ⟨A, c, rfl, hR1, hB1⟩
  have T1 := Lib.hid (TW.out.below hB1.out TW.out.pos)
  go_wp2_with fail
  refine (KPut.out _ T1.out).mono ?_; rintro e w2 ⟨A', c', rfl, hR2, hB2⟩
  have HR1 := Lib.hid (hR1.out.below hB2.out)
  have HB2 := Lib.hid (below_then hB1.out hB2.out)
  have hs12 : w1.heap.size ≤ w2.heap.size := hB2.out.size
  clear hR1 hB1 hB2 T1 KL KPut
  have ho2 := own_empty w2 w2.heap.size 5 (Nat.le_refl _)
  have hA2 : Below w2.heap.size w2 (w2.alloc (.cells #[] 5)) := (Below.refl _ _).alloc (Nat.le_refl _) _
  have ONE : Hid (∀ u ∈ (Crcp.put [97]).map B8, u.oneCell' = true) := row_one hR2.out
  have hR2a := hR2.out.below hA2
  replace hA2 := Lib.hid hA2
  replace ho2 := Lib.hid ho2
  replace hR2a := Lib.hid hR2a
  go_wp2_with (first
    | (at_builtin; refine wpList_append_if rfl (.tmp 17) (.tmp 18) 27 rfl w2.heap.size 5 i0 (.int .u8 0) 1 1 Tryd.underlying27 hi.out hz0.out hz1.out hz2.out rfl (by omega) _ 0 0 [] rfl ho2.out w2.heap.size A' 5 c' _ rfl hR2a.out ONE.out (by unfold maxLen; omega) (by omega) hA2.out.size ?_; intro A3 c3 w3 ho3 hg3 _hs3; have HB3 : Below w2.heap.size w2 w3 := below_app hA2.out hg3 ho2.out hA2.out.size; have hR3 := hR2.out.below HB3; replace HB3 := Lib.hid HB3; replace hR3 := Lib.hid hR3; replace ho3 := Lib.hid ho3; clear hg3 _hs3)
    | (at_builtin; refine wpList_append_if rfl (.tmp 19) (.tmp 20) 27 rfl w2.heap.size 5 i0 (.int .u8 0) 1 1 Tryd.underlying27 hi.out hz0.out hz1.out hz2.out rfl (by omega) A3 (0 + 5) c3 _ rfl ho3.out w2.heap.size A' 5 c' _ rfl hR3.out ONE.out (by unfold maxLen; omega) (by omega) HB3.out.size ?_; intro A5 c5 w5 ho5 hg5 _hs5; have HB5 : Below w2.heap.size w2 w5 := below_app HB3.out hg5 ho3.out HB3.out.size; replace HB5 := Lib.hid HB5; replace ho5 := Lib.hid ho5; clear hg5 _hs5))
  have HR5 := HR1.out.below (HB5.out.mono hs12)
  refine (same_any A A5 10 (0 + 5 + 5) c c5 _ _ (Crcp.put [97] ++ Crcp.put [97]) (Crcp.put [97] ++ Crcp.put [97]) w5 HR5 (by
    have := Reads.of_own ho5.out
    simpa [List.map_append] using this)).mono ?_
  rintro e w6 ⟨rfl, rfl⟩
  rw [decide_eq_true rfl]
  clear HR5
  go_wp2_with fail
  go_ret
  exact ⟨rfl, below_then HB2.out HB5.out⟩
end Go.Proofs.YtjbedcgacnnanaaDoor
