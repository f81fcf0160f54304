/-
  The law RsFew, walked.
-/
import Derived.Test.YtjbedcgacnnanaaRst
namespace Go.Proofs.Ytjbedcgacnnanaa
set_option linter.unusedSimpArgs false
set_option linter.unusedVariables false
open Go.RowKit

namespace Rsp
theorem rows_all {l : List (List UInt8)} {P : List Nat} {L : Nat} (hP : ∀ x ∈ P, x < l.length) (hL : ∀ x ∈ l, x.length = L) : ∀ x ∈ rowsAt l P, x.length = L := fun x hx => by
  unfold rowsAt at hx
  obtain ⟨t, ht, rfl⟩ := List.mem_map.1 hx
  rw [List.getD_eq_getElem?_getD, List.getElem?_eq_getElem (hP t ht)]
  exact hL _ (List.getElem_mem _)
section
variable {n p q L : Nat} {l : List (List UInt8)} {g : List Bool}
/-- what is mended: all parts of some data; the first good ones are as they were -/
theorem mend_good (hnp : n + p = q) (h1 : 1 ≤ n) (hq : q ≤ 255) (hl : l.length = q) (hg : g.length = q) (hL : ∀ x, x < q → g.getD x false = true → (l.getD x []).length = L) (hf : n ≤ (gd g q).length) :
    mendE n p l g = 0 ∧ ∃ d : List (List UInt8), d.length = n ∧ (∀ x ∈ d, x.length = L) ∧ mendV n p l g = allV n p L d ∧ (∀ x ∈ fst n g q, (allV n p L d).getD x [] = l.getD x []) ∧ d = dataV n (fst n g q) (rowsAt l (fst n g q)) := by
  subst hnp
  have hm : may (n : Int) (p : Int) = true := by unfold may; simp; omega
  have hall : ∀ P : List Nat, (∀ x ∈ P, x < n + p) → (∀ x ∈ P, g.getD x false = true) → ∀ x ∈ rowsAt l P, x.length = L := fun P h1 h2 x hx => by
    unfold rowsAt at hx
    obtain ⟨t, ht, rfl⟩ := List.mem_map.1 hx
    exact hL t (h1 t ht) (h2 t ht)
  have ha : alike (rowsAt l (gd g (n + p))) = true := alike_of (hall _ (fun x hx => gd_lt hx) (fun x hx => gd_good hx))
  obtain ⟨e1, e2⟩ := mend_yes hm hl hg ha hf
  have hfl : ∀ x ∈ rowsAt l (fst n g (n + p)), x.length = L := hall _ (fun x hx => fst_lt hx) (fun x hx => fst_good hx)
  have hfn : (fst n g (n + p)).length = n := by rw [fst_len]; omega
  have hrl : (rowsAt l (fst n g (n + p))).length = n := by rw [rowsAt_len, hfn]
  have hdl : (dataV n (fst n g (n + p)) (rowsAt l (fst n g (n + p)))).length = n := dataV_len
  have hdL := dataV_all (n := n) (P := fst n g (n + p)) hfl (by omega)
  refine ⟨e1, _, hdl, hdL, ?_, ?_, rfl⟩
  · rw [e2, (par_all hm h1 hdl hdL).2]; rfl
  · have h := data_has (p := p) (P := fst n g (n + p)) (l := rowsAt l (fst n g (n + p))) (L := L) (by omega) hfn (fst_nodup _ _ _) (fun x hx => fst_lt hx) hrl hfl h1
    unfold rowsAt at h
    exact List.map_inj_left.1 h
theorem all_right {d : List (List UInt8)} (h1 : 1 ≤ n) (hq : n + p ≤ 255) (hd : d.length = n) (hL : ∀ x ∈ d, x.length = L) : rightV n p (allV n p L d) = true := by
  have hm : may (n : Int) (p : Int) = true := by unfold may; simp; omega
  rw [right_in hm (allV_len hd) (alike_of (allV_all hL)), decide_eq_true_iff]
  have e1 : (allV n p L d).take n = d := by unfold allV; rw [List.take_append_of_le_length (by omega), List.take_of_length_le (by omega)]
  have e2 : (allV n p L d).drop n = timesP p n L (cauC n) d := by unfold allV; rw [List.drop_append_of_le_length (by omega), List.drop_of_length_le (by omega), List.nil_append]
  rw [e1, e2, (par_all hm h1 hd hL).2]
end
end Rsp
set_option maxRecDepth 100000 in
set_option maxHeartbeats 8000000 in
theorem rsFew_walk (k m : Nat) (A : Option Addr) (n c : Nat) (xss : List (List UInt8)) (Ag : Option Addr) (ng cg : Nat) (gs : List Bool) (w : World) (hk : k < 256) (hm : m < 256) (_l : n ≤ c) (_m : c ≤ maxLen) (h : Rows8 w w.heap.size A n xss) (_lg : ng ≤ cg) (_mg : cg ≤ maxLen) (hg0 : Reads w w.heap.size 1 Ag ng (gs.map Value.bool)) :
    Calls Try.prog 7 #[.int .u8 k, .int .u8 m, .slice A n c, .slice Ag ng cg] w fun e w' => e = .returned (.bool true) ∧ Below w.heap.size w w' := by
  have hl := h.len
  have hgl := hg0.len
  have H := Lib.hid (fun W (hW : Below w.heap.size w W) => (h.below hW).more hW.size)
  have HG := Lib.hid (fun W (hW : Below w.heap.size w W) => (hg0.below hW).more hW.size)
  have KG : Hid (∀ W, Below w.heap.size w W → Calls Try.prog 10 #[.slice A n c] W fun e w' => e = .returned (.bool (Rsp.great xss)) ∧ W = w') := fun W hW => greatL_any A n c _ xss W (H.out W hW)
  obtain ⟨n0, hn0⟩ : ∃ n0, n0 = 1 + k % 8 := ⟨_, rfl⟩
  obtain ⟨p, hp⟩ : ∃ p, p = m % 8 := ⟨_, rfl⟩
  obtain ⟨q, hnp⟩ : ∃ q, n0 + p = q := ⟨_, rfl⟩
  have hn08 : n0 ≤ 8 := by omega
  have hn01 : 1 ≤ n0 := by omega
  have hp8 : p ≤ 7 := by omega
  have en : (1 : Int) + (k : Int) % 8 = (n0 : Int) := by omega
  have ep : (m : Int) % 8 = (p : Int) := by omega
  have esum : (n0 : Int) + (p : Int) = (q : Int) := by omega
  have hq : q ≤ 255 := by omega
  replace hn0 := Lib.hid hn0; replace hp := Lib.hid hp
  cases hga : Rsp.great xss with
  | true =>
    rw [hga] at KG
    clear h hl hga hg0 hgl
    replace hnp := Lib.hid hnp
    go_enter Try.func7, Try.ntmps7
    go_wp2_with fail; refine (rsAlive_any _).mono ?_; rintro e w1 ⟨rfl, hB1⟩
    replace hB1 := Lib.hid hB1
    go_wp2_with fail; refine (KG.out _ hB1.out).mono ?_; rintro e w' ⟨rfl, rfl⟩
    go_wp2_with fail
    go_ret
    exact ⟨rfl, hB1.out⟩
  | false =>
    rw [hga] at KG
    have hgp := Rsp.great_parts hga
    have hsm := small_of_great hga
    have hn16 : n ≤ 16 := by omega
    by_cases hnq : n = q
    · subst hnq
      by_cases hgq : ng = n
      · subst hgq
        have KA : Hid (∀ W, Below w.heap.size w W → Calls Try.prog 17 #[.slice A ng c] W fun e w' => e = .returned (.bool (Rsp.alike xss)) ∧ Dr W w') := fun W hW => refAlikeD_any A ng c xss W (H.out W hW) (by omega)
        obtain ⟨q, hqe⟩ : ∃ q, q = ng := ⟨_, rfl⟩
        cases ha : Rsp.alike xss with
        | false =>
          rw [ha] at KA
          clear h hl hga hg0 hgl hqe
          replace hnp := Lib.hid hnp
          go_enter Try.func7, Try.ntmps7
          go_wp2_with fail; refine (rsAlive_any _).mono ?_; rintro e w1 ⟨rfl, hB1⟩
          replace hB1 := Lib.hid hB1
          go_wp2_with fail; refine (KG.out _ hB1.out).mono ?_; rintro e w' ⟨rfl, rfl⟩
          go_wp2_with fail; refine (KA.out _ hB1.out).mono ?_; rintro e w2 ⟨rfl, hD⟩
          have hB2 := Lib.hid (below_then hB1.out (hD.below _))
          clear hD
          go_wp2_with fail
          go_ret
          exact ⟨rfl, hB2.out⟩
        | true =>
          rw [ha] at KA
          have hal := Rsp.alike_all ha
          obtain ⟨L, hLe⟩ : ∃ L, (xss.headD []).length = L := ⟨_, rfl⟩
          rw [hLe] at hal
          have hL40 : L ≤ 40 := by
            rw [← hLe]
            cases xss with
            | nil => simp
            | cons a t => exact hgp.2 a (List.mem_cons_self ..)
          have KM : Hid (∀ W, Below w.heap.size w W → Calls Try.prog 15 #[.int .i64 n0, .int .i64 p, .slice A ng c, .slice Ag ng cg] W (LsErr W (Rsp.mendV n0 p xss gs).length (Rsp.mendV n0 p xss gs) (Rsp.mendE n0 p xss gs))) := fun W hW => mend_in n0 p ng A Ag c cg xss gs W hnp hn01 hq (H.out W hW) (HG.out W hW) hsm
          have NO := Lib.hid (fun i h => Rsp.gd_no (g := gs) (i := i) h)
          have YES := Lib.hid (fun i h => Rsp.gd_yes (g := gs) (i := i) h)
          obtain ⟨G, hG⟩ : ∃ G, (Rsp.gd gs ng).length = G := ⟨_, rfl⟩
          have hGl := Rsp.gd_len gs ng
          rw [hG] at hGl
          have FL := Lib.hid (fun W (hW : Below w.heap.size w W) (i : Nat) (hi : i < ng) => flag_at (HG.out W hW) hi)
          by_cases hf : G < n0
          · have hE := Rsp.mend_few (n := n0) (p := p) (l := xss) (g := gs) (by unfold Rsp.may; simp; omega) (by omega) (by omega) (Rsp.alike_of (L := L) (Rsp.rows_all (fun x hx => by have := Rsp.gd_lt hx; omega) hal)) (by rw [hnp, hG]; omega)
            rw [hE.1, hE.2] at KM
            unfold LsErr at KM
            have hf' : (G : Int) < (n0 : Int) := by omega
            clear h hl hga hg0 hgl hqe hal hLe ha hE
            replace hnp := Lib.hid hnp
            replace hG := Lib.hid hG
            go_enter Try.func7, Try.ntmps7
            go_wp2_with fail; refine (rsAlive_any _).mono ?_; rintro e w1 ⟨rfl, hB1⟩
            replace hB1 := Lib.hid hB1
            go_wp2_with fail; refine (KG.out _ hB1.out).mono ?_; rintro e w' ⟨rfl, rfl⟩
            go_wp2_with fail; refine (KA.out _ hB1.out).mono ?_; rintro e w2 ⟨rfl, hD⟩
            have hB2 := Lib.hid (below_then hB1.out (hD.below _))
            clear hD hB1
            go_wp2_with fail
            go_loop [11, 12] (fun v11 v12 => ∃ i H : Nat, v11 = .int .i64 H ∧ v12 = .int .i64 i ∧ i ≤ ng ∧ H ≤ i ∧ Hid ((Rsp.gd gs i).length = H)) (fun _ v12 => ng - (intOf v12).toNat)
            case atStart => exact ⟨0, 0, rfl, rfl, by omega, by omega, rfl⟩
            case round =>
              obtain ⟨i, H1, rfl, rfl, hin, hHi, HH⟩ := hrel
              by_cases hlt : i < ng
              · have hlt' : (i : Int) < (ng : Int) := by omega
                obtain ⟨ag, f, hAg, hfl, eg⟩ := FL.out w2 hB2.out i hlt
                subst hAg
                cases f with
                | false =>
                  have hs := NO.out i hfl
                  rw [← hs] at HH
                  replace hs := Lib.hid hs
                  replace hfl := Lib.hid hfl
                  go_wp2_with fail
                  go_round
                  case rel => exact ⟨i + 1, H1, rfl, by go_num, by omega, by omega, HH⟩
                  case measure => simp [intOf]; omega
                | true =>
                  have hs := Lib.hid (YES.out i hfl)
                  replace hfl := Lib.hid hfl
                  go_wp2_with fail
                  go_round
                  case rel => exact ⟨i + 1, H1 + 1, by go_num, by go_num, by omega, by omega, by rw [hs.out]; show (_ ++ [i]).length = _; rw [List.length_append, HH.out]; rfl⟩
                  case measure => simp [intOf]; omega
              · have hge : (ng : Int) ≤ (i : Int) := by omega
                obtain rfl : i = ng := by omega
                obtain rfl : H1 = G := by rw [← HH.out, hG.out]
                go_wp2_with fail; refine (KM.out _ hB2.out).mono ?_; rintro e w3 ⟨A3, c3, rfl, hl3, hB3⟩
                have hB3' := Lib.hid (below_then hB2.out hB3)
                clear hl3 hB3
                go_wp2_with fail
                go_ret
                exact ⟨rfl, hB3'.out⟩
          · obtain ⟨hE, d, hdl, hdL, hV, hsame, -⟩ := Rsp.mend_good (L := L) (l := xss) (g := gs) hnp hn01 hq hl hgl (fun x hx _ => by rw [List.getD_eq_getElem?_getD, List.getElem?_eq_getElem (by omega : x < xss.length)]; exact hal _ (List.getElem_mem _)) (by rw [hG]; omega)
            have hVl : (Rsp.allV n0 p L d).length = ng := by rw [Rsp.allV_len hdl, hnp]
            have hVL : ∀ x ∈ Rsp.allV n0 p L d, x.length = L := Rsp.allV_all hdL
            have hri := Rsp.all_right (p := p) hn01 (by omega) hdl hdL
            rw [hE, hV, hVl] at KM
            unfold LsErr at KM
            have KR : Hid (∀ (W : World) (A3 : Option Addr) (c3 : Nat), Lists W 0 w.heap.size A3 ng c3 (Rsp.allV n0 p L d) → Calls Try.prog 19 #[.int .i64 n0, .int .i64 p, .slice A3 ng c3] W fun e w' => e = .returned (.bool true) ∧ Below W.heap.size W w') := fun W A3 c3 hl3 => by
              have := right_any n0 p A3 ng c3 _ W hl3.rows8 hl3.cap.1 hl3.cap.2 (by omega) (fun x hx => by rw [hVL x hx]; omega)
              rw [hri] at this
              exact this
            have FNO := Lib.hid (fun i h => Rsp.fst_no (kk := n0) (g := gs) (i := i) h)
            have FFU := Lib.hid (fun i h => Rsp.fst_full (kk := n0) (g := gs) (i := i) h)
            have FYES := Lib.hid (fun i h h2 => Rsp.fst_yes (kk := n0) (g := gs) (i := i) h h2)
            have FSUB : Hid (∀ i, i < ng → gs.getD i false = true → (Rsp.fst n0 gs i).length < n0 → i ∈ Rsp.fst n0 gs ng) := fun i hi h1 h2 => by
              have e := Rsp.fst_yes (kk := n0) (g := gs) (i := i) h1 h2
              have mono : ∀ t, i + 1 ≤ t → i ∈ Rsp.fst n0 gs t := by
                intro t ht
                induction t with
                | zero => omega
                | succ t ih =>
                  by_cases e2 : i = t
                  · subst e2; rw [e]; simp
                  · have := ih (by omega)
                    cases hgt : gs.getD t false with
                    | false => rw [Rsp.fst_no hgt]; exact this
                    | true =>
                      by_cases h3 : (Rsp.fst n0 gs t).length < n0
                      · rw [Rsp.fst_yes hgt h3]; exact List.mem_append_left _ this
                      · rw [Rsp.fst_full h3]; exact this
              exact mono ng (by omega)
            have PR : Hid (∀ W W3 A3 c3 i, Below w.heap.size w W → Lists W3 0 w.heap.size A3 ng c3 (Rsp.allV n0 p L d) → Below W3.heap.size W3 W → i < ng → gs.getD i false = true → (Rsp.fst n0 gs i).length < n0 → ∃ (x : List UInt8), ∃ ad3 adp Ax Ap cx cp, A3 = some ad3 ∧ A = some adp ∧ W.cell? (ad3.add i) = some (.slice Ax L cx) ∧ W.cell? (adp.add i) = some (.slice Ap L cp) ∧ (convert 35 9 (.slice Ax L cx)).run Try.prog W = .ok (.string ⟨x.toArray⟩) W ∧ (convert 35 9 (.slice Ap L cp)).run Try.prog W = .ok (.string ⟨x.toArray⟩) W ∧ (convert 35 9 (.slice Ax L cx)).run Try.prog W.drew = .ok (.string ⟨x.toArray⟩) W.drew ∧ (convert 35 9 (.slice Ap L cp)).run Try.prog W.drew = .ok (.string ⟨x.toArray⟩) W.drew) := fun W W3 A3 c3 i hW hl3 hW3 hi hgi hfi => by
              have hmem := FSUB.out i hi hgi hfi
              have e := hsame i hmem
              obtain ⟨ad3, x, Ax, cx, hA3, hx, hcx, -, -, hrx⟩ := ((hl3.rows8).below hW3).rowr hi
              obtain ⟨adp, y, Ap, cp, hAp, hy, hcy, -, -, hry⟩ := (H.out W hW).rowr hi
              have ex : (Rsp.allV n0 p L d).getD i [] = x := by rw [List.getD_eq_getElem?_getD, hx]; rfl
              have ey : xss.getD i [] = y := by rw [List.getD_eq_getElem?_getD, hy]; rfl
              rw [ex, ey] at e
              subst e
              have hxl := hVL x (List.mem_of_getElem? hx)
              rw [hxl] at hcx hcy hrx hry
              exact ⟨x, ad3, adp, Ax, Ap, cx, cp, hA3, hAp, hcx, hcy, run_str (P := Try.prog) (w := W) (c := cx) 35 9 5 Try.underlying35 Try.underlying5 Try.underlying9 hrx, run_str (P := Try.prog) (w := W) (c := cp) 35 9 5 Try.underlying35 Try.underlying5 Try.underlying9 hry, run_str (P := Try.prog) (w := W.drew) (c := cx) 35 9 5 Try.underlying35 Try.underlying5 Try.underlying9 hrx.drew, run_str (P := Try.prog) (w := W.drew) (c := cp) 35 9 5 Try.underlying35 Try.underlying5 Try.underlying9 hry.drew⟩
            have hf' : (n0 : Int) ≤ (G : Int) := by omega
            generalize Rsp.allV n0 p L d = V at *
            clear h hl hga hg0 hgl hqe hal hLe ha hE hV hsame hVl hVL hri FSUB hdl hdL
            replace hnp := Lib.hid hnp
            replace hG := Lib.hid hG
            go_enter Try.func7, Try.ntmps7
            go_wp2_with fail; refine (rsAlive_any _).mono ?_; rintro e w1 ⟨rfl, hB1⟩
            replace hB1 := Lib.hid hB1
            go_wp2_with fail; refine (KG.out _ hB1.out).mono ?_; rintro e w' ⟨rfl, rfl⟩
            go_wp2_with fail; refine (KA.out _ hB1.out).mono ?_; rintro e w2 ⟨rfl, hD⟩
            have hB2 := Lib.hid (below_then hB1.out (hD.below _))
            clear hD hB1
            go_wp2_with fail
            go_loop [11, 12] (fun v11 v12 => ∃ i H : Nat, v11 = .int .i64 H ∧ v12 = .int .i64 i ∧ i ≤ ng ∧ H ≤ i ∧ Hid ((Rsp.gd gs i).length = H)) (fun _ v12 => ng - (intOf v12).toNat)
            case atStart => exact ⟨0, 0, rfl, rfl, by omega, by omega, rfl⟩
            case round =>
              obtain ⟨i, H1, rfl, rfl, hin, hHi, HH⟩ := hrel
              by_cases hlt : i < ng
              · have hlt' : (i : Int) < (ng : Int) := by omega
                obtain ⟨ag, f, hAg, hfl, eg⟩ := FL.out w2 hB2.out i hlt
                subst hAg
                cases f with
                | false =>
                  have hs := NO.out i hfl
                  rw [← hs] at HH
                  replace hs := Lib.hid hs
                  replace hfl := Lib.hid hfl
                  go_wp2_with fail
                  go_round
                  case rel => exact ⟨i + 1, H1, rfl, by go_num, by omega, by omega, HH⟩
                  case measure => simp [intOf]; omega
                | true =>
                  have hs := Lib.hid (YES.out i hfl)
                  replace hfl := Lib.hid hfl
                  go_wp2_with fail
                  go_round
                  case rel => exact ⟨i + 1, H1 + 1, by go_num, by go_num, by omega, by omega, by rw [hs.out]; show (_ ++ [i]).length = _; rw [List.length_append, HH.out]; rfl⟩
                  case measure => simp [intOf]; omega
              · have hge : (ng : Int) ≤ (i : Int) := by omega
                obtain rfl : i = ng := by omega
                obtain rfl : H1 = G := by rw [← HH.out, hG.out]
                go_wp2_with fail; refine (KM.out _ hB2.out).mono ?_; rintro e w3 ⟨A3, c3, rfl, hl3, hB3⟩
                have hB3' := Lib.hid (below_then hB2.out hB3)
                have HL3 : Hid (Lists w3 0 w.heap.size A3 i c3 V) := hl3.older (Nat.le_refl _) (Nat.zero_le _) hB2.out.size
                clear hl3 hB3
                go_wp2_with fail; refine (KR.out _ _ _ HL3.out).mono ?_; rintro e w4 ⟨rfl, hB4⟩
                have hB4' := Lib.hid (below_then hB3'.out hB4)
                replace hB4 := Lib.hid hB4
                clear KM KR hB2
                go_wp2_with fail
                go_loopw [15, 16] (fun v15 v16 wr => ∃ j K : Nat, v15 = .int .i64 K ∧ v16 = .int .i64 j ∧ j ≤ i ∧ K ≤ j ∧ Hid ((Rsp.fst n0 gs j).length = K) ∧ Hid (Below w3.heap.size w3 wr)) (fun _ v16 _ => i - (intOf v16).toNat)
                case atStart => exact ⟨0, 0, rfl, rfl, by omega, by omega, by show (Rsp.fst n0 gs 0).length = 0; simp [Rsp.fst, Rsp.gd], hB4⟩
                case round =>
                  clear hB4 hB4'
                  obtain ⟨j, K, rfl, rfl, hjn, hKj, HK, HBr⟩ := hrel
                  have HBw := Lib.hid (below_then hB3'.out HBr.out)
                  by_cases hlj : j < i
                  · have hlj' : (j : Int) < (i : Int) := by omega
                    obtain ⟨ag, f, hAg, hfl, eg⟩ := FL.out wr HBw.out j hlj
                    subst hAg
                    cases f with
                    | false =>
                      have hs := FNO.out j hfl
                      rw [← hs] at HK
                      replace hs := Lib.hid hs
                      replace hfl := Lib.hid hfl
                      go_wp2_with fail
                      go_roundw
                      case rel => exact ⟨j + 1, K, rfl, by go_num, by omega, by omega, HK, HBr⟩
                      case measure => simp [intOf]; omega
                    | true =>
                      by_cases hKn : K < n0
                      · have hKn' : (K : Int) < (n0 : Int) := by omega
                        have hs := Lib.hid (FYES.out j hfl (by rw [HK.out]; exact hKn))
                        obtain ⟨x, ad3, adp, Ax, Ap, cx, cp, hA3, hAp, hcx, hcy, -, -, s1, s2⟩ := PR.out wr w3 A3 c3 j HBw.out HL3.out HBr.out hlj hfl (by rw [HK.out]; exact hKn)
                        subst hA3
                        subst hAp
                        replace hfl := Lib.hid hfl
                        go_wp2_with fail
                        refine region_E 11 (fun W => W.cell? (ad3.add j) = some (.slice Ax L cx) ∧ W.cell? (adp.add j) = some (.slice Ap L cp) ∧ (convert 35 9 (.slice Ax L cx)).run Try.prog W = .ok (.string ⟨x.toArray⟩) W ∧ (convert 35 9 (.slice Ap L cp)).run Try.prog W = .ok (.string ⟨x.toArray⟩) W) (by kernel_rfl) ⟨hcx, hcy, s1, s2⟩ (fun hHeld => ?_)
                        refine took 0 (v := ?_) rfl (by kernel_rfl) (by kernel_rfl) (by kernel_rfl) (by kernel_rfl) (fun _ _ _ h => h) (by rfl) (by assumption) ?_ ?_
                        rotate_left
                        · (intro W hSw; (try dsimp only at hSw); go_simp; first | done | with_reducible rfl)
                        try simp only [Act.put, List.setIfInBounds_toArray, List.set_cons_zero, List.set_cons_succ]
                        refine took 1 (v := ?_) rfl (by kernel_rfl) (by kernel_rfl) (by kernel_rfl) (by kernel_rfl) (fun _ _ _ h => h) (by rfl) (by assumption) ?_ ?_
                        rotate_left
                        · (intro W hSw; (try dsimp only at hSw); go_simp; first | done | with_reducible rfl)
                        try simp only [Act.put, List.setIfInBounds_toArray, List.set_cons_zero, List.set_cons_succ]
                        refine took 2 (v := ?_) rfl (by kernel_rfl) (by kernel_rfl) (by kernel_rfl) (by kernel_rfl) (fun _ _ _ h => h) (by rfl) (by assumption) ?_ ?_
                        rotate_left
                        · (intro W hSw; (try dsimp only at hSw); go_simp; first | done | with_reducible rfl)
                        try simp only [Act.put, List.setIfInBounds_toArray, List.set_cons_zero, List.set_cons_succ]
                        refine took 3 (v := ?_) rfl (by kernel_rfl) (by kernel_rfl) (by kernel_rfl) (by kernel_rfl) (fun _ _ _ h => h) (by rfl) (by assumption) ?_ ?_
                        rotate_left
                        · (intro W hSw; (try dsimp only at hSw); go_simp; first | done | with_reducible rfl)
                        try simp only [Act.put, List.setIfInBounds_toArray, List.set_cons_zero, List.set_cons_succ]
                        refine took 4 (v := ?_) rfl (by kernel_rfl) (by kernel_rfl) (by kernel_rfl) (by kernel_rfl) (fun _ _ _ h => h) (by rfl) (by assumption) ?_ ?_
                        rotate_left
                        · (intro W hSw; (try dsimp only at hSw); go_simp; first | done | with_reducible rfl)
                        try simp only [Act.put, List.setIfInBounds_toArray, List.set_cons_zero, List.set_cons_succ]
                        refine took 5 (v := ?_) rfl (by kernel_rfl) (by kernel_rfl) (by kernel_rfl) (by kernel_rfl) (fun _ _ _ h => h) (by rfl) (by assumption) ?_ ?_
                        rotate_left
                        · (intro W hSw; (try dsimp only at hSw); go_simp; first | done | with_reducible rfl)
                        try simp only [Act.put, List.setIfInBounds_toArray, List.set_cons_zero, List.set_cons_succ]
                        refine took 6 (v := ?_) rfl (by kernel_rfl) (by kernel_rfl) (by kernel_rfl) (by kernel_rfl) (fun _ _ _ h => h) (by rfl) (by assumption) ?_ ?_
                        rotate_left
                        · (intro W hSw; (try dsimp only at hSw); go_simp; first | done | with_reducible rfl)
                        try simp only [Act.put, List.setIfInBounds_toArray, List.set_cons_zero, List.set_cons_succ]
                        refine took 7 (v := ?_) rfl (by kernel_rfl) (by kernel_rfl) (by kernel_rfl) (by kernel_rfl) (fun _ _ _ h => h) (by rfl) (by assumption) ?_ ?_
                        rotate_left
                        · (intro W hSw; (try dsimp only at hSw); go_simp; first | done | with_reducible rfl)
                        try simp only [Act.put, List.setIfInBounds_toArray, List.set_cons_zero, List.set_cons_succ]
                        refine took 8 (v := ?_) rfl (by kernel_rfl) (by kernel_rfl) (by kernel_rfl) (by kernel_rfl) (fun _ _ _ h => h) (by rfl) (by assumption) ?_ ?_
                        rotate_left
                        · (intro W hSw; (try dsimp only at hSw); go_simp; first | done | with_reducible rfl)
                        try simp only [Act.put, List.setIfInBounds_toArray, List.set_cons_zero, List.set_cons_succ]
                        refine took 9 (v := ?_) rfl (by kernel_rfl) (by kernel_rfl) (by kernel_rfl) (by kernel_rfl) (fun _ _ _ h => h) (by rfl) (by assumption) ?_ ?_
                        rotate_left
                        · (intro W hSw; (try dsimp only at hSw); go_simp; first | done | with_reducible rfl)
                        try simp only [Act.put, List.setIfInBounds_toArray, List.set_cons_zero, List.set_cons_succ]
                        refine took 10 (v := ?_) rfl (by kernel_rfl) (by kernel_rfl) (by kernel_rfl) (by kernel_rfl) (fun _ _ _ h => h) (by rfl) (by assumption) ?_ ?_
                        rotate_left
                        · (intro W hSw; (try dsimp only at hSw); go_simp; first | done | with_reducible rfl)
                        try simp only [Act.put, List.setIfInBounds_toArray, List.set_cons_zero, List.set_cons_succ]
                        refine allDone (by kernel_rfl) ?_ _
                        clear hHeld hcx hcy s1 s2
                        go_wp2_with fail
                        go_roundw
                        case rel => exact ⟨j + 1, K + 1, by go_num, by go_num, by omega, by omega, by rw [hs.out]; show (_ ++ [j]).length = _; rw [List.length_append, HK.out]; rfl, HBr.out.drew⟩
                        case measure => simp [intOf]; omega
                      · have hKn' : (n0 : Int) ≤ (K : Int) := by omega
                        have hs := FFU.out j (by rw [HK.out]; exact hKn)
                        rw [← hs] at HK
                        replace hs := Lib.hid hs
                        replace hfl := Lib.hid hfl
                        go_wp2_with fail
                        go_roundw
                        case rel => exact ⟨j + 1, K, rfl, by go_num, by omega, by omega, HK, HBr⟩
                        case measure => simp [intOf]; omega
                  · have hgj : (i : Int) ≤ (j : Int) := by omega
                    go_wp2_with fail
                    go_ret
                    exact ⟨rfl, HBw.out⟩
      · have e1 : ((ng : Int) == (n : Int)) = false := by simp; omega
        have e2 : ((ng : Int) != (n : Int)) = true := by simp; omega
        clear h hl hga hg0 hgl
        replace hnp := Lib.hid hnp
        go_enter Try.func7, Try.ntmps7
        go_wp2_with fail; refine (rsAlive_any _).mono ?_; rintro e w1 ⟨rfl, hB1⟩
        replace hB1 := Lib.hid hB1
        go_wp2_with fail; refine (KG.out _ hB1.out).mono ?_; rintro e w' ⟨rfl, rfl⟩
        go_wp2_with fail
        go_ret
        exact ⟨rfl, hB1.out⟩
    · have e1 : ((n : Int) == (q : Int)) = false := by simp; omega
      have e2 : ((n : Int) != (q : Int)) = true := by simp; omega
      clear h hl hga hg0 hgl
      replace hnp := Lib.hid hnp
      go_enter Try.func7, Try.ntmps7
      go_wp2_with fail; refine (rsAlive_any _).mono ?_; rintro e w1 ⟨rfl, hB1⟩
      replace hB1 := Lib.hid hB1
      go_wp2_with fail; refine (KG.out _ hB1.out).mono ?_; rintro e w' ⟨rfl, rfl⟩
      go_wp2_with fail
      go_ret
      exact ⟨rfl, hB1.out⟩
end Go.Proofs.Ytjbedcgacnnanaa
