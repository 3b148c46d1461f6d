
/-
  The statement 'GraphCliques' returns true.
-/
import Derived.Test.YtnoiagnmbipppaaDoorWCliques
import Derived.Test.YtnoiagnmbipppaaDoorWExt
import Derived.Test.YtnoiagnmbipppaaDoorWLaw1
set_option linter.unusedSimpArgs false
set_option linter.unusedVariables false
namespace Go.Proofs.YtnoiagnmbipppaaDoor
open Go.Sl Go
attribute [local irreducible] vc opsW opsD opV opW PureV ReadV Thn Blk
set_option maxRecDepth 8000 in
theorem refCheck_spec {w0 : World} {n : Int} {a : Value} {arcs : List Arc} (ha : RS tArc w0 a arcs) :
    Calls Tryd.prog 7 #[.int .i64 n, a] w0 fun e w' => e = .returned (.int .i64 (checkCode n arcs)) ∧ Sat w0 w' [] := by
  have hla := ha.big
  have hw := Sat.start w0
  refine calls_of_vc (args := [.int .i64 n, a]) mixed Tryd.func7 rfl (by kernel_rfl) (Nat.le_of_ble_eq_true rfl) ?_
  repeat (first | refine go_run ?_ | (refine go_newP ?_; clear hw; intro p w hw) | (refine go_newW ?_; clear hw; intro w hw) | (refine go_newS ?_; clear hw; intro s w hw))
  refine go_if (fun h0 => ?_) (fun h0 => ?_)
  · repeat (first | refine go_run ?_ | (refine go_newP ?_; clear hw; intro p w hw) | (refine go_newW ?_; clear hw; intro w hw) | (refine go_newS ?_; clear hw; intro s w hw))
    refine res_one (v := .int .i64 1) rfl rfl ⟨?_, hw⟩
    rw [checkCode_neg h0]
  · repeat (first | refine go_run ?_ | (refine go_newP ?_; clear hw; intro p w hw) | (refine go_newW ?_; clear hw; intro w hw) | (refine go_newS ?_; clear hw; intro s w hw))
    refine go_if (fun h1 => ?_) (fun h1 => ?_)
    · repeat (first | refine go_run ?_ | (refine go_newP ?_; clear hw; intro p w hw) | (refine go_newW ?_; clear hw; intro w hw) | (refine go_newS ?_; clear hw; intro s w hw))
      refine res_one (v := .int .i64 5) rfl rfl ⟨?_, hw⟩
      rw [checkCode_large h0 (by omega)]
    · repeat (first | refine go_run ?_ | (refine go_newP ?_; clear hw; intro p w hw) | (refine go_newW ?_; clear hw; intro w hw) | (refine go_newS ?_; clear hw; intro s w hw))
      refine vc_loop [4, 6, 20, 21, 22, 23, 24, 25, 26, 27, 28, 29, 30, 31, 32, 33, 34, 35, 36, 37, 38, 39, 40, 41, 42, 43, 44, 45, 46, 47, 48, 49, 50, 51, 52, 53, 54] (G := Nat) (fun k => [(20, .int .i64 k)]) (fun k w => k ≤ arcs.length ∧ (∀ i, i < k → arcOk n (arcs.getD i tArc.dflt)) ∧ Sat w0 w []) (fun k => arcs.length - k) 0 (fun _ => rfl) ⟨rfl, trivial⟩ ⟨Nat.zero_le _, fun i hi => absurd hi (Nat.not_lt_zero _), hw⟩ ?_
      clear hw
      rintro σ k w ⟨hk, hpre, hw⟩
      repeat (first | refine go_run ?_ | (refine go_newP ?_; clear hw; intro p w hw) | (refine go_newW ?_; clear hw; intro w hw) | (refine go_newS ?_; clear hw; intro s w hw))
      refine go_if (fun h2 => ?_) (fun h2 => ?_)
      · repeat (first | refine go_run ?_ | (refine go_newP ?_; clear hw; intro p w hw) | (refine go_newW ?_; clear hw; intro w hw) | (refine go_newS ?_; clear hw; intro s w hw))
        refine go_if (fun h3 => ?_) (fun h3 => ?_)
        · repeat (first | refine go_run ?_ | (refine go_newP ?_; clear hw; intro p w hw) | (refine go_newW ?_; clear hw; intro w hw) | (refine go_newS ?_; clear hw; intro s w hw))
          refine res_one (v := .int .i64 1) rfl rfl ⟨?_, hw.tail⟩
          rw [checkCode_bad h0 (by omega) (k := k) (by omega) (by unfold arcOk; omega)]
        · repeat (first | refine go_run ?_ | (refine go_newP ?_; clear hw; intro p w hw) | (refine go_newW ?_; clear hw; intro w hw) | (refine go_newS ?_; clear hw; intro s w hw))
          refine ⟨k + 1, ⟨rfl, trivial⟩, by repeat (first | exact agree_refl | (apply agree_upd rfl) | (apply agree_mix rfl) | (apply agree_sets rfl)), ⟨by omega, fun i hi => ?_, hw.tail⟩, by omega⟩
          by_cases h : i = k
          · subst h; unfold arcOk; omega
          · exact hpre i (by omega)
      · repeat (first | refine go_run ?_ | (refine go_newP ?_; clear hw; intro p w hw) | (refine go_newW ?_; clear hw; intro w hw) | (refine go_newS ?_; clear hw; intro s w hw))
        refine res_one (v := .int .i64 0) rfl rfl ⟨?_, hw⟩
        rw [checkCode_ok h0 (by omega) (fun i hi => hpre i (by omega))]
theorem nodup_bound : ∀ {k : Nat} {M : List Nat}, M.Nodup → (∀ x ∈ M, x < k) → M.length ≤ k
  | 0, M, _, h => by
    cases M with
    | nil => exact Nat.le_refl _
    | cons x M => exact absurd (h x List.mem_cons_self) (Nat.not_lt_zero _)
  | k + 1, M, hd, h => by
    have h1 := nodup_bound (k := k) (M := M.erase k) (hd.erase k) fun x hx => by
      have h2 := (List.Nodup.mem_erase_iff hd).1 hx
      have := h x h2.2
      omega
    rw [List.length_erase] at h1
    split at h1 <;> omega
theorem not_full {n : Nat} {N : Nat → Nat} (hn : n ≤ 10) : ¬ ClqFull n N := fun ⟨M, hd, hl, hm⟩ => by
  have h1 := nodup_bound (k := 2 ^ 10) hd fun C hC => Nat.lt_of_lt_of_le (lt_of_bits (hm C hC).bd) (Nat.pow_le_pow_right (by decide) hn)
  omega
theorem cliq_eq {n : Nat} {N : Nat → Nat} {L M : List (List Int)} (h1 : LexS L) (h2 : CliqL n N L) (h3 : LexS M) (h4 : CliqL n N M) : L = M := LexS.eq h1 h3 fun x => (h2 x).trans (h4 x).symm
set_option maxRecDepth 8000 in
set_option maxHeartbeats 2000000 in
theorem rCliques0_spec {w0 : World} {a : Value} : Calls Tryd.prog 9 #[.int .i64 0, a] w0 fun e w' => e = .returned (.slice none 0 0) ∧ Sat w0 w' [] := by
  have hw := Sat.start w0
  have hE : Calls Tryd.prog 20 #[.int .i64 0, a, .slice none 0 0, .int .i64 0, .slice none 0 0] w0 fun e w' => e = .returned (.slice none 0 0) ∧ Sat w0 w' [] := by
    refine calls_of_vc (args := [.int .i64 0, a, .slice none 0 0, .int .i64 0, .slice none 0 0]) mixed Tryd.func20 rfl (by kernel_rfl) (Nat.le_of_ble_eq_true rfl) ?_
    repeat (first | refine go_run ?_ | (refine go_newP ?_; clear hw; intro p w hw) | (refine go_newW ?_; clear hw; intro w hw) | (refine go_newS ?_; clear hw; intro s w hw))
    have hd0 : decide ((0 : Int) = 0) = true := rfl
    simp only [hd0]
    repeat (first | refine go_run ?_ | (refine go_newP ?_; clear hw; intro p w hw) | (refine go_newW ?_; clear hw; intro w hw) | (refine go_newS ?_; clear hw; intro s w hw))
    refine vc_loop [10, 11, 12, 13, 15, 23, 24, 25, 26, 27, 28, 29, 30, 31, 32, 33, 34, 35, 36, 37, 38, 39, 40, 41, 42, 43, 44, 45, 46, 47, 48, 49, 50, 51, 52] (G := Nat) (fun u => [(23, .int .i64 u)]) (fun u w => u = 0 ∧ Sat w0 w []) (fun u => 0) 0 (fun _ => rfl) ⟨rfl, trivial⟩ ⟨rfl, hw⟩ ?_
    clear hw
    rintro σ u w ⟨rfl, hw⟩
    repeat (first | refine go_run ?_ | (refine go_newP ?_; clear hw; intro p w hw) | (refine go_newW ?_; clear hw; intro w hw) | (refine go_newS ?_; clear hw; intro s w hw))
    have hd1 : decide (((0 : Nat) : Int) < 0) = false := rfl
    simp only [hd1]
    have hnl : RS tInt w (.slice none 0 0) [] := RS.nil
    repeat (first | refine go_run ?_ | (refine go_newP ?_; clear hw; intro p w hw) | (refine go_newW ?_; clear hw; intro w hw) | (refine go_newS ?_; clear hw; intro s w hw))
    exact res_one (v := .slice none 0 0) rfl rfl ⟨rfl, hw⟩
  refine calls_of_vc (args := [.int .i64 0, a]) mixed Tryd.func9 rfl (by kernel_rfl) (Nat.le_of_ble_eq_true rfl) ?_
  repeat (first | refine go_run ?_ | (refine go_newP ?_; clear hw; intro p w hw) | (refine go_newW ?_; clear hw; intro w hw) | (refine go_newS ?_; clear hw; intro s w hw))
  refine st_call rfl hE ?_
  rintro _ w' ⟨rfl, hk'⟩
  replace hw := hw.call0 hk'
  clear hk'
  refine ⟨_, rfl, ?_⟩
  repeat (first | refine go_run ?_ | (refine go_newP ?_; clear hw; intro p w hw) | (refine go_newW ?_; clear hw; intro w hw) | (refine go_newS ?_; clear hw; intro s w hw))
  exact res_one (v := .slice none 0 0) rfl rfl ⟨rfl, hw⟩
set_option maxRecDepth 8000 in
set_option maxHeartbeats 4000000 in
theorem GraphCliques_walk {w0 : World} {n : Int} {a : Value} {arcs : List Arc} (ha : RS tArc w0 a arcs) (hT : TabB w0) :
    Calls Tryd.prog 3 #[.agg #[.int .i64 n, a]] w0 fun e w' => e = .returned (.bool true) ∧ Sat w0 w' [] := by
  have hla := ha.big
  have hw := Sat.start w0
  refine calls_of_vc (args := [.agg #[.int .i64 n, a]]) mixed Tryd.func3 rfl (by kernel_rfl) (Nat.le_of_ble_eq_true rfl) ?_
  repeat (first | refine go_run ?_ | (refine go_newP ?_; clear hw; intro p w hw) | (refine go_newW ?_; clear hw; intro w hw) | (refine go_newS ?_; clear hw; intro s w hw))
  obtain ⟨pt, hpt⟩ : ∃ pt, pt = p := ⟨p, rfl⟩
  subst hpt
  refine st_call rfl G04.awake_spec ?_
  rintro _ w' ⟨rfl, hk'⟩
  replace hw := hw.call0 hk'
  clear hk'
  refine ⟨_, rfl, ?_⟩
  repeat (first | refine go_runC ?_ | (refine go_newP ?_; clear hw; intro p w hw) | (refine go_newW ?_; clear hw; intro w hw) | (refine go_newS ?_; clear hw; intro s w hw))
  refine go_if (fun h1 => ?_) (fun h1 => ?_)
  · repeat (first | refine go_run ?_ | (refine go_newP ?_; clear hw; intro p w hw) | (refine go_newW ?_; clear hw; intro w hw) | (refine go_newS ?_; clear hw; intro s w hw))
    refine st_call rfl G04.awake_spec ?_
    rintro _ w' ⟨rfl, hk'⟩
    replace hw := hw.call0 hk'
    clear hk'
    refine ⟨_, rfl, ?_⟩
    repeat (first | refine go_run ?_ | (refine go_newP ?_; clear hw; intro p w hw) | (refine go_newW ?_; clear hw; intro w hw) | (refine go_newS ?_; clear hw; intro s w hw))
    exact res_one (v := .bool true) rfl rfl ⟨rfl, hw.sel⟩
  obtain ⟨hn10, hal⟩ := h1
  have hw : Sat w0 w' [Box pt 24 [.int .i64 n, a]] := hw
  repeat (first | refine go_run ?_ | (refine go_newP ?_; clear hw; intro p w hw) | (refine go_newW ?_; clear hw; intro w hw) | (refine go_newS ?_; clear hw; intro s w hw))
  refine st_call rfl (Cliques_spec (n := n) (a := a) (ha.at hw) (hT.at hw)) ?_
  rintro _ w' hR
  rcases hR with ⟨hc, rfl, hk'⟩ | ⟨_, h32, _⟩ | ⟨hc, hn0, rfl, hk'⟩ | ⟨_, h0, h1, hfull, _⟩ | ⟨hc, h0, h1, fv, fs, Cs, rfl, hlex, hcl, hcnt, hk'⟩
  · replace hw := hw.call0 hk'
    clear hk'
    refine ⟨_, rfl, ?_⟩
    repeat (first | refine go_run ?_ | (refine go_newP ?_; clear hw; intro p w hw) | (refine go_newW ?_; clear hw; intro w hw) | (refine go_newS ?_; clear hw; intro s w hw))
    refine st_call rfl (refCheck_spec (n := n) (ha.at hw)) ?_
    rintro _ w' ⟨rfl, hk'⟩
    replace hw := hw.call0 hk'
    clear hk'
    refine ⟨_, rfl, ?_⟩
    have hd0 : decide (checkCode n arcs = 0) = false := decide_eq_false hc
    have hnl : RS tVal w' (.slice none 0 0) [] := RS.nil
    repeat (first | refine go_runC ?_ | (refine go_newP ?_; clear hw; intro p w hw) | (refine go_newW ?_; clear hw; intro w hw) | (refine go_newS ?_; clear hw; intro s w hw))
    simp only [hd0, Bool.not_false]
    repeat (first | refine go_run ?_ | (refine go_newP ?_; clear hw; intro p w hw) | (refine go_newW ?_; clear hw; intro w hw) | (refine go_newS ?_; clear hw; intro s w hw))
    have hd1 : decide ((([] : List Value).length : Int) = 0) = true := rfl
    simp only [hd1, gvtt]
    repeat (first | refine go_run ?_ | (refine go_newP ?_; clear hw; intro p w hw) | (refine go_newW ?_; clear hw; intro w hw) | (refine go_newS ?_; clear hw; intro s w hw))
    refine st_call rfl (Num_spec (checkCode n arcs)) ?_
    rintro _ w' ⟨rfl, hk'⟩
    replace hw := hw.call0 hk'
    clear hk'
    refine ⟨_, rfl, ?_⟩
    have hd2 : decide (checkCode n arcs = checkCode n arcs) = true := decide_eq_true rfl
    repeat (first | refine go_runC ?_ | (refine go_newP ?_; clear hw; intro p w hw) | (refine go_newW ?_; clear hw; intro w hw) | (refine go_newS ?_; clear hw; intro s w hw))
    simp only [hd2, Bool.and_self]
    repeat (first | refine go_run ?_ | (refine go_newP ?_; clear hw; intro p w hw) | (refine go_newW ?_; clear hw; intro w hw) | (refine go_newS ?_; clear hw; intro s w hw))
    exact res_one (v := .bool true) rfl rfl ⟨rfl, hw.sel⟩
  · exfalso; omega
  · replace hw := hw.call0 hk'
    clear hk'
    subst hn0
    refine ⟨_, rfl, ?_⟩
    repeat (first | refine go_run ?_ | (refine go_newP ?_; clear hw; intro p w hw) | (refine go_newW ?_; clear hw; intro w hw) | (refine go_newS ?_; clear hw; intro s w hw))
    refine st_call rfl (refCheck_spec (n := 0) (ha.at hw)) ?_
    rintro _ w' ⟨rfl, hk'⟩
    replace hw := hw.call0 hk'
    clear hk'
    refine ⟨_, rfl, ?_⟩
    rw [hc]
    repeat (first | refine go_run ?_ | (refine go_newP ?_; clear hw; intro p w hw) | (refine go_newW ?_; clear hw; intro w hw) | (refine go_newS ?_; clear hw; intro s w hw))
    refine st_call rfl rCliques0_spec ?_
    rintro _ w' ⟨rfl, hk'⟩
    replace hw := hw.call0 hk'
    clear hk'
    refine ⟨_, rfl, ?_⟩
    have hnl : RS tVal w' (.slice none 0 0) [] := RS.nil
    repeat (first | refine go_runC ?_ | (refine go_newP ?_; clear hw; intro p w hw) | (refine go_newW ?_; clear hw; intro w hw) | (refine go_newS ?_; clear hw; intro s w hw))
    refine go_if (fun h9 => ?_) (fun h9 => ?_)
    · exfalso
      simp at h9
    have hnl2 : RS tVal w' (.slice none 0 0) [] := RS.nil
    repeat (first | refine go_run ?_ | (refine go_newP ?_; clear hw; intro p w hw) | (refine go_newW ?_; clear hw; intro w hw) | (refine go_newS ?_; clear hw; intro s w hw))
    refine vc_loop [2, 7, 62, 63, 64, 65, 66, 67, 68, 69, 70, 71, 72, 73, 74, 75] (G := Nat) (fun u => [(62, .int .i64 u)]) (fun u w => u = 0 ∧ Sat w0 w [Box pt 24 [.int .i64 0, a]]) (fun u => 0) 0 (fun _ => rfl) ⟨rfl, trivial⟩ ⟨rfl, hw⟩ ?_
    clear hw
    rintro σ u w ⟨rfl, hw⟩
    repeat (first | refine go_run ?_ | (refine go_newP ?_; clear hw; intro p w hw) | (refine go_newW ?_; clear hw; intro w hw) | (refine go_newS ?_; clear hw; intro s w hw))
    have hd3 : decide (((0 : Nat) : Int) < (([] : List Value).length : Int)) = false := rfl
    simp only [hd3]
    repeat (first | refine go_run ?_ | (refine go_newP ?_; clear hw; intro p w hw) | (refine go_newW ?_; clear hw; intro w hw) | (refine go_newS ?_; clear hw; intro s w hw))
    exact res_one (v := .bool true) rfl rfl ⟨rfl, hw.sel⟩
  · exact absurd hfull (not_full (by omega))
  · replace hw := hw.call2 hk'
    clear hk'
    refine ⟨_, rfl, ?_⟩
    repeat (first | refine go_run ?_ | (refine go_newP ?_; clear hw; intro p w hw) | (refine go_newW ?_; clear hw; intro w hw) | (refine go_newS ?_; clear hw; intro s w hw))
    refine st_call rfl (refCheck_spec (n := n) (ha.at hw)) ?_
    rintro _ w' ⟨rfl, hk'⟩
    replace hw := hw.call0 hk'
    clear hk'
    refine ⟨_, rfl, ?_⟩
    rw [hc]
    repeat (first | refine go_run ?_ | (refine go_newP ?_; clear hw; intro p w hw) | (refine go_newW ?_; clear hw; intro w hw) | (refine go_newS ?_; clear hw; intro s w hw))
    refine st_call rfl (rCliques_spec (n := n) (ha.at hw) h0 (by omega) (of_checkCode hc).2.2.2) ?_
    rintro _ w' ⟨ov, os, Ds, rfl, hlex2, hcl2, hk'⟩
    replace hw := hw.call2 hk'
    clear hk'
    refine ⟨_, rfl, ?_⟩
    obtain rfl := cliq_eq hlex hcl hlex2 hcl2
    have hl1 := hw.rowsLen
    have hl2 := (hw.focus 2 rfl).rowsLen
    repeat (first | refine go_runC ?_ | (refine go_newP ?_; clear hw; intro p w hw) | (refine go_newW ?_; clear hw; intro w hw) | (refine go_newS ?_; clear hw; intro s w hw))
    refine go_if (fun h9 => ?_) (fun h9 => ?_)
    · exfalso
      simp only [hl1, hl2] at h9
      exact h9 trivial
    repeat (first | refine go_run ?_ | (refine go_newP ?_; clear hw; intro p w hw) | (refine go_newW ?_; clear hw; intro w hw) | (refine go_newS ?_; clear hw; intro s w hw))
    refine vc_loop [2, 7, 62, 63, 64, 65, 66, 67, 68, 69, 70, 71, 72, 73, 74, 75] (G := Nat) (fun k => [(62, .int .i64 k)]) (fun k w => k ≤ Cs.length ∧ Sat w0 w [RowsAt tInt 3 os Cs, OS tVal 35 ov os, RowsAt tInt 3 fs Cs, OS tVal 35 fv fs, Box pt 24 [.int .i64 n, a]]) (fun k => Cs.length - k) 0 (fun _ => rfl) ⟨rfl, trivial⟩ ⟨Nat.zero_le _, hw⟩ ?_
    clear hw
    rintro σ k w ⟨hk, hw⟩
    repeat (first | refine go_run ?_ | (refine go_newP ?_; clear hw; intro p w hw) | (refine go_newW ?_; clear hw; intro w hw) | (refine go_newS ?_; clear hw; intro s w hw))
    refine go_if (fun h10 => ?_) (fun h10 => ?_)
    · have hkl : k < Cs.length := by omega
      repeat (first | refine go_run ?_ | (refine go_newP ?_; clear hw; intro p w hw) | (refine go_newWr ?_; clear hw; intro w hw) | (refine go_newS ?_; clear hw; intro s w hw))
      refine vc_plan [.op 0, .op 1, .op 2, .op 3, .op 4, .op 5, .op 6, .op 7, .op 8, .op 9] hw (by kernel_rfl) ?_; clear hw; intro w hw
      repeat (first | refine go_run ?_ | (refine go_newP ?_; clear hw; intro p w hw) | (refine go_newWr ?_; clear hw; intro w hw) | (refine go_newS ?_; clear hw; intro s w hw))
      refine st_call rfl (G04.Ints_spec (a := vget fs k) (b := vget os k) ((hw.focus 2 rfl).row hkl) ((hw.focus 0 rfl).row hkl)) ?_
      rintro _ w' ⟨rfl, hk'⟩
      replace hw := hw.call0 hk'
      clear hk'
      refine ⟨.bool true, by rw [decide_eq_true rfl], ?_⟩
      repeat (first | refine go_run ?_ | (refine go_newP ?_; clear hw; intro p w hw) | (refine go_newW ?_; clear hw; intro w hw) | (refine go_newS ?_; clear hw; intro s w hw))
      exact ⟨k + 1, ⟨rfl, trivial⟩, by repeat (first | exact agree_refl | (apply agree_upd rfl) | (apply agree_mix rfl) | (apply agree_sets rfl)), ⟨by omega, hw⟩, by omega⟩
    · repeat (first | refine go_run ?_ | (refine go_newP ?_; clear hw; intro p w hw) | (refine go_newW ?_; clear hw; intro w hw) | (refine go_newS ?_; clear hw; intro s w hw))
      exact res_one (v := .bool true) rfl rfl ⟨rfl, hw.sel⟩
end Go.Proofs.YtnoiagnmbipppaaDoor
