
/-
  Contracts of 'graph.Shortest' and of the reference's 'Check' and 'Shortest'.
-/
import Derived.Test.YtnoiagnmbipppaaDoorWBase
set_option linter.unusedSimpArgs false
set_option linter.unusedVariables false
namespace Go.Proofs.YtnoiagnmbipppaaDoor.G04
open Go.Sl
set_option maxRecDepth 8000
attribute [local irreducible] vc opsW opsD opV opW PureV ReadV Thn Blk

theorem errV_zero {c : Int} (h : c = 0) : errV c = .nilIface := by simp [errV, h]
theorem errV_some {c : Int} (h : c ≠ 0) : errV c = .iface 40 (.int .i64 c) := by simp [errV, h]

set_option maxRecDepth 4000 in
theorem Shortest_spec {w0 : World} {n src : Int} {a : Value} {arcs : List Arc} (ha : RS tArc w0 a arcs) (hB : (n.toNat + 2) * arcs.length ≤ 8000) :
    Calls Tryd.prog 15 #[.int .i64 n, a, .int .i64 src] w0 fun e w' => ∃ s, e = .returned (.tuple #[s, errV (shortR n arcs src n.toNat).1]) ∧ Sat w0 w' [OS tInt 3 s (shortR n arcs src n.toNat).2] := by
  have hla := ha.big
  have hw := Sat.start w0
  refine calls_of_vc (args := [.int .i64 n, a, .int .i64 src]) mixed Tryd.func15 rfl (by kernel_rfl) (Nat.le_of_ble_eq_true rfl) ?_
  repeat (first | refine go_run ?_ | (refine go_newP ?_; clear hw; intro p w hw) | (refine go_newW ?_; clear hw; intro w hw) | (refine go_newS ?_; clear hw; intro s w hw))
  refine st_call rfl (check_spec (n := n) (ha.at hw)) ?_
  rintro _ w ⟨rfl, hk⟩
  replace hw := hw.call0 hk
  clear hk
  by_cases hcode : checkCode n arcs = 0
  · refine ⟨.nilIface, by rw [errV_zero hcode], ?_⟩
    obtain ⟨hn0, hn1, harcs⟩ := of_checkCode hcode
    repeat (first | refine go_run ?_ | (refine go_newP ?_; clear hw; intro p w hw) | (refine go_newW ?_; clear hw; intro w hw) | (refine go_newS ?_; clear hw; intro s w hw))
    refine go_if (fun h1 => ?_) (fun h1 => ?_)
    · repeat (first | refine go_run ?_ | (refine go_newP ?_; clear hw; intro p w hw) | (refine go_newW ?_; clear hw; intro w hw) | (refine go_newS ?_; clear hw; intro s w hw))
      have hR := shortR_src (f := n.toNat) hcode (show src < 0 ∨ n ≤ src by omega)
      exact res_two (v := .slice none 0 0) (v' := .iface 40 (.int .i64 1)) rfl rfl rfl ⟨_, by rw [hR]; rfl, by rw [hR]; exact hw.nil⟩
    · repeat (first | refine go_run ?_ | (refine go_newP ?_; clear hw; intro p w hw) | (refine go_newW ?_; clear hw; intro w hw) | (refine go_newS ?_; clear hw; intro s w hw))
      have hl0 : (List.replicate n.toNat (0 : Int)).length = n.toNat := by simp
      refine vc_loop [10, 35, 36, 37, 38, 39, 40, 41] (G := Nat) (fun k => [(35, .int .i64 k)]) (fun k w => k ≤ n.toNat ∧ Sat w0 w [OS tInt 3 s (fillK n.toNat 9007199254740992 0 k)]) (fun k => n.toNat - k) 0 (fun _ => rfl) ⟨rfl, trivial⟩ ⟨Nat.zero_le _, by rw [fillK_zero]; exact hw⟩ ?_
      clear hw
      rintro σ k w ⟨hk, hw⟩
      have hrk := fillK_len (n := n.toNat) (9007199254740992 : Int) 0 hk
      repeat (first | refine go_run ?_ | (refine go_newP ?_; clear hw; intro p w hw) | (refine go_newW ?_; clear hw; intro w hw) | (refine go_newS ?_; clear hw; intro s w hw))
      refine go_if (fun h2 => ?_) (fun h2 => ?_)
      · repeat (first | refine go_run ?_ | (refine go_newP ?_; clear hw; intro p w hw) | (refine go_newW ?_; clear hw; intro w hw) | (refine go_newS ?_; clear hw; intro s w hw))
        refine ⟨k + 1, ⟨rfl, trivial⟩, by repeat (first | exact agree_refl | (apply agree_upd rfl) | (apply agree_mix rfl) | (apply agree_sets rfl)), ⟨by omega, ?_⟩, by omega⟩
        rw [← fillK_set _ _ (by omega)]; exact hw
      · rw [fillK_all _ _ (show k = n.toNat by omega)] at hw hrk
        repeat (first | refine go_run ?_ | (refine go_newP ?_; clear hw; intro p w hw) | (refine go_newW ?_; clear hw; intro w hw) | (refine go_newS ?_; clear hw; intro s w hw))
        rw [← d0_enc] at hw
        have hbd0 := d0_bd n.toNat src (by omega) (by omega)
        refine vc_loop2 [6, 7, 11, 12, 14, 45, 46, 47, 48, 49, 50, 51, 52, 53, 54, 55, 56, 57, 58, 59, 60, 61, 62, 63, 64, 65, 66, 67, 68, 69, 70, 71, 72, 73, 74, 75, 76, 77, 78, 79, 80, 81, 82, 83, 84, 85, 86, 87, 88, 89, 90, 91, 92, 93, 94, 95, 96, 97, 98, 99, 100] (G := Nat) (H := Ds) (fun r d => [(11, .int .i64 r)]) (fun r d w => r ≤ n.toNat ∧ d.length = n.toNat ∧ Bd ((r * arcs.length : Nat) * 1099511627776) d ∧ bf arcs (n.toNat - r) d = bf arcs n.toNat (d0 n.toNat src.toNat) ∧ Sat w0 w [OS tInt 3 s (d.map (encF 9007199254740992))]) (fun r d => n.toNat + 1 - r) 0 _ (fun _ _ => rfl) ⟨rfl, trivial⟩ ⟨Nat.zero_le _, d0_len _ _, by simpa using hbd0, rfl, hw⟩ ?_
        clear hw hk hrk
        rintro σ1 r d w ⟨hr, hdl, hbd, hbf, hw⟩
        have hrm : r * arcs.length + arcs.length ≤ 8000 := by
          have := Nat.mul_le_mul_right arcs.length (show r + 1 ≤ n.toNat + 2 by omega)
          rw [Nat.add_mul] at this; omega
        repeat (first | refine go_run ?_ | (refine go_newP ?_; clear hw; intro p w hw) | (refine go_newW ?_; clear hw; intro w hw) | (refine go_newS ?_; clear hw; intro s w hw))
        refine vc_loop3 [6, 7, 12, 14, 49, 50, 51, 52, 53, 54, 55, 56, 57, 58, 59, 60, 61, 62, 63, 64, 65, 66, 67, 68, 69, 70, 71, 72, 73, 74, 75, 76, 77, 78, 79, 80, 81, 82, 83, 84, 85, 86, 87, 88, 89, 90, 91, 92, 93, 94] (G := Nat) (H := Ds) (I := Bool) (fun k d' c => [(49, .int .i64 k), (12, .bool c)]) (fun k d' c w => k ≤ arcs.length ∧ d'.length = n.toNat ∧ Bd ((r * arcs.length + k : Nat) * 1099511627776) d' ∧ passK arcs d k = (d', c) ∧ Sat w0 w [OS tInt 3 s (d'.map (encF 9007199254740992))]) (fun k d' c => arcs.length - k) 0 d false (fun _ _ _ => rfl) ⟨rfl, rfl, trivial⟩ ⟨Nat.zero_le _, hdl, by simpa using hbd, rfl, hw⟩ ?_
        clear hw
        rintro σ2 k d' c w ⟨hk, hdl', hbd', hp, hw⟩
        have hml : (d'.map (encF 9007199254740992)).length = n.toNat := by simpa using hdl'
        repeat (first | refine go_run ?_ | (refine go_newP ?_; clear hw; intro p w hw) | (refine go_newW ?_; clear hw; intro w hw) | (refine go_newS ?_; clear hw; intro s w hw))
        refine go_if (fun h3 => ?_) (fun h3 => ?_)
        · have hak := harcs _ (mem_getD tArc.dflt (show k < arcs.length by omega))
          unfold arcOk at hak
          have hstep := passK_succ arcs d (show k < arcs.length by omega)
          rw [hp] at hstep
          have hx1 := encF_bd (F := 9007199254740992) hbd' (by omega) (by omega) (arcs.getD k tArc.dflt).src.toNat
          have hx2 := encF_bd (F := 9007199254740992) hbd' (by omega) (by omega) (arcs.getD k tArc.dflt).dst.toNat
          repeat (first | refine go_run ?_ | (refine go_newP ?_; clear hw; intro p w hw) | (refine go_newW ?_; clear hw; intro w hw) | (refine go_newS ?_; clear hw; intro s w hw))
          refine go_if (fun h4 => ?_) (fun h4 => ?_)
          · have hrel := relax_yes hbd' (F := 9007199254740992) (by omega) (by omega) (by omega) h4.1 h4.2
            rw [step_some _ hrel] at hstep
            have hbd2 : Bd (((r * arcs.length + k : Nat) : Int) * 1099511627776 + 1099511627776) (d'.set (arcs.getD k tArc.dflt).dst.toNat (some ((d'.map (encF 9007199254740992)).getD (arcs.getD k tArc.dflt).src.toNat tInt.dflt + (arcs.getD k tArc.dflt).wt))) := by
              have hb := Bd_step (p := (d', c)) hbd' (M := 1099511627776) (by omega) ⟨hak.2.2.2.2.1, hak.2.2.2.2.2⟩ hak.2.2.1 (by simp only [hdl']; omega)
              rw [step_some _ hrel] at hb
              exact hb
            repeat (first | refine go_run ?_ | (refine go_newP ?_; clear hw; intro p w hw) | (refine go_newW ?_; clear hw; intro w hw) | (refine go_newS ?_; clear hw; intro s w hw))
            have hset : (d'.map (encF 9007199254740992)).set (arcs.getD k tArc.dflt).dst.toNat ((d'.map (encF 9007199254740992)).getD (arcs.getD k tArc.dflt).src.toNat tInt.dflt + (arcs.getD k tArc.dflt).wt) = (d'.set (arcs.getD k tArc.dflt).dst.toNat (some ((d'.map (encF 9007199254740992)).getD (arcs.getD k tArc.dflt).src.toNat tInt.dflt + (arcs.getD k tArc.dflt).wt))).map (encF 9007199254740992) := by rw [List.map_set]; rfl
            rw [hset] at hw
            have hx3 := encF_bd (F := 9007199254740992) hbd2 (by omega) (by omega) (arcs.getD k tArc.dflt).dst.toNat
            have hml2 : ((d'.set (arcs.getD k tArc.dflt).dst.toNat (some ((d'.map (encF 9007199254740992)).getD (arcs.getD k tArc.dflt).src.toNat tInt.dflt + (arcs.getD k tArc.dflt).wt))).map (encF 9007199254740992)).length = n.toNat := by simpa using hdl'
            repeat (first | refine go_run ?_ | (refine go_newP ?_; clear hw; intro p w hw) | (refine go_newW ?_; clear hw; intro w hw) | (refine go_newS ?_; clear hw; intro s w hw))
            refine go_if (fun h5 => ?_) (fun h5 => ?_)
            · exfalso; omega
            · repeat (first | refine go_run ?_ | (refine go_newP ?_; clear hw; intro p w hw) | (refine go_newW ?_; clear hw; intro w hw) | (refine go_newS ?_; clear hw; intro s w hw))
              refine ⟨k + 1, _, true, ⟨rfl, rfl, trivial⟩, by repeat (first | exact agree_refl | (apply agree_upd rfl) | (apply agree_mix rfl) | (apply agree_sets rfl)), ⟨by omega, by simpa using hml2, ?_, hstep, hw.tail⟩, by omega⟩
              rw [show ((r * arcs.length + (k + 1) : Nat) : Int) * 1099511627776 = ((r * arcs.length + k : Nat) : Int) * 1099511627776 + 1099511627776 by omega]
              exact hbd2
          · have hrel := relax_no hbd' (F := 9007199254740992) (M := 1099511627776) hak.2.2.2.2.2 (by omega) (by omega) (by omega) (by omega) h4
            rw [step_same _ hrel] at hstep
            repeat (first | refine go_run ?_ | (refine go_newP ?_; clear hw; intro p w hw) | (refine go_newW ?_; clear hw; intro w hw) | (refine go_newS ?_; clear hw; intro s w hw))
            refine go_if (fun h5 => ?_) (fun h5 => ?_)
            · exfalso; omega
            · repeat (first | refine go_run ?_ | (refine go_newP ?_; clear hw; intro p w hw) | (refine go_newW ?_; clear hw; intro w hw) | (refine go_newS ?_; clear hw; intro s w hw))
              refine ⟨k + 1, d', c, ⟨rfl, rfl, trivial⟩, by repeat (first | exact agree_refl | (apply agree_upd rfl) | (apply agree_mix rfl) | (apply agree_sets rfl)), ⟨by omega, hdl', fun i x hx => ?_, hstep, hw.tail⟩, by omega⟩
              have := hbd' i x hx
              omega
        · rw [passK_all arcs d (by omega)] at hp
          repeat (first | refine go_run ?_ | (refine go_newP ?_; clear hw; intro p w hw) | (refine go_newW ?_; clear hw; intro w hw) | (refine go_newS ?_; clear hw; intro s w hw))
          cases c with
          | true =>
            have hp2 : (pass arcs d).2 = true := by rw [hp]
            repeat (first | refine go_run ?_ | (refine go_newP ?_; clear hw; intro p w hw) | (refine go_newW ?_; clear hw; intro w hw) | (refine go_newS ?_; clear hw; intro s w hw))
            refine go_if (fun h6 => ?_) (fun h6 => ?_)
            · rw [show n.toNat - r = 0 by omega, bf_zero_none hp2] at hbf
              have hR := shortR_none hcode h1 hbf.symm
              repeat (first | refine go_run ?_ | (refine go_newP ?_; clear hw; intro p w hw) | (refine go_newW ?_; clear hw; intro w hw) | (refine go_newS ?_; clear hw; intro s w hw))
              exact res_two (v := .slice none 0 0) (v' := .iface 40 (.int .i64 21)) rfl rfl rfl ⟨_, by rw [hR]; rfl, by rw [hR]; exact hw.tail.nil⟩
            · rw [show n.toNat - r = (n.toNat - (r + 1)) + 1 by omega, bf_step hp2, hp] at hbf
              repeat (first | refine go_run ?_ | (refine go_newP ?_; clear hw; intro p w hw) | (refine go_newW ?_; clear hw; intro w hw) | (refine go_newS ?_; clear hw; intro s w hw))
              refine ⟨r + 1, d', ⟨rfl, trivial⟩, by repeat (first | exact agree_refl | (apply agree_upd rfl) | (apply agree_mix rfl) | (apply agree_sets rfl)), ⟨by omega, hdl', ?_, hbf, hw⟩, by omega⟩
              intro i x hx
              have hb := hbd' i x hx
              rw [show (r + 1) * arcs.length = r * arcs.length + arcs.length by rw [Nat.add_mul, Nat.one_mul]]
              omega
          | false =>
            have hp2 : (pass arcs d).2 = false := by rw [hp]
            rw [bf_stop hp2, hp] at hbf
            have hR := shortR_some hcode h1 hbf.symm
            rw [← finK_zero] at hw hml
            repeat (first | refine go_run ?_ | (refine go_newP ?_; clear hw; intro p w hw) | (refine go_newW ?_; clear hw; intro w hw) | (refine go_newS ?_; clear hw; intro s w hw))
            refine vc_loop [6, 7, 15, 16, 103, 104, 105, 106, 107, 108, 109, 110, 111, 112, 113, 114, 115, 116, 117, 118, 119, 120, 121, 122] (G := Nat) (fun j => [(103, .int .i64 j)]) (fun j w => j ≤ n.toNat ∧ (∀ i, i < j → finB (d'.getD i none) = true) ∧ Sat w0 w [OS tInt 3 s (finK 9007199254740992 d' j)]) (fun j => n.toNat - j) 0 (fun _ => rfl) ⟨rfl, trivial⟩ ⟨Nat.zero_le _, fun i hi => absurd hi (Nat.not_lt_zero _), hw⟩ ?_
            clear hw
            rintro σ3 j w ⟨hj, hok, hw⟩
            have hlj := finK_len 9007199254740992 d' j
            repeat (first | refine go_run ?_ | (refine go_newP ?_; clear hw; intro p w hw) | (refine go_newW ?_; clear hw; intro w hw) | (refine go_newS ?_; clear hw; intro s w hw))
            refine go_if (fun h7 => ?_) (fun h7 => ?_)
            · have hg := finK_get 9007199254740992 d' (show j < d'.length by omega)
              have hg' : (finK 9007199254740992 d' j).getD j tInt.dflt = encF 9007199254740992 (d'.getD j none) := hg
              repeat (first | refine go_run ?_ | (refine go_newP ?_; clear hw; intro p w hw) | (refine go_newW ?_; clear hw; intro w hw) | (refine go_newS ?_; clear hw; intro s w hw))
              refine go_if (fun h8 => ?_) (fun h8 => ?_)
              · have hdj : d'.getD j none = none := by
                  cases hx : d'.getD j none with
                  | none => rfl
                  | some x =>
                    rw [hx] at hg'
                    simp only [encF] at hg'
                    have hb := hbd' j x hx
                    exfalso; omega
                repeat (first | refine go_run ?_ | (refine go_newP ?_; clear hw; intro p w hw) | (refine go_newW ?_; clear hw; intro w hw) | (refine go_newS ?_; clear hw; intro s w hw))
                have hset : (finK 9007199254740992 d' j).set j 1125899906842624 = finK 9007199254740992 d' (j + 1) := finK_none _ _ (by omega) hdj
                rw [hset] at hw
                refine ⟨j + 1, ⟨rfl, trivial⟩, by repeat (first | exact agree_refl | (apply agree_upd rfl) | (apply agree_mix rfl) | (apply agree_sets rfl)), ⟨by omega, fun i hi => ?_, hw⟩, by omega⟩
                by_cases hij : i = j
                · subst hij; rw [hdj]; rfl
                · exact hok i (by omega)
              · obtain ⟨x, hdj⟩ : ∃ x, d'.getD j none = some x := by
                  cases hx : d'.getD j none with
                  | none => rw [hx] at hg'; exact absurd hg' h8
                  | some x => exact ⟨x, rfl⟩
                rw [hdj] at hg'
                simp only [encF] at hg'
                repeat (first | refine go_run ?_ | (refine go_newP ?_; clear hw; intro p w hw) | (refine go_newW ?_; clear hw; intro w hw) | (refine go_newS ?_; clear hw; intro s w hw))
                refine go_if (fun h9 => ?_) (fun h9 => ?_)
                · have hbad := fin_bad (x := x) (show j < d'.length by omega) hdj (by omega)
                  rw [if_neg hbad] at hR
                  repeat (first | refine go_run ?_ | (refine go_newP ?_; clear hw; intro p w hw) | (refine go_newW ?_; clear hw; intro w hw) | (refine go_newS ?_; clear hw; intro s w hw))
                  exact res_two (v := .slice none 0 0) (v' := .iface 40 (.int .i64 5)) rfl rfl rfl ⟨_, by rw [hR]; rfl, by rw [hR]; exact hw.tail.nil⟩
                · rw [finK_some _ _ (show j < d'.length by omega) hdj] at hw
                  repeat (first | refine go_run ?_ | (refine go_newP ?_; clear hw; intro p w hw) | (refine go_newW ?_; clear hw; intro w hw) | (refine go_newS ?_; clear hw; intro s w hw))
                  refine ⟨j + 1, ⟨rfl, trivial⟩, by repeat (first | exact agree_refl | (apply agree_upd rfl) | (apply agree_mix rfl) | (apply agree_sets rfl)), ⟨by omega, fun i hi => ?_, hw⟩, by omega⟩
                  by_cases hij : i = j
                  · subst hij; rw [hdj]; simp only [finB, Bool.and_eq_true, decide_eq_true_eq]; omega
                  · exact hok i (by omega)
            · rw [if_pos (fin_good fun i hi => hok i (by omega))] at hR
              rw [finK_all _ _ (show d'.length ≤ j by omega)] at hw
              repeat (first | refine go_run ?_ | (refine go_newP ?_; clear hw; intro p w hw) | (refine go_newW ?_; clear hw; intro w hw) | (refine go_newS ?_; clear hw; intro s w hw))
              exact res_two (v := s) (v' := .nilIface) rfl rfl rfl ⟨s, by rw [hR]; rfl, by rw [hR]; exact hw⟩
  · refine ⟨_, by rw [errV_some hcode], ?_⟩
    have hR := shortR_code (src := src) (f := n.toNat) hcode
    repeat (first | refine go_run ?_ | (refine go_newP ?_; clear hw; intro p w hw) | (refine go_newW ?_; clear hw; intro w hw) | (refine go_newS ?_; clear hw; intro s w hw))
    exact res_two (v := .slice none 0 0) (v' := .iface 40 (.int .i64 (checkCode n arcs))) rfl rfl rfl ⟨_, by rw [hR, errV_some hcode], by rw [hR]; exact hw.nil⟩
end Go.Proofs.YtnoiagnmbipppaaDoor.G04
