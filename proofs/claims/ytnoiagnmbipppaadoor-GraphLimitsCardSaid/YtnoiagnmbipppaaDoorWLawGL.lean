
/-
  The statement 'GraphLimits' returns true.
-/
import Derived.Test.YtnoiagnmbipppaaDoorWCliques
import Derived.Test.YtnoiagnmbipppaaDoorMTA
import Derived.Test.YtnoiagnmbipppaaDoorWLaw1
set_option linter.unusedSimpArgs false
set_option linter.unusedVariables false
namespace Go.Proofs.YtnoiagnmbipppaaDoor
open Go.Sl Go
attribute [local irreducible] vc opsW opsD opV opW PureV ReadV Thn Blk
set_option maxRecDepth 8000 in
theorem Is_spec {w0 : World} (c k : Int) : Calls Tryd.prog 11 #[errV c, .int .i64 k] w0 fun e w' => e = .returned (.bool (decide (c ≠ 0 ∧ c = k))) ∧ Sat w0 w' [] := by
  have hw := Sat.start w0
  by_cases hc : c = 0
  · rw [errV_zero hc]
    refine calls_of_vc (args := [.nilIface, .int .i64 k]) mixed Tryd.func11 rfl (by kernel_rfl) (Nat.le_of_ble_eq_true rfl) ?_
    repeat (first | refine go_run ?_ | (refine go_newP ?_; clear hw; intro p w hw) | (refine go_newW ?_; clear hw; intro w hw) | (refine go_newS ?_; clear hw; intro s w hw))
    exact res_one (v := .bool false) rfl rfl ⟨by rw [decide_eq_false (fun h => h.1 hc)], hw⟩
  · rw [errV_some hc]
    refine calls_of_vc (args := [.iface 40 (.int .i64 c), .int .i64 k]) mixed Tryd.func11 rfl (by kernel_rfl) (Nat.le_of_ble_eq_true rfl) ?_
    repeat (first | refine go_runC ?_ | (refine go_newP ?_; clear hw; intro p w hw) | (refine go_newW ?_; clear hw; intro w hw) | (refine go_newS ?_; clear hw; intro s w hw))
    have h := Num_spec (w0 := w0) c
    rw [errV_some hc] at h
    refine st_call rfl h ?_
    rintro _ w' ⟨rfl, hk'⟩
    replace hw := hw.call0 hk'
    clear hk'
    refine ⟨_, rfl, ?_⟩
    repeat (first | refine go_run ?_ | (refine go_newP ?_; clear hw; intro p w hw) | (refine go_newW ?_; clear hw; intro w hw) | (refine go_newS ?_; clear hw; intro s w hw))
    exact res_one (v := .bool (true && decide (c = k))) rfl rfl ⟨by rw [Bool.true_and, decide_eq_decide.2 (show (c ≠ 0 ∧ c = k) ↔ c = k from ⟨fun h => h.2, fun h => ⟨hc, h⟩⟩)], hw⟩
set_option maxRecDepth 8000 in
theorem Floyd_big {w0 : World} {n : Int} (h0 : 64 < n) (h1 : n ≤ 4096) : Calls Tryd.prog 12 #[.int .i64 n, .slice none 0 0] w0 fun e w' => e = .returned (.tuple #[.slice none 0 0, errV 5]) ∧ Sat w0 w' [] := by
  have hw := Sat.start w0
  have hc : checkCode n [] = 0 := checkCode_ok (by omega) (by simp; omega) fun i hi => absurd hi (Nat.not_lt_zero _)
  refine calls_of_vc (args := [.int .i64 n, .slice none 0 0]) mixed Tryd.func12 rfl (by kernel_rfl) (Nat.le_of_ble_eq_true rfl) ?_
  repeat (first | refine go_run ?_ | (refine go_newP ?_; clear hw; intro p w hw) | (refine go_newW ?_; clear hw; intro w hw) | (refine go_newS ?_; clear hw; intro s w hw))
  refine st_call rfl (gcheck_spec (n := n) (a := .slice none 0 0) (arcs := []) RS.nil) ?_
  rintro _ w' ⟨rfl, hk'⟩
  replace hw := hw.call0 hk'
  clear hk'
  refine ⟨_, rfl, ?_⟩
  rw [errV_zero hc]
  repeat (first | refine go_run ?_ | (refine go_newP ?_; clear hw; intro p w hw) | (refine go_newW ?_; clear hw; intro w hw) | (refine go_newS ?_; clear hw; intro s w hw))
  refine go_if (fun h => ?_) (fun h => ?_)
  · repeat (first | refine go_run ?_ | (refine go_newP ?_; clear hw; intro p w hw) | (refine go_newW ?_; clear hw; intro w hw) | (refine go_newS ?_; clear hw; intro s w hw))
    exact res_two (v := .slice none 0 0) (v' := .iface 40 (.int .i64 5)) rfl rfl rfl ⟨by rw [errV_some (by decide)], hw⟩
  · exfalso; omega
theorem Cliques_big {w0 : World} {n : Int} (h0 : 32 < n) (h1 : n ≤ 4096) (hT : TabB w0) : Calls Tryd.prog 6 #[.int .i64 n, .slice none 0 0] w0 fun e w' => e = .returned (.tuple #[.slice none 0 0, errV 5]) ∧ Sat w0 w' [] := by
  have hc : checkCode n [] = 0 := checkCode_ok (by omega) (by simp; omega) fun i hi => absurd hi (Nat.not_lt_zero _)
  refine (Cliques_spec (n := n) (a := .slice none 0 0) (arcs := []) RS.nil hT).mono fun e w' h => ?_
  rcases h with ⟨h, _⟩ | ⟨_, _, h⟩ | ⟨_, h, _⟩ | ⟨_, _, h, _⟩ | ⟨_, _, h, _⟩
  · exact absurd hc h
  · exact h
  · exfalso; omega
  · exfalso; omega
  · exfalso; omega
set_option maxRecDepth 8000 in
theorem Order_bad {w0 : World} {n : Int} (h : checkCode n [] ≠ 0) : Calls Tryd.prog 13 #[.int .i64 n, .slice none 0 0] w0 fun e w' => e = .returned (.tuple #[.slice none 0 0, errV (checkCode n [])]) ∧ Sat w0 w' [] := by
  have hw := Sat.start w0
  refine calls_of_vc (args := [.int .i64 n, .slice none 0 0]) mixed Tryd.func13 rfl (by kernel_rfl) (Nat.le_of_ble_eq_true rfl) ?_
  repeat (first | refine go_run ?_ | (refine go_newP ?_; clear hw; intro p w hw) | (refine go_newW ?_; clear hw; intro w hw) | (refine go_newS ?_; clear hw; intro s w hw))
  refine st_call rfl (gcheck_spec (n := n) (a := .slice none 0 0) (arcs := []) RS.nil) ?_
  rintro _ w' ⟨rfl, hk'⟩
  replace hw := hw.call0 hk'
  clear hk'
  refine ⟨_, rfl, ?_⟩
  rw [errV_some h]
  repeat (first | refine go_run ?_ | (refine go_newP ?_; clear hw; intro p w hw) | (refine go_newW ?_; clear hw; intro w hw) | (refine go_newS ?_; clear hw; intro s w hw))
  exact res_two (v := .slice none 0 0) (v' := .iface 40 (.int .i64 (checkCode n []))) rfl rfl rfl ⟨rfl, hw⟩
set_option maxRecDepth 8000 in
theorem Components_bad {w0 : World} {n : Int} (h : checkCode n [] ≠ 0) : Calls Tryd.prog 14 #[.int .i64 n, .slice none 0 0] w0 fun e w' => e = .returned (.tuple #[.slice none 0 0, errV (checkCode n [])]) ∧ Sat w0 w' [] := by
  have hw := Sat.start w0
  refine calls_of_vc (args := [.int .i64 n, .slice none 0 0]) mixed Tryd.func14 rfl (by kernel_rfl) (Nat.le_of_ble_eq_true rfl) ?_
  repeat (first | refine go_run ?_ | (refine go_newP ?_; clear hw; intro p w hw) | (refine go_newW ?_; clear hw; intro w hw) | (refine go_newS ?_; clear hw; intro s w hw))
  refine st_call rfl (gcheck_spec (n := n) (a := .slice none 0 0) (arcs := []) RS.nil) ?_
  rintro _ w' ⟨rfl, hk'⟩
  replace hw := hw.call0 hk'
  clear hk'
  refine ⟨_, rfl, ?_⟩
  rw [errV_some h]
  repeat (first | refine go_run ?_ | (refine go_newP ?_; clear hw; intro p w hw) | (refine go_newW ?_; clear hw; intro w hw) | (refine go_newS ?_; clear hw; intro s w hw))
  exact res_two (v := .slice none 0 0) (v' := .iface 40 (.int .i64 (checkCode n []))) rfl rfl rfl ⟨rfl, hw⟩
set_option maxRecDepth 8000 in
set_option maxHeartbeats 4000000 in
theorem GraphLimits_walk {w0 : World} {k n : Int} (hk0 : 0 ≤ k ∧ k ≤ 255) (hn0 : 0 ≤ n ∧ n ≤ 255) (hT : TabB w0) :
    Calls Tryd.prog 4 #[.int .u8 k, .int .u8 n] w0 fun e w' => e = .returned (.bool true) ∧ Sat w0 w' [] := by
  have hw := Sat.start w0
  refine calls_of_vc (args := [.int .u8 k, .int .u8 n]) mixed Tryd.func4 rfl (by kernel_rfl) (Nat.le_of_ble_eq_true rfl) ?_
  repeat (first | refine go_run ?_ | (refine go_newP ?_; clear hw; intro p w hw) | (refine go_newW ?_; clear hw; intro w hw) | (refine go_newS ?_; clear hw; intro s w hw))
  refine st_call rfl G04.awake_spec ?_
  rintro _ w' ⟨rfl, hk'⟩
  replace hw := hw.call0 hk'
  clear hk'
  refine ⟨_, rfl, ?_⟩
  repeat (first | refine go_run ?_ | (refine go_newP ?_; clear hw; intro p w hw) | (refine go_newW ?_; clear hw; intro w hw) | (refine go_newS ?_; clear hw; intro s w hw))
  refine step_pure rfl (pv_conv (ks := .u8) (n := k) rfl (by omega) (by omega)) ?_
  obtain ⟨g, hg⟩ : ∃ g : Nat, k.tmod 10 = g := ⟨(k.tmod 10).toNat, by rw [Int.tmod_eq_emod_of_nonneg hk0.1]; omega⟩
  have hg9 : g ≤ 9 := by rw [Int.tmod_eq_emod_of_nonneg hk0.1] at hg; omega
  repeat (first | refine go_run ?_ | (refine go_newP ?_; clear hw; intro p w hw) | (refine go_newW ?_; clear hw; intro w hw) | (refine go_newS ?_; clear hw; intro s w hw))
  rw [hg]
  have hp9 : ∀ {i : Nat}, i ≤ 9 → 3 ^ i ≤ 19683 := fun hi => Nat.pow_le_pow_right (by decide) hi
  have hps : ∀ i : Nat, ((3 ^ (i + 1) : Nat) : Int) = ((3 ^ i : Nat) : Int) * 3 := fun i => by rw [Nat.pow_succ, Int.natCast_mul]; rfl
  have hw1 : Sat w0 w' [OS tArc 38 (.slice none 0 0) (arcI 0)] := hw.nil (T := tArc) (e := 38)
  clear hw
  refine vc_loop2 [6, 7, 8, 9, 10, 27, 28, 29, 30, 31, 32, 33, 34, 35, 36, 37, 38, 39, 40, 41, 42, 43, 44, 45, 46, 47, 48, 49, 50, 51] (G := Nat) (H := Value) (fun i av => [(27, .int .i64 i), (6, av), (7, .int .i64 ((3 ^ i : Nat) : Int))]) (fun i av w => i ≤ g ∧ Sat w0 w [OS tArc 38 av (arcI i)]) (fun i _ => g - i) 0 (.slice none 0 0) (fun _ _ => rfl) ⟨rfl, rfl, rfl, trivial⟩ ⟨Nat.zero_le _, hw1⟩ ?_
  clear hw1
  rintro σ i av w ⟨hi, hw⟩
  have hpi := hp9 (show i ≤ 9 by omega)
  repeat (first | refine go_run ?_ | (refine go_newP ?_; clear hw; intro p w hw) | (refine go_newW ?_; clear hw; intro w hw) | (refine go_newS ?_; clear hw; intro s w hw))
  refine go_if (fun h1 => ?_) (fun h1 => ?_)
  · have hig : i < g := by omega
    have hil := arcI_len i (by omega)
    have hmm : ∀ P : Nat, P ≤ 19683 → -9223372036854775808 ≤ (P : Int) * 3 ∧ (P : Int) * 3 ≤ 9223372036854775807 := fun P h => by omega
    obtain ⟨hm1, hm2⟩ := hmm _ hpi
    repeat (first | refine go_run ?_ | (refine go_newP ?_; clear hw; intro p w hw) | (refine go_newW ?_; clear hw; intro w hw) | (refine go_newS ?_; clear hw; intro s w hw))
    have hw1 : Sat w0 w [OS tArc 38 av (arcI i ++ arcV i 0)] := by rw [show arcV i 0 = [] from rfl, List.append_nil]; exact hw
    clear hw
    refine vc_loop2 [6, 9, 10, 34, 35, 36, 37, 38, 39, 40, 41, 42, 43, 44, 45, 46, 47, 48, 49, 50] (G := Nat) (H := Value) (fun v av => [(34, .int .i64 v), (6, av)]) (fun v av w => v ≤ 3 * i ∧ Sat w0 w [OS tArc 38 av (arcI i ++ arcV i v)]) (fun v _ => 3 * i - v) 0 av (fun _ _ => rfl) ⟨rfl, rfl, trivial⟩ ⟨Nat.zero_le _, hw1⟩ ?_
    clear hw1
    rintro σ1 v av1 w ⟨hv, hw⟩
    repeat (first | refine go_run ?_ | (refine go_newP ?_; clear hw; intro p w hw) | (refine go_newW ?_; clear hw; intro w hw) | (refine go_newS ?_; clear hw; intro s w hw))
    refine go_if (fun h2 => ?_) (fun h2 => ?_)
    · have hvl : v < 3 * i := by omega
      have hvV := arcV_len i v
      repeat (first | refine go_run ?_ | (refine go_newP ?_; clear hw; intro p w hw) | (refine go_newW ?_; clear hw; intro w hw) | (refine go_newS ?_; clear hw; intro s w hw))
      have hw1 : Sat w0 w [OS tArc 38 av1 (arcI i ++ arcV i v ++ arcW i v 0)] := by rw [show arcW i v 0 = [] from rfl, List.append_nil]; exact hw
      clear hw
      refine vc_loop2 [6, 10, 37, 38, 39, 40, 41, 42, 43, 44, 45, 46, 47, 48, 49] (G := Nat) (H := Value) (fun x av => [(37, .int .i64 x), (6, av)]) (fun x av w => x ≤ 3 ∧ Sat w0 w [OS tArc 38 av (arcI i ++ arcV i v ++ arcW i v x)]) (fun x _ => 3 - x) 0 av1 (fun _ _ => rfl) ⟨rfl, rfl, trivial⟩ ⟨Nat.zero_le _, hw1⟩ ?_
      clear hw1
      rintro σ2 x av2 w ⟨hx, hw⟩
      repeat (first | refine go_run ?_ | (refine go_newP ?_; clear hw; intro p w hw) | (refine go_newW ?_; clear hw; intro w hw) | (refine go_newS ?_; clear hw; intro s w hw))
      refine go_if (fun h3 => ?_) (fun h3 => ?_)
      · have hxl : x < 3 := by omega
        have hwl := arcW_len i v x
        have hal : (arcI i ++ arcV i v ++ arcW i v x).length ≤ 4096 := by rw [List.length_append, List.length_append]; omega
        repeat (first | refine go_run ?_ | (refine go_newP ?_; clear hw; intro p w hw) | (refine go_newW ?_; clear hw; intro w hw) | (refine go_newS ?_; clear hw; intro s w hw))
        refine st_buildSlice1 tArc (x1 := ⟨3 * (i : Int) + x, v, 0⟩) rfl rfl rfl (Nat.le_of_ble_eq_true rfl) (Nat.zero_lt_succ _) hw ?_
        clear hw
        intro bs w hw
        refine st_append (s := av2) (s2 := bs) inferInstance rfl rfl (rsO hw) rfl rfl (fun y hy v hv => by
          rw [List.mem_singleton.1 hy] at hv
          simp only [tArc, List.mem_cons, List.not_mem_nil, or_false] at hv
          rcases hv with rfl | rfl | rfl <;> rfl) (by simp only [List.length_cons, List.length_nil]; omega) (by unfold big; simp only [List.length_cons, List.length_nil]; omega) hw ?_
        clear hw
        intro s w hw
        repeat (first | refine go_run ?_ | (refine go_newP ?_; clear hw; intro p w hw) | (refine go_newW ?_; clear hw; intro w hw) | (refine go_newS ?_; clear hw; intro s w hw))
        refine ⟨x + 1, s, ⟨rfl, rfl, trivial⟩, by repeat (first | exact agree_refl | (apply agree_upd rfl) | (apply agree_mix rfl) | (apply agree_sets rfl)), ⟨by omega, ?_⟩, by omega⟩
        rw [arcW_succ, ← List.append_assoc]
        exact hw.tail
      · have hxe : x = 3 := by omega
        subst hxe
        rw [List.append_assoc, ← arcV_succ] at hw
        repeat (first | refine go_run ?_ | (refine go_newP ?_; clear hw; intro p w hw) | (refine go_newW ?_; clear hw; intro w hw) | (refine go_newS ?_; clear hw; intro s w hw))
        exact ⟨v + 1, av2, ⟨rfl, rfl, trivial⟩, by repeat (first | exact agree_refl | (apply agree_upd rfl) | (apply agree_mix rfl) | (apply agree_sets rfl)), ⟨by omega, hw⟩, by omega⟩
    · have hve : v = 3 * i := by omega
      subst hve
      rw [← arcI_succ] at hw
      repeat (first | refine go_run ?_ | (refine go_newP ?_; clear hw; intro p w hw) | (refine go_newW ?_; clear hw; intro w hw) | (refine go_newS ?_; clear hw; intro s w hw))
      exact ⟨i + 1, av1, ⟨rfl, rfl, by rw [hps i]; rfl, trivial⟩, by repeat (first | exact agree_refl | (apply agree_upd rfl) | (apply agree_mix rfl) | (apply agree_sets rfl)), ⟨by omega, hw⟩, by omega⟩
  have hie : i = g := by omega
  subst hie
  have hgl := arcI_len i hg9
  have hcg : checkCode (3 * (i : Int)) (arcI i) = 0 := checkCode_ok (by omega) (by omega) fun j hj => by
    have := arcI_ok _ (mem_getD tArc.dflt hj)
    rwa [Int.natCast_mul] at this
  have hnt : (3 * (i : Int)).toNat = 3 * i := by omega
  have hN : ∀ u v, ib (nbA (3 * i) (arcI i) u) v ↔ u < 3 * i ∧ v < 3 * i ∧ u / 3 ≠ v / 3 := fun u v => (nbA_bit arcI_ok).trans arcI_adj
  repeat (first | refine go_run ?_ | (refine go_newP ?_; clear hw; intro p w hw) | (refine go_newW ?_; clear hw; intro w hw) | (refine go_newS ?_; clear hw; intro s w hw))
  refine st_call rfl (Cliques_spec (n := 3 * (i : Int)) (a := av) (arcs := arcI i) (rsO hw) (hT.at hw)) ?_
  have hc5 : checkCode (4097 + n) [] = 5 := checkCode_large (by omega) (by omega)
  have hc1 : checkCode (-1 - n) [] = 1 := checkCode_neg (by omega)
  rintro _ w' hR
  rw [hnt] at hR
  rcases hR with ⟨hc, _⟩ | ⟨_, h32, _⟩ | ⟨_, hz, rfl, hk'⟩ | ⟨_, h0, _, ⟨M, hMd, hMl, hMm⟩, rfl, hk'⟩ | ⟨_, h0, _, fv, fs, Cs, rfl, hlex, hcl, hcnt, hk'⟩
  · exact absurd hcg hc
  · exfalso; omega
  · replace hw := hw.call0 hk'
    clear hk'
    refine ⟨_, rfl, ?_⟩
    have hdz : decide ((i : Int) = 0) = true := decide_eq_true (by omega)
    have hnl : RS tVal w' (.slice none 0 0) [] := RS.nil
    repeat (first | refine go_runC ?_ | (refine go_newP ?_; clear hw; intro p w hw) | (refine go_newW ?_; clear hw; intro w hw) | (refine go_newS ?_; clear hw; intro s w hw))
    simp only [hdz]
    repeat (first | refine go_run ?_ | (refine go_newP ?_; clear hw; intro p w hw) | (refine go_newW ?_; clear hw; intro w hw) | (refine go_newS ?_; clear hw; intro s w hw))
    refine step_pure rfl (pv_conv (ks := .u8) (n := n) rfl (by omega) (by omega)) ?_
    repeat (first | refine go_run ?_ | (refine go_newP ?_; clear hw; intro p w hw) | (refine go_newW ?_; clear hw; intro w hw) | (refine go_newS ?_; clear hw; intro s w hw))
    refine st_call rfl (Cliques_big (n := 33 + n) (by omega) (by omega) (hT.at hw)) ?_
    rintro _ w' ⟨rfl, hk'⟩
    replace hw := hw.call0 hk'
    clear hk'
    refine ⟨_, rfl, ?_⟩
    repeat (first | refine go_run ?_ | (refine go_newP ?_; clear hw; intro p w hw) | (refine go_newW ?_; clear hw; intro w hw) | (refine go_newS ?_; clear hw; intro s w hw))
    refine step_pure rfl (pv_conv (ks := .u8) (n := n) rfl (by omega) (by omega)) ?_
    repeat (first | refine go_run ?_ | (refine go_newP ?_; clear hw; intro p w hw) | (refine go_newW ?_; clear hw; intro w hw) | (refine go_newS ?_; clear hw; intro s w hw))
    refine st_call rfl (Floyd_big (n := 65 + n) (by omega) (by omega)) ?_
    rintro _ w' ⟨rfl, hk'⟩
    replace hw := hw.call0 hk'
    clear hk'
    refine ⟨_, rfl, ?_⟩
    repeat (first | refine go_run ?_ | (refine go_newP ?_; clear hw; intro p w hw) | (refine go_newW ?_; clear hw; intro w hw) | (refine go_newS ?_; clear hw; intro s w hw))
    refine step_pure rfl (pv_conv (ks := .u8) (n := n) rfl (by omega) (by omega)) ?_
    repeat (first | refine go_run ?_ | (refine go_newP ?_; clear hw; intro p w hw) | (refine go_newW ?_; clear hw; intro w hw) | (refine go_newS ?_; clear hw; intro s w hw))
    refine st_call rfl (Order_bad (n := 4097 + n) (by rw [hc5]; decide)) ?_
    rintro _ w' ⟨rfl, hk'⟩
    replace hw := hw.call0 hk'
    clear hk'
    refine ⟨_, rfl, ?_⟩
    rw [hc5]
    repeat (first | refine go_run ?_ | (refine go_newP ?_; clear hw; intro p w hw) | (refine go_newW ?_; clear hw; intro w hw) | (refine go_newS ?_; clear hw; intro s w hw))
    refine step_pure rfl (pv_conv (ks := .u8) (n := n) rfl (by omega) (by omega)) ?_
    repeat (first | refine go_run ?_ | (refine go_newP ?_; clear hw; intro p w hw) | (refine go_newW ?_; clear hw; intro w hw) | (refine go_newS ?_; clear hw; intro s w hw))
    refine st_call rfl (Components_bad (n := -1 - n) (by rw [hc1]; decide)) ?_
    rintro _ w' ⟨rfl, hk'⟩
    replace hw := hw.call0 hk'
    clear hk'
    refine ⟨_, rfl, ?_⟩
    rw [hc1]
    repeat (first | refine go_run ?_ | (refine go_newP ?_; clear hw; intro p w hw) | (refine go_newW ?_; clear hw; intro w hw) | (refine go_newS ?_; clear hw; intro s w hw))
    refine st_call rfl (Is_spec 5 5) ?_
    rintro _ w' ⟨rfl, hk'⟩
    replace hw := hw.call0 hk'
    clear hk'
    refine ⟨_, rfl, ?_⟩
    have hdT : decide ((5 : Int) ≠ 0 ∧ (5 : Int) = 5) = true := by decide
    have hdT1 : decide ((1 : Int) ≠ 0 ∧ (1 : Int) = 1) = true := by decide
    simp only [hdT, gvtt]
    repeat (first | refine go_run ?_ | (refine go_newP ?_; clear hw; intro p w hw) | (refine go_newW ?_; clear hw; intro w hw) | (refine go_newS ?_; clear hw; intro s w hw))
    refine st_call rfl (Is_spec 5 5) ?_
    rintro _ w' ⟨rfl, hk'⟩
    replace hw := hw.call0 hk'
    clear hk'
    refine ⟨_, rfl, ?_⟩
    simp only [hdT, Bool.and_self, gvtt]
    repeat (first | refine go_run ?_ | (refine go_newP ?_; clear hw; intro p w hw) | (refine go_newW ?_; clear hw; intro w hw) | (refine go_newS ?_; clear hw; intro s w hw))
    refine st_call rfl (Is_spec 5 5) ?_
    rintro _ w' ⟨rfl, hk'⟩
    replace hw := hw.call0 hk'
    clear hk'
    refine ⟨_, rfl, ?_⟩
    simp only [hdT, Bool.and_self, gvtt]
    repeat (first | refine go_run ?_ | (refine go_newP ?_; clear hw; intro p w hw) | (refine go_newW ?_; clear hw; intro w hw) | (refine go_newS ?_; clear hw; intro s w hw))
    refine st_call rfl (Is_spec 1 1) ?_
    rintro _ w' ⟨rfl, hk'⟩
    replace hw := hw.call0 hk'
    clear hk'
    refine ⟨_, rfl, ?_⟩
    simp only [hdT1, Bool.and_self, gvtt]
    repeat (first | refine go_run ?_ | (refine go_newP ?_; clear hw; intro p w hw) | (refine go_newW ?_; clear hw; intro w hw) | (refine go_newS ?_; clear hw; intro s w hw))
    exact res_one (v := .bool true) rfl rfl ⟨rfl, hw.sel⟩
  · replace hw := hw.call0 hk'
    clear hk'
    refine ⟨_, rfl, ?_⟩
    have hfl := fullG hN hMd hMm
    have hdz : decide ((i : Int) = 0) = false := decide_eq_false (by omega)
    have hP : ∀ P : Nat, M.length ≤ P → (4096 : Int) < (P : Int) := fun P h => by omega
    have hdm : decide (4096 < ((3 ^ i : Nat) : Int)) = true := decide_eq_true (hP _ hfl)
    have hnl : RS tVal w' (.slice none 0 0) [] := RS.nil
    repeat (first | refine go_runC ?_ | (refine go_newP ?_; clear hw; intro p w hw) | (refine go_newW ?_; clear hw; intro w hw) | (refine go_newS ?_; clear hw; intro s w hw))
    simp only [hdz]
    repeat (first | refine go_run ?_ | (refine go_newP ?_; clear hw; intro p w hw) | (refine go_newW ?_; clear hw; intro w hw) | (refine go_newS ?_; clear hw; intro s w hw))
    simp only [hdm]
    repeat (first | refine go_run ?_ | (refine go_newP ?_; clear hw; intro p w hw) | (refine go_newW ?_; clear hw; intro w hw) | (refine go_newS ?_; clear hw; intro s w hw))
    refine st_call rfl (Is_spec 10 10) ?_
    rintro _ w' ⟨rfl, hk'⟩
    replace hw := hw.call0 hk'
    clear hk'
    refine ⟨_, rfl, ?_⟩
    have hdI : decide ((10 : Int) ≠ 0 ∧ (10 : Int) = 10) = true := by decide
    simp only [hdI, Bool.not_true, gvtt]
    repeat (first | refine go_run ?_ | (refine go_newP ?_; clear hw; intro p w hw) | (refine go_newW ?_; clear hw; intro w hw) | (refine go_newS ?_; clear hw; intro s w hw))
    refine step_pure rfl (pv_conv (ks := .u8) (n := n) rfl (by omega) (by omega)) ?_
    repeat (first | refine go_run ?_ | (refine go_newP ?_; clear hw; intro p w hw) | (refine go_newW ?_; clear hw; intro w hw) | (refine go_newS ?_; clear hw; intro s w hw))
    refine st_call rfl (Cliques_big (n := 33 + n) (by omega) (by omega) (hT.at hw)) ?_
    rintro _ w' ⟨rfl, hk'⟩
    replace hw := hw.call0 hk'
    clear hk'
    refine ⟨_, rfl, ?_⟩
    repeat (first | refine go_run ?_ | (refine go_newP ?_; clear hw; intro p w hw) | (refine go_newW ?_; clear hw; intro w hw) | (refine go_newS ?_; clear hw; intro s w hw))
    refine step_pure rfl (pv_conv (ks := .u8) (n := n) rfl (by omega) (by omega)) ?_
    repeat (first | refine go_run ?_ | (refine go_newP ?_; clear hw; intro p w hw) | (refine go_newW ?_; clear hw; intro w hw) | (refine go_newS ?_; clear hw; intro s w hw))
    refine st_call rfl (Floyd_big (n := 65 + n) (by omega) (by omega)) ?_
    rintro _ w' ⟨rfl, hk'⟩
    replace hw := hw.call0 hk'
    clear hk'
    refine ⟨_, rfl, ?_⟩
    repeat (first | refine go_run ?_ | (refine go_newP ?_; clear hw; intro p w hw) | (refine go_newW ?_; clear hw; intro w hw) | (refine go_newS ?_; clear hw; intro s w hw))
    refine step_pure rfl (pv_conv (ks := .u8) (n := n) rfl (by omega) (by omega)) ?_
    repeat (first | refine go_run ?_ | (refine go_newP ?_; clear hw; intro p w hw) | (refine go_newW ?_; clear hw; intro w hw) | (refine go_newS ?_; clear hw; intro s w hw))
    refine st_call rfl (Order_bad (n := 4097 + n) (by rw [hc5]; decide)) ?_
    rintro _ w' ⟨rfl, hk'⟩
    replace hw := hw.call0 hk'
    clear hk'
    refine ⟨_, rfl, ?_⟩
    rw [hc5]
    repeat (first | refine go_run ?_ | (refine go_newP ?_; clear hw; intro p w hw) | (refine go_newW ?_; clear hw; intro w hw) | (refine go_newS ?_; clear hw; intro s w hw))
    refine step_pure rfl (pv_conv (ks := .u8) (n := n) rfl (by omega) (by omega)) ?_
    repeat (first | refine go_run ?_ | (refine go_newP ?_; clear hw; intro p w hw) | (refine go_newW ?_; clear hw; intro w hw) | (refine go_newS ?_; clear hw; intro s w hw))
    refine st_call rfl (Components_bad (n := -1 - n) (by rw [hc1]; decide)) ?_
    rintro _ w' ⟨rfl, hk'⟩
    replace hw := hw.call0 hk'
    clear hk'
    refine ⟨_, rfl, ?_⟩
    rw [hc1]
    repeat (first | refine go_run ?_ | (refine go_newP ?_; clear hw; intro p w hw) | (refine go_newW ?_; clear hw; intro w hw) | (refine go_newS ?_; clear hw; intro s w hw))
    refine st_call rfl (Is_spec 5 5) ?_
    rintro _ w' ⟨rfl, hk'⟩
    replace hw := hw.call0 hk'
    clear hk'
    refine ⟨_, rfl, ?_⟩
    have hdT : decide ((5 : Int) ≠ 0 ∧ (5 : Int) = 5) = true := by decide
    have hdT1 : decide ((1 : Int) ≠ 0 ∧ (1 : Int) = 1) = true := by decide
    simp only [hdT, gvtt]
    repeat (first | refine go_run ?_ | (refine go_newP ?_; clear hw; intro p w hw) | (refine go_newW ?_; clear hw; intro w hw) | (refine go_newS ?_; clear hw; intro s w hw))
    refine st_call rfl (Is_spec 5 5) ?_
    rintro _ w' ⟨rfl, hk'⟩
    replace hw := hw.call0 hk'
    clear hk'
    refine ⟨_, rfl, ?_⟩
    simp only [hdT, Bool.and_self, gvtt]
    repeat (first | refine go_run ?_ | (refine go_newP ?_; clear hw; intro p w hw) | (refine go_newW ?_; clear hw; intro w hw) | (refine go_newS ?_; clear hw; intro s w hw))
    refine st_call rfl (Is_spec 5 5) ?_
    rintro _ w' ⟨rfl, hk'⟩
    replace hw := hw.call0 hk'
    clear hk'
    refine ⟨_, rfl, ?_⟩
    simp only [hdT, Bool.and_self, gvtt]
    repeat (first | refine go_run ?_ | (refine go_newP ?_; clear hw; intro p w hw) | (refine go_newW ?_; clear hw; intro w hw) | (refine go_newS ?_; clear hw; intro s w hw))
    refine st_call rfl (Is_spec 1 1) ?_
    rintro _ w' ⟨rfl, hk'⟩
    replace hw := hw.call0 hk'
    clear hk'
    refine ⟨_, rfl, ?_⟩
    simp only [hdT1, Bool.and_self, gvtt]
    repeat (first | refine go_run ?_ | (refine go_newP ?_; clear hw; intro p w hw) | (refine go_newW ?_; clear hw; intro w hw) | (refine go_newS ?_; clear hw; intro s w hw))
    exact res_one (v := .bool true) rfl rfl ⟨rfl, hw.sel⟩
  · replace hw := hw.call2 hk'
    clear hk'
    refine ⟨_, rfl, ?_⟩
    have hcn := countG hN hlex hcl
    have hdz : decide ((i : Int) = 0) = false := decide_eq_false (by omega)
    have hdm : decide (4096 < ((3 ^ i : Nat) : Int)) = false := decide_eq_false (fun h => by have := Int.ofNat_lt.1 h; omega)
    have hfl := hw.rowsLen
    repeat (first | refine go_runC ?_ | (refine go_newP ?_; clear hw; intro p w hw) | (refine go_newW ?_; clear hw; intro w hw) | (refine go_newS ?_; clear hw; intro s w hw))
    simp only [hdz]
    repeat (first | refine go_run ?_ | (refine go_newP ?_; clear hw; intro p w hw) | (refine go_newW ?_; clear hw; intro w hw) | (refine go_newS ?_; clear hw; intro s w hw))
    simp only [hdm]
    repeat (first | refine go_run ?_ | (refine go_newP ?_; clear hw; intro p w hw) | (refine go_newW ?_; clear hw; intro w hw) | (refine go_newS ?_; clear hw; intro s w hw))
    refine go_if (fun h9 => ?_) (fun h9 => ?_)
    · exfalso
      simp only [hfl, hcn] at h9
      exact h9 trivial
    repeat (first | refine go_run ?_ | (refine go_newP ?_; clear hw; intro p w hw) | (refine go_newW ?_; clear hw; intro w hw) | (refine go_newS ?_; clear hw; intro s w hw))
    refine step_pure rfl (pv_conv (ks := .u8) (n := n) rfl (by omega) (by omega)) ?_
    repeat (first | refine go_run ?_ | (refine go_newP ?_; clear hw; intro p w hw) | (refine go_newW ?_; clear hw; intro w hw) | (refine go_newS ?_; clear hw; intro s w hw))
    refine st_call rfl (Cliques_big (n := 33 + n) (by omega) (by omega) (hT.at hw)) ?_
    rintro _ w' ⟨rfl, hk'⟩
    replace hw := hw.call0 hk'
    clear hk'
    refine ⟨_, rfl, ?_⟩
    repeat (first | refine go_run ?_ | (refine go_newP ?_; clear hw; intro p w hw) | (refine go_newW ?_; clear hw; intro w hw) | (refine go_newS ?_; clear hw; intro s w hw))
    refine step_pure rfl (pv_conv (ks := .u8) (n := n) rfl (by omega) (by omega)) ?_
    repeat (first | refine go_run ?_ | (refine go_newP ?_; clear hw; intro p w hw) | (refine go_newW ?_; clear hw; intro w hw) | (refine go_newS ?_; clear hw; intro s w hw))
    refine st_call rfl (Floyd_big (n := 65 + n) (by omega) (by omega)) ?_
    rintro _ w' ⟨rfl, hk'⟩
    replace hw := hw.call0 hk'
    clear hk'
    refine ⟨_, rfl, ?_⟩
    repeat (first | refine go_run ?_ | (refine go_newP ?_; clear hw; intro p w hw) | (refine go_newW ?_; clear hw; intro w hw) | (refine go_newS ?_; clear hw; intro s w hw))
    refine step_pure rfl (pv_conv (ks := .u8) (n := n) rfl (by omega) (by omega)) ?_
    repeat (first | refine go_run ?_ | (refine go_newP ?_; clear hw; intro p w hw) | (refine go_newW ?_; clear hw; intro w hw) | (refine go_newS ?_; clear hw; intro s w hw))
    refine st_call rfl (Order_bad (n := 4097 + n) (by rw [hc5]; decide)) ?_
    rintro _ w' ⟨rfl, hk'⟩
    replace hw := hw.call0 hk'
    clear hk'
    refine ⟨_, rfl, ?_⟩
    rw [hc5]
    repeat (first | refine go_run ?_ | (refine go_newP ?_; clear hw; intro p w hw) | (refine go_newW ?_; clear hw; intro w hw) | (refine go_newS ?_; clear hw; intro s w hw))
    refine step_pure rfl (pv_conv (ks := .u8) (n := n) rfl (by omega) (by omega)) ?_
    repeat (first | refine go_run ?_ | (refine go_newP ?_; clear hw; intro p w hw) | (refine go_newW ?_; clear hw; intro w hw) | (refine go_newS ?_; clear hw; intro s w hw))
    refine st_call rfl (Components_bad (n := -1 - n) (by rw [hc1]; decide)) ?_
    rintro _ w' ⟨rfl, hk'⟩
    replace hw := hw.call0 hk'
    clear hk'
    refine ⟨_, rfl, ?_⟩
    rw [hc1]
    repeat (first | refine go_run ?_ | (refine go_newP ?_; clear hw; intro p w hw) | (refine go_newW ?_; clear hw; intro w hw) | (refine go_newS ?_; clear hw; intro s w hw))
    refine st_call rfl (Is_spec 5 5) ?_
    rintro _ w' ⟨rfl, hk'⟩
    replace hw := hw.call0 hk'
    clear hk'
    refine ⟨_, rfl, ?_⟩
    have hdT : decide ((5 : Int) ≠ 0 ∧ (5 : Int) = 5) = true := by decide
    have hdT1 : decide ((1 : Int) ≠ 0 ∧ (1 : Int) = 1) = true := by decide
    simp only [hdT, gvtt]
    repeat (first | refine go_run ?_ | (refine go_newP ?_; clear hw; intro p w hw) | (refine go_newW ?_; clear hw; intro w hw) | (refine go_newS ?_; clear hw; intro s w hw))
    refine st_call rfl (Is_spec 5 5) ?_
    rintro _ w' ⟨rfl, hk'⟩
    replace hw := hw.call0 hk'
    clear hk'
    refine ⟨_, rfl, ?_⟩
    simp only [hdT, Bool.and_self, gvtt]
    repeat (first | refine go_run ?_ | (refine go_newP ?_; clear hw; intro p w hw) | (refine go_newW ?_; clear hw; intro w hw) | (refine go_newS ?_; clear hw; intro s w hw))
    refine st_call rfl (Is_spec 5 5) ?_
    rintro _ w' ⟨rfl, hk'⟩
    replace hw := hw.call0 hk'
    clear hk'
    refine ⟨_, rfl, ?_⟩
    simp only [hdT, Bool.and_self, gvtt]
    repeat (first | refine go_run ?_ | (refine go_newP ?_; clear hw; intro p w hw) | (refine go_newW ?_; clear hw; intro w hw) | (refine go_newS ?_; clear hw; intro s w hw))
    refine st_call rfl (Is_spec 1 1) ?_
    rintro _ w' ⟨rfl, hk'⟩
    replace hw := hw.call0 hk'
    clear hk'
    refine ⟨_, rfl, ?_⟩
    simp only [hdT1, Bool.and_self, gvtt]
    repeat (first | refine go_run ?_ | (refine go_newP ?_; clear hw; intro p w hw) | (refine go_newW ?_; clear hw; intro w hw) | (refine go_newS ?_; clear hw; intro s w hw))
    exact res_one (v := .bool true) rfl rfl ⟨rfl, hw.sel⟩
end Go.Proofs.YtnoiagnmbipppaaDoor
