
/-
  The reference of layer 42: contract of 'Cliques'.
-/
import Derived.Test.YtemnlcnjpjdoaaaGreatDoorWRef42
import Derived.Test.YtemnlcnjpjdoaaaGreatDoorWRef39
set_option linter.unusedSimpArgs false
set_option linter.unusedVariables false
namespace Go.Proofs.YtemnlcnjpjdoaaaGreatDoor
open Go.Sl Go
attribute [local irreducible] vc opsW opsD opV opW PureV ReadV Thn Blk
theorem shr_bit {C i : Nat} : ((C / 2 ^ i : Nat) : Int).tmod 2 = 1 ↔ ib C i := by
  rw [ib_div]
  generalize C / 2 ^ i = q
  rw [Int.tmod_eq_emod_of_nonneg (Int.natCast_nonneg _)]
  omega
theorem all_succ {n : Nat} {p : Nat → Prop} : (∀ i, i < n + 1 → p i) ↔ (∀ i, i < n → p i) ∧ p n :=
  ⟨fun h => ⟨fun i hi => h i (by omega), h n (by omega)⟩, fun h i hi => by
    by_cases e : i = n
    · subst e; exact h.2
    · exact h.1 i (by omega)⟩
theorem sat_rowIns {w w0 : World} {Γ : List HP} {α : Type} {T : Ty α} {e : TypeId} {s : Value} {x : List α} {ss : List Value} {xss : List (List α)} (k : Nat) (h : Sat w0 w (OS T e s x :: RowsAt T e ss xss :: Γ)) : Sat w0 w (RowsAt T e (ss.take k ++ [s] ++ ss.drop k) (xss.take k ++ [x] ++ xss.drop k) :: Γ) := by
  obtain ⟨hl, h⟩ := Sat.flat (Sat.swap h)
  refine Sat.unflat (by simp only [List.length_append, List.length_take, List.length_drop, List.length_singleton, hl]) ?_
  have h1 : (ss.take k).length = (xss.take k).length := by simp only [List.length_take, hl]
  rw [List.append_assoc, List.append_assoc, List.zipWith_append h1, List.singleton_append, List.singleton_append, List.zipWith_cons_cons, ← List.take_zipWith, ← List.drop_zipWith]
  have e1 : List.zipWith (OS T e) ss xss = (List.zipWith (OS T e) ss xss).take k ++ (List.zipWith (OS T e) ss xss).drop k := (List.take_append_drop _ _).symm
  rw [e1] at h
  refine Sat.perm ?_ h
  generalize (List.zipWith (OS T e) ss xss).take k = A
  generalize (List.zipWith (OS T e) ss xss).drop k = B
  rw [List.append_assoc, List.append_assoc, List.cons_append]
  refine List.Perm.append_left A ?_
  exact List.perm_middle
theorem rows_one {w w0 : World} {Γ : List HP} {α : Type} {T : Ty α} {e : TypeId} {ss : List Value} {xss : List (List α)} (h : Sat w0 w (RowsAt T e ss xss :: Γ)) : ∀ y ∈ ss, y.oneCell' = true := fun y hy => by
  have hl := h.rowsLen
  obtain ⟨i, hi, rfl⟩ := List.getElem_of_mem hy
  have := (h.row (i := i) (by omega)).one
  rwa [vget_eq, getD_at hi] at this
theorem cut_take {α : Type} {l : List α} {k : Nat} : cut l 0 k = l.take k := by simp [cut]
theorem cut_drop {α : Type} {l : List α} {k : Nat} : cut l k l.length = l.drop k := by simp [cut]
set_option maxRecDepth 8000 in
set_option maxHeartbeats 8000000 in
theorem r42Cliques_spec {w0 : World} {a b c d s : Value} {vs : List OpV} {t : TTask} {ss : List Value} {Ls : List (List Int)} (ht : RTask w0 a b c d vs t) (hl : RLs w0 s ss Ls) (hn : Ls.length ≤ 8) :
    Calls Tryz.prog 16 #[.agg #[a, b, c, d], s] w0 fun e w' => ∃ cv cs Cs, e = .returned cv ∧ LexS Cs ∧ (Ls.length = 0 → Cs = []) ∧ (0 < Ls.length → CliqL Ls.length (nbA Ls.length (arcP t Ls Ls.length)) Cs) ∧ Sat w0 w' [RowsAt tInt 3 cs Cs, OS tVal 22 cv cs] := by
  have hlr := hl.rs
  have hln := hl.len
  have hA := addG t Ls
  have hw := Sat.start w0
  refine calls_of_vc (args := [.agg #[a, b, c, d], s]) mixed Tryz.func16 rfl (by kernel_rfl) (Nat.le_of_ble_eq_true rfl) ?_
  repeat (first | refine go_run ?_ | (refine go_newP ?_; clear hw; intro p w hw) | (refine go_newW ?_; clear hw; intro w hw) | (refine go_newS ?_; clear hw; intro s w hw))
  obtain ⟨pt, hpt⟩ : ∃ pt, pt = p := ⟨p, rfl⟩
  subst hpt
  refine go_if (fun h0 => ?_) (fun h0 => ?_)
  · have hz : Ls.length = 0 := by omega
    repeat (first | refine go_run ?_ | (refine go_newP ?_; clear hw; intro p w hw) | (refine go_newW ?_; clear hw; intro w hw) | (refine go_newS ?_; clear hw; intro s w hw))
    exact res_one (v := .slice none 0 0) rfl rfl ⟨_, [], [], rfl, List.Pairwise.nil, fun _ => rfl, fun h => by omega, ((hw.nil (T := tVal) (e := 22)).rows0 (T := tInt) (e := 3)).sel⟩
  have hn0 : 0 < Ls.length := by omega
  have hp2 : 2 ^ Ls.length ≤ 2 ^ 8 := Nat.pow_le_pow_right (by decide) hn
  obtain ⟨q, hq⟩ : ∃ q, q = 2 ^ Ls.length := ⟨_, rfl⟩
  rw [← hq] at hp2
  repeat (first | refine go_run ?_ | (refine go_newP ?_; clear hw; intro p w hw) | (refine go_newWr ?_; clear hw; intro w hw) | (refine go_newS ?_; clear hw; intro s w hw))
  refine step_pure rfl (pv_shlI (a := 1) (b := ss.length) (k := .i64) rfl rfl (by omega) (by rw [hln]; omega)) ?_
  rw [hln, Nat.one_mul, ← hq]
  repeat (first | refine go_run ?_ | (refine go_newP ?_; clear hw; intro p w hw) | (refine go_newW ?_; clear hw; intro w hw) | (refine go_newS ?_; clear hw; intro s w hw))
  have hrl : (List.replicate (q : Int).toNat false).length = q := by simp
  obtain ⟨gv, hgv⟩ : ∃ gv, gv = s := ⟨s, rfl⟩
  subst hgv
  rw [Int.toNat_natCast] at hw
  have hw1 : Sat w0 w [OS tBool 4 gv (List.replicate q false), Box pt 26 [a, b, c, d]] := hw
  clear hw
  refine vc_loop2 [7, 8, 9, 25, 26, 27, 28, 29, 30, 31, 32, 33, 34, 35, 36, 37, 38, 39, 40, 41, 42, 43, 44, 45, 46, 47, 48, 49, 50, 51, 52, 53, 54, 55, 56, 57, 58, 59, 60, 61, 62, 63, 64, 65, 66, 67, 68, 69] (G := Nat) (H := List Bool) (fun k _ => [(25, .int .i64 k)]) (fun k G w => k ≤ q ∧ G.length = q ∧ (∀ C, C < k → (G.getD C false = true ↔ CliqM Ls.length (nbA Ls.length (arcP t Ls Ls.length)) C)) ∧ Sat w0 w [OS tBool 4 gv G, Box pt 26 [a, b, c, d]]) (fun k _ => q - k) 0 _ (fun _ _ => rfl) ⟨rfl, trivial⟩ ⟨Nat.zero_le _, List.length_replicate, fun C h => absurd h (Nat.not_lt_zero _), hw1⟩ ?_
  clear hw1
  rintro σ k G w ⟨hk, hGl, hG, hw⟩
  repeat (first | refine go_run ?_ | (refine go_newP ?_; clear hw; intro p w hw) | (refine go_newW ?_; clear hw; intro w hw) | (refine go_newS ?_; clear hw; intro s w hw))
  refine go_if (fun h1 => ?_) (fun h1 => ?_)
  · have hkq : k < q := by omega
    repeat (first | refine go_run ?_ | (refine go_newP ?_; clear hw; intro p w hw) | (refine go_newW ?_; clear hw; intro w hw) | (refine go_newS ?_; clear hw; intro s w hw))
    have hG1 : ∀ C, C < k → ((G.set k true).getD C false = true ↔ CliqM Ls.length (nbA Ls.length (arcP t Ls Ls.length)) C) := fun C hC => by rw [getD_setL, if_neg (by omega)]; exact hG C hC
    have hG2 : (G.set k true).getD k false = true ↔ PairK t Ls k 0 0 := by
      rw [getD_setL, if_pos ⟨rfl, by omega⟩]
      exact ⟨fun _ => pair_zero t Ls k, fun _ => rfl⟩
    have hGl1 : (G.set k true).length = q := by rw [List.length_set]; exact hGl
    refine vc_loop2 [8, 9, 32, 33, 34, 35, 36, 37, 38, 39, 40, 41, 42, 43, 44, 45, 46, 47, 48, 49, 50, 51, 52, 53, 54, 55, 56, 57, 58, 59, 60, 61, 62, 63, 64, 65, 66, 67, 68] (G := Nat) (H := List Bool) (fun i _ => [(32, .int .i64 i)]) (fun i G w => i ≤ Ls.length ∧ G.length = q ∧ (∀ C, C < k → (G.getD C false = true ↔ CliqM Ls.length (nbA Ls.length (arcP t Ls Ls.length)) C)) ∧ (G.getD k false = true ↔ PairK t Ls k i 0) ∧ Sat w0 w [OS tBool 4 gv G, Box pt 26 [a, b, c, d]]) (fun i _ => Ls.length - i) 0 _ (fun _ _ => rfl) ⟨rfl, trivial⟩ ⟨Nat.zero_le _, hGl1, hG1, hG2, hw⟩ ?_
    clear hw hG hGl hG1 hG2 hGl1
    rintro σ1 i G w ⟨hi, hGl, hG, hGk, hw⟩
    repeat (first | refine go_run ?_ | (refine go_newP ?_; clear hw; intro p w hw) | (refine go_newW ?_; clear hw; intro w hw) | (refine go_newS ?_; clear hw; intro s w hw))
    refine go_if (fun h2 => ?_) (fun h2 => ?_)
    · have hil : i < Ls.length := by omega
      repeat (first | refine go_run ?_ | (refine go_newP ?_; clear hw; intro p w hw) | (refine go_newW ?_; clear hw; intro w hw) | (refine go_newS ?_; clear hw; intro s w hw))
      refine vc_loop2 [9, 36, 37, 38, 39, 40, 41, 42, 43, 44, 45, 46, 47, 48, 49, 50, 51, 52, 53, 54, 55, 56, 57, 58, 59, 60, 61, 62, 63, 64, 65, 66, 67] (G := Nat) (H := List Bool) (fun j _ => [(36, .int .i64 j)]) (fun j G w => j ≤ i ∧ G.length = q ∧ (∀ C, C < k → (G.getD C false = true ↔ CliqM Ls.length (nbA Ls.length (arcP t Ls Ls.length)) C)) ∧ (G.getD k false = true ↔ PairK t Ls k i j) ∧ Sat w0 w [OS tBool 4 gv G, Box pt 26 [a, b, c, d]]) (fun j _ => i - j) 0 _ (fun _ _ => rfl) ⟨rfl, trivial⟩ ⟨Nat.zero_le _, hGl, hG, hGk, hw⟩ ?_
      clear hw hG hGl hGk
      rintro σ2 j G w ⟨hj, hGl, hG, hGk, hw⟩
      repeat (first | refine go_run ?_ | (refine go_newP ?_; clear hw; intro p w hw) | (refine go_newW ?_; clear hw; intro w hw) | (refine go_newS ?_; clear hw; intro s w hw))
      refine go_if (fun h3 => ?_) (fun h3 => ?_)
      · have hji : j < i := by omega
        have hri := hl.at_ i hil
        have hrj := hl.at_ j (by omega)
        repeat (first | refine go_run ?_ | (refine go_newP ?_; clear hw; intro p w hw) | (refine go_newWr ?_; clear hw; intro w hw) | (refine go_newS ?_; clear hw; intro s w hw))
        refine vc_plan [.op 0, .op 1, .op 2, .op 3, .op 4, .op 5, .op 6, .op 7, .op 8, .op 9, .op 10, .op 11, .op 12, .op 13, .op 14, .op 15, .op 16, .op 17, .op 18, .op 19, .op 20, .op 21, .op 22, .op 23, .op 24] hw (by kernel_rfl) ?_; clear hw; intro w hw
        repeat (first | refine go_run ?_ | (refine go_newP ?_; clear hw; intro p w hw) | (refine go_newWr ?_; clear hw; intro w hw) | (refine go_newS ?_; clear hw; intro s w hw))
        refine step_pure rfl (pv_shrI (a := k) (b := i) (k := .i64) rfl rfl (by omega)) ?_
        by_cases hbi : ib k i
        rotate_left
        · have hdi : decide (((k / 2 ^ i : Nat) : Int).tmod 2 = 1) = false := decide_eq_false fun h => hbi (shr_bit.1 h)
          repeat (first | refine go_run ?_ | (refine go_newP ?_; clear hw; intro p w hw) | (refine go_newWr ?_; clear hw; intro w hw) | (refine go_newS ?_; clear hw; intro s w hw))
          simp only [hdi, beq_self_eq_true, beq_tf, beq_ft, Bool.false_and, Bool.true_and, Bool.not_true, Bool.not_false, Bool.cond_true, Bool.cond_false, gv_f, gv_t]
          repeat (first | refine go_run ?_ | (refine go_newP ?_; clear hw; intro p w hw) | (refine go_newWr ?_; clear hw; intro w hw) | (refine go_newS ?_; clear hw; intro s w hw))
          exact ⟨j + 1, G, ⟨rfl, trivial⟩, by repeat (first | exact agree_refl | (apply agree_upd rfl) | (apply agree_mix rfl) | (apply agree_sets rfl)), ⟨by omega, hGl, hG, hGk.trans ((pair_step hji).trans ⟨fun h => h.1, fun h => ⟨h, fun hb => absurd hb hbi⟩⟩).symm, hw⟩, by omega⟩
        have hdi : decide (((k / 2 ^ i : Nat) : Int).tmod 2 = 1) = true := decide_eq_true (shr_bit.2 hbi)
        repeat (first | refine go_run ?_ | (refine go_newP ?_; clear hw; intro p w hw) | (refine go_newWr ?_; clear hw; intro w hw) | (refine go_newS ?_; clear hw; intro s w hw))
        simp only [hdi, beq_self_eq_true, beq_tf, beq_ft, Bool.false_and, Bool.true_and, Bool.not_true, Bool.not_false, Bool.cond_true, Bool.cond_false, gv_f, gv_t]
        repeat (first | refine go_run ?_ | (refine go_newP ?_; clear hw; intro p w hw) | (refine go_newWr ?_; clear hw; intro w hw) | (refine go_newS ?_; clear hw; intro s w hw))
        refine step_pure rfl (pv_shrI (a := k) (b := j) (k := .i64) rfl rfl (by omega)) ?_
        by_cases hbj : ib k j
        rotate_left
        · have hdj : decide (((k / 2 ^ j : Nat) : Int).tmod 2 = 1) = false := decide_eq_false fun h => hbj (shr_bit.1 h)
          repeat (first | refine go_run ?_ | (refine go_newP ?_; clear hw; intro p w hw) | (refine go_newWr ?_; clear hw; intro w hw) | (refine go_newS ?_; clear hw; intro s w hw))
          simp only [hdj, beq_self_eq_true, beq_tf, beq_ft, Bool.false_and, Bool.true_and, Bool.not_true, Bool.not_false, Bool.cond_true, Bool.cond_false, gv_f, gv_t]
          repeat (first | refine go_run ?_ | (refine go_newP ?_; clear hw; intro p w hw) | (refine go_newWr ?_; clear hw; intro w hw) | (refine go_newS ?_; clear hw; intro s w hw))
          exact ⟨j + 1, G, ⟨rfl, trivial⟩, by repeat (first | exact agree_refl | (apply agree_upd rfl) | (apply agree_mix rfl) | (apply agree_sets rfl)), ⟨by omega, hGl, hG, hGk.trans ((pair_step hji).trans ⟨fun h => h.1, fun h => ⟨h, fun _ hb => absurd hb hbj⟩⟩).symm, hw⟩, by omega⟩
        have hdj : decide (((k / 2 ^ j : Nat) : Int).tmod 2 = 1) = true := decide_eq_true (shr_bit.2 hbj)
        repeat (first | refine go_run ?_ | (refine go_newP ?_; clear hw; intro p w hw) | (refine go_newWr ?_; clear hw; intro w hw) | (refine go_newS ?_; clear hw; intro s w hw))
        simp only [hdj, beq_self_eq_true, beq_tf, beq_ft, Bool.false_and, Bool.true_and, Bool.not_true, Bool.not_false, Bool.cond_true, Bool.cond_false, gv_f, gv_t]
        repeat (first | refine go_run ?_ | (refine go_newP ?_; clear hw; intro p w hw) | (refine go_newWr ?_; clear hw; intro w hw) | (refine go_newS ?_; clear hw; intro s w hw))
        refine st_call rfl (rAdditive_spec (ht.at hw) (hri.at hw) (hrj.at hw)) ?_
        rintro _ w' ⟨⟨r, rfl, hr⟩, hk'⟩
        replace hw := hw.call0 hk'
        clear hk'
        refine ⟨_, rfl, ?_⟩
        cases r
        · repeat (first | refine go_run ?_ | (refine go_newP ?_; clear hw; intro p w hw) | (refine go_newWr ?_; clear hw; intro w hw) | (refine go_newS ?_; clear hw; intro s w hw))
          refine ⟨j + 1, _, ⟨rfl, trivial⟩, by repeat (first | exact agree_refl | (apply agree_upd rfl) | (apply agree_mix rfl) | (apply agree_sets rfl)), ⟨by omega, by rw [List.length_set]; exact hGl, fun C hC => by rw [getD_setL, if_neg (by omega)]; exact hG C hC, ?_, hw⟩, by omega⟩
          rw [getD_setL, if_pos ⟨rfl, by omega⟩]
          exact iffF fun h => by have := hr.2 (((pair_step hji).1 h).2 hbi hbj); cases this
        · repeat (first | refine go_run ?_ | (refine go_newP ?_; clear hw; intro p w hw) | (refine go_newWr ?_; clear hw; intro w hw) | (refine go_newS ?_; clear hw; intro s w hw))
          exact ⟨j + 1, G, ⟨rfl, trivial⟩, by repeat (first | exact agree_refl | (apply agree_upd rfl) | (apply agree_mix rfl) | (apply agree_sets rfl)), ⟨by omega, hGl, hG, hGk.trans ((pair_step hji).trans ⟨fun h => h.1, fun h => ⟨h, fun _ _ => hr.1 rfl⟩⟩).symm, hw⟩, by omega⟩
      have hje : j = i := by omega
      subst hje
      rw [pair_next] at hGk
      repeat (first | refine go_run ?_ | (refine go_newP ?_; clear hw; intro p w hw) | (refine go_newW ?_; clear hw; intro w hw) | (refine go_newS ?_; clear hw; intro s w hw))
      exact ⟨j + 1, G, ⟨rfl, trivial⟩, by repeat (first | exact agree_refl | (apply agree_upd rfl) | (apply agree_mix rfl) | (apply agree_sets rfl)), ⟨by omega, hGl, hG, hGk, hw⟩, by omega⟩
    have hie : i = Ls.length := by omega
    subst hie
    rw [pair_clq hA (by rw [← hq]; exact hkq)] at hGk
    repeat (first | refine go_run ?_ | (refine go_newP ?_; clear hw; intro p w hw) | (refine go_newW ?_; clear hw; intro w hw) | (refine go_newS ?_; clear hw; intro s w hw))
    refine ⟨k + 1, G, ⟨rfl, trivial⟩, by repeat (first | exact agree_refl | (apply agree_upd rfl) | (apply agree_mix rfl) | (apply agree_sets rfl)), ⟨by omega, hGl, fun C hC => ?_, hw⟩, by omega⟩
    by_cases e : C = k
    · subst e; exact hGk
    · exact hG C (by omega)
  have hke : q = k := by omega
  subst hke
  clear h1 hk hrl
  have hC0 : CliqK Ls.length (nbA Ls.length (arcP t Ls Ls.length)) 0 [] := CliqK.zero
  repeat (first | refine go_run ?_ | (refine go_newP ?_; clear hw; intro p w hw) | (refine go_newW ?_; clear hw; intro w hw) | (refine go_newS ?_; clear hw; intro s w hw))
  have hw1 : Sat w0 w [RowsAt tInt 3 [] [], OS tVal 22 (.slice none 0 0) [], OS tBool 4 gv G, Box pt 26 [a, b, c, d]] := (hw.nil (T := tVal) (e := 22)).rows0
  clear hw
  refine vc_loop4 [10, 11, 12, 13, 14, 15, 72, 73, 74, 75, 76, 77, 78, 79, 80, 81, 82, 83, 84, 85, 86, 87, 88, 89, 90, 91, 92, 93, 94, 95, 96, 97, 98, 99, 100, 101, 102, 103, 104, 105, 106, 107, 108, 109, 110, 111, 112, 113, 114, 115, 116, 117, 118, 119, 120, 121, 122, 123, 124, 125, 126, 127, 128, 129, 130] (G := Nat) (H := Value) (I := List Value) (M := List (List Int)) (fun k ov _ _ => [(72, .int .i64 k), (10, ov)]) (fun k ov os Cs w => k ≤ q ∧ LexS Cs ∧ CliqK Ls.length (nbA Ls.length (arcP t Ls Ls.length)) k Cs ∧ Cs.length ≤ k ∧ Sat w0 w [RowsAt tInt 3 os Cs, OS tVal 22 ov os, OS tBool 4 gv G, Box pt 26 [a, b, c, d]]) (fun k _ _ _ => q - k) 0 (.slice none 0 0) [] [] (fun _ _ _ _ => rfl) ⟨rfl, rfl, trivial⟩ ⟨Nat.zero_le _, List.Pairwise.nil, hC0, Nat.le_refl _, hw1⟩ ?_
  clear hw1 hC0
  rintro σ1 k ov os Cs w ⟨hk, hlex, hCK, hCl, hw⟩
  have hol := hw.rowsLen
  repeat (first | refine go_run ?_ | (refine go_newP ?_; clear hw; intro p w hw) | (refine go_newW ?_; clear hw; intro w hw) | (refine go_newS ?_; clear hw; intro s w hw))
  refine go_if (fun h1 => ?_) (fun h1 => ?_)
  · have hkq : k < q := by omega
    have hkn : k < 2 ^ Ls.length := by omega
    have hGk := hG k hkq
    cases hgk : G.getD k tBool.dflt
    · have hno : ¬ MaxC Ls.length (nbA Ls.length (arcP t Ls Ls.length)) k := fun h => by
        have := hGk.2 ⟨h.bd, h.clq⟩
        rw [show G.getD k false = false from hgk] at this
        cases this
      have hde : G.getD k tBool.dflt = false := hgk
      repeat (first | refine go_run ?_ | (refine go_newP ?_; clear hw; intro p w hw) | (refine go_newWr ?_; clear hw; intro w hw) | (refine go_newS ?_; clear hw; intro s w hw))
      simp only [hde, Bool.not_false]
      repeat (first | refine go_run ?_ | (refine go_newP ?_; clear hw; intro p w hw) | (refine go_newWr ?_; clear hw; intro w hw) | (refine go_newS ?_; clear hw; intro s w hw))
      exact ⟨k + 1, ov, os, Cs, ⟨rfl, rfl, trivial⟩, by repeat (first | exact agree_refl | (apply agree_upd rfl) | (apply agree_mix rfl) | (apply agree_sets rfl)), ⟨by omega, hlex, hCK.no hno, by omega, hw⟩, by omega⟩
    have hcq : CliqM Ls.length (nbA Ls.length (arcP t Ls Ls.length)) k := hGk.1 hgk
    repeat (first | refine go_run ?_ | (refine go_newP ?_; clear hw; intro p w hw) | (refine go_newWr ?_; clear hw; intro w hw) | (refine go_newS ?_; clear hw; intro s w hw))
    simp only [hgk, Bool.not_true]
    repeat (first | refine go_run ?_ | (refine go_newP ?_; clear hw; intro p w hw) | (refine go_newWr ?_; clear hw; intro w hw) | (refine go_newS ?_; clear hw; intro s w hw))
    have hw1 := hw.nil (T := tInt) (e := 3)
    clear hw
    refine vc_loop3 [12, 13, 14, 81, 82, 83, 84, 85, 86, 87, 88, 89, 90, 91, 92, 93, 94, 95, 96, 97, 98, 99, 100] (G := Nat) (H := Bool) (I := Value) (fun i g pv => [(81, .int .i64 i), (12, .bool g), (13, pv)]) (fun i g pv w => i ≤ Ls.length ∧ (g = true ↔ ∀ v, v < i → ¬ ib k v → ¬ CliqM Ls.length (nbA Ls.length (arcP t Ls Ls.length)) (k ||| 2 ^ v)) ∧ Sat w0 w [OS tInt 3 pv (bitsK k i), RowsAt tInt 3 os Cs, OS tVal 22 ov os, OS tBool 4 gv G, Box pt 26 [a, b, c, d]]) (fun i _ _ => Ls.length - i) 0 true (.slice none 0 0) (fun _ _ _ => rfl) ⟨rfl, rfl, rfl, trivial⟩ ⟨Nat.zero_le _, iffT fun v hv => absurd hv (Nat.not_lt_zero _), hw1⟩ ?_
    clear hw1
    rintro σ2 i g pv w ⟨hi, hgr, hw⟩
    have hbl := bitsK_len k i
    repeat (first | refine go_run ?_ | (refine go_newP ?_; clear hw; intro p w hw) | (refine go_newW ?_; clear hw; intro w hw) | (refine go_newS ?_; clear hw; intro s w hw))
    refine go_if (fun h2 => ?_) (fun h2 => ?_)
    · have hil : i < Ls.length := by omega
      repeat (first | refine go_run ?_ | (refine go_newP ?_; clear hw; intro p w hw) | (refine go_newW ?_; clear hw; intro w hw) | (refine go_newS ?_; clear hw; intro s w hw))
      refine step_pure rfl (pv_shrI (a := k) (b := i) (k := .i64) rfl rfl (by omega)) ?_
      by_cases hbi : ib k i
      · have hdi : decide (((k / 2 ^ i : Nat) : Int).tmod 2 = 1) = true := decide_eq_true (shr_bit.2 hbi)
        repeat (first | refine go_runC ?_ | (refine go_newP ?_; clear hw; intro p w hw) | (refine go_newW ?_; clear hw; intro w hw) | (refine go_newS ?_; clear hw; intro s w hw))
        simp only [hdi]
        repeat (first | refine go_run ?_ | (refine go_newP ?_; clear hw; intro p w hw) | (refine go_newW ?_; clear hw; intro w hw) | (refine go_newS ?_; clear hw; intro s w hw))
        have hw2 := hw.tail
        rw [← bitsK_in hbi] at hw2
        exact ⟨i + 1, g, _, ⟨rfl, rfl, rfl, trivial⟩, by repeat (first | exact agree_refl | (apply agree_upd rfl) | (apply agree_mix rfl) | (apply agree_sets rfl)), ⟨by omega, hgr.trans (all_succ.trans ⟨fun h => h.1, fun h => ⟨h, fun hn => absurd hbi hn⟩⟩).symm, hw2⟩, by omega⟩
      have hdi : decide (((k / 2 ^ i : Nat) : Int).tmod 2 = 1) = false := decide_eq_false fun h => hbi (shr_bit.1 h)
      repeat (first | refine go_runC ?_ | (refine go_newP ?_; clear hw; intro p w hw) | (refine go_newW ?_; clear hw; intro w hw) | (refine go_newS ?_; clear hw; intro s w hw))
      simp only [hdi]
      repeat (first | refine go_run ?_ | (refine go_newP ?_; clear hw; intro p w hw) | (refine go_newW ?_; clear hw; intro w hw) | (refine go_newS ?_; clear hw; intro s w hw))
      have hpi : 2 ^ i ≤ 2 ^ 8 := Nat.pow_le_pow_right (by decide) (by omega)
      refine step_pure rfl (pv_shlI (a := 1) (b := i) (k := .i64) rfl rfl (by omega) (by omega)) ?_
      rw [Nat.one_mul]
      have hor := or_lt2 hkn hil
      refine step_pure rfl (pv_orI (a := k) (b := 2 ^ i) rfl rfl (by omega) (by omega)) ?_
      obtain ⟨m, hm⟩ : ∃ m, m = k ||| 2 ^ i := ⟨_, rfl⟩
      rw [← hm] at hor ⊢
      have hmq : m < q := by omega
      have hGm := hG m hmq
      repeat (first | refine go_runC ?_ | (refine go_newP ?_; clear hw; intro p w hw) | (refine go_newW ?_; clear hw; intro w hw) | (refine go_newS ?_; clear hw; intro s w hw))
      cases hgm : G.getD m tBool.dflt
      · repeat (first | refine go_run ?_ | (refine go_newP ?_; clear hw; intro p w hw) | (refine go_newW ?_; clear hw; intro w hw) | (refine go_newS ?_; clear hw; intro s w hw))
        rw [← bitsK_out hbi] at hw
        exact ⟨i + 1, g, pv, ⟨rfl, rfl, rfl, trivial⟩, by repeat (first | exact agree_refl | (apply agree_upd rfl) | (apply agree_mix rfl) | (apply agree_sets rfl)), ⟨by omega, hgr.trans (all_succ.trans ⟨fun h => h.1, fun h => ⟨h, fun _ hc => (by rw [← hm] at hc; have := hGm.2 hc; rw [show G.getD m false = false from hgm] at this; cases this)⟩⟩).symm, hw⟩, by omega⟩
      · repeat (first | refine go_run ?_ | (refine go_newP ?_; clear hw; intro p w hw) | (refine go_newW ?_; clear hw; intro w hw) | (refine go_newS ?_; clear hw; intro s w hw))
        rw [← bitsK_out hbi] at hw
        exact ⟨i + 1, false, pv, ⟨rfl, rfl, rfl, trivial⟩, by repeat (first | exact agree_refl | (apply agree_upd rfl) | (apply agree_mix rfl) | (apply agree_sets rfl)), ⟨by omega, iffF fun h => (all_succ.1 h).2 hbi (by rw [← hm]; exact hGm.1 hgm), hw⟩, by omega⟩
    have hie : i = Ls.length := by omega
    subst hie
    rw [← maxC_iff hA.gr hcq] at hgr
    cases g
    · have hno : ¬ MaxC Ls.length (nbA Ls.length (arcP t Ls Ls.length)) k := fun h => by have := hgr.2 h; cases this
      repeat (first | refine go_run ?_ | (refine go_newP ?_; clear hw; intro p w hw) | (refine go_newW ?_; clear hw; intro w hw) | (refine go_newS ?_; clear hw; intro s w hw))
      exact ⟨k + 1, ov, os, Cs, ⟨rfl, rfl, trivial⟩, by repeat (first | exact agree_refl | (apply agree_upd rfl) | (apply agree_mix rfl) | (apply agree_sets rfl)), ⟨by omega, hlex, hCK.no hno, by omega, hw.tail⟩, by omega⟩
    have hmx : MaxC Ls.length (nbA Ls.length (arcP t Ls Ls.length)) k := hgr.1 rfl
    obtain ⟨P, hP⟩ : ∃ P, P = bitsK k Ls.length := ⟨_, rfl⟩
    rw [← hP] at hw hbl
    repeat (first | refine go_run ?_ | (refine go_newP ?_; clear hw; intro p w hw) | (refine go_newW ?_; clear hw; intro w hw) | (refine go_newS ?_; clear hw; intro s w hw))
    refine vc_loop [15, 105, 106, 107, 108, 109, 110, 111, 112, 113, 114, 115, 116, 117] (G := Nat) (fun x => [(15, .int .i64 x)]) (fun x w => x ≤ Cs.length ∧ (∀ y, x ≤ y → y < Cs.length → lexC P (Cs.getD y []) < 0) ∧ Sat w0 w [OS tInt 3 pv P, RowsAt tInt 3 os Cs, OS tVal 22 ov os, OS tBool 4 gv G, Box pt 26 [a, b, c, d]]) (fun x => x) os.length (fun _ => rfl) ⟨rfl, trivial⟩ ⟨by omega, fun y h1 h2 => by omega, hw⟩ ?_
    clear hw
    rintro σ3 x w ⟨hx, hhi, hw⟩
    refine vc_seq ?_
    refine vc_seq ?_
    refine vc_cut [105, 106, 107, 108, 109, 110, 111, 112, 113, 114, 115] (G := Bool) (fun r => [(115, .bool r)]) (fun r w => (r = true ↔ 0 < x ∧ lexC P (Cs.getD (x - 1) []) < 0) ∧ Sat w0 w [OS tInt 3 pv P, RowsAt tInt 3 os Cs, OS tVal 22 ov os, OS tBool 4 gv G, Box pt 26 [a, b, c, d]]) (fun _ => rfl) ?_ ?_
    · by_cases hx0 : 0 < x
      rotate_left
      · have hde : decide ((x : Int) > 0) = false := decide_eq_false (by omega)
        repeat (first | refine go_run ?_ | (refine go_newP ?_; clear hw; intro p w hw) | (refine go_newWr ?_; clear hw; intro w hw) | (refine go_newS ?_; clear hw; intro s w hw))
        simp only [hde, beq_self_eq_true, beq_tf, beq_ft, Bool.false_and, Bool.true_and, Bool.not_true, Bool.not_false, Bool.cond_true, Bool.cond_false, gv_f, gv_t]
        repeat (first | refine go_run ?_ | (refine go_newP ?_; clear hw; intro p w hw) | (refine go_newWr ?_; clear hw; intro w hw) | (refine go_newS ?_; clear hw; intro s w hw))
        exact ⟨false, ⟨rfl, trivial⟩, by repeat (first | exact agree_refl | (apply agree_upd rfl) | (apply agree_mix rfl) | (apply agree_sets rfl)), iffF fun h => hx0 h.1, hw⟩
      have hde : decide ((x : Int) > 0) = true := decide_eq_true (by omega)
      have he1 : ((x : Int) - 1).toNat = x - 1 := by omega
      repeat (first | refine go_run ?_ | (refine go_newP ?_; clear hw; intro p w hw) | (refine go_newWr ?_; clear hw; intro w hw) | (refine go_newS ?_; clear hw; intro s w hw))
      simp only [hde, he1, beq_self_eq_true, beq_tf, beq_ft, Bool.false_and, Bool.true_and, Bool.not_true, Bool.not_false, Bool.cond_true, Bool.cond_false, gv_f, gv_t]
      repeat (first | refine go_run ?_ | (refine go_newP ?_; clear hw; intro p w hw) | (refine go_newWr ?_; clear hw; intro w hw) | (refine go_newS ?_; clear hw; intro s w hw))
      refine st_call rfl (less_spec (xa := pv) (xb := vget os (x - 1)) (rsO hw) ((hw.focus 1 rfl).row (i := x - 1) (by omega))) ?_
      rintro _ w' ⟨⟨r, rfl, hr⟩, hk'⟩
      replace hw := hw.call0 hk'
      clear hk'
      refine ⟨_, rfl, ?_⟩
      repeat (first | refine go_run ?_ | (refine go_newP ?_; clear hw; intro p w hw) | (refine go_newWr ?_; clear hw; intro w hw) | (refine go_newS ?_; clear hw; intro s w hw))
      exact ⟨r, ⟨rfl, trivial⟩, by repeat (first | exact agree_refl | (apply agree_upd rfl) | (apply agree_mix rfl) | (apply agree_sets rfl)), hr.trans ⟨fun h => ⟨hx0, h⟩, fun h => h.2⟩, hw⟩
    clear hw
    rintro σ4 r w ⟨hr, hw⟩
    cases r
    rotate_left
    · obtain ⟨hx0, hlt⟩ := hr.1 rfl
      have he1 : (((x - 1 : Nat) : Nat) : Int) = (x : Int) - 1 := by omega
      repeat (first | refine go_run ?_ | (refine go_newP ?_; clear hw; intro p w hw) | (refine go_newW ?_; clear hw; intro w hw) | (refine go_newS ?_; clear hw; intro s w hw))
      refine ⟨x - 1, ⟨by rw [he1]; rfl, trivial⟩, by repeat (first | exact agree_refl | (apply agree_upd rfl) | (apply agree_mix rfl) | (apply agree_sets rfl)), ⟨by omega, fun y h1 h2 => ?_, hw⟩, by omega⟩
      by_cases e : y = x - 1
      · subst e; exact hlt
      · exact hhi y (by omega) h2
    have hlo : x = 0 ∨ ¬ lexC P (Cs.getD (x - 1) []) < 0 := by
      by_cases hx0 : 0 < x
      · exact .inr fun h => by have := hr.2 ⟨hx0, h⟩; cases this
      · exact .inl (by omega)
    have hPn : P ∉ Cs := by rw [hP]; exact hCK.new hmx
    have hCy := hCK.yes (at' := x) hmx
    rw [← hP] at hCy
    have hones := rows_one hw.tail
    have c1 := (rsO (s := pv) hw).cells1
    have o1 := (rsO (s := pv) hw).one
    have hc1 : (cut os 0 x).length = x := by rw [cut_take, List.length_take]; omega
    have hc3 : (cut os x os.length).length = os.length - x := by rw [cut_drop, List.length_drop]
    have hone1 : ∀ y ∈ cut os 0 x, ∀ v ∈ tVal.enc y, v.oneCell' = true := fun y hy v hv => by
      rw [List.mem_singleton.1 hv]
      rw [cut_take] at hy
      exact hones y (List.mem_of_mem_take hy)
    have hone2 : ∀ y ∈ [pv], ∀ v ∈ tVal.enc y, v.oneCell' = true := fun y hy v hv => by
      rw [List.mem_singleton.1 hv, List.mem_singleton.1 hy]; exact o1
    have hone3 : ∀ y ∈ cut os x os.length, ∀ v ∈ tVal.enc y, v.oneCell' = true := fun y hy v hv => by
      rw [List.mem_singleton.1 hv]
      rw [cut_drop] at hy
      exact hones y (List.mem_of_mem_drop hy)
    repeat (first | refine go_run ?_ | (refine go_newP ?_; clear hw; intro p w hw) | (refine go_newWr ?_; clear hw; intro w hw) | (refine go_newS ?_; clear hw; intro s w hw))
    refine vc_tree (.step 1 [.op 1] (.step 2 [.op 2] (.step 3 [.op 3] (.step 5 [.op 5] (.step 8 [.op 8] (.step 9 [.op 9] (.step 10 [.op 10] (.alt 0 [.op 0] (.alt 4 [.op 4] (.step 6 [.op 6] (.step 7 [.op 7] (.step 11 [.op 11] (.step 12 [.op 12] (.lin []))))) (.alt 6 [.op 6] (.step 4 [.op 4] (.step 7 [.op 7] (.step 11 [.op 11] (.step 12 [.op 12] (.lin []))))) (.stop))) (.alt 6 [.op 6] (.step 0 [.op 0] (.step 4 [.op 4] (.step 7 [.op 7] (.step 11 [.op 11] (.step 12 [.op 12] (.lin [])))))) (.stop)))))))))) hw (by kernel_rfl) (by kernel_rfl) ?_; clear hw; intro w hw
    repeat (first | refine go_run ?_ | (refine go_newP ?_; clear hw; intro p w hw) | (refine go_newW ?_; clear hw; intro w hw) | (refine go_newSv ?_; clear hw; intro s w hw))
    refine opsT_alt ?_ (opsT_alt ?_ opsT_stop)
    · repeat (first | refine go_run ?_ | (refine go_newP ?_; clear hw; intro p w hw) | (refine go_newW ?_; clear hw; intro w hw) | (refine go_newSv ?_; clear hw; intro s w hw))
      refine st_buildSlice0 tVal hw ?_
      clear hw
      intro e0 w hw
      repeat (first | refine go_run ?_ | (refine go_newP ?_; clear hw; intro p w hw) | (refine go_newW ?_; clear hw; intro w hw) | (refine go_newSv ?_; clear hw; intro s w hw))
      refine opsT_alt ?_ (opsT_alt ?_ opsT_stop)
      · repeat (first | refine go_run ?_ | (refine go_newP ?_; clear hw; intro p w hw) | (refine go_newW ?_; clear hw; intro w hw) | (refine go_newSv ?_; clear hw; intro s w hw))
        refine st_append (s := e0) (s2 := ssub ov tVal.sz 0 x) inferInstance rfl rfl (rs_ssub (T := tVal) (rsO (s := ov) hw) (Nat.zero_le _) (by omega)) rfl rfl hone1 (by simp only [List.length_nil]; omega) (by unfold big; simp only [List.length_nil]; omega) hw ?_
        clear hw
        intro a1 w hw
        rw [List.nil_append] at hw
        repeat (first | refine go_run ?_ | (refine go_newP ?_; clear hw; intro p w hw) | (refine go_newW ?_; clear hw; intro w hw) | (refine go_newSv ?_; clear hw; intro s w hw))
        refine st_buildSlice1 tVal (x1 := pv) rfl c1 rfl (Nat.le_of_ble_eq_true rfl) (Nat.zero_lt_succ _) hw ?_
        clear hw
        intro b1 w hw
        repeat (first | refine go_run ?_ | (refine go_newP ?_; clear hw; intro p w hw) | (refine go_newW ?_; clear hw; intro w hw) | (refine go_newSv ?_; clear hw; intro s w hw))
        obtain ⟨a2, ha2⟩ : ∃ a2, a2 = s := ⟨s, rfl⟩
        subst ha2
        refine st_append (s := a2) (s2 := ssub ov tVal.sz x os.length) inferInstance rfl rfl (rs_ssub (T := tVal) (rsO (s := ov) hw) (by omega) (Nat.le_refl _)) rfl rfl hone3 (by simp only [List.length_append, List.length_singleton]; omega) (by unfold big; simp only [List.length_append, List.length_singleton]; omega) hw ?_
        clear hw
        intro a3 w hw
        repeat (first | refine go_run ?_ | (refine go_newP ?_; clear hw; intro p w hw) | (refine go_newW ?_; clear hw; intro w hw) | (refine go_newSv ?_; clear hw; intro s w hw))
        rw [cut_take, cut_drop] at hw
        have hw2 : Sat w0 w [OS tInt 3 pv P, RowsAt tInt 3 os Cs, OS tVal 22 a3 (os.take x ++ [pv] ++ os.drop x), OS tBool 4 gv G, Box pt 26 [a, b, c, d]] := hw.sel
        have hw3 := sat_rowIns x hw2
        exact ⟨k + 1, a3, _, _, ⟨rfl, rfl, trivial⟩, by repeat (first | exact agree_refl | (apply agree_upd rfl) | (apply agree_mix rfl) | (apply agree_sets rfl)), ⟨by omega, hlex.insert hx hPn hhi hlo, hCy, by simp only [List.length_append, List.length_take, List.length_drop, List.length_singleton]; omega, hw3⟩, by omega⟩
      · repeat (first | refine go_run ?_ | (refine go_newP ?_; clear hw; intro p w hw) | (refine go_newW ?_; clear hw; intro w hw) | (refine go_newSv ?_; clear hw; intro s w hw))
        refine st_buildSlice1 tVal (x1 := pv) rfl c1 rfl (Nat.le_of_ble_eq_true rfl) (Nat.zero_lt_succ _) hw ?_
        clear hw
        intro b1 w hw
        repeat (first | refine go_run ?_ | (refine go_newP ?_; clear hw; intro p w hw) | (refine go_newW ?_; clear hw; intro w hw) | (refine go_newSv ?_; clear hw; intro s w hw))
        refine st_append (s := e0) (s2 := ssub ov tVal.sz 0 x) inferInstance rfl rfl (rs_ssub (T := tVal) (rsO (s := ov) hw) (Nat.zero_le _) (by omega)) rfl rfl hone1 (by simp only [List.length_nil]; omega) (by unfold big; simp only [List.length_nil]; omega) hw ?_
        clear hw
        intro a1 w hw
        rw [List.nil_append] at hw
        repeat (first | refine go_run ?_ | (refine go_newP ?_; clear hw; intro p w hw) | (refine go_newW ?_; clear hw; intro w hw) | (refine go_newSv ?_; clear hw; intro s w hw))
        obtain ⟨a2, ha2⟩ : ∃ a2, a2 = s := ⟨s, rfl⟩
        subst ha2
        refine st_append (s := a2) (s2 := ssub ov tVal.sz x os.length) inferInstance rfl rfl (rs_ssub (T := tVal) (rsO (s := ov) hw) (by omega) (Nat.le_refl _)) rfl rfl hone3 (by simp only [List.length_append, List.length_singleton]; omega) (by unfold big; simp only [List.length_append, List.length_singleton]; omega) hw ?_
        clear hw
        intro a3 w hw
        repeat (first | refine go_run ?_ | (refine go_newP ?_; clear hw; intro p w hw) | (refine go_newW ?_; clear hw; intro w hw) | (refine go_newSv ?_; clear hw; intro s w hw))
        rw [cut_take, cut_drop] at hw
        have hw2 : Sat w0 w [OS tInt 3 pv P, RowsAt tInt 3 os Cs, OS tVal 22 a3 (os.take x ++ [pv] ++ os.drop x), OS tBool 4 gv G, Box pt 26 [a, b, c, d]] := hw.sel
        have hw3 := sat_rowIns x hw2
        exact ⟨k + 1, a3, _, _, ⟨rfl, rfl, trivial⟩, by repeat (first | exact agree_refl | (apply agree_upd rfl) | (apply agree_mix rfl) | (apply agree_sets rfl)), ⟨by omega, hlex.insert hx hPn hhi hlo, hCy, by simp only [List.length_append, List.length_take, List.length_drop, List.length_singleton]; omega, hw3⟩, by omega⟩
    · repeat (first | refine go_run ?_ | (refine go_newP ?_; clear hw; intro p w hw) | (refine go_newW ?_; clear hw; intro w hw) | (refine go_newSv ?_; clear hw; intro s w hw))
      refine st_buildSlice1 tVal (x1 := pv) rfl c1 rfl (Nat.le_of_ble_eq_true rfl) (Nat.zero_lt_succ _) hw ?_
      clear hw
      intro b1 w hw
      repeat (first | refine go_run ?_ | (refine go_newP ?_; clear hw; intro p w hw) | (refine go_newW ?_; clear hw; intro w hw) | (refine go_newSv ?_; clear hw; intro s w hw))
      refine st_buildSlice0 tVal hw ?_
      clear hw
      intro e0 w hw
      repeat (first | refine go_run ?_ | (refine go_newP ?_; clear hw; intro p w hw) | (refine go_newW ?_; clear hw; intro w hw) | (refine go_newSv ?_; clear hw; intro s w hw))
      refine st_append (s := e0) (s2 := ssub ov tVal.sz 0 x) inferInstance rfl rfl (rs_ssub (T := tVal) (rsO (s := ov) hw) (Nat.zero_le _) (by omega)) rfl rfl hone1 (by simp only [List.length_nil]; omega) (by unfold big; simp only [List.length_nil]; omega) hw ?_
      clear hw
      intro a1 w hw
      rw [List.nil_append] at hw
      repeat (first | refine go_run ?_ | (refine go_newP ?_; clear hw; intro p w hw) | (refine go_newW ?_; clear hw; intro w hw) | (refine go_newSv ?_; clear hw; intro s w hw))
      obtain ⟨a2, ha2⟩ : ∃ a2, a2 = s := ⟨s, rfl⟩
      subst ha2
      refine st_append (s := a2) (s2 := ssub ov tVal.sz x os.length) inferInstance rfl rfl (rs_ssub (T := tVal) (rsO (s := ov) hw) (by omega) (Nat.le_refl _)) rfl rfl hone3 (by simp only [List.length_append, List.length_singleton]; omega) (by unfold big; simp only [List.length_append, List.length_singleton]; omega) hw ?_
      clear hw
      intro a3 w hw
      repeat (first | refine go_run ?_ | (refine go_newP ?_; clear hw; intro p w hw) | (refine go_newW ?_; clear hw; intro w hw) | (refine go_newSv ?_; clear hw; intro s w hw))
      rw [cut_take, cut_drop] at hw
      have hw2 : Sat w0 w [OS tInt 3 pv P, RowsAt tInt 3 os Cs, OS tVal 22 a3 (os.take x ++ [pv] ++ os.drop x), OS tBool 4 gv G, Box pt 26 [a, b, c, d]] := hw.sel
      have hw3 := sat_rowIns x hw2
      exact ⟨k + 1, a3, _, _, ⟨rfl, rfl, trivial⟩, by repeat (first | exact agree_refl | (apply agree_upd rfl) | (apply agree_mix rfl) | (apply agree_sets rfl)), ⟨by omega, hlex.insert hx hPn hhi hlo, hCy, by simp only [List.length_append, List.length_take, List.length_drop, List.length_singleton]; omega, hw3⟩, by omega⟩
  have hke : q = k := by omega
  subst hke
  rw [hq] at hCK
  repeat (first | refine go_run ?_ | (refine go_newP ?_; clear hw; intro p w hw) | (refine go_newW ?_; clear hw; intro w hw) | (refine go_newS ?_; clear hw; intro s w hw))
  exact res_one (v := ov) rfl rfl ⟨ov, os, Cs, rfl, hlex, fun h => by omega, fun _ => hCK.fin, hw.sel⟩
end Go.Proofs.YtemnlcnjpjdoaaaGreatDoor
