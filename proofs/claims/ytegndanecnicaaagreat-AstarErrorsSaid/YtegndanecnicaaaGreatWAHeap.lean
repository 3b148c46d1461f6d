
/-
  Contracts of A*'s heap: 'cmp.Compare', 'cmp.Or', the methods.
-/
import Derived.Test.YtegndanecnicaaaGreatMTA
import Derived.Test.YtegndanecnicaaaGreatMSlB
import Derived.Test.YtegndanecnicaaaGreatMW1
set_option linter.unusedSimpArgs false
set_option linter.unusedVariables false
namespace Go.Proofs.YtegndanecnicaaaGreat
open Go.Sl Go
attribute [local irreducible] vc opsW opsD opV opW PureV ReadV Thn Blk
def cmpI (a b : Int) : Int := if a < b then -1 else if b < a then 1 else 0
set_option maxRecDepth 8000 in
theorem isNaN_spec {w0 : World} {a : Int} : Calls Tryz.prog 130 #[.int .i64 a] w0 fun e w' => e = .returned (.bool false) ∧ Sat w0 w' [] := by
  have hw := Sat.start w0
  refine calls_of_vc (args := [.int .i64 a]) mixed Tryz.func130 rfl (by kernel_rfl) (Nat.le_of_ble_eq_true rfl) ?_
  repeat (first | refine go_run ?_ | (refine go_newP ?_; clear hw; intro p w hw) | (refine go_newW ?_; clear hw; intro w hw) | (refine go_newS ?_; clear hw; intro s w hw))
  exact res_one (v := .bool (!decide (a = a))) rfl rfl ⟨by simp, hw⟩
set_option maxRecDepth 8000 in
theorem cmpC_spec {w0 : World} {a b : Int} : Calls Tryz.prog 156 #[.int .i64 a, .int .i64 b] w0 fun e w' => e = .returned (.int .i64 (cmpI a b)) ∧ Sat w0 w' [] := by
  have hw := Sat.start w0
  refine calls_of_vc (args := [.int .i64 a, .int .i64 b]) mixed Tryz.func156 rfl (by kernel_rfl) (Nat.le_of_ble_eq_true rfl) ?_
  repeat (first | refine go_run ?_ | (refine go_newP ?_; clear hw; intro p w hw) | (refine go_newW ?_; clear hw; intro w hw) | (refine go_newS ?_; clear hw; intro s w hw))
  refine st_call rfl isNaN_spec ?_
  rintro _ w' ⟨rfl, hk'⟩
  replace hw := hw.call0 hk'
  clear hk'
  refine ⟨_, rfl, ?_⟩
  repeat (first | refine go_run ?_ | (refine go_newP ?_; clear hw; intro p w hw) | (refine go_newW ?_; clear hw; intro w hw) | (refine go_newS ?_; clear hw; intro s w hw))
  refine st_call rfl isNaN_spec ?_
  rintro _ w' ⟨rfl, hk'⟩
  replace hw := hw.call0 hk'
  clear hk'
  refine ⟨_, rfl, ?_⟩
  repeat (first | refine go_run ?_ | (refine go_newP ?_; clear hw; intro p w hw) | (refine go_newW ?_; clear hw; intro w hw) | (refine go_newS ?_; clear hw; intro s w hw))
  refine go_if (fun h1 => ?_) (fun h1 => ?_)
  · have e : cmpI a b = -1 := if_pos h1
    repeat (first | refine go_run ?_ | (refine go_newP ?_; clear hw; intro p w hw) | (refine go_newW ?_; clear hw; intro w hw) | (refine go_newS ?_; clear hw; intro s w hw))
    exact res_one (v := .int .i64 (-1)) rfl rfl ⟨by rw [e], hw⟩
  repeat (first | refine go_run ?_ | (refine go_newP ?_; clear hw; intro p w hw) | (refine go_newW ?_; clear hw; intro w hw) | (refine go_newS ?_; clear hw; intro s w hw))
  refine go_if (fun h2 => ?_) (fun h2 => ?_)
  · have e : cmpI a b = 1 := by unfold cmpI; rw [if_neg (by omega), if_pos (by omega)]
    repeat (first | refine go_run ?_ | (refine go_newP ?_; clear hw; intro p w hw) | (refine go_newW ?_; clear hw; intro w hw) | (refine go_newS ?_; clear hw; intro s w hw))
    exact res_one (v := .int .i64 1) rfl rfl ⟨by rw [e], hw⟩
  have e : cmpI a b = 0 := by unfold cmpI; rw [if_neg (by omega), if_neg (by omega)]
  repeat (first | refine go_run ?_ | (refine go_newP ?_; clear hw; intro p w hw) | (refine go_newW ?_; clear hw; intro w hw) | (refine go_newS ?_; clear hw; intro s w hw))
  exact res_one (v := .int .i64 0) rfl rfl ⟨by rw [e], hw⟩
/-- The first number that is not 0. -/
def orI : List Int → Int
  | [] => 0
  | x :: l => if x = 0 then orI l else x
set_option maxRecDepth 8000 in
theorem cmpOr_spec {w0 : World} {v : Value} {xs : List Int} (hx : RS tInt w0 v xs) : Calls Tryz.prog 155 #[v] w0 fun e w' => e = .returned (.int .i64 (orI xs)) ∧ Sat w0 w' [] := by
  have hb := hx.big
  have hw := Sat.start w0
  refine calls_of_vc (args := [v]) mixed Tryz.func155 rfl (by kernel_rfl) (Nat.le_of_ble_eq_true rfl) ?_
  repeat (first | refine go_run ?_ | (refine go_newP ?_; clear hw; intro p w hw) | (refine go_newW ?_; clear hw; intro w hw) | (refine go_newS ?_; clear hw; intro s w hw))
  refine vc_loop [2, 5, 8, 9, 10, 11, 12, 13, 14, 15, 16] (G := Nat) (fun k => [(8, .int .i64 k)]) (fun k w => k ≤ xs.length ∧ orI (xs.drop k) = orI xs ∧ Sat w0 w []) (fun k => xs.length - k) 0 (fun _ => rfl) ⟨rfl, trivial⟩ ⟨Nat.zero_le _, rfl, hw⟩ ?_
  clear hw
  rintro σ k w ⟨hk, ho, hw⟩
  repeat (first | refine go_run ?_ | (refine go_newP ?_; clear hw; intro p w hw) | (refine go_newW ?_; clear hw; intro w hw) | (refine go_newS ?_; clear hw; intro s w hw))
  refine go_if (fun h1 => ?_) (fun h1 => ?_)
  · have hkl : k < xs.length := by omega
    have hdr : xs.drop k = xs.getD k tInt.dflt :: xs.drop (k + 1) := by rw [getD_at hkl]; exact List.drop_eq_getElem_cons hkl
    rw [hdr] at ho
    repeat (first | refine go_run ?_ | (refine go_newP ?_; clear hw; intro p w hw) | (refine go_newW ?_; clear hw; intro w hw) | (refine go_newS ?_; clear hw; intro s w hw))
    refine go_if (fun h2 => ?_) (fun h2 => ?_)
    · have e : orI xs = xs.getD k tInt.dflt := by rw [← ho]; unfold orI; rw [if_neg h2]
      repeat (first | refine go_run ?_ | (refine go_newP ?_; clear hw; intro p w hw) | (refine go_newW ?_; clear hw; intro w hw) | (refine go_newS ?_; clear hw; intro s w hw))
      exact res_one (v := .int .i64 (xs.getD k tInt.dflt)) rfl rfl ⟨by rw [e], hw⟩
    · have e : orI (xs.drop (k + 1)) = orI xs := by rw [← ho]; conv => rhs; unfold orI
                                                    rw [if_pos h2]
      repeat (first | refine go_run ?_ | (refine go_newP ?_; clear hw; intro p w hw) | (refine go_newW ?_; clear hw; intro w hw) | (refine go_newS ?_; clear hw; intro s w hw))
      exact ⟨k + 1, ⟨rfl, trivial⟩, by repeat (first | exact agree_refl | (apply agree_upd rfl) | (apply agree_mix rfl) | (apply agree_sets rfl)), ⟨by omega, e, hw⟩, by omega⟩
  have hke : k = xs.length := by omega
  rw [hke, List.drop_length] at ho
  repeat (first | refine go_run ?_ | (refine go_newP ?_; clear hw; intro p w hw) | (refine go_newW ?_; clear hw; intro w hw) | (refine go_newS ?_; clear hw; intro s w hw))
  exact res_one (v := .int .i64 0) rfl rfl ⟨by rw [← ho]; rfl, hw⟩
theorem orI_cons (x : Int) (l : List Int) : orI (x :: l) = if x = 0 then orI l else x := rfl
theorem cmpI_lt {a b : Int} (h : a < b) : cmpI a b = -1 := if_pos h
theorem cmpI_eq {a b : Int} (h : a = b) : cmpI a b = 0 := by unfold cmpI; rw [if_neg (by omega), if_neg (by omega)]
theorem cmpI_gt {a b : Int} (h : b < a) : cmpI a b = 1 := by unfold cmpI; rw [if_neg (by omega), if_pos h]
theorem elt_or (a b : Ent) : decide (orI [cmpI a.f b.f, cmpI a.h b.h, cmpI a.ord b.ord] < 0) = elt a b := by
  unfold elt
  refine decide_eq_decide.2 ?_
  rcases Int.lt_trichotomy a.f b.f with h | h | h
  · rw [cmpI_lt h, orI_cons, if_neg (by decide)]; omega
  · rw [cmpI_eq h, orI_cons, if_pos rfl]
    rcases Int.lt_trichotomy a.h b.h with h2 | h2 | h2
    · rw [cmpI_lt h2, orI_cons, if_neg (by decide)]; omega
    · rw [cmpI_eq h2, orI_cons, if_pos rfl]
      rcases Int.lt_trichotomy a.ord b.ord with h3 | h3 | h3
      · rw [cmpI_lt h3, orI_cons, if_neg (by decide)]; omega
      · rw [cmpI_eq h3, orI_cons, if_pos rfl]; show (0 : Int) < 0 ↔ _; omega
      · rw [cmpI_gt h3, orI_cons, if_neg (by decide)]; omega
    · rw [cmpI_gt h2, orI_cons, if_neg (by decide)]; omega
  · rw [cmpI_gt h, orI_cons, if_neg (by decide)]; omega
set_option maxRecDepth 8000 in
set_option maxHeartbeats 4000000 in
theorem axLess_spec {w0 : World} {h : Value} {xs : List Ent} {i j : Nat} {ii jj : Int} (hx : RS tEnt w0 h xs) (ei : ii = i) (ej : jj = j) (hi : i < xs.length) (hj : j < xs.length) :
    Calls Tryz.prog 153 #[h, .int .i64 ii, .int .i64 jj] w0 fun e w' => e = .returned (.bool (elt (hg tEnt.dflt xs i) (hg tEnt.dflt xs j))) ∧ Sat w0 w' [] := by
  subst ei ej
  have hw := Sat.start w0
  refine calls_of_vc (args := [h, .int .i64 i, .int .i64 j]) mixed Tryz.func153 rfl (by kernel_rfl) (Nat.le_of_ble_eq_true rfl) ?_
  repeat (first | refine go_run ?_ | (refine go_newP ?_; clear hw; intro p w hw) | (refine go_newWr ?_; clear hw; intro w hw) | (refine go_newS ?_; clear hw; intro s w hw))
  refine vc_cut [9, 10, 11, 12, 13, 14, 15, 16, 7, 8] (G := Addr × Addr) (fun g => [(7, .pointer (some g.1)), (8, .pointer (some g.2))]) (fun g w => Sat w0 w [Box g.1 164 (tEnt.enc (xs.getD i tEnt.dflt)), Box g.2 164 (tEnt.enc (xs.getD j tEnt.dflt))]) (fun _ => rfl) ?_ ?_
  · refine vc_tree (.step 0 [.op 0] (.step 1 [.op 1] (.step 2 [.op 2] (.step 4 [.op 4] (.step 5 [.op 5] (.step 6 [.op 6] (.step 3 [.op 3] (.step 7 [.op 7] (.alt 8 [.op 8, .chk 3, .chk 7] (.step 9 [.op 9, .chk 3, .chk 7] (.step 10 [.op 10, .chk 7] (.step 11 [.op 11] (.lin [])))) (.alt 9 [.op 9, .chk 3, .chk 7] (.step 8 [.op 8, .chk 3, .chk 7] (.step 10 [.op 10, .chk 7] (.step 11 [.op 11] (.lin [])))) (.stop))))))))))) hw (by kernel_rfl) (by kernel_rfl) ?_; clear hw; intro w hw
    repeat' (first | refine go_run ?_ | (refine go_newP ?_; clear hw; intro p w hw) | (refine go_newWr ?_; clear hw; intro w hw) | (refine go_newW ?_; clear hw; intro w hw) | refine opsT_alt ?_ ?_ | exact opsT_stop)
    all_goals (first | exact ⟨(_, _), ⟨rfl, rfl, trivial⟩, by repeat (first | exact agree_refl | (apply agree_upd rfl) | (apply agree_mix rfl) | (apply agree_sets rfl)), hw⟩ | exact ⟨(_, _), ⟨rfl, rfl, trivial⟩, by repeat (first | exact agree_refl | (apply agree_upd rfl) | (apply agree_mix rfl) | (apply agree_sets rfl)), hw.swap⟩)
  clear hw
  rintro σ ⟨pa, pb⟩ w hw
  simp only at hw
  obtain ⟨ea, hea⟩ : ∃ ea : Ent, ea = xs.getD i tEnt.dflt := ⟨_, rfl⟩
  obtain ⟨eb, heb⟩ : ∃ eb : Ent, eb = xs.getD j tEnt.dflt := ⟨_, rfl⟩
  rw [← hea, ← heb] at hw
  refine vc_seq ?_
  refine vc_plan [.op 0, .op 1, .op 2, .op 3, .op 5, .op 6, .op 7, .op 8, .op 10, .op 11, .op 12, .op 13, .op 4, .chk 6, .chk 8, .chk 11, .chk 13, .op 9, .chk 11, .chk 13, .op 14, .op 15, .op 16, .op 17, .op 18] hw (by kernel_rfl) ?_; clear hw; intro w hw
  repeat (first | refine go_run ?_ | (refine go_newP ?_; clear hw; intro p w hw) | (refine go_newWr ?_; clear hw; intro w hw) | (refine go_newS ?_; clear hw; intro s w hw))
  refine st_call rfl cmpC_spec ?_
  rintro _ w' ⟨rfl, hk'⟩
  replace hw := hw.call0 hk'
  clear hk'
  refine ⟨_, rfl, ?_⟩
  repeat (first | refine go_run ?_ | (refine go_newP ?_; clear hw; intro p w hw) | (refine go_newWr ?_; clear hw; intro w hw) | (refine go_newS ?_; clear hw; intro s w hw))
  refine st_call rfl cmpC_spec ?_
  rintro _ w' ⟨rfl, hk'⟩
  replace hw := hw.call0 hk'
  clear hk'
  refine ⟨_, rfl, ?_⟩
  repeat (first | refine go_run ?_ | (refine go_newP ?_; clear hw; intro p w hw) | (refine go_newWr ?_; clear hw; intro w hw) | (refine go_newS ?_; clear hw; intro s w hw))
  refine st_call rfl cmpC_spec ?_
  rintro _ w' ⟨rfl, hk'⟩
  replace hw := hw.call0 hk'
  clear hk'
  refine ⟨_, rfl, ?_⟩
  repeat (first | refine go_run ?_ | (refine go_newP ?_; clear hw; intro p w hw) | (refine go_newWr ?_; clear hw; intro w hw) | (refine go_newS ?_; clear hw; intro s w hw))
  refine st_buildSlice (T := tInt) [cmpI ea.f eb.f, cmpI ea.h eb.h, cmpI ea.ord eb.ord] [.int .i64 (cmpI ea.f eb.f), .int .i64 (cmpI ea.h eb.h), .int .i64 (cmpI ea.ord eb.ord)] rfl rfl rfl rfl rfl (by decide) (by decide) (by decide) hw ?_
  clear hw
  intro sl w hw
  repeat (first | refine go_run ?_ | (refine go_newP ?_; clear hw; intro p w hw) | (refine go_newWr ?_; clear hw; intro w hw) | (refine go_newS ?_; clear hw; intro s w hw))
  refine st_call rfl (cmpOr_spec (rsO (s := sl) hw)) ?_
  rintro _ w' ⟨rfl, hk'⟩
  replace hw := hw.call0 hk'
  clear hk'
  refine ⟨_, rfl, ?_⟩
  repeat (first | refine go_run ?_ | (refine go_newP ?_; clear hw; intro p w hw) | (refine go_newWr ?_; clear hw; intro w hw) | (refine go_newS ?_; clear hw; intro s w hw))
  exact res_one (v := .bool (decide (orI [cmpI ea.f eb.f, cmpI ea.h eb.h, cmpI ea.ord eb.ord] < 0))) rfl rfl ⟨by rw [elt_or, hea, heb], hw.sel⟩
section
variable {c0 c1 c2 c3 c4 c5 c6 c7 c8 c9 c11 c12 c13 c14 : Value}
set_option maxRecDepth 8000 in
theorem axSwap_spec {w0 w : World} {Γ : List HP} {h : Value} {xs : List Ent} {i j : Nat} {ii jj : Int} (ei : ii = i) (ej : jj = j) (hi : i < xs.length) (hj : j < xs.length) (hw : Sat w0 w (OS tEnt 164 h xs :: Γ)) :
    Calls Tryz.prog 154 #[h, .int .i64 ii, .int .i64 jj] w fun e w' => e = .returned (.tuple #[]) ∧ Sat w0 w' (OS tEnt 164 h (sw tEnt.dflt xs i j) :: Γ) := by
  subst ei ej
  refine calls_of_vc (args := [h, .int .i64 i, .int .i64 j]) mixed Tryz.func154 rfl (by kernel_rfl) (Nat.le_of_ble_eq_true rfl) ?_
  repeat (first | refine go_run ?_ | (refine go_newP ?_; clear hw; intro p w hw) | (refine go_newW ?_; clear hw; intro w hw) | (refine go_newS ?_; clear hw; intro s w hw))
  refine st_elemAgg (s := h) (j := i) (x' := hg tEnt.dflt xs j) rfl rfl rfl rfl hw inferInstance (by omega) ?_
  clear hw
  intro w hw
  have hl : (xs.set i (hg tEnt.dflt xs j)).length = xs.length := by simp
  repeat (first | refine go_run ?_ | (refine go_newP ?_; clear hw; intro p w hw) | (refine go_newW ?_; clear hw; intro w hw) | (refine go_newS ?_; clear hw; intro s w hw))
  refine st_elemAgg (s := h) (j := j) (x' := hg tEnt.dflt xs i) rfl rfl rfl rfl hw inferInstance (by omega) ?_
  clear hw
  intro w hw
  repeat (first | refine go_run ?_ | (refine go_newP ?_; clear hw; intro p w hw) | (refine go_newW ?_; clear hw; intro w hw) | (refine go_newS ?_; clear hw; intro s w hw))
  exact res_none' rfl ⟨rfl, hw⟩
set_option maxRecDepth 8000 in
theorem axPush_spec {w0 w : World} {Γ : List HP} {q : Addr} {h : Value} {xs : List Ent} {v : Ent} (hl : xs.length < 1099511627776) (hw : Sat w0 w (OS tEnt 164 h xs :: Box q 82 [c0, c1, c2, c3, c4, c5, c6, c7, c8, c9, h, c11, c12, c13, c14] :: Γ)) :
    Calls Tryz.prog 168 #[(.pointer (some (q.add 10))), .iface 164 (.agg #[.int .i64 v.f, .int .i64 v.h, .int .i64 v.ord, .int .i64 v.id, .int .i64 v.g])] w fun e w' => e = .returned (.tuple #[]) ∧ ∃ h', Sat w0 w' (OS tEnt 164 h' (xs ++ [v]) :: Box q 82 [c0, c1, c2, c3, c4, c5, c6, c7, c8, c9, h', c11, c12, c13, c14] :: Γ) := by
  refine calls_of_vc (args := [(.pointer (some (q.add 10))), .iface 164 (.agg #[.int .i64 v.f, .int .i64 v.h, .int .i64 v.ord, .int .i64 v.id, .int .i64 v.g])]) mixed Tryz.func168 rfl (by kernel_rfl) (Nat.le_of_ble_eq_true rfl) ?_
  repeat (first | refine go_run ?_ | (refine go_newP ?_; clear hw; intro p w hw) | (refine go_newWr ?_; clear hw; intro w hw) | (refine go_newS ?_; clear hw; intro s w hw))
  refine vc_plan [.op 0, .op 1, .op 2, .op 3, .op 4, .op 5, .op 6, .chk 3, .op 7, .op 8, .op 9] hw (by kernel_rfl) ?_; clear hw; intro w hw
  repeat (first | refine go_run ?_ | (refine go_newP ?_; clear hw; intro p w hw) | (refine go_newWr ?_; clear hw; intro w hw) | (refine go_newS ?_; clear hw; intro s w hw))
  refine st_buildSlice1 tEnt (x1 := v) rfl rfl rfl (Nat.le_of_ble_eq_true rfl) (Nat.zero_lt_succ _) hw ?_
  clear hw
  intro s w hw
  repeat (first | refine go_run ?_ | (refine go_newP ?_; clear hw; intro p w hw) | (refine go_newWr ?_; clear hw; intro w hw) | (refine go_newS ?_; clear hw; intro s w hw))
  exact res_none' rfl ⟨rfl, _, hw.tail⟩
set_option maxRecDepth 8000 in
theorem axPop_spec {w0 w : World} {Γ : List HP} {q : Addr} {h : Value} {xs : List Ent} (hl : 0 < xs.length) (hb : xs.length ≤ 1099511627776) (hw : Sat w0 w (OS tEnt 164 h xs :: Box q 82 [c0, c1, c2, c3, c4, c5, c6, c7, c8, c9, h, c11, c12, c13, c14] :: Γ)) :
    Calls Tryz.prog 167 #[(.pointer (some (q.add 10)))] w fun e w' => e = .returned (.iface 164 ((.agg #[.int .i64 (hg tEnt.dflt xs (xs.length - 1)).f, .int .i64 (hg tEnt.dflt xs (xs.length - 1)).h, .int .i64 (hg tEnt.dflt xs (xs.length - 1)).ord, .int .i64 (hg tEnt.dflt xs (xs.length - 1)).id, .int .i64 (hg tEnt.dflt xs (xs.length - 1)).g]))) ∧ ∃ h', Sat w0 w' (OS tEnt 164 h' (xs.take (xs.length - 1)) :: Box q 82 [c0, c1, c2, c3, c4, c5, c6, c7, c8, c9, h', c11, c12, c13, c14] :: Γ) := by
  refine calls_of_vc (args := [(.pointer (some (q.add 10)))]) mixed Tryz.func167 rfl (by kernel_rfl) (Nat.le_of_ble_eq_true rfl) ?_
  repeat (first | refine go_run ?_ | (refine go_newP ?_; clear hw; intro p w hw) | (refine go_newW ?_; clear hw; intro w hw) | (refine go_newS ?_; clear hw; intro s w hw))
  have hk : (((xs.length : Nat) : Int) - 1).toNat = xs.length - 1 := by omega
  replace hw := Sat.sub (s := h) (xs := xs) hw inferInstance 0 (((xs.length : Nat) : Int) - 1).toNat (by omega) (by omega)
  repeat (first | refine go_run ?_ | (refine go_newP ?_; clear hw; intro p w hw) | (refine go_newW ?_; clear hw; intro w hw) | (refine go_newS ?_; clear hw; intro s w hw))
  refine res_one (v := .iface 164 ((.agg #[.int .i64 (hg tEnt.dflt xs (((xs.length : Nat) : Int) - 1).toNat).f, .int .i64 (hg tEnt.dflt xs (((xs.length : Nat) : Int) - 1).toNat).h, .int .i64 (hg tEnt.dflt xs (((xs.length : Nat) : Int) - 1).toNat).ord, .int .i64 (hg tEnt.dflt xs (((xs.length : Nat) : Int) - 1).toNat).id, .int .i64 (hg tEnt.dflt xs (((xs.length : Nat) : Int) - 1).toNat).g]))) rfl rfl ⟨by rw [hk], ssub h tEnt.sz 0 (((xs.length : Nat) : Int) - 1).toNat, ?_⟩
  have hc : cut xs 0 (((xs.length : Nat) : Int) - 1).toNat = xs.take (xs.length - 1) := by rw [hk]; simp [cut]
  rw [hc] at hw
  exact hw.tail
set_option maxRecDepth 8000 in
theorem axLen_spec {w0 : World} {h : Value} {xs : List Ent} (hx : RS tEnt w0 h xs) :
    Calls Tryz.prog 152 #[h] w0 fun e w' => e = .returned (.int .i64 xs.length) ∧ Sat w0 w' [] := by
  have hw := Sat.start w0
  refine calls_of_vc (args := [h]) mixed Tryz.func152 rfl (by kernel_rfl) (Nat.le_of_ble_eq_true rfl) ?_
  repeat (first | refine go_run ?_ | (refine go_newP ?_; clear hw; intro p w hw) | (refine go_newW ?_; clear hw; intro w hw) | (refine go_newS ?_; clear hw; intro s w hw))
  exact res_one (v := .int .i64 xs.length) rfl rfl ⟨rfl, hw⟩

set_option maxHeartbeats 1000000 in
set_option maxRecDepth 8000 in
theorem axup_spec {w0 w : World} {Γ : List HP} {q : Addr} {h : Value} {xs : List Ent} {j : Nat} {jj : Int} (ej : jj = j) (U : UpI tEnt.dflt elt xs j) (hb : xs.length ≤ 1099511627776) (hw : Sat w0 w (OS tEnt 164 h xs :: Box q 82 [c0, c1, c2, c3, c4, c5, c6, c7, c8, c9, h, c11, c12, c13, c14] :: Γ)) :
    Calls Tryz.prog 98 #[.iface 162 (.pointer (some (q.add 10))), .int .i64 jj] w fun e w' => e = .returned (.tuple #[]) ∧ ∃ ys, IsHeap tEnt.dflt elt ys ∧ ys.Perm xs ∧ Sat w0 w' (OS tEnt 164 h ys :: Box q 82 [c0, c1, c2, c3, c4, c5, c6, c7, c8, c9, h, c11, c12, c13, c14] :: Γ) := by
  subst ej
  refine calls_of_vc (args := [.iface 162 (.pointer (some (q.add 10))), .int .i64 j]) mixed Tryz.func98 rfl (by kernel_rfl) (Nat.le_of_ble_eq_true rfl) ?_
  repeat (first | refine go_run ?_ | (refine go_newP ?_; clear hw; intro p w hw) | (refine go_newW ?_; clear hw; intro w hw) | (refine go_newS ?_; clear hw; intro s w hw))
  refine vc_loop2 [1, 4, 5, 6, 7, 8, 9, 10, 11, 12, 13, 14, 15, 16, 17, 18, 19, 20, 21, 22] (G := Nat) (H := List Ent) (fun j ys => [(1, .int .i64 j)]) (fun j ys w => UpI tEnt.dflt elt ys j ∧ ys.Perm xs ∧ Sat w0 w (OS tEnt 164 h ys :: Box q 82 [c0, c1, c2, c3, c4, c5, c6, c7, c8, c9, h, c11, c12, c13, c14] :: Γ)) (fun j ys => j) j xs (fun _ _ => rfl) ⟨rfl, trivial⟩ ⟨U, .refl _, hw⟩ ?_
  clear hw U
  rintro σ j ys w ⟨U, hp, hw⟩
  have hlt := U.inb
  have hyl := hp.length_eq
  repeat (first | refine go_run ?_ | (refine go_newP ?_; clear hw; intro p w hw) | (refine go_newW ?_; clear hw; intro w hw) | (refine go_newS ?_; clear hw; intro s w hw))
  simp only [tdiv_half]
  by_cases hij : (j - 1) / 2 = j
  · have hdec : decide ((((j - 1) / 2 : Nat) : Int) = (j : Int)) = true := decide_eq_true (by omega)
    simp only [hdec]
    repeat (first | refine go_run ?_ | (refine go_newP ?_; clear hw; intro p w hw) | (refine go_newW ?_; clear hw; intro w hw) | (refine go_newS ?_; clear hw; intro s w hw))
    exact res_none' rfl ⟨rfl, ys, U.done (.inl hij), hp, hw⟩
  · have hdec : decide ((((j - 1) / 2 : Nat) : Int) = (j : Int)) = false := decide_eq_false (by omega)
    simp only [hdec, gvff]
    repeat (first | refine go_run ?_ | (refine go_newP ?_; clear hw; intro p w hw) | (refine go_newW ?_; clear hw; intro w hw) | (refine go_newS ?_; clear hw; intro s w hw))
    refine st_invokeV (u := h) rfl rfl (hw.boxK (k := 10) inferInstance rfl) (axLess_spec (rsO hw) rfl rfl hlt (show (j - 1) / 2 < ys.length by omega)) ?_
    rintro _ w' ⟨rfl, hk⟩
    replace hw := hw.call0 hk
    clear hk
    cases hL : elt (hg tEnt.dflt ys j) (hg tEnt.dflt ys ((j - 1) / 2)) with
    | false =>
      refine ⟨_, rfl, ?_⟩
      repeat (first | refine go_run ?_ | (refine go_newP ?_; clear hw; intro p w hw) | (refine go_newW ?_; clear hw; intro w hw) | (refine go_newS ?_; clear hw; intro s w hw))
      exact res_none' rfl ⟨rfl, ys, U.done (.inr hL), hp, hw⟩
    | true =>
      refine ⟨_, rfl, ?_⟩
      repeat (first | refine go_run ?_ | (refine go_newP ?_; clear hw; intro p w hw) | (refine go_newW ?_; clear hw; intro w hw) | (refine go_newS ?_; clear hw; intro s w hw))
      refine st_invokeV (u := h) rfl rfl (hw.boxK (k := 10) inferInstance rfl) (axSwap_spec rfl rfl (show (j - 1) / 2 < ys.length by omega) hlt hw) ?_
      clear hw
      rintro _ w ⟨rfl, hw⟩
      refine ⟨_, rfl, ?_⟩
      repeat (first | refine go_run ?_ | (refine go_newP ?_; clear hw; intro p w hw) | (refine go_newW ?_; clear hw; intro w hw) | (refine go_newS ?_; clear hw; intro s w hw))
      exact ⟨(j - 1) / 2, _, ⟨rfl, trivial⟩, by repeat (first | exact agree_refl | (apply agree_upd rfl) | (apply agree_mix rfl) | (apply agree_sets rfl)), ⟨U.step hij hL, (sw_perm (by omega) hlt).trans hp, hw⟩, by omega⟩


set_option maxHeartbeats 2000000 in
set_option maxRecDepth 8000 in
theorem axdown_spec {w0 w : World} {Γ : List HP} {q : Addr} {h : Value} {xs : List Ent} {n : Nat} {nn : Int} (en : nn = n) (D : DnI tEnt.dflt elt xs n 0) (hb : xs.length ≤ 1099511627776) (hw : Sat w0 w (OS tEnt 164 h xs :: Box q 82 [c0, c1, c2, c3, c4, c5, c6, c7, c8, c9, h, c11, c12, c13, c14] :: Γ)) :
    Calls Tryz.prog 99 #[.iface 162 (.pointer (some (q.add 10))), .int .i64 0, .int .i64 nn] w fun e w' => ∃ b ys, e = .returned (.bool b) ∧ HeapN tEnt.dflt elt ys n ∧ ys.Perm xs ∧ (∀ k, n ≤ k → hg tEnt.dflt ys k = hg tEnt.dflt xs k) ∧ Sat w0 w' (OS tEnt 164 h ys :: Box q 82 [c0, c1, c2, c3, c4, c5, c6, c7, c8, c9, h, c11, c12, c13, c14] :: Γ) := by
  subst en
  refine calls_of_vc (args := [.iface 162 (.pointer (some (q.add 10))), .int .i64 0, .int .i64 n]) mixed Tryz.func99 rfl (by kernel_rfl) (Nat.le_of_ble_eq_true rfl) ?_
  repeat (first | refine go_run ?_ | (refine go_newP ?_; clear hw; intro p w hw) | (refine go_newW ?_; clear hw; intro w hw) | (refine go_newS ?_; clear hw; intro s w hw))
  refine vc_loop2 [7, 8, 9, 10, 12, 13, 14, 15, 16, 17, 18, 19, 20, 21, 22, 23, 24, 25, 26, 27, 28, 29, 30, 31, 32, 33, 34, 35, 36, 37, 38, 39, 40, 41, 42, 43, 44] (G := Nat) (H := List Ent) (fun i ys => [(7, .int .i64 i)]) (fun i ys w => DnI tEnt.dflt elt ys n i ∧ i ≤ n ∧ ys.Perm xs ∧ (∀ k, n ≤ k → hg tEnt.dflt ys k = hg tEnt.dflt xs k) ∧ Sat w0 w (OS tEnt 164 h ys :: Box q 82 [c0, c1, c2, c3, c4, c5, c6, c7, c8, c9, h, c11, c12, c13, c14] :: Γ)) (fun i ys => n - i) 0 xs (fun _ _ => rfl) ⟨rfl, trivial⟩ ⟨D, Nat.zero_le _, .refl _, fun _ _ => rfl, hw⟩ ?_
  clear hw D
  rintro σ i ys w ⟨D, hin, hp, hkeep, hw⟩
  have hle1 := D.le
  have hyl := hp.length_eq
  repeat (first | refine go_run ?_ | (refine go_newP ?_; clear hw; intro p w hw) | (refine go_newW ?_; clear hw; intro w hw) | (refine go_newS ?_; clear hw; intro s w hw))
  refine go_if (fun h1 => ?_) (fun h1 => ?_)
  · repeat (first | refine go_run ?_ | (refine go_newP ?_; clear hw; intro p w hw) | (refine go_newW ?_; clear hw; intro w hw) | (refine go_newS ?_; clear hw; intro s w hw))
    exact res_one (v := .bool _) rfl rfl ⟨_, ys, rfl, D.leaf (by omega), hp, hkeep, hw⟩
  · have hin' : 2 * i + 1 < n := by omega
    repeat (first | refine go_run ?_ | (refine go_newP ?_; clear hw; intro p w hw) | (refine go_newW ?_; clear hw; intro w hw) | (refine go_newS ?_; clear hw; intro s w hw))
    by_cases h2 : 2 * i + 2 < n
    · have hdec : decide (2 * (i : Int) + 1 + 1 < (n : Int)) = true := decide_eq_true (by omega)
      simp only [hdec, gvtt]
      repeat (first | refine go_run ?_ | (refine go_newP ?_; clear hw; intro p w hw) | (refine go_newW ?_; clear hw; intro w hw) | (refine go_newS ?_; clear hw; intro s w hw))
      refine st_invokeV (u := h) rfl rfl (hw.boxK (k := 10) inferInstance rfl) (axLess_spec (i := 2 * i + 2) (j := 2 * i + 1) (rsO hw) (by omega) (by omega) (by omega) (by omega)) ?_
      rintro _ w' ⟨rfl, hk⟩
      replace hw := hw.call0 hk
      clear hk
      cases hL : elt (hg tEnt.dflt ys (2 * i + 2)) (hg tEnt.dflt ys (2 * i + 1)) with
      | true =>
        refine ⟨_, rfl, ?_⟩
        repeat (first | refine go_runC ?_ | (refine go_newP ?_; clear hw; intro p w hw) | (refine go_newW ?_; clear hw; intro w hw) | (refine go_newS ?_; clear hw; intro s w hw))
        refine vc_cut [9, 34] (G := Nat) (fun j => [(9, .int .i64 j)]) (fun j w => (j = 2 * i + 1 ∨ j = 2 * i + 2) ∧ j < n ∧ (∀ c, 0 < c → c < n → (c - 1) / 2 = i → hle elt (hg tEnt.dflt ys j) (hg tEnt.dflt ys c)) ∧ Sat w0 w (OS tEnt 164 h ys :: Box q 82 [c0, c1, c2, c3, c4, c5, c6, c7, c8, c9, h, c11, c12, c13, c14] :: Γ)) (fun _ => rfl) ?_ ?_
        · repeat (first | refine go_run ?_ | (refine go_newP ?_; clear hw; intro p w hw) | (refine go_newW ?_; clear hw; intro w hw) | (refine go_newS ?_; clear hw; intro s w hw))
          refine ⟨2 * i + 2, ⟨?_, trivial⟩, by repeat (first | exact agree_refl | (apply agree_upd rfl) | (apply agree_mix rfl) | (apply agree_sets rfl)), .inr rfl, h2, fun c h0 h1 hc => ?_, hw⟩
          · show Value.int .i64 (2 * (i : Int) + 1 + 1) = _
            congr 1
          · have : c = 2 * i + 1 ∨ c = 2 * i + 2 := by omega
            rcases this with rfl | rfl
            · exact hle_of hL
            · exact hle_refl _
        · clear hw
          rintro σ1 j w ⟨hj, hjn, hmin, hw⟩
          repeat (first | refine go_run ?_ | (refine go_newP ?_; clear hw; intro p w hw) | (refine go_newW ?_; clear hw; intro w hw) | (refine go_newS ?_; clear hw; intro s w hw))
          refine st_invokeV (u := h) rfl rfl (hw.boxK (k := 10) inferInstance rfl) (axLess_spec (rsO hw) rfl rfl (show j < ys.length by omega) (show i < ys.length by omega)) ?_
          rintro _ w' ⟨rfl, hk⟩
          replace hw := hw.call0 hk
          clear hk
          cases hL : elt (hg tEnt.dflt ys j) (hg tEnt.dflt ys i) with
          | false =>
            refine ⟨_, rfl, ?_⟩
            repeat (first | refine go_run ?_ | (refine go_newP ?_; clear hw; intro p w hw) | (refine go_newW ?_; clear hw; intro w hw) | (refine go_newS ?_; clear hw; intro s w hw))
            exact res_one (v := .bool _) rfl rfl ⟨_, ys, rfl, D.done hmin hL, hp, hkeep, hw⟩
          | true =>
            refine ⟨_, rfl, ?_⟩
            repeat (first | refine go_run ?_ | (refine go_newP ?_; clear hw; intro p w hw) | (refine go_newW ?_; clear hw; intro w hw) | (refine go_newS ?_; clear hw; intro s w hw))
            refine st_invokeV (u := h) rfl rfl (hw.boxK (k := 10) inferInstance rfl) (axSwap_spec rfl rfl (show i < ys.length by omega) (show j < ys.length by omega) hw) ?_
            clear hw
            rintro _ w ⟨rfl, hw⟩
            refine ⟨_, rfl, ?_⟩
            repeat (first | refine go_run ?_ | (refine go_newP ?_; clear hw; intro p w hw) | (refine go_newW ?_; clear hw; intro w hw) | (refine go_newS ?_; clear hw; intro s w hw))
            refine ⟨j, _, ⟨rfl, trivial⟩, by repeat (first | exact agree_refl | (apply agree_upd rfl) | (apply agree_mix rfl) | (apply agree_sets rfl)), ⟨D.step hj hjn hmin hL, by omega, (sw_perm (by omega) (by omega)).trans hp, fun k hk => ?_, hw⟩, by omega⟩
            rw [sw_get (by omega) (by omega), if_neg (by omega), if_neg (by omega)]
            exact hkeep k hk
      | false =>
        refine ⟨_, rfl, ?_⟩
        repeat (first | refine go_runC ?_ | (refine go_newP ?_; clear hw; intro p w hw) | (refine go_newW ?_; clear hw; intro w hw) | (refine go_newS ?_; clear hw; intro s w hw))
        refine vc_cut [9, 34] (G := Nat) (fun j => [(9, .int .i64 j)]) (fun j w => (j = 2 * i + 1 ∨ j = 2 * i + 2) ∧ j < n ∧ (∀ c, 0 < c → c < n → (c - 1) / 2 = i → hle elt (hg tEnt.dflt ys j) (hg tEnt.dflt ys c)) ∧ Sat w0 w (OS tEnt 164 h ys :: Box q 82 [c0, c1, c2, c3, c4, c5, c6, c7, c8, c9, h, c11, c12, c13, c14] :: Γ)) (fun _ => rfl) ?_ ?_
        · repeat (first | refine go_run ?_ | (refine go_newP ?_; clear hw; intro p w hw) | (refine go_newW ?_; clear hw; intro w hw) | (refine go_newS ?_; clear hw; intro s w hw))
          refine ⟨2 * i + 1, ⟨?_, trivial⟩, by repeat (first | exact agree_refl | (apply agree_upd rfl) | (apply agree_mix rfl) | (apply agree_sets rfl)), .inl rfl, hin', fun c h0 h1 hc => ?_, hw⟩
          · show Value.int .i64 (2 * (i : Int) + 1) = _
            congr 1
          · have : c = 2 * i + 1 ∨ c = 2 * i + 2 := by omega
            rcases this with rfl | rfl
            · exact hle_refl _
            · exact hL
        · clear hw
          rintro σ1 j w ⟨hj, hjn, hmin, hw⟩
          repeat (first | refine go_run ?_ | (refine go_newP ?_; clear hw; intro p w hw) | (refine go_newW ?_; clear hw; intro w hw) | (refine go_newS ?_; clear hw; intro s w hw))
          refine st_invokeV (u := h) rfl rfl (hw.boxK (k := 10) inferInstance rfl) (axLess_spec (rsO hw) rfl rfl (show j < ys.length by omega) (show i < ys.length by omega)) ?_
          rintro _ w' ⟨rfl, hk⟩
          replace hw := hw.call0 hk
          clear hk
          cases hL : elt (hg tEnt.dflt ys j) (hg tEnt.dflt ys i) with
          | false =>
            refine ⟨_, rfl, ?_⟩
            repeat (first | refine go_run ?_ | (refine go_newP ?_; clear hw; intro p w hw) | (refine go_newW ?_; clear hw; intro w hw) | (refine go_newS ?_; clear hw; intro s w hw))
            exact res_one (v := .bool _) rfl rfl ⟨_, ys, rfl, D.done hmin hL, hp, hkeep, hw⟩
          | true =>
            refine ⟨_, rfl, ?_⟩
            repeat (first | refine go_run ?_ | (refine go_newP ?_; clear hw; intro p w hw) | (refine go_newW ?_; clear hw; intro w hw) | (refine go_newS ?_; clear hw; intro s w hw))
            refine st_invokeV (u := h) rfl rfl (hw.boxK (k := 10) inferInstance rfl) (axSwap_spec rfl rfl (show i < ys.length by omega) (show j < ys.length by omega) hw) ?_
            clear hw
            rintro _ w ⟨rfl, hw⟩
            refine ⟨_, rfl, ?_⟩
            repeat (first | refine go_run ?_ | (refine go_newP ?_; clear hw; intro p w hw) | (refine go_newW ?_; clear hw; intro w hw) | (refine go_newS ?_; clear hw; intro s w hw))
            refine ⟨j, _, ⟨rfl, trivial⟩, by repeat (first | exact agree_refl | (apply agree_upd rfl) | (apply agree_mix rfl) | (apply agree_sets rfl)), ⟨D.step hj hjn hmin hL, by omega, (sw_perm (by omega) (by omega)).trans hp, fun k hk => ?_, hw⟩, by omega⟩
            rw [sw_get (by omega) (by omega), if_neg (by omega), if_neg (by omega)]
            exact hkeep k hk
    · have hdec : decide (2 * (i : Int) + 1 + 1 < (n : Int)) = false := decide_eq_false (by omega)
      simp only [hdec]
      repeat (first | refine go_runC ?_ | (refine go_newP ?_; clear hw; intro p w hw) | (refine go_newW ?_; clear hw; intro w hw) | (refine go_newS ?_; clear hw; intro s w hw))
      refine vc_cut [9, 34] (G := Nat) (fun j => [(9, .int .i64 j)]) (fun j w => (j = 2 * i + 1 ∨ j = 2 * i + 2) ∧ j < n ∧ (∀ c, 0 < c → c < n → (c - 1) / 2 = i → hle elt (hg tEnt.dflt ys j) (hg tEnt.dflt ys c)) ∧ Sat w0 w (OS tEnt 164 h ys :: Box q 82 [c0, c1, c2, c3, c4, c5, c6, c7, c8, c9, h, c11, c12, c13, c14] :: Γ)) (fun _ => rfl) ?_ ?_
      · repeat (first | refine go_run ?_ | (refine go_newP ?_; clear hw; intro p w hw) | (refine go_newW ?_; clear hw; intro w hw) | (refine go_newS ?_; clear hw; intro s w hw))
        refine ⟨2 * i + 1, ⟨?_, trivial⟩, by repeat (first | exact agree_refl | (apply agree_upd rfl) | (apply agree_mix rfl) | (apply agree_sets rfl)), .inl rfl, hin', fun c h0 h1 hc => ?_, hw⟩
        · show Value.int .i64 (2 * (i : Int) + 1) = _
          congr 1
        · have : c = 2 * i + 1 := by omega
          subst this; exact hle_refl _
      · clear hw
        rintro σ1 j w ⟨hj, hjn, hmin, hw⟩
        repeat (first | refine go_run ?_ | (refine go_newP ?_; clear hw; intro p w hw) | (refine go_newW ?_; clear hw; intro w hw) | (refine go_newS ?_; clear hw; intro s w hw))
        refine st_invokeV (u := h) rfl rfl (hw.boxK (k := 10) inferInstance rfl) (axLess_spec (rsO hw) rfl rfl (show j < ys.length by omega) (show i < ys.length by omega)) ?_
        rintro _ w' ⟨rfl, hk⟩
        replace hw := hw.call0 hk
        clear hk
        cases hL : elt (hg tEnt.dflt ys j) (hg tEnt.dflt ys i) with
        | false =>
          refine ⟨_, rfl, ?_⟩
          repeat (first | refine go_run ?_ | (refine go_newP ?_; clear hw; intro p w hw) | (refine go_newW ?_; clear hw; intro w hw) | (refine go_newS ?_; clear hw; intro s w hw))
          exact res_one (v := .bool _) rfl rfl ⟨_, ys, rfl, D.done hmin hL, hp, hkeep, hw⟩
        | true =>
          refine ⟨_, rfl, ?_⟩
          repeat (first | refine go_run ?_ | (refine go_newP ?_; clear hw; intro p w hw) | (refine go_newW ?_; clear hw; intro w hw) | (refine go_newS ?_; clear hw; intro s w hw))
          refine st_invokeV (u := h) rfl rfl (hw.boxK (k := 10) inferInstance rfl) (axSwap_spec rfl rfl (show i < ys.length by omega) (show j < ys.length by omega) hw) ?_
          clear hw
          rintro _ w ⟨rfl, hw⟩
          refine ⟨_, rfl, ?_⟩
          repeat (first | refine go_run ?_ | (refine go_newP ?_; clear hw; intro p w hw) | (refine go_newW ?_; clear hw; intro w hw) | (refine go_newS ?_; clear hw; intro s w hw))
          refine ⟨j, _, ⟨rfl, trivial⟩, by repeat (first | exact agree_refl | (apply agree_upd rfl) | (apply agree_mix rfl) | (apply agree_sets rfl)), ⟨D.step hj hjn hmin hL, by omega, (sw_perm (by omega) (by omega)).trans hp, fun k hk => ?_, hw⟩, by omega⟩
          rw [sw_get (by omega) (by omega), if_neg (by omega), if_neg (by omega)]
          exact hkeep k hk

set_option maxRecDepth 8000 in
theorem axheapPush_spec {w0 w : World} {Γ : List HP} {q : Addr} {h : Value} {xs : List Ent} {v : Ent} (H : IsHeap tEnt.dflt elt xs) (hb : xs.length < 1099511627776) (hw : Sat w0 w (OS tEnt 164 h xs :: Box q 82 [c0, c1, c2, c3, c4, c5, c6, c7, c8, c9, h, c11, c12, c13, c14] :: Γ)) :
    Calls Tryz.prog 83 #[.iface 162 (.pointer (some (q.add 10))), .iface 164 (.agg #[.int .i64 v.f, .int .i64 v.h, .int .i64 v.ord, .int .i64 v.id, .int .i64 v.g])] w fun e w' => e = .returned (.tuple #[]) ∧ ∃ h' ys, IsHeap tEnt.dflt elt ys ∧ ys.Perm (v :: xs) ∧ Sat w0 w' (OS tEnt 164 h' ys :: Box q 82 [c0, c1, c2, c3, c4, c5, c6, c7, c8, c9, h', c11, c12, c13, c14] :: Γ) := by
  refine calls_of_vc (args := [.iface 162 (.pointer (some (q.add 10))), .iface 164 (.agg #[.int .i64 v.f, .int .i64 v.h, .int .i64 v.ord, .int .i64 v.id, .int .i64 v.g])]) mixed Tryz.func83 rfl (by kernel_rfl) (Nat.le_of_ble_eq_true rfl) ?_
  repeat (first | refine go_run ?_ | (refine go_newP ?_; clear hw; intro p w hw) | (refine go_newW ?_; clear hw; intro w hw) | (refine go_newS ?_; clear hw; intro s w hw))
  refine st_invokeP rfl rfl (axPush_spec (v := v) (by omega) hw) ?_
  clear hw
  rintro _ w ⟨rfl, h', hw⟩
  refine ⟨_, rfl, ?_⟩
  repeat (first | refine go_run ?_ | (refine go_newP ?_; clear hw; intro p w hw) | (refine go_newW ?_; clear hw; intro w hw) | (refine go_newS ?_; clear hw; intro s w hw))
  refine st_invokeV (u := h') rfl rfl (hw.boxK (k := 10) inferInstance rfl) (axLen_spec (rsO hw)) ?_
  rintro _ w' ⟨rfl, hk⟩
  replace hw := hw.call0 hk
  clear hk
  refine ⟨_, rfl, ?_⟩
  have hl : (xs ++ [v]).length = xs.length + 1 := by simp
  repeat (first | refine go_run ?_ | (refine go_newP ?_; clear hw; intro p w hw) | (refine go_newW ?_; clear hw; intro w hw) | (refine go_newS ?_; clear hw; intro s w hw))
  refine st_call rfl (axup_spec (j := xs.length) (by rw [hl]; omega) (upI_push H) (by omega) hw) ?_
  clear hw
  rintro _ w ⟨rfl, ys, h1, h2, hw⟩
  refine ⟨_, rfl, ?_⟩
  repeat (first | refine go_run ?_ | (refine go_newP ?_; clear hw; intro p w hw) | (refine go_newW ?_; clear hw; intro w hw) | (refine go_newS ?_; clear hw; intro s w hw))
  exact res_none' rfl ⟨rfl, h', ys, h1, h2.trans (List.perm_append_comm (l₁ := xs) (l₂ := [v])), hw⟩

set_option maxRecDepth 8000 in
theorem axheapPop_spec {w0 w : World} {Γ : List HP} {q : Addr} {h : Value} {xs : List Ent} (H : IsHeap tEnt.dflt elt xs) (hl : 0 < xs.length) (hb : xs.length ≤ 1099511627776) (hw : Sat w0 w (OS tEnt 164 h xs :: Box q 82 [c0, c1, c2, c3, c4, c5, c6, c7, c8, c9, h, c11, c12, c13, c14] :: Γ)) :
    Calls Tryz.prog 84 #[.iface 162 (.pointer (some (q.add 10)))] w fun e w' => ∃ v h' ys, e = .returned (.iface 164 (.agg #[.int .i64 v.f, .int .i64 v.h, .int .i64 v.ord, .int .i64 v.id, .int .i64 v.g])) ∧ IsHeap tEnt.dflt elt ys ∧ xs.Perm (v :: ys) ∧ (∀ x ∈ xs, hle elt v x) ∧ Sat w0 w' (OS tEnt 164 h' ys :: Box q 82 [c0, c1, c2, c3, c4, c5, c6, c7, c8, c9, h', c11, c12, c13, c14] :: Γ) := by
  refine calls_of_vc (args := [.iface 162 (.pointer (some (q.add 10)))]) mixed Tryz.func84 rfl (by kernel_rfl) (Nat.le_of_ble_eq_true rfl) ?_
  repeat (first | refine go_run ?_ | (refine go_newP ?_; clear hw; intro p w hw) | (refine go_newW ?_; clear hw; intro w hw) | (refine go_newS ?_; clear hw; intro s w hw))
  refine st_invokeV (u := h) rfl rfl (hw.boxK (k := 10) inferInstance rfl) (axLen_spec (rsO hw)) ?_
  rintro _ w' ⟨rfl, hk⟩
  replace hw := hw.call0 hk
  clear hk
  refine ⟨_, rfl, ?_⟩
  repeat (first | refine go_run ?_ | (refine go_newP ?_; clear hw; intro p w hw) | (refine go_newW ?_; clear hw; intro w hw) | (refine go_newS ?_; clear hw; intro s w hw))
  refine st_invokeV (u := h) rfl rfl (hw.boxK (k := 10) inferInstance rfl) (axSwap_spec (i := 0) (j := xs.length - 1) rfl (by omega) hl (by omega) hw) ?_
  clear hw
  rintro _ w ⟨rfl, hw⟩
  refine ⟨_, rfl, ?_⟩
  repeat (first | refine go_run ?_ | (refine go_newP ?_; clear hw; intro p w hw) | (refine go_newW ?_; clear hw; intro w hw) | (refine go_newS ?_; clear hw; intro s w hw))
  refine st_call rfl (axdown_spec (n := xs.length - 1) (by omega) (dnI_pop H hl) (by rw [sw_len]; exact hb) hw) ?_
  clear hw
  rintro _ w ⟨b, ys, rfl, h1, h2, h3, hw⟩
  have hp := h2.trans (sw_perm hl (show xs.length - 1 < xs.length by omega))
  have hyl := hp.length_eq
  refine ⟨_, rfl, ?_⟩
  repeat (first | refine go_run ?_ | (refine go_newP ?_; clear hw; intro p w hw) | (refine go_newW ?_; clear hw; intro w hw) | (refine go_newS ?_; clear hw; intro s w hw))
  refine st_invokeP rfl rfl (axPop_spec (by omega) (by omega) hw) ?_
  clear hw
  rintro _ w ⟨rfl, h', hw⟩
  refine ⟨_, rfl, ?_⟩
  repeat (first | refine go_run ?_ | (refine go_newP ?_; clear hw; intro p w hw) | (refine go_newW ?_; clear hw; intro w hw) | (refine go_newS ?_; clear hw; intro s w hw))
  have hlast : hg tEnt.dflt ys (xs.length - 1) = hg tEnt.dflt xs 0 := by
    rw [h3 _ (Nat.le_refl _), sw_get hl (by omega), if_pos rfl]
  obtain ⟨hh, hpp⟩ := pop_rest hl hp h1 hlast
  rw [hyl] at hw
  refine res_one (v := .iface 164 ((.agg #[.int .i64 (hg tEnt.dflt ys (ys.length - 1)).f, .int .i64 (hg tEnt.dflt ys (ys.length - 1)).h, .int .i64 (hg tEnt.dflt ys (ys.length - 1)).ord, .int .i64 (hg tEnt.dflt ys (ys.length - 1)).id, .int .i64 (hg tEnt.dflt ys (ys.length - 1)).g]))) rfl rfl ⟨hg tEnt.dflt xs 0, h', _, by rw [hyl, hlast], hh, hpp, fun x hx => root_mem H hx, hw⟩
end
end Go.Proofs.YtegndanecnicaaaGreat
