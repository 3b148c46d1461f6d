/-
  Several texts as one: WEst, WSucC, WEst2, WTStates.
-/
import Derived.Test.YtkmbenhffledpaaGreatMW3
import Derived.Test.YtkmbenhffledpaaGreatMTA
import Derived.Test.YtkmbenhffledpaaGreatMSlB
import Derived.Test.YtkmbenhffledpaaGreatMW1
set_option linter.unusedSimpArgs false
set_option linter.unusedVariables false

/-
  Contract of 'estimate.copied': a task that shares no memory with another one.
-/
namespace Go.Proofs.YtkmbenhffledpaaGreat
open Go.Sl Go
attribute [local irreducible] vc opsW opsD opV opW PureV ReadV Thn Blk
set_option maxRecDepth 8000 in
theorem facts_spec {w0 : World} {a : Value} {xs : List Fact} (ha : RS tFact w0 a xs) (hn : xs.length ≤ 1099511627776) :
    Calls Tryz.prog 55 #[a] w0 fun e w' => ∃ s, e = .returned s ∧ Sat w0 w' [OS tFact 77 s xs] := by
  have hw := Sat.start w0
  refine calls_of_vc (args := [a]) mixed Tryz.func55 rfl (by kernel_rfl) (Nat.le_of_ble_eq_true rfl) ?_
  repeat (first | refine go_run ?_ | (refine go_newP ?_; clear hw; intro p w hw) | (refine go_newW ?_; clear hw; intro w hw) | (refine go_newS ?_; clear hw; intro s w hw))
  refine st_call rfl (CloneF_spec ha hn) ?_
  rintro _ w' ⟨s, rfl, hk'⟩
  replace hw := hw.call1 hk'
  clear hk'
  refine ⟨_, rfl, ?_⟩
  repeat (first | refine go_run ?_ | (refine go_newP ?_; clear hw; intro p w hw) | (refine go_newW ?_; clear hw; intro w hw) | (refine go_newS ?_; clear hw; intro s w hw))
  exact res_one (v := s) rfl rfl ⟨_, rfl, hw⟩
/-- The first j conditions are copied. -/
structure EffI (E : List Eff) (us : List EffV) (j : Nat) (es : List EffV) : Prop where
  len : es.length = E.length
  fld : ∀ i, i < E.length → (eget tEff es i).var = (E.getD i dEff).var ∧ (eget tEff es i).val = (E.getD i dEff).val
  old : ∀ i, j ≤ i → i < E.length → (eget tEff es i).when = (eget tEff us i).when
def EffW (E : List Eff) (j : Nat) (es : List EffV) (w : World) : Prop := ∀ i, i < j → RS tFact w (eget tEff es i).when (E.getD i dEff).when
theorem eget_set {α : Type} {T : Ty α} {xs : List α} {i j : Nat} {x : α} (hj : j < xs.length) : eget T (xs.set j x) i = if i = j then x else eget T xs i := by
  rw [eget_eq, eget_eq]
  by_cases e : i = j
  · subst e; rw [if_pos rfl]; simp [List.getD, hj]
  · rw [if_neg e]; simp only [List.getD]; rw [List.getElem?_set_ne (fun h => e h.symm)]
theorem EffI.step {E : List Eff} {us es : List EffV} {j : Nat} (h : EffI E us j es) (hj : j < E.length) {s : Value} : EffI E us (j + 1) (es.set j ⟨s, (eget tEff es j).var, (eget tEff es j).val⟩) := by
  have hl := h.len
  refine ⟨by simp [hl], fun i hi => ?_, fun i hi hi2 => ?_⟩
  · rw [eget_set (by omega)]
    split
    · rename_i e; rw [e]; exact h.fld j hj
    · exact h.fld i hi
  · rw [eget_set (by omega), if_neg (by omega)]
    exact h.old i (by omega) hi2
theorem EffW.step {E : List Eff} {es : List EffV} {j : Nat} {w : World} (h : EffW E j es w) (hj : j < es.length) {s : Value} {a b : Int} (hs : RS tFact w s (E.getD j dEff).when) : EffW E (j + 1) (es.set j ⟨s, a, b⟩) w := fun i hi => by
  rw [eget_set hj]
  split
  · rename_i e; subst e; exact hs
  · exact h i (by omega)
/-- The first k operators are copied. -/
def OpsF (t : TTask) (k : Nat) (ws : List OpV) (w : World) : Prop := ∀ i, i < k → ROp w (eget tOp ws i) (t.ops.getD i dOp)
theorem eget_app {α : Type} {T : Ty α} {xs : List α} {x : α} {i : Nat} : eget T (xs ++ [x]) i = if i < xs.length then eget T xs i else if i = xs.length then x else T.dflt := by
  rw [eget_eq, eget_eq]
  by_cases h : i < xs.length
  · rw [if_pos h]; simp [List.getD_eq_getElem?_getD, List.getElem?_append_left h]
  · rw [if_neg h]
    by_cases e : i = xs.length
    · subst e; rw [if_pos rfl]; simp [List.getD_eq_getElem?_getD]
    · rw [if_neg e]; simp [List.getD_eq_getElem?_getD, List.getElem?_append_right (Nat.le_of_not_lt h), List.getElem?_cons, show ¬ i - xs.length = 0 by omega]
theorem OpsF.step {t : TTask} {k : Nat} {ws : List OpV} {w : World} {v : OpV} (h : OpsF t k ws w) (hl : ws.length = k) (hv : ROp w v (t.ops.getD k dOp)) : OpsF t (k + 1) (ws ++ [v]) w := fun i hi => by
  rw [eget_app]
  by_cases e : i < k
  · rw [if_pos (by omega)]; exact h i e
  · have e2 : i = k := by omega
    rw [if_neg (by omega), if_pos (by omega), e2]; exact hv
theorem reffs_ones {w : World} {s : Value} {us : List EffV} {E : List Eff} (h : REffs w s us E) : ∀ x ∈ us, ∀ v ∈ tEff.enc x, v.oneCell' = true := fun x hx v hv => by
  obtain ⟨i, hi, rfl⟩ := List.getElem_of_mem hx
  have h1 := (h.at_ i (by have := h.len; omega)).one
  rw [eget_eq, getD_at hi] at h1
  exact List.all_eq_true.1 h1 v hv
def HeadF (t : TTask) (a b c : Value) (w : World) : Prop := RS tInt w a t.vars ∧ RS tInt w b t.init ∧ RS tFact w c t.goal
set_option maxRecDepth 8000 in
set_option maxHeartbeats 4000000 in
theorem copied_spec {w0 : World} {a b c d : Value} {vs : List OpV} {t : TTask} (ht : RTask w0 a b c d vs t) (hg : GoodT t) :
    Calls Tryz.prog 69 #[.agg #[a, b, c, d]] w0 fun e w' => ∃ a2 b2 c2 d2 vs2, e = .returned (.agg #[a2, b2, c2, d2]) ∧ Sat w0 w' [RdH fun w => RTask w a2 b2 c2 d2 vs2 t] := by
  have ht' := ht
  obtain ⟨ha, hb, hc, hd⟩ := ht
  have hdr := hd.rs
  have hdl := hd.len
  have hol := hg.ops
  have hvl := hg.vars
  have hil := hg.init.1
  have hgl := facts_len hg.goal
  have hw := Sat.start w0
  refine calls_of_vc (args := [.agg #[a, b, c, d]]) mixed Tryz.func69 rfl (by kernel_rfl) (Nat.le_of_ble_eq_true rfl) ?_
  refine vc_seq ?_
  refine vc_region ?_
  refine go_box ?_
  clear hw
  intro pt w hw
  replace hw : Sat w0 w [Box pt 26 [a, b, c, d]] := hw
  refine go_alloc ?_
  clear hw
  intro pr w hw
  repeat (first | refine go_run ?_ | (refine go_newP ?_; clear hw; intro p w hw) | (refine go_newWr ?_; clear hw; intro w hw) | (refine go_newS ?_; clear hw; intro s w hw))
  refine vc_cut [7, 8, 9, 10, 11, 12, 13, 14, 15, 16, 3] (G := Addr × Value × Value × Value) (fun g => [(3, .pointer (some g.1))]) (fun g w => Sat w0 w [Box g.1 26 [g.2.1, g.2.2.1, g.2.2.2, .slice none 0 0], OS tInt 3 g.2.1 t.vars, OS tInt 3 g.2.2.1 t.init, OS tFact 77 g.2.2.2 t.goal, Box pr 26 [.slice none 0 0, .slice none 0 0, .slice none 0 0, .slice none 0 0], Box pt 26 [a, b, c, d]]) (fun _ => rfl) ?_ ?_
  · refine vc_tree (.step 0 [.op 0] (.step 3 [.op 3] (.step 6 [.op 6] (.step 1 [.op 1] (.step 4 [.op 4] (.step 7 [.op 7] (.alt 2 [.op 2, .chk 4, .chk 7] (.alt 5 [.op 5, .chk 7] (.alt 8 [.op 8] (.alt 9 [.op 9] (.step 10 [.op 10, .chk 1, .chk 4, .chk 7] (.step 11 [.op 11] (.lin []))) (.alt 10 [.op 10, .chk 1, .chk 4, .chk 7] (.step 9 [.op 9] (.step 11 [.op 11] (.lin []))) (.stop))) (.alt 10 [.op 10, .chk 1, .chk 4, .chk 7] (.step 8 [.op 8] (.step 9 [.op 9] (.step 11 [.op 11] (.lin [])))) (.stop))) (.alt 10 [.op 10, .chk 1, .chk 4, .chk 7] (.step 5 [.op 5, .chk 7] (.step 8 [.op 8] (.step 9 [.op 9] (.step 11 [.op 11] (.lin []))))) (.stop))) (.alt 10 [.op 10, .chk 1, .chk 4, .chk 7] (.step 2 [.op 2, .chk 4, .chk 7] (.step 5 [.op 5, .chk 7] (.step 8 [.op 8] (.step 9 [.op 9] (.step 11 [.op 11] (.lin [])))))) (.stop))))))))) hw (by kernel_rfl) (by kernel_rfl) ?_; clear hw; intro w hw
    repeat (first | refine go_run ?_ | (refine go_newP ?_; clear hw; intro p w hw) | (refine go_newWr ?_; clear hw; intro w hw) | (refine go_newS ?_; clear hw; intro s w hw))
    refine opsT_alt ?_ (opsT_alt ?_ opsT_stop)
    · repeat (first | refine go_run ?_ | (refine go_newP ?_; clear hw; intro p w hw) | (refine go_newWr ?_; clear hw; intro w hw) | (refine go_newS ?_; clear hw; intro s w hw))
      refine st_call rfl (Clone_spec (ha.at hw) (by omega)) ?_
      rintro _ w' ⟨a2, rfl, hk'⟩
      replace hw := hw.call1 hk'
      clear hk'
      refine ⟨_, rfl, ?_⟩
      repeat (first | refine go_run ?_ | (refine go_newP ?_; clear hw; intro p w hw) | (refine go_newWr ?_; clear hw; intro w hw) | (refine go_newS ?_; clear hw; intro s w hw))
      refine opsT_alt ?_ (opsT_alt ?_ opsT_stop)
      · repeat (first | refine go_run ?_ | (refine go_newP ?_; clear hw; intro p w hw) | (refine go_newWr ?_; clear hw; intro w hw) | (refine go_newS ?_; clear hw; intro s w hw))
        refine st_call rfl (Clone_spec (hb.at hw) (by omega)) ?_
        rintro _ w' ⟨b2, rfl, hk'⟩
        replace hw := hw.call1 hk'
        clear hk'
        refine ⟨_, rfl, ?_⟩
        repeat (first | refine go_run ?_ | (refine go_newP ?_; clear hw; intro p w hw) | (refine go_newWr ?_; clear hw; intro w hw) | (refine go_newS ?_; clear hw; intro s w hw))
        refine opsT_alt ?_ (opsT_alt ?_ opsT_stop)
        · repeat (first | refine go_run ?_ | (refine go_newP ?_; clear hw; intro p w hw) | (refine go_newWr ?_; clear hw; intro w hw) | (refine go_newS ?_; clear hw; intro s w hw))
          refine st_call rfl (facts_spec (hc.at hw) (by omega)) ?_
          rintro _ w' ⟨c2, rfl, hk'⟩
          replace hw := hw.call1 hk'
          clear hk'
          refine ⟨_, rfl, ?_⟩
          repeat (first | refine go_run ?_ | (refine go_newP ?_; clear hw; intro p w hw) | (refine go_newWr ?_; clear hw; intro w hw) | (refine go_newS ?_; clear hw; intro s w hw))
          refine opsT_alt ?_ (opsT_alt ?_ opsT_stop)
          · repeat (first | refine go_run ?_ | (refine go_newP ?_; clear hw; intro p w hw) | (refine go_newWr ?_; clear hw; intro w hw) | (refine go_newS ?_; clear hw; intro s w hw))
            have oa := (rsO (s := a2) hw).one
            have ob := (rsO (s := b2) hw).one
            have oc := (rsO (s := c2) hw).one
            refine st_build3 (v1 := a2) (v2 := b2) (v3 := c2) rfl rfl rfl rfl (by simp only [List.all_cons, List.all_nil, oa, ob, oc]; rfl) ?_
            repeat (first | refine go_run ?_ | (refine go_newP ?_; clear hw; intro p w hw) | (refine go_newWr ?_; clear hw; intro w hw) | (refine go_newS ?_; clear hw; intro s w hw))
            obtain ⟨po, hpo⟩ : ∃ po, po = p := ⟨p, rfl⟩
            subst hpo
            repeat (first | refine go_run ?_ | (refine go_newP ?_; clear hw; intro p w hw) | (refine go_newS ?_; clear hw; intro s w hw))
            refine st_boxAgg (n := 4) (p := po) (vs := [a2, b2, c2, .slice none 0 0]) rfl rfl hw inferInstance rfl rfl (by simp only [List.all_cons, List.all_nil, oa, ob, oc]; rfl) ?_
            clear hw
            intro w hw
            repeat (first | refine go_run ?_ | (refine go_newP ?_; clear hw; intro p w hw) | (refine go_newWr ?_; clear hw; intro w hw) | (refine go_newS ?_; clear hw; intro s w hw))
            have hw2 : Sat w0 w [Box po 26 [a2, b2, c2, .slice none 0 0], OS tInt 3 a2 t.vars, OS tInt 3 b2 t.init, OS tFact 77 c2 t.goal, Box pr 26 [.slice none 0 0, .slice none 0 0, .slice none 0 0, .slice none 0 0], Box pt 26 [a, b, c, d]] := hw.sel
            exact ⟨(po, a2, b2, c2), ⟨rfl, trivial⟩, by repeat (first | exact agree_refl | (apply agree_upd rfl) | (apply agree_mix rfl) | (apply agree_sets rfl)), hw2⟩
          · repeat (first | refine go_run ?_ | (refine go_newP ?_; clear hw; intro p w hw) | (refine go_newWr ?_; clear hw; intro w hw) | (refine go_newS ?_; clear hw; intro s w hw))
            obtain ⟨po, hpo⟩ : ∃ po, po = p := ⟨p, rfl⟩
            subst hpo
            repeat (first | refine go_run ?_ | (refine go_newP ?_; clear hw; intro p w hw) | (refine go_newWr ?_; clear hw; intro w hw) | (refine go_newS ?_; clear hw; intro s w hw))
            have oa := (rsO (s := a2) hw).one
            have ob := (rsO (s := b2) hw).one
            have oc := (rsO (s := c2) hw).one
            refine st_build3 (v1 := a2) (v2 := b2) (v3 := c2) rfl rfl rfl rfl (by simp only [List.all_cons, List.all_nil, oa, ob, oc]; rfl) ?_
            repeat (first | refine go_run ?_ | (refine go_newP ?_; clear hw; intro p w hw) | (refine go_newS ?_; clear hw; intro s w hw))
            refine st_boxAgg (n := 4) (p := po) (vs := [a2, b2, c2, .slice none 0 0]) rfl rfl hw inferInstance rfl rfl (by simp only [List.all_cons, List.all_nil, oa, ob, oc]; rfl) ?_
            clear hw
            intro w hw
            repeat (first | refine go_run ?_ | (refine go_newP ?_; clear hw; intro p w hw) | (refine go_newWr ?_; clear hw; intro w hw) | (refine go_newS ?_; clear hw; intro s w hw))
            have hw2 : Sat w0 w [Box po 26 [a2, b2, c2, .slice none 0 0], OS tInt 3 a2 t.vars, OS tInt 3 b2 t.init, OS tFact 77 c2 t.goal, Box pr 26 [.slice none 0 0, .slice none 0 0, .slice none 0 0, .slice none 0 0], Box pt 26 [a, b, c, d]] := hw.sel
            exact ⟨(po, a2, b2, c2), ⟨rfl, trivial⟩, by repeat (first | exact agree_refl | (apply agree_upd rfl) | (apply agree_mix rfl) | (apply agree_sets rfl)), hw2⟩
        · repeat (first | refine go_run ?_ | (refine go_newP ?_; clear hw; intro p w hw) | (refine go_newWr ?_; clear hw; intro w hw) | (refine go_newS ?_; clear hw; intro s w hw))
          obtain ⟨po, hpo⟩ : ∃ po, po = p := ⟨p, rfl⟩
          subst hpo
          repeat (first | refine go_run ?_ | (refine go_newP ?_; clear hw; intro p w hw) | (refine go_newWr ?_; clear hw; intro w hw) | (refine go_newS ?_; clear hw; intro s w hw))
          refine st_call rfl (facts_spec (hc.at hw) (by omega)) ?_
          rintro _ w' ⟨c2, rfl, hk'⟩
          replace hw := hw.call1 hk'
          clear hk'
          refine ⟨_, rfl, ?_⟩
          repeat (first | refine go_run ?_ | (refine go_newP ?_; clear hw; intro p w hw) | (refine go_newWr ?_; clear hw; intro w hw) | (refine go_newS ?_; clear hw; intro s w hw))
          repeat (first | refine go_run ?_ | (refine go_newP ?_; clear hw; intro p w hw) | (refine go_newWr ?_; clear hw; intro w hw) | (refine go_newS ?_; clear hw; intro s w hw))
          have oa := (rsO (s := a2) hw).one
          have ob := (rsO (s := b2) hw).one
          have oc := (rsO (s := c2) hw).one
          refine st_build3 (v1 := a2) (v2 := b2) (v3 := c2) rfl rfl rfl rfl (by simp only [List.all_cons, List.all_nil, oa, ob, oc]; rfl) ?_
          repeat (first | refine go_run ?_ | (refine go_newP ?_; clear hw; intro p w hw) | (refine go_newS ?_; clear hw; intro s w hw))
          refine st_boxAgg (n := 4) (p := po) (vs := [a2, b2, c2, .slice none 0 0]) rfl rfl hw inferInstance rfl rfl (by simp only [List.all_cons, List.all_nil, oa, ob, oc]; rfl) ?_
          clear hw
          intro w hw
          repeat (first | refine go_run ?_ | (refine go_newP ?_; clear hw; intro p w hw) | (refine go_newWr ?_; clear hw; intro w hw) | (refine go_newS ?_; clear hw; intro s w hw))
          have hw2 : Sat w0 w [Box po 26 [a2, b2, c2, .slice none 0 0], OS tInt 3 a2 t.vars, OS tInt 3 b2 t.init, OS tFact 77 c2 t.goal, Box pr 26 [.slice none 0 0, .slice none 0 0, .slice none 0 0, .slice none 0 0], Box pt 26 [a, b, c, d]] := hw.sel
          exact ⟨(po, a2, b2, c2), ⟨rfl, trivial⟩, by repeat (first | exact agree_refl | (apply agree_upd rfl) | (apply agree_mix rfl) | (apply agree_sets rfl)), hw2⟩
      · repeat (first | refine go_run ?_ | (refine go_newP ?_; clear hw; intro p w hw) | (refine go_newWr ?_; clear hw; intro w hw) | (refine go_newS ?_; clear hw; intro s w hw))
        obtain ⟨po, hpo⟩ : ∃ po, po = p := ⟨p, rfl⟩
        subst hpo
        repeat (first | refine go_run ?_ | (refine go_newP ?_; clear hw; intro p w hw) | (refine go_newWr ?_; clear hw; intro w hw) | (refine go_newS ?_; clear hw; intro s w hw))
        refine st_call rfl (Clone_spec (hb.at hw) (by omega)) ?_
        rintro _ w' ⟨b2, rfl, hk'⟩
        replace hw := hw.call1 hk'
        clear hk'
        refine ⟨_, rfl, ?_⟩
        repeat (first | refine go_run ?_ | (refine go_newP ?_; clear hw; intro p w hw) | (refine go_newWr ?_; clear hw; intro w hw) | (refine go_newS ?_; clear hw; intro s w hw))
        repeat (first | refine go_run ?_ | (refine go_newP ?_; clear hw; intro p w hw) | (refine go_newWr ?_; clear hw; intro w hw) | (refine go_newS ?_; clear hw; intro s w hw))
        refine st_call rfl (facts_spec (hc.at hw) (by omega)) ?_
        rintro _ w' ⟨c2, rfl, hk'⟩
        replace hw := hw.call1 hk'
        clear hk'
        refine ⟨_, rfl, ?_⟩
        repeat (first | refine go_run ?_ | (refine go_newP ?_; clear hw; intro p w hw) | (refine go_newWr ?_; clear hw; intro w hw) | (refine go_newS ?_; clear hw; intro s w hw))
        repeat (first | refine go_run ?_ | (refine go_newP ?_; clear hw; intro p w hw) | (refine go_newWr ?_; clear hw; intro w hw) | (refine go_newS ?_; clear hw; intro s w hw))
        have oa := (rsO (s := a2) hw).one
        have ob := (rsO (s := b2) hw).one
        have oc := (rsO (s := c2) hw).one
        refine st_build3 (v1 := a2) (v2 := b2) (v3 := c2) rfl rfl rfl rfl (by simp only [List.all_cons, List.all_nil, oa, ob, oc]; rfl) ?_
        repeat (first | refine go_run ?_ | (refine go_newP ?_; clear hw; intro p w hw) | (refine go_newS ?_; clear hw; intro s w hw))
        refine st_boxAgg (n := 4) (p := po) (vs := [a2, b2, c2, .slice none 0 0]) rfl rfl hw inferInstance rfl rfl (by simp only [List.all_cons, List.all_nil, oa, ob, oc]; rfl) ?_
        clear hw
        intro w hw
        repeat (first | refine go_run ?_ | (refine go_newP ?_; clear hw; intro p w hw) | (refine go_newWr ?_; clear hw; intro w hw) | (refine go_newS ?_; clear hw; intro s w hw))
        have hw2 : Sat w0 w [Box po 26 [a2, b2, c2, .slice none 0 0], OS tInt 3 a2 t.vars, OS tInt 3 b2 t.init, OS tFact 77 c2 t.goal, Box pr 26 [.slice none 0 0, .slice none 0 0, .slice none 0 0, .slice none 0 0], Box pt 26 [a, b, c, d]] := hw.sel
        exact ⟨(po, a2, b2, c2), ⟨rfl, trivial⟩, by repeat (first | exact agree_refl | (apply agree_upd rfl) | (apply agree_mix rfl) | (apply agree_sets rfl)), hw2⟩
    · repeat (first | refine go_run ?_ | (refine go_newP ?_; clear hw; intro p w hw) | (refine go_newWr ?_; clear hw; intro w hw) | (refine go_newS ?_; clear hw; intro s w hw))
      obtain ⟨po, hpo⟩ : ∃ po, po = p := ⟨p, rfl⟩
      subst hpo
      repeat (first | refine go_run ?_ | (refine go_newP ?_; clear hw; intro p w hw) | (refine go_newWr ?_; clear hw; intro w hw) | (refine go_newS ?_; clear hw; intro s w hw))
      refine st_call rfl (Clone_spec (ha.at hw) (by omega)) ?_
      rintro _ w' ⟨a2, rfl, hk'⟩
      replace hw := hw.call1 hk'
      clear hk'
      refine ⟨_, rfl, ?_⟩
      repeat (first | refine go_run ?_ | (refine go_newP ?_; clear hw; intro p w hw) | (refine go_newWr ?_; clear hw; intro w hw) | (refine go_newS ?_; clear hw; intro s w hw))
      repeat (first | refine go_run ?_ | (refine go_newP ?_; clear hw; intro p w hw) | (refine go_newWr ?_; clear hw; intro w hw) | (refine go_newS ?_; clear hw; intro s w hw))
      refine st_call rfl (Clone_spec (hb.at hw) (by omega)) ?_
      rintro _ w' ⟨b2, rfl, hk'⟩
      replace hw := hw.call1 hk'
      clear hk'
      refine ⟨_, rfl, ?_⟩
      repeat (first | refine go_run ?_ | (refine go_newP ?_; clear hw; intro p w hw) | (refine go_newWr ?_; clear hw; intro w hw) | (refine go_newS ?_; clear hw; intro s w hw))
      repeat (first | refine go_run ?_ | (refine go_newP ?_; clear hw; intro p w hw) | (refine go_newWr ?_; clear hw; intro w hw) | (refine go_newS ?_; clear hw; intro s w hw))
      refine st_call rfl (facts_spec (hc.at hw) (by omega)) ?_
      rintro _ w' ⟨c2, rfl, hk'⟩
      replace hw := hw.call1 hk'
      clear hk'
      refine ⟨_, rfl, ?_⟩
      repeat (first | refine go_run ?_ | (refine go_newP ?_; clear hw; intro p w hw) | (refine go_newWr ?_; clear hw; intro w hw) | (refine go_newS ?_; clear hw; intro s w hw))
      repeat (first | refine go_run ?_ | (refine go_newP ?_; clear hw; intro p w hw) | (refine go_newWr ?_; clear hw; intro w hw) | (refine go_newS ?_; clear hw; intro s w hw))
      have oa := (rsO (s := a2) hw).one
      have ob := (rsO (s := b2) hw).one
      have oc := (rsO (s := c2) hw).one
      refine st_build3 (v1 := a2) (v2 := b2) (v3 := c2) rfl rfl rfl rfl (by simp only [List.all_cons, List.all_nil, oa, ob, oc]; rfl) ?_
      repeat (first | refine go_run ?_ | (refine go_newP ?_; clear hw; intro p w hw) | (refine go_newS ?_; clear hw; intro s w hw))
      refine st_boxAgg (n := 4) (p := po) (vs := [a2, b2, c2, .slice none 0 0]) rfl rfl hw inferInstance rfl rfl (by simp only [List.all_cons, List.all_nil, oa, ob, oc]; rfl) ?_
      clear hw
      intro w hw
      repeat (first | refine go_run ?_ | (refine go_newP ?_; clear hw; intro p w hw) | (refine go_newWr ?_; clear hw; intro w hw) | (refine go_newS ?_; clear hw; intro s w hw))
      have hw2 : Sat w0 w [Box po 26 [a2, b2, c2, .slice none 0 0], OS tInt 3 a2 t.vars, OS tInt 3 b2 t.init, OS tFact 77 c2 t.goal, Box pr 26 [.slice none 0 0, .slice none 0 0, .slice none 0 0, .slice none 0 0], Box pt 26 [a, b, c, d]] := hw.sel
      exact ⟨(po, a2, b2, c2), ⟨rfl, trivial⟩, by repeat (first | exact agree_refl | (apply agree_upd rfl) | (apply agree_mix rfl) | (apply agree_sets rfl)), hw2⟩
  clear hw
  rintro σ0 ⟨po, a2, b2, c2⟩ w hw
  simp only at hw
  have hw1 : Sat w0 w [OS tOp 56 (.slice none 0 0) [], RdH (OpsF t 0 []), RdH (HeadF t a2 b2 c2), Box po 26 [a2, b2, c2, .slice none 0 0], Box pr 26 [.slice none 0 0, .slice none 0 0, .slice none 0 0, .slice none 0 0], Box pt 26 [a, b, c, d]] := by
    have hw2 : Sat w0 w [OS tInt 3 a2 t.vars, OS tInt 3 b2 t.init, OS tFact 77 c2 t.goal, Box po 26 [a2, b2, c2, .slice none 0 0], Box pr 26 [.slice none 0 0, .slice none 0 0, .slice none 0 0, .slice none 0 0], Box pt 26 [a, b, c, d]] := hw.sel
    have hw3 := Sat.rd (Δ := [OS tInt 3 a2 t.vars, OS tInt 3 b2 t.init, OS tFact 77 c2 t.goal]) (φ := HeadF t a2 b2 c2) (fun _ w h => ⟨h.rs 0 rfl, h.rs 1 rfl, h.rs 2 rfl⟩) hw2
    exact (Sat.rd0 (φ := OpsF t 0 []) (fun w i hi => absurd hi (Nat.not_lt_zero _)) hw3).nil
  clear hw
  have hw := hw1
  clear hw1
  repeat (first | refine go_run ?_ | (refine go_newP ?_; clear hw; intro p w hw) | (refine go_newW ?_; clear hw; intro w hw) | (refine go_newS ?_; clear hw; intro s w hw))
  refine vc_loop3 [5, 6, 20, 21, 22, 23, 24, 25, 26, 27, 28, 29, 30, 31, 32, 33, 34, 35, 36, 37, 38, 39, 40, 41, 42, 43, 44, 45, 46, 47, 48, 49, 50, 51, 52, 53, 54, 55, 56, 57] (G := Nat) (H := Value) (I := List OpV) (fun k _ _ => [(20, .int .i64 k)]) (fun k dv ws w => k ≤ t.ops.length ∧ ws.length = k ∧ Sat w0 w [OS tOp 56 dv ws, RdH (OpsF t k ws), RdH (HeadF t a2 b2 c2), Box po 26 [a2, b2, c2, dv], Box pr 26 [.slice none 0 0, .slice none 0 0, .slice none 0 0, .slice none 0 0], Box pt 26 [a, b, c, d]]) (fun k _ _ => t.ops.length - k) 0 (.slice none 0 0) [] (fun _ _ _ => rfl) ⟨rfl, trivial⟩ ⟨Nat.zero_le _, rfl, hw⟩ ?_
  clear hw
  rintro σ k dv ws w ⟨hk, hwl, hw⟩
  repeat (first | refine go_run ?_ | (refine go_newP ?_; clear hw; intro p w hw) | (refine go_newW ?_; clear hw; intro w hw) | (refine go_newS ?_; clear hw; intro s w hw))
  refine go_if (fun h1 => ?_) (fun h1 => ?_)
  · have hkl : k < t.ops.length := by omega
    have hop := hd.at_ k hkl
    have hone := hop.one
    have hpre := hop.pre
    have hgo := hg.op k hkl
    have hpl := facts_len hgo.pre
    have hel := hgo.effs
    obtain ⟨us, hus⟩ := hop.effs
    have husr := hus.rs
    have husl := hus.len
    repeat (first | refine go_run ?_ | (refine go_newP ?_; clear hw; intro p w hw) | (refine go_newWr ?_; clear hw; intro w hw) | (refine go_newS ?_; clear hw; intro s w hw))
    obtain ⟨p5, hp5⟩ : ∃ p5, p5 = p := ⟨p, rfl⟩
    subst hp5
    refine vc_plan [.op 0, .op 1, .op 3, .op 4, .op 2, .chk 4, .op 6, .op 5, .op 7, .op 8, .op 9] hw (by kernel_rfl) ?_; clear hw; intro w hw
    repeat (first | refine go_run ?_ | (refine go_newP ?_; clear hw; intro p w hw) | (refine go_newWr ?_; clear hw; intro w hw) | (refine go_newS ?_; clear hw; intro s w hw))
    refine st_call rfl (facts_spec (hpre.at hw) (by omega)) ?_
    rintro _ w' ⟨pv, rfl, hk'⟩
    replace hw := hw.call1 hk'
    clear hk'
    refine ⟨_, rfl, ?_⟩
    repeat (first | refine go_run ?_ | (refine go_newP ?_; clear hw; intro p w hw) | (refine go_newWr ?_; clear hw; intro w hw) | (refine go_newS ?_; clear hw; intro s w hw))
    refine st_call rfl (CloneE_spec (husr.at hw) (by omega) (reffs_ones hus)) ?_
    rintro _ w' ⟨ev, rfl, hk'⟩
    replace hw := hw.call1 hk'
    clear hk'
    refine ⟨_, rfl, ?_⟩
    have opv := (rsO (s := pv) hw).one
    have oev := (rsO (s := ev) hw).one
    repeat (first | refine go_run ?_ | (refine go_newP ?_; clear hw; intro p w hw) | (refine go_newS ?_; clear hw; intro s w hw))
    refine st_box (k := 2) (p := p5) (v := pv) rfl rfl opv hw inferInstance (by rw [tOp.ok]; decide) ?_
    clear hw
    intro w hw
    repeat (first | refine go_run ?_ | (refine go_newP ?_; clear hw; intro p w hw) | (refine go_newS ?_; clear hw; intro s w hw))
    refine st_box (k := 3) (p := p5) (v := ev) rfl rfl oev hw inferInstance (by rw [List.length_set, tOp.ok]; decide) ?_
    clear hw
    intro w hw
    have hw1 : Sat w0 w [RdH (EffW (t.ops.getD k dOp).effs 0 us), OS tEff 80 ev us, Box p5 56 (tOp.enc ⟨(eget tOp vs k).name, (eget tOp vs k).cost, pv, ev⟩), OS tFact 77 pv (t.ops.getD k dOp).pre, OS tOp 56 dv ws, RdH (OpsF t k ws), RdH (HeadF t a2 b2 c2), Box po 26 [a2, b2, c2, dv], Box pr 26 [.slice none 0 0, .slice none 0 0, .slice none 0 0, .slice none 0 0], Box pt 26 [a, b, c, d]] := by
      have hw2 : Sat w0 w [OS tEff 80 ev us, OS tFact 77 pv (t.ops.getD k dOp).pre, Box p5 56 (tOp.enc ⟨(eget tOp vs k).name, (eget tOp vs k).cost, pv, ev⟩), OS tOp 56 dv ws, RdH (OpsF t k ws), RdH (HeadF t a2 b2 c2), Box po 26 [a2, b2, c2, dv], Box pr 26 [.slice none 0 0, .slice none 0 0, .slice none 0 0, .slice none 0 0], Box pt 26 [a, b, c, d]] := hw
      exact (Sat.rd0 (φ := EffW (t.ops.getD k dOp).effs 0 us) (fun w i hi => absurd hi (Nat.not_lt_zero _)) hw2).sel
    clear hw
    have hw := hw1
    clear hw1
    have hE0 : EffI (t.ops.getD k dOp).effs us 0 us := ⟨husl, fun i hi => ⟨(hus.at_ i hi).var, (hus.at_ i hi).val⟩, fun i _ _ => rfl⟩
    repeat (first | refine go_run ?_ | (refine go_newP ?_; clear hw; intro p w hw) | (refine go_newWr ?_; clear hw; intro w hw) | (refine go_newS ?_; clear hw; intro s w hw))
    refine vc_loop2 [6, 35, 36, 37, 38, 39, 40, 41, 42, 43, 44, 45, 46, 47, 48, 49, 50] (G := Nat) (H := List EffV) (fun j _ => [(35, .int .i64 j)]) (fun j es w => j ≤ (t.ops.getD k dOp).effs.length ∧ EffI (t.ops.getD k dOp).effs us j es ∧ Sat w0 w [RdH (EffW (t.ops.getD k dOp).effs j es), OS tEff 80 ev es, Box p5 56 (tOp.enc ⟨(eget tOp vs k).name, (eget tOp vs k).cost, pv, ev⟩), OS tFact 77 pv (t.ops.getD k dOp).pre, OS tOp 56 dv ws, RdH (OpsF t k ws), RdH (HeadF t a2 b2 c2), Box po 26 [a2, b2, c2, dv], Box pr 26 [.slice none 0 0, .slice none 0 0, .slice none 0 0, .slice none 0 0], Box pt 26 [a, b, c, d]]) (fun j _ => (t.ops.getD k dOp).effs.length - j) 0 us (fun _ _ => rfl) ⟨rfl, trivial⟩ ⟨Nat.zero_le _, hE0, hw⟩ ?_
    clear hw
    rintro σ1 j es w ⟨hj, hE, hw⟩
    have hesl := hE.len
    repeat (first | refine go_run ?_ | (refine go_newP ?_; clear hw; intro p w hw) | (refine go_newW ?_; clear hw; intro w hw) | (refine go_newS ?_; clear hw; intro s w hw))
    refine go_if (fun h2 => ?_) (fun h2 => ?_)
    · have hjl : j < (t.ops.getD k dOp).effs.length := by omega
      have hue := hus.at_ j hjl
      have hfj := hE.fld j hjl
      have hoj := hE.old j (Nat.le_refl _) hjl
      have hfl := facts_len (hgo.eff j hjl).1
      have hwhen : RS tFact w0 (eget tEff es j).when ((t.ops.getD k dOp).effs.getD j dEff).when := by rw [hoj]; exact hue.when
      repeat (first | refine go_run ?_ | (refine go_newP ?_; clear hw; intro p w hw) | (refine go_newWr ?_; clear hw; intro w hw) | (refine go_newS ?_; clear hw; intro s w hw))
      refine vc_plan [.op 0, .op 1, .op 2, .op 3, .op 4, .op 5, .op 6, .op 7, .op 8, .op 9, .chk 1, .op 10, .op 11, .op 12] hw (by kernel_rfl) ?_; clear hw; intro w hw
      repeat (first | refine go_run ?_ | (refine go_newP ?_; clear hw; intro p w hw) | (refine go_newWr ?_; clear hw; intro w hw) | (refine go_newS ?_; clear hw; intro s w hw))
      refine st_call rfl (facts_spec (hwhen.at hw) (by omega)) ?_
      rintro _ w' ⟨fv, rfl, hk'⟩
      replace hw := hw.call1 hk'
      clear hk'
      refine ⟨_, rfl, ?_⟩
      have ofv := (rsO (s := fv) hw).one
      repeat (first | refine go_run ?_ | (refine go_newP ?_; clear hw; intro p w hw) | (refine go_newS ?_; clear hw; intro s w hw))
      refine st_elemField (T := tEff) (s := ev) (j := j) (k := 0) (v := fv) (x' := ⟨fv, (eget tEff es j).var, (eget tEff es j).val⟩) rfl rfl ofv hw inferInstance (by omega) (Nat.zero_lt_succ _) (by rw [← eget_eq]; rfl) ?_
      clear hw
      intro w hw
      have hw1 : Sat w0 w [RdH (EffW (t.ops.getD k dOp).effs (j + 1) (es.set j ⟨fv, (eget tEff es j).var, (eget tEff es j).val⟩)), OS tEff 80 ev (es.set j ⟨fv, (eget tEff es j).var, (eget tEff es j).val⟩), Box p5 56 (tOp.enc ⟨(eget tOp vs k).name, (eget tOp vs k).cost, pv, ev⟩), OS tFact 77 pv (t.ops.getD k dOp).pre, OS tOp 56 dv ws, RdH (OpsF t k ws), RdH (HeadF t a2 b2 c2), Box po 26 [a2, b2, c2, dv], Box pr 26 [.slice none 0 0, .slice none 0 0, .slice none 0 0, .slice none 0 0], Box pt 26 [a, b, c, d]] := by
        have hw2 : Sat w0 w [OS tFact 77 fv ((t.ops.getD k dOp).effs.getD j dEff).when, RdH (EffW (t.ops.getD k dOp).effs j es), OS tEff 80 ev (es.set j ⟨fv, (eget tEff es j).var, (eget tEff es j).val⟩), Box p5 56 (tOp.enc ⟨(eget tOp vs k).name, (eget tOp vs k).cost, pv, ev⟩), OS tFact 77 pv (t.ops.getD k dOp).pre, OS tOp 56 dv ws, RdH (OpsF t k ws), RdH (HeadF t a2 b2 c2), Box po 26 [a2, b2, c2, dv], Box pr 26 [.slice none 0 0, .slice none 0 0, .slice none 0 0, .slice none 0 0], Box pt 26 [a, b, c, d]] := hw
        exact Sat.rd2 (χ := EffW (t.ops.getD k dOp).effs (j + 1) (es.set j ⟨fv, (eget tEff es j).var, (eget tEff es j).val⟩)) (fun w h1 h2 => h2.step (by omega) h1) (Sat.rd (Δ := [OS tFact 77 fv ((t.ops.getD k dOp).effs.getD j dEff).when]) (φ := fun w => RS tFact w fv ((t.ops.getD k dOp).effs.getD j dEff).when) (fun _ _ h => h.rs 0 rfl) hw2)
      repeat (first | refine go_run ?_ | (refine go_newP ?_; clear hw; intro p w hw) | (refine go_newWr ?_; clear hw; intro w hw) | (refine go_newS ?_; clear hw; intro s w hw))
      exact ⟨j + 1, _, ⟨rfl, trivial⟩, by repeat (first | exact agree_refl | (apply agree_upd rfl) | (apply agree_mix rfl) | (apply agree_sets rfl)), ⟨by omega, hE.step hjl, hw1⟩, by omega⟩
    have hje : j = (t.ops.getD k dOp).effs.length := by omega
    subst hje
    obtain ⟨vo, hvo⟩ : ∃ vo : OpV, vo = ⟨(eget tOp vs k).name, (eget tOp vs k).cost, pv, ev⟩ := ⟨_, rfl⟩
    rw [← hvo] at hw
    have hvo1 : ∀ v ∈ tOp.enc vo, v.oneCell' = true := by
      rw [hvo]
      intro v hv
      simp only [tOp, List.mem_cons, List.not_mem_nil, or_false] at hv
      rcases hv with rfl | rfl | rfl | rfl
      · rfl
      · rfl
      · exact opv
      · exact oev
    have hw1 : Sat w0 w [RdH fun w => ROp w vo (t.ops.getD k dOp), Box p5 56 (tOp.enc vo), OS tOp 56 dv ws, RdH (OpsF t k ws), RdH (HeadF t a2 b2 c2), Box po 26 [a2, b2, c2, dv], Box pr 26 [.slice none 0 0, .slice none 0 0, .slice none 0 0, .slice none 0 0], Box pt 26 [a, b, c, d]] := by
      have hw2 : Sat w0 w [RdH (EffW (t.ops.getD k dOp).effs (t.ops.getD k dOp).effs.length es), OS tEff 80 ev es, OS tFact 77 pv (t.ops.getD k dOp).pre, Box p5 56 (tOp.enc vo), OS tOp 56 dv ws, RdH (OpsF t k ws), RdH (HeadF t a2 b2 c2), Box po 26 [a2, b2, c2, dv], Box pr 26 [.slice none 0 0, .slice none 0 0, .slice none 0 0, .slice none 0 0], Box pt 26 [a, b, c, d]] := hw.sel
      refine Sat.rd (Δ := [RdH (EffW (t.ops.getD k dOp).effs (t.ops.getD k dOp).effs.length es), OS tEff 80 ev es, OS tFact 77 pv (t.ops.getD k dOp).pre]) (φ := fun w => ROp w vo (t.ops.getD k dOp)) (fun _ w h => ?_) hw2
      have hff := h.rdE 0 rfl
      rw [hvo]
      exact ⟨hop.name, hop.size, hop.cost, h.rs 2 rfl, es, h.rs 1 rfl, hE.len, fun i hi => ⟨(hE.fld i hi).1, (hE.fld i hi).2, hff i hi⟩⟩
    clear hw
    have hw := hw1
    clear hw1
    repeat (first | refine go_run ?_ | (refine go_newP ?_; clear hw; intro p w hw) | (refine go_newWr ?_; clear hw; intro w hw) | (refine go_newS ?_; clear hw; intro s w hw))
    refine st_buildSlice1 tOp (x1 := vo) rfl rfl rfl (Nat.le_of_ble_eq_true rfl) (Nat.zero_lt_succ _) hw ?_
    clear hw
    intro bs w hw
    repeat (first | refine go_run ?_ | (refine go_newP ?_; clear hw; intro p w hw) | (refine go_newWr ?_; clear hw; intro w hw) | (refine go_newS ?_; clear hw; intro s w hw))
    refine st_append (s := dv) (s2 := bs) inferInstance rfl rfl (rsO hw) rfl rfl (fun x hx v hv => by rw [List.mem_singleton.1 hx] at hv; exact hvo1 v hv) (by simp only [List.length_cons, List.length_nil]; omega) (by unfold big; simp only [List.length_cons, List.length_nil]; omega) hw ?_
    clear hw
    intro dv2 w hw
    have odv := (rsO (s := dv2) hw).one
    repeat (first | refine go_run ?_ | (refine go_newP ?_; clear hw; intro p w hw) | (refine go_newWr ?_; clear hw; intro w hw) | (refine go_newS ?_; clear hw; intro s w hw))
    have hw1 : Sat w0 w [OS tOp 56 dv2 (ws ++ [vo]), RdH (OpsF t (k + 1) (ws ++ [vo])), RdH (HeadF t a2 b2 c2), Box po 26 [a2, b2, c2, dv2], Box pr 26 [.slice none 0 0, .slice none 0 0, .slice none 0 0, .slice none 0 0], Box pt 26 [a, b, c, d]] := by
      have hw2 : Sat w0 w [OS tOp 56 bs [vo], RdH fun w => ROp w vo (t.ops.getD k dOp), Box p5 56 (tOp.enc vo), OS tOp 56 dv2 (ws ++ [vo]), RdH (OpsF t k ws), RdH (HeadF t a2 b2 c2), Box po 26 [a2, b2, c2, dv2], Box pr 26 [.slice none 0 0, .slice none 0 0, .slice none 0 0, .slice none 0 0], Box pt 26 [a, b, c, d]] := hw
      have hw3 : Sat w0 w [RdH fun w => ROp w vo (t.ops.getD k dOp), RdH (OpsF t k ws), OS tOp 56 dv2 (ws ++ [vo]), RdH (HeadF t a2 b2 c2), Box po 26 [a2, b2, c2, dv2], Box pr 26 [.slice none 0 0, .slice none 0 0, .slice none 0 0, .slice none 0 0], Box pt 26 [a, b, c, d]] := hw2.sel
      exact (Sat.rd2 (χ := OpsF t (k + 1) (ws ++ [vo])) (fun w h1 h2 => h2.step hwl h1) hw3).swap
    exact ⟨k + 1, _, _, ⟨rfl, trivial⟩, by repeat (first | exact agree_refl | (apply agree_upd rfl) | (apply agree_mix rfl) | (apply agree_sets rfl)), ⟨by omega, by simp [hwl], hw1⟩, by omega⟩
  have hke : k = t.ops.length := by omega
  subst hke
  have odv := (rsO (s := dv) hw).one
  have hw1 : Sat w0 w [RdH fun w => RTask w a2 b2 c2 dv ws t, Box po 26 [a2, b2, c2, dv], Box pr 26 [.slice none 0 0, .slice none 0 0, .slice none 0 0, .slice none 0 0], Box pt 26 [a, b, c, d]] :=
    Sat.rd (Δ := [OS tOp 56 dv ws, RdH (OpsF t t.ops.length ws), RdH (HeadF t a2 b2 c2)]) (φ := fun w => RTask w a2 b2 c2 dv ws t) (fun _ w h => ⟨(h.rdE 2 rfl).1, (h.rdE 2 rfl).2.1, (h.rdE 2 rfl).2.2, h.rs 0 rfl, hwl, h.rdE 1 rfl⟩) hw
  clear hw
  have hw := hw1
  clear hw1
  have ht2 := hw.rdE 0 rfl
  have o1 := ht2.vars.one
  have o2 := ht2.init.one
  have o3 := ht2.goal.one
  repeat (first | refine go_run ?_ | (refine go_newP ?_; clear hw; intro p w hw) | (refine go_newS ?_; clear hw; intro s w hw))
  refine st_boxAgg (n := 4) (p := pr) (vs := [a2, b2, c2, dv]) rfl rfl hw inferInstance rfl rfl (by simp only [List.all_cons, List.all_nil, o1, o2, o3, odv]; rfl) ?_
  clear hw
  intro w hw
  repeat (first | refine go_run ?_ | (refine go_newP ?_; clear hw; intro p w hw) | (refine go_newWr ?_; clear hw; intro w hw) | (refine go_newS ?_; clear hw; intro s w hw))
  exact res_cell (p := pr) (vs := [a2, b2, c2, dv]) rfl rfl rfl (hw.boxR 2 rfl) ⟨a2, b2, c2, dv, ws, rfl, hw.sel⟩
end Go.Proofs.YtkmbenhffledpaaGreat

/-
  Contract of 'succgen.copied'.
-/
namespace Go.Proofs.YtkmbenhffledpaaGreat
open Go.Sl Go
attribute [local irreducible] vc opsW opsD opV opW PureV ReadV Thn Blk
/-- The first j effects are copied. -/
def EffJ (E : List Eff) (j : Nat) (es : List EffV) (w : World) : Prop := ∀ i, i < j → REff w (eget tEff es i) (E.getD i dEff)
theorem EffJ.step {E : List Eff} {j : Nat} {es : List EffV} {w : World} {v : EffV} (h : EffJ E j es w) (hl : es.length = j) (hv : REff w v (E.getD j dEff)) : EffJ E (j + 1) (es ++ [v]) w := fun i hi => by
  rw [eget_app]
  by_cases e : i < j
  · rw [if_pos (by omega)]; exact h i e
  · have e2 : i = j := by omega
    rw [if_neg (by omega), if_pos (by omega), e2]; exact hv
set_option maxRecDepth 8000 in
set_option maxHeartbeats 4000000 in
theorem sCopied_spec {w0 : World} {a b c d : Value} {vs : List OpV} {t : TTask} (ht : RTask w0 a b c d vs t) (hg : GoodT t) :
    Calls Tryz.prog 106 #[.agg #[a, b, c, d]] w0 fun e w' => ∃ a2 b2 c2 d2 vs2, e = .returned (.agg #[a2, b2, c2, d2]) ∧ Sat w0 w' [RdH fun w => RTask w a2 b2 c2 d2 vs2 t] := by
  have ht' := ht
  obtain ⟨ha, hb, hc, hd⟩ := ht
  have hdr := hd.rs
  have hdl := hd.len
  have hol := hg.ops
  have hvl := hg.vars
  have hil := hg.init.1
  have hgl := facts_len hg.goal
  have hw := Sat.start w0
  refine calls_of_vc (args := [.agg #[a, b, c, d]]) mixed Tryz.func106 rfl (by kernel_rfl) (Nat.le_of_ble_eq_true rfl) ?_
  refine vc_seq ?_
  refine vc_region ?_
  refine go_box ?_
  clear hw
  intro pt w hw
  replace hw : Sat w0 w [Box pt 26 [a, b, c, d]] := hw
  refine go_alloc ?_
  clear hw
  intro pr w hw
  repeat (first | refine go_run ?_ | (refine go_newP ?_; clear hw; intro p w hw) | (refine go_newWr ?_; clear hw; intro w hw) | (refine go_newS ?_; clear hw; intro s w hw))
  refine vc_cut [9, 10, 11, 12, 13, 14, 15, 16, 17, 18, 3] (G := Addr × Value × Value × Value) (fun g => [(3, .pointer (some g.1))]) (fun g w => Sat w0 w [Box g.1 26 [g.2.1, g.2.2.1, g.2.2.2, .slice none 0 0], OS tInt 3 g.2.1 t.vars, OS tInt 3 g.2.2.1 t.init, OS tFact 77 g.2.2.2 t.goal, Box pr 26 [.slice none 0 0, .slice none 0 0, .slice none 0 0, .slice none 0 0], Box pt 26 [a, b, c, d]]) (fun _ => rfl) ?_ ?_
  · refine vc_tree (.step 0 [.op 0] (.step 3 [.op 3] (.step 6 [.op 6] (.step 1 [.op 1] (.step 4 [.op 4] (.step 7 [.op 7] (.alt 2 [.op 2, .chk 4, .chk 7] (.alt 5 [.op 5, .chk 7] (.alt 8 [.op 8] (.alt 9 [.op 9] (.step 10 [.op 10, .chk 1, .chk 4, .chk 7] (.step 11 [.op 11] (.lin []))) (.alt 10 [.op 10, .chk 1, .chk 4, .chk 7] (.step 9 [.op 9] (.step 11 [.op 11] (.lin []))) (.stop))) (.alt 10 [.op 10, .chk 1, .chk 4, .chk 7] (.step 8 [.op 8] (.step 9 [.op 9] (.step 11 [.op 11] (.lin [])))) (.stop))) (.alt 10 [.op 10, .chk 1, .chk 4, .chk 7] (.step 5 [.op 5, .chk 7] (.step 8 [.op 8] (.step 9 [.op 9] (.step 11 [.op 11] (.lin []))))) (.stop))) (.alt 10 [.op 10, .chk 1, .chk 4, .chk 7] (.step 2 [.op 2, .chk 4, .chk 7] (.step 5 [.op 5, .chk 7] (.step 8 [.op 8] (.step 9 [.op 9] (.step 11 [.op 11] (.lin [])))))) (.stop))))))))) hw (by kernel_rfl) (by kernel_rfl) ?_; clear hw; intro w hw
    repeat (first | refine go_run ?_ | (refine go_newP ?_; clear hw; intro p w hw) | (refine go_newWr ?_; clear hw; intro w hw) | (refine go_newS ?_; clear hw; intro s w hw))
    refine opsT_alt ?_ (opsT_alt ?_ opsT_stop)
    · repeat (first | refine go_run ?_ | (refine go_newP ?_; clear hw; intro p w hw) | (refine go_newWr ?_; clear hw; intro w hw) | (refine go_newS ?_; clear hw; intro s w hw))
      refine st_call rfl (Clone_spec (ha.at hw) (by omega)) ?_
      rintro _ w' ⟨a2, rfl, hk'⟩
      replace hw := hw.call1 hk'
      clear hk'
      refine ⟨_, rfl, ?_⟩
      repeat (first | refine go_run ?_ | (refine go_newP ?_; clear hw; intro p w hw) | (refine go_newWr ?_; clear hw; intro w hw) | (refine go_newS ?_; clear hw; intro s w hw))
      refine opsT_alt ?_ (opsT_alt ?_ opsT_stop)
      · repeat (first | refine go_run ?_ | (refine go_newP ?_; clear hw; intro p w hw) | (refine go_newWr ?_; clear hw; intro w hw) | (refine go_newS ?_; clear hw; intro s w hw))
        refine st_call rfl (Clone_spec (hb.at hw) (by omega)) ?_
        rintro _ w' ⟨b2, rfl, hk'⟩
        replace hw := hw.call1 hk'
        clear hk'
        refine ⟨_, rfl, ?_⟩
        repeat (first | refine go_run ?_ | (refine go_newP ?_; clear hw; intro p w hw) | (refine go_newWr ?_; clear hw; intro w hw) | (refine go_newS ?_; clear hw; intro s w hw))
        refine opsT_alt ?_ (opsT_alt ?_ opsT_stop)
        · repeat (first | refine go_run ?_ | (refine go_newP ?_; clear hw; intro p w hw) | (refine go_newWr ?_; clear hw; intro w hw) | (refine go_newS ?_; clear hw; intro s w hw))
          refine st_call rfl (CloneF_spec (hc.at hw) (by omega)) ?_
          rintro _ w' ⟨c2, rfl, hk'⟩
          replace hw := hw.call1 hk'
          clear hk'
          refine ⟨_, rfl, ?_⟩
          repeat (first | refine go_run ?_ | (refine go_newP ?_; clear hw; intro p w hw) | (refine go_newWr ?_; clear hw; intro w hw) | (refine go_newS ?_; clear hw; intro s w hw))
          refine opsT_alt ?_ (opsT_alt ?_ opsT_stop)
          · repeat (first | refine go_run ?_ | (refine go_newP ?_; clear hw; intro p w hw) | (refine go_newWr ?_; clear hw; intro w hw) | (refine go_newS ?_; clear hw; intro s w hw))
            have oa := (rsO (s := a2) hw).one
            have ob := (rsO (s := b2) hw).one
            have oc := (rsO (s := c2) hw).one
            refine st_build3 (v1 := a2) (v2 := b2) (v3 := c2) rfl rfl rfl rfl (by simp only [List.all_cons, List.all_nil, oa, ob, oc]; rfl) ?_
            repeat (first | refine go_run ?_ | (refine go_newP ?_; clear hw; intro p w hw) | (refine go_newWr ?_; clear hw; intro w hw) | (refine go_newS ?_; clear hw; intro s w hw))
            obtain ⟨po, hpo⟩ : ∃ po, po = p := ⟨p, rfl⟩
            subst hpo
            repeat (first | refine go_run ?_ | (refine go_newP ?_; clear hw; intro p w hw) | (refine go_newS ?_; clear hw; intro s w hw))
            refine st_boxAgg (n := 4) (p := po) (vs := [a2, b2, c2, .slice none 0 0]) rfl rfl hw inferInstance rfl rfl (by simp only [List.all_cons, List.all_nil, oa, ob, oc]; rfl) ?_
            clear hw
            intro w hw
            repeat (first | refine go_run ?_ | (refine go_newP ?_; clear hw; intro p w hw) | (refine go_newWr ?_; clear hw; intro w hw) | (refine go_newS ?_; clear hw; intro s w hw))
            have hw2 : Sat w0 w [Box po 26 [a2, b2, c2, .slice none 0 0], OS tInt 3 a2 t.vars, OS tInt 3 b2 t.init, OS tFact 77 c2 t.goal, Box pr 26 [.slice none 0 0, .slice none 0 0, .slice none 0 0, .slice none 0 0], Box pt 26 [a, b, c, d]] := hw.sel
            exact ⟨(po, a2, b2, c2), ⟨rfl, trivial⟩, by repeat (first | exact agree_refl | (apply agree_upd rfl) | (apply agree_mix rfl) | (apply agree_sets rfl)), hw2⟩
          · repeat (first | refine go_run ?_ | (refine go_newP ?_; clear hw; intro p w hw) | (refine go_newWr ?_; clear hw; intro w hw) | (refine go_newS ?_; clear hw; intro s w hw))
            obtain ⟨po, hpo⟩ : ∃ po, po = p := ⟨p, rfl⟩
            subst hpo
            repeat (first | refine go_run ?_ | (refine go_newP ?_; clear hw; intro p w hw) | (refine go_newWr ?_; clear hw; intro w hw) | (refine go_newS ?_; clear hw; intro s w hw))
            have oa := (rsO (s := a2) hw).one
            have ob := (rsO (s := b2) hw).one
            have oc := (rsO (s := c2) hw).one
            refine st_build3 (v1 := a2) (v2 := b2) (v3 := c2) rfl rfl rfl rfl (by simp only [List.all_cons, List.all_nil, oa, ob, oc]; rfl) ?_
            repeat (first | refine go_run ?_ | (refine go_newP ?_; clear hw; intro p w hw) | (refine go_newS ?_; clear hw; intro s w hw))
            refine st_boxAgg (n := 4) (p := po) (vs := [a2, b2, c2, .slice none 0 0]) rfl rfl hw inferInstance rfl rfl (by simp only [List.all_cons, List.all_nil, oa, ob, oc]; rfl) ?_
            clear hw
            intro w hw
            repeat (first | refine go_run ?_ | (refine go_newP ?_; clear hw; intro p w hw) | (refine go_newWr ?_; clear hw; intro w hw) | (refine go_newS ?_; clear hw; intro s w hw))
            have hw2 : Sat w0 w [Box po 26 [a2, b2, c2, .slice none 0 0], OS tInt 3 a2 t.vars, OS tInt 3 b2 t.init, OS tFact 77 c2 t.goal, Box pr 26 [.slice none 0 0, .slice none 0 0, .slice none 0 0, .slice none 0 0], Box pt 26 [a, b, c, d]] := hw.sel
            exact ⟨(po, a2, b2, c2), ⟨rfl, trivial⟩, by repeat (first | exact agree_refl | (apply agree_upd rfl) | (apply agree_mix rfl) | (apply agree_sets rfl)), hw2⟩
        · repeat (first | refine go_run ?_ | (refine go_newP ?_; clear hw; intro p w hw) | (refine go_newWr ?_; clear hw; intro w hw) | (refine go_newS ?_; clear hw; intro s w hw))
          obtain ⟨po, hpo⟩ : ∃ po, po = p := ⟨p, rfl⟩
          subst hpo
          repeat (first | refine go_run ?_ | (refine go_newP ?_; clear hw; intro p w hw) | (refine go_newWr ?_; clear hw; intro w hw) | (refine go_newS ?_; clear hw; intro s w hw))
          refine st_call rfl (CloneF_spec (hc.at hw) (by omega)) ?_
          rintro _ w' ⟨c2, rfl, hk'⟩
          replace hw := hw.call1 hk'
          clear hk'
          refine ⟨_, rfl, ?_⟩
          repeat (first | refine go_run ?_ | (refine go_newP ?_; clear hw; intro p w hw) | (refine go_newWr ?_; clear hw; intro w hw) | (refine go_newS ?_; clear hw; intro s w hw))
          repeat (first | refine go_run ?_ | (refine go_newP ?_; clear hw; intro p w hw) | (refine go_newWr ?_; clear hw; intro w hw) | (refine go_newS ?_; clear hw; intro s w hw))
          have oa := (rsO (s := a2) hw).one
          have ob := (rsO (s := b2) hw).one
          have oc := (rsO (s := c2) hw).one
          refine st_build3 (v1 := a2) (v2 := b2) (v3 := c2) rfl rfl rfl rfl (by simp only [List.all_cons, List.all_nil, oa, ob, oc]; rfl) ?_
          repeat (first | refine go_run ?_ | (refine go_newP ?_; clear hw; intro p w hw) | (refine go_newS ?_; clear hw; intro s w hw))
          refine st_boxAgg (n := 4) (p := po) (vs := [a2, b2, c2, .slice none 0 0]) rfl rfl hw inferInstance rfl rfl (by simp only [List.all_cons, List.all_nil, oa, ob, oc]; rfl) ?_
          clear hw
          intro w hw
          repeat (first | refine go_run ?_ | (refine go_newP ?_; clear hw; intro p w hw) | (refine go_newWr ?_; clear hw; intro w hw) | (refine go_newS ?_; clear hw; intro s w hw))
          have hw2 : Sat w0 w [Box po 26 [a2, b2, c2, .slice none 0 0], OS tInt 3 a2 t.vars, OS tInt 3 b2 t.init, OS tFact 77 c2 t.goal, Box pr 26 [.slice none 0 0, .slice none 0 0, .slice none 0 0, .slice none 0 0], Box pt 26 [a, b, c, d]] := hw.sel
          exact ⟨(po, a2, b2, c2), ⟨rfl, trivial⟩, by repeat (first | exact agree_refl | (apply agree_upd rfl) | (apply agree_mix rfl) | (apply agree_sets rfl)), hw2⟩
      · repeat (first | refine go_run ?_ | (refine go_newP ?_; clear hw; intro p w hw) | (refine go_newWr ?_; clear hw; intro w hw) | (refine go_newS ?_; clear hw; intro s w hw))
        obtain ⟨po, hpo⟩ : ∃ po, po = p := ⟨p, rfl⟩
        subst hpo
        repeat (first | refine go_run ?_ | (refine go_newP ?_; clear hw; intro p w hw) | (refine go_newWr ?_; clear hw; intro w hw) | (refine go_newS ?_; clear hw; intro s w hw))
        refine st_call rfl (Clone_spec (hb.at hw) (by omega)) ?_
        rintro _ w' ⟨b2, rfl, hk'⟩
        replace hw := hw.call1 hk'
        clear hk'
        refine ⟨_, rfl, ?_⟩
        repeat (first | refine go_run ?_ | (refine go_newP ?_; clear hw; intro p w hw) | (refine go_newWr ?_; clear hw; intro w hw) | (refine go_newS ?_; clear hw; intro s w hw))
        repeat (first | refine go_run ?_ | (refine go_newP ?_; clear hw; intro p w hw) | (refine go_newWr ?_; clear hw; intro w hw) | (refine go_newS ?_; clear hw; intro s w hw))
        refine st_call rfl (CloneF_spec (hc.at hw) (by omega)) ?_
        rintro _ w' ⟨c2, rfl, hk'⟩
        replace hw := hw.call1 hk'
        clear hk'
        refine ⟨_, rfl, ?_⟩
        repeat (first | refine go_run ?_ | (refine go_newP ?_; clear hw; intro p w hw) | (refine go_newWr ?_; clear hw; intro w hw) | (refine go_newS ?_; clear hw; intro s w hw))
        repeat (first | refine go_run ?_ | (refine go_newP ?_; clear hw; intro p w hw) | (refine go_newWr ?_; clear hw; intro w hw) | (refine go_newS ?_; clear hw; intro s w hw))
        have oa := (rsO (s := a2) hw).one
        have ob := (rsO (s := b2) hw).one
        have oc := (rsO (s := c2) hw).one
        refine st_build3 (v1 := a2) (v2 := b2) (v3 := c2) rfl rfl rfl rfl (by simp only [List.all_cons, List.all_nil, oa, ob, oc]; rfl) ?_
        repeat (first | refine go_run ?_ | (refine go_newP ?_; clear hw; intro p w hw) | (refine go_newS ?_; clear hw; intro s w hw))
        refine st_boxAgg (n := 4) (p := po) (vs := [a2, b2, c2, .slice none 0 0]) rfl rfl hw inferInstance rfl rfl (by simp only [List.all_cons, List.all_nil, oa, ob, oc]; rfl) ?_
        clear hw
        intro w hw
        repeat (first | refine go_run ?_ | (refine go_newP ?_; clear hw; intro p w hw) | (refine go_newWr ?_; clear hw; intro w hw) | (refine go_newS ?_; clear hw; intro s w hw))
        have hw2 : Sat w0 w [Box po 26 [a2, b2, c2, .slice none 0 0], OS tInt 3 a2 t.vars, OS tInt 3 b2 t.init, OS tFact 77 c2 t.goal, Box pr 26 [.slice none 0 0, .slice none 0 0, .slice none 0 0, .slice none 0 0], Box pt 26 [a, b, c, d]] := hw.sel
        exact ⟨(po, a2, b2, c2), ⟨rfl, trivial⟩, by repeat (first | exact agree_refl | (apply agree_upd rfl) | (apply agree_mix rfl) | (apply agree_sets rfl)), hw2⟩
    · repeat (first | refine go_run ?_ | (refine go_newP ?_; clear hw; intro p w hw) | (refine go_newWr ?_; clear hw; intro w hw) | (refine go_newS ?_; clear hw; intro s w hw))
      obtain ⟨po, hpo⟩ : ∃ po, po = p := ⟨p, rfl⟩
      subst hpo
      repeat (first | refine go_run ?_ | (refine go_newP ?_; clear hw; intro p w hw) | (refine go_newWr ?_; clear hw; intro w hw) | (refine go_newS ?_; clear hw; intro s w hw))
      refine st_call rfl (Clone_spec (ha.at hw) (by omega)) ?_
      rintro _ w' ⟨a2, rfl, hk'⟩
      replace hw := hw.call1 hk'
      clear hk'
      refine ⟨_, rfl, ?_⟩
      repeat (first | refine go_run ?_ | (refine go_newP ?_; clear hw; intro p w hw) | (refine go_newWr ?_; clear hw; intro w hw) | (refine go_newS ?_; clear hw; intro s w hw))
      repeat (first | refine go_run ?_ | (refine go_newP ?_; clear hw; intro p w hw) | (refine go_newWr ?_; clear hw; intro w hw) | (refine go_newS ?_; clear hw; intro s w hw))
      refine st_call rfl (Clone_spec (hb.at hw) (by omega)) ?_
      rintro _ w' ⟨b2, rfl, hk'⟩
      replace hw := hw.call1 hk'
      clear hk'
      refine ⟨_, rfl, ?_⟩
      repeat (first | refine go_run ?_ | (refine go_newP ?_; clear hw; intro p w hw) | (refine go_newWr ?_; clear hw; intro w hw) | (refine go_newS ?_; clear hw; intro s w hw))
      repeat (first | refine go_run ?_ | (refine go_newP ?_; clear hw; intro p w hw) | (refine go_newWr ?_; clear hw; intro w hw) | (refine go_newS ?_; clear hw; intro s w hw))
      refine st_call rfl (CloneF_spec (hc.at hw) (by omega)) ?_
      rintro _ w' ⟨c2, rfl, hk'⟩
      replace hw := hw.call1 hk'
      clear hk'
      refine ⟨_, rfl, ?_⟩
      repeat (first | refine go_run ?_ | (refine go_newP ?_; clear hw; intro p w hw) | (refine go_newWr ?_; clear hw; intro w hw) | (refine go_newS ?_; clear hw; intro s w hw))
      repeat (first | refine go_run ?_ | (refine go_newP ?_; clear hw; intro p w hw) | (refine go_newWr ?_; clear hw; intro w hw) | (refine go_newS ?_; clear hw; intro s w hw))
      have oa := (rsO (s := a2) hw).one
      have ob := (rsO (s := b2) hw).one
      have oc := (rsO (s := c2) hw).one
      refine st_build3 (v1 := a2) (v2 := b2) (v3 := c2) rfl rfl rfl rfl (by simp only [List.all_cons, List.all_nil, oa, ob, oc]; rfl) ?_
      repeat (first | refine go_run ?_ | (refine go_newP ?_; clear hw; intro p w hw) | (refine go_newS ?_; clear hw; intro s w hw))
      refine st_boxAgg (n := 4) (p := po) (vs := [a2, b2, c2, .slice none 0 0]) rfl rfl hw inferInstance rfl rfl (by simp only [List.all_cons, List.all_nil, oa, ob, oc]; rfl) ?_
      clear hw
      intro w hw
      repeat (first | refine go_run ?_ | (refine go_newP ?_; clear hw; intro p w hw) | (refine go_newWr ?_; clear hw; intro w hw) | (refine go_newS ?_; clear hw; intro s w hw))
      have hw2 : Sat w0 w [Box po 26 [a2, b2, c2, .slice none 0 0], OS tInt 3 a2 t.vars, OS tInt 3 b2 t.init, OS tFact 77 c2 t.goal, Box pr 26 [.slice none 0 0, .slice none 0 0, .slice none 0 0, .slice none 0 0], Box pt 26 [a, b, c, d]] := hw.sel
      exact ⟨(po, a2, b2, c2), ⟨rfl, trivial⟩, by repeat (first | exact agree_refl | (apply agree_upd rfl) | (apply agree_mix rfl) | (apply agree_sets rfl)), hw2⟩
  clear hw
  rintro σ0 ⟨po, a2, b2, c2⟩ w hw
  simp only at hw
  have hw1 : Sat w0 w [OS tOp 56 (.slice none 0 0) [], RdH (OpsF t 0 []), RdH (HeadF t a2 b2 c2), Box po 26 [a2, b2, c2, .slice none 0 0], Box pr 26 [.slice none 0 0, .slice none 0 0, .slice none 0 0, .slice none 0 0], Box pt 26 [a, b, c, d]] := by
    have hw2 : Sat w0 w [OS tInt 3 a2 t.vars, OS tInt 3 b2 t.init, OS tFact 77 c2 t.goal, Box po 26 [a2, b2, c2, .slice none 0 0], Box pr 26 [.slice none 0 0, .slice none 0 0, .slice none 0 0, .slice none 0 0], Box pt 26 [a, b, c, d]] := hw.sel
    have hw3 := Sat.rd (Δ := [OS tInt 3 a2 t.vars, OS tInt 3 b2 t.init, OS tFact 77 c2 t.goal]) (φ := HeadF t a2 b2 c2) (fun _ w h => ⟨h.rs 0 rfl, h.rs 1 rfl, h.rs 2 rfl⟩) hw2
    exact (Sat.rd0 (φ := OpsF t 0 []) (fun w i hi => absurd hi (Nat.not_lt_zero _)) hw3).nil
  clear hw
  have hw := hw1
  clear hw1
  repeat (first | refine go_run ?_ | (refine go_newP ?_; clear hw; intro p w hw) | (refine go_newW ?_; clear hw; intro w hw) | (refine go_newS ?_; clear hw; intro s w hw))
  refine vc_loop3 [5, 6, 8, 22, 23, 24, 25, 26, 27, 28, 29, 30, 31, 32, 33, 34, 35, 36, 37, 38, 39, 40, 41, 42, 43, 44, 45, 46, 47, 48, 49, 50, 51, 52, 53, 54] (G := Nat) (H := Value) (I := List OpV) (fun k _ _ => [(22, .int .i64 k)]) (fun k dv ws w => k ≤ t.ops.length ∧ ws.length = k ∧ Sat w0 w [OS tOp 56 dv ws, RdH (OpsF t k ws), RdH (HeadF t a2 b2 c2), Box po 26 [a2, b2, c2, dv], Box pr 26 [.slice none 0 0, .slice none 0 0, .slice none 0 0, .slice none 0 0], Box pt 26 [a, b, c, d]]) (fun k _ _ => t.ops.length - k) 0 (.slice none 0 0) [] (fun _ _ _ => rfl) ⟨rfl, trivial⟩ ⟨Nat.zero_le _, rfl, hw⟩ ?_
  clear hw
  rintro σ k dv ws w ⟨hk, hwl, hw⟩
  repeat (first | refine go_run ?_ | (refine go_newP ?_; clear hw; intro p w hw) | (refine go_newW ?_; clear hw; intro w hw) | (refine go_newS ?_; clear hw; intro s w hw))
  refine go_if (fun h1 => ?_) (fun h1 => ?_)
  · have hkl : k < t.ops.length := by omega
    have hop := hd.at_ k hkl
    have hone := hop.one
    have hpre := hop.pre
    have hgo := hg.op k hkl
    have hpl := facts_len hgo.pre
    have hel := hgo.effs
    obtain ⟨us, hus⟩ := hop.effs
    have husr := hus.rs
    have husl := hus.len
    repeat (first | refine go_run ?_ | (refine go_newP ?_; clear hw; intro p w hw) | (refine go_newWr ?_; clear hw; intro w hw) | (refine go_newS ?_; clear hw; intro s w hw))
    obtain ⟨p5, hp5⟩ : ∃ p5, p5 = p := ⟨p, rfl⟩
    subst hp5
    refine st_call rfl (CloneF_spec (hpre.at hw) (by omega)) ?_
    rintro _ w' ⟨pv, rfl, hk'⟩
    replace hw := hw.call1 hk'
    clear hk'
    refine ⟨_, rfl, ?_⟩
    have opv := (rsO (s := pv) hw).one
    repeat (first | refine go_run ?_ | (refine go_newP ?_; clear hw; intro p w hw) | (refine go_newS ?_; clear hw; intro s w hw))
    refine st_box (k := 2) (p := p5) (v := pv) rfl rfl opv hw inferInstance (by rw [tOp.ok]; decide) ?_
    clear hw
    intro w hw
    have hw1 : Sat w0 w [OS tEff 80 (.slice none 0 0) [], RdH (EffJ (t.ops.getD k dOp).effs 0 []), Box p5 56 (tOp.enc ⟨(eget tOp vs k).name, (eget tOp vs k).cost, pv, (eget tOp vs k).effs⟩), OS tFact 77 pv (t.ops.getD k dOp).pre, OS tOp 56 dv ws, RdH (OpsF t k ws), RdH (HeadF t a2 b2 c2), Box po 26 [a2, b2, c2, dv], Box pr 26 [.slice none 0 0, .slice none 0 0, .slice none 0 0, .slice none 0 0], Box pt 26 [a, b, c, d]] := by
      have hw2 : Sat w0 w [OS tFact 77 pv (t.ops.getD k dOp).pre, Box p5 56 (tOp.enc ⟨(eget tOp vs k).name, (eget tOp vs k).cost, pv, (eget tOp vs k).effs⟩), OS tOp 56 dv ws, RdH (OpsF t k ws), RdH (HeadF t a2 b2 c2), Box po 26 [a2, b2, c2, dv], Box pr 26 [.slice none 0 0, .slice none 0 0, .slice none 0 0, .slice none 0 0], Box pt 26 [a, b, c, d]] := hw
      exact ((Sat.rd0 (φ := EffJ (t.ops.getD k dOp).effs 0 []) (fun w i hi => absurd hi (Nat.not_lt_zero _)) hw2).nil (T := tEff) (e := 80)).sel
    clear hw
    have hw := hw1
    clear hw1
    repeat (first | refine go_run ?_ | (refine go_newP ?_; clear hw; intro p w hw) | (refine go_newWr ?_; clear hw; intro w hw) | (refine go_newS ?_; clear hw; intro s w hw))
    refine vc_loop3 [6, 8, 33, 34, 35, 36, 37, 38, 39, 40, 41, 42, 43, 44, 45] (G := Nat) (H := Value) (I := List EffV) (fun j ev _ => [(33, .int .i64 j), (6, ev)]) (fun j ev es w => j ≤ (t.ops.getD k dOp).effs.length ∧ es.length = j ∧ Sat w0 w [OS tEff 80 ev es, RdH (EffJ (t.ops.getD k dOp).effs j es), Box p5 56 (tOp.enc ⟨(eget tOp vs k).name, (eget tOp vs k).cost, pv, (eget tOp vs k).effs⟩), OS tFact 77 pv (t.ops.getD k dOp).pre, OS tOp 56 dv ws, RdH (OpsF t k ws), RdH (HeadF t a2 b2 c2), Box po 26 [a2, b2, c2, dv], Box pr 26 [.slice none 0 0, .slice none 0 0, .slice none 0 0, .slice none 0 0], Box pt 26 [a, b, c, d]]) (fun j _ _ => (t.ops.getD k dOp).effs.length - j) 0 (.slice none 0 0) [] (fun _ _ _ => rfl) ⟨rfl, rfl, trivial⟩ ⟨Nat.zero_le _, rfl, hw⟩ ?_
    clear hw
    rintro σ1 j ev es w ⟨hj, hesl, hw⟩
    repeat (first | refine go_run ?_ | (refine go_newP ?_; clear hw; intro p w hw) | (refine go_newW ?_; clear hw; intro w hw) | (refine go_newS ?_; clear hw; intro s w hw))
    refine go_if (fun h2 => ?_) (fun h2 => ?_)
    · have hjl : j < (t.ops.getD k dOp).effs.length := by omega
      have hue := hus.at_ j hjl
      have huo := hue.one
      have hfl := facts_len (hgo.eff j hjl).1
      have hwhen := hue.when
      repeat (first | refine go_run ?_ | (refine go_newP ?_; clear hw; intro p w hw) | (refine go_newWr ?_; clear hw; intro w hw) | (refine go_newS ?_; clear hw; intro s w hw))
      obtain ⟨p8, hp8⟩ : ∃ p8, p8 = p := ⟨p, rfl⟩
      subst hp8
      refine st_call rfl (CloneF_spec (hwhen.at hw) (by omega)) ?_
      rintro _ w' ⟨fv, rfl, hk'⟩
      replace hw := hw.call1 hk'
      clear hk'
      refine ⟨_, rfl, ?_⟩
      have ofv := (rsO (s := fv) hw).one
      repeat (first | refine go_run ?_ | (refine go_newP ?_; clear hw; intro p w hw) | (refine go_newS ?_; clear hw; intro s w hw))
      refine st_box0 (p := p8) (v := fv) rfl rfl ofv hw inferInstance (by rw [tEff.ok]; decide) ?_
      clear hw
      intro w hw
      obtain ⟨e1, he1⟩ : ∃ e1 : EffV, e1 = ⟨fv, (eget tEff us j).var, (eget tEff us j).val⟩ := ⟨_, rfl⟩
      have ho1 : ∀ v ∈ tEff.enc e1, v.oneCell' = true := by
        rw [he1]
        intro v hv
        simp only [tEff, List.mem_cons, List.not_mem_nil, or_false] at hv
        rcases hv with rfl | rfl | rfl
        · exact ofv
        · rfl
        · rfl
      have hw1 : Sat w0 w [RdH (fun w => REff w e1 ((t.ops.getD k dOp).effs.getD j dEff)), Box p8 80 (tEff.enc e1), OS tEff 80 ev es, RdH (EffJ (t.ops.getD k dOp).effs j es), Box p5 56 (tOp.enc ⟨(eget tOp vs k).name, (eget tOp vs k).cost, pv, (eget tOp vs k).effs⟩), OS tFact 77 pv (t.ops.getD k dOp).pre, OS tOp 56 dv ws, RdH (OpsF t k ws), RdH (HeadF t a2 b2 c2), Box po 26 [a2, b2, c2, dv], Box pr 26 [.slice none 0 0, .slice none 0 0, .slice none 0 0, .slice none 0 0], Box pt 26 [a, b, c, d]] := by
        have hw2 : Sat w0 w [OS tFact 77 fv ((t.ops.getD k dOp).effs.getD j dEff).when, Box p8 80 (tEff.enc e1), OS tEff 80 ev es, RdH (EffJ (t.ops.getD k dOp).effs j es), Box p5 56 (tOp.enc ⟨(eget tOp vs k).name, (eget tOp vs k).cost, pv, (eget tOp vs k).effs⟩), OS tFact 77 pv (t.ops.getD k dOp).pre, OS tOp 56 dv ws, RdH (OpsF t k ws), RdH (HeadF t a2 b2 c2), Box po 26 [a2, b2, c2, dv], Box pr 26 [.slice none 0 0, .slice none 0 0, .slice none 0 0, .slice none 0 0], Box pt 26 [a, b, c, d]] := by rw [he1]; exact hw
        exact Sat.rd (Δ := [OS tFact 77 fv ((t.ops.getD k dOp).effs.getD j dEff).when]) (φ := fun w => REff w e1 ((t.ops.getD k dOp).effs.getD j dEff)) (fun _ _ h => by rw [he1]; exact ⟨hue.var, hue.val, h.rs 0 rfl⟩) hw2
      clear hw
      have hw := hw1
      clear hw1
      repeat (first | refine go_run ?_ | (refine go_newP ?_; clear hw; intro p w hw) | (refine go_newWr ?_; clear hw; intro w hw) | (refine go_newS ?_; clear hw; intro s w hw))
      refine st_buildSlice1 tEff (x1 := e1) rfl rfl rfl (Nat.le_of_ble_eq_true rfl) (Nat.zero_lt_succ _) hw ?_
      clear hw
      intro bs w hw
      repeat (first | refine go_run ?_ | (refine go_newP ?_; clear hw; intro p w hw) | (refine go_newWr ?_; clear hw; intro w hw) | (refine go_newS ?_; clear hw; intro s w hw))
      refine st_append (s := ev) (s2 := bs) inferInstance rfl rfl (rsO hw) rfl rfl (fun x hx v hv => by rw [List.mem_singleton.1 hx] at hv; exact ho1 v hv) (by simp only [List.length_cons, List.length_nil]; omega) (by unfold big; simp only [List.length_cons, List.length_nil]; omega) hw ?_
      clear hw
      intro ev2 w hw
      repeat (first | refine go_run ?_ | (refine go_newP ?_; clear hw; intro p w hw) | (refine go_newWr ?_; clear hw; intro w hw) | (refine go_newS ?_; clear hw; intro s w hw))
      have hw1 : Sat w0 w [OS tEff 80 ev2 (es ++ [e1]), RdH (EffJ (t.ops.getD k dOp).effs (j + 1) (es ++ [e1])), Box p5 56 (tOp.enc ⟨(eget tOp vs k).name, (eget tOp vs k).cost, pv, (eget tOp vs k).effs⟩), OS tFact 77 pv (t.ops.getD k dOp).pre, OS tOp 56 dv ws, RdH (OpsF t k ws), RdH (HeadF t a2 b2 c2), Box po 26 [a2, b2, c2, dv], Box pr 26 [.slice none 0 0, .slice none 0 0, .slice none 0 0, .slice none 0 0], Box pt 26 [a, b, c, d]] := by
        have hw2 : Sat w0 w [OS tEff 80 bs [e1], RdH (fun w => REff w e1 ((t.ops.getD k dOp).effs.getD j dEff)), Box p8 80 (tEff.enc e1), OS tEff 80 ev2 (es ++ [e1]), RdH (EffJ (t.ops.getD k dOp).effs j es), Box p5 56 (tOp.enc ⟨(eget tOp vs k).name, (eget tOp vs k).cost, pv, (eget tOp vs k).effs⟩), OS tFact 77 pv (t.ops.getD k dOp).pre, OS tOp 56 dv ws, RdH (OpsF t k ws), RdH (HeadF t a2 b2 c2), Box po 26 [a2, b2, c2, dv], Box pr 26 [.slice none 0 0, .slice none 0 0, .slice none 0 0, .slice none 0 0], Box pt 26 [a, b, c, d]] := hw
        have hw3 : Sat w0 w [RdH (fun w => REff w e1 ((t.ops.getD k dOp).effs.getD j dEff)), RdH (EffJ (t.ops.getD k dOp).effs j es), OS tEff 80 ev2 (es ++ [e1]), Box p5 56 (tOp.enc ⟨(eget tOp vs k).name, (eget tOp vs k).cost, pv, (eget tOp vs k).effs⟩), OS tFact 77 pv (t.ops.getD k dOp).pre, OS tOp 56 dv ws, RdH (OpsF t k ws), RdH (HeadF t a2 b2 c2), Box po 26 [a2, b2, c2, dv], Box pr 26 [.slice none 0 0, .slice none 0 0, .slice none 0 0, .slice none 0 0], Box pt 26 [a, b, c, d]] := hw2.sel
        exact (Sat.rd2 (χ := EffJ (t.ops.getD k dOp).effs (j + 1) (es ++ [e1])) (fun w h1 h2 => h2.step hesl h1) hw3).swap
      exact ⟨j + 1, _, _, ⟨rfl, rfl, trivial⟩, by repeat (first | exact agree_refl | (apply agree_upd rfl) | (apply agree_mix rfl) | (apply agree_sets rfl)), ⟨by omega, by simp [hesl], hw1⟩, by omega⟩
    have hje : j = (t.ops.getD k dOp).effs.length := by omega
    subst hje
    have oev := (rsO (s := ev) hw).one
    repeat (first | refine go_run ?_ | (refine go_newP ?_; clear hw; intro p w hw) | (refine go_newS ?_; clear hw; intro s w hw))
    refine st_box (k := 3) (p := p5) (v := ev) rfl rfl oev hw inferInstance (by rw [tOp.ok]; decide) ?_
    clear hw
    intro w hw
    have hw1 : Sat w0 w [OS tEff 80 ev es, RdH (EffJ (t.ops.getD k dOp).effs (t.ops.getD k dOp).effs.length es), Box p5 56 (tOp.enc ⟨(eget tOp vs k).name, (eget tOp vs k).cost, pv, ev⟩), OS tFact 77 pv (t.ops.getD k dOp).pre, OS tOp 56 dv ws, RdH (OpsF t k ws), RdH (HeadF t a2 b2 c2), Box po 26 [a2, b2, c2, dv], Box pr 26 [.slice none 0 0, .slice none 0 0, .slice none 0 0, .slice none 0 0], Box pt 26 [a, b, c, d]] := hw
    clear hw
    have hw := hw1
    clear hw1
    obtain ⟨vo, hvo⟩ : ∃ vo : OpV, vo = ⟨(eget tOp vs k).name, (eget tOp vs k).cost, pv, ev⟩ := ⟨_, rfl⟩
    rw [← hvo] at hw
    have hvo1 : ∀ v ∈ tOp.enc vo, v.oneCell' = true := by
      rw [hvo]
      intro v hv
      simp only [tOp, List.mem_cons, List.not_mem_nil, or_false] at hv
      rcases hv with rfl | rfl | rfl | rfl
      · rfl
      · rfl
      · exact opv
      · exact oev
    have hw1 : Sat w0 w [RdH fun w => ROp w vo (t.ops.getD k dOp), Box p5 56 (tOp.enc vo), OS tOp 56 dv ws, RdH (OpsF t k ws), RdH (HeadF t a2 b2 c2), Box po 26 [a2, b2, c2, dv], Box pr 26 [.slice none 0 0, .slice none 0 0, .slice none 0 0, .slice none 0 0], Box pt 26 [a, b, c, d]] := by
      have hw2 : Sat w0 w [RdH (EffJ (t.ops.getD k dOp).effs (t.ops.getD k dOp).effs.length es), OS tEff 80 ev es, OS tFact 77 pv (t.ops.getD k dOp).pre, Box p5 56 (tOp.enc vo), OS tOp 56 dv ws, RdH (OpsF t k ws), RdH (HeadF t a2 b2 c2), Box po 26 [a2, b2, c2, dv], Box pr 26 [.slice none 0 0, .slice none 0 0, .slice none 0 0, .slice none 0 0], Box pt 26 [a, b, c, d]] := hw.sel
      refine Sat.rd (Δ := [RdH (EffJ (t.ops.getD k dOp).effs (t.ops.getD k dOp).effs.length es), OS tEff 80 ev es, OS tFact 77 pv (t.ops.getD k dOp).pre]) (φ := fun w => ROp w vo (t.ops.getD k dOp)) (fun _ w h => ?_) hw2
      have hff := h.rdE 0 rfl
      rw [hvo]
      exact ⟨hop.name, hop.size, hop.cost, h.rs 2 rfl, es, h.rs 1 rfl, hesl, hff⟩
    clear hw
    have hw := hw1
    clear hw1
    repeat (first | refine go_run ?_ | (refine go_newP ?_; clear hw; intro p w hw) | (refine go_newWr ?_; clear hw; intro w hw) | (refine go_newS ?_; clear hw; intro s w hw))
    refine st_buildSlice1 tOp (x1 := vo) rfl rfl rfl (Nat.le_of_ble_eq_true rfl) (Nat.zero_lt_succ _) hw ?_
    clear hw
    intro bs w hw
    repeat (first | refine go_run ?_ | (refine go_newP ?_; clear hw; intro p w hw) | (refine go_newWr ?_; clear hw; intro w hw) | (refine go_newS ?_; clear hw; intro s w hw))
    refine st_append (s := dv) (s2 := bs) inferInstance rfl rfl (rsO hw) rfl rfl (fun x hx v hv => by rw [List.mem_singleton.1 hx] at hv; exact hvo1 v hv) (by simp only [List.length_cons, List.length_nil]; omega) (by unfold big; simp only [List.length_cons, List.length_nil]; omega) hw ?_
    clear hw
    intro dv2 w hw
    have odv := (rsO (s := dv2) hw).one
    repeat (first | refine go_run ?_ | (refine go_newP ?_; clear hw; intro p w hw) | (refine go_newWr ?_; clear hw; intro w hw) | (refine go_newS ?_; clear hw; intro s w hw))
    have hw1 : Sat w0 w [OS tOp 56 dv2 (ws ++ [vo]), RdH (OpsF t (k + 1) (ws ++ [vo])), RdH (HeadF t a2 b2 c2), Box po 26 [a2, b2, c2, dv2], Box pr 26 [.slice none 0 0, .slice none 0 0, .slice none 0 0, .slice none 0 0], Box pt 26 [a, b, c, d]] := by
      have hw2 : Sat w0 w [OS tOp 56 bs [vo], RdH fun w => ROp w vo (t.ops.getD k dOp), Box p5 56 (tOp.enc vo), OS tOp 56 dv2 (ws ++ [vo]), RdH (OpsF t k ws), RdH (HeadF t a2 b2 c2), Box po 26 [a2, b2, c2, dv2], Box pr 26 [.slice none 0 0, .slice none 0 0, .slice none 0 0, .slice none 0 0], Box pt 26 [a, b, c, d]] := hw
      have hw3 : Sat w0 w [RdH fun w => ROp w vo (t.ops.getD k dOp), RdH (OpsF t k ws), OS tOp 56 dv2 (ws ++ [vo]), RdH (HeadF t a2 b2 c2), Box po 26 [a2, b2, c2, dv2], Box pr 26 [.slice none 0 0, .slice none 0 0, .slice none 0 0, .slice none 0 0], Box pt 26 [a, b, c, d]] := hw2.sel
      exact (Sat.rd2 (χ := OpsF t (k + 1) (ws ++ [vo])) (fun w h1 h2 => h2.step hwl h1) hw3).swap
    exact ⟨k + 1, _, _, ⟨rfl, trivial⟩, by repeat (first | exact agree_refl | (apply agree_upd rfl) | (apply agree_mix rfl) | (apply agree_sets rfl)), ⟨by omega, by simp [hwl], hw1⟩, by omega⟩
  have hke : k = t.ops.length := by omega
  subst hke
  have odv := (rsO (s := dv) hw).one
  have hw1 : Sat w0 w [RdH fun w => RTask w a2 b2 c2 dv ws t, Box po 26 [a2, b2, c2, dv], Box pr 26 [.slice none 0 0, .slice none 0 0, .slice none 0 0, .slice none 0 0], Box pt 26 [a, b, c, d]] :=
    Sat.rd (Δ := [OS tOp 56 dv ws, RdH (OpsF t t.ops.length ws), RdH (HeadF t a2 b2 c2)]) (φ := fun w => RTask w a2 b2 c2 dv ws t) (fun _ w h => ⟨(h.rdE 2 rfl).1, (h.rdE 2 rfl).2.1, (h.rdE 2 rfl).2.2, h.rs 0 rfl, hwl, h.rdE 1 rfl⟩) hw
  clear hw
  have hw := hw1
  clear hw1
  have ht2 := hw.rdE 0 rfl
  have o1 := ht2.vars.one
  have o2 := ht2.init.one
  have o3 := ht2.goal.one
  repeat (first | refine go_run ?_ | (refine go_newP ?_; clear hw; intro p w hw) | (refine go_newS ?_; clear hw; intro s w hw))
  refine st_boxAgg (n := 4) (p := pr) (vs := [a2, b2, c2, dv]) rfl rfl hw inferInstance rfl rfl (by simp only [List.all_cons, List.all_nil, o1, o2, o3, odv]; rfl) ?_
  clear hw
  intro w hw
  repeat (first | refine go_run ?_ | (refine go_newP ?_; clear hw; intro p w hw) | (refine go_newWr ?_; clear hw; intro w hw) | (refine go_newS ?_; clear hw; intro s w hw))
  exact res_cell (p := pr) (vs := [a2, b2, c2, dv]) rfl rfl rfl (hw.boxR 2 rfl) ⟨a2, b2, c2, dv, ws, rfl, hw.sel⟩
end Go.Proofs.YtkmbenhffledpaaGreat

/-
  Contracts of 'estimate.made', 'Blind', of the values of estimates, and of 'For'.
-/
namespace Go.Proofs.YtkmbenhffledpaaGreat
open Go.Sl Go
attribute [local irreducible] vc opsW opsD opV opW PureV ReadV Thn Blk
instance inWEst21 : MethS Tryz.prog 107 "Value" 206 := ⟨by kernel_rfl⟩
/-- A heuristic is read: whatever method it has answers, in proper states, as H. -/
def HVal (w : World) (h : Value) (t : TTask) (H : List Int → Int) : Prop :=
  ∃ (T : Nat) (v u : Value) (f : Nat), h = .iface T v ∧ MethAt Tryz.prog T v "Value" f u ∧ CallT Tryz.prog f ∧ ∀ (w1 : World) (Γ : List HP) (sv : Value) (s : List Int), Sat w w1 Γ → RS tInt w1 sv s → StateOk t.vars s →
    Calls Tryz.prog f #[u, sv] w1 fun e w2 => e = .returned (.int .i64 (H s)) ∧ Sat w1 w2 []
theorem HVal.at {w0 w : World} {Γ : List HP} {h : Value} {t : TTask} {H : List Int → Int} (k : HVal w0 h t H) (hw : Sat w0 w Γ) : HVal w h t H := by
  obtain ⟨T, v, u, f, h1, h2, h3, h4⟩ := k
  exact ⟨T, v, u, f, h1, h2, h3, fun w1 Δ sv s hs => h4 w1 (Δ ++ Γ) sv s (hw.call hs)⟩
theorem HVal.iface {w : World} {h : Value} {t : TTask} {H : List Int → Int} (k : HVal w h t H) : ∃ T v, h = .iface T v := by
  obtain ⟨T, v, u, f, h1, _⟩ := k
  exact ⟨T, v, h1⟩
/-- An estimate is read. -/
def REst (w : World) (p : Addr) (t : TTask) (H : List Int → Int) : Prop := ∃ a b c d h vs, BoxR w p [a, b, c, d, h] ∧ RTask w a b c d vs t ∧ HVal w h t H
theorem REst.at {w0 w : World} {Γ : List HP} {p : Addr} {t : TTask} {H : List Int → Int} (k : REst w0 p t H) (hw : Sat w0 w Γ) : REst w p t H := by
  obtain ⟨a, b, c, d, h, vs, h1, h2, h3⟩ := k
  exact ⟨a, b, c, d, h, vs, h1.at hw, h2.at hw, h3.at hw⟩
open Classical in
noncomputable def estV (t : TTask) (H : List Int → Int) (s : List Int) : Int := if StateOk t.vars s then H s else inf
set_option maxRecDepth 8000 in
set_option maxHeartbeats 2000000 in
theorem eValue_spec {w0 : World} {p : Addr} {t : TTask} {H : List Int → Int} {sv : Value} {s : List Int} (he : REst w0 p t H) (hs : RS tInt w0 sv s) :
    Calls Tryz.prog 12 #[.pointer (some p), sv] w0 fun e w' => e = .returned (.int .i64 (estV t H s)) ∧ Sat w0 w' [] := by
  obtain ⟨a, b, c, d, h, vs, h1, h2, h3⟩ := he
  have ha := h2.vars
  have hw := Sat.start w0
  refine calls_of_vc (args := [.pointer (some p), sv]) mixed Tryz.func12 rfl (by kernel_rfl) (Nat.le_of_ble_eq_true rfl) ?_
  repeat (first | refine go_run ?_ | (refine go_newP ?_; clear hw; intro p w hw) | (refine go_newW ?_; clear hw; intro w hw) | (refine go_newS ?_; clear hw; intro s w hw))
  refine st_call rfl (tProper_spec (ha.at hw) (hs.at hw)) ?_
  rintro _ w' ⟨⟨r, rfl, hr⟩, hk'⟩
  replace hw := hw.call0 hk'
  clear hk'
  refine ⟨_, rfl, ?_⟩
  cases r
  · have hn : estV t H s = inf := if_neg fun h => (by cases hr.2 h)
    repeat (first | refine go_run ?_ | (refine go_newP ?_; clear hw; intro p w hw) | (refine go_newW ?_; clear hw; intro w hw) | (refine go_newS ?_; clear hw; intro s w hw))
    exact res_one (v := .int .i64 1125899906842624) rfl rfl ⟨by rw [hn], hw⟩
  have hok := hr.1 rfl
  have hn : estV t H s = H s := if_pos hok
  obtain ⟨T, v, u, f, rfl, m1, m2, m3⟩ := h3.at hw
  repeat (first | refine go_run ?_ | (refine go_newP ?_; clear hw; intro p w hw) | (refine go_newW ?_; clear hw; intro w hw) | (refine go_newS ?_; clear hw; intro s w hw))
  refine st_invokeM m1 m2 rfl rfl (m3 _ [] sv s (Sat.start _) (hs.at hw) hok) ?_
  rintro _ w' ⟨rfl, hk'⟩
  replace hw := hw.call0 hk'
  clear hk'
  refine ⟨_, rfl, ?_⟩
  repeat (first | refine go_run ?_ | (refine go_newP ?_; clear hw; intro p w hw) | (refine go_newW ?_; clear hw; intro w hw) | (refine go_newS ?_; clear hw; intro s w hw))
  exact res_one (v := .int .i64 (H s)) rfl rfl ⟨by rw [hn], hw⟩
set_option maxRecDepth 8000 in
set_option maxHeartbeats 2000000 in
theorem eFor_spec {w0 : World} {p : Addr} {u t : TTask} {H : List Int → Int} {a b c d : Value} {vs : List OpV} (he : REst w0 p u H) (ht : RTask w0 a b c d vs t) :
    Calls Tryz.prog 31 #[.pointer (some p), .agg #[a, b, c, d]] w0 fun e w' => (∃ r, e = .returned (.bool r) ∧ (r = true ↔ u = t)) ∧ Sat w0 w' [] := by
  obtain ⟨a2, b2, c2, d2, h, us, h1, h2, h3⟩ := he
  have hw := Sat.start w0
  refine calls_of_vc (args := [.pointer (some p), .agg #[a, b, c, d]]) mixed Tryz.func31 rfl (by kernel_rfl) (Nat.le_of_ble_eq_true rfl) ?_
  repeat (first | refine go_run ?_ | (refine go_newP ?_; clear hw; intro p w hw) | (refine go_newWr ?_; clear hw; intro w hw) | (refine go_newS ?_; clear hw; intro s w hw))
  refine vc_plan [.op 0, .op 1, .op 2, .op 3, .op 4, .op 5, .op 6, .op 7, .op 8, .op 9, .op 10] hw (by kernel_rfl) ?_; clear hw; intro w hw
  repeat (first | refine go_run ?_ | (refine go_newP ?_; clear hw; intro p w hw) | (refine go_newWr ?_; clear hw; intro w hw) | (refine go_newS ?_; clear hw; intro s w hw))
  refine step_read rfl (rv_boxRSub (k := 0) (n := 4) (vs := [a2, b2, c2, d2]) rfl (h1.at hw) rfl rfl) ?_
  repeat (first | refine go_run ?_ | (refine go_newP ?_; clear hw; intro p w hw) | (refine go_newWr ?_; clear hw; intro w hw) | (refine go_newS ?_; clear hw; intro s w hw))
  refine st_call rfl (same_spec (h2.at hw) (ht.at hw)) ?_
  rintro _ w' ⟨⟨r, rfl, hr⟩, hk'⟩
  replace hw := hw.call0 hk'
  clear hk'
  refine ⟨_, rfl, ?_⟩
  repeat (first | refine go_run ?_ | (refine go_newP ?_; clear hw; intro p w hw) | (refine go_newWr ?_; clear hw; intro w hw) | (refine go_newS ?_; clear hw; intro s w hw))
  exact res_one (v := .bool r) rfl rfl ⟨⟨r, rfl, hr⟩, hw.sel⟩
/-- The least cost of an operator. -/
def leastK (t : TTask) (k : Nat) : Int := (t.ops.take k).foldl (fun m o => min m o.cost) inf
def leastC (t : TTask) : Int := leastK t t.ops.length
def blindH (t : TTask) (s : List Int) : Int := if HoldFs s t.goal then 0 else leastC t
set_option maxRecDepth 8000 in
theorem blindV_spec {w0 : World} {gv sv : Value} {g : List Fact} {n : Int} {s : List Int} (hg : RS tFact w0 gv g) (hs : RS tInt w0 sv s) :
    Calls Tryz.prog 206 #[.agg #[gv, .int .i64 n], sv] w0 fun e w' => e = .returned (.int .i64 (if HoldFs s g then 0 else n)) ∧ Sat w0 w' [] := by
  have hw := Sat.start w0
  refine calls_of_vc (args := [.agg #[gv, .int .i64 n], sv]) mixed Tryz.func206 rfl (by kernel_rfl) (Nat.le_of_ble_eq_true rfl) ?_
  repeat (first | refine go_run ?_ | (refine go_newP ?_; clear hw; intro p w hw) | (refine go_newW ?_; clear hw; intro w hw) | (refine go_newS ?_; clear hw; intro s w hw))
  refine st_call rfl (tHolds_spec (hg.at hw) (hs.at hw)) ?_
  rintro _ w' ⟨⟨r, rfl, hr⟩, hk'⟩
  replace hw := hw.call0 hk'
  clear hk'
  refine ⟨_, rfl, ?_⟩
  cases r
  · have hn : ¬ HoldFs s g := fun h => by have := hr.2 h; cases this
    rw [if_neg hn]
    repeat (first | refine go_run ?_ | (refine go_newP ?_; clear hw; intro p w hw) | (refine go_newW ?_; clear hw; intro w hw) | (refine go_newS ?_; clear hw; intro s w hw))
    exact res_one (v := .int .i64 n) rfl rfl ⟨rfl, hw.sel⟩
  · rw [if_pos (hr.1 rfl)]
    repeat (first | refine go_run ?_ | (refine go_newP ?_; clear hw; intro p w hw) | (refine go_newW ?_; clear hw; intro w hw) | (refine go_newS ?_; clear hw; intro s w hw))
    exact res_one (v := .int .i64 0) rfl rfl ⟨rfl, hw.sel⟩
set_option maxRecDepth 8000 in
set_option maxHeartbeats 2000000 in
theorem made_spec {w0 : World} {a b c d h : Value} {vs : List OpV} {t : TTask} {H : List Int → Int} (ht : RTask w0 a b c d vs t) (hg : GoodT t) (hh : ∃ T v, h = .iface T v) :
    Calls Tryz.prog 33 #[.agg #[a, b, c, d], h, .nilIface] w0 fun e w' => ∃ p, e = .returned (.tuple #[.pointer (some p), .nilIface]) ∧ Sat w0 w' [RdH fun w => HVal w h t H → REst w p t H] := by
  obtain ⟨T, v, rfl⟩ := hh
  have hw := Sat.start w0
  refine calls_of_vc (args := [.agg #[a, b, c, d], .iface T v, .nilIface]) mixed Tryz.func33 rfl (by kernel_rfl) (Nat.le_of_ble_eq_true rfl) ?_
  repeat (first | refine go_run ?_ | (refine go_newP ?_; clear hw; intro p w hw) | (refine go_newW ?_; clear hw; intro w hw) | (refine go_newS ?_; clear hw; intro s w hw))
  refine st_call rfl (copied_spec (ht.at hw) hg) ?_
  rintro _ w' ⟨a2, b2, c2, d2, vs2, rfl, hk'⟩
  replace hw := hw.call1 hk'
  clear hk'
  refine ⟨_, rfl, ?_⟩
  have ht2 := hw.rdE 0 rfl
  have o1 := ht2.vars.cells1
  have o2 := ht2.init.cells1
  have o3 := ht2.goal.cells1
  have o4 := ht2.ops.rs.cells1
  repeat (first | refine go_run ?_ | (refine go_newP ?_; clear hw; intro p w hw) | (refine go_newWr ?_; clear hw; intro w hw) | (refine go_newS ?_; clear hw; intro s w hw))
  refine st_buildN (vs := [(0, .agg #[a2, b2, c2, d2]), (1, .iface T v)]) (ls := [(0, [a2, b2, c2, d2]), (1, [.iface T v])]) rfl rfl rfl ?_
  refine st_boxAggNew (vs := [a2, b2, c2, d2, .iface T v]) rfl hw ?_
  clear hw
  intro pe w hw
  repeat (first | refine go_run ?_ | (refine go_newP ?_; clear hw; intro p w hw) | (refine go_newWr ?_; clear hw; intro w hw) | (refine go_newS ?_; clear hw; intro s w hw))
  have hw1 : Sat w0 w [RdH fun w => HVal w (.iface T v) t H → REst w pe t H] := by
    have hw2 : Sat w0 w [Box pe 75 [a2, b2, c2, d2, .iface T v], RdH fun w => RTask w a2 b2 c2 d2 vs2 t, Box p 26 (Value.agg #[a, b, c, d]).cells.toList] := hw
    exact (Sat.rd (Δ := [Box pe 75 [a2, b2, c2, d2, .iface T v], RdH fun w => RTask w a2 b2 c2 d2 vs2 t]) (φ := fun w => HVal w (.iface T v) t H → REst w pe t H) (fun _ w h hh => ⟨a2, b2, c2, d2, .iface T v, vs2, h.boxR 0 rfl, h.rdE 1 rfl, hh⟩) hw2).sel
  exact res_two (v := .pointer (some pe)) (v' := .nilIface) rfl rfl rfl ⟨pe, rfl, hw1⟩
end Go.Proofs.YtkmbenhffledpaaGreat

/-
  Contracts of the helpers 'States' and 'Edges'.
-/
namespace Go.Proofs.YtkmbenhffledpaaGreat
open Go.Sl
attribute [local irreducible] vc opsW opsD opV opW PureV ReadV Thn Blk

def statesI (l : List (List Int)) (k : Int) (i : Nat) : List (List Int) := statesS (l.take i) k
def rowsX (s : List Int) (x : Nat) : List (List Int) := (List.range x).map fun (x : Nat) => s ++ [(x : Int)]
theorem statesI_succ {l : List (List Int)} {k : Int} {i : Nat} (hi : i < l.length) : statesI l k (i + 1) = statesI l k i ++ rowsX (l.getD i []) k.toNat := by
  unfold statesI statesS rowsX
  rw [take_snoc [] hi]; simp
theorem statesI_end (l : List (List Int)) (k : Int) : statesI l k l.length = statesS l k := by unfold statesI; rw [List.take_length]
theorem rowsX_succ (s : List Int) (x : Nat) : rowsX s (x + 1) = rowsX s x ++ [s ++ [(x : Int)]] := by simp [rowsX, List.range_succ]
theorem statesL_row {vars : List Int} {i : Nat} (hi : i < (statesL vars).length) : ((statesL vars).getD i []).length = vars.length := (mem_statesL.1 (mem_getD [] hi)).1
theorem mul_le_of {n k i : Nat} {p : Int} (h : i < n) (hp : ((n : Int) * k) ≤ p) : (i : Int) * k + k ≤ p := by
  have h1 : (i + 1) * k ≤ n * k := Nat.mul_le_mul_right k h
  rw [Nat.succ_mul] at h1
  have h2 : ((i * k + k : Nat) : Int) ≤ ((n * k : Nat) : Int) := by exact_mod_cast h1
  simp only [Int.natCast_add, Int.natCast_mul] at h2
  omega

set_option maxRecDepth 8000 in
set_option maxHeartbeats 4000000 in
theorem States_spec {w0 : World} {a : Value} {vars : List Int} (ha : RS tInt w0 a vars) (hp : ∀ x ∈ vars, 1 ≤ x) (hn : vars.length ≤ 64) (hB : prodL vars ≤ 65536) :
    Calls Tryz.prog 35 #[a] w0 fun e w' => ∃ s ss, e = .returned s ∧ Sat w0 w' [RowsAt tInt 3 ss (statesL vars), OS tVal 22 s ss] := by
  have hla := ha.big
  have hw := Sat.start w0
  refine calls_of_vc (args := [a]) mixed Tryz.func35 rfl (by kernel_rfl) (Nat.le_of_ble_eq_true rfl) ?_
  repeat (first | refine go_run ?_ | (refine go_newP ?_; clear hw; intro p w hw) | (refine go_newW ?_; clear hw; intro w hw) | (refine go_newS ?_; clear hw; intro s w hw))
  refine st_buildSlice0 tInt hw ?_
  clear hw
  intro s w hw
  repeat (first | refine go_run ?_ | (refine go_newP ?_; clear hw; intro p w hw) | (refine go_newW ?_; clear hw; intro w hw) | (refine go_newS ?_; clear hw; intro s w hw))
  replace hw := (hw.swap.rows0 (T := tInt) (e := 3)).swap.rowPush
  refine vc_loop3 [3, 5, 6, 8, 9, 14, 15, 16, 17, 18, 19, 20, 21, 22, 23, 24, 25, 26, 27, 28, 29, 30, 31, 32, 33, 34, 35, 36, 37, 38, 39, 40] (G := Nat) (H := Value) (I := List Value) (fun k s _ => [(14, .int .i64 k), (3, s)]) (fun k s ss w => k ≤ vars.length ∧ Sat w0 w [RowsAt tInt 3 ss (statesL (vars.take k)), OS tVal 22 s ss]) (fun k _ _ => vars.length - k) 0 _ _ (fun _ _ _ => rfl) ⟨rfl, rfl, trivial⟩ ⟨Nat.zero_le _, hw⟩ ?_
  clear hw
  rintro σ k s ss w ⟨hk, hw⟩
  repeat (first | refine go_run ?_ | (refine go_newP ?_; clear hw; intro p w hw) | (refine go_newW ?_; clear hw; intro w hw) | (refine go_newS ?_; clear hw; intro s w hw))
  refine go_if (fun h1 => ?_) (fun h1 => ?_)
  · have hkl : k < vars.length := by omega
    have hpk : ∀ x ∈ vars.take k, 1 ≤ x := fun x hx => hp x (List.mem_of_mem_take hx)
    have hvk := hp _ (mem_getD tInt.dflt hkl)
    have hS : statesL (vars.take (k + 1)) = statesS (statesL (vars.take k)) (vars.getD k tInt.dflt) := by rw [take_snoc tInt.dflt hkl, statesL_snoc]
    have hN : ((statesL (vars.take k)).length : Int) * (vars.getD k tInt.dflt).toNat ≤ 65536 := by
      have h2 := prodL_take hp (k + 1)
      rw [take_snoc tInt.dflt hkl, prodL_snoc] at h2
      have h3 := prodL_pos hpk
      rw [statesL_len hpk, Int.toNat_of_nonneg (by omega), Int.toNat_of_nonneg (by omega)]
      omega
    have hN2 : ((statesL (vars.take k)).length : Int) ≤ 65536 := by
      have h2 := prodL_take hp k
      rw [statesL_len hpk]
      omega
    have hV : vars.getD k tInt.dflt ≤ 65536 := by
      have h2 := prodL_take hp (k + 1)
      rw [take_snoc tInt.dflt hkl, prodL_snoc] at h2
      have h3 := prodL_pos hpk
      have h4 : 1 * vars.getD k tInt.dflt ≤ prodL (vars.take k) * vars.getD k tInt.dflt := Int.mul_le_mul_of_nonneg_right h3 (by omega)
      omega
    obtain ⟨V, hVe⟩ : ∃ V, V = vars.getD k tInt.dflt := ⟨_, rfl⟩
    obtain ⟨L, hLe⟩ : ∃ L, L = statesL (vars.take k) := ⟨_, rfl⟩
    have hrow : ∀ i, i < L.length → (L.getD i []).length ≤ 64 := fun i hi => by
      subst hLe
      rw [statesL_row hi, List.length_take]; omega
    have hss : ss.length = (statesL (vars.take k)).length := hw.rowsLen
    rw [← hLe] at hS hN hN2 hw hss
    rw [← hVe] at hS hN hV hvk
    repeat (first | refine go_run ?_ | (refine go_newP ?_; clear hw; intro p w hw) | (refine go_newW ?_; clear hw; intro w hw) | (refine go_newS ?_; clear hw; intro s w hw))
    have hb := hw
    have hout : RS tVal w s ss := rsO hb
    have ha1 := ha.at hw
    obtain ⟨w1, hw1⟩ : ∃ w1, w1 = w := ⟨_, rfl⟩
    rw [← hw1] at hb hout ha1
    replace hw := Sat.start w
    rw [← hw1] at hw
    rw [← hVe]
    refine vc_loop3 [6, 8, 9, 20, 21, 22, 23, 24, 25, 26, 27, 28, 29, 30, 31, 32, 33, 34, 35, 36, 37, 38] (G := Nat) (H := Value) (I := List Value) (fun i s _ => [(20, .int .i64 i), (6, s)]) (fun i s' ss' w => i ≤ L.length ∧ ss'.length = i * V.toNat ∧ Sat w1 w [RowsAt tInt 3 ss' (statesI L V i), OS tVal 22 s' ss']) (fun i _ _ => L.length - i) 0 _ [] (fun _ _ _ => rfl) ⟨rfl, rfl, trivial⟩ ⟨Nat.zero_le _, (by simp), hw1 ▸ hw.nil.rows0⟩ ?_
    clear hw hw1
    rintro σ1 i s' ss' w ⟨hi, hsl', hw⟩
    repeat (first | refine go_run ?_ | (refine go_newP ?_; clear hw; intro p w hw) | (refine go_newW ?_; clear hw; intro w hw) | (refine go_newS ?_; clear hw; intro s w hw))
    refine go_if (fun h2 => ?_) (fun h2 => ?_)
    · have hil : i < L.length := by omega
      have hr := hb.row hil
      have hrl := hrow i hil
      have hmul := mul_le_of hil hN
      have hsl'' : (ss'.length : Int) = (i : Int) * V.toNat := by rw [hsl']; simp
      repeat (first | refine go_run ?_ | (refine go_newP ?_; clear hw; intro p w hw) | (refine go_newW ?_; clear hw; intro w hw) | (refine go_newS ?_; clear hw; intro s w hw))
      refine vc_loop3 [6, 9, 25, 26, 27, 28, 29, 30, 31, 32, 33, 34, 35, 36, 37] (G := Nat) (H := Value) (I := List Value) (fun x s _ => [(25, .int .i64 x), (6, s)]) (fun x s' ss' w => x ≤ V.toNat ∧ ss'.length = i * V.toNat + x ∧ Sat w1 w [RowsAt tInt 3 ss' (statesI L V i ++ rowsX (L.getD i []) x), OS tVal 22 s' ss']) (fun x _ _ => V.toNat - x) 0 s' ss' (fun _ _ _ => rfl) ⟨rfl, rfl, trivial⟩ ⟨Nat.zero_le _, hsl', by simpa [rowsX] using hw⟩ ?_
      clear hw hsl' hsl''
      rintro σ2 x s2 ss2 w ⟨hx, hs2, hw⟩
      have hs3 : (ss2.length : Int) = (i : Int) * V.toNat + x := by rw [hs2]; simp
      repeat (first | refine go_run ?_ | (refine go_newP ?_; clear hw; intro p w hw) | (refine go_newW ?_; clear hw; intro w hw) | (refine go_newS ?_; clear hw; intro s w hw))
      refine go_if (fun h3 => ?_) (fun h3 => ?_)
      · repeat (first | refine go_run ?_ | (refine go_newP ?_; clear hw; intro p w hw) | (refine go_newW ?_; clear hw; intro w hw) | (refine go_newS ?_; clear hw; intro s w hw))
        refine st_buildSlice0 tInt hw ?_
        clear hw
        intro e1 w hw
        repeat (first | refine go_run ?_ | (refine go_newP ?_; clear hw; intro p w hw) | (refine go_newW ?_; clear hw; intro w hw) | (refine go_newS ?_; clear hw; intro s w hw))
        replace hw := hw.tail.tail.rowPush
        rw [List.nil_append, List.append_assoc, ← rowsX_succ] at hw
        exact ⟨x + 1, _, _, ⟨rfl, rfl, trivial⟩, by repeat (first | exact agree_refl | (apply agree_upd rfl) | (apply agree_mix rfl) | (apply agree_sets rfl)), ⟨by omega, by simp; omega, hw⟩, by omega⟩
      · have hxe : x = V.toNat := by omega
        subst hxe
        rw [← statesI_succ hil] at hw
        repeat (first | refine go_run ?_ | (refine go_newP ?_; clear hw; intro p w hw) | (refine go_newW ?_; clear hw; intro w hw) | (refine go_newS ?_; clear hw; intro s w hw))
        exact ⟨i + 1, _, ss2, ⟨rfl, rfl, trivial⟩, by repeat (first | exact agree_refl | (apply agree_upd rfl) | (apply agree_mix rfl) | (apply agree_sets rfl)), ⟨by omega, by rw [Nat.succ_mul]; omega, hw⟩, by omega⟩
    · have hie : i = L.length := by omega
      subst hie
      rw [statesI_end, ← hS] at hw
      repeat (first | refine go_run ?_ | (refine go_newP ?_; clear hw; intro p w hw) | (refine go_newW ?_; clear hw; intro w hw) | (refine go_newS ?_; clear hw; intro s w hw))
      exact ⟨k + 1, _, ss', ⟨rfl, rfl, trivial⟩, by repeat (first | exact agree_refl | (apply agree_upd rfl) | (apply agree_mix rfl) | (apply agree_sets rfl)), ⟨by omega, (hb.call hw).comm.tail.tail⟩, by omega⟩
  · rw [List.take_of_length_le (by omega)] at hw
    repeat (first | refine go_run ?_ | (refine go_newP ?_; clear hw; intro p w hw) | (refine go_newW ?_; clear hw; intro w hw) | (refine go_newS ?_; clear hw; intro s w hw))
    exact res_one (v := s) rfl rfl ⟨s, ss, rfl, hw⟩

set_option maxRecDepth 8000 in
set_option maxHeartbeats 4000000 in
theorem Edges_spec {w0 : World} {a b c d : Value} {vs : List OpV} {t : TTask} (ht : RTask w0 a b c d vs t) (hg : GoodT t) (hB : prodL t.vars ≤ 65536) :
    Calls Tryz.prog 77 #[.agg #[a, b, c, d]] w0 fun e w' => ∃ s, e = .returned s ∧ Sat w0 w' [OS tEdg 148 s (edgesT t)] := by
  have ht' := ht
  obtain ⟨ha, hb, hc, hd⟩ := ht
  have hrs := hd.rs
  have hdl := hd.len
  have hll := hrs.big
  have hol := hg.ops
  have hlen : (statesL t.vars).length ≤ 65536 := by rw [statesL_len hg.pos]; omega
  have hw := Sat.start w0
  refine calls_of_vc (args := [.agg #[a, b, c, d]]) mixed Tryz.func77 rfl (by kernel_rfl) (Nat.le_of_ble_eq_true rfl) ?_
  repeat (first | refine go_run ?_ | (refine go_newP ?_; clear hw; intro p w hw) | (refine go_newW ?_; clear hw; intro w hw) | (refine go_newS ?_; clear hw; intro s w hw))
  obtain ⟨pt, hpt⟩ : ∃ pt, pt = p := ⟨p, rfl⟩
  subst hpt
  refine st_call rfl (States_spec (ha.at hw) hg.pos hg.vars hB) ?_
  rintro _ w' ⟨sv, ss, rfl, hk'⟩
  replace hw := hw.call2 hk'
  clear hk'
  have hss := hw.rowsLen
  refine ⟨_, rfl, ?_⟩
  repeat (first | refine go_run ?_ | (refine go_newP ?_; clear hw; intro p w hw) | (refine go_newW ?_; clear hw; intro w hw) | (refine go_newS ?_; clear hw; intro s w hw))
  refine vc_loop2 [3, 4, 5, 6, 7, 8, 13, 14, 15, 16, 17, 18, 19, 20, 21, 22, 23, 24, 25, 26, 27, 28, 29, 30, 31, 32, 33, 34, 35, 36, 37, 38, 39, 40, 41, 42, 43] (G := Nat) (H := Value) (fun i s => [(13, .int .i64 i), (3, s)]) (fun i s w => i ≤ (statesL t.vars).length ∧ Sat w0 w [OS tEdg 148 s (edgesK t i), RowsAt tInt 3 ss (statesL t.vars), OS tVal 22 sv ss, Box pt 26 [a, b, c, d]]) (fun i _ => (statesL t.vars).length - i) 0 _ (fun _ _ => rfl) ⟨rfl, rfl, trivial⟩ ⟨Nat.zero_le _, hw.nil⟩ ?_
  clear hw
  rintro σ i s w ⟨hi, hw⟩
  repeat (first | refine go_run ?_ | (refine go_newP ?_; clear hw; intro p w hw) | (refine go_newW ?_; clear hw; intro w hw) | (refine go_newS ?_; clear hw; intro s w hw))
  refine go_if (fun h1 => ?_) (fun h1 => ?_)
  · have hil : i < (statesL t.vars).length := by omega
    have hst := statesL_at hg.pos hil
    have hkl := edgesK_len t i
    have hkl2 : i * t.ops.length ≤ 65536 * 4096 := Nat.mul_le_mul (by omega) hol
    repeat (first | refine go_run ?_ | (refine go_newP ?_; clear hw; intro p w hw) | (refine go_newW ?_; clear hw; intro w hw) | (refine go_newS ?_; clear hw; intro s w hw))
    refine vc_loop2 [3, 6, 7, 8, 21, 22, 23, 24, 25, 26, 27, 28, 29, 30, 31, 32, 33, 34, 35, 36, 37, 38, 39, 40, 41, 42] (G := Nat) (H := Value) (fun j s => [(21, .int .i64 j), (3, s)]) (fun j s w => j ≤ t.ops.length ∧ Sat w0 w [OS tEdg 148 s (edgesK t i ++ edgesJ t ((statesL t.vars).getD i []) i j), RowsAt tInt 3 ss (statesL t.vars), OS tVal 22 sv ss, Box pt 26 [a, b, c, d]]) (fun j _ => t.ops.length - j) 0 s (fun _ _ => rfl) ⟨rfl, rfl, trivial⟩ ⟨Nat.zero_le _, by rw [edgesJ_zero, List.append_nil]; exact hw⟩ ?_
    clear hw
    rintro σ1 j s1 w ⟨hj, hw⟩
    repeat (first | refine go_run ?_ | (refine go_newP ?_; clear hw; intro p w hw) | (refine go_newW ?_; clear hw; intro w hw) | (refine go_newS ?_; clear hw; intro s w hw))
    refine go_if (fun h2 => ?_) (fun h2 => ?_)
    · have hjl : j < t.ops.length := by omega
      have hln := edgesJ_len t ((statesL t.vars).getD i []) i j
      repeat (first | refine go_run ?_ | (refine go_newP ?_; clear hw; intro p w hw) | (refine go_newW ?_; clear hw; intro w hw) | (refine go_newS ?_; clear hw; intro s w hw))
      refine st_call rfl (Apply_spec (ht'.at hw) ((hw.focus 1 rfl).row hil) hg hst.1) ?_
      rintro _ w' ⟨r, rv, rfl, hr, hk'⟩
      replace hw := hw.call1 hk'
      clear hk'
      refine ⟨_, rfl, ?_⟩
      rw [Int.toNat_natCast] at hr hw
      cases r with
      | false =>
        repeat (first | refine go_run ?_ | (refine go_newP ?_; clear hw; intro p w hw) | (refine go_newW ?_; clear hw; intro w hw) | (refine go_newS ?_; clear hw; intro s w hw))
        refine ⟨j + 1, s1, ⟨rfl, rfl, trivial⟩, by repeat (first | exact agree_refl | (apply agree_upd rfl) | (apply agree_mix rfl) | (apply agree_sets rfl)), ⟨by omega, ?_⟩, by omega⟩
        rw [edgesJ_succ, stepL, if_neg (fun h => by have := hr.2 ⟨by omega, by omega, h⟩; cases this), List.append_nil]
        exact hw.tail
      | true =>
        have happ := (hr.1 rfl).2.2
        have hso := succT_ok hg hst.1 hjl
        rw [if_pos rfl] at hw
        repeat (first | refine go_run ?_ | (refine go_newP ?_; clear hw; intro p w hw) | (refine go_newW ?_; clear hw; intro w hw) | (refine go_newS ?_; clear hw; intro s w hw))
        refine st_call rfl (Rank_spec (a := a) (b := rv) (ha.at hw) (rsO hw) hso hg.pos (by omega)) ?_
        rintro _ w' ⟨rfl, hk'⟩
        replace hw := hw.call0 hk'
        clear hk'
        refine ⟨_, rfl, ?_⟩
        repeat (first | refine go_run ?_ | (refine go_newP ?_; clear hw; intro p w hw) | (refine go_newW ?_; clear hw; intro w hw) | (refine go_newS ?_; clear hw; intro s w hw))
        refine st_buildSlice1 tEdg (x1 := ⟨i, j, rankL t.vars (succT t ((statesL t.vars).getD i []) j)⟩) rfl rfl rfl (Nat.le_of_ble_eq_true rfl) (Nat.zero_lt_succ _) hw ?_
        clear hw
        intro s2 w hw
        repeat (first | refine go_run ?_ | (refine go_newP ?_; clear hw; intro p w hw) | (refine go_newW ?_; clear hw; intro w hw) | (refine go_newS ?_; clear hw; intro s w hw))
        refine ⟨j + 1, _, ⟨rfl, rfl, trivial⟩, by repeat (first | exact agree_refl | (apply agree_upd rfl) | (apply agree_mix rfl) | (apply agree_sets rfl)), ⟨by omega, ?_⟩, by omega⟩
        rw [edgesJ_succ, stepL, if_pos happ, ← List.append_assoc]
        exact hw.tail.tail
    · have hje : j = t.ops.length := by omega
      subst hje
      rw [← edgesK_succ] at hw
      repeat (first | refine go_run ?_ | (refine go_newP ?_; clear hw; intro p w hw) | (refine go_newW ?_; clear hw; intro w hw) | (refine go_newS ?_; clear hw; intro s w hw))
      exact ⟨i + 1, _, ⟨rfl, rfl, trivial⟩, by repeat (first | exact agree_refl | (apply agree_upd rfl) | (apply agree_mix rfl) | (apply agree_sets rfl)), ⟨by omega, hw⟩, by omega⟩
  · have hie : i = (statesL t.vars).length := by omega
    subst hie
    repeat (first | refine go_run ?_ | (refine go_newP ?_; clear hw; intro p w hw) | (refine go_newW ?_; clear hw; intro w hw) | (refine go_newS ?_; clear hw; intro s w hw))
    exact res_one (v := s) rfl rfl ⟨s, rfl, hw.only⟩
end Go.Proofs.YtkmbenhffledpaaGreat
