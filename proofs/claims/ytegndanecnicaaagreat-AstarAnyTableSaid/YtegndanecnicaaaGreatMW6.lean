/-
  Several texts as one: WEst, WEst2, WAReach, WRevI.
-/
import Derived.Test.YtegndanecnicaaaGreatMW3
import Derived.Test.YtegndanecnicaaaGreatMW4
import Derived.Test.YtegndanecnicaaaGreatMW5
import Derived.Test.YtegndanecnicaaaGreatMTA
import Derived.Test.YtegndanecnicaaaGreatMSlB
import Derived.Test.YtegndanecnicaaaGreatMW2
set_option linter.unusedSimpArgs false
set_option linter.unusedVariables false

/-
  Contract of 'estimate.copied': a task that shares no memory with another one.
-/
namespace Go.Proofs.YtegndanecnicaaaGreat
open Go.Sl Go
attribute [local irreducible] vc opsW opsD opV opW PureV ReadV Thn Blk
set_option maxRecDepth 8000 in
theorem facts_spec {w0 : World} {a : Value} {xs : List Fact} (ha : RS tFact w0 a xs) (hn : xs.length ≤ 1099511627776) :
    Calls Tryz.prog 34 #[a] w0 fun e w' => ∃ s, e = .returned s ∧ Sat w0 w' [OS tFact 92 s xs] := by
  have hw := Sat.start w0
  refine calls_of_vc (args := [a]) mixed Tryz.func34 rfl (by kernel_rfl) (Nat.le_of_ble_eq_true rfl) ?_
  repeat (first | refine go_run ?_ | (refine go_newP ?_; clear hw; intro p w hw) | (refine go_newW ?_; clear hw; intro w hw) | (refine go_newS ?_; clear hw; intro s w hw))
  refine st_call rfl (CloneF_spec ha hn) ?_
  rintro _ w' ⟨s, rfl, hk'⟩
  replace hw := hw.call1 hk'
  clear hk'
  refine ⟨_, rfl, ?_⟩
  repeat (first | refine go_run ?_ | (refine go_newP ?_; clear hw; intro p w hw) | (refine go_newW ?_; clear hw; intro w hw) | (refine go_newS ?_; clear hw; intro s w hw))
  exact res_one (v := s) rfl rfl ⟨_, rfl, hw⟩
/-- The first j conditions are copied. -/
structure EffI (E : List Eff) (us : List EffV) (j : Nat) (es : List EffV) : Prop where
  len : es.length = E.length
  fld : ∀ i, i < E.length → (eget tEff es i).var = (E.getD i dEff).var ∧ (eget tEff es i).val = (E.getD i dEff).val
  old : ∀ i, j ≤ i → i < E.length → (eget tEff es i).when = (eget tEff us i).when
def EffW (E : List Eff) (j : Nat) (es : List EffV) (w : World) : Prop := ∀ i, i < j → RS tFact w (eget tEff es i).when (E.getD i dEff).when
theorem eget_set {α : Type} {T : Ty α} {xs : List α} {i j : Nat} {x : α} (hj : j < xs.length) : eget T (xs.set j x) i = if i = j then x else eget T xs i := by
  rw [eget_eq, eget_eq]
  by_cases e : i = j
  · subst e; rw [if_pos rfl]; simp [List.getD, hj]
  · rw [if_neg e]; simp only [List.getD]; rw [List.getElem?_set_ne (fun h => e h.symm)]
theorem EffI.step {E : List Eff} {us es : List EffV} {j : Nat} (h : EffI E us j es) (hj : j < E.length) {s : Value} : EffI E us (j + 1) (es.set j ⟨s, (eget tEff es j).var, (eget tEff es j).val⟩) := by
  have hl := h.len
  refine ⟨by simp [hl], fun i hi => ?_, fun i hi hi2 => ?_⟩
  · rw [eget_set (by omega)]
    split
    · rename_i e; rw [e]; exact h.fld j hj
    · exact h.fld i hi
  · rw [eget_set (by omega), if_neg (by omega)]
    exact h.old i (by omega) hi2
theorem EffW.step {E : List Eff} {es : List EffV} {j : Nat} {w : World} (h : EffW E j es w) (hj : j < es.length) {s : Value} {a b : Int} (hs : RS tFact w s (E.getD j dEff).when) : EffW E (j + 1) (es.set j ⟨s, a, b⟩) w := fun i hi => by
  rw [eget_set hj]
  split
  · rename_i e; subst e; exact hs
  · exact h i (by omega)
/-- The first k operators are copied. -/
def OpsF (t : TTask) (k : Nat) (ws : List OpV) (w : World) : Prop := ∀ i, i < k → ROp w (eget tOp ws i) (t.ops.getD i dOp)
theorem eget_app {α : Type} {T : Ty α} {xs : List α} {x : α} {i : Nat} : eget T (xs ++ [x]) i = if i < xs.length then eget T xs i else if i = xs.length then x else T.dflt := by
  rw [eget_eq, eget_eq]
  by_cases h : i < xs.length
  · rw [if_pos h]; simp [List.getD_eq_getElem?_getD, List.getElem?_append_left h]
  · rw [if_neg h]
    by_cases e : i = xs.length
    · subst e; rw [if_pos rfl]; simp [List.getD_eq_getElem?_getD]
    · rw [if_neg e]; simp [List.getD_eq_getElem?_getD, List.getElem?_append_right (Nat.le_of_not_lt h), List.getElem?_cons, show ¬ i - xs.length = 0 by omega]
theorem OpsF.step {t : TTask} {k : Nat} {ws : List OpV} {w : World} {v : OpV} (h : OpsF t k ws w) (hl : ws.length = k) (hv : ROp w v (t.ops.getD k dOp)) : OpsF t (k + 1) (ws ++ [v]) w := fun i hi => by
  rw [eget_app]
  by_cases e : i < k
  · rw [if_pos (by omega)]; exact h i e
  · have e2 : i = k := by omega
    rw [if_neg (by omega), if_pos (by omega), e2]; exact hv
theorem reffs_ones {w : World} {s : Value} {us : List EffV} {E : List Eff} (h : REffs w s us E) : ∀ x ∈ us, ∀ v ∈ tEff.enc x, v.oneCell' = true := fun x hx v hv => by
  obtain ⟨i, hi, rfl⟩ := List.getElem_of_mem hx
  have h1 := (h.at_ i (by have := h.len; omega)).one
  rw [eget_eq, getD_at hi] at h1
  exact List.all_eq_true.1 h1 v hv
def HeadF (t : TTask) (a b c : Value) (w : World) : Prop := RS tInt w a t.vars ∧ RS tInt w b t.init ∧ RS tFact w c t.goal
set_option maxRecDepth 8000 in
set_option maxHeartbeats 4000000 in
theorem copied_spec {w0 : World} {a b c d : Value} {vs : List OpV} {t : TTask} (ht : RTask w0 a b c d vs t) (hg : GoodT t) :
    Calls Tryz.prog 50 #[.agg #[a, b, c, d]] w0 fun e w' => ∃ a2 b2 c2 d2 vs2, e = .returned (.agg #[a2, b2, c2, d2]) ∧ Sat w0 w' [RdH fun w => RTask w a2 b2 c2 d2 vs2 t] := by
  have ht' := ht
  obtain ⟨ha, hb, hc, hd⟩ := ht
  have hdr := hd.rs
  have hdl := hd.len
  have hol := hg.ops
  have hvl := hg.vars
  have hil := hg.init.1
  have hgl := facts_len hg.goal
  have hw := Sat.start w0
  refine calls_of_vc (args := [.agg #[a, b, c, d]]) mixed Tryz.func50 rfl (by kernel_rfl) (Nat.le_of_ble_eq_true rfl) ?_
  refine vc_seq ?_
  refine vc_region ?_
  refine go_box ?_
  clear hw
  intro pt w hw
  replace hw : Sat w0 w [Box pt 26 [a, b, c, d]] := hw
  refine go_alloc ?_
  clear hw
  intro pr w hw
  repeat (first | refine go_run ?_ | (refine go_newP ?_; clear hw; intro p w hw) | (refine go_newWr ?_; clear hw; intro w hw) | (refine go_newS ?_; clear hw; intro s w hw))
  refine vc_cut [7, 8, 9, 10, 11, 12, 13, 14, 15, 16, 3] (G := Addr × Value × Value × Value) (fun g => [(3, .pointer (some g.1))]) (fun g w => Sat w0 w [Box g.1 26 [g.2.1, g.2.2.1, g.2.2.2, .slice none 0 0], OS tInt 3 g.2.1 t.vars, OS tInt 3 g.2.2.1 t.init, OS tFact 92 g.2.2.2 t.goal, Box pr 26 [.slice none 0 0, .slice none 0 0, .slice none 0 0, .slice none 0 0], Box pt 26 [a, b, c, d]]) (fun _ => rfl) ?_ ?_
  · refine vc_tree (.step 0 [.op 0] (.step 3 [.op 3] (.step 6 [.op 6] (.step 1 [.op 1] (.step 4 [.op 4] (.step 7 [.op 7] (.alt 2 [.op 2, .chk 4, .chk 7] (.alt 5 [.op 5, .chk 7] (.alt 8 [.op 8] (.alt 9 [.op 9] (.step 10 [.op 10, .chk 1, .chk 4, .chk 7] (.step 11 [.op 11] (.lin []))) (.alt 10 [.op 10, .chk 1, .chk 4, .chk 7] (.step 9 [.op 9] (.step 11 [.op 11] (.lin []))) (.stop))) (.alt 10 [.op 10, .chk 1, .chk 4, .chk 7] (.step 8 [.op 8] (.step 9 [.op 9] (.step 11 [.op 11] (.lin [])))) (.stop))) (.alt 10 [.op 10, .chk 1, .chk 4, .chk 7] (.step 5 [.op 5, .chk 7] (.step 8 [.op 8] (.step 9 [.op 9] (.step 11 [.op 11] (.lin []))))) (.stop))) (.alt 10 [.op 10, .chk 1, .chk 4, .chk 7] (.step 2 [.op 2, .chk 4, .chk 7] (.step 5 [.op 5, .chk 7] (.step 8 [.op 8] (.step 9 [.op 9] (.step 11 [.op 11] (.lin [])))))) (.stop))))))))) hw (by kernel_rfl) (by kernel_rfl) ?_; clear hw; intro w hw
    repeat (first | refine go_run ?_ | (refine go_newP ?_; clear hw; intro p w hw) | (refine go_newWr ?_; clear hw; intro w hw) | (refine go_newS ?_; clear hw; intro s w hw))
    refine opsT_alt ?_ (opsT_alt ?_ opsT_stop)
    · repeat (first | refine go_run ?_ | (refine go_newP ?_; clear hw; intro p w hw) | (refine go_newWr ?_; clear hw; intro w hw) | (refine go_newS ?_; clear hw; intro s w hw))
      refine st_call rfl (Clone_spec (ha.at hw) (by omega)) ?_
      rintro _ w' ⟨a2, rfl, hk'⟩
      replace hw := hw.call1 hk'
      clear hk'
      refine ⟨_, rfl, ?_⟩
      repeat (first | refine go_run ?_ | (refine go_newP ?_; clear hw; intro p w hw) | (refine go_newWr ?_; clear hw; intro w hw) | (refine go_newS ?_; clear hw; intro s w hw))
      refine opsT_alt ?_ (opsT_alt ?_ opsT_stop)
      · repeat (first | refine go_run ?_ | (refine go_newP ?_; clear hw; intro p w hw) | (refine go_newWr ?_; clear hw; intro w hw) | (refine go_newS ?_; clear hw; intro s w hw))
        refine st_call rfl (Clone_spec (hb.at hw) (by omega)) ?_
        rintro _ w' ⟨b2, rfl, hk'⟩
        replace hw := hw.call1 hk'
        clear hk'
        refine ⟨_, rfl, ?_⟩
        repeat (first | refine go_run ?_ | (refine go_newP ?_; clear hw; intro p w hw) | (refine go_newWr ?_; clear hw; intro w hw) | (refine go_newS ?_; clear hw; intro s w hw))
        refine opsT_alt ?_ (opsT_alt ?_ opsT_stop)
        · repeat (first | refine go_run ?_ | (refine go_newP ?_; clear hw; intro p w hw) | (refine go_newWr ?_; clear hw; intro w hw) | (refine go_newS ?_; clear hw; intro s w hw))
          refine st_call rfl (facts_spec (hc.at hw) (by omega)) ?_
          rintro _ w' ⟨c2, rfl, hk'⟩
          replace hw := hw.call1 hk'
          clear hk'
          refine ⟨_, rfl, ?_⟩
          repeat (first | refine go_run ?_ | (refine go_newP ?_; clear hw; intro p w hw) | (refine go_newWr ?_; clear hw; intro w hw) | (refine go_newS ?_; clear hw; intro s w hw))
          refine opsT_alt ?_ (opsT_alt ?_ opsT_stop)
          · repeat (first | refine go_run ?_ | (refine go_newP ?_; clear hw; intro p w hw) | (refine go_newWr ?_; clear hw; intro w hw) | (refine go_newS ?_; clear hw; intro s w hw))
            have oa := (rsO (s := a2) hw).one
            have ob := (rsO (s := b2) hw).one
            have oc := (rsO (s := c2) hw).one
            refine st_build3 (v1 := a2) (v2 := b2) (v3 := c2) rfl rfl rfl rfl (by simp only [List.all_cons, List.all_nil, oa, ob, oc]; rfl) ?_
            repeat (first | refine go_run ?_ | (refine go_newP ?_; clear hw; intro p w hw) | (refine go_newWr ?_; clear hw; intro w hw) | (refine go_newS ?_; clear hw; intro s w hw))
            obtain ⟨po, hpo⟩ : ∃ po, po = p := ⟨p, rfl⟩
            subst hpo
            repeat (first | refine go_run ?_ | (refine go_newP ?_; clear hw; intro p w hw) | (refine go_newS ?_; clear hw; intro s w hw))
            refine st_boxAgg (n := 4) (p := po) (vs := [a2, b2, c2, .slice none 0 0]) rfl rfl hw inferInstance rfl rfl (by simp only [List.all_cons, List.all_nil, oa, ob, oc]; rfl) ?_
            clear hw
            intro w hw
            repeat (first | refine go_run ?_ | (refine go_newP ?_; clear hw; intro p w hw) | (refine go_newWr ?_; clear hw; intro w hw) | (refine go_newS ?_; clear hw; intro s w hw))
            have hw2 : Sat w0 w [Box po 26 [a2, b2, c2, .slice none 0 0], OS tInt 3 a2 t.vars, OS tInt 3 b2 t.init, OS tFact 92 c2 t.goal, Box pr 26 [.slice none 0 0, .slice none 0 0, .slice none 0 0, .slice none 0 0], Box pt 26 [a, b, c, d]] := hw.sel
            exact ⟨(po, a2, b2, c2), ⟨rfl, trivial⟩, by repeat (first | exact agree_refl | (apply agree_upd rfl) | (apply agree_mix rfl) | (apply agree_sets rfl)), hw2⟩
          · repeat (first | refine go_run ?_ | (refine go_newP ?_; clear hw; intro p w hw) | (refine go_newWr ?_; clear hw; intro w hw) | (refine go_newS ?_; clear hw; intro s w hw))
            obtain ⟨po, hpo⟩ : ∃ po, po = p := ⟨p, rfl⟩
            subst hpo
            repeat (first | refine go_run ?_ | (refine go_newP ?_; clear hw; intro p w hw) | (refine go_newWr ?_; clear hw; intro w hw) | (refine go_newS ?_; clear hw; intro s w hw))
            have oa := (rsO (s := a2) hw).one
            have ob := (rsO (s := b2) hw).one
            have oc := (rsO (s := c2) hw).one
            refine st_build3 (v1 := a2) (v2 := b2) (v3 := c2) rfl rfl rfl rfl (by simp only [List.all_cons, List.all_nil, oa, ob, oc]; rfl) ?_
            repeat (first | refine go_run ?_ | (refine go_newP ?_; clear hw; intro p w hw) | (refine go_newS ?_; clear hw; intro s w hw))
            refine st_boxAgg (n := 4) (p := po) (vs := [a2, b2, c2, .slice none 0 0]) rfl rfl hw inferInstance rfl rfl (by simp only [List.all_cons, List.all_nil, oa, ob, oc]; rfl) ?_
            clear hw
            intro w hw
            repeat (first | refine go_run ?_ | (refine go_newP ?_; clear hw; intro p w hw) | (refine go_newWr ?_; clear hw; intro w hw) | (refine go_newS ?_; clear hw; intro s w hw))
            have hw2 : Sat w0 w [Box po 26 [a2, b2, c2, .slice none 0 0], OS tInt 3 a2 t.vars, OS tInt 3 b2 t.init, OS tFact 92 c2 t.goal, Box pr 26 [.slice none 0 0, .slice none 0 0, .slice none 0 0, .slice none 0 0], Box pt 26 [a, b, c, d]] := hw.sel
            exact ⟨(po, a2, b2, c2), ⟨rfl, trivial⟩, by repeat (first | exact agree_refl | (apply agree_upd rfl) | (apply agree_mix rfl) | (apply agree_sets rfl)), hw2⟩
        · repeat (first | refine go_run ?_ | (refine go_newP ?_; clear hw; intro p w hw) | (refine go_newWr ?_; clear hw; intro w hw) | (refine go_newS ?_; clear hw; intro s w hw))
          obtain ⟨po, hpo⟩ : ∃ po, po = p := ⟨p, rfl⟩
          subst hpo
          repeat (first | refine go_run ?_ | (refine go_newP ?_; clear hw; intro p w hw) | (refine go_newWr ?_; clear hw; intro w hw) | (refine go_newS ?_; clear hw; intro s w hw))
          refine st_call rfl (facts_spec (hc.at hw) (by omega)) ?_
          rintro _ w' ⟨c2, rfl, hk'⟩
          replace hw := hw.call1 hk'
          clear hk'
          refine ⟨_, rfl, ?_⟩
          repeat (first | refine go_run ?_ | (refine go_newP ?_; clear hw; intro p w hw) | (refine go_newWr ?_; clear hw; intro w hw) | (refine go_newS ?_; clear hw; intro s w hw))
          repeat (first | refine go_run ?_ | (refine go_newP ?_; clear hw; intro p w hw) | (refine go_newWr ?_; clear hw; intro w hw) | (refine go_newS ?_; clear hw; intro s w hw))
          have oa := (rsO (s := a2) hw).one
          have ob := (rsO (s := b2) hw).one
          have oc := (rsO (s := c2) hw).one
          refine st_build3 (v1 := a2) (v2 := b2) (v3 := c2) rfl rfl rfl rfl (by simp only [List.all_cons, List.all_nil, oa, ob, oc]; rfl) ?_
          repeat (first | refine go_run ?_ | (refine go_newP ?_; clear hw; intro p w hw) | (refine go_newS ?_; clear hw; intro s w hw))
          refine st_boxAgg (n := 4) (p := po) (vs := [a2, b2, c2, .slice none 0 0]) rfl rfl hw inferInstance rfl rfl (by simp only [List.all_cons, List.all_nil, oa, ob, oc]; rfl) ?_
          clear hw
          intro w hw
          repeat (first | refine go_run ?_ | (refine go_newP ?_; clear hw; intro p w hw) | (refine go_newWr ?_; clear hw; intro w hw) | (refine go_newS ?_; clear hw; intro s w hw))
          have hw2 : Sat w0 w [Box po 26 [a2, b2, c2, .slice none 0 0], OS tInt 3 a2 t.vars, OS tInt 3 b2 t.init, OS tFact 92 c2 t.goal, Box pr 26 [.slice none 0 0, .slice none 0 0, .slice none 0 0, .slice none 0 0], Box pt 26 [a, b, c, d]] := hw.sel
          exact ⟨(po, a2, b2, c2), ⟨rfl, trivial⟩, by repeat (first | exact agree_refl | (apply agree_upd rfl) | (apply agree_mix rfl) | (apply agree_sets rfl)), hw2⟩
      · repeat (first | refine go_run ?_ | (refine go_newP ?_; clear hw; intro p w hw) | (refine go_newWr ?_; clear hw; intro w hw) | (refine go_newS ?_; clear hw; intro s w hw))
        obtain ⟨po, hpo⟩ : ∃ po, po = p := ⟨p, rfl⟩
        subst hpo
        repeat (first | refine go_run ?_ | (refine go_newP ?_; clear hw; intro p w hw) | (refine go_newWr ?_; clear hw; intro w hw) | (refine go_newS ?_; clear hw; intro s w hw))
        refine st_call rfl (Clone_spec (hb.at hw) (by omega)) ?_
        rintro _ w' ⟨b2, rfl, hk'⟩
        replace hw := hw.call1 hk'
        clear hk'
        refine ⟨_, rfl, ?_⟩
        repeat (first | refine go_run ?_ | (refine go_newP ?_; clear hw; intro p w hw) | (refine go_newWr ?_; clear hw; intro w hw) | (refine go_newS ?_; clear hw; intro s w hw))
        repeat (first | refine go_run ?_ | (refine go_newP ?_; clear hw; intro p w hw) | (refine go_newWr ?_; clear hw; intro w hw) | (refine go_newS ?_; clear hw; intro s w hw))
        refine st_call rfl (facts_spec (hc.at hw) (by omega)) ?_
        rintro _ w' ⟨c2, rfl, hk'⟩
        replace hw := hw.call1 hk'
        clear hk'
        refine ⟨_, rfl, ?_⟩
        repeat (first | refine go_run ?_ | (refine go_newP ?_; clear hw; intro p w hw) | (refine go_newWr ?_; clear hw; intro w hw) | (refine go_newS ?_; clear hw; intro s w hw))
        repeat (first | refine go_run ?_ | (refine go_newP ?_; clear hw; intro p w hw) | (refine go_newWr ?_; clear hw; intro w hw) | (refine go_newS ?_; clear hw; intro s w hw))
        have oa := (rsO (s := a2) hw).one
        have ob := (rsO (s := b2) hw).one
        have oc := (rsO (s := c2) hw).one
        refine st_build3 (v1 := a2) (v2 := b2) (v3 := c2) rfl rfl rfl rfl (by simp only [List.all_cons, List.all_nil, oa, ob, oc]; rfl) ?_
        repeat (first | refine go_run ?_ | (refine go_newP ?_; clear hw; intro p w hw) | (refine go_newS ?_; clear hw; intro s w hw))
        refine st_boxAgg (n := 4) (p := po) (vs := [a2, b2, c2, .slice none 0 0]) rfl rfl hw inferInstance rfl rfl (by simp only [List.all_cons, List.all_nil, oa, ob, oc]; rfl) ?_
        clear hw
        intro w hw
        repeat (first | refine go_run ?_ | (refine go_newP ?_; clear hw; intro p w hw) | (refine go_newWr ?_; clear hw; intro w hw) | (refine go_newS ?_; clear hw; intro s w hw))
        have hw2 : Sat w0 w [Box po 26 [a2, b2, c2, .slice none 0 0], OS tInt 3 a2 t.vars, OS tInt 3 b2 t.init, OS tFact 92 c2 t.goal, Box pr 26 [.slice none 0 0, .slice none 0 0, .slice none 0 0, .slice none 0 0], Box pt 26 [a, b, c, d]] := hw.sel
        exact ⟨(po, a2, b2, c2), ⟨rfl, trivial⟩, by repeat (first | exact agree_refl | (apply agree_upd rfl) | (apply agree_mix rfl) | (apply agree_sets rfl)), hw2⟩
    · repeat (first | refine go_run ?_ | (refine go_newP ?_; clear hw; intro p w hw) | (refine go_newWr ?_; clear hw; intro w hw) | (refine go_newS ?_; clear hw; intro s w hw))
      obtain ⟨po, hpo⟩ : ∃ po, po = p := ⟨p, rfl⟩
      subst hpo
      repeat (first | refine go_run ?_ | (refine go_newP ?_; clear hw; intro p w hw) | (refine go_newWr ?_; clear hw; intro w hw) | (refine go_newS ?_; clear hw; intro s w hw))
      refine st_call rfl (Clone_spec (ha.at hw) (by omega)) ?_
      rintro _ w' ⟨a2, rfl, hk'⟩
      replace hw := hw.call1 hk'
      clear hk'
      refine ⟨_, rfl, ?_⟩
      repeat (first | refine go_run ?_ | (refine go_newP ?_; clear hw; intro p w hw) | (refine go_newWr ?_; clear hw; intro w hw) | (refine go_newS ?_; clear hw; intro s w hw))
      repeat (first | refine go_run ?_ | (refine go_newP ?_; clear hw; intro p w hw) | (refine go_newWr ?_; clear hw; intro w hw) | (refine go_newS ?_; clear hw; intro s w hw))
      refine st_call rfl (Clone_spec (hb.at hw) (by omega)) ?_
      rintro _ w' ⟨b2, rfl, hk'⟩
      replace hw := hw.call1 hk'
      clear hk'
      refine ⟨_, rfl, ?_⟩
      repeat (first | refine go_run ?_ | (refine go_newP ?_; clear hw; intro p w hw) | (refine go_newWr ?_; clear hw; intro w hw) | (refine go_newS ?_; clear hw; intro s w hw))
      repeat (first | refine go_run ?_ | (refine go_newP ?_; clear hw; intro p w hw) | (refine go_newWr ?_; clear hw; intro w hw) | (refine go_newS ?_; clear hw; intro s w hw))
      refine st_call rfl (facts_spec (hc.at hw) (by omega)) ?_
      rintro _ w' ⟨c2, rfl, hk'⟩
      replace hw := hw.call1 hk'
      clear hk'
      refine ⟨_, rfl, ?_⟩
      repeat (first | refine go_run ?_ | (refine go_newP ?_; clear hw; intro p w hw) | (refine go_newWr ?_; clear hw; intro w hw) | (refine go_newS ?_; clear hw; intro s w hw))
      repeat (first | refine go_run ?_ | (refine go_newP ?_; clear hw; intro p w hw) | (refine go_newWr ?_; clear hw; intro w hw) | (refine go_newS ?_; clear hw; intro s w hw))
      have oa := (rsO (s := a2) hw).one
      have ob := (rsO (s := b2) hw).one
      have oc := (rsO (s := c2) hw).one
      refine st_build3 (v1 := a2) (v2 := b2) (v3 := c2) rfl rfl rfl rfl (by simp only [List.all_cons, List.all_nil, oa, ob, oc]; rfl) ?_
      repeat (first | refine go_run ?_ | (refine go_newP ?_; clear hw; intro p w hw) | (refine go_newS ?_; clear hw; intro s w hw))
      refine st_boxAgg (n := 4) (p := po) (vs := [a2, b2, c2, .slice none 0 0]) rfl rfl hw inferInstance rfl rfl (by simp only [List.all_cons, List.all_nil, oa, ob, oc]; rfl) ?_
      clear hw
      intro w hw
      repeat (first | refine go_run ?_ | (refine go_newP ?_; clear hw; intro p w hw) | (refine go_newWr ?_; clear hw; intro w hw) | (refine go_newS ?_; clear hw; intro s w hw))
      have hw2 : Sat w0 w [Box po 26 [a2, b2, c2, .slice none 0 0], OS tInt 3 a2 t.vars, OS tInt 3 b2 t.init, OS tFact 92 c2 t.goal, Box pr 26 [.slice none 0 0, .slice none 0 0, .slice none 0 0, .slice none 0 0], Box pt 26 [a, b, c, d]] := hw.sel
      exact ⟨(po, a2, b2, c2), ⟨rfl, trivial⟩, by repeat (first | exact agree_refl | (apply agree_upd rfl) | (apply agree_mix rfl) | (apply agree_sets rfl)), hw2⟩
  clear hw
  rintro σ0 ⟨po, a2, b2, c2⟩ w hw
  simp only at hw
  have hw1 : Sat w0 w [OS tOp 31 (.slice none 0 0) [], RdH (OpsF t 0 []), RdH (HeadF t a2 b2 c2), Box po 26 [a2, b2, c2, .slice none 0 0], Box pr 26 [.slice none 0 0, .slice none 0 0, .slice none 0 0, .slice none 0 0], Box pt 26 [a, b, c, d]] := by
    have hw2 : Sat w0 w [OS tInt 3 a2 t.vars, OS tInt 3 b2 t.init, OS tFact 92 c2 t.goal, Box po 26 [a2, b2, c2, .slice none 0 0], Box pr 26 [.slice none 0 0, .slice none 0 0, .slice none 0 0, .slice none 0 0], Box pt 26 [a, b, c, d]] := hw.sel
    have hw3 := Sat.rd (Δ := [OS tInt 3 a2 t.vars, OS tInt 3 b2 t.init, OS tFact 92 c2 t.goal]) (φ := HeadF t a2 b2 c2) (fun _ w h => ⟨h.rs 0 rfl, h.rs 1 rfl, h.rs 2 rfl⟩) hw2
    exact (Sat.rd0 (φ := OpsF t 0 []) (fun w i hi => absurd hi (Nat.not_lt_zero _)) hw3).nil
  clear hw
  have hw := hw1
  clear hw1
  repeat (first | refine go_run ?_ | (refine go_newP ?_; clear hw; intro p w hw) | (refine go_newW ?_; clear hw; intro w hw) | (refine go_newS ?_; clear hw; intro s w hw))
  refine vc_loop3 [5, 6, 20, 21, 22, 23, 24, 25, 26, 27, 28, 29, 30, 31, 32, 33, 34, 35, 36, 37, 38, 39, 40, 41, 42, 43, 44, 45, 46, 47, 48, 49, 50, 51, 52, 53, 54, 55, 56, 57] (G := Nat) (H := Value) (I := List OpV) (fun k _ _ => [(20, .int .i64 k)]) (fun k dv ws w => k ≤ t.ops.length ∧ ws.length = k ∧ Sat w0 w [OS tOp 31 dv ws, RdH (OpsF t k ws), RdH (HeadF t a2 b2 c2), Box po 26 [a2, b2, c2, dv], Box pr 26 [.slice none 0 0, .slice none 0 0, .slice none 0 0, .slice none 0 0], Box pt 26 [a, b, c, d]]) (fun k _ _ => t.ops.length - k) 0 (.slice none 0 0) [] (fun _ _ _ => rfl) ⟨rfl, trivial⟩ ⟨Nat.zero_le _, rfl, hw⟩ ?_
  clear hw
  rintro σ k dv ws w ⟨hk, hwl, hw⟩
  repeat (first | refine go_run ?_ | (refine go_newP ?_; clear hw; intro p w hw) | (refine go_newW ?_; clear hw; intro w hw) | (refine go_newS ?_; clear hw; intro s w hw))
  refine go_if (fun h1 => ?_) (fun h1 => ?_)
  · have hkl : k < t.ops.length := by omega
    have hop := hd.at_ k hkl
    have hone := hop.one
    have hpre := hop.pre
    have hgo := hg.op k hkl
    have hpl := facts_len hgo.pre
    have hel := hgo.effs
    obtain ⟨us, hus⟩ := hop.effs
    have husr := hus.rs
    have husl := hus.len
    repeat (first | refine go_run ?_ | (refine go_newP ?_; clear hw; intro p w hw) | (refine go_newWr ?_; clear hw; intro w hw) | (refine go_newS ?_; clear hw; intro s w hw))
    obtain ⟨p5, hp5⟩ : ∃ p5, p5 = p := ⟨p, rfl⟩
    subst hp5
    refine vc_plan [.op 0, .op 1, .op 3, .op 4, .op 2, .chk 4, .op 6, .op 5, .op 7, .op 8, .op 9] hw (by kernel_rfl) ?_; clear hw; intro w hw
    repeat (first | refine go_run ?_ | (refine go_newP ?_; clear hw; intro p w hw) | (refine go_newWr ?_; clear hw; intro w hw) | (refine go_newS ?_; clear hw; intro s w hw))
    refine st_call rfl (facts_spec (hpre.at hw) (by omega)) ?_
    rintro _ w' ⟨pv, rfl, hk'⟩
    replace hw := hw.call1 hk'
    clear hk'
    refine ⟨_, rfl, ?_⟩
    repeat (first | refine go_run ?_ | (refine go_newP ?_; clear hw; intro p w hw) | (refine go_newWr ?_; clear hw; intro w hw) | (refine go_newS ?_; clear hw; intro s w hw))
    refine st_call rfl (CloneE_spec (husr.at hw) (by omega) (reffs_ones hus)) ?_
    rintro _ w' ⟨ev, rfl, hk'⟩
    replace hw := hw.call1 hk'
    clear hk'
    refine ⟨_, rfl, ?_⟩
    have opv := (rsO (s := pv) hw).one
    have oev := (rsO (s := ev) hw).one
    repeat (first | refine go_run ?_ | (refine go_newP ?_; clear hw; intro p w hw) | (refine go_newS ?_; clear hw; intro s w hw))
    refine st_box (k := 2) (p := p5) (v := pv) rfl rfl opv hw inferInstance (by rw [tOp.ok]; decide) ?_
    clear hw
    intro w hw
    repeat (first | refine go_run ?_ | (refine go_newP ?_; clear hw; intro p w hw) | (refine go_newS ?_; clear hw; intro s w hw))
    refine st_box (k := 3) (p := p5) (v := ev) rfl rfl oev hw inferInstance (by rw [List.length_set, tOp.ok]; decide) ?_
    clear hw
    intro w hw
    have hw1 : Sat w0 w [RdH (EffW (t.ops.getD k dOp).effs 0 us), OS tEff 90 ev us, Box p5 31 (tOp.enc ⟨(eget tOp vs k).name, (eget tOp vs k).cost, pv, ev⟩), OS tFact 92 pv (t.ops.getD k dOp).pre, OS tOp 31 dv ws, RdH (OpsF t k ws), RdH (HeadF t a2 b2 c2), Box po 26 [a2, b2, c2, dv], Box pr 26 [.slice none 0 0, .slice none 0 0, .slice none 0 0, .slice none 0 0], Box pt 26 [a, b, c, d]] := by
      have hw2 : Sat w0 w [OS tEff 90 ev us, OS tFact 92 pv (t.ops.getD k dOp).pre, Box p5 31 (tOp.enc ⟨(eget tOp vs k).name, (eget tOp vs k).cost, pv, ev⟩), OS tOp 31 dv ws, RdH (OpsF t k ws), RdH (HeadF t a2 b2 c2), Box po 26 [a2, b2, c2, dv], Box pr 26 [.slice none 0 0, .slice none 0 0, .slice none 0 0, .slice none 0 0], Box pt 26 [a, b, c, d]] := hw
      exact (Sat.rd0 (φ := EffW (t.ops.getD k dOp).effs 0 us) (fun w i hi => absurd hi (Nat.not_lt_zero _)) hw2).sel
    clear hw
    have hw := hw1
    clear hw1
    have hE0 : EffI (t.ops.getD k dOp).effs us 0 us := ⟨husl, fun i hi => ⟨(hus.at_ i hi).var, (hus.at_ i hi).val⟩, fun i _ _ => rfl⟩
    repeat (first | refine go_run ?_ | (refine go_newP ?_; clear hw; intro p w hw) | (refine go_newWr ?_; clear hw; intro w hw) | (refine go_newS ?_; clear hw; intro s w hw))
    refine vc_loop2 [6, 35, 36, 37, 38, 39, 40, 41, 42, 43, 44, 45, 46, 47, 48, 49, 50] (G := Nat) (H := List EffV) (fun j _ => [(35, .int .i64 j)]) (fun j es w => j ≤ (t.ops.getD k dOp).effs.length ∧ EffI (t.ops.getD k dOp).effs us j es ∧ Sat w0 w [RdH (EffW (t.ops.getD k dOp).effs j es), OS tEff 90 ev es, Box p5 31 (tOp.enc ⟨(eget tOp vs k).name, (eget tOp vs k).cost, pv, ev⟩), OS tFact 92 pv (t.ops.getD k dOp).pre, OS tOp 31 dv ws, RdH (OpsF t k ws), RdH (HeadF t a2 b2 c2), Box po 26 [a2, b2, c2, dv], Box pr 26 [.slice none 0 0, .slice none 0 0, .slice none 0 0, .slice none 0 0], Box pt 26 [a, b, c, d]]) (fun j _ => (t.ops.getD k dOp).effs.length - j) 0 us (fun _ _ => rfl) ⟨rfl, trivial⟩ ⟨Nat.zero_le _, hE0, hw⟩ ?_
    clear hw
    rintro σ1 j es w ⟨hj, hE, hw⟩
    have hesl := hE.len
    repeat (first | refine go_run ?_ | (refine go_newP ?_; clear hw; intro p w hw) | (refine go_newW ?_; clear hw; intro w hw) | (refine go_newS ?_; clear hw; intro s w hw))
    refine go_if (fun h2 => ?_) (fun h2 => ?_)
    · have hjl : j < (t.ops.getD k dOp).effs.length := by omega
      have hue := hus.at_ j hjl
      have hfj := hE.fld j hjl
      have hoj := hE.old j (Nat.le_refl _) hjl
      have hfl := facts_len (hgo.eff j hjl).1
      have hwhen : RS tFact w0 (eget tEff es j).when ((t.ops.getD k dOp).effs.getD j dEff).when := by rw [hoj]; exact hue.when
      repeat (first | refine go_run ?_ | (refine go_newP ?_; clear hw; intro p w hw) | (refine go_newWr ?_; clear hw; intro w hw) | (refine go_newS ?_; clear hw; intro s w hw))
      refine vc_plan [.op 0, .op 1, .op 2, .op 3, .op 4, .op 5, .op 6, .op 7, .op 8, .op 9, .chk 1, .op 10, .op 11, .op 12] hw (by kernel_rfl) ?_; clear hw; intro w hw
      repeat (first | refine go_run ?_ | (refine go_newP ?_; clear hw; intro p w hw) | (refine go_newWr ?_; clear hw; intro w hw) | (refine go_newS ?_; clear hw; intro s w hw))
      refine st_call rfl (facts_spec (hwhen.at hw) (by omega)) ?_
      rintro _ w' ⟨fv, rfl, hk'⟩
      replace hw := hw.call1 hk'
      clear hk'
      refine ⟨_, rfl, ?_⟩
      have ofv := (rsO (s := fv) hw).one
      repeat (first | refine go_run ?_ | (refine go_newP ?_; clear hw; intro p w hw) | (refine go_newS ?_; clear hw; intro s w hw))
      refine st_elemField (T := tEff) (s := ev) (j := j) (k := 0) (v := fv) (x' := ⟨fv, (eget tEff es j).var, (eget tEff es j).val⟩) rfl rfl ofv hw inferInstance (by omega) (Nat.zero_lt_succ _) (by rw [← eget_eq]; rfl) ?_
      clear hw
      intro w hw
      have hw1 : Sat w0 w [RdH (EffW (t.ops.getD k dOp).effs (j + 1) (es.set j ⟨fv, (eget tEff es j).var, (eget tEff es j).val⟩)), OS tEff 90 ev (es.set j ⟨fv, (eget tEff es j).var, (eget tEff es j).val⟩), Box p5 31 (tOp.enc ⟨(eget tOp vs k).name, (eget tOp vs k).cost, pv, ev⟩), OS tFact 92 pv (t.ops.getD k dOp).pre, OS tOp 31 dv ws, RdH (OpsF t k ws), RdH (HeadF t a2 b2 c2), Box po 26 [a2, b2, c2, dv], Box pr 26 [.slice none 0 0, .slice none 0 0, .slice none 0 0, .slice none 0 0], Box pt 26 [a, b, c, d]] := by
        have hw2 : Sat w0 w [OS tFact 92 fv ((t.ops.getD k dOp).effs.getD j dEff).when, RdH (EffW (t.ops.getD k dOp).effs j es), OS tEff 90 ev (es.set j ⟨fv, (eget tEff es j).var, (eget tEff es j).val⟩), Box p5 31 (tOp.enc ⟨(eget tOp vs k).name, (eget tOp vs k).cost, pv, ev⟩), OS tFact 92 pv (t.ops.getD k dOp).pre, OS tOp 31 dv ws, RdH (OpsF t k ws), RdH (HeadF t a2 b2 c2), Box po 26 [a2, b2, c2, dv], Box pr 26 [.slice none 0 0, .slice none 0 0, .slice none 0 0, .slice none 0 0], Box pt 26 [a, b, c, d]] := hw
        exact Sat.rd2 (χ := EffW (t.ops.getD k dOp).effs (j + 1) (es.set j ⟨fv, (eget tEff es j).var, (eget tEff es j).val⟩)) (fun w h1 h2 => h2.step (by omega) h1) (Sat.rd (Δ := [OS tFact 92 fv ((t.ops.getD k dOp).effs.getD j dEff).when]) (φ := fun w => RS tFact w fv ((t.ops.getD k dOp).effs.getD j dEff).when) (fun _ _ h => h.rs 0 rfl) hw2)
      repeat (first | refine go_run ?_ | (refine go_newP ?_; clear hw; intro p w hw) | (refine go_newWr ?_; clear hw; intro w hw) | (refine go_newS ?_; clear hw; intro s w hw))
      exact ⟨j + 1, _, ⟨rfl, trivial⟩, by repeat (first | exact agree_refl | (apply agree_upd rfl) | (apply agree_mix rfl) | (apply agree_sets rfl)), ⟨by omega, hE.step hjl, hw1⟩, by omega⟩
    have hje : j = (t.ops.getD k dOp).effs.length := by omega
    subst hje
    obtain ⟨vo, hvo⟩ : ∃ vo : OpV, vo = ⟨(eget tOp vs k).name, (eget tOp vs k).cost, pv, ev⟩ := ⟨_, rfl⟩
    rw [← hvo] at hw
    have hvo1 : ∀ v ∈ tOp.enc vo, v.oneCell' = true := by
      rw [hvo]
      intro v hv
      simp only [tOp, List.mem_cons, List.not_mem_nil, or_false] at hv
      rcases hv with rfl | rfl | rfl | rfl
      · rfl
      · rfl
      · exact opv
      · exact oev
    have hw1 : Sat w0 w [RdH fun w => ROp w vo (t.ops.getD k dOp), Box p5 31 (tOp.enc vo), OS tOp 31 dv ws, RdH (OpsF t k ws), RdH (HeadF t a2 b2 c2), Box po 26 [a2, b2, c2, dv], Box pr 26 [.slice none 0 0, .slice none 0 0, .slice none 0 0, .slice none 0 0], Box pt 26 [a, b, c, d]] := by
      have hw2 : Sat w0 w [RdH (EffW (t.ops.getD k dOp).effs (t.ops.getD k dOp).effs.length es), OS tEff 90 ev es, OS tFact 92 pv (t.ops.getD k dOp).pre, Box p5 31 (tOp.enc vo), OS tOp 31 dv ws, RdH (OpsF t k ws), RdH (HeadF t a2 b2 c2), Box po 26 [a2, b2, c2, dv], Box pr 26 [.slice none 0 0, .slice none 0 0, .slice none 0 0, .slice none 0 0], Box pt 26 [a, b, c, d]] := hw.sel
      refine Sat.rd (Δ := [RdH (EffW (t.ops.getD k dOp).effs (t.ops.getD k dOp).effs.length es), OS tEff 90 ev es, OS tFact 92 pv (t.ops.getD k dOp).pre]) (φ := fun w => ROp w vo (t.ops.getD k dOp)) (fun _ w h => ?_) hw2
      have hff := h.rdE 0 rfl
      rw [hvo]
      exact ⟨hop.name, hop.size, hop.cost, h.rs 2 rfl, es, h.rs 1 rfl, hE.len, fun i hi => ⟨(hE.fld i hi).1, (hE.fld i hi).2, hff i hi⟩⟩
    clear hw
    have hw := hw1
    clear hw1
    repeat (first | refine go_run ?_ | (refine go_newP ?_; clear hw; intro p w hw) | (refine go_newWr ?_; clear hw; intro w hw) | (refine go_newS ?_; clear hw; intro s w hw))
    refine st_buildSlice1 tOp (x1 := vo) rfl rfl rfl (Nat.le_of_ble_eq_true rfl) (Nat.zero_lt_succ _) hw ?_
    clear hw
    intro bs w hw
    repeat (first | refine go_run ?_ | (refine go_newP ?_; clear hw; intro p w hw) | (refine go_newWr ?_; clear hw; intro w hw) | (refine go_newS ?_; clear hw; intro s w hw))
    refine st_append (s := dv) (s2 := bs) inferInstance rfl rfl (rsO hw) rfl rfl (fun x hx v hv => by rw [List.mem_singleton.1 hx] at hv; exact hvo1 v hv) (by simp only [List.length_cons, List.length_nil]; omega) (by unfold big; simp only [List.length_cons, List.length_nil]; omega) hw ?_
    clear hw
    intro dv2 w hw
    have odv := (rsO (s := dv2) hw).one
    repeat (first | refine go_run ?_ | (refine go_newP ?_; clear hw; intro p w hw) | (refine go_newWr ?_; clear hw; intro w hw) | (refine go_newS ?_; clear hw; intro s w hw))
    have hw1 : Sat w0 w [OS tOp 31 dv2 (ws ++ [vo]), RdH (OpsF t (k + 1) (ws ++ [vo])), RdH (HeadF t a2 b2 c2), Box po 26 [a2, b2, c2, dv2], Box pr 26 [.slice none 0 0, .slice none 0 0, .slice none 0 0, .slice none 0 0], Box pt 26 [a, b, c, d]] := by
      have hw2 : Sat w0 w [OS tOp 31 bs [vo], RdH fun w => ROp w vo (t.ops.getD k dOp), Box p5 31 (tOp.enc vo), OS tOp 31 dv2 (ws ++ [vo]), RdH (OpsF t k ws), RdH (HeadF t a2 b2 c2), Box po 26 [a2, b2, c2, dv2], Box pr 26 [.slice none 0 0, .slice none 0 0, .slice none 0 0, .slice none 0 0], Box pt 26 [a, b, c, d]] := hw
      have hw3 : Sat w0 w [RdH fun w => ROp w vo (t.ops.getD k dOp), RdH (OpsF t k ws), OS tOp 31 dv2 (ws ++ [vo]), RdH (HeadF t a2 b2 c2), Box po 26 [a2, b2, c2, dv2], Box pr 26 [.slice none 0 0, .slice none 0 0, .slice none 0 0, .slice none 0 0], Box pt 26 [a, b, c, d]] := hw2.sel
      exact (Sat.rd2 (χ := OpsF t (k + 1) (ws ++ [vo])) (fun w h1 h2 => h2.step hwl h1) hw3).swap
    exact ⟨k + 1, _, _, ⟨rfl, trivial⟩, by repeat (first | exact agree_refl | (apply agree_upd rfl) | (apply agree_mix rfl) | (apply agree_sets rfl)), ⟨by omega, by simp [hwl], hw1⟩, by omega⟩
  have hke : k = t.ops.length := by omega
  subst hke
  have odv := (rsO (s := dv) hw).one
  have hw1 : Sat w0 w [RdH fun w => RTask w a2 b2 c2 dv ws t, Box po 26 [a2, b2, c2, dv], Box pr 26 [.slice none 0 0, .slice none 0 0, .slice none 0 0, .slice none 0 0], Box pt 26 [a, b, c, d]] :=
    Sat.rd (Δ := [OS tOp 31 dv ws, RdH (OpsF t t.ops.length ws), RdH (HeadF t a2 b2 c2)]) (φ := fun w => RTask w a2 b2 c2 dv ws t) (fun _ w h => ⟨(h.rdE 2 rfl).1, (h.rdE 2 rfl).2.1, (h.rdE 2 rfl).2.2, h.rs 0 rfl, hwl, h.rdE 1 rfl⟩) hw
  clear hw
  have hw := hw1
  clear hw1
  have ht2 := hw.rdE 0 rfl
  have o1 := ht2.vars.one
  have o2 := ht2.init.one
  have o3 := ht2.goal.one
  repeat (first | refine go_run ?_ | (refine go_newP ?_; clear hw; intro p w hw) | (refine go_newS ?_; clear hw; intro s w hw))
  refine st_boxAgg (n := 4) (p := pr) (vs := [a2, b2, c2, dv]) rfl rfl hw inferInstance rfl rfl (by simp only [List.all_cons, List.all_nil, o1, o2, o3, odv]; rfl) ?_
  clear hw
  intro w hw
  repeat (first | refine go_run ?_ | (refine go_newP ?_; clear hw; intro p w hw) | (refine go_newWr ?_; clear hw; intro w hw) | (refine go_newS ?_; clear hw; intro s w hw))
  exact res_cell (p := pr) (vs := [a2, b2, c2, dv]) rfl rfl rfl (hw.boxR 2 rfl) ⟨a2, b2, c2, dv, ws, rfl, hw.sel⟩
end Go.Proofs.YtegndanecnicaaaGreat

/-
  Contracts of 'estimate.made', 'Blind', of the values of estimates, and of 'For'.
-/
namespace Go.Proofs.YtegndanecnicaaaGreat
open Go.Sl Go
attribute [local irreducible] vc opsW opsD opV opW PureV ReadV Thn Blk
instance : MethS Tryz.prog 71 "Value" 149 := ⟨by kernel_rfl⟩
instance : MethS Tryz.prog 101 "Value" 158 := ⟨by kernel_rfl⟩
/-- A heuristic is read: whatever method it has answers, in proper states, as H. -/
def HVal (w : World) (h : Value) (t : TTask) (H : List Int → Int) : Prop :=
  ∃ (T : Nat) (v u : Value) (f : Nat), h = .iface T v ∧ MethAt Tryz.prog T v "Value" f u ∧ CallT Tryz.prog f ∧ ∀ (w1 : World) (Γ : List HP) (sv : Value) (s : List Int), Sat w w1 Γ → RS tInt w1 sv s → StateOk t.vars s →
    Calls Tryz.prog f #[u, sv] w1 fun e w2 => e = .returned (.int .i64 (H s)) ∧ Sat w1 w2 []
theorem HVal.at {w0 w : World} {Γ : List HP} {h : Value} {t : TTask} {H : List Int → Int} (k : HVal w0 h t H) (hw : Sat w0 w Γ) : HVal w h t H := by
  obtain ⟨T, v, u, f, h1, h2, h3, h4⟩ := k
  exact ⟨T, v, u, f, h1, h2, h3, fun w1 Δ sv s hs => h4 w1 (Δ ++ Γ) sv s (hw.call hs)⟩
theorem HVal.iface {w : World} {h : Value} {t : TTask} {H : List Int → Int} (k : HVal w h t H) : ∃ T v, h = .iface T v := by
  obtain ⟨T, v, u, f, h1, _⟩ := k
  exact ⟨T, v, h1⟩
/-- An estimate is read. -/
def REst (w : World) (p : Addr) (t : TTask) (H : List Int → Int) : Prop := ∃ a b c d h vs, BoxR w p [a, b, c, d, h] ∧ RTask w a b c d vs t ∧ HVal w h t H
theorem REst.at {w0 w : World} {Γ : List HP} {p : Addr} {t : TTask} {H : List Int → Int} (k : REst w0 p t H) (hw : Sat w0 w Γ) : REst w p t H := by
  obtain ⟨a, b, c, d, h, vs, h1, h2, h3⟩ := k
  exact ⟨a, b, c, d, h, vs, h1.at hw, h2.at hw, h3.at hw⟩
open Classical in
noncomputable def estV (t : TTask) (H : List Int → Int) (s : List Int) : Int := if StateOk t.vars s then H s else inf
set_option maxRecDepth 8000 in
set_option maxHeartbeats 2000000 in
theorem eValue_spec {w0 : World} {p : Addr} {t : TTask} {H : List Int → Int} {sv : Value} {s : List Int} (he : REst w0 p t H) (hs : RS tInt w0 sv s) :
    Calls Tryz.prog 28 #[.pointer (some p), sv] w0 fun e w' => e = .returned (.int .i64 (estV t H s)) ∧ Sat w0 w' [] := by
  obtain ⟨a, b, c, d, h, vs, h1, h2, h3⟩ := he
  have ha := h2.vars
  have hw := Sat.start w0
  refine calls_of_vc (args := [.pointer (some p), sv]) mixed Tryz.func28 rfl (by kernel_rfl) (Nat.le_of_ble_eq_true rfl) ?_
  repeat (first | refine go_run ?_ | (refine go_newP ?_; clear hw; intro p w hw) | (refine go_newW ?_; clear hw; intro w hw) | (refine go_newS ?_; clear hw; intro s w hw))
  refine st_call rfl (tProper_spec (ha.at hw) (hs.at hw)) ?_
  rintro _ w' ⟨⟨r, rfl, hr⟩, hk'⟩
  replace hw := hw.call0 hk'
  clear hk'
  refine ⟨_, rfl, ?_⟩
  cases r
  · have hn : estV t H s = inf := if_neg fun h => (by cases hr.2 h)
    repeat (first | refine go_run ?_ | (refine go_newP ?_; clear hw; intro p w hw) | (refine go_newW ?_; clear hw; intro w hw) | (refine go_newS ?_; clear hw; intro s w hw))
    exact res_one (v := .int .i64 1125899906842624) rfl rfl ⟨by rw [hn], hw⟩
  have hok := hr.1 rfl
  have hn : estV t H s = H s := if_pos hok
  obtain ⟨T, v, u, f, rfl, m1, m2, m3⟩ := h3.at hw
  repeat (first | refine go_run ?_ | (refine go_newP ?_; clear hw; intro p w hw) | (refine go_newW ?_; clear hw; intro w hw) | (refine go_newS ?_; clear hw; intro s w hw))
  refine st_invokeM m1 m2 rfl rfl (m3 _ [] sv s (Sat.start _) (hs.at hw) hok) ?_
  rintro _ w' ⟨rfl, hk'⟩
  replace hw := hw.call0 hk'
  clear hk'
  refine ⟨_, rfl, ?_⟩
  repeat (first | refine go_run ?_ | (refine go_newP ?_; clear hw; intro p w hw) | (refine go_newW ?_; clear hw; intro w hw) | (refine go_newS ?_; clear hw; intro s w hw))
  exact res_one (v := .int .i64 (H s)) rfl rfl ⟨by rw [hn], hw⟩
set_option maxRecDepth 8000 in
set_option maxHeartbeats 2000000 in
theorem eFor_spec {w0 : World} {p : Addr} {u t : TTask} {H : List Int → Int} {a b c d : Value} {vs : List OpV} (he : REst w0 p u H) (ht : RTask w0 a b c d vs t) :
    Calls Tryz.prog 60 #[.pointer (some p), .agg #[a, b, c, d]] w0 fun e w' => (∃ r, e = .returned (.bool r) ∧ (r = true ↔ u = t)) ∧ Sat w0 w' [] := by
  obtain ⟨a2, b2, c2, d2, h, us, h1, h2, h3⟩ := he
  have hw := Sat.start w0
  refine calls_of_vc (args := [.pointer (some p), .agg #[a, b, c, d]]) mixed Tryz.func60 rfl (by kernel_rfl) (Nat.le_of_ble_eq_true rfl) ?_
  repeat (first | refine go_run ?_ | (refine go_newP ?_; clear hw; intro p w hw) | (refine go_newWr ?_; clear hw; intro w hw) | (refine go_newS ?_; clear hw; intro s w hw))
  refine vc_plan [.op 0, .op 1, .op 2, .op 3, .op 4, .op 5, .op 6, .op 7, .op 8, .op 9, .op 10] hw (by kernel_rfl) ?_; clear hw; intro w hw
  repeat (first | refine go_run ?_ | (refine go_newP ?_; clear hw; intro p w hw) | (refine go_newWr ?_; clear hw; intro w hw) | (refine go_newS ?_; clear hw; intro s w hw))
  refine step_read rfl (rv_boxRSub (k := 0) (n := 4) (vs := [a2, b2, c2, d2]) rfl (h1.at hw) rfl rfl) ?_
  repeat (first | refine go_run ?_ | (refine go_newP ?_; clear hw; intro p w hw) | (refine go_newWr ?_; clear hw; intro w hw) | (refine go_newS ?_; clear hw; intro s w hw))
  refine st_call rfl (same_spec (h2.at hw) (ht.at hw)) ?_
  rintro _ w' ⟨⟨r, rfl, hr⟩, hk'⟩
  replace hw := hw.call0 hk'
  clear hk'
  refine ⟨_, rfl, ?_⟩
  repeat (first | refine go_run ?_ | (refine go_newP ?_; clear hw; intro p w hw) | (refine go_newWr ?_; clear hw; intro w hw) | (refine go_newS ?_; clear hw; intro s w hw))
  exact res_one (v := .bool r) rfl rfl ⟨⟨r, rfl, hr⟩, hw.sel⟩
/-- The least cost of an operator. -/
def leastK (t : TTask) (k : Nat) : Int := (t.ops.take k).foldl (fun m o => min m o.cost) inf
def leastC (t : TTask) : Int := leastK t t.ops.length
def blindH (t : TTask) (s : List Int) : Int := if HoldFs s t.goal then 0 else leastC t
set_option maxRecDepth 8000 in
theorem blindV_spec {w0 : World} {gv sv : Value} {g : List Fact} {n : Int} {s : List Int} (hg : RS tFact w0 gv g) (hs : RS tInt w0 sv s) :
    Calls Tryz.prog 149 #[.agg #[gv, .int .i64 n], sv] w0 fun e w' => e = .returned (.int .i64 (if HoldFs s g then 0 else n)) ∧ Sat w0 w' [] := by
  have hw := Sat.start w0
  refine calls_of_vc (args := [.agg #[gv, .int .i64 n], sv]) mixed Tryz.func149 rfl (by kernel_rfl) (Nat.le_of_ble_eq_true rfl) ?_
  repeat (first | refine go_run ?_ | (refine go_newP ?_; clear hw; intro p w hw) | (refine go_newW ?_; clear hw; intro w hw) | (refine go_newS ?_; clear hw; intro s w hw))
  refine st_call rfl (tHolds_spec (hg.at hw) (hs.at hw)) ?_
  rintro _ w' ⟨⟨r, rfl, hr⟩, hk'⟩
  replace hw := hw.call0 hk'
  clear hk'
  refine ⟨_, rfl, ?_⟩
  cases r
  · have hn : ¬ HoldFs s g := fun h => by have := hr.2 h; cases this
    rw [if_neg hn]
    repeat (first | refine go_run ?_ | (refine go_newP ?_; clear hw; intro p w hw) | (refine go_newW ?_; clear hw; intro w hw) | (refine go_newS ?_; clear hw; intro s w hw))
    exact res_one (v := .int .i64 n) rfl rfl ⟨rfl, hw.sel⟩
  · rw [if_pos (hr.1 rfl)]
    repeat (first | refine go_run ?_ | (refine go_newP ?_; clear hw; intro p w hw) | (refine go_newW ?_; clear hw; intro w hw) | (refine go_newS ?_; clear hw; intro s w hw))
    exact res_one (v := .int .i64 0) rfl rfl ⟨rfl, hw.sel⟩
set_option maxRecDepth 8000 in
set_option maxHeartbeats 2000000 in
theorem made_spec {w0 : World} {a b c d h : Value} {vs : List OpV} {t : TTask} {H : List Int → Int} (ht : RTask w0 a b c d vs t) (hg : GoodT t) (hh : ∃ T v, h = .iface T v) :
    Calls Tryz.prog 33 #[.agg #[a, b, c, d], h, .nilIface] w0 fun e w' => ∃ p, e = .returned (.tuple #[.pointer (some p), .nilIface]) ∧ Sat w0 w' [RdH fun w => HVal w h t H → REst w p t H] := by
  obtain ⟨T, v, rfl⟩ := hh
  have hw := Sat.start w0
  refine calls_of_vc (args := [.agg #[a, b, c, d], .iface T v, .nilIface]) mixed Tryz.func33 rfl (by kernel_rfl) (Nat.le_of_ble_eq_true rfl) ?_
  repeat (first | refine go_run ?_ | (refine go_newP ?_; clear hw; intro p w hw) | (refine go_newW ?_; clear hw; intro w hw) | (refine go_newS ?_; clear hw; intro s w hw))
  refine st_call rfl (copied_spec (ht.at hw) hg) ?_
  rintro _ w' ⟨a2, b2, c2, d2, vs2, rfl, hk'⟩
  replace hw := hw.call1 hk'
  clear hk'
  refine ⟨_, rfl, ?_⟩
  have ht2 := hw.rdE 0 rfl
  have o1 := ht2.vars.cells1
  have o2 := ht2.init.cells1
  have o3 := ht2.goal.cells1
  have o4 := ht2.ops.rs.cells1
  repeat (first | refine go_run ?_ | (refine go_newP ?_; clear hw; intro p w hw) | (refine go_newWr ?_; clear hw; intro w hw) | (refine go_newS ?_; clear hw; intro s w hw))
  refine st_buildN (vs := [(0, .agg #[a2, b2, c2, d2]), (1, .iface T v)]) (ls := [(0, [a2, b2, c2, d2]), (1, [.iface T v])]) rfl rfl rfl ?_
  refine st_boxAggNew (vs := [a2, b2, c2, d2, .iface T v]) rfl hw ?_
  clear hw
  intro pe w hw
  repeat (first | refine go_run ?_ | (refine go_newP ?_; clear hw; intro p w hw) | (refine go_newWr ?_; clear hw; intro w hw) | (refine go_newS ?_; clear hw; intro s w hw))
  have hw1 : Sat w0 w [RdH fun w => HVal w (.iface T v) t H → REst w pe t H] := by
    have hw2 : Sat w0 w [Box pe 117 [a2, b2, c2, d2, .iface T v], RdH fun w => RTask w a2 b2 c2 d2 vs2 t, Box p 26 (Value.agg #[a, b, c, d]).cells.toList] := hw
    exact (Sat.rd (Δ := [Box pe 117 [a2, b2, c2, d2, .iface T v], RdH fun w => RTask w a2 b2 c2 d2 vs2 t]) (φ := fun w => HVal w (.iface T v) t H → REst w pe t H) (fun _ w h hh => ⟨a2, b2, c2, d2, .iface T v, vs2, h.boxR 0 rfl, h.rdE 1 rfl, hh⟩) hw2).sel
  exact res_two (v := .pointer (some pe)) (v' := .nilIface) rfl rfl rfl ⟨pe, rfl, hw1⟩
end Go.Proofs.YtegndanecnicaaaGreat

/-
  Contract of A*'s 'search.reach'.
-/
namespace Go.Proofs.YtegndanecnicaaaGreat
open Go.Sl Go
attribute [local irreducible] vc opsW opsD opV opW PureV ReadV Thn Blk
theorem set_end {α : Type} {l : List α} {n : Nat} {x y : α} (h : n = l.length) : (l ++ [x]).set n y = l ++ [y] := by
  subst h
  rw [List.set_append_right _ _ (Nat.le_refl _), Nat.sub_self]; rfl
set_option maxRecDepth 8000 in
set_option maxHeartbeats 8000000 in
theorem areach_spec {w0 w : World} {Γ : List HP} {q pe pr : Addr} {a b c d pg bdv bnv exv h gv hv wv sv : Value} {xs : List Ent} {A : APar} {S : SA} {s : List Int} {g par op cost : Int} (hH : HOk A.t A.H) (hvl : A.t.vars.length ≤ 64) (H : IsHeap tEnt.dflt elt xs) (hp : xs.Perm S.q) (hxl : xs.length < 1099511627776)
    (hnd : S.st.Nodup) (hn : S.st.length < 65536) (hlg : S.g.length = S.st.length) (hlw : S.wt.length = S.st.length) (hll : S.lk.length = S.st.length) (hok : StateOk A.t.vars s) (hg0 : 0 ≤ g) (hg1 : g ≤ 1099511627776) (hord : S.ord < 1099511627776) (hpar : par = -1 ∨ (0 ≤ par ∧ par < S.st.length))
    (hbd : (A.B = none ∧ bdv = .bool false) ∨ ∃ bn : Int, A.B = some bn ∧ bdv = .bool true ∧ bnv = .int .i64 bn)
    (hs : Kept w0 Γ fun w => RS tInt w sv s) (hE : Kept w0 Γ fun w => REst w pe A.t A.H)
    (hw : Sat w0 w (OS tEnt 164 h xs :: Box q 82 [a, b, c, d, .pointer (some pe), pg, .pointer (some pr), gv, hv, wv, h, .int .i64 (S.ord : Nat), bdv, bnv, exv] :: OS tInt 3 gv S.g :: OS tInt 3 hv (S.st.map A.H) :: OS tBool 4 wv S.wt :: RegH pr A.t.vars S.st S.lk :: Γ)) :
    Calls Tryz.prog 63 #[.pointer (some q), sv, .int .i64 g, .int .i64 par, .int .i64 op, .int .i64 cost] w fun e w' => e = .returned (.bool true) ∧ ∃ h' xs' gv' hv' wv', IsHeap tEnt.dflt elt xs' ∧ xs'.Perm (S.reach A s g ⟨par, op, cost⟩).q ∧
      Sat w0 w' (OS tEnt 164 h' xs' :: Box q 82 [a, b, c, d, .pointer (some pe), pg, .pointer (some pr), gv', hv', wv', h', .int .i64 ((S.reach A s g ⟨par, op, cost⟩).ord : Nat), bdv, bnv, exv] :: OS tInt 3 gv' (S.reach A s g ⟨par, op, cost⟩).g :: OS tInt 3 hv' ((S.reach A s g ⟨par, op, cost⟩).st.map A.H) :: OS tBool 4 wv' (S.reach A s g ⟨par, op, cost⟩).wt :: RegH pr A.t.vars (S.reach A s g ⟨par, op, cost⟩).st (S.reach A s g ⟨par, op, cost⟩).lk :: Γ) := by
  refine calls_of_vc (args := [.pointer (some q), sv, .int .i64 g, .int .i64 par, .int .i64 op, .int .i64 cost]) mixed Tryz.func63 rfl (by kernel_rfl) (Nat.le_of_ble_eq_true rfl) ?_
  repeat (first | refine go_run ?_ | (refine go_newP ?_; clear hw; intro p w hw) | (refine go_newWr ?_; clear hw; intro w hw) | (refine go_newS ?_; clear hw; intro s w hw))
  replace hw := hw.focus 5 rfl
  refine st_call rfl (rgAdd_spec hvl hnd hn (hs w [_, _, _, _, _, _] hw) hok hw) ?_
  clear hw
  have hcutW : ∀ e w', ((s ∈ S.st ∧ e = Ending.returned (.tuple #[.int .i64 (S.st.idxOf s : Int), .bool false, .nilIface]) ∧ Sat w0 w' (RegH pr A.t.vars S.st S.lk :: OS tEnt 164 h xs :: Box q 82 [a, b, c, d, .pointer (some pe), pg, .pointer (some pr), gv, hv, wv, h, .int .i64 (S.ord : Nat), bdv, bnv, exv] :: OS tInt 3 gv S.g :: OS tInt 3 hv (S.st.map A.H) :: OS tBool 4 wv S.wt :: Γ)) ∨ (s ∉ S.st ∧ e = Ending.returned (.tuple #[.int .i64 (S.st.length : Int), .bool true, .nilIface]) ∧ Sat w0 w' (RegH pr A.t.vars (S.st ++ [s]) (S.lk ++ [dLnk]) :: OS tEnt 164 h xs :: Box q 82 [a, b, c, d, .pointer (some pe), pg, .pointer (some pr), gv, hv, wv, h, .int .i64 (S.ord : Nat), bdv, bnv, exv] :: OS tInt 3 gv S.g :: OS tInt 3 hv (S.st.map A.H) :: OS tBool 4 wv S.wt :: Γ))) →
      ∃ (bo : Bool) (i : Nat) (st1 : List (List Int)) (lk1 : List Lnk), e = Ending.returned (.tuple #[.int .i64 (i : Int), .bool bo, .nilIface]) ∧ (bo = decide (s ∉ S.st)) ∧ (bo = false → i = S.st.idxOf s ∧ i < S.st.length ∧ st1 = S.st ∧ lk1 = S.lk) ∧ (bo = true → i = S.st.length ∧ st1 = S.st ++ [s] ∧ lk1 = S.lk ++ [dLnk]) ∧
        Sat w0 w' (RegH pr A.t.vars st1 lk1 :: OS tEnt 164 h xs :: Box q 82 [a, b, c, d, .pointer (some pe), pg, .pointer (some pr), gv, hv, wv, h, .int .i64 (S.ord : Nat), bdv, bnv, exv] :: OS tInt 3 gv S.g :: OS tInt 3 hv (S.st.map A.H) :: OS tBool 4 wv S.wt :: Γ) := by
    rintro e w' (⟨hm, rfl, hw⟩ | ⟨hm, rfl, hw⟩)
    · exact ⟨false, _, _, _, rfl, by simp [hm], fun _ => ⟨rfl, List.idxOf_lt_length_of_mem hm, rfl, rfl⟩, nofun, hw⟩
    · exact ⟨true, _, _, _, rfl, by simp [hm], nofun, fun _ => ⟨rfl, rfl, rfl⟩, hw⟩
  rintro e w hh
  obtain ⟨b0, i, st1, lk1, rfl, hb, hbf, hbt, hw⟩ := hcutW _ _ hh
  clear hcutW hh
  refine ⟨_, rfl, ?_⟩
  repeat (first | refine go_runC ?_ | (refine go_newP ?_; clear hw; intro p w hw) | (refine go_newW ?_; clear hw; intro w hw) | (refine go_newS ?_; clear hw; intro s w hw))
  refine go_condF ?_
  repeat (first | refine go_runC ?_ | (refine go_newP ?_; clear hw; intro p w hw) | (refine go_newW ?_; clear hw; intro w hw) | (refine go_newS ?_; clear hw; intro s w hw))
  refine vc_cut [12, 30, 31, 32, 33, 34, 35, 36, 37, 38, 39, 40, 41, 42, 43, 44, 45, 46, 47, 48, 49, 50, 51, 52, 53, 54, 55, 56, 57, 58, 59, 60, 61, 62, 63, 64, 65, 66, 67, 68, 69, 70, 71, 72] (G := Value × Value × Value) (fun _ => []) (fun v w => ∃ g1 w1, i < st1.length ∧ g1.length = st1.length ∧ w1.length = st1.length ∧ lk1.length = st1.length ∧ S.st.length ≤ st1.length ∧ st1.length ≤ 65536 ∧ st1.getD i [] = s ∧ S.reach A s g ⟨par, op, cost⟩ = ⟨st1, g1.set i g, w1.set i (!cutA A s g), lk1.set i ⟨par, op, cost⟩, enqA A S i s g, enqO A S s g, S.ex, (S.reach A s g ⟨par, op, cost⟩).ts, S.clk + 1⟩ ∧
    Sat w0 w (RegH pr A.t.vars st1 lk1 :: OS tEnt 164 h xs :: Box q 82 [a, b, c, d, .pointer (some pe), pg, .pointer (some pr), v.1, v.2.1, v.2.2, h, .int .i64 (S.ord : Nat), bdv, bnv, exv] :: OS tInt 3 v.1 g1 :: OS tInt 3 v.2.1 (st1.map A.H) :: OS tBool 4 v.2.2 w1 :: Γ)) (fun _ => rfl) ?_ ?_
  · cases b0 with
    | false =>
      obtain ⟨e1, e2, e3, e4⟩ := hbf rfl
      have hm : s ∈ S.st := by
        by_cases hm : s ∈ S.st
        · exact hm
        · simp [hm] at hb
      subst e3 e4
      have hil : i < S.g.length := by omega
      have hgi : S.g.getD i tInt.dflt = S.gi i := rfl
      have hsi : S.si i = s := by
        show S.st.getD i [] = s
        rw [e1, List.getD_eq_getElem?_getD, List.getElem?_eq_getElem (by omega)]; exact List.getElem_idxOf (by omega)
      repeat (first | refine go_run ?_ | (refine go_newP ?_; clear hw; intro p w hw) | (refine go_newW ?_; clear hw; intro w hw) | (refine go_newS ?_; clear hw; intro s w hw))
      refine go_if (fun h2 => ?_) (fun h2 => ?_)
      · repeat (first | refine go_run ?_ | (refine go_newP ?_; clear hw; intro p w hw) | (refine go_newWr ?_; clear hw; intro w hw) | (refine go_newS ?_; clear hw; intro s w hw))
        have er : S.reach A s g ⟨par, op, cost⟩ = S := by
          unfold SA.reach
          rw [if_pos hm, ← e1, if_pos (by omega)]
        exact res_one (v := .bool true) rfl rfl ⟨rfl, by rw [er]; exact ⟨h, xs, gv, hv, wv, H, hp, hw.selG⟩⟩
      have er : S.reach A s g ⟨par, op, cost⟩ = S.low A i g ⟨par, op, cost⟩ := by
        unfold SA.reach
        rw [if_pos hm, ← e1, if_neg (by omega)]
      repeat (first | refine go_run ?_ | (refine go_newP ?_; clear hw; intro p w hw) | (refine go_newW ?_; clear hw; intro w hw) | (refine go_newS ?_; clear hw; intro s w hw))
      refine ⟨(gv, hv, wv), trivial, by repeat (first | exact agree_refl | (apply agree_upd rfl) | (apply agree_mix rfl) | (apply agree_sets rfl)), S.g, S.wt, e2, hlg, hlw, hll, Nat.le_refl _, by omega, hsi, ?_, hw⟩
      rw [er]; unfold SA.low; rw [hsi]
    | true =>
      obtain ⟨e1, e3, e4⟩ := hbt rfl
      have hml : (S.st.map A.H).length = S.st.length := List.length_map _
      have hev : estV A.t A.H s = A.H s := if_pos hok
      have hm : s ∉ S.st := by
        intro hm
        simp [hm] at hb
      subst e1 e3 e4
      have q1 : S.st.length < (S.st ++ [s]).length := by simp
      have q2 : (S.g ++ [g]).length = (S.st ++ [s]).length := by simp [hlg]
      have q3 : (S.wt ++ [false]).length = (S.st ++ [s]).length := by simp [hlw]
      have q4 : (S.lk ++ [dLnk]).length = (S.st ++ [s]).length := by simp [hll]
      have q5 : S.st.length ≤ (S.st ++ [s]).length := by simp
      have q6 : (S.st ++ [s]).length ≤ 65536 := by simp; omega
      have q7 : (S.st ++ [s]).getD S.st.length [] = s := app_at rfl
      have q8 : S.reach A s g ⟨par, op, cost⟩ = ⟨S.st ++ [s], (S.g ++ [g]).set S.st.length g, (S.wt ++ [false]).set S.st.length (!cutA A s g), (S.lk ++ [dLnk]).set S.st.length ⟨par, op, cost⟩, enqA A S S.st.length s g, enqO A S s g, S.ex, (S.reach A s g ⟨par, op, cost⟩).ts, S.clk + 1⟩ := by
        rw [set_end hlg.symm, set_end hlw.symm, set_end hll.symm]
        unfold SA.reach; rw [if_neg hm]; rfl
      have hmap : (S.st ++ [s]).map A.H = S.st.map A.H ++ [A.H s] := by simp
      have hleaf : ∀ (w : World) (gn hn wn : Value), BoxR w q [a, b, c, d, .pointer (some pe), pg, .pointer (some pr), gn, hn, wn, h, .int .i64 (S.ord : Nat), bdv, bnv, exv] →
          Sat w0 w (RegH pr A.t.vars (S.st ++ [s]) (S.lk ++ [dLnk]) :: OS tEnt 164 h xs :: Box q 82 [a, b, c, d, .pointer (some pe), pg, .pointer (some pr), gn, hn, wn, h, .int .i64 (S.ord : Nat), bdv, bnv, exv] :: OS tInt 3 gn (S.g ++ [g]) :: OS tInt 3 hn (S.st.map A.H ++ [A.H s]) :: OS tBool 4 wn (S.wt ++ [false]) :: Γ) →
          ∃ v : Value × Value × Value, Sat w0 w (RegH pr A.t.vars (S.st ++ [s]) (S.lk ++ [dLnk]) :: OS tEnt 164 h xs :: Box q 82 [a, b, c, d, .pointer (some pe), pg, .pointer (some pr), v.1, v.2.1, v.2.2, h, .int .i64 (S.ord : Nat), bdv, bnv, exv] :: OS tInt 3 v.1 (S.g ++ [g]) :: OS tInt 3 v.2.1 ((S.st ++ [s]).map A.H) :: OS tBool 4 v.2.2 (S.wt ++ [false]) :: Γ) :=
        fun w gn hn wn _ h => ⟨(gn, hn, wn), by rw [hmap]; exact h⟩
      repeat (first | refine go_run ?_ | (refine go_newP ?_; clear hw; intro p w hw) | (refine go_newWr ?_; clear hw; intro w hw) | (refine go_newS ?_; clear hw; intro s w hw))
      refine vc_tree (.step 0 [.op 0] (.step 1 [.op 1] (.step 2 [.op 2] (.step 3 [.op 3] (.step 4 [.op 4] (.step 5 [.op 5] (.step 7 [.op 7] (.step 10 [.op 10] (.step 11 [.op 11] (.step 12 [.op 12] (.step 14 [.op 14] (.step 15 [.op 15] (.step 16 [.op 16] (.step 18 [.op 18] (.step 22 [.op 22] (.step 23 [.op 23] (.step 24 [.op 24] (.step 6 [.op 6] (.step 13 [.op 13] (.step 17 [.op 17] (.step 25 [.op 25] (.alt 8 [.op 8, .chk 6, .chk 13, .chk 17, .chk 25] (.alt 9 [.op 9, .chk 13, .chk 17, .chk 25] (.alt 19 [.op 19, .chk 13, .chk 25] (.alt 20 [.op 20, .chk 13, .chk 25] (.alt 21 [.op 21, .chk 25] (.step 26 [.op 26, .chk 6, .chk 13, .chk 17, .chk 25] (.step 27 [.op 27] (.step 28 [.op 28] (.step 29 [.op 29] (.step 30 [.op 30] (.step 31 [.op 31] (.step 32 [.op 32] (.step 33 [.op 33] (.step 34 [.op 34] (.step 35 [.op 35] (.step 36 [.op 36] (.lin [])))))))))))) (.alt 26 [.op 26, .chk 6, .chk 13, .chk 17, .chk 25] (.step 21 [.op 21, .chk 25] (.step 27 [.op 27] (.step 28 [.op 28] (.step 29 [.op 29] (.step 30 [.op 30] (.step 31 [.op 31] (.step 32 [.op 32] (.step 33 [.op 33] (.step 34 [.op 34] (.step 35 [.op 35] (.step 36 [.op 36] (.lin [])))))))))))) (.stop))) (.alt 26 [.op 26, .chk 6, .chk 13, .chk 17, .chk 25] (.step 20 [.op 20, .chk 13, .chk 25] (.step 21 [.op 21, .chk 25] (.step 27 [.op 27] (.step 28 [.op 28] (.step 29 [.op 29] (.step 30 [.op 30] (.step 31 [.op 31] (.step 32 [.op 32] (.step 33 [.op 33] (.step 34 [.op 34] (.step 35 [.op 35] (.step 36 [.op 36] (.lin []))))))))))))) (.stop))) (.alt 26 [.op 26, .chk 6, .chk 13, .chk 17, .chk 25] (.step 19 [.op 19, .chk 13, .chk 25] (.step 20 [.op 20, .chk 13, .chk 25] (.step 21 [.op 21, .chk 25] (.step 27 [.op 27] (.step 28 [.op 28] (.step 29 [.op 29] (.step 30 [.op 30] (.step 31 [.op 31] (.step 32 [.op 32] (.step 33 [.op 33] (.step 34 [.op 34] (.step 35 [.op 35] (.step 36 [.op 36] (.lin [])))))))))))))) (.stop))) (.alt 26 [.op 26, .chk 6, .chk 13, .chk 17, .chk 25] (.step 9 [.op 9, .chk 13, .chk 17, .chk 25] (.step 19 [.op 19, .chk 13, .chk 25] (.step 20 [.op 20, .chk 13, .chk 25] (.step 21 [.op 21, .chk 25] (.step 27 [.op 27] (.step 28 [.op 28] (.step 29 [.op 29] (.step 30 [.op 30] (.step 31 [.op 31] (.step 32 [.op 32] (.step 33 [.op 33] (.step 34 [.op 34] (.step 35 [.op 35] (.step 36 [.op 36] (.lin []))))))))))))))) (.stop))) (.alt 26 [.op 26, .chk 6, .chk 13, .chk 17, .chk 25] (.step 8 [.op 8, .chk 6, .chk 13, .chk 17, .chk 25] (.step 9 [.op 9, .chk 13, .chk 17, .chk 25] (.step 19 [.op 19, .chk 13, .chk 25] (.step 20 [.op 20, .chk 13, .chk 25] (.step 21 [.op 21, .chk 25] (.step 27 [.op 27] (.step 28 [.op 28] (.step 29 [.op 29] (.step 30 [.op 30] (.step 31 [.op 31] (.step 32 [.op 32] (.step 33 [.op 33] (.step 34 [.op 34] (.step 35 [.op 35] (.step 36 [.op 36] (.lin [])))))))))))))))) (.stop)))))))))))))))))))))))) hw (by kernel_rfl) (by kernel_rfl) ?_; clear hw; intro w hw
      repeat (first | refine go_run ?_ | (refine go_newP ?_; clear hw; intro p w hw) | (refine go_newW ?_; clear hw; intro w hw) | (refine go_newSv ?_; clear hw; intro s w hw))
      refine opsT_alt ?_ ?_
      · repeat (first | refine go_run ?_ | (refine go_newP ?_; clear hw; intro p w hw) | (refine go_newW ?_; clear hw; intro w hw) | (refine go_newSv ?_; clear hw; intro s w hw))
        refine opsT_alt ?_ ?_
        · repeat (first | refine go_run ?_ | (refine go_newP ?_; clear hw; intro p w hw) | (refine go_newW ?_; clear hw; intro w hw) | (refine go_newSv ?_; clear hw; intro s w hw))
          refine opsT_alt ?_ ?_
          · repeat (first | refine go_run ?_ | (refine go_newP ?_; clear hw; intro p w hw) | (refine go_newW ?_; clear hw; intro w hw) | (refine go_newSv ?_; clear hw; intro s w hw))
            first
              | refine st_call rfl (eValue_spec (hE w [_, _, _, _, _, _, _] hw) (hs w [_, _, _, _, _, _, _] hw)) ?_
              | refine st_call rfl (eValue_spec (hE w [_, _, _, _, _, _, _, _] hw) (hs w [_, _, _, _, _, _, _, _] hw)) ?_
            rintro _ w' ⟨rfl, hk'⟩
            replace hw := hw.call0 hk'
            clear hk'
            refine ⟨_, rfl, ?_⟩
            rw [hev]
            repeat (first | refine go_run ?_ | (refine go_newP ?_; clear hw; intro p w hw) | (refine go_newW ?_; clear hw; intro w hw) | (refine go_newSv ?_; clear hw; intro s w hw))
            refine opsT_alt ?_ ?_
            · repeat (first | refine go_run ?_ | (refine go_newP ?_; clear hw; intro p w hw) | (refine go_newW ?_; clear hw; intro w hw) | (refine go_newSv ?_; clear hw; intro s w hw))
              refine opsT_alt ?_ ?_
              · repeat (first | refine go_run ?_ | (refine go_newP ?_; clear hw; intro p w hw) | (refine go_newW ?_; clear hw; intro w hw) | (refine go_newSv ?_; clear hw; intro s w hw))
                refine st_buildSlice1 tBool (x1 := false) rfl rfl rfl (Nat.le_of_ble_eq_true rfl) (Nat.zero_lt_succ _) hw ?_
                clear hw
                intro sW w hw
                repeat (first | refine go_run ?_ | (refine go_newP ?_; clear hw; intro p w hw) | (refine go_newW ?_; clear hw; intro w hw) | (refine go_newSv ?_; clear hw; intro s w hw))
                simp only [List.set_cons_succ, List.set_cons_zero] at hw
                have hB := boxRO (p := q) hw
                obtain ⟨v, hv2⟩ := hleaf _ _ _ _ hB hw.selG
                exact ⟨v, trivial, by repeat (first | exact agree_refl | (apply agree_upd rfl) | (apply agree_mix rfl) | (apply agree_sets rfl)), S.g ++ [g], S.wt ++ [false], q1, q2, q3, q4, q5, q6, q7, q8, hv2⟩
              · refine opsT_alt ?_ opsT_stop
                repeat (first | refine go_run ?_ | (refine go_newP ?_; clear hw; intro p w hw) | (refine go_newW ?_; clear hw; intro w hw) | (refine go_newSv ?_; clear hw; intro s w hw))
                refine st_buildSlice1 tBool (x1 := false) rfl rfl rfl (Nat.le_of_ble_eq_true rfl) (Nat.zero_lt_succ _) hw ?_
                clear hw
                intro sW w hw
                repeat (first | refine go_run ?_ | (refine go_newP ?_; clear hw; intro p w hw) | (refine go_newW ?_; clear hw; intro w hw) | (refine go_newSv ?_; clear hw; intro s w hw))
                simp only [List.set_cons_succ, List.set_cons_zero] at hw
                have hB := boxRO (p := q) hw
                obtain ⟨v, hv2⟩ := hleaf _ _ _ _ hB hw.selG
                exact ⟨v, trivial, by repeat (first | exact agree_refl | (apply agree_upd rfl) | (apply agree_mix rfl) | (apply agree_sets rfl)), S.g ++ [g], S.wt ++ [false], q1, q2, q3, q4, q5, q6, q7, q8, hv2⟩
            · refine opsT_alt ?_ opsT_stop
              repeat (first | refine go_run ?_ | (refine go_newP ?_; clear hw; intro p w hw) | (refine go_newW ?_; clear hw; intro w hw) | (refine go_newSv ?_; clear hw; intro s w hw))
              refine st_buildSlice1 tBool (x1 := false) rfl rfl rfl (Nat.le_of_ble_eq_true rfl) (Nat.zero_lt_succ _) hw ?_
              clear hw
              intro sW w hw
              repeat (first | refine go_run ?_ | (refine go_newP ?_; clear hw; intro p w hw) | (refine go_newW ?_; clear hw; intro w hw) | (refine go_newSv ?_; clear hw; intro s w hw))
              simp only [List.set_cons_succ, List.set_cons_zero] at hw
              have hB := boxRO (p := q) hw
              obtain ⟨v, hv2⟩ := hleaf _ _ _ _ hB hw.selG
              exact ⟨v, trivial, by repeat (first | exact agree_refl | (apply agree_upd rfl) | (apply agree_mix rfl) | (apply agree_sets rfl)), S.g ++ [g], S.wt ++ [false], q1, q2, q3, q4, q5, q6, q7, q8, hv2⟩
          · refine opsT_alt ?_ opsT_stop
            repeat (first | refine go_run ?_ | (refine go_newP ?_; clear hw; intro p w hw) | (refine go_newW ?_; clear hw; intro w hw) | (refine go_newSv ?_; clear hw; intro s w hw))
            refine st_buildSlice1 tBool (x1 := false) rfl rfl rfl (Nat.le_of_ble_eq_true rfl) (Nat.zero_lt_succ _) hw ?_
            clear hw
            intro sW w hw
            repeat (first | refine go_run ?_ | (refine go_newP ?_; clear hw; intro p w hw) | (refine go_newW ?_; clear hw; intro w hw) | (refine go_newSv ?_; clear hw; intro s w hw))
            first
              | refine st_call rfl (eValue_spec (hE w [_, _, _, _, _, _, _] hw) (hs w [_, _, _, _, _, _, _] hw)) ?_
              | refine st_call rfl (eValue_spec (hE w [_, _, _, _, _, _, _, _] hw) (hs w [_, _, _, _, _, _, _, _] hw)) ?_
            rintro _ w' ⟨rfl, hk'⟩
            replace hw := hw.call0 hk'
            clear hk'
            refine ⟨_, rfl, ?_⟩
            rw [hev]
            repeat (first | refine go_run ?_ | (refine go_newP ?_; clear hw; intro p w hw) | (refine go_newW ?_; clear hw; intro w hw) | (refine go_newSv ?_; clear hw; intro s w hw))
            simp only [List.set_cons_succ, List.set_cons_zero] at hw
            have hB := boxRO (p := q) hw
            obtain ⟨v, hv2⟩ := hleaf _ _ _ _ hB hw.selG
            exact ⟨v, trivial, by repeat (first | exact agree_refl | (apply agree_upd rfl) | (apply agree_mix rfl) | (apply agree_sets rfl)), S.g ++ [g], S.wt ++ [false], q1, q2, q3, q4, q5, q6, q7, q8, hv2⟩
        · refine opsT_alt ?_ opsT_stop
          repeat (first | refine go_run ?_ | (refine go_newP ?_; clear hw; intro p w hw) | (refine go_newW ?_; clear hw; intro w hw) | (refine go_newSv ?_; clear hw; intro s w hw))
          refine st_buildSlice1 tBool (x1 := false) rfl rfl rfl (Nat.le_of_ble_eq_true rfl) (Nat.zero_lt_succ _) hw ?_
          clear hw
          intro sW w hw
          repeat (first | refine go_run ?_ | (refine go_newP ?_; clear hw; intro p w hw) | (refine go_newW ?_; clear hw; intro w hw) | (refine go_newSv ?_; clear hw; intro s w hw))
          first
            | refine st_call rfl (eValue_spec (hE w [_, _, _, _, _, _, _] hw) (hs w [_, _, _, _, _, _, _] hw)) ?_
            | refine st_call rfl (eValue_spec (hE w [_, _, _, _, _, _, _, _] hw) (hs w [_, _, _, _, _, _, _, _] hw)) ?_
          rintro _ w' ⟨rfl, hk'⟩
          replace hw := hw.call0 hk'
          clear hk'
          refine ⟨_, rfl, ?_⟩
          rw [hev]
          repeat (first | refine go_run ?_ | (refine go_newP ?_; clear hw; intro p w hw) | (refine go_newW ?_; clear hw; intro w hw) | (refine go_newSv ?_; clear hw; intro s w hw))
          simp only [List.set_cons_succ, List.set_cons_zero] at hw
          have hB := boxRO (p := q) hw
          obtain ⟨v, hv2⟩ := hleaf _ _ _ _ hB hw.selG
          exact ⟨v, trivial, by repeat (first | exact agree_refl | (apply agree_upd rfl) | (apply agree_mix rfl) | (apply agree_sets rfl)), S.g ++ [g], S.wt ++ [false], q1, q2, q3, q4, q5, q6, q7, q8, hv2⟩
      · refine opsT_alt ?_ opsT_stop
        repeat (first | refine go_run ?_ | (refine go_newP ?_; clear hw; intro p w hw) | (refine go_newW ?_; clear hw; intro w hw) | (refine go_newSv ?_; clear hw; intro s w hw))
        refine st_buildSlice1 tBool (x1 := false) rfl rfl rfl (Nat.le_of_ble_eq_true rfl) (Nat.zero_lt_succ _) hw ?_
        clear hw
        intro sW w hw
        repeat (first | refine go_run ?_ | (refine go_newP ?_; clear hw; intro p w hw) | (refine go_newW ?_; clear hw; intro w hw) | (refine go_newSv ?_; clear hw; intro s w hw))
        first
          | refine st_call rfl (eValue_spec (hE w [_, _, _, _, _, _, _] hw) (hs w [_, _, _, _, _, _, _] hw)) ?_
          | refine st_call rfl (eValue_spec (hE w [_, _, _, _, _, _, _, _] hw) (hs w [_, _, _, _, _, _, _, _] hw)) ?_
        rintro _ w' ⟨rfl, hk'⟩
        replace hw := hw.call0 hk'
        clear hk'
        refine ⟨_, rfl, ?_⟩
        rw [hev]
        repeat (first | refine go_run ?_ | (refine go_newP ?_; clear hw; intro p w hw) | (refine go_newW ?_; clear hw; intro w hw) | (refine go_newSv ?_; clear hw; intro s w hw))
        simp only [List.set_cons_succ, List.set_cons_zero] at hw
        have hB := boxRO (p := q) hw
        obtain ⟨v, hv2⟩ := hleaf _ _ _ _ hB hw.selG
        exact ⟨v, trivial, by repeat (first | exact agree_refl | (apply agree_upd rfl) | (apply agree_mix rfl) | (apply agree_sets rfl)), S.g ++ [g], S.wt ++ [false], q1, q2, q3, q4, q5, q6, q7, q8, hv2⟩
  clear hw
  rintro σ ⟨gv2, hv2, wv2⟩ w ⟨g1, w1, hi, hg1l, hw1l, hlk1, hsl, hst1, hsi, hre, hw⟩
  simp only at hw
  have hml : (st1.map A.H).length = st1.length := List.length_map _
  have hhi : (st1.map A.H).getD i tInt.dflt = A.H s := by
    rw [← hsi, List.getD_eq_getElem?_getD, List.getElem?_map, List.getElem?_eq_getElem hi, getD_at hi]; rfl
  have hHr := hH.le s
  have hHn := hH.nn s
  have einf : inf = 1125899906842624 := rfl
  obtain ⟨tt, htt⟩ : ∃ tt, tt = (S.reach A s g ⟨par, op, cost⟩).ts := ⟨_, rfl⟩
  rw [← htt] at hre
  obtain ⟨hx, hhx⟩ : ∃ hx, hx = st1.map A.H := ⟨_, rfl⟩
  rw [← hhx] at hw hml hhi
  repeat (first | refine go_run ?_ | (refine go_newP ?_; clear hw; intro p w hw) | (refine go_newWr ?_; clear hw; intro w hw) | (refine go_newS ?_; clear hw; intro s w hw))
  refine st_call rfl (rgSetLink_spec hi hst1 (by omega) hw) ?_
  clear hw
  rintro _ w ⟨rfl, hw⟩
  refine ⟨_, rfl, ?_⟩
  by_cases hc1 : A.H s = inf
  · have hd : decide (hx.getD i tInt.dflt = 1125899906842624) = true := decide_eq_true (by omega)
    have hcut : cutA A s g = true := by unfold cutA; rw [decide_eq_true hc1]; rfl
    repeat (first | refine go_run ?_ | (refine go_newP ?_; clear hw; intro p w hw) | (refine go_newWr ?_; clear hw; intro w hw) | (refine go_newS ?_; clear hw; intro s w hw))
    simp only [hd, beq_self_eq_true, beq_tfI, beq_ftI, Bool.false_and, Bool.true_and, Bool.false_or, Bool.true_or, Bool.not_true, Bool.not_false, Bool.cond_true, Bool.cond_false, gv_fI, gv_tI]
    repeat (first | refine go_run ?_ | (refine go_newP ?_; clear hw; intro p w hw) | (refine go_newWr ?_; clear hw; intro w hw) | (refine go_newS ?_; clear hw; intro s w hw))
    rw [hhx] at hw
    unfold enqA enqO at hre
    rw [if_pos hcut, if_pos hcut, hcut] at hre
    have hw3 : Sat w0 w (OS tEnt 164 h xs :: Box q 82 [a, b, c, d, .pointer (some pe), pg, .pointer (some pr), gv2, hv2, wv2, h, .int .i64 (S.ord : Nat), bdv, bnv, exv] :: OS tInt 3 gv2 (g1.set i g) :: OS tInt 3 hv2 (st1.map A.H) :: OS tBool 4 wv2 (w1.set i false) :: RegH pr A.t.vars st1 (lk1.set i ⟨par, op, cost⟩) :: Γ) := hw.selG
    try rw [hb1] at hw3
    try rw [hb2] at hw3
    exact res_one (v := .bool true) rfl rfl ⟨rfl, by rw [hre]; exact ⟨h, xs, gv2, hv2, wv2, H, hp, hw3⟩⟩
  have hd : decide (hx.getD i tInt.dflt = 1125899906842624) = false := decide_eq_false (by omega)
  rcases hbd with ⟨hB, hb1⟩ | ⟨bn, hB, hb1, hb2⟩
  · have hcut : cutA A s g = false := by unfold cutA; rw [decide_eq_false hc1, hB]; rfl
    repeat (first | refine go_run ?_ | (refine go_newP ?_; clear hw; intro p w hw) | (refine go_newWr ?_; clear hw; intro w hw) | (refine go_newS ?_; clear hw; intro s w hw))
    simp only [hd, beq_self_eq_true, beq_tfI, beq_ftI, Bool.false_and, Bool.true_and, Bool.false_or, Bool.true_or, Bool.not_true, Bool.not_false, Bool.cond_true, Bool.cond_false, gv_fI, gv_tI]
    repeat (first | refine go_run ?_ | (refine go_newP ?_; clear hw; intro p w hw) | (refine go_newWr ?_; clear hw; intro w hw) | (refine go_newS ?_; clear hw; intro s w hw))
    simp only [hb1, beq_self_eq_true, beq_tfI, beq_ftI, Bool.false_and, Bool.true_and, Bool.false_or, Bool.true_or, Bool.not_true, Bool.not_false, Bool.cond_true, Bool.cond_false, gv_fI, gv_tI]
    repeat (first | refine go_run ?_ | (refine go_newP ?_; clear hw; intro p w hw) | (refine go_newWr ?_; clear hw; intro w hw) | (refine go_newS ?_; clear hw; intro s w hw))
    refine vc_plan [.op 0, .op 1, .op 2, .op 3, .op 4, .op 5, .op 6, .op 7, .op 8, .op 9, .op 10, .op 11, .op 12, .op 13, .op 14, .op 15, .op 16] hw (by kernel_rfl) ?_; clear hw; intro w hw
    repeat (first | refine go_run ?_ | (refine go_newP ?_; clear hw; intro p w hw) | (refine go_newWr ?_; clear hw; intro w hw) | (refine go_newS ?_; clear hw; intro s w hw))
    refine st_buildN (vs := [(0, .int .i64 (g + hx.getD i tInt.dflt)), (1, .int .i64 (hx.getD i tInt.dflt)), (2, .int .i64 (S.ord : Nat)), (3, .int .i64 (i : Nat)), (4, .int .i64 g)]) (ls := [(0, [.int .i64 (g + hx.getD i tInt.dflt)]), (1, [.int .i64 (hx.getD i tInt.dflt)]), (2, [.int .i64 (S.ord : Nat)]), (3, [.int .i64 (i : Nat)]), (4, [.int .i64 g])]) rfl rfl rfl ?_
    repeat (first | refine go_run ?_ | (refine go_newP ?_; clear hw; intro p w hw) | (refine go_newWr ?_; clear hw; intro w hw) | (refine go_newS ?_; clear hw; intro s w hw))
    have hw2 : Sat w0 w (OS tEnt 164 h xs :: Box q 82 [a, b, c, d, .pointer (some pe), pg, .pointer (some pr), gv2, hv2, wv2, h, .int .i64 (S.ord : Nat), bdv, bnv, exv] :: OS tInt 3 gv2 (g1.set i g) :: OS tInt 3 hv2 hx :: OS tBool 4 wv2 (w1.set i true) :: RegH pr A.t.vars st1 (lk1.set i ⟨par, op, cost⟩) :: Γ) := hw.selG
    refine st_call rfl (axheapPush_spec (v := ⟨g + hx.getD i tInt.dflt, hx.getD i tInt.dflt, S.ord, i, g⟩) H hxl hw2) ?_
    clear hw hw2
    rintro _ w ⟨rfl, h', ys, hh, hpy, hw⟩
    refine ⟨_, rfl, ?_⟩
    repeat (first | refine go_run ?_ | (refine go_newP ?_; clear hw; intro p w hw) | (refine go_newWr ?_; clear hw; intro w hw) | (refine go_newS ?_; clear hw; intro s w hw))
    rw [hhx] at hw
    simp only [List.set_cons_succ, List.set_cons_zero] at hw
    rw [show ((S.ord : Int) + 1) = ((S.ord + 1 : Nat) : Int) from rfl] at hw
    unfold enqA enqO at hre
    rw [if_neg (by rw [hcut]; decide), if_neg (by rw [hcut]; decide), hcut, ← hhi, hhx] at hre
    rw [hhx] at hpy
    have hw3 : Sat w0 w (OS tEnt 164 h' ys :: Box q 82 [a, b, c, d, .pointer (some pe), pg, .pointer (some pr), gv2, hv2, wv2, h', .int .i64 ((S.ord + 1) : Nat), bdv, bnv, exv] :: OS tInt 3 gv2 (g1.set i g) :: OS tInt 3 hv2 (st1.map A.H) :: OS tBool 4 wv2 (w1.set i true) :: RegH pr A.t.vars st1 (lk1.set i ⟨par, op, cost⟩) :: Γ) := hw
    try rw [hb1] at hw3
    try rw [hb2] at hw3
    have hpf := hpy.trans ((hp.cons _).trans (insE_perm _ _).symm)
    exact res_one (v := .bool true) rfl rfl ⟨rfl, by rw [hre]; exact ⟨h', ys, gv2, hv2, wv2, hh, hpf, hw3⟩⟩
  · by_cases hc2 : bn < g + A.H s
    · have hcut : cutA A s g = true := by unfold cutA; rw [decide_eq_false hc1, hB]; exact decide_eq_true hc2
      have hd2 : decide (bn < g + hx.getD i tInt.dflt) = true := decide_eq_true (by omega)
      repeat (first | refine go_run ?_ | (refine go_newP ?_; clear hw; intro p w hw) | (refine go_newWr ?_; clear hw; intro w hw) | (refine go_newS ?_; clear hw; intro s w hw))
      simp only [hd, beq_self_eq_true, beq_tfI, beq_ftI, Bool.false_and, Bool.true_and, Bool.false_or, Bool.true_or, Bool.not_true, Bool.not_false, Bool.cond_true, Bool.cond_false, gv_fI, gv_tI]
      repeat (first | refine go_run ?_ | (refine go_newP ?_; clear hw; intro p w hw) | (refine go_newWr ?_; clear hw; intro w hw) | (refine go_newS ?_; clear hw; intro s w hw))
      simp only [hb1, beq_self_eq_true, beq_tfI, beq_ftI, Bool.false_and, Bool.true_and, Bool.false_or, Bool.true_or, Bool.not_true, Bool.not_false, Bool.cond_true, Bool.cond_false, gv_fI, gv_tI]
      repeat (first | refine go_run ?_ | (refine go_newP ?_; clear hw; intro p w hw) | (refine go_newWr ?_; clear hw; intro w hw) | (refine go_newS ?_; clear hw; intro s w hw))
      rw [hb2]
      repeat (first | refine go_run ?_ | (refine go_newP ?_; clear hw; intro p w hw) | (refine go_newWr ?_; clear hw; intro w hw) | (refine go_newS ?_; clear hw; intro s w hw))
      simp only [hd2, beq_self_eq_true, beq_tfI, beq_ftI, Bool.false_and, Bool.true_and, Bool.false_or, Bool.true_or, Bool.not_true, Bool.not_false, Bool.cond_true, Bool.cond_false, gv_fI, gv_tI]
      repeat (first | refine go_run ?_ | (refine go_newP ?_; clear hw; intro p w hw) | (refine go_newWr ?_; clear hw; intro w hw) | (refine go_newS ?_; clear hw; intro s w hw))
      rw [hhx] at hw
      unfold enqA enqO at hre
      rw [if_pos hcut, if_pos hcut, hcut] at hre
      have hw3 : Sat w0 w (OS tEnt 164 h xs :: Box q 82 [a, b, c, d, .pointer (some pe), pg, .pointer (some pr), gv2, hv2, wv2, h, .int .i64 (S.ord : Nat), bdv, bnv, exv] :: OS tInt 3 gv2 (g1.set i g) :: OS tInt 3 hv2 (st1.map A.H) :: OS tBool 4 wv2 (w1.set i false) :: RegH pr A.t.vars st1 (lk1.set i ⟨par, op, cost⟩) :: Γ) := hw.selG
      try rw [hb1] at hw3
      try rw [hb2] at hw3
      exact res_one (v := .bool true) rfl rfl ⟨rfl, by rw [hre]; exact ⟨h, xs, gv2, hv2, wv2, H, hp, hw3⟩⟩
    · have hcut : cutA A s g = false := by unfold cutA; rw [decide_eq_false hc1, hB]; exact decide_eq_false hc2
      have hd2 : decide (bn < g + hx.getD i tInt.dflt) = false := decide_eq_false (by omega)
      repeat (first | refine go_run ?_ | (refine go_newP ?_; clear hw; intro p w hw) | (refine go_newWr ?_; clear hw; intro w hw) | (refine go_newS ?_; clear hw; intro s w hw))
      simp only [hd, beq_self_eq_true, beq_tfI, beq_ftI, Bool.false_and, Bool.true_and, Bool.false_or, Bool.true_or, Bool.not_true, Bool.not_false, Bool.cond_true, Bool.cond_false, gv_fI, gv_tI]
      repeat (first | refine go_run ?_ | (refine go_newP ?_; clear hw; intro p w hw) | (refine go_newWr ?_; clear hw; intro w hw) | (refine go_newS ?_; clear hw; intro s w hw))
      simp only [hb1, beq_self_eq_true, beq_tfI, beq_ftI, Bool.false_and, Bool.true_and, Bool.false_or, Bool.true_or, Bool.not_true, Bool.not_false, Bool.cond_true, Bool.cond_false, gv_fI, gv_tI]
      repeat (first | refine go_run ?_ | (refine go_newP ?_; clear hw; intro p w hw) | (refine go_newWr ?_; clear hw; intro w hw) | (refine go_newS ?_; clear hw; intro s w hw))
      rw [hb2]
      repeat (first | refine go_run ?_ | (refine go_newP ?_; clear hw; intro p w hw) | (refine go_newWr ?_; clear hw; intro w hw) | (refine go_newS ?_; clear hw; intro s w hw))
      simp only [hd2, beq_self_eq_true, beq_tfI, beq_ftI, Bool.false_and, Bool.true_and, Bool.false_or, Bool.true_or, Bool.not_true, Bool.not_false, Bool.cond_true, Bool.cond_false, gv_fI, gv_tI]
      repeat (first | refine go_run ?_ | (refine go_newP ?_; clear hw; intro p w hw) | (refine go_newWr ?_; clear hw; intro w hw) | (refine go_newS ?_; clear hw; intro s w hw))
      refine vc_plan [.op 0, .op 1, .op 2, .op 3, .op 4, .op 5, .op 6, .op 7, .op 8, .op 9, .op 10, .op 11, .op 12, .op 13, .op 14, .op 15, .op 16] hw (by kernel_rfl) ?_; clear hw; intro w hw
      repeat (first | refine go_run ?_ | (refine go_newP ?_; clear hw; intro p w hw) | (refine go_newWr ?_; clear hw; intro w hw) | (refine go_newS ?_; clear hw; intro s w hw))
      refine st_buildN (vs := [(0, .int .i64 (g + hx.getD i tInt.dflt)), (1, .int .i64 (hx.getD i tInt.dflt)), (2, .int .i64 (S.ord : Nat)), (3, .int .i64 (i : Nat)), (4, .int .i64 g)]) (ls := [(0, [.int .i64 (g + hx.getD i tInt.dflt)]), (1, [.int .i64 (hx.getD i tInt.dflt)]), (2, [.int .i64 (S.ord : Nat)]), (3, [.int .i64 (i : Nat)]), (4, [.int .i64 g])]) rfl rfl rfl ?_
      repeat (first | refine go_run ?_ | (refine go_newP ?_; clear hw; intro p w hw) | (refine go_newWr ?_; clear hw; intro w hw) | (refine go_newS ?_; clear hw; intro s w hw))
      have hw2 : Sat w0 w (OS tEnt 164 h xs :: Box q 82 [a, b, c, d, .pointer (some pe), pg, .pointer (some pr), gv2, hv2, wv2, h, .int .i64 (S.ord : Nat), bdv, bnv, exv] :: OS tInt 3 gv2 (g1.set i g) :: OS tInt 3 hv2 hx :: OS tBool 4 wv2 (w1.set i true) :: RegH pr A.t.vars st1 (lk1.set i ⟨par, op, cost⟩) :: Γ) := hw.selG
      refine st_call rfl (axheapPush_spec (v := ⟨g + hx.getD i tInt.dflt, hx.getD i tInt.dflt, S.ord, i, g⟩) H hxl hw2) ?_
      clear hw hw2
      rintro _ w ⟨rfl, h', ys, hh, hpy, hw⟩
      refine ⟨_, rfl, ?_⟩
      repeat (first | refine go_run ?_ | (refine go_newP ?_; clear hw; intro p w hw) | (refine go_newWr ?_; clear hw; intro w hw) | (refine go_newS ?_; clear hw; intro s w hw))
      rw [hhx] at hw
      simp only [List.set_cons_succ, List.set_cons_zero] at hw
      rw [show ((S.ord : Int) + 1) = ((S.ord + 1 : Nat) : Int) from rfl] at hw
      unfold enqA enqO at hre
      rw [if_neg (by rw [hcut]; decide), if_neg (by rw [hcut]; decide), hcut, ← hhi, hhx] at hre
      rw [hhx] at hpy
      have hw3 : Sat w0 w (OS tEnt 164 h' ys :: Box q 82 [a, b, c, d, .pointer (some pe), pg, .pointer (some pr), gv2, hv2, wv2, h', .int .i64 ((S.ord + 1) : Nat), bdv, bnv, exv] :: OS tInt 3 gv2 (g1.set i g) :: OS tInt 3 hv2 (st1.map A.H) :: OS tBool 4 wv2 (w1.set i true) :: RegH pr A.t.vars st1 (lk1.set i ⟨par, op, cost⟩) :: Γ) := hw
      try rw [hb1] at hw3
      try rw [hb2] at hw3
      have hpf := hpy.trans ((hp.cons _).trans (insE_perm _ _).symm)
      exact res_one (v := .bool true) rfl rfl ⟨rfl, by rw [hre]; exact ⟨h', ys, gv2, hv2, wv2, hh, hpf, hw3⟩⟩
end Go.Proofs.YtegndanecnicaaaGreat

/-
  Contract of 'slices.Reverse' over ints.
-/
namespace Go.Proofs.YtegndanecnicaaaGreat
open Go.Sl Go
attribute [local irreducible] vc opsW opsD opV opW PureV ReadV Thn Blk
def revI (xs : List Int) (i : Nat) : List Int := (List.range xs.length).map fun (k : Nat) => if k < i ∨ xs.length - 1 - i < k then xs.getD (xs.length - 1 - k) tInt.dflt else xs.getD k tInt.dflt
theorem revI_len (xs : List Int) (i : Nat) : (revI xs i).length = xs.length := by simp [revI]
theorem revI_at {xs : List Int} {i k : Nat} (h : k < xs.length) : (revI xs i).getD k tInt.dflt = if k < i ∨ xs.length - 1 - i < k then xs.getD (xs.length - 1 - k) tInt.dflt else xs.getD k tInt.dflt := by simp [revI, List.getD, h]
theorem ext_getI {A B : List Int} (hl : A.length = B.length) (h : ∀ i, i < A.length → A.getD i tInt.dflt = B.getD i tInt.dflt) : A = B := by
  apply List.ext_getElem hl
  intro i h1 h2
  have := h i h1
  rwa [getD_at h1, getD_at h2] at this
theorem set_getI {l : List Int} {i j : Nat} {x : Int} (hi : i < l.length) : (l.set i x).getD j tInt.dflt = if j = i then x else l.getD j tInt.dflt := by
  simp only [List.getD, List.getElem?_set]
  by_cases h : i = j
  · subst h; simp [hi]
  · rw [if_neg h, if_neg (Ne.symm h)]
theorem revI_zero (xs : List Int) : revI xs 0 = xs := ext_getI (revI_len xs 0) fun k hk => by
  rw [revI_len] at hk
  rw [revI_at hk, if_neg (by omega)]
theorem revI_end {xs : List Int} {i : Nat} (h : xs.length - 1 ≤ 2 * i) (hi : i ≤ xs.length) : revI xs i = xs.reverse := ext_getI (by rw [revI_len, List.length_reverse]) fun k hk => by
  rw [revI_len] at hk
  rw [revI_at hk]
  have hr : xs.reverse.getD k tInt.dflt = xs.getD (xs.length - 1 - k) tInt.dflt := by
    rw [getD_at (by rw [List.length_reverse]; exact hk), List.getElem_reverse, getD_at (by omega)]
  rw [hr]
  split
  · rfl
  · rename_i hn
    have : k = xs.length - 1 - k := by omega
    rw [← this]
theorem revI_step {xs : List Int} {i : Nat} (h : 2 * i < xs.length - 1) : ((revI xs i).set i ((revI xs i).getD (xs.length - 1 - i) tInt.dflt)).set (xs.length - 1 - i) ((revI xs i).getD i tInt.dflt) = revI xs (i + 1) := ext_getI (by simp [revI]) fun k hk => by
  have hl := revI_len xs i
  rw [List.length_set, List.length_set, hl] at hk
  rw [set_getI (by rw [List.length_set, hl]; omega), set_getI (by rw [hl]; omega), revI_at (show i < xs.length by omega), revI_at (show xs.length - 1 - i < xs.length by omega), revI_at hk, revI_at hk]
  by_cases e1 : k = xs.length - 1 - i
  · subst e1
    rw [if_pos rfl, if_neg (by omega), if_pos (by omega), show xs.length - 1 - (xs.length - 1 - i) = i by omega]
  · rw [if_neg e1]
    by_cases e2 : k = i
    · subst e2
      rw [if_pos rfl, if_neg (by omega), if_pos (by omega)]
    · rw [if_neg e2]
      by_cases e3 : k < i ∨ xs.length - 1 - i < k
      · rw [if_pos e3, if_pos (by omega)]
      · rw [if_neg e3, if_neg (by omega)]
set_option maxRecDepth 8000 in
set_option maxHeartbeats 4000000 in
theorem Reverse_spec {w0 w : World} {Γ : List HP} {v : Value} {xs : List Int} (hn : xs.length ≤ 1048576) (hw : Sat w0 w (OS tInt 3 v xs :: Γ)) :
    Calls Tryz.prog 87 #[v] w fun e w' => e = .returned (.tuple #[]) ∧ Sat w0 w' (OS tInt 3 v xs.reverse :: Γ) := by
  refine calls_of_vc (args := [v]) mixed Tryz.func87 rfl (by kernel_rfl) (Nat.le_of_ble_eq_true rfl) ?_
  rw [← revI_zero xs] at hw
  have h0 := revI_len xs 0
  repeat (first | refine go_run ?_ | (refine go_newP ?_; clear hw; intro p w hw) | (refine go_newWr ?_; clear hw; intro w hw) | (refine go_newS ?_; clear hw; intro s w hw))
  refine vc_loop [2, 3, 7, 8, 9, 10, 11, 12, 13, 14, 15, 16, 17, 18, 19, 20, 21, 22, 23, 24, 25, 26, 27] (G := Nat) (fun i => [(2, .int .i64 i), (3, .int .i64 ((xs.length : Int) - 1 - i))]) (fun i w => i ≤ xs.length ∧ 2 * i ≤ xs.length + 1 ∧ Sat w0 w (OS tInt 3 v (revI xs i) :: Γ)) (fun i => xs.length - i) 0 (fun _ => rfl) ⟨rfl, by show Value.int .i64 (((revI xs 0).length : Int) - 1) = Value.int .i64 ((xs.length : Int) - 1 - ((0 : Nat) : Int)); rw [h0]; congr 1; omega, trivial⟩ ⟨Nat.zero_le _, by omega, hw⟩ ?_
  clear hw h0
  rintro σ i w ⟨hi, hi2, hw⟩
  have hl := revI_len xs i
  repeat (first | refine go_run ?_ | (refine go_newP ?_; clear hw; intro p w hw) | (refine go_newW ?_; clear hw; intro w hw) | (refine go_newS ?_; clear hw; intro s w hw))
  refine go_if (fun h1 => ?_) (fun h1 => ?_)
  · have hj : ((xs.length : Int) - 1 - i).toNat = xs.length - 1 - i := by omega
    have hl2 : ((revI xs i).set i ((revI xs i).getD ((xs.length : Int) - 1 - i).toNat tInt.dflt)).length = xs.length := by rw [List.length_set, hl]
    repeat (first | refine go_run ?_ | (refine go_newP ?_; clear hw; intro p w hw) | (refine go_newWr ?_; clear hw; intro w hw) | (refine go_newS ?_; clear hw; intro s w hw))
    refine vc_plan [.op 0, .op 1, .op 2, .op 3, .op 4, .op 5, .op 6, .op 7, .op 8, .op 9, .op 10, .op 11, .op 12, .op 13, .op 14, .op 15] hw (by kernel_rfl) ?_; clear hw; intro w hw
    repeat (first | refine go_run ?_ | (refine go_newP ?_; clear hw; intro p w hw) | (refine go_newWr ?_; clear hw; intro w hw) | (refine go_newS ?_; clear hw; intro s w hw))
    rw [hj, revI_step (by omega)] at hw
    exact ⟨i + 1, ⟨rfl, by show Value.int .i64 ((xs.length : Int) - 1 - i - 1) = Value.int .i64 ((xs.length : Int) - 1 - ((i + 1 : Nat) : Int)); congr 1; omega, trivial⟩, by repeat (first | exact agree_refl | (apply agree_upd rfl) | (apply agree_mix rfl) | (apply agree_sets rfl)), ⟨by omega, by omega, hw⟩, by omega⟩
  repeat (first | refine go_run ?_ | (refine go_newP ?_; clear hw; intro p w hw) | (refine go_newW ?_; clear hw; intro w hw) | (refine go_newS ?_; clear hw; intro s w hw))
  rw [revI_end (by omega) hi] at hw
  exact res_none' rfl ⟨rfl, hw⟩
end Go.Proofs.YtegndanecnicaaaGreat
