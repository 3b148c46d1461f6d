
/-
  Contract of LM-cut's 'cut'.
-/
import Derived.Test.YtkmbenhffledpaaGreatWLm3
import Derived.Test.YtkmbenhffledpaaGreatMW6
set_option linter.unusedSimpArgs false
set_option linter.unusedVariables false
namespace Go.Proofs.YtkmbenhffledpaaGreat
open Go.Sl Go
attribute [local irreducible] vc opsW opsD opV opW PureV ReadV Thn Blk
/-- The goal zone, as far as it was found. -/
structure TI (t : TTask) (cs V : List Int) (g0 : Int) (B : List Bool) : Prop where
  len : B.length = factN t
  ok : ∀ f : Int, 0 ≤ f → f < factN t → bAt B f = true → ZT (withC t cs) V g0 f
  g : bAt B g0 = true
def TCl (cs : List Int) (B : List Bool) (a : LArc) : Prop := 0 ≤ a.src → cs.getD a.op.toNat tInt.dflt = 0 → bAt B a.dst = true → bAt B a.src = true
structure SIn (t : TTask) (cs z V : List Int) (g0 : Int) (S : List Bool) : Prop where
  len : S.length = factN t
  ok : ∀ f : Int, 0 ≤ f → f < factN t → bAt S f = true → ZS (withC t cs) z V g0 f
  st : ∀ f, StF t.vars z f → bAt S f = true
def SCl (B S : List Bool) (a : LArc) : Prop := (a.src < 0 ∨ bAt S a.src = true) → bAt B a.dst = false → bAt S a.dst = true
set_option maxRecDepth 8000 in
set_option maxHeartbeats 16000000 in
theorem lcut_spec {w0 : World} {pr : Addr} {a fv gv cv0 lv sv cv vv : Value} {us : List CUV} {t : TTask} {z cs V : List Int} {g0 : Int} (hr : LcR w0 pr t a fv gv cv0 lv us) (hg : GoodT t) (hc : CostsOk t cs) (hs : RS tInt w0 sv z) (hok : StateOk t.vars z) (hcs : RS tInt w0 cv cs) (hv : RS tInt w0 vv V) (X : CutX (withC t cs) z V g0) :
    Calls Tryz.prog 200 #[.pointer (some pr), sv, cv, vv] w0 fun e w' => ∃ (kv : Value) (K : List Nat), e = .returned kv ∧ K.Pairwise (· < ·) ∧ (∀ i : Nat, i ∈ K ↔ i < t.ops.length ∧ InCut (withC t cs) z V g0 i) ∧ Sat w0 w' [OS tInt 3 kv (K.map fun i : Nat => (i : Int))] := by
  have hr0 := hr
  obtain ⟨hb, hvr, hfr, hgr, hcr, hlr, hll, hF⟩ := hr
  have hN := factN_le hg
  have hol := hg.ops
  have hcl := hc.1
  have hzl := hok.1
  have hvl := hg.vars
  have hfl := fstL_len t.vars t.vars.length
  have hUl : (unT t).length ≤ 64 * t.ops.length := unK_len hg (k := t.ops.length) (Nat.le_refl _)
  have hVl : V.length = factN t := X.hm.len
  have hV : ∀ g : Int, 0 ≤ g → g < factN t → 0 ≤ dg V g := fun g h0 h1 => (X.hm.rng g h0 h1).1
  have hAl : (arcsT t V).length ≤ (unT t).length := arcK_len t V _
  have hgn : ∀ f ∈ goalN t, 0 ≤ f ∧ f < V.length := fun f hf => by
    obtain ⟨x, hx, rfl⟩ := List.mem_map.1 hf
    obtain ⟨i, hi, e⟩ := List.getElem_of_mem hx
    have ho := (hg.goal i hi).1
    rw [getD_at hi, e] at ho
    have h1 := numF_rng hg.pos ho
    have h2 := factN_eq hg
    omega
  have hg0 : grtI V (goalN t) = g0 := by
    rcases grtI_ok (V := V) (l := goalN t) fun f hf => (hgn f hf).1 with ⟨e, _⟩ | ⟨_, h⟩
    · have := X.g.1
      have e2 : goalN (withC t cs) = goalN t := rfl
      rw [e2, e] at this; exact absurd this List.not_mem_nil
    · exact grt_uniq h X.g
  have hgr0 := hgn g0 X.g.1
  have hArc : ∀ a ∈ (arcsT t V), (0 ≤ a.dst ∧ a.dst < factN t) ∧ a.src < factN t ∧ ∃ op : Nat, a.op = (op : Int) ∧ op < t.ops.length := fun a ha => by
    obtain ⟨_, _, _, _, _, _, _, h1, h2, h3⟩ := arc_un (cs := cs) hg hV ha
    exact ⟨h1, h2, h3⟩
  have hw := Sat.start w0
  refine calls_of_vc (args := [.pointer (some pr), sv, cv, vv]) mixed Tryz.func200 rfl (by kernel_rfl) (Nat.le_of_ble_eq_true rfl) ?_
  repeat (first | refine go_run ?_ | (refine go_newP ?_; clear hw; intro p w hw) | (refine go_newW ?_; clear hw; intro w hw) | (refine go_newS ?_; clear hw; intro s w hw))
  refine st_call rfl (larcs_spec (⟨hb.at hw, hvr.at hw, hfr.at hw, hgr.at hw, hcr.at hw, hlr.at hw, hll, hF.at hw⟩) hg (hv.at hw) hVl hV) ?_
  rintro _ w' ⟨av, rfl, hk'⟩
  replace hw : Sat w0 w' [OS tLArc 336 av (arcsT t V)] := hw.call1 hk'
  clear hk'
  refine ⟨_, rfl, ?_⟩
  repeat (first | refine go_run ?_ | (refine go_newP ?_; clear hw; intro p w hw) | (refine go_newW ?_; clear hw; intro w hw) | (refine go_newS ?_; clear hw; intro s w hw))
  obtain ⟨tv, htv⟩ : ∃ tv, tv = s := ⟨s, rfl⟩
  subst htv
  rw [Int.toNat_natCast] at hw
  have hrep : (List.replicate (factN t) false).length = factN t := List.length_replicate
  repeat (first | refine go_run ?_ | (refine go_newP ?_; clear hw; intro p w hw) | (refine go_newW ?_; clear hw; intro w hw) | (refine go_newS ?_; clear hw; intro s w hw))
  refine st_call rfl (lgreatest_spec (hgr.at hw) (hv.at hw) hgn) ?_
  rintro _ w' ⟨rfl, hk'⟩
  replace hw := hw.call0 hk'
  clear hk'
  refine ⟨_, rfl, ?_⟩
  rw [hg0]
  have hT0 : TI t cs V g0 ((List.replicate (factN t) false).set g0.toNat true) := by
    refine ⟨by rw [List.length_set]; exact hrep, fun f h0 h1 hb => ?_, by rw [bAt_set hgr0.1 (by omega) hgr0.1, if_pos rfl]⟩
    rw [bAt_set hgr0.1 (by omega) h0] at hb
    by_cases e : f = g0
    · rw [e]; exact .goal
    · rw [if_neg e, bAt_rep] at hb; cases hb
  repeat (first | refine go_run ?_ | (refine go_newP ?_; clear hw; intro p w hw) | (refine go_newW ?_; clear hw; intro w hw) | (refine go_newS ?_; clear hw; intro s w hw))
  refine vc_loop2 [11, 13, 39, 40, 41, 42, 43, 44, 45, 46, 47, 48, 49, 50, 51, 52, 53, 54, 55, 56, 57, 58, 59, 60, 61, 62, 63, 64, 65, 66, 67, 68, 69, 70, 71, 72, 73, 74, 75, 76] (G := Bool) (H := List Bool) (fun ch _ => [(11, .bool ch)]) (fun ch B w => TI t cs V g0 B ∧ (ch = false → ∀ i : Nat, i < (arcsT t V).length → TCl cs B ((arcsT t V).getD i tLArc.dflt)) ∧ Sat w0 w [OS tBool 4 tv B, OS tLArc 336 av (arcsT t V)]) (fun ch B => 2 * cntF B + (bif ch then 1 else 0)) true _ (fun _ _ => rfl) ⟨rfl, trivial⟩ ⟨hT0, (fun h => by cases h), hw⟩ ?_
  clear hw hT0 hrep
  rintro σ0 ch B w ⟨hT, hst, hw⟩
  cases ch
  rotate_left
  · clear hst
    repeat (first | refine go_run ?_ | (refine go_newP ?_; clear hw; intro p w hw) | (refine go_newW ?_; clear hw; intro w hw) | (refine go_newS ?_; clear hw; intro s w hw))
    refine vc_loop3 [11, 13, 42, 43, 44, 45, 46, 47, 48, 49, 50, 51, 52, 53, 54, 55, 56, 57, 58, 59, 60, 61, 62, 63, 64, 65, 66, 67, 68, 69, 70, 71, 72, 73, 74, 75, 76] (G := Nat) (H := Bool) (I := List Bool) (fun k ch _ => [(42, .int .i64 k), (11, .bool ch)]) (fun k ch B' w => k ≤ (arcsT t V).length ∧ TI t cs V g0 B' ∧ cntF B' ≤ cntF B ∧ (ch = true → cntF B' < cntF B) ∧ (ch = false → ∀ i : Nat, i < k → TCl cs B' ((arcsT t V).getD i tLArc.dflt)) ∧ Sat w0 w [OS tBool 4 tv B', OS tLArc 336 av (arcsT t V)]) (fun k _ _ => (arcsT t V).length - k) 0 false B (fun _ _ _ => rfl) ⟨rfl, rfl, trivial⟩ ⟨Nat.zero_le _, hT, Nat.le_refl _, (fun h => by cases h), fun _ i hi => absurd hi (Nat.not_lt_zero _), hw⟩ ?_
    clear hw
    rintro σ1 k ch B' w ⟨hk, hT', hs1, hs2, hs3, hw⟩
    have hBl := hT'.len
    repeat (first | refine go_run ?_ | (refine go_newP ?_; clear hw; intro p w hw) | (refine go_newW ?_; clear hw; intro w hw) | (refine go_newS ?_; clear hw; intro s w hw))
    refine go_if (fun h3 => ?_) (fun h3 => ?_)
    · have hkl : k < (arcsT t V).length := by omega
      have hma := mem_getD tLArc.dflt hkl
      obtain ⟨hdst, hsrc, op, hop, hopl⟩ := hArc _ hma
      by_cases p1 : 0 ≤ ((arcsT t V).getD k tLArc.dflt).src
      rotate_left
      · have hneg : TCl cs B' ((arcsT t V).getD k tLArc.dflt) := fun h => absurd h p1
        have hd1 : decide (0 ≤ ((arcsT t V).getD k tLArc.dflt).src) = false := decide_eq_false p1
        repeat (first | refine go_run ?_ | (refine go_newP ?_; clear hw; intro p w hw) | (refine go_newWr ?_; clear hw; intro w hw) | (refine go_newS ?_; clear hw; intro s w hw))
        simp only [hd1, beq_self_eq_true, beq_tfI, beq_ftI, Bool.false_and, Bool.true_and, Bool.false_or, Bool.true_or, Bool.not_true, Bool.not_false, Bool.cond_true, Bool.cond_false, gv_fI, gv_tI]
        repeat (first | refine go_run ?_ | (refine go_newP ?_; clear hw; intro p w hw) | (refine go_newWr ?_; clear hw; intro w hw) | (refine go_newS ?_; clear hw; intro s w hw))
        refine ⟨k + 1, ch, B', ⟨rfl, rfl, trivial⟩, by repeat (first | exact agree_refl | (apply agree_upd rfl) | (apply agree_mix rfl) | (apply agree_sets rfl)), ⟨by omega, hT', hs1, hs2, fun hch i hi => ?_, hw.tail⟩, by omega⟩
        by_cases e : i = k
        · subst e; exact hneg
        · exact hs3 hch i (by omega)
      have hd1 : decide (0 ≤ ((arcsT t V).getD k tLArc.dflt).src) = true := decide_eq_true p1
      by_cases p2 : cs.getD ((arcsT t V).getD k tLArc.dflt).op.toNat tInt.dflt = 0
      rotate_left
      · have hneg : TCl cs B' ((arcsT t V).getD k tLArc.dflt) := fun _ h => absurd h p2
        have hd2 : decide (cs.getD ((arcsT t V).getD k tLArc.dflt).op.toNat tInt.dflt = 0) = false := decide_eq_false p2
        repeat (first | refine go_run ?_ | (refine go_newP ?_; clear hw; intro p w hw) | (refine go_newWr ?_; clear hw; intro w hw) | (refine go_newS ?_; clear hw; intro s w hw))
        simp only [hd1, beq_self_eq_true, beq_tfI, beq_ftI, Bool.false_and, Bool.true_and, Bool.false_or, Bool.true_or, Bool.not_true, Bool.not_false, Bool.cond_true, Bool.cond_false, gv_fI, gv_tI]
        repeat (first | refine go_run ?_ | (refine go_newP ?_; clear hw; intro p w hw) | (refine go_newWr ?_; clear hw; intro w hw) | (refine go_newS ?_; clear hw; intro s w hw))
        simp only [hd2, beq_self_eq_true, beq_tfI, beq_ftI, Bool.false_and, Bool.true_and, Bool.false_or, Bool.true_or, Bool.not_true, Bool.not_false, Bool.cond_true, Bool.cond_false, gv_fI, gv_tI]
        repeat (first | refine go_run ?_ | (refine go_newP ?_; clear hw; intro p w hw) | (refine go_newWr ?_; clear hw; intro w hw) | (refine go_newS ?_; clear hw; intro s w hw))
        refine ⟨k + 1, ch, B', ⟨rfl, rfl, trivial⟩, by repeat (first | exact agree_refl | (apply agree_upd rfl) | (apply agree_mix rfl) | (apply agree_sets rfl)), ⟨by omega, hT', hs1, hs2, fun hch i hi => ?_, hw.tail⟩, by omega⟩
        by_cases e : i = k
        · subst e; exact hneg
        · exact hs3 hch i (by omega)
      have hd2 : decide (cs.getD ((arcsT t V).getD k tLArc.dflt).op.toNat tInt.dflt = 0) = true := decide_eq_true p2
      cases p3 : B'.getD ((arcsT t V).getD k tLArc.dflt).dst.toNat tBool.dflt
      · have hneg : TCl cs B' ((arcsT t V).getD k tLArc.dflt) := fun _ _ h => by
          have h2 : B'.getD ((arcsT t V).getD k tLArc.dflt).dst.toNat tBool.dflt = true := h
          rw [p3] at h2; cases h2
        repeat (first | refine go_run ?_ | (refine go_newP ?_; clear hw; intro p w hw) | (refine go_newWr ?_; clear hw; intro w hw) | (refine go_newS ?_; clear hw; intro s w hw))
        simp only [hd1, beq_self_eq_true, beq_tfI, beq_ftI, Bool.false_and, Bool.true_and, Bool.false_or, Bool.true_or, Bool.not_true, Bool.not_false, Bool.cond_true, Bool.cond_false, gv_fI, gv_tI]
        repeat (first | refine go_run ?_ | (refine go_newP ?_; clear hw; intro p w hw) | (refine go_newWr ?_; clear hw; intro w hw) | (refine go_newS ?_; clear hw; intro s w hw))
        simp only [hd2, beq_self_eq_true, beq_tfI, beq_ftI, Bool.false_and, Bool.true_and, Bool.false_or, Bool.true_or, Bool.not_true, Bool.not_false, Bool.cond_true, Bool.cond_false, gv_fI, gv_tI]
        repeat (first | refine go_run ?_ | (refine go_newP ?_; clear hw; intro p w hw) | (refine go_newWr ?_; clear hw; intro w hw) | (refine go_newS ?_; clear hw; intro s w hw))
        simp only [p3, beq_self_eq_true, beq_tfI, beq_ftI, Bool.false_and, Bool.true_and, Bool.false_or, Bool.true_or, Bool.not_true, Bool.not_false, Bool.cond_true, Bool.cond_false, gv_fI, gv_tI]
        repeat (first | refine go_run ?_ | (refine go_newP ?_; clear hw; intro p w hw) | (refine go_newWr ?_; clear hw; intro w hw) | (refine go_newS ?_; clear hw; intro s w hw))
        refine ⟨k + 1, ch, B', ⟨rfl, rfl, trivial⟩, by repeat (first | exact agree_refl | (apply agree_upd rfl) | (apply agree_mix rfl) | (apply agree_sets rfl)), ⟨by omega, hT', hs1, hs2, fun hch i hi => ?_, hw.tail⟩, by omega⟩
        by_cases e : i = k
        · subst e; exact hneg
        · exact hs3 hch i (by omega)
      cases p4 : B'.getD ((arcsT t V).getD k tLArc.dflt).src.toNat tBool.dflt
      rotate_left
      · have hneg : TCl cs B' ((arcsT t V).getD k tLArc.dflt) := fun _ _ _ => p4
        repeat (first | refine go_run ?_ | (refine go_newP ?_; clear hw; intro p w hw) | (refine go_newWr ?_; clear hw; intro w hw) | (refine go_newS ?_; clear hw; intro s w hw))
        simp only [hd1, beq_self_eq_true, beq_tfI, beq_ftI, Bool.false_and, Bool.true_and, Bool.false_or, Bool.true_or, Bool.not_true, Bool.not_false, Bool.cond_true, Bool.cond_false, gv_fI, gv_tI]
        repeat (first | refine go_run ?_ | (refine go_newP ?_; clear hw; intro p w hw) | (refine go_newWr ?_; clear hw; intro w hw) | (refine go_newS ?_; clear hw; intro s w hw))
        simp only [hd2, beq_self_eq_true, beq_tfI, beq_ftI, Bool.false_and, Bool.true_and, Bool.false_or, Bool.true_or, Bool.not_true, Bool.not_false, Bool.cond_true, Bool.cond_false, gv_fI, gv_tI]
        repeat (first | refine go_run ?_ | (refine go_newP ?_; clear hw; intro p w hw) | (refine go_newWr ?_; clear hw; intro w hw) | (refine go_newS ?_; clear hw; intro s w hw))
        simp only [p3, beq_self_eq_true, beq_tfI, beq_ftI, Bool.false_and, Bool.true_and, Bool.false_or, Bool.true_or, Bool.not_true, Bool.not_false, Bool.cond_true, Bool.cond_false, gv_fI, gv_tI]
        repeat (first | refine go_run ?_ | (refine go_newP ?_; clear hw; intro p w hw) | (refine go_newWr ?_; clear hw; intro w hw) | (refine go_newS ?_; clear hw; intro s w hw))
        simp only [p4, beq_self_eq_true, beq_tfI, beq_ftI, Bool.false_and, Bool.true_and, Bool.false_or, Bool.true_or, Bool.not_true, Bool.not_false, Bool.cond_true, Bool.cond_false, gv_fI, gv_tI]
        repeat (first | refine go_run ?_ | (refine go_newP ?_; clear hw; intro p w hw) | (refine go_newWr ?_; clear hw; intro w hw) | (refine go_newS ?_; clear hw; intro s w hw))
        refine ⟨k + 1, ch, B', ⟨rfl, rfl, trivial⟩, by repeat (first | exact agree_refl | (apply agree_upd rfl) | (apply agree_mix rfl) | (apply agree_sets rfl)), ⟨by omega, hT', hs1, hs2, fun hch i hi => ?_, hw.tail⟩, by omega⟩
        by_cases e : i = k
        · subst e; exact hneg
        · exact hs3 hch i (by omega)
      have hzd := hT'.ok _ hdst.1 hdst.2 p3
      have hzs := zt_arc hg hV hma p1 p2 hzd
      have hT2 : TI t cs V g0 (B'.set ((arcsT t V).getD k tLArc.dflt).src.toNat true) := by
        refine ⟨by rw [List.length_set]; exact hBl, fun f h0 h1 hb => ?_, ?_⟩
        · rw [bAt_set p1 (by omega) h0] at hb
          by_cases e : f = ((arcsT t V).getD k tLArc.dflt).src
          · rw [e]; exact hzs
          · rw [if_neg e] at hb; exact hT'.ok f h0 h1 hb
        · rw [bAt_set p1 (by omega) hgr0.1]
          split
          · rfl
          · exact hT'.g
      have hcn := cntF_set (B := B') (i := ((arcsT t V).getD k tLArc.dflt).src.toNat) (by omega) p4
      repeat (first | refine go_run ?_ | (refine go_newP ?_; clear hw; intro p w hw) | (refine go_newWr ?_; clear hw; intro w hw) | (refine go_newS ?_; clear hw; intro s w hw))
      simp only [hd1, beq_self_eq_true, beq_tfI, beq_ftI, Bool.false_and, Bool.true_and, Bool.false_or, Bool.true_or, Bool.not_true, Bool.not_false, Bool.cond_true, Bool.cond_false, gv_fI, gv_tI]
      repeat (first | refine go_run ?_ | (refine go_newP ?_; clear hw; intro p w hw) | (refine go_newWr ?_; clear hw; intro w hw) | (refine go_newS ?_; clear hw; intro s w hw))
      simp only [hd2, beq_self_eq_true, beq_tfI, beq_ftI, Bool.false_and, Bool.true_and, Bool.false_or, Bool.true_or, Bool.not_true, Bool.not_false, Bool.cond_true, Bool.cond_false, gv_fI, gv_tI]
      repeat (first | refine go_run ?_ | (refine go_newP ?_; clear hw; intro p w hw) | (refine go_newWr ?_; clear hw; intro w hw) | (refine go_newS ?_; clear hw; intro s w hw))
      simp only [p3, beq_self_eq_true, beq_tfI, beq_ftI, Bool.false_and, Bool.true_and, Bool.false_or, Bool.true_or, Bool.not_true, Bool.not_false, Bool.cond_true, Bool.cond_false, gv_fI, gv_tI]
      repeat (first | refine go_run ?_ | (refine go_newP ?_; clear hw; intro p w hw) | (refine go_newWr ?_; clear hw; intro w hw) | (refine go_newS ?_; clear hw; intro s w hw))
      simp only [p4, beq_self_eq_true, beq_tfI, beq_ftI, Bool.false_and, Bool.true_and, Bool.false_or, Bool.true_or, Bool.not_true, Bool.not_false, Bool.cond_true, Bool.cond_false, gv_fI, gv_tI]
      repeat (first | refine go_run ?_ | (refine go_newP ?_; clear hw; intro p w hw) | (refine go_newWr ?_; clear hw; intro w hw) | (refine go_newS ?_; clear hw; intro s w hw))
      exact ⟨k + 1, true, _, ⟨rfl, rfl, trivial⟩, by repeat (first | exact agree_refl | (apply agree_upd rfl) | (apply agree_mix rfl) | (apply agree_sets rfl)), ⟨by omega, hT2, by omega, fun _ => by omega, (fun h => by cases h), hw.tail⟩, by omega⟩
    · repeat (first | refine go_run ?_ | (refine go_newP ?_; clear hw; intro p w hw) | (refine go_newW ?_; clear hw; intro w hw) | (refine go_newS ?_; clear hw; intro s w hw))
      refine ⟨ch, B', ⟨rfl, trivial⟩, by repeat (first | exact agree_refl | (apply agree_upd rfl) | (apply agree_mix rfl) | (apply agree_sets rfl)), ⟨hT', fun hch i hi => hs3 hch i (by omega), hw⟩, ?_⟩
      cases ch
      · simp only [cond_true, cond_false]; omega
      · have := hs2 rfl
        simp only [cond_true]; omega
  have hcl0 := hst rfl
  clear hst
  have hTz : ∀ f : Int, 0 ≤ f → f < factN t → (bAt B f = true ↔ ZT (withC t cs) V g0 f) := fun f h0 h1 => ⟨hT.ok f h0 h1, fun h => by
    refine zt_of (B := fun f => bAt B f = true) hg hV hT.g (fun a ha h2 h3 h4 => ?_) h
    obtain ⟨i, hi, e⟩ := List.getElem_of_mem ha
    have h5 := hcl0 i hi
    rw [getD_at hi, e] at h5
    exact h5 h2 h3 h4⟩
  repeat (first | refine go_run ?_ | (refine go_newP ?_; clear hw; intro p w hw) | (refine go_newW ?_; clear hw; intro w hw) | (refine go_newS ?_; clear hw; intro s w hw))
  obtain ⟨uv, huv⟩ : ∃ uv, uv = s := ⟨s, rfl⟩
  subst huv
  rw [Int.toNat_natCast] at hw
  have hBl := hT.len
  refine vc_loop2 [15, 16, 84, 85, 86, 87, 88, 89, 90, 91, 92, 93, 94, 95, 96, 97, 98, 99, 100] (G := Nat) (H := List Bool) (fun k _ => [(84, .int .i64 k)]) (fun k S w => k ≤ t.vars.length ∧ S.length = factN t ∧ (∀ f : Int, 0 ≤ f → f < factN t → bAt S f = true → StF t.vars z f) ∧ (∀ v : Nat, v < k → bAt S (firstV t.vars v + z.getD v tInt.dflt) = true) ∧ Sat w0 w [OS tBool 4 uv S, OS tBool 4 tv B, OS tLArc 336 av (arcsT t V)]) (fun k _ => t.vars.length - k) 0 _ (fun _ _ => rfl) ⟨rfl, trivial⟩ ⟨Nat.zero_le _, List.length_replicate, (fun f _ _ h => by rw [bAt_rep] at h; cases h), fun v hv => absurd hv (Nat.not_lt_zero _), hw⟩ ?_
  clear hw
  rintro σ2 k S w ⟨hk, hSl, hS1, hS2, hw⟩
  repeat (first | refine go_run ?_ | (refine go_newP ?_; clear hw; intro p w hw) | (refine go_newW ?_; clear hw; intro w hw) | (refine go_newS ?_; clear hw; intro s w hw))
  refine go_if (fun h4 => ?_) (fun h4 => ?_)
  · have hkl : k < t.vars.length := by omega
    have hrg := stF_rng hg hok (f := firstV t.vars k + z.getD k tInt.dflt) ⟨k, hkl, rfl⟩
    obtain ⟨q0, q1, q2⟩ := dgf_nn hg.pos (fun i hi => (hg.dom i hi).2) hvl hkl
    have hz := hok.2 k (by omega)
    have hd := hg.dom k hkl
    have hset := fun f (h0 : 0 ≤ f) => bAt_set (B := S) (g := f) hrg.1 (by omega) h0
    have n1 : ∀ f : Int, 0 ≤ f → f < factN t → bAt (S.set (firstV t.vars k + z.getD k tInt.dflt).toNat true) f = true → StF t.vars z f := fun f h0 h1 hb => by
      rw [hset f h0] at hb
      by_cases e : f = firstV t.vars k + z.getD k tInt.dflt
      · exact ⟨k, hkl, e⟩
      · rw [if_neg e] at hb; exact hS1 f h0 h1 hb
    have n2 : ∀ v : Nat, v < k + 1 → bAt (S.set (firstV t.vars k + z.getD k tInt.dflt).toNat true) (firstV t.vars v + z.getD v tInt.dflt) = true := fun v hv => by
      have hv' : v < t.vars.length := by omega
      rw [hset _ (stF_rng hg hok (f := firstV t.vars v + z.getD v tInt.dflt) ⟨v, hv', rfl⟩).1]
      split
      · rfl
      · rename_i e
        exact hS2 v (by
          have : v ≠ k := fun e2 => e (by rw [e2])
          omega)
    rw [← q0] at n1 n2 hrg q1 q2
    repeat (first | refine go_run ?_ | (refine go_newP ?_; clear hw; intro p w hw) | (refine go_newW ?_; clear hw; intro w hw) | (refine go_newS ?_; clear hw; intro s w hw))
    refine ⟨k + 1, _, ⟨rfl, trivial⟩, by repeat (first | exact agree_refl | (apply agree_upd rfl) | (apply agree_mix rfl) | (apply agree_sets rfl)), ⟨by omega, by rw [List.length_set]; exact hSl, n1, fun v hv => ?_, hw⟩, by omega⟩
    exact n2 v hv
  have hke : k = t.vars.length := by omega
  subst hke
  have hS0 : SIn t cs z V g0 S := ⟨hSl, fun f h0 h1 hb => .st (hS1 f h0 h1 hb), fun f hf => by
    obtain ⟨v, hv, rfl⟩ := hf
    exact hS2 v hv⟩
  clear hS1 hS2 hSl
  repeat (first | refine go_run ?_ | (refine go_newP ?_; clear hw; intro p w hw) | (refine go_newW ?_; clear hw; intro w hw) | (refine go_newS ?_; clear hw; intro s w hw))
  refine vc_loop2 [17, 19, 101, 102, 103, 104, 105, 106, 107, 108, 109, 110, 111, 112, 113, 114, 115, 116, 117, 118, 119, 120, 121, 122, 123, 124, 125, 126, 127, 128, 129, 130, 131, 132, 133, 134, 135, 136, 137, 138] (G := Bool) (H := List Bool) (fun ch _ => [(17, .bool ch)]) (fun ch S w => SIn t cs z V g0 S ∧ (ch = false → ∀ i : Nat, i < (arcsT t V).length → SCl B S ((arcsT t V).getD i tLArc.dflt)) ∧ Sat w0 w [OS tBool 4 uv S, OS tBool 4 tv B, OS tLArc 336 av (arcsT t V)]) (fun ch S => 2 * cntF S + (bif ch then 1 else 0)) true _ (fun _ _ => rfl) ⟨rfl, trivial⟩ ⟨hS0, (fun h => by cases h), hw⟩ ?_
  clear hw hS0
  clear S
  rintro σ3 ch S w ⟨hS, hst, hw⟩
  cases ch
  rotate_left
  · clear hst
    repeat (first | refine go_run ?_ | (refine go_newP ?_; clear hw; intro p w hw) | (refine go_newW ?_; clear hw; intro w hw) | (refine go_newS ?_; clear hw; intro s w hw))
    refine vc_loop3 [17, 19, 104, 105, 106, 107, 108, 109, 110, 111, 112, 113, 114, 115, 116, 117, 118, 119, 120, 121, 122, 123, 124, 125, 126, 127, 128, 129, 130, 131, 132, 133, 134, 135, 136, 137, 138] (G := Nat) (H := Bool) (I := List Bool) (fun k ch _ => [(104, .int .i64 k), (17, .bool ch)]) (fun k ch S' w => k ≤ (arcsT t V).length ∧ SIn t cs z V g0 S' ∧ cntF S' ≤ cntF S ∧ (ch = true → cntF S' < cntF S) ∧ (ch = false → ∀ i : Nat, i < k → SCl B S' ((arcsT t V).getD i tLArc.dflt)) ∧ Sat w0 w [OS tBool 4 uv S', OS tBool 4 tv B, OS tLArc 336 av (arcsT t V)]) (fun k _ _ => (arcsT t V).length - k) 0 false S (fun _ _ _ => rfl) ⟨rfl, rfl, trivial⟩ ⟨Nat.zero_le _, hS, Nat.le_refl _, (fun h => by cases h), fun _ i hi => absurd hi (Nat.not_lt_zero _), hw⟩ ?_
    clear hw
    rintro σ4 k ch S' w ⟨hk, hT', hs1, hs2, hs3, hw⟩
    have hSl := hT'.len
    repeat (first | refine go_run ?_ | (refine go_newP ?_; clear hw; intro p w hw) | (refine go_newW ?_; clear hw; intro w hw) | (refine go_newS ?_; clear hw; intro s w hw))
    refine go_if (fun h3 => ?_) (fun h3 => ?_)
    · have hkl : k < (arcsT t V).length := by omega
      have hma := mem_getD tLArc.dflt hkl
      obtain ⟨hdst, hsrc, op, hop, hopl⟩ := hArc _ hma
      by_cases p1 : ((arcsT t V).getD k tLArc.dflt).src < 0
      · have hd1 : decide (((arcsT t V).getD k tLArc.dflt).src < 0) = true := decide_eq_true p1
        cases p2 : B.getD ((arcsT t V).getD k tLArc.dflt).dst.toNat tBool.dflt
        rotate_left
        · have hneg : SCl B S' ((arcsT t V).getD k tLArc.dflt) := fun _ h => by
            have h2 : B.getD ((arcsT t V).getD k tLArc.dflt).dst.toNat tBool.dflt = false := h
            rw [p2] at h2; cases h2
          repeat (first | refine go_run ?_ | (refine go_newP ?_; clear hw; intro p w hw) | (refine go_newWr ?_; clear hw; intro w hw) | (refine go_newS ?_; clear hw; intro s w hw))
          simp only [hd1, beq_self_eq_true, beq_tfI, beq_ftI, Bool.false_and, Bool.true_and, Bool.false_or, Bool.true_or, Bool.not_true, Bool.not_false, Bool.cond_true, Bool.cond_false, gv_fI, gv_tI]
          repeat (first | refine go_run ?_ | (refine go_newP ?_; clear hw; intro p w hw) | (refine go_newWr ?_; clear hw; intro w hw) | (refine go_newS ?_; clear hw; intro s w hw))
          simp only [p2, beq_self_eq_true, beq_tfI, beq_ftI, Bool.false_and, Bool.true_and, Bool.false_or, Bool.true_or, Bool.not_true, Bool.not_false, Bool.cond_true, Bool.cond_false, gv_fI, gv_tI]
          repeat (first | refine go_run ?_ | (refine go_newP ?_; clear hw; intro p w hw) | (refine go_newWr ?_; clear hw; intro w hw) | (refine go_newS ?_; clear hw; intro s w hw))
          refine ⟨k + 1, ch, S', ⟨rfl, rfl, trivial⟩, by repeat (first | exact agree_refl | (apply agree_upd rfl) | (apply agree_mix rfl) | (apply agree_sets rfl)), ⟨by omega, hT', hs1, hs2, fun hch i hi => ?_, hw.tail⟩, by omega⟩
          by_cases e : i = k
          · subst e; exact hneg
          · exact hs3 hch i (by omega)
        cases p3 : S'.getD ((arcsT t V).getD k tLArc.dflt).dst.toNat tBool.dflt
        rotate_left
        · have hneg : SCl B S' ((arcsT t V).getD k tLArc.dflt) := fun _ _ => p3
          repeat (first | refine go_run ?_ | (refine go_newP ?_; clear hw; intro p w hw) | (refine go_newWr ?_; clear hw; intro w hw) | (refine go_newS ?_; clear hw; intro s w hw))
          simp only [hd1, beq_self_eq_true, beq_tfI, beq_ftI, Bool.false_and, Bool.true_and, Bool.false_or, Bool.true_or, Bool.not_true, Bool.not_false, Bool.cond_true, Bool.cond_false, gv_fI, gv_tI]
          repeat (first | refine go_run ?_ | (refine go_newP ?_; clear hw; intro p w hw) | (refine go_newWr ?_; clear hw; intro w hw) | (refine go_newS ?_; clear hw; intro s w hw))
          simp only [p2, beq_self_eq_true, beq_tfI, beq_ftI, Bool.false_and, Bool.true_and, Bool.false_or, Bool.true_or, Bool.not_true, Bool.not_false, Bool.cond_true, Bool.cond_false, gv_fI, gv_tI]
          repeat (first | refine go_run ?_ | (refine go_newP ?_; clear hw; intro p w hw) | (refine go_newWr ?_; clear hw; intro w hw) | (refine go_newS ?_; clear hw; intro s w hw))
          simp only [p3, beq_self_eq_true, beq_tfI, beq_ftI, Bool.false_and, Bool.true_and, Bool.false_or, Bool.true_or, Bool.not_true, Bool.not_false, Bool.cond_true, Bool.cond_false, gv_fI, gv_tI]
          repeat (first | refine go_run ?_ | (refine go_newP ?_; clear hw; intro p w hw) | (refine go_newWr ?_; clear hw; intro w hw) | (refine go_newS ?_; clear hw; intro s w hw))
          refine ⟨k + 1, ch, S', ⟨rfl, rfl, trivial⟩, by repeat (first | exact agree_refl | (apply agree_upd rfl) | (apply agree_mix rfl) | (apply agree_sets rfl)), ⟨by omega, hT', hs1, hs2, fun hch i hi => ?_, hw.tail⟩, by omega⟩
          by_cases e : i = k
          · subst e; exact hneg
          · exact hs3 hch i (by omega)
        have hnz : ¬ ZT (withC t cs) V g0 ((arcsT t V).getD k tLArc.dflt).dst := fun h => by
          have h2 : B.getD ((arcsT t V).getD k tLArc.dflt).dst.toNat tBool.dflt = true := (hTz _ hdst.1 hdst.2).2 h
          rw [p2] at h2; cases h2
        have hzs : ZS (withC t cs) z V g0 ((arcsT t V).getD k tLArc.dflt).dst := zs_arc hg hV hma (.inl p1) hnz
        have hT2 : SIn t cs z V g0 (S'.set ((arcsT t V).getD k tLArc.dflt).dst.toNat true) := by
          refine ⟨by rw [List.length_set]; exact hSl, fun f h0 h1 hb => ?_, fun f hf => ?_⟩
          · rw [bAt_set hdst.1 (by omega) h0] at hb
            by_cases e : f = ((arcsT t V).getD k tLArc.dflt).dst
            · rw [e]; exact hzs
            · rw [if_neg e] at hb; exact hT'.ok f h0 h1 hb
          · rw [bAt_set hdst.1 (by omega) (stF_rng hg hok hf).1]
            split
            · rfl
            · exact hT'.st f hf
        have hcn := cntF_set (B := S') (i := ((arcsT t V).getD k tLArc.dflt).dst.toNat) (by omega) p3
        repeat (first | refine go_run ?_ | (refine go_newP ?_; clear hw; intro p w hw) | (refine go_newWr ?_; clear hw; intro w hw) | (refine go_newS ?_; clear hw; intro s w hw))
        simp only [hd1, beq_self_eq_true, beq_tfI, beq_ftI, Bool.false_and, Bool.true_and, Bool.false_or, Bool.true_or, Bool.not_true, Bool.not_false, Bool.cond_true, Bool.cond_false, gv_fI, gv_tI]
        repeat (first | refine go_run ?_ | (refine go_newP ?_; clear hw; intro p w hw) | (refine go_newWr ?_; clear hw; intro w hw) | (refine go_newS ?_; clear hw; intro s w hw))
        simp only [p2, beq_self_eq_true, beq_tfI, beq_ftI, Bool.false_and, Bool.true_and, Bool.false_or, Bool.true_or, Bool.not_true, Bool.not_false, Bool.cond_true, Bool.cond_false, gv_fI, gv_tI]
        repeat (first | refine go_run ?_ | (refine go_newP ?_; clear hw; intro p w hw) | (refine go_newWr ?_; clear hw; intro w hw) | (refine go_newS ?_; clear hw; intro s w hw))
        simp only [p3, beq_self_eq_true, beq_tfI, beq_ftI, Bool.false_and, Bool.true_and, Bool.false_or, Bool.true_or, Bool.not_true, Bool.not_false, Bool.cond_true, Bool.cond_false, gv_fI, gv_tI]
        repeat (first | refine go_run ?_ | (refine go_newP ?_; clear hw; intro p w hw) | (refine go_newWr ?_; clear hw; intro w hw) | (refine go_newS ?_; clear hw; intro s w hw))
        exact ⟨k + 1, true, _, ⟨rfl, rfl, trivial⟩, by repeat (first | exact agree_refl | (apply agree_upd rfl) | (apply agree_mix rfl) | (apply agree_sets rfl)), ⟨by omega, hT2, by omega, fun _ => by omega, (fun h => by cases h), hw.tail⟩, by omega⟩
      have hd1 : decide (((arcsT t V).getD k tLArc.dflt).src < 0) = false := decide_eq_false p1
      cases p1b : S'.getD ((arcsT t V).getD k tLArc.dflt).src.toNat tBool.dflt
      · have hneg : SCl B S' ((arcsT t V).getD k tLArc.dflt) := fun h => by
          rcases h with h | h
          · exact absurd h p1
          · have h2 : S'.getD ((arcsT t V).getD k tLArc.dflt).src.toNat tBool.dflt = true := h
            rw [p1b] at h2; cases h2
        repeat (first | refine go_run ?_ | (refine go_newP ?_; clear hw; intro p w hw) | (refine go_newWr ?_; clear hw; intro w hw) | (refine go_newS ?_; clear hw; intro s w hw))
        simp only [hd1, beq_self_eq_true, beq_tfI, beq_ftI, Bool.false_and, Bool.true_and, Bool.false_or, Bool.true_or, Bool.not_true, Bool.not_false, Bool.cond_true, Bool.cond_false, gv_fI, gv_tI]
        repeat (first | refine go_run ?_ | (refine go_newP ?_; clear hw; intro p w hw) | (refine go_newWr ?_; clear hw; intro w hw) | (refine go_newS ?_; clear hw; intro s w hw))
        simp only [p1b, beq_self_eq_true, beq_tfI, beq_ftI, Bool.false_and, Bool.true_and, Bool.false_or, Bool.true_or, Bool.not_true, Bool.not_false, Bool.cond_true, Bool.cond_false, gv_fI, gv_tI]
        repeat (first | refine go_run ?_ | (refine go_newP ?_; clear hw; intro p w hw) | (refine go_newWr ?_; clear hw; intro w hw) | (refine go_newS ?_; clear hw; intro s w hw))
        refine ⟨k + 1, ch, S', ⟨rfl, rfl, trivial⟩, by repeat (first | exact agree_refl | (apply agree_upd rfl) | (apply agree_mix rfl) | (apply agree_sets rfl)), ⟨by omega, hT', hs1, hs2, fun hch i hi => ?_, hw.tail⟩, by omega⟩
        by_cases e : i = k
        · subst e; exact hneg
        · exact hs3 hch i (by omega)
      cases p2 : B.getD ((arcsT t V).getD k tLArc.dflt).dst.toNat tBool.dflt
      rotate_left
      · have hneg : SCl B S' ((arcsT t V).getD k tLArc.dflt) := fun _ h => by
          have h2 : B.getD ((arcsT t V).getD k tLArc.dflt).dst.toNat tBool.dflt = false := h
          rw [p2] at h2; cases h2
        repeat (first | refine go_run ?_ | (refine go_newP ?_; clear hw; intro p w hw) | (refine go_newWr ?_; clear hw; intro w hw) | (refine go_newS ?_; clear hw; intro s w hw))
        simp only [hd1, beq_self_eq_true, beq_tfI, beq_ftI, Bool.false_and, Bool.true_and, Bool.false_or, Bool.true_or, Bool.not_true, Bool.not_false, Bool.cond_true, Bool.cond_false, gv_fI, gv_tI]
        repeat (first | refine go_run ?_ | (refine go_newP ?_; clear hw; intro p w hw) | (refine go_newWr ?_; clear hw; intro w hw) | (refine go_newS ?_; clear hw; intro s w hw))
        simp only [p1b, beq_self_eq_true, beq_tfI, beq_ftI, Bool.false_and, Bool.true_and, Bool.false_or, Bool.true_or, Bool.not_true, Bool.not_false, Bool.cond_true, Bool.cond_false, gv_fI, gv_tI]
        repeat (first | refine go_run ?_ | (refine go_newP ?_; clear hw; intro p w hw) | (refine go_newWr ?_; clear hw; intro w hw) | (refine go_newS ?_; clear hw; intro s w hw))
        simp only [p2, beq_self_eq_true, beq_tfI, beq_ftI, Bool.false_and, Bool.true_and, Bool.false_or, Bool.true_or, Bool.not_true, Bool.not_false, Bool.cond_true, Bool.cond_false, gv_fI, gv_tI]
        repeat (first | refine go_run ?_ | (refine go_newP ?_; clear hw; intro p w hw) | (refine go_newWr ?_; clear hw; intro w hw) | (refine go_newS ?_; clear hw; intro s w hw))
        refine ⟨k + 1, ch, S', ⟨rfl, rfl, trivial⟩, by repeat (first | exact agree_refl | (apply agree_upd rfl) | (apply agree_mix rfl) | (apply agree_sets rfl)), ⟨by omega, hT', hs1, hs2, fun hch i hi => ?_, hw.tail⟩, by omega⟩
        by_cases e : i = k
        · subst e; exact hneg
        · exact hs3 hch i (by omega)
      cases p3 : S'.getD ((arcsT t V).getD k tLArc.dflt).dst.toNat tBool.dflt
      rotate_left
      · have hneg : SCl B S' ((arcsT t V).getD k tLArc.dflt) := fun _ _ => p3
        repeat (first | refine go_run ?_ | (refine go_newP ?_; clear hw; intro p w hw) | (refine go_newWr ?_; clear hw; intro w hw) | (refine go_newS ?_; clear hw; intro s w hw))
        simp only [hd1, beq_self_eq_true, beq_tfI, beq_ftI, Bool.false_and, Bool.true_and, Bool.false_or, Bool.true_or, Bool.not_true, Bool.not_false, Bool.cond_true, Bool.cond_false, gv_fI, gv_tI]
        repeat (first | refine go_run ?_ | (refine go_newP ?_; clear hw; intro p w hw) | (refine go_newWr ?_; clear hw; intro w hw) | (refine go_newS ?_; clear hw; intro s w hw))
        simp only [p1b, beq_self_eq_true, beq_tfI, beq_ftI, Bool.false_and, Bool.true_and, Bool.false_or, Bool.true_or, Bool.not_true, Bool.not_false, Bool.cond_true, Bool.cond_false, gv_fI, gv_tI]
        repeat (first | refine go_run ?_ | (refine go_newP ?_; clear hw; intro p w hw) | (refine go_newWr ?_; clear hw; intro w hw) | (refine go_newS ?_; clear hw; intro s w hw))
        simp only [p2, beq_self_eq_true, beq_tfI, beq_ftI, Bool.false_and, Bool.true_and, Bool.false_or, Bool.true_or, Bool.not_true, Bool.not_false, Bool.cond_true, Bool.cond_false, gv_fI, gv_tI]
        repeat (first | refine go_run ?_ | (refine go_newP ?_; clear hw; intro p w hw) | (refine go_newWr ?_; clear hw; intro w hw) | (refine go_newS ?_; clear hw; intro s w hw))
        simp only [p3, beq_self_eq_true, beq_tfI, beq_ftI, Bool.false_and, Bool.true_and, Bool.false_or, Bool.true_or, Bool.not_true, Bool.not_false, Bool.cond_true, Bool.cond_false, gv_fI, gv_tI]
        repeat (first | refine go_run ?_ | (refine go_newP ?_; clear hw; intro p w hw) | (refine go_newWr ?_; clear hw; intro w hw) | (refine go_newS ?_; clear hw; intro s w hw))
        refine ⟨k + 1, ch, S', ⟨rfl, rfl, trivial⟩, by repeat (first | exact agree_refl | (apply agree_upd rfl) | (apply agree_mix rfl) | (apply agree_sets rfl)), ⟨by omega, hT', hs1, hs2, fun hch i hi => ?_, hw.tail⟩, by omega⟩
        by_cases e : i = k
        · subst e; exact hneg
        · exact hs3 hch i (by omega)
      have hnz : ¬ ZT (withC t cs) V g0 ((arcsT t V).getD k tLArc.dflt).dst := fun h => by
        have h2 : B.getD ((arcsT t V).getD k tLArc.dflt).dst.toNat tBool.dflt = true := (hTz _ hdst.1 hdst.2).2 h
        rw [p2] at h2; cases h2
      have hzs : ZS (withC t cs) z V g0 ((arcsT t V).getD k tLArc.dflt).dst := zs_arc hg hV hma (.inr (hT'.ok _ (by omega) hsrc p1b)) hnz
      have hT2 : SIn t cs z V g0 (S'.set ((arcsT t V).getD k tLArc.dflt).dst.toNat true) := by
        refine ⟨by rw [List.length_set]; exact hSl, fun f h0 h1 hb => ?_, fun f hf => ?_⟩
        · rw [bAt_set hdst.1 (by omega) h0] at hb
          by_cases e : f = ((arcsT t V).getD k tLArc.dflt).dst
          · rw [e]; exact hzs
          · rw [if_neg e] at hb; exact hT'.ok f h0 h1 hb
        · rw [bAt_set hdst.1 (by omega) (stF_rng hg hok hf).1]
          split
          · rfl
          · exact hT'.st f hf
      have hcn := cntF_set (B := S') (i := ((arcsT t V).getD k tLArc.dflt).dst.toNat) (by omega) p3
      repeat (first | refine go_run ?_ | (refine go_newP ?_; clear hw; intro p w hw) | (refine go_newWr ?_; clear hw; intro w hw) | (refine go_newS ?_; clear hw; intro s w hw))
      simp only [hd1, beq_self_eq_true, beq_tfI, beq_ftI, Bool.false_and, Bool.true_and, Bool.false_or, Bool.true_or, Bool.not_true, Bool.not_false, Bool.cond_true, Bool.cond_false, gv_fI, gv_tI]
      repeat (first | refine go_run ?_ | (refine go_newP ?_; clear hw; intro p w hw) | (refine go_newWr ?_; clear hw; intro w hw) | (refine go_newS ?_; clear hw; intro s w hw))
      simp only [p1b, beq_self_eq_true, beq_tfI, beq_ftI, Bool.false_and, Bool.true_and, Bool.false_or, Bool.true_or, Bool.not_true, Bool.not_false, Bool.cond_true, Bool.cond_false, gv_fI, gv_tI]
      repeat (first | refine go_run ?_ | (refine go_newP ?_; clear hw; intro p w hw) | (refine go_newWr ?_; clear hw; intro w hw) | (refine go_newS ?_; clear hw; intro s w hw))
      simp only [p2, beq_self_eq_true, beq_tfI, beq_ftI, Bool.false_and, Bool.true_and, Bool.false_or, Bool.true_or, Bool.not_true, Bool.not_false, Bool.cond_true, Bool.cond_false, gv_fI, gv_tI]
      repeat (first | refine go_run ?_ | (refine go_newP ?_; clear hw; intro p w hw) | (refine go_newWr ?_; clear hw; intro w hw) | (refine go_newS ?_; clear hw; intro s w hw))
      simp only [p3, beq_self_eq_true, beq_tfI, beq_ftI, Bool.false_and, Bool.true_and, Bool.false_or, Bool.true_or, Bool.not_true, Bool.not_false, Bool.cond_true, Bool.cond_false, gv_fI, gv_tI]
      repeat (first | refine go_run ?_ | (refine go_newP ?_; clear hw; intro p w hw) | (refine go_newWr ?_; clear hw; intro w hw) | (refine go_newS ?_; clear hw; intro s w hw))
      exact ⟨k + 1, true, _, ⟨rfl, rfl, trivial⟩, by repeat (first | exact agree_refl | (apply agree_upd rfl) | (apply agree_mix rfl) | (apply agree_sets rfl)), ⟨by omega, hT2, by omega, fun _ => by omega, (fun h => by cases h), hw.tail⟩, by omega⟩
    · repeat (first | refine go_run ?_ | (refine go_newP ?_; clear hw; intro p w hw) | (refine go_newW ?_; clear hw; intro w hw) | (refine go_newS ?_; clear hw; intro s w hw))
      refine ⟨ch, S', ⟨rfl, trivial⟩, by repeat (first | exact agree_refl | (apply agree_upd rfl) | (apply agree_mix rfl) | (apply agree_sets rfl)), ⟨hT', fun hch i hi => hs3 hch i (by omega), hw⟩, ?_⟩
      cases ch
      · simp only [cond_true, cond_false]; omega
      · have := hs2 rfl
        simp only [cond_true]; omega
  have hcl1 := hst rfl
  clear hst
  have hSz : ∀ f : Int, 0 ≤ f → f < factN t → (bAt S f = true ↔ ZS (withC t cs) z V g0 f) := fun f h0 h1 => ⟨hS.ok f h0 h1, fun h => by
    refine zs_of (S := fun f => bAt S f = true) hg hV hS.st (fun a ha h2 h3 => ?_) h
    obtain ⟨i, hi, e⟩ := List.getElem_of_mem ha
    have h5 := hcl1 i hi
    rw [getD_at hi, e] at h5
    refine h5 h2 ?_
    cases h6 : bAt B a.dst
    · rfl
    · exact absurd ((hTz _ (hArc a ha).1.1 (hArc a ha).1.2).1 h6) h3⟩
  have hSl := hS.len
  replace hw := hw.nil (T := tInt) (e := 3)
  repeat (first | refine go_run ?_ | (refine go_newP ?_; clear hw; intro p w hw) | (refine go_newW ?_; clear hw; intro w hw) | (refine go_newS ?_; clear hw; intro s w hw))
  refine vc_loop3 [20, 22, 141, 142, 143, 144, 145, 146, 147, 148, 149, 150, 151, 152, 153, 154, 155, 156, 157, 158, 159, 160, 161, 162, 163, 164, 165, 166, 167] (G := Nat) (H := Value) (I := List Int) (fun k ov _ => [(141, .int .i64 k), (20, ov)]) (fun k ov xs w => k ≤ (arcsT t V).length ∧ xs.length ≤ k ∧ (∀ x : Int, x ∈ xs ↔ ∃ i : Nat, i < k ∧ ((arcsT t V).getD i tLArc.dflt).op = x ∧ (((arcsT t V).getD i tLArc.dflt).src < 0 ∨ bAt S ((arcsT t V).getD i tLArc.dflt).src = true) ∧ bAt B ((arcsT t V).getD i tLArc.dflt).dst = true) ∧ Sat w0 w [OS tInt 3 ov xs, OS tBool 4 uv S, OS tBool 4 tv B, OS tLArc 336 av (arcsT t V)]) (fun k _ _ => (arcsT t V).length - k) 0 (.slice none 0 0) [] (fun _ _ _ => rfl) ⟨rfl, rfl, trivial⟩ ⟨Nat.zero_le _, Nat.le_refl _, (fun x => ⟨fun h => absurd h List.not_mem_nil, fun ⟨i, hi, _⟩ => absurd hi (Nat.not_lt_zero _)⟩), hw⟩ ?_
  clear hw
  rintro σ5 k ov xs w ⟨hk, hxl, hmem, hw⟩
  repeat (first | refine go_run ?_ | (refine go_newP ?_; clear hw; intro p w hw) | (refine go_newW ?_; clear hw; intro w hw) | (refine go_newS ?_; clear hw; intro s w hw))
  refine go_if (fun h3 => ?_) (fun h3 => ?_)
  · have hkl : k < (arcsT t V).length := by omega
    have hma := mem_getD tLArc.dflt hkl
    obtain ⟨hdst, hsrc, op, hop, hopl⟩ := hArc _ hma
    have hnot : ¬ ((((arcsT t V).getD k tLArc.dflt).src < 0 ∨ bAt S ((arcsT t V).getD k tLArc.dflt).src = true) ∧ bAt B ((arcsT t V).getD k tLArc.dflt).dst = true) → ∀ x : Int, x ∈ xs ↔ ∃ i : Nat, i < k + 1 ∧ ((arcsT t V).getD i tLArc.dflt).op = x ∧ (((arcsT t V).getD i tLArc.dflt).src < 0 ∨ bAt S ((arcsT t V).getD i tLArc.dflt).src = true) ∧ bAt B ((arcsT t V).getD i tLArc.dflt).dst = true := fun hn x => by
      rw [hmem x]
      constructor
      · rintro ⟨i, h1, h2⟩; exact ⟨i, by omega, h2⟩
      · rintro ⟨i, h1, h2⟩
        by_cases e : i = k
        · subst e; exact absurd h2.2 hn
        · exact ⟨i, by omega, h2⟩
    have hyes : ((((arcsT t V).getD k tLArc.dflt).src < 0 ∨ bAt S ((arcsT t V).getD k tLArc.dflt).src = true) ∧ bAt B ((arcsT t V).getD k tLArc.dflt).dst = true) → ∀ x : Int, x ∈ xs ++ [((arcsT t V).getD k tLArc.dflt).op] ↔ ∃ i : Nat, i < k + 1 ∧ ((arcsT t V).getD i tLArc.dflt).op = x ∧ (((arcsT t V).getD i tLArc.dflt).src < 0 ∨ bAt S ((arcsT t V).getD i tLArc.dflt).src = true) ∧ bAt B ((arcsT t V).getD i tLArc.dflt).dst = true := fun hn x => by
      rw [List.mem_append, hmem x, List.mem_singleton]
      constructor
      · rintro (⟨i, h1, h2⟩ | h)
        · exact ⟨i, by omega, h2⟩
        · exact ⟨k, by omega, h.symm, hn⟩
      · rintro ⟨i, h1, h2⟩
        by_cases e : i = k
        · subst e; exact .inr h2.1.symm
        · exact .inl ⟨i, by omega, h2⟩
    by_cases p1 : ((arcsT t V).getD k tLArc.dflt).src < 0
    · have hd1 : decide (((arcsT t V).getD k tLArc.dflt).src < 0) = true := decide_eq_true p1
      cases p2 : B.getD ((arcsT t V).getD k tLArc.dflt).dst.toNat tBool.dflt
      · have hn := hnot fun h => by
          have h2 : B.getD ((arcsT t V).getD k tLArc.dflt).dst.toNat tBool.dflt = true := h.2
          rw [p2] at h2; cases h2
        repeat (first | refine go_run ?_ | (refine go_newP ?_; clear hw; intro p w hw) | (refine go_newWr ?_; clear hw; intro w hw) | (refine go_newS ?_; clear hw; intro s w hw))
        simp only [hd1, beq_self_eq_true, beq_tfI, beq_ftI, Bool.false_and, Bool.true_and, Bool.false_or, Bool.true_or, Bool.not_true, Bool.not_false, Bool.cond_true, Bool.cond_false, gv_fI, gv_tI]
        repeat (first | refine go_run ?_ | (refine go_newP ?_; clear hw; intro p w hw) | (refine go_newWr ?_; clear hw; intro w hw) | (refine go_newS ?_; clear hw; intro s w hw))
        simp only [p2, beq_self_eq_true, beq_tfI, beq_ftI, Bool.false_and, Bool.true_and, Bool.false_or, Bool.true_or, Bool.not_true, Bool.not_false, Bool.cond_true, Bool.cond_false, gv_fI, gv_tI]
        repeat (first | refine go_run ?_ | (refine go_newP ?_; clear hw; intro p w hw) | (refine go_newWr ?_; clear hw; intro w hw) | (refine go_newS ?_; clear hw; intro s w hw))
        exact ⟨k + 1, ov, xs, ⟨rfl, rfl, trivial⟩, by repeat (first | exact agree_refl | (apply agree_upd rfl) | (apply agree_mix rfl) | (apply agree_sets rfl)), ⟨by omega, by omega, hn, hw.tail⟩, by omega⟩
      · have hn := hyes ⟨.inl p1, p2⟩
        repeat (first | refine go_run ?_ | (refine go_newP ?_; clear hw; intro p w hw) | (refine go_newWr ?_; clear hw; intro w hw) | (refine go_newS ?_; clear hw; intro s w hw))
        simp only [hd1, beq_self_eq_true, beq_tfI, beq_ftI, Bool.false_and, Bool.true_and, Bool.false_or, Bool.true_or, Bool.not_true, Bool.not_false, Bool.cond_true, Bool.cond_false, gv_fI, gv_tI]
        repeat (first | refine go_run ?_ | (refine go_newP ?_; clear hw; intro p w hw) | (refine go_newWr ?_; clear hw; intro w hw) | (refine go_newS ?_; clear hw; intro s w hw))
        simp only [p2, beq_self_eq_true, beq_tfI, beq_ftI, Bool.false_and, Bool.true_and, Bool.false_or, Bool.true_or, Bool.not_true, Bool.not_false, Bool.cond_true, Bool.cond_false, gv_fI, gv_tI]
        repeat (first | refine go_run ?_ | (refine go_newP ?_; clear hw; intro p w hw) | (refine go_newWr ?_; clear hw; intro w hw) | (refine go_newS ?_; clear hw; intro s w hw))
        obtain ⟨ov2, hov2⟩ : ∃ ov2, ov2 = s := ⟨s, rfl⟩
        subst hov2
        exact ⟨k + 1, ov2, _, ⟨rfl, rfl, trivial⟩, by repeat (first | exact agree_refl | (apply agree_upd rfl) | (apply agree_mix rfl) | (apply agree_sets rfl)), ⟨by omega, by rw [List.length_append, List.length_singleton]; omega, hn, hw.tail.tail⟩, by omega⟩
    have hd1 : decide (((arcsT t V).getD k tLArc.dflt).src < 0) = false := decide_eq_false p1
    cases p1b : S.getD ((arcsT t V).getD k tLArc.dflt).src.toNat tBool.dflt
    · have hn := hnot fun h => by
        rcases h.1 with h | h
        · exact p1 h
        · have h2 : S.getD ((arcsT t V).getD k tLArc.dflt).src.toNat tBool.dflt = true := h
          rw [p1b] at h2; cases h2
      repeat (first | refine go_run ?_ | (refine go_newP ?_; clear hw; intro p w hw) | (refine go_newWr ?_; clear hw; intro w hw) | (refine go_newS ?_; clear hw; intro s w hw))
      simp only [hd1, beq_self_eq_true, beq_tfI, beq_ftI, Bool.false_and, Bool.true_and, Bool.false_or, Bool.true_or, Bool.not_true, Bool.not_false, Bool.cond_true, Bool.cond_false, gv_fI, gv_tI]
      repeat (first | refine go_run ?_ | (refine go_newP ?_; clear hw; intro p w hw) | (refine go_newWr ?_; clear hw; intro w hw) | (refine go_newS ?_; clear hw; intro s w hw))
      simp only [p1b, beq_self_eq_true, beq_tfI, beq_ftI, Bool.false_and, Bool.true_and, Bool.false_or, Bool.true_or, Bool.not_true, Bool.not_false, Bool.cond_true, Bool.cond_false, gv_fI, gv_tI]
      repeat (first | refine go_run ?_ | (refine go_newP ?_; clear hw; intro p w hw) | (refine go_newWr ?_; clear hw; intro w hw) | (refine go_newS ?_; clear hw; intro s w hw))
      exact ⟨k + 1, ov, xs, ⟨rfl, rfl, trivial⟩, by repeat (first | exact agree_refl | (apply agree_upd rfl) | (apply agree_mix rfl) | (apply agree_sets rfl)), ⟨by omega, by omega, hn, hw.tail⟩, by omega⟩
    cases p2 : B.getD ((arcsT t V).getD k tLArc.dflt).dst.toNat tBool.dflt
    · have hn := hnot fun h => by
        have h2 : B.getD ((arcsT t V).getD k tLArc.dflt).dst.toNat tBool.dflt = true := h.2
        rw [p2] at h2; cases h2
      repeat (first | refine go_run ?_ | (refine go_newP ?_; clear hw; intro p w hw) | (refine go_newWr ?_; clear hw; intro w hw) | (refine go_newS ?_; clear hw; intro s w hw))
      simp only [hd1, beq_self_eq_true, beq_tfI, beq_ftI, Bool.false_and, Bool.true_and, Bool.false_or, Bool.true_or, Bool.not_true, Bool.not_false, Bool.cond_true, Bool.cond_false, gv_fI, gv_tI]
      repeat (first | refine go_run ?_ | (refine go_newP ?_; clear hw; intro p w hw) | (refine go_newWr ?_; clear hw; intro w hw) | (refine go_newS ?_; clear hw; intro s w hw))
      simp only [p1b, beq_self_eq_true, beq_tfI, beq_ftI, Bool.false_and, Bool.true_and, Bool.false_or, Bool.true_or, Bool.not_true, Bool.not_false, Bool.cond_true, Bool.cond_false, gv_fI, gv_tI]
      repeat (first | refine go_run ?_ | (refine go_newP ?_; clear hw; intro p w hw) | (refine go_newWr ?_; clear hw; intro w hw) | (refine go_newS ?_; clear hw; intro s w hw))
      simp only [p2, beq_self_eq_true, beq_tfI, beq_ftI, Bool.false_and, Bool.true_and, Bool.false_or, Bool.true_or, Bool.not_true, Bool.not_false, Bool.cond_true, Bool.cond_false, gv_fI, gv_tI]
      repeat (first | refine go_run ?_ | (refine go_newP ?_; clear hw; intro p w hw) | (refine go_newWr ?_; clear hw; intro w hw) | (refine go_newS ?_; clear hw; intro s w hw))
      exact ⟨k + 1, ov, xs, ⟨rfl, rfl, trivial⟩, by repeat (first | exact agree_refl | (apply agree_upd rfl) | (apply agree_mix rfl) | (apply agree_sets rfl)), ⟨by omega, by omega, hn, hw.tail⟩, by omega⟩
    · have hn := hyes ⟨.inr p1b, p2⟩
      repeat (first | refine go_run ?_ | (refine go_newP ?_; clear hw; intro p w hw) | (refine go_newWr ?_; clear hw; intro w hw) | (refine go_newS ?_; clear hw; intro s w hw))
      simp only [hd1, beq_self_eq_true, beq_tfI, beq_ftI, Bool.false_and, Bool.true_and, Bool.false_or, Bool.true_or, Bool.not_true, Bool.not_false, Bool.cond_true, Bool.cond_false, gv_fI, gv_tI]
      repeat (first | refine go_run ?_ | (refine go_newP ?_; clear hw; intro p w hw) | (refine go_newWr ?_; clear hw; intro w hw) | (refine go_newS ?_; clear hw; intro s w hw))
      simp only [p1b, beq_self_eq_true, beq_tfI, beq_ftI, Bool.false_and, Bool.true_and, Bool.false_or, Bool.true_or, Bool.not_true, Bool.not_false, Bool.cond_true, Bool.cond_false, gv_fI, gv_tI]
      repeat (first | refine go_run ?_ | (refine go_newP ?_; clear hw; intro p w hw) | (refine go_newWr ?_; clear hw; intro w hw) | (refine go_newS ?_; clear hw; intro s w hw))
      simp only [p2, beq_self_eq_true, beq_tfI, beq_ftI, Bool.false_and, Bool.true_and, Bool.false_or, Bool.true_or, Bool.not_true, Bool.not_false, Bool.cond_true, Bool.cond_false, gv_fI, gv_tI]
      repeat (first | refine go_run ?_ | (refine go_newP ?_; clear hw; intro p w hw) | (refine go_newWr ?_; clear hw; intro w hw) | (refine go_newS ?_; clear hw; intro s w hw))
      obtain ⟨ov2, hov2⟩ : ∃ ov2, ov2 = s := ⟨s, rfl⟩
      subst hov2
      exact ⟨k + 1, ov2, _, ⟨rfl, rfl, trivial⟩, by repeat (first | exact agree_refl | (apply agree_upd rfl) | (apply agree_mix rfl) | (apply agree_sets rfl)), ⟨by omega, by rw [List.length_append, List.length_singleton]; omega, hn, hw.tail.tail⟩, by omega⟩
  have hke : k = (arcsT t V).length := by omega
  subst hke
  repeat (first | refine go_run ?_ | (refine go_newP ?_; clear hw; intro p w hw) | (refine go_newW ?_; clear hw; intro w hw) | (refine go_newS ?_; clear hw; intro s w hw))
  refine st_call rfl (Sort_spec (s := ov) hw (by omega)) ?_
  clear hw
  rintro _ w ⟨rfl, hw⟩
  refine ⟨_, rfl, ?_⟩
  repeat (first | refine go_run ?_ | (refine go_newP ?_; clear hw; intro p w hw) | (refine go_newW ?_; clear hw; intro w hw) | (refine go_newS ?_; clear hw; intro s w hw))
  refine st_call rfl (Compact_spec (s := ov) hw (by rw [sortL_len]; omega)) ?_
  clear hw
  rintro _ w ⟨kv, rfl, hw⟩
  refine ⟨_, rfl, ?_⟩
  have hin : ∀ x : Int, x ∈ compL (sortL xs) ↔ ∃ i : Nat, x = (i : Int) ∧ i < t.ops.length ∧ InCut (withC t cs) z V g0 i := fun x => by
    rw [compL_mem, sortL_mem, hmem x]
    constructor
    · rintro ⟨j, h1, h2, h3, h4⟩
      have hma := mem_getD tLArc.dflt h1
      obtain ⟨hdst, hsrc, op, hop, hopl⟩ := hArc _ hma
      refine ⟨op, by rw [← h2, hop], hopl, (inCut_arc hg hV).2 ⟨_, hma, hop, ?_, (hTz _ hdst.1 hdst.2).1 h4⟩⟩
      by_cases h0 : ((arcsT t V).getD j tLArc.dflt).src < 0
      · exact .inl h0
      · rcases h3 with h | h
        · exact .inl h
        · exact .inr ((hSz _ (by omega) hsrc).1 h)
    · rintro ⟨i, rfl, hil, hcut⟩
      obtain ⟨a, ha, ho, hs', hz⟩ := (inCut_arc hg hV).1 hcut
      obtain ⟨hdst, hsrc, _⟩ := hArc a ha
      obtain ⟨j, hj, e⟩ := List.getElem_of_mem ha
      refine ⟨j, hj, ?_⟩
      rw [getD_at hj, e]
      refine ⟨ho, ?_, (hTz _ hdst.1 hdst.2).2 hz⟩
      by_cases h0 : a.src < 0
      · exact .inl h0
      · rcases hs' with h | h
        · exact .inl h
        · exact .inr ((hSz _ (by omega) hsrc).2 h)
  have hnn : ∀ x ∈ compL (sortL xs), ((x.toNat : Nat) : Int) = x := fun x hx => by
    obtain ⟨i, e, _⟩ := (hin x).1 hx
    rw [e]; rfl
  have hmap : ((compL (sortL xs)).map Int.toNat).map (fun i : Nat => (i : Int)) = compL (sortL xs) := by
    rw [List.map_map]
    conv => rhs; rw [← List.map_id (compL (sortL xs))]
    exact List.map_congr_left fun x hx => hnn x hx
  have hasc := compL_asc (sortL_pw xs)
  repeat (first | refine go_run ?_ | (refine go_newP ?_; clear hw; intro p w hw) | (refine go_newW ?_; clear hw; intro w hw) | (refine go_newS ?_; clear hw; intro s w hw))
  refine res_one (v := kv) rfl rfl ⟨kv, (compL (sortL xs)).map Int.toNat, rfl, ?_, fun i => ?_, ?_⟩
  · refine List.pairwise_map.2 (List.Pairwise.imp_of_mem (fun {x y} hx hy hlt => ?_) hasc)
    have h1 := hnn x hx
    have h2 := hnn y hy
    omega
  · rw [List.mem_map]
    constructor
    · rintro ⟨x, hx, rfl⟩
      obtain ⟨i, e, h1, h2⟩ := (hin x).1 hx
      rw [e, Int.toNat_natCast]; exact ⟨h1, h2⟩
    · rintro ⟨h1, h2⟩
      exact ⟨(i : Int), (hin _).2 ⟨i, rfl, h1, h2⟩, rfl⟩
  · rw [hmap]; exact hw.only
end Go.Proofs.YtkmbenhffledpaaGreat
