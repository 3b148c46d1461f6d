
/-
  Contracts of 'patterns.check', 'additive', 'Additive'.
-/
import Derived.Test.YtemnlcnjpjdoaaaGreatDoorWSatur
import Derived.Test.YtemnlcnjpjdoaaaGreatDoorTCanon
set_option linter.unusedSimpArgs false
set_option linter.unusedVariables false
namespace Go.Proofs.YtemnlcnjpjdoaaaGreatDoor
open Go.Sl Go
attribute [local irreducible] vc opsW opsD opV opW PureV ReadV Thn Blk
/-- The error of a task and patterns. -/
noncomputable def lErr (t : TTask) (Ls : List (List Int)) : Int := if checkT t ≠ 0 then checkT t else if ∀ i, i < Ls.length → PatOk t.vars (Ls.getD i []) then 0 else 2
set_option maxRecDepth 8000 in
set_option maxHeartbeats 2000000 in
theorem pachk_spec {w0 : World} {a b c d s : Value} {vs : List OpV} {t : TTask} {ss : List Value} {Ls : List (List Int)} (ht : RTask w0 a b c d vs t) (hl : RLs w0 s ss Ls) :
    Calls Tryz.prog 55 #[.agg #[a, b, c, d], s] w0 fun e w' => e = .returned (errV (lErr t Ls)) ∧ Sat w0 w' [] := by
  have ht' := ht
  obtain ⟨ha, hb, hc, hd⟩ := ht
  have hla := ha.big
  have hlr := hl.rs
  have hln := hl.len
  have hlb := hlr.big
  have hw := Sat.start w0
  refine calls_of_vc (args := [.agg #[a, b, c, d], s]) mixed Tryz.func55 rfl (by kernel_rfl) (Nat.le_of_ble_eq_true rfl) ?_
  repeat (first | refine go_run ?_ | (refine go_newP ?_; clear hw; intro p w hw) | (refine go_newW ?_; clear hw; intro w hw) | (refine go_newS ?_; clear hw; intro s w hw))
  obtain ⟨pt, hpt⟩ : ∃ pt, pt = p := ⟨p, rfl⟩
  subst hpt
  refine st_call rfl (Check_spec (ht'.at hw)) ?_
  rintro _ w' ⟨rfl, hk'⟩
  replace hw := hw.call0 hk'
  clear hk'
  refine ⟨_, rfl, ?_⟩
  by_cases hk : checkT t = 0
  · rw [errV_zero hk]
    repeat (first | refine go_run ?_ | (refine go_newP ?_; clear hw; intro p w hw) | (refine go_newW ?_; clear hw; intro w hw) | (refine go_newS ?_; clear hw; intro s w hw))
    refine vc_loop [4, 7, 8, 9, 17, 18, 19, 20, 21, 22, 23, 24, 25, 26, 27, 28, 29, 30, 31, 32, 33, 34, 35, 36, 37, 38, 39, 40, 41, 42, 43, 44, 45, 46, 47, 48, 49, 50, 51, 52] (G := Nat) (fun k => [(17, .int .i64 k)]) (fun k w => k ≤ Ls.length ∧ (∀ i, i < k → PatOk t.vars (Ls.getD i [])) ∧ Sat w0 w [Box pt 26 [a, b, c, d]]) (fun k => Ls.length - k) 0 (fun _ => rfl) ⟨rfl, trivial⟩ ⟨Nat.zero_le _, fun i hi => absurd hi (Nat.not_lt_zero _), hw⟩ ?_
    clear hw
    rintro σ m w ⟨hm, hall, hw⟩
    repeat (first | refine go_run ?_ | (refine go_newP ?_; clear hw; intro p w hw) | (refine go_newW ?_; clear hw; intro w hw) | (refine go_newS ?_; clear hw; intro s w hw))
    refine go_if (fun h0 => ?_) (fun h0 => ?_)
    · have hml : m < Ls.length := by omega
      have hp := hl.at_ m hml
      have hlp := hp.big
      obtain ⟨L, hL⟩ : ∃ L, L = Ls.getD m [] := ⟨_, rfl⟩
      rw [← hL] at hp hlp
      repeat (first | refine go_run ?_ | (refine go_newP ?_; clear hw; intro p w hw) | (refine go_newW ?_; clear hw; intro w hw) | (refine go_newS ?_; clear hw; intro s w hw))
      refine vc_loop [4, 8, 9, 23, 24, 25, 26, 27, 28, 29, 30, 31, 32, 33, 34, 35, 36, 37, 38, 39, 40, 41, 42, 43, 44, 45, 46, 47, 48, 49, 50, 51] (G := Nat) (fun k => [(23, .int .i64 k)]) (fun k w => k ≤ L.length ∧ (∀ i, i < k → (0 ≤ L.getD i tInt.dflt ∧ L.getD i tInt.dflt < t.vars.length) ∧ (0 < i → L.getD (i - 1) tInt.dflt < L.getD i tInt.dflt)) ∧ Sat w0 w [Box pt 26 [a, b, c, d]]) (fun k => L.length - k) 0 (fun _ => rfl) ⟨rfl, trivial⟩ ⟨Nat.zero_le _, fun i hi => absurd hi (Nat.not_lt_zero _), hw⟩ ?_
      clear hw
      rintro σ1 k w ⟨hk1, hpre, hw⟩
      repeat (first | refine go_run ?_ | (refine go_newP ?_; clear hw; intro p w hw) | (refine go_newW ?_; clear hw; intro w hw) | (refine go_newS ?_; clear hw; intro s w hw))
      refine go_if (fun h1 => ?_) (fun h1 => ?_)
      · have hkl : k < L.length := by omega
        have e1 : ((k : Int) - 1).toNat = k - 1 := by omega
        repeat (first | refine go_run ?_ | (refine go_newP ?_; clear hw; intro p w hw) | (refine go_newW ?_; clear hw; intro w hw) | (refine go_newS ?_; clear hw; intro s w hw))
        refine go_if (fun h2 => ?_) (fun h2 => ?_)
        · repeat (first | refine go_run ?_ | (refine go_newP ?_; clear hw; intro p w hw) | (refine go_newW ?_; clear hw; intro w hw) | (refine go_newS ?_; clear hw; intro s w hw))
          refine res_one (v := errV 2) rfl (by rw [errV_some (by decide)]; rfl) ⟨?_, hw.tail⟩
          rw [lErr, if_neg (by simp [hk]), if_neg]
          intro hpa
          have hpk := hpa m hml
          rw [← hL] at hpk
          have h3 := hpk k hkl
          rw [e1] at h2
          rcases h2 with (h2 | h2) | ⟨h2, h4⟩
          · omega
          · omega
          · have := h3.2 (by omega); omega
        · rw [e1] at h2
          repeat (first | refine go_run ?_ | (refine go_newP ?_; clear hw; intro p w hw) | (refine go_newW ?_; clear hw; intro w hw) | (refine go_newS ?_; clear hw; intro s w hw))
          refine ⟨k + 1, ⟨rfl, trivial⟩, by repeat (first | exact agree_refl | (apply agree_upd rfl) | (apply agree_mix rfl) | (apply agree_sets rfl)), ⟨by omega, fun i hi => ?_, hw⟩, by omega⟩
          by_cases h : i = k
          · subst h; exact ⟨by omega, fun h0 => by omega⟩
          · exact hpre i (by omega)
      · repeat (first | refine go_run ?_ | (refine go_newP ?_; clear hw; intro p w hw) | (refine go_newW ?_; clear hw; intro w hw) | (refine go_newS ?_; clear hw; intro s w hw))
        refine ⟨m + 1, ⟨rfl, trivial⟩, by repeat (first | exact agree_refl | (apply agree_upd rfl) | (apply agree_mix rfl) | (apply agree_sets rfl)), ⟨by omega, fun i hi => ?_, hw⟩, by omega⟩
        by_cases h : i = m
        · subst h; rw [← hL]; intro j hj; exact hpre j (by omega)
        · exact hall i (by omega)
    · repeat (first | refine go_run ?_ | (refine go_newP ?_; clear hw; intro p w hw) | (refine go_newW ?_; clear hw; intro w hw) | (refine go_newS ?_; clear hw; intro s w hw))
      refine res_one (v := errV 0) rfl (by rw [errV_zero rfl]; rfl) ⟨?_, hw.tail⟩
      rw [lErr, if_neg (by simp [hk]), if_pos]
      intro i hi
      exact hall i (by omega)
  · rw [errV_some hk]
    repeat (first | refine go_run ?_ | (refine go_newP ?_; clear hw; intro p w hw) | (refine go_newW ?_; clear hw; intro w hw) | (refine go_newS ?_; clear hw; intro s w hw))
    refine res_one (v := errV (checkT t)) rfl (by rw [errV_some hk]; rfl) ⟨?_, hw.tail⟩
    rw [lErr, if_pos hk]
theorem orP {P Q : Prop} [Decidable Q] {b : Bool} (h : b = true ↔ P) : (b || decide Q) = true ↔ P ∨ Q := by rw [Bool.or_eq_true, h, decide_eq_true_eq]
theorem ex_succ {n : Nat} {p : Nat → Prop} : (∃ i, i < n + 1 ∧ p i) ↔ (∃ i, i < n ∧ p i) ∨ p n := by
  constructor
  · rintro ⟨i, hi, h⟩
    by_cases e : i = n
    · subst e; exact .inr h
    · exact .inl ⟨i, by omega, h⟩
  · rintro (⟨i, hi, h⟩ | h)
    · exact ⟨i, by omega, h⟩
    · exact ⟨n, by omega, h⟩
theorem aff_ex {t : TTask} {op : Nat} {p : List Int} : affT t op p ↔ ∃ i, i < (t.ops.getD op dOp).effs.length ∧ ((t.ops.getD op dOp).effs.getD i dEff).var ∈ p := by
  constructor
  · rintro ⟨e, he, hv⟩
    obtain ⟨i, hi, rfl⟩ := List.mem_iff_getElem.1 he
    exact ⟨i, hi, by rw [getD_at hi]; exact hv⟩
  · rintro ⟨i, hi, hv⟩
    exact ⟨_, mem_getD dEff hi, hv⟩
set_option maxRecDepth 8000 in
set_option maxHeartbeats 4000000 in
theorem additive_spec {w0 : World} {a b c d xa xb : Value} {vs : List OpV} {t : TTask} {A B : List Int} (ht : RTask w0 a b c d vs t) (hA : RS tInt w0 xa A) (hB : RS tInt w0 xb B) :
    Calls Tryz.prog 56 #[.agg #[a, b, c, d], xa, xb] w0 fun e w' => (∃ r, e = .returned (.bool r) ∧ (r = true ↔ addT t A B)) ∧ Sat w0 w' [] := by
  obtain ⟨ha, hb, hc, hd⟩ := ht
  have hrs := hd.rs
  have hdl := hd.len
  have hdb := hrs.big
  have hw := Sat.start w0
  refine calls_of_vc (args := [.agg #[a, b, c, d], xa, xb]) mixed Tryz.func56 rfl (by kernel_rfl) (Nat.le_of_ble_eq_true rfl) ?_
  repeat (first | refine go_run ?_ | (refine go_newP ?_; clear hw; intro p w hw) | (refine go_newW ?_; clear hw; intro w hw) | (refine go_newS ?_; clear hw; intro s w hw))
  obtain ⟨pt, hpt⟩ : ∃ pt, pt = p := ⟨p, rfl⟩
  subst hpt
  refine vc_loop [6, 8, 9, 10, 12, 16, 17, 18, 19, 20, 21, 22, 23, 24, 25, 26, 27, 28, 29, 30, 31, 32, 33, 34, 35, 36, 37, 38, 39, 40, 41, 42, 43, 44, 45, 46] (G := Nat) (fun k => [(16, .int .i64 k)]) (fun k w => k ≤ t.ops.length ∧ (∀ op, op < k → ¬ (affT t op A ∧ affT t op B)) ∧ Sat w0 w [Box pt 26 [a, b, c, d]]) (fun k => t.ops.length - k) 0 (fun _ => rfl) ⟨rfl, trivial⟩ ⟨Nat.zero_le _, fun i hi => absurd hi (Nat.not_lt_zero _), hw⟩ ?_
  clear hw
  rintro σ k w ⟨hk, hall, hw⟩
  repeat (first | refine go_run ?_ | (refine go_newP ?_; clear hw; intro p w hw) | (refine go_newW ?_; clear hw; intro w hw) | (refine go_newS ?_; clear hw; intro s w hw))
  refine go_if (fun h1 => ?_) (fun h1 => ?_)
  · have hkl : k < t.ops.length := by omega
    have hop := hd.at_ k hkl
    have hone := hop.one
    obtain ⟨es, hes⟩ := hop.effs
    have hesr := hes.rs
    have hesl := hes.len
    have hesb := hesr.big
    repeat (first | refine go_run ?_ | (refine go_newP ?_; clear hw; intro p w hw) | (refine go_newW ?_; clear hw; intro w hw) | (refine go_newS ?_; clear hw; intro s w hw))
    obtain ⟨pe, hpe⟩ : ∃ pe, pe = p := ⟨p, rfl⟩
    subst hpe
    refine vc_loop3 [9, 10, 12, 23, 24, 25, 26, 27, 28, 29, 30, 31, 32, 33, 34, 35, 36, 37, 38, 39, 40, 41] (G := Nat) (H := Bool) (I := Bool) (fun j x y => [(23, .int .i64 j), (9, .bool x), (10, .bool y)]) (fun j x y w => j ≤ es.length ∧ (x = true ↔ ∃ i, i < j ∧ ((t.ops.getD k dOp).effs.getD i dEff).var ∈ A) ∧ (y = true ↔ ∃ i, i < j ∧ ((t.ops.getD k dOp).effs.getD i dEff).var ∈ B) ∧ Sat w0 w [Box pe 58 (tOp.enc (eget tOp vs k)), Box pt 26 [a, b, c, d]]) (fun j _ _ => es.length - j) 0 false false (fun _ _ _ => rfl) ⟨rfl, rfl, rfl, trivial⟩ ⟨Nat.zero_le _, iffF (fun ⟨i, hi, _⟩ => by omega), iffF (fun ⟨i, hi, _⟩ => by omega), hw⟩ ?_
    clear hw
    rintro σ1 j x y w ⟨hj, hx, hy, hw⟩
    repeat (first | refine go_run ?_ | (refine go_newP ?_; clear hw; intro p w hw) | (refine go_newW ?_; clear hw; intro w hw) | (refine go_newS ?_; clear hw; intro s w hw))
    refine go_if (fun h2 => ?_) (fun h2 => ?_)
    · have hjl : j < (t.ops.getD k dOp).effs.length := by omega
      have hee := hes.at_ j hjl
      have heo := hee.one
      have hev := hee.var
      have hE : ∀ X : List Int, (∃ i, i < j + 1 ∧ ((t.ops.getD k dOp).effs.getD i dEff).var ∈ X) ↔ (∃ i, i < j ∧ ((t.ops.getD k dOp).effs.getD i dEff).var ∈ X) ∨ (eget tEff es j).var ∈ X := fun X => by rw [hev]; exact ex_succ
      cases x <;> cases y
      · repeat (first | refine go_run ?_ | (refine go_newP ?_; clear hw; intro p w hw) | (refine go_newW ?_; clear hw; intro w hw) | (refine go_newS ?_; clear hw; intro s w hw))
        refine st_call rfl (Contains_spec (v := (eget tEff es j).var) (hA.at hw)) ?_
        rintro _ w' ⟨rfl, hk'⟩
        replace hw := hw.call0 hk'
        clear hk'
        refine ⟨_, rfl, ?_⟩
        repeat (first | refine go_run ?_ | (refine go_newP ?_; clear hw; intro p w hw) | (refine go_newW ?_; clear hw; intro w hw) | (refine go_newS ?_; clear hw; intro s w hw))
        refine st_call rfl (Contains_spec (v := (eget tEff es j).var) (hB.at hw)) ?_
        rintro _ w' ⟨rfl, hk'⟩
        replace hw := hw.call0 hk'
        clear hk'
        refine ⟨_, rfl, ?_⟩
        repeat (first | refine go_run ?_ | (refine go_newP ?_; clear hw; intro p w hw) | (refine go_newW ?_; clear hw; intro w hw) | (refine go_newS ?_; clear hw; intro s w hw))
        exact ⟨j + 1, _, _, ⟨rfl, rfl, rfl, trivial⟩, by repeat (first | exact agree_refl | (apply agree_upd rfl) | (apply agree_mix rfl) | (apply agree_sets rfl)), ⟨by omega, (orP hx).trans (hE A).symm, (orP hy).trans (hE B).symm, hw.sel⟩, by omega⟩
      · repeat (first | refine go_run ?_ | (refine go_newP ?_; clear hw; intro p w hw) | (refine go_newW ?_; clear hw; intro w hw) | (refine go_newS ?_; clear hw; intro s w hw))
        refine st_call rfl (Contains_spec (v := (eget tEff es j).var) (hA.at hw)) ?_
        rintro _ w' ⟨rfl, hk'⟩
        replace hw := hw.call0 hk'
        clear hk'
        refine ⟨_, rfl, ?_⟩
        repeat (first | refine go_run ?_ | (refine go_newP ?_; clear hw; intro p w hw) | (refine go_newW ?_; clear hw; intro w hw) | (refine go_newS ?_; clear hw; intro s w hw))
        exact ⟨j + 1, _, true, ⟨rfl, rfl, rfl, trivial⟩, by repeat (first | exact agree_refl | (apply agree_upd rfl) | (apply agree_mix rfl) | (apply agree_sets rfl)), ⟨by omega, (orP hx).trans (hE A).symm, iffT ((hE B).2 (.inl (hy.1 rfl))), hw.sel⟩, by omega⟩
      · repeat (first | refine go_run ?_ | (refine go_newP ?_; clear hw; intro p w hw) | (refine go_newW ?_; clear hw; intro w hw) | (refine go_newS ?_; clear hw; intro s w hw))
        refine st_call rfl (Contains_spec (v := (eget tEff es j).var) (hB.at hw)) ?_
        rintro _ w' ⟨rfl, hk'⟩
        replace hw := hw.call0 hk'
        clear hk'
        refine ⟨_, rfl, ?_⟩
        repeat (first | refine go_run ?_ | (refine go_newP ?_; clear hw; intro p w hw) | (refine go_newW ?_; clear hw; intro w hw) | (refine go_newS ?_; clear hw; intro s w hw))
        exact ⟨j + 1, true, _, ⟨rfl, rfl, rfl, trivial⟩, by repeat (first | exact agree_refl | (apply agree_upd rfl) | (apply agree_mix rfl) | (apply agree_sets rfl)), ⟨by omega, iffT ((hE A).2 (.inl (hx.1 rfl))), (orP hy).trans (hE B).symm, hw.sel⟩, by omega⟩
      · repeat (first | refine go_run ?_ | (refine go_newP ?_; clear hw; intro p w hw) | (refine go_newW ?_; clear hw; intro w hw) | (refine go_newS ?_; clear hw; intro s w hw))
        exact ⟨j + 1, true, true, ⟨rfl, rfl, rfl, trivial⟩, by repeat (first | exact agree_refl | (apply agree_upd rfl) | (apply agree_mix rfl) | (apply agree_sets rfl)), ⟨by omega, iffT ((hE A).2 (.inl (hx.1 rfl))), iffT ((hE B).2 (.inl (hy.1 rfl))), hw.sel⟩, by omega⟩
    · have hjl : j = (t.ops.getD k dOp).effs.length := by omega
      subst hjl
      have hxA := hx.trans aff_ex.symm
      have hyB := hy.trans aff_ex.symm
      have hstep : ¬ (affT t k A ∧ affT t k B) → ∀ op, op < k + 1 → ¬ (affT t op A ∧ affT t op B) := fun h op ho => by
        by_cases e : op = k
        · subst e; exact h
        · exact hall op (by omega)
      cases x <;> cases y
      · repeat (first | refine go_run ?_ | (refine go_newP ?_; clear hw; intro p w hw) | (refine go_newW ?_; clear hw; intro w hw) | (refine go_newS ?_; clear hw; intro s w hw))
        exact ⟨k + 1, ⟨rfl, trivial⟩, by repeat (first | exact agree_refl | (apply agree_upd rfl) | (apply agree_mix rfl) | (apply agree_sets rfl)), ⟨by omega, hstep fun h => (by have := hxA.2 h.1; cases this), hw.sel⟩, by omega⟩
      · repeat (first | refine go_run ?_ | (refine go_newP ?_; clear hw; intro p w hw) | (refine go_newW ?_; clear hw; intro w hw) | (refine go_newS ?_; clear hw; intro s w hw))
        exact ⟨k + 1, ⟨rfl, trivial⟩, by repeat (first | exact agree_refl | (apply agree_upd rfl) | (apply agree_mix rfl) | (apply agree_sets rfl)), ⟨by omega, hstep fun h => (by have := hxA.2 h.1; cases this), hw.sel⟩, by omega⟩
      · repeat (first | refine go_run ?_ | (refine go_newP ?_; clear hw; intro p w hw) | (refine go_newW ?_; clear hw; intro w hw) | (refine go_newS ?_; clear hw; intro s w hw))
        exact ⟨k + 1, ⟨rfl, trivial⟩, by repeat (first | exact agree_refl | (apply agree_upd rfl) | (apply agree_mix rfl) | (apply agree_sets rfl)), ⟨by omega, hstep fun h => (by have := hyB.2 h.2; cases this), hw.sel⟩, by omega⟩
      · repeat (first | refine go_run ?_ | (refine go_newP ?_; clear hw; intro p w hw) | (refine go_newW ?_; clear hw; intro w hw) | (refine go_newS ?_; clear hw; intro s w hw))
        exact res_one (v := .bool false) rfl rfl ⟨⟨false, rfl, iffF fun h => h k hkl ⟨hxA.1 rfl, hyB.1 rfl⟩⟩, hw.sel⟩
  · repeat (first | refine go_run ?_ | (refine go_newP ?_; clear hw; intro p w hw) | (refine go_newW ?_; clear hw; intro w hw) | (refine go_newS ?_; clear hw; intro s w hw))
    exact res_one (v := .bool true) rfl rfl ⟨⟨true, rfl, iffT fun op ho => hall op (by omega)⟩, hw.sel⟩
theorem lErr_two {t : TTask} {A B : List Int} : (∀ i, i < [A, B].length → PatOk t.vars ([A, B].getD i [])) ↔ PatOk t.vars A ∧ PatOk t.vars B :=
  ⟨fun h => ⟨h 0 (by simp), h 1 (by simp)⟩, fun h i hi => by
    match i, hi with
    | 0, _ => exact h.1
    | 1, _ => exact h.2
    | n + 2, hi => simp only [List.length_cons, List.length_nil] at hi; omega⟩
theorem rls_two {w : World} {s xa xb : Value} {A B : List Int} (h : RS tVal w s [xa, xb]) (hA : RS tInt w xa A) (hB : RS tInt w xb B) : RLs w s [xa, xb] [A, B] :=
  ⟨h, rfl, fun i hi => by
    match i, hi with
    | 0, _ => rw [show vget [xa, xb] 0 = xa by unfold vget; rfl]; exact hA
    | 1, _ => rw [show vget [xa, xb] 1 = xb by unfold vget; rfl]; exact hB
    | n + 2, hi => simp only [List.length_cons, List.length_nil] at hi; omega⟩
set_option maxRecDepth 8000 in
set_option maxHeartbeats 4000000 in
theorem Additive_spec {w0 : World} {a b c d xa xb : Value} {vs : List OpV} {t : TTask} {A B : List Int} (ht : RTask w0 a b c d vs t) (hA : RS tInt w0 xa A) (hB : RS tInt w0 xb B) :
    Calls Tryz.prog 27 #[.agg #[a, b, c, d], xa, xb] w0 fun e w' => (∃ r, e = .returned (.tuple #[.bool r, errV (lErr t [A, B])]) ∧ (r = true ↔ lErr t [A, B] = 0 ∧ addT t A B)) ∧ Sat w0 w' [] := by
  have hw := Sat.start w0
  refine calls_of_vc (args := [.agg #[a, b, c, d], xa, xb]) mixed Tryz.func27 rfl (by kernel_rfl) (Nat.le_of_ble_eq_true rfl) ?_
  have c1 := hA.cells1
  have c2 := hB.cells1
  have z1 : (xa.cells.size == 1) = true := by rw [← Array.length_toList, c1]; rfl
  have z2 : (xb.cells.size == 1) = true := by rw [← Array.length_toList, c2]; rfl
  repeat (first | refine go_run ?_ | (refine go_newP ?_; clear hw; intro p w hw) | (refine go_newW ?_; clear hw; intro w hw) | (refine go_newS ?_; clear hw; intro s w hw))
  obtain ⟨pt, hpt⟩ : ∃ pt, pt = p := ⟨p, rfl⟩
  subst hpt
  refine st_buildSlice (T := tVal) [xa, xb] [xa, xb] rfl (by simp [c1, c2, tVal]) (by simp only [List.all_cons, List.all_nil, z1, z2]; rfl) rfl rfl (Nat.le_of_ble_eq_true rfl) (Nat.zero_lt_succ _) (Nat.le_of_ble_eq_true rfl) hw ?_
  clear hw
  intro s w hw
  repeat (first | refine go_run ?_ | (refine go_newP ?_; clear hw; intro p w hw) | (refine go_newW ?_; clear hw; intro w hw) | (refine go_newS ?_; clear hw; intro s w hw))
  refine st_call rfl (pachk_spec (ht.at hw) (rls_two (hw.rs 0 rfl) (hA.at hw) (hB.at hw))) ?_
  rintro _ w' ⟨rfl, hk'⟩
  replace hw := hw.call0 hk'
  clear hk'
  refine ⟨_, rfl, ?_⟩
  by_cases hk : lErr t [A, B] = 0
  · rw [errV_zero hk]
    repeat (first | refine go_run ?_ | (refine go_newP ?_; clear hw; intro p w hw) | (refine go_newW ?_; clear hw; intro w hw) | (refine go_newS ?_; clear hw; intro s w hw))
    refine st_call rfl (additive_spec (ht.at hw) (hA.at hw) (hB.at hw)) ?_
    rintro _ w' ⟨⟨r, rfl, hr⟩, hk'⟩
    replace hw := hw.call0 hk'
    clear hk'
    refine ⟨_, rfl, ?_⟩
    repeat (first | refine go_run ?_ | (refine go_newP ?_; clear hw; intro p w hw) | (refine go_newW ?_; clear hw; intro w hw) | (refine go_newS ?_; clear hw; intro s w hw))
    exact res_two (v := .bool r) (v' := .nilIface) rfl rfl rfl ⟨⟨r, rfl, hr.trans ⟨fun h => ⟨hk, h⟩, fun h => h.2⟩⟩, hw.sel⟩
  · rw [errV_some hk]
    repeat (first | refine go_run ?_ | (refine go_newP ?_; clear hw; intro p w hw) | (refine go_newW ?_; clear hw; intro w hw) | (refine go_newS ?_; clear hw; intro s w hw))
    exact res_two (v := .bool false) (v' := .iface 85 (.int .i64 (lErr t [A, B]))) rfl rfl rfl ⟨⟨false, rfl, iffF fun h => hk h.1⟩, hw.sel⟩
end Go.Proofs.YtemnlcnjpjdoaaaGreatDoor
