
/-
  The reference of layer 42: contracts of 'less', 'affects' and 'Additive'.
-/
import Derived.Test.YtemnlcnjpjdoaaaGreatDoorWPat2
import Derived.Test.YtemnlcnjpjdoaaaGreatDoorTCliR
import Derived.Test.YtemnlcnjpjdoaaaGreatDoorMSlB
set_option linter.unusedSimpArgs false
set_option linter.unusedVariables false
namespace Go.Proofs.YtemnlcnjpjdoaaaGreatDoor
open Go.Sl Go
attribute [local irreducible] vc opsW opsD opV opW PureV ReadV Thn Blk
theorem drop_at {l : List Int} {i : Nat} (h : i < l.length) : l.drop i = l.getD i tInt.dflt :: l.drop (i + 1) := by
  rw [getD_at h]; exact List.drop_eq_getElem_cons h
set_option maxRecDepth 8000 in
set_option maxHeartbeats 2000000 in
theorem less_spec {w0 : World} {xa xb : Value} {A B : List Int} (hA : RS tInt w0 xa A) (hB : RS tInt w0 xb B) :
    Calls Tryz.prog 44 #[xa, xb] w0 fun e w' => (∃ r, e = .returned (.bool r) ∧ (r = true ↔ lexC A B < 0)) ∧ Sat w0 w' [] := by
  have hAb := hA.big
  have hBb := hB.big
  have hw := Sat.start w0
  refine calls_of_vc (args := [xa, xb]) mixed Tryz.func44 rfl (by kernel_rfl) (Nat.le_of_ble_eq_true rfl) ?_
  repeat (first | refine go_run ?_ | (refine go_newP ?_; clear hw; intro p w hw) | (refine go_newW ?_; clear hw; intro w hw) | (refine go_newS ?_; clear hw; intro s w hw))
  refine vc_loop [4, 5, 8, 9, 10, 11, 12, 13, 14, 15, 16, 17, 18, 19, 20, 21, 22, 23, 24, 25, 26, 27, 28, 29, 30, 31, 32, 33] (G := Nat) (fun i => [(8, .int .i64 i)]) (fun i w => i ≤ A.length ∧ i ≤ B.length ∧ lexC A B = lexC (A.drop i) (B.drop i) ∧ Sat w0 w []) (fun i => A.length - i) 0 (fun _ => rfl) ⟨rfl, trivial⟩ ⟨Nat.zero_le _, Nat.zero_le _, rfl, hw⟩ ?_
  clear hw
  rintro σ i w ⟨hi, hib, he, hw⟩
  repeat (first | refine go_run ?_ | (refine go_newP ?_; clear hw; intro p w hw) | (refine go_newW ?_; clear hw; intro w hw) | (refine go_newS ?_; clear hw; intro s w hw))
  refine go_if (fun h1 => ?_) (fun h1 => ?_)
  · have hil : i < A.length := by omega
    repeat (first | refine go_run ?_ | (refine go_newP ?_; clear hw; intro p w hw) | (refine go_newW ?_; clear hw; intro w hw) | (refine go_newS ?_; clear hw; intro s w hw))
    refine go_if (fun h2 => ?_) (fun h2 => ?_)
    · have hBi : i = B.length := by omega
      repeat (first | refine go_run ?_ | (refine go_newP ?_; clear hw; intro p w hw) | (refine go_newW ?_; clear hw; intro w hw) | (refine go_newS ?_; clear hw; intro s w hw))
      refine res_one (v := .bool false) rfl rfl ⟨⟨false, rfl, iffF ?_⟩, hw⟩
      rw [he, hBi, List.drop_length, drop_at (by omega : B.length < A.length)]
      simp [lexC]
    have hbl : i < B.length := by omega
    rw [drop_at hil, drop_at hbl] at he
    simp only [lexC] at he
    repeat (first | refine go_run ?_ | (refine go_newP ?_; clear hw; intro p w hw) | (refine go_newW ?_; clear hw; intro w hw) | (refine go_newS ?_; clear hw; intro s w hw))
    refine go_if (fun h3 => ?_) (fun h3 => ?_)
    · repeat (first | refine go_run ?_ | (refine go_newP ?_; clear hw; intro p w hw) | (refine go_newW ?_; clear hw; intro w hw) | (refine go_newS ?_; clear hw; intro s w hw))
      refine res_one (v := .bool (decide (A.getD i tInt.dflt < B.getD i tInt.dflt))) rfl rfl ⟨⟨_, rfl, ?_⟩, hw⟩
      rw [he, decide_eq_true_eq]
      by_cases h : A.getD i tInt.dflt < B.getD i tInt.dflt
      · rw [if_pos h]; exact ⟨fun _ => by decide, fun _ => h⟩
      · rw [if_neg h, if_pos (by omega)]; exact ⟨fun hh => absurd hh h, fun hh => absurd hh (by decide)⟩
    · repeat (first | refine go_run ?_ | (refine go_newP ?_; clear hw; intro p w hw) | (refine go_newW ?_; clear hw; intro w hw) | (refine go_newS ?_; clear hw; intro s w hw))
      refine ⟨i + 1, ⟨rfl, trivial⟩, by repeat (first | exact agree_refl | (apply agree_upd rfl) | (apply agree_mix rfl) | (apply agree_sets rfl)), ⟨by omega, by omega, ?_, hw⟩, by omega⟩
      rw [he, if_neg (by omega), if_neg (by omega)]
  · have hie : i = A.length := by omega
    subst hie
    repeat (first | refine go_run ?_ | (refine go_newP ?_; clear hw; intro p w hw) | (refine go_newW ?_; clear hw; intro w hw) | (refine go_newS ?_; clear hw; intro s w hw))
    refine res_one (v := .bool (decide ((A.length : Int) < B.length))) rfl rfl ⟨⟨_, rfl, ?_⟩, hw⟩
    rw [he, List.drop_length, decide_eq_true_eq]
    by_cases h : A.length < B.length
    · rw [drop_at h]; simp only [lexC]; exact ⟨fun _ => by decide, fun _ => by omega⟩
    · rw [List.drop_of_length_le (by omega)]; simp only [lexC]; exact ⟨fun hh => by omega, fun hh => by omega⟩
set_option maxRecDepth 8000 in
set_option maxHeartbeats 2000000 in
theorem affects_spec {w0 : World} {v : OpV} {o : TOp} {xp : Value} {L : List Int} (hv : ROp w0 v o) (hp : RS tInt w0 xp L) :
    Calls Tryz.prog 57 #[.agg (tOp.enc v).toArray, xp] w0 fun e w' => (∃ r, e = .returned (.bool r) ∧ (r = true ↔ ∃ e ∈ o.effs, e.var ∈ L)) ∧ Sat w0 w' [] := by
  have hone := hv.one
  obtain ⟨es, he⟩ := hv.effs
  have hpb := hp.big
  have her := he.rs
  have hel := he.len
  have heb := her.big
  have hw := Sat.start w0
  refine calls_of_vc (args := [.agg (tOp.enc v).toArray, xp]) mixed Tryz.func57 rfl (by kernel_rfl) (Nat.le_of_ble_eq_true rfl) ?_
  repeat (first | refine go_run ?_ | (refine go_newP ?_; clear hw; intro p w hw) | (refine go_newW ?_; clear hw; intro w hw) | (refine go_newS ?_; clear hw; intro s w hw))
  refine vc_loop [4, 6, 8, 12, 13, 14, 15, 16, 17, 18, 19, 20, 21, 22, 23, 24, 25, 26, 27] (G := Nat) (fun j => [(12, .int .i64 j)]) (fun j w => j ≤ o.effs.length ∧ (∀ i, i < j → (o.effs.getD i dEff).var ∉ L) ∧ Sat w0 w []) (fun j => o.effs.length - j) 0 (fun _ => rfl) ⟨rfl, trivial⟩ ⟨Nat.zero_le _, fun i hi => absurd hi (Nat.not_lt_zero _), hw.sel⟩ ?_
  clear hw
  rintro σ j w ⟨hj, hno, hw⟩
  repeat (first | refine go_run ?_ | (refine go_newP ?_; clear hw; intro p w hw) | (refine go_newW ?_; clear hw; intro w hw) | (refine go_newS ?_; clear hw; intro s w hw))
  refine go_if (fun h1 => ?_) (fun h1 => ?_)
  · have hjl : j < o.effs.length := by omega
    have hee := he.at_ j hjl
    have heo := hee.one
    have hev := hee.var
    repeat (first | refine go_run ?_ | (refine go_newP ?_; clear hw; intro p w hw) | (refine go_newW ?_; clear hw; intro w hw) | (refine go_newS ?_; clear hw; intro s w hw))
    refine vc_loop [4, 8, 18, 19, 20, 21, 22, 23, 24, 25, 26] (G := Nat) (fun i => [(18, .int .i64 i)]) (fun i w => i ≤ L.length ∧ (∀ m, m < i → L.getD m tInt.dflt ≠ (o.effs.getD j dEff).var) ∧ Sat w0 w [Box p 117 (tEff.enc (eget tEff es j))]) (fun i => L.length - i) 0 (fun _ => rfl) ⟨rfl, trivial⟩ ⟨Nat.zero_le _, fun i hi => absurd hi (Nat.not_lt_zero _), hw⟩ ?_
    clear hw
    rintro σ1 i w ⟨hi, hni, hw⟩
    repeat (first | refine go_run ?_ | (refine go_newP ?_; clear hw; intro p w hw) | (refine go_newW ?_; clear hw; intro w hw) | (refine go_newS ?_; clear hw; intro s w hw))
    refine go_if (fun h2 => ?_) (fun h2 => ?_)
    · have hil : i < L.length := by omega
      repeat (first | refine go_run ?_ | (refine go_newP ?_; clear hw; intro p w hw) | (refine go_newW ?_; clear hw; intro w hw) | (refine go_newS ?_; clear hw; intro s w hw))
      refine go_if (fun h3 => ?_) (fun h3 => ?_)
      · repeat (first | refine go_run ?_ | (refine go_newP ?_; clear hw; intro p w hw) | (refine go_newW ?_; clear hw; intro w hw) | (refine go_newS ?_; clear hw; intro s w hw))
        exact res_one (v := .bool true) rfl rfl ⟨⟨true, rfl, iffT ⟨_, mem_getD dEff hjl, by rw [← hev, h3]; exact mem_getD tInt.dflt hil⟩⟩, hw.sel⟩
      · repeat (first | refine go_run ?_ | (refine go_newP ?_; clear hw; intro p w hw) | (refine go_newW ?_; clear hw; intro w hw) | (refine go_newS ?_; clear hw; intro s w hw))
        refine ⟨i + 1, ⟨rfl, trivial⟩, by repeat (first | exact agree_refl | (apply agree_upd rfl) | (apply agree_mix rfl) | (apply agree_sets rfl)), ⟨by omega, fun m hm => ?_, hw⟩, by omega⟩
        by_cases e : m = i
        · subst e; rw [← hev]; exact fun e => h3 e.symm
        · exact hni m (by omega)
    · have hie : i = L.length := by omega
      subst hie
      repeat (first | refine go_run ?_ | (refine go_newP ?_; clear hw; intro p w hw) | (refine go_newW ?_; clear hw; intro w hw) | (refine go_newS ?_; clear hw; intro s w hw))
      refine ⟨j + 1, ⟨rfl, trivial⟩, by repeat (first | exact agree_refl | (apply agree_upd rfl) | (apply agree_mix rfl) | (apply agree_sets rfl)), ⟨by omega, fun m hm => ?_, hw.sel⟩, by omega⟩
      by_cases e : m = j
      · subst e
        intro hm2
        obtain ⟨q, hq, e2⟩ := List.getElem_of_mem hm2
        exact hni q hq (by rw [getD_at hq, e2])
      · exact hno m (by omega)
  · repeat (first | refine go_run ?_ | (refine go_newP ?_; clear hw; intro p w hw) | (refine go_newW ?_; clear hw; intro w hw) | (refine go_newS ?_; clear hw; intro s w hw))
    refine res_one (v := .bool false) rfl rfl ⟨⟨false, rfl, iffF ?_⟩, hw⟩
    rintro ⟨e, hm, hv⟩
    obtain ⟨q, hq, rfl⟩ := List.getElem_of_mem hm
    exact hno q (by omega) (by rw [getD_at hq]; exact hv)
set_option maxRecDepth 8000 in
set_option maxHeartbeats 2000000 in
theorem rAdditive_spec {w0 : World} {a b c d xa xb : Value} {vs : List OpV} {t : TTask} {A B : List Int} (ht : RTask w0 a b c d vs t) (hA : RS tInt w0 xa A) (hB : RS tInt w0 xb B) :
    Calls Tryz.prog 28 #[.agg #[a, b, c, d], xa, xb] w0 fun e w' => (∃ r, e = .returned (.bool r) ∧ (r = true ↔ addT t A B)) ∧ Sat w0 w' [] := by
  obtain ⟨ha, hb, hc, hd⟩ := ht
  have hrs := hd.rs
  have hdl := hd.len
  have hdb := hrs.big
  have hw := Sat.start w0
  refine calls_of_vc (args := [.agg #[a, b, c, d], xa, xb]) mixed Tryz.func28 rfl (by kernel_rfl) (Nat.le_of_ble_eq_true rfl) ?_
  repeat (first | refine go_run ?_ | (refine go_newP ?_; clear hw; intro p w hw) | (refine go_newW ?_; clear hw; intro w hw) | (refine go_newS ?_; clear hw; intro s w hw))
  obtain ⟨pt, hpt⟩ : ∃ pt, pt = p := ⟨p, rfl⟩
  subst hpt
  refine vc_loop [6, 8, 12, 13, 14, 15, 16, 17, 18, 19, 20, 21, 22, 23, 24] (G := Nat) (fun k => [(12, .int .i64 k)]) (fun k w => k ≤ t.ops.length ∧ (∀ op, op < k → ¬ (affT t op A ∧ affT t op B)) ∧ Sat w0 w [Box pt 26 [a, b, c, d]]) (fun k => t.ops.length - k) 0 (fun _ => rfl) ⟨rfl, trivial⟩ ⟨Nat.zero_le _, fun i hi => absurd hi (Nat.not_lt_zero _), hw⟩ ?_
  clear hw
  rintro σ k w ⟨hk, hall, hw⟩
  repeat (first | refine go_run ?_ | (refine go_newP ?_; clear hw; intro p w hw) | (refine go_newW ?_; clear hw; intro w hw) | (refine go_newS ?_; clear hw; intro s w hw))
  refine go_if (fun h1 => ?_) (fun h1 => ?_)
  · have hkl : k < t.ops.length := by omega
    have hop := hd.at_ k hkl
    have hone := hop.one
    obtain ⟨es, hes⟩ := hop.effs
    have hnext : ¬ (affT t k A ∧ affT t k B) → ∀ op, op < k + 1 → ¬ (affT t op A ∧ affT t op B) := fun h op ho => by
      by_cases e : op = k
      · subst e; exact h
      · exact hall op (by omega)
    repeat (first | refine go_run ?_ | (refine go_newP ?_; clear hw; intro p w hw) | (refine go_newW ?_; clear hw; intro w hw) | (refine go_newS ?_; clear hw; intro s w hw))
    refine st_call rfl (affects_spec (hop.at hw) (hA.at hw)) ?_
    rintro _ w' ⟨⟨r, rfl, hr⟩, hk'⟩
    replace hw := hw.call0 hk'
    clear hk'
    refine ⟨_, rfl, ?_⟩
    cases r
    · repeat (first | refine go_run ?_ | (refine go_newP ?_; clear hw; intro p w hw) | (refine go_newW ?_; clear hw; intro w hw) | (refine go_newS ?_; clear hw; intro s w hw))
      exact ⟨k + 1, ⟨rfl, trivial⟩, by repeat (first | exact agree_refl | (apply agree_upd rfl) | (apply agree_mix rfl) | (apply agree_sets rfl)), ⟨by omega, hnext fun h => (by have := hr.2 h.1; cases this), hw.sel⟩, by omega⟩
    repeat (first | refine go_run ?_ | (refine go_newP ?_; clear hw; intro p w hw) | (refine go_newW ?_; clear hw; intro w hw) | (refine go_newS ?_; clear hw; intro s w hw))
    refine st_call rfl (affects_spec (hop.at hw) (hB.at hw)) ?_
    rintro _ w' ⟨⟨r, rfl, hr2⟩, hk'⟩
    replace hw := hw.call0 hk'
    clear hk'
    refine ⟨_, rfl, ?_⟩
    cases r
    · repeat (first | refine go_run ?_ | (refine go_newP ?_; clear hw; intro p w hw) | (refine go_newW ?_; clear hw; intro w hw) | (refine go_newS ?_; clear hw; intro s w hw))
      exact ⟨k + 1, ⟨rfl, trivial⟩, by repeat (first | exact agree_refl | (apply agree_upd rfl) | (apply agree_mix rfl) | (apply agree_sets rfl)), ⟨by omega, hnext fun h => (by have := hr2.2 h.2; cases this), hw.sel⟩, by omega⟩
    · repeat (first | refine go_run ?_ | (refine go_newP ?_; clear hw; intro p w hw) | (refine go_newW ?_; clear hw; intro w hw) | (refine go_newS ?_; clear hw; intro s w hw))
      exact res_one (v := .bool false) rfl rfl ⟨⟨false, rfl, iffF fun h => h k hkl ⟨hr.1 rfl, hr2.1 rfl⟩⟩, hw.sel⟩
  · repeat (first | refine go_run ?_ | (refine go_newP ?_; clear hw; intro p w hw) | (refine go_newW ?_; clear hw; intro w hw) | (refine go_newS ?_; clear hw; intro s w hw))
    exact res_one (v := .bool true) rfl rfl ⟨⟨true, rfl, iffT fun op ho => hall op (by omega)⟩, hw.sel⟩
end Go.Proofs.YtemnlcnjpjdoaaaGreatDoor
