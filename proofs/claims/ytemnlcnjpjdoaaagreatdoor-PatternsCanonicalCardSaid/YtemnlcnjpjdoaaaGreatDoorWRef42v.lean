
/-
  The reference of layer 42: contracts of 'Tables' and 'Value'.
-/
import Derived.Test.YtemnlcnjpjdoaaaGreatDoorW42c
set_option linter.unusedSimpArgs false
set_option linter.unusedVariables false
namespace Go.Proofs.YtemnlcnjpjdoaaaGreatDoor
open Go.Sl Go
attribute [local irreducible] vc opsW opsD opV opW PureV ReadV Thn Blk
set_option maxRecDepth 8000 in
set_option maxHeartbeats 4000000 in
theorem rTables_spec {w0 : World} {a b c d s kv : Value} {vs : List OpV} {t : TTask} {ss : List Value} {Ls : List (List Int)} (ht : RTask w0 a b c d vs t) (hl : RLs w0 s ss Ls) (hk : RS tInt w0 kv (costsT t)) (hp : PatsOk t Ls) :
    Calls Tryz.prog 17 #[.agg #[a, b, c, d], s, kv] w0 fun e w' => ∃ ov os Ds, e = .returned ov ∧ Ds.length = Ls.length ∧ (∀ i, i < Ls.length → DistOk (pEdges t (Ls.getD i [])) (costsT t) (GoalPK t (Ls.getD i [])) (cntL t.vars (Ls.getD i [])).toNat (Ds.getD i [])) ∧ Sat w0 w' [RowsAt tInt 3 os Ds, OS tVal 22 ov os] := by
  have ht' := ht
  have hlr := hl.rs
  have hln := hl.len
  have hl32 := hp.len
  have hs := hp.small
  have hg := hs.good
  have hw := Sat.start w0
  refine calls_of_vc (args := [.agg #[a, b, c, d], s, kv]) mixed Tryz.func17 rfl (by kernel_rfl) (Nat.le_of_ble_eq_true rfl) ?_
  repeat (first | refine go_run ?_ | (refine go_newP ?_; clear hw; intro p w hw) | (refine go_newW ?_; clear hw; intro w hw) | (refine go_newS ?_; clear hw; intro s w hw))
  obtain ⟨pt, hpt⟩ : ∃ pt, pt = p := ⟨p, rfl⟩
  subst hpt
  have hw1 : Sat w0 w [RowsAt tInt 3 [] [], OS tVal 22 (.slice none 0 0) [], Box pt 26 [a, b, c, d]] := (hw.nil (T := tVal) (e := 22)).rows0
  clear hw
  refine vc_loop4 [7, 9, 12, 13, 14, 15, 16, 17, 18, 19, 20, 21, 22, 23, 24] (G := Nat) (H := Value) (I := List Value) (M := List (List Int)) (fun k ov _ _ => [(12, .int .i64 k), (7, ov)]) (fun k ov os Ds w => k ≤ Ls.length ∧ Ds.length = k ∧ (∀ i, i < k → DistOk (pEdges t (Ls.getD i [])) (costsT t) (GoalPK t (Ls.getD i [])) (cntL t.vars (Ls.getD i [])).toNat (Ds.getD i [])) ∧ Sat w0 w [RowsAt tInt 3 os Ds, OS tVal 22 ov os, Box pt 26 [a, b, c, d]]) (fun k _ _ _ => Ls.length - k) 0 (.slice none 0 0) [] [] (fun _ _ _ _ => rfl) ⟨rfl, rfl, trivial⟩ ⟨Nat.zero_le _, rfl, fun i hi => absurd hi (Nat.not_lt_zero _), hw1⟩ ?_
  clear hw1
  rintro σ k ov os Ds w ⟨hk1, hDl, hD, hw⟩
  have hol := hw.rowsLen
  repeat (first | refine go_run ?_ | (refine go_newP ?_; clear hw; intro p w hw) | (refine go_newW ?_; clear hw; intro w hw) | (refine go_newS ?_; clear hw; intro s w hw))
  refine go_if (fun h1 => ?_) (fun h1 => ?_)
  · have hkl : k < Ls.length := by omega
    have hrk := hl.at_ k hkl
    have hL := hp.inv k hkl
    have hcn := hp.cnt k hkl
    have hN1 := cntL_pos hg.pos hL.mem
    obtain ⟨L, hLe⟩ : ∃ L, L = Ls.getD k [] := ⟨_, rfl⟩
    rw [← hLe] at hrk hL hcn hN1
    have hE : EOk (pEdges t L) (costsT t) (cntL t.vars L).toNat := (costOk_T hg).eok
    have hgl := goalsK_len t L (cntL t.vars L).toNat
    repeat (first | refine go_run ?_ | (refine go_newP ?_; clear hw; intro p w hw) | (refine go_newW ?_; clear hw; intro w hw) | (refine go_newS ?_; clear hw; intro s w hw))
    refine st_call rfl (rProject_spec (va := vget ss k) (L := L) (ht'.at hw) (hrk.at hw) hs hL hcn) ?_
    rintro _ w' ⟨cv, ev, gv, rfl, hk'⟩
    have hw2 := hw.call hk'
    clear hk' hw
    have hw : Sat w0 w' [OS tInt 3 cv (costsT t), OS tEdg 122 ev (pEdges t L), OS tBool 4 gv (goalsK t L (cntL t.vars L).toNat), RowsAt tInt 3 os Ds, OS tVal 22 ov os, Box pt 26 [a, b, c, d]] := hw2
    clear hw2
    refine ⟨_, rfl, ?_⟩
    repeat (first | refine go_run ?_ | (refine go_newP ?_; clear hw; intro p w hw) | (refine go_newW ?_; clear hw; intro w hw) | (refine go_newS ?_; clear hw; intro s w hw))
    refine st_call rfl (rDistances_spec (kv := kv) (cs := costsT t) (S := sysOk t L) (cv := cv) (ev := ev) (gv := gv) ⟨hw.rs 0 rfl, hw.rs 1 rfl, hw.rs 2 rfl⟩ (hk.at hw) (by show 0 ≤ cntL t.vars L; omega) (by show cntL t.vars L ≤ _; omega) (by show ((goalsK t L _).length : Int) = cntL t.vars L; omega) hE) ?_
    rintro _ w' ⟨hv, D', rfl, hD', hk'⟩
    replace hw := hw.call1 hk'
    clear hk'
    refine ⟨_, rfl, ?_⟩
    replace hD' : DistOk (pEdges t L) (costsT t) (GoalPK t L) (cntL t.vars L).toNat D' := hD'
    repeat (first | refine go_run ?_ | (refine go_newP ?_; clear hw; intro p w hw) | (refine go_newW ?_; clear hw; intro w hw) | (refine go_newS ?_; clear hw; intro s w hw))
    have hw2 : Sat w0 w [OS tInt 3 hv D', RowsAt tInt 3 os Ds, OS tVal 22 s (os ++ [hv]), Box pt 26 [a, b, c, d]] := hw.sel
    refine ⟨k + 1, s, os ++ [hv], Ds ++ [D'], ⟨rfl, rfl, trivial⟩, by repeat (first | exact agree_refl | (apply agree_upd rfl) | (apply agree_mix rfl) | (apply agree_sets rfl)), ⟨by omega, by simp [hDl], fun i hi => ?_, hw2.rowPush⟩, by omega⟩
    by_cases e : i = k
    · subst e
      rw [getD_app_at hDl.symm, ← hLe]
      exact hD'
    · rw [getD_app_l (by omega)]
      exact hD i (by omega)
  · have hke : k = Ls.length := by omega
    subst hke
    repeat (first | refine go_run ?_ | (refine go_newP ?_; clear hw; intro p w hw) | (refine go_newW ?_; clear hw; intro w hw) | (refine go_newS ?_; clear hw; intro s w hw))
    exact res_one (v := ov) rfl rfl ⟨ov, os, Ds, rfl, hDl, hD, hw.sel⟩
set_option maxRecDepth 8000 in
set_option maxHeartbeats 4000000 in
theorem rValue_spec {w0 : World} {a b c d s cs tv xv : Value} {vs : List OpV} {t : TTask} {ss qs ts : List Value} {Ls Cs Ds : List (List Int)} {x : List Int} (ht : RTask w0 a b c d vs t) (hl : RLs w0 s ss Ls) (hcs : RLs w0 cs qs Cs) (htv : RLs w0 tv ts Ds) (hx : RS tInt w0 xv x) (hp : PatsOk t Ls) (hDl : Ds.length = Ls.length) (hci : ∀ l ∈ Cs, ∀ i ∈ l, 0 ≤ i ∧ i < Ls.length) (hD : ∀ i, i < Ls.length → DistOk (pEdges t (Ls.getD i [])) (costsT t) (GoalPK t (Ls.getD i [])) (cntL t.vars (Ls.getD i [])).toNat (Ds.getD i [])) (hok : StateOk t.vars x) :
    Calls Tryz.prog 21 #[.agg #[a, b, c, d], s, cs, tv, xv] w0 fun e w' => e = .returned (.int .i64 (canV t Ls Ds Cs x)) ∧ Sat w0 w' [] := by
  have ht' := ht
  have hlr := hl.rs
  have hln := hl.len
  have hcr := hcs.rs
  have hcl := hcs.len
  have hcb := hcr.big
  have htr := htv.rs
  have htl := htv.len
  have hl32 := hp.len
  have hg := hp.small.good
  have e2 : inf = 1125899906842624 := rfl
  have hvr : ∀ k, k < Ls.length → 0 ≤ (valK t Ls Ds x) k ∧ (valK t Ls Ds x) k ≤ 1125899906842624 := fun k hk => dist_at (hp.inv k hk) (hD k hk) hok
  have hw := Sat.start w0
  refine calls_of_vc (args := [.agg #[a, b, c, d], s, cs, tv, xv]) mixed Tryz.func21 rfl (by kernel_rfl) (Nat.le_of_ble_eq_true rfl) ?_
  repeat (first | refine go_run ?_ | (refine go_newP ?_; clear hw; intro p w hw) | (refine go_newW ?_; clear hw; intro w hw) | (refine go_newS ?_; clear hw; intro s w hw))
  obtain ⟨pt, hpt⟩ : ∃ pt, pt = p := ⟨p, rfl⟩
  subst hpt
  refine vc_loop2 [11, 13, 14, 16, 19, 20, 21, 22, 23, 24, 25, 26, 27, 28, 29, 30, 31, 32, 33, 34, 35, 36, 37, 38, 39, 40, 41, 42, 43, 44, 45, 46, 47, 48, 49] (G := Nat) (H := Int) (fun k z => [(19, .int .i64 k), (11, .int .i64 z)]) (fun k z w => k ≤ Cs.length ∧ z = bestL (valK t Ls Ds x) (Cs.take k) ∧ Sat w0 w [Box pt 26 [a, b, c, d]]) (fun k _ => Cs.length - k) 0 0 (fun _ _ => rfl) ⟨rfl, rfl, trivial⟩ ⟨Nat.zero_le _, rfl, hw⟩ ?_
  clear hw
  rintro σ k z w ⟨hk, hb, hw⟩
  repeat (first | refine go_run ?_ | (refine go_newP ?_; clear hw; intro p w hw) | (refine go_newW ?_; clear hw; intro w hw) | (refine go_newS ?_; clear hw; intro s w hw))
  refine go_if (fun h8 => ?_) (fun h8 => ?_)
  · have hkl : k < Cs.length := by omega
    have hrk := hcs.at_ k hkl
    obtain ⟨C, hC⟩ : ∃ C, C = Cs.getD k [] := ⟨_, rfl⟩
    have hCm : C ∈ Cs := by rw [hC]; exact mem_getD [] hkl
    rw [← hC] at hrk
    have hCb := hrk.big
    repeat (first | refine go_run ?_ | (refine go_newP ?_; clear hw; intro p w hw) | (refine go_newW ?_; clear hw; intro w hw) | (refine go_newS ?_; clear hw; intro s w hw))
    refine vc_loop2 [14, 16, 25, 26, 27, 28, 29, 30, 31, 32, 33, 34, 35, 36, 37, 38, 39, 40, 41, 42, 43, 44, 45] (G := Nat) (H := Int) (fun j x => [(25, .int .i64 j), (14, .int .i64 x)]) (fun j y w => j ≤ C.length ∧ y = capL (valK t Ls Ds x) (C.take j) ∧ Sat w0 w [Box pt 26 [a, b, c, d]]) (fun j _ => C.length - j) 0 0 (fun _ _ => rfl) ⟨rfl, rfl, trivial⟩ ⟨Nat.zero_le _, rfl, hw⟩ ?_
    clear hw
    rintro σ1 j y w ⟨hj, hy, hw⟩
    repeat (first | refine go_run ?_ | (refine go_newP ?_; clear hw; intro p w hw) | (refine go_newW ?_; clear hw; intro w hw) | (refine go_newS ?_; clear hw; intro s w hw))
    refine go_if (fun h9 => ?_) (fun h9 => ?_)
    · have hjl : j < C.length := by omega
      have hci' := hci C hCm _ (mem_getD tInt.dflt hjl)
      obtain ⟨i, hi⟩ : ∃ i : Nat, C.getD j tInt.dflt = i := ⟨(C.getD j tInt.dflt).toNat, by omega⟩
      have hil : i < Ls.length := by omega
      have hfb := hvr i hil
      have hL := hp.inv i hil
      have hcn := hp.cnt i hil
      have hri := hl.at_ i hil
      have hti := htv.at_ i (by omega)
      have hDi := (hD i hil).len
      have hib := idxL_bound hok hL.mem
      have hxr := capL_rng (f := (valK t Ls Ds x)) (l := C.take j) fun i hi => (hvr i.toNat (by have := hci C hCm i (List.mem_of_mem_take hi); omega)).1
      repeat (first | refine go_run ?_ | (refine go_newP ?_; clear hw; intro p w hw) | (refine go_newWr ?_; clear hw; intro w hw) | (refine go_newS ?_; clear hw; intro s w hw))
      rw [hi]
      refine vc_plan [.op 0, .op 1, .op 2, .op 3, .op 4, .op 5, .op 6, .op 7, .op 8, .op 9, .op 10, .op 11, .chk 4, .op 12, .op 13, .op 14, .op 15, .op 16] hw (by kernel_rfl) ?_; clear hw; intro w hw
      repeat (first | refine go_run ?_ | (refine go_newP ?_; clear hw; intro p w hw) | (refine go_newWr ?_; clear hw; intro w hw) | (refine go_newS ?_; clear hw; intro s w hw))
      refine st_call rfl (rIndex_spec (va := vget ss i) (s := x) (ht'.at hw) (hri.at hw) (hx.at hw) hg hL.mem hok (by omega)) ?_
      rintro _ w' ⟨rfl, hk'⟩
      replace hw := hw.call0 hk'
      clear hk'
      refine ⟨_, rfl, ?_⟩
      have hfc : 0 ≤ (Ds.getD i []).getD (idxL t.vars (Ls.getD i []) x).toNat tInt.dflt ∧ (Ds.getD i []).getD (idxL t.vars (Ls.getD i []) x).toNat tInt.dflt ≤ 1125899906842624 := hfb
      repeat (first | refine go_run ?_ | (refine go_newP ?_; clear hw; intro p w hw) | (refine go_newWr ?_; clear hw; intro w hw) | (refine go_newS ?_; clear hw; intro s w hw))
      refine ⟨j + 1, _, ⟨rfl, rfl, trivial⟩, by repeat (first | exact agree_refl | (apply agree_upd rfl) | (apply agree_mix rfl) | (apply agree_sets rfl)), ⟨by omega, ?_, hw⟩, by omega⟩
      have hfe : (valK t Ls Ds x) i = (Ds.getD i []).getD (idxL t.vars (Ls.getD i []) x).toNat tInt.dflt := rfl
      rw [take_snoc tInt.dflt hjl, capL_snoc, hi, Int.toNat_natCast, hfe, hy]
      split <;> omega
    have hje : j = C.length := by omega
    subst hje
    repeat (first | refine go_run ?_ | (refine go_newP ?_; clear hw; intro p w hw) | (refine go_newW ?_; clear hw; intro w hw) | (refine go_newS ?_; clear hw; intro s w hw))
    refine ⟨k + 1, _, ⟨rfl, rfl, trivial⟩, by repeat (first | exact agree_refl | (apply agree_upd rfl) | (apply agree_mix rfl) | (apply agree_sets rfl)), ⟨by omega, ?_, hw⟩, by omega⟩
    rw [take_snoc [] hkl, bestL_snoc, hb, hy, ← hC, List.take_length]
    split <;> omega
  have hke : k = Cs.length := by omega
  subst hke
  rw [List.take_length] at hb
  repeat (first | refine go_run ?_ | (refine go_newP ?_; clear hw; intro p w hw) | (refine go_newW ?_; clear hw; intro w hw) | (refine go_newS ?_; clear hw; intro s w hw))
  exact res_one (v := .int .i64 z) rfl rfl ⟨by rw [hb]; rfl, sat_none hw⟩
end Go.Proofs.YtemnlcnjpjdoaaaGreatDoor
