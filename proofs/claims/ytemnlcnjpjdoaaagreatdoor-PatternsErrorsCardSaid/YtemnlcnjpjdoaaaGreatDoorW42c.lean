
/-
  'awake' of layer 42.
-/
import Derived.Test.YtemnlcnjpjdoaaaGreatDoorW42b
set_option linter.unusedSimpArgs false
set_option linter.unusedVariables false
namespace Go.Proofs.YtemnlcnjpjdoaaaGreatDoor
open Go.Sl Go
attribute [local irreducible] vc opsW opsD opV opW PureV ReadV Thn Blk
theorem exI : Ind (indT 3 (fun _ => 2) fun v => [⟨(v : Int), 0⟩]) := indT_ok (by decide) (fun v _ => ⟨by decide, by decide⟩) fun v _ => .inr rfl
theorem exV {Ds Cs : List (List Int)} (hC : CanOk (indT 3 (fun _ => 2) fun v => [⟨(v : Int), 0⟩]) (singles 3) Ds Cs) {s : List Int} {x : Int} (hs : StateOk (indT 3 (fun _ => 2) fun v => [⟨(v : Int), 0⟩]).vars s) (hx : sumV (fun (v : Nat) => if sg s (v : Int) = 0 then 2 else 0) 3 = x) : canW (indT 3 (fun _ => 2) fun v => [⟨(v : Int), 0⟩]) (singles 3) Ds Cs s = x := by
  rw [canW_ok hs, indT_val exI hC hs, hx]
/-- What 'awake' needs of the example. -/
structure ExT (T : TTask) : Prop where
  good : GoodT T
  len : T.vars.length ≤ 12
  sys : sysL T (clip3 2) = singles 3
  pats : PatsOk T (singles 3)
  v0 : ∀ Ds Cs, CanOk T (singles 3) Ds Cs → canW T (singles 3) Ds Cs [0, 0, 0] = 6
  v1 : ∀ Ds Cs, CanOk T (singles 3) Ds Cs → canW T (singles 3) Ds Cs [1, 0, 1] = 2
theorem ex42T : ExT (indT 3 (fun _ => 2) fun v => [⟨(v : Int), 0⟩]) where
  good := exI.good
  len := by simp [indT]
  sys := indT_sys exI 2
  pats := indT_pats exI (by decide)
  v0 := fun Ds Cs hC => exV hC (exI.state rfl (fun v hv => by
    have : v = 0 ∨ v = 1 ∨ v = 2 := by simp at hv; omega
    rcases this with rfl | rfl | rfl <;> decide)) (by decide)
  v1 := fun Ds Cs hC => exV hC (exI.state rfl (fun v hv => by
    have : v = 0 ∨ v = 1 ∨ v = 2 := by simp at hv; omega
    rcases this with rfl | rfl | rfl <;> decide)) (by decide)
set_option maxRecDepth 8000 in
set_option maxHeartbeats 1000000 in
theorem awake42_spec {w0 : World} (hT : TabB w0) : Calls Tryz.prog 10 #[] w0 fun e w' => e = .returned (.bool true) ∧ Sat w0 w' [] := by
  have hw := Sat.start w0
  refine calls_of_vc (args := []) mixed Tryz.func10 rfl (by kernel_rfl) (Nat.le_of_ble_eq_true rfl) ?_
  repeat (first | refine go_run ?_ | (refine go_newP ?_; clear hw; intro p w hw) | (refine go_newW ?_; clear hw; intro w hw) | (refine go_newS ?_; clear hw; intro s w hw))
  refine st_call rfl example42_spec ?_
  rintro _ w' ⟨a, b, c, d, vs, rfl, ht, hk'⟩
  replace hw := hw.call0 hk'
  clear hk'
  refine ⟨_, rfl, ?_⟩
  have hT1 := hT.at hw
  have hw1 := hw
  clear hw
  have hw := Sat.start w'
  have hX := ex42T
  generalize (indT 3 (fun _ => 2) fun v => [⟨(v : Int), 0⟩]) = T at ht hX
  have ht' := ht
  obtain ⟨ha, hb, hc, hd⟩ := ht'
  have hdr := hd.rs
  have o1 := ha.one
  have o2 := hb.one
  have o3 := hc.one
  have o4 := hdr.one
  repeat (first | refine go_run ?_ | (refine go_newP ?_; clear hw; intro p w hw) | (refine go_newW ?_; clear hw; intro w hw) | (refine go_newS ?_; clear hw; intro s w hw))
  refine st_boxAgg (n := 4) (p := p) (vs := [a, b, c, d]) rfl rfl hw inferInstance rfl rfl (by simp only [List.all_cons, List.all_nil, o1, o2, o3, o4]; rfl) ?_
  clear hw
  intro w hw
  repeat (first | refine go_run ?_ | (refine go_newP ?_; clear hw; intro p w hw) | (refine go_newW ?_; clear hw; intro w hw) | (refine go_newS ?_; clear hw; intro s w hw))
  refine st_call rfl (Systematic_spec (size := 2) (ht.at hw) hX.good hX.len) ?_
  rintro _ w' ⟨lv, ls, rfl, hk'⟩
  replace hw := hw.call2 hk'
  clear hk'
  rw [hX.sys] at hw
  refine ⟨_, rfl, ?_⟩
  repeat (first | refine go_run ?_ | (refine go_newP ?_; clear hw; intro p w hw) | (refine go_newW ?_; clear hw; intro w hw) | (refine go_newS ?_; clear hw; intro s w hw))
  refine st_call rfl (paNew_ok (s := lv) (ss := ls) (Ls := singles 3) (ht.at hw) ⟨hw.rs 1 rfl, hw.rowsLen, fun i hi => hw.row hi⟩ (hT1.at hw) hX.pats) ?_
  rintro _ w' ⟨pc, Ds, Cs, rfl, hC, hk'⟩
  replace hw := hw.call1 hk'
  clear hk'
  refine ⟨_, rfl, ?_⟩
  have hsl := hw.tail.rowsLen
  rw [singles_len] at hsl
  have hr2 := hw.tail.row (i := 2) (by rw [singles_len]; decide)
  have hd2 : decide ((ls.length : Int) = 3) = true := decide_eq_true (by omega)
  repeat (first | refine go_run ?_ | (refine go_newP ?_; clear hw; intro p w hw) | (refine go_newW ?_; clear hw; intro w hw) | (refine go_newS ?_; clear hw; intro s w hw))
  simp only [hd2, gvtt]
  repeat (first | refine go_run ?_ | (refine go_newP ?_; clear hw; intro p w hw) | (refine go_newWr ?_; clear hw; intro w hw) | (refine go_newS ?_; clear hw; intro s w hw))
  obtain ⟨u1, hu1⟩ : ∃ u1, u1 = s := ⟨s, rfl⟩
  subst hu1
  refine st_call rfl (Ints_spec (a := vget ls 2) (b := u1) (xs := [2]) ((hw.focus 2 rfl).row (i := 2) (by rw [singles_len]; decide)) (rsO hw)) ?_
  rintro _ w' ⟨⟨r, rfl, hr⟩, hk'⟩
  replace hw := hw.call0 hk'
  clear hk'
  obtain rfl : r = true := hr.2 rfl
  clear hr
  refine ⟨_, rfl, ?_⟩
  repeat (first | refine go_run ?_ | (refine go_newP ?_; clear hw; intro p w hw) | (refine go_newW ?_; clear hw; intro w hw) | (refine go_newS ?_; clear hw; intro s w hw))
  refine st_buildSlice (T := tInt) [0, 0, 0] [.int .i64 0, .int .i64 0, .int .i64 0] rfl rfl rfl rfl rfl (Nat.le_of_ble_eq_true rfl) (Nat.zero_lt_succ _) (Nat.le_of_ble_eq_true rfl) hw ?_
  clear hw
  intro u3 w hw
  repeat (first | refine go_run ?_ | (refine go_newP ?_; clear hw; intro p w hw) | (refine go_newW ?_; clear hw; intro w hw) | (refine go_newS ?_; clear hw; intro s w hw))
  refine st_call rfl (CValue_ok (p := pc) (sv := u3) (s := [0, 0, 0]) (hw.rdE 2 rfl) hC (rsO hw)) ?_
  rintro _ w' ⟨rfl, hk'⟩
  replace hw := hw.call0 hk'
  clear hk'
  rw [hX.v0 _ _ hC]
  refine ⟨_, rfl, ?_⟩
  repeat (first | refine go_run ?_ | (refine go_newP ?_; clear hw; intro p w hw) | (refine go_newW ?_; clear hw; intro w hw) | (refine go_newS ?_; clear hw; intro s w hw))
  refine st_buildSlice (T := tInt) [1, 0, 1] [.int .i64 1, .int .i64 0, .int .i64 1] rfl rfl rfl rfl rfl (Nat.le_of_ble_eq_true rfl) (Nat.zero_lt_succ _) (Nat.le_of_ble_eq_true rfl) hw ?_
  clear hw
  intro u4 w hw
  repeat (first | refine go_run ?_ | (refine go_newP ?_; clear hw; intro p w hw) | (refine go_newW ?_; clear hw; intro w hw) | (refine go_newS ?_; clear hw; intro s w hw))
  refine st_call rfl (CValue_ok (p := pc) (sv := u4) (s := [1, 0, 1]) (hw.rdE 3 rfl) hC (rsO hw)) ?_
  rintro _ w' ⟨rfl, hk'⟩
  replace hw := hw.call0 hk'
  clear hk'
  rw [hX.v1 _ _ hC]
  refine ⟨_, rfl, ?_⟩
  repeat (first | refine go_run ?_ | (refine go_newP ?_; clear hw; intro p w hw) | (refine go_newW ?_; clear hw; intro w hw) | (refine go_newS ?_; clear hw; intro s w hw))
  replace hw := hw1.call hw
  exact res_one (v := .bool true) rfl rfl ⟨rfl, sat_none hw⟩
end Go.Proofs.YtemnlcnjpjdoaaaGreatDoor
