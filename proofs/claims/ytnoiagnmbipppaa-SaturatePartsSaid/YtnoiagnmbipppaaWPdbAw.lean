
/-
  'awake', 'fits' and 'priced' of layer 41, 'Costs' of the reference of layer 34.
-/
import Derived.Test.YtnoiagnmbipppaaWPdbEx
import Derived.Test.YtnoiagnmbipppaaTCalc
set_option linter.unusedSimpArgs false
set_option linter.unusedVariables false
namespace Go.Proofs.Ytnoiagnmbipppaa
open Go.Sl Go
attribute [local irreducible] vc opsW opsD opV opW PureV ReadV Thn Blk
instance : IntT Try.prog 27 .u16 := ⟨by kernel_rfl⟩
instance : IntT Try.prog 3 .i64 := ⟨by kernel_rfl⟩
theorem exPGood : GoodT exPT := by
  refine ⟨by decide, by decide, by decide, by decide, by decide, fun i hi => ?_⟩
  have h0 : i = 0 ∨ i = 1 ∨ i = 2 ∨ i = 3 := by simp [exPT] at hi; omega
  rcases h0 with rfl | rfl | rfl | rfl
  all_goals
    refine ⟨by decide, by decide, by decide, ⟨Nat.le_of_ble_eq_true rfl, fun i hi => absurd hi (Nat.not_lt_zero _)⟩, by decide, fun j hj => ?_⟩
    have h1 : j = 0 := by simp [exPT, exOp, exOpL] at hj; omega
    subst h1
    exact ⟨by decide, by decide⟩
theorem exPE : edgesC exPT [0] = [⟨0, 0, 1⟩, ⟨0, 3, 1⟩, ⟨1, 1, 2⟩, ⟨2, 2, 3⟩] := by decide +kernel
theorem exPG : goalsC exPT [0] = [false, false, false, true] := by decide +kernel
theorem exPP : pErr exPT [0] = 0 := by
  rw [pErr_ok (chkP_zero.2 ⟨exPGood, by decide⟩), pErr0, if_neg (by decide +kernel), if_neg (noBig exPGood.pos (by decide +kernel)), if_neg (by rw [pEdges_calc, exPE]; decide)]
theorem exPB : bErr exPT [0] [] = 0 := by
  unfold bErr
  rw [if_neg (by rw [(good_iff _).2 exPGood]; decide), if_neg (by decide), if_neg (fun ⟨x, hx, _⟩ => by simp at hx), exPP]
theorem exPD {D : List Int} (h : DistOk (pEdges exPT [0]) (csU exPT []) (GoalPK exPT [0]) (cntL exPT.vars [0]).toNat D) : D = [6, 4, 2, 0] :=
  dist_calc (r := [3, 2, 1, 0]) (n := 4) (by decide +kernel) exPE exPG (by decide +kernel) (by decide +kernel) h

set_option maxRecDepth 8000 in
set_option maxHeartbeats 1000000 in
theorem pawake_spec {w0 : World} : Calls Try.prog 13 #[] w0 fun e w' => e = .returned (.bool true) ∧ Sat w0 w' [] := by
  have hw := Sat.start w0
  refine calls_of_vc (args := []) mixed Try.func13 rfl (by kernel_rfl) (Nat.le_of_ble_eq_true rfl) ?_
  repeat (first | refine go_run ?_ | (refine go_newP ?_; clear hw; intro p w hw) | (refine go_newW ?_; clear hw; intro w hw) | (refine go_newS ?_; clear hw; intro s w hw))
  refine st_call rfl pexample_spec ?_
  rintro _ w' ⟨a, b, c, d, vs, rfl, ht, hk'⟩
  replace hw := hw.call0 hk'
  clear hk'
  refine ⟨_, rfl, ?_⟩
  have hw1 := hw
  clear hw
  have hw := Sat.start w'
  repeat (first | refine go_run ?_ | (refine go_newP ?_; clear hw; intro p w hw) | (refine go_newW ?_; clear hw; intro w hw) | (refine go_newS ?_; clear hw; intro s w hw))
  refine st_call rfl (Build_spec (kv := .slice none 0 0) (vp := s) (L := [0]) (cs := []) (ht.at hw) (rsO hw) RS.nil) ?_
  rintro _ w2 (⟨h1, _⟩ | ⟨h1, h2, h3, h4, p, D, rfl, hD, hk'⟩)
  · exact absurd exPB h1
  obtain rfl := exPD hD
  clear hD h1 h2 h3 h4
  refine ⟨_, rfl, ?_⟩
  have hdb : DbOk (dbI exPT [0] [6, 4, 2, 0]) := dbI_ok (cs := csU exPT []) exPP (by
    have hc : (csU exPT []).length = exPT.ops.length ∧ ∀ x ∈ csU exPT [], 0 ≤ x ∧ x ≤ 1099511627776 := by decide +kernel
    have hE := eok_P (L := [0]) hc
    rw [show (cntL exPT.vars [0]).toNat = 4 by decide +kernel] at hE ⊢
    rw [pEdges_calc, exPE] at hE ⊢
    have := distC_ok (gs := [false, false, false, true]) (D := [6, 4, 2, 0]) (r := [3, 2, 1, 0]) hE (by decide +kernel)
    have e : GoalPK exPT [0] = fun i => ([false, false, false, true] : List Bool).getD i.toNat false = true := by
      funext i
      unfold GoalPK
      rw [goalsK_calc, exPG]
      rfl
    rw [e]; exact this)
  replace hw := hw1.call (hw.call hk')
  simp only [List.append_nil, List.cons_append, List.nil_append] at hw
  clear hk' hw1 ht
  repeat (first | refine go_run ?_ | (refine go_newP ?_; clear hw; intro p w hw) | (refine go_newW ?_; clear hw; intro w hw) | (refine go_newS ?_; clear hw; intro s w hw))
  refine st_call rfl (Table_spec (rdbO hw) hdb) ?_
  rintro _ w' ⟨s1, rfl, hk'⟩
  replace hw := hw.call1 hk'
  clear hk'
  refine ⟨_, rfl, ?_⟩
  repeat (first | refine go_run ?_ | (refine go_newP ?_; clear hw; intro p w hw) | (refine go_newW ?_; clear hw; intro w hw) | (refine go_newS ?_; clear hw; intro s w hw))
  refine st_buildSlice (T := tInt) [6, 4, 2, 0] [.int .i64 6, .int .i64 4, .int .i64 2, .int .i64 0] rfl rfl rfl rfl rfl (Nat.le_of_ble_eq_true rfl) (Nat.zero_lt_succ _) (Nat.le_of_ble_eq_true rfl) hw ?_
  clear hw
  intro s2 w hw
  repeat (first | refine go_run ?_ | (refine go_newP ?_; clear hw; intro p w hw) | (refine go_newW ?_; clear hw; intro w hw) | (refine go_newS ?_; clear hw; intro s w hw))
  refine st_call rfl (Ints_spec (a := s1) (b := s2) (rsO hw) (rsO hw)) ?_
  rintro _ w' ⟨⟨r, rfl, hr⟩, hk'⟩
  replace hw := hw.call0 hk'
  clear hk'
  obtain rfl : r = true := hr.2 rfl
  clear hr
  refine ⟨_, rfl, ?_⟩
  repeat (first | refine go_run ?_ | (refine go_newP ?_; clear hw; intro p w hw) | (refine go_newW ?_; clear hw; intro w hw) | (refine go_newS ?_; clear hw; intro s w hw))
  refine st_call rfl (Saturated_spec (rdbO hw) hdb) ?_
  rintro _ w' ⟨s3, rfl, hk'⟩
  replace hw := hw.call1 hk'
  clear hk'
  refine ⟨_, rfl, ?_⟩
  have hsat : satL (dbI exPT [0] [6, 4, 2, 0]).sys.edges (dbI exPT [0] [6, 4, 2, 0]).tab (dbI exPT [0] [6, 4, 2, 0]).sys.costs.length = [2, 2, 2, 2] := by
    show satL (pEdges exPT [0]) [6, 4, 2, 0] 4 = [2, 2, 2, 2]
    rw [pEdges_calc, exPE]
    decide +kernel
  rw [hsat] at hw
  repeat (first | refine go_run ?_ | (refine go_newP ?_; clear hw; intro p w hw) | (refine go_newW ?_; clear hw; intro w hw) | (refine go_newS ?_; clear hw; intro s w hw))
  refine st_buildSlice (T := tInt) [2, 2, 2, 2] [.int .i64 2, .int .i64 2, .int .i64 2, .int .i64 2] rfl rfl rfl rfl rfl (Nat.le_of_ble_eq_true rfl) (Nat.zero_lt_succ _) (Nat.le_of_ble_eq_true rfl) hw ?_
  clear hw
  intro s4 w hw
  repeat (first | refine go_run ?_ | (refine go_newP ?_; clear hw; intro p w hw) | (refine go_newW ?_; clear hw; intro w hw) | (refine go_newS ?_; clear hw; intro s w hw))
  refine st_call rfl (Ints_spec (a := s3) (b := s4) (rsO hw) (rsO hw)) ?_
  rintro _ w' ⟨⟨r, rfl, hr⟩, hk'⟩
  replace hw := hw.call0 hk'
  clear hk'
  obtain rfl : r = true := hr.2 rfl
  clear hr
  refine ⟨_, rfl, ?_⟩
  repeat (first | refine go_run ?_ | (refine go_newP ?_; clear hw; intro p w hw) | (refine go_newW ?_; clear hw; intro w hw) | (refine go_newS ?_; clear hw; intro s w hw))
  refine st_call rfl (Value_spec (sv := s) (s := [1]) (rdbO hw) hdb (rsO hw)) ?_
  rintro _ w' ⟨rfl, hk'⟩
  replace hw := hw.call0 hk'
  clear hk'
  refine ⟨_, rfl, ?_⟩
  have hv : valD (dbI exPT [0] [6, 4, 2, 0]) [1] = 4 := by
    rw [valD_ok (show StateOk [4] [1] by decide)]
    decide +kernel
  rw [hv]
  repeat (first | refine go_run ?_ | (refine go_newP ?_; clear hw; intro p w hw) | (refine go_newW ?_; clear hw; intro w hw) | (refine go_newS ?_; clear hw; intro s w hw))
  exact res_one (v := .bool true) rfl rfl ⟨rfl, hw.sel⟩

set_option maxRecDepth 8000 in
theorem fits_spec {w0 : World} {a b c d : Value} {vs : List OpV} {t : TTask} {bits : Int} (ht : RTask w0 a b c d vs t) :
    Calls Try.prog 12 #[.agg #[a, b, c, d], .int .u16 bits] w0 fun e w' => (∃ r, e = .returned (.bool r) ∧ (r = true ↔ SmallT t ∧ cntL t.vars (chosenK bits t.vars.length) ≤ 64)) ∧ Sat w0 w' [] := by
  have hw := Sat.start w0
  refine calls_of_vc (args := [.agg #[a, b, c, d], .int .u16 bits]) mixed Try.func12 rfl (by kernel_rfl) (Nat.le_of_ble_eq_true rfl) ?_
  repeat (first | refine go_run ?_ | (refine go_newP ?_; clear hw; intro p w hw) | (refine go_newWr ?_; clear hw; intro w hw) | (refine go_newS ?_; clear hw; intro s w hw))
  refine vc_plan [.op 0, .op 1, .op 2, .op 3, .op 4, .op 5, .op 6, .chk 3, .op 7, .op 8, .op 9, .op 10] hw (by kernel_rfl) ?_; clear hw; intro w hw
  repeat (first | refine go_run ?_ | (refine go_newP ?_; clear hw; intro p w hw) | (refine go_newWr ?_; clear hw; intro w hw) | (refine go_newS ?_; clear hw; intro s w hw))
  refine st_call rfl (Small_spec (ht.at hw)) ?_
  rintro _ w' ⟨⟨r, rfl, hr⟩, hk'⟩
  replace hw := hw.call0 hk'
  clear hk'
  refine ⟨_, rfl, ?_⟩
  cases r
  · repeat (first | refine go_run ?_ | (refine go_newP ?_; clear hw; intro p w hw) | (refine go_newWr ?_; clear hw; intro w hw) | (refine go_newS ?_; clear hw; intro s w hw))
    exact res_one (v := .bool false) rfl rfl ⟨⟨false, rfl, iffF fun h => by have := hr.2 h.1; cases this⟩, hw.sel⟩
  have hs := hr.1 rfl
  have hg := hs.good
  have hV := hs.vars
  have hM := hs.many
  have hL := chosen_inV t.vars bits
  have hB : cntL t.vars (chosenK bits t.vars.length) ≤ 1099511627776 := by have h1 := cntL_le hs.good.pos hL; omega
  repeat (first | refine go_run ?_ | (refine go_newP ?_; clear hw; intro p w hw) | (refine go_newWr ?_; clear hw; intro w hw) | (refine go_newS ?_; clear hw; intro s w hw))
  refine st_call rfl (chosen_spec (ht.at hw) (by omega)) ?_
  rintro _ w' ⟨s0, rfl, hk'⟩
  replace hw := hw.call1 hk'
  clear hk'
  refine ⟨_, rfl, ?_⟩
  repeat (first | refine go_run ?_ | (refine go_newP ?_; clear hw; intro p w hw) | (refine go_newWr ?_; clear hw; intro w hw) | (refine go_newS ?_; clear hw; intro s w hw))
  refine st_call rfl (rMany_spec (va := s0) (ht.at hw) (rsO hw) hg.pos hL.mem hB) ?_
  rintro _ w' ⟨rfl, hk'⟩
  replace hw := hw.call0 hk'
  clear hk'
  refine ⟨_, rfl, ?_⟩
  repeat (first | refine go_run ?_ | (refine go_newP ?_; clear hw; intro p w hw) | (refine go_newWr ?_; clear hw; intro w hw) | (refine go_newS ?_; clear hw; intro s w hw))
  exact res_one (v := .bool (decide (cntL t.vars (chosenK bits t.vars.length) ≤ 64))) rfl rfl ⟨⟨_, rfl, by rw [decide_eq_true_eq]; exact ⟨fun h => ⟨hs, h⟩, fun h => h.2⟩⟩, hw.sel⟩

set_option maxRecDepth 8000 in
theorem rCosts_spec {w0 : World} {a b c d : Value} {vs : List OpV} {t : TTask} (ht : RTask w0 a b c d vs t) (hol : t.ops.length ≤ 4096) :
    Calls Try.prog 35 #[.agg #[a, b, c, d]] w0 fun e w' => ∃ s, e = .returned s ∧ Sat w0 w' [OS tInt 3 s (costsT t)] := by
  obtain ⟨ha, hb, hc, hd⟩ := ht
  have hrs := hd.rs
  have hdl := hd.len
  have hcl : (costsT t).length = t.ops.length := by simp [costsT]
  have hw := Sat.start w0
  refine calls_of_vc (args := [.agg #[a, b, c, d]]) mixed Try.func35 rfl (by kernel_rfl) (Nat.le_of_ble_eq_true rfl) ?_
  repeat (first | refine go_run ?_ | (refine go_newP ?_; clear hw; intro p w hw) | (refine go_newW ?_; clear hw; intro w hw) | (refine go_newS ?_; clear hw; intro s w hw))
  obtain ⟨pt, hpt⟩ : ∃ pt, pt = p := ⟨p, rfl⟩
  subst hpt
  have hw := hw.nil (T := tInt) (e := 3)
  refine vc_loop2 [3, 5, 9, 10, 11, 12, 13, 14, 15, 16, 17, 18] (G := Nat) (H := Value) (fun k sv => [(9, .int .i64 k), (3, sv)]) (fun k sv w => k ≤ t.ops.length ∧ Sat w0 w [OS tInt 3 sv ((costsT t).take k), Box pt 26 [a, b, c, d]]) (fun k _ => t.ops.length - k) 0 (.slice none 0 0) (fun _ _ => rfl) ⟨rfl, rfl, trivial⟩ ⟨Nat.zero_le _, hw⟩ ?_
  clear hw
  rintro σ k sv w ⟨hk, hw⟩
  have htl : ((costsT t).take k).length = k := by simp; omega
  repeat (first | refine go_run ?_ | (refine go_newP ?_; clear hw; intro p w hw) | (refine go_newW ?_; clear hw; intro w hw) | (refine go_newS ?_; clear hw; intro s w hw))
  refine go_if (fun h1 => ?_) (fun h1 => ?_)
  · have hkl : k < t.ops.length := by omega
    have hop := hd.at_ k hkl
    have hone := hop.one
    have hco := hop.cost
    repeat (first | refine go_run ?_ | (refine go_newP ?_; clear hw; intro p w hw) | (refine go_newW ?_; clear hw; intro w hw) | (refine go_newS ?_; clear hw; intro s w hw))
    have hcs : (costsT t).take k ++ [(eget tOp vs k).cost] = (costsT t).take (k + 1) := by
      rw [take_snoc tInt.dflt (show k < (costsT t).length by omega), costsT_at hkl, hco]
    rw [hcs] at hw
    exact ⟨k + 1, s, ⟨rfl, rfl, trivial⟩, by repeat (first | exact agree_refl | (apply agree_upd rfl) | (apply agree_mix rfl) | (apply agree_sets rfl)), ⟨by omega, hw.sel⟩, by omega⟩
  · repeat (first | refine go_run ?_ | (refine go_newP ?_; clear hw; intro p w hw) | (refine go_newW ?_; clear hw; intro w hw) | (refine go_newS ?_; clear hw; intro s w hw))
    rw [List.take_of_length_le (by omega)] at hw
    exact res_one (v := sv) rfl rfl ⟨sv, rfl, hw.sel⟩

theorem bErr_zero {t : TTask} {L cs : List Int} (hg : GoodT t) (h : ¬ (0 < cs.length ∧ cs.length ≠ t.ops.length) ∧ ¬ ∃ x ∈ cs, BadC x) (hp : pErr t L = 0) : bErr t L cs = 0 := by
  unfold bErr
  rw [if_neg (by rw [(good_iff t).2 hg]; decide), if_neg h.1, if_neg h.2, hp]
/-- The costs that a statement takes. -/
def pricedL (t : TTask) (xs : List Int) : List Int := if xs.length < t.ops.length ∨ t.ops.length = 0 then [] else (xs.take t.ops.length).map fun x => x.tmod 100
theorem pricedL_ok {t : TTask} {xs : List Int} (_ : GoodT t) (hx : ∀ x ∈ xs, 0 ≤ x ∧ x ≤ 65535) : ¬ (0 < (pricedL t xs).length ∧ (pricedL t xs).length ≠ t.ops.length) ∧ ¬ ∃ x ∈ pricedL t xs, BadC x := by
  unfold pricedL
  split
  · exact ⟨by simp, fun ⟨x, hx, _⟩ => by simp at hx⟩
  · refine ⟨by simp; omega, ?_⟩
    rintro ⟨x, hx', hb⟩
    obtain ⟨y, hy, rfl⟩ := List.mem_map.1 hx'
    have h1 := hx y (List.mem_of_mem_take hy)
    have h2 : y.tmod 100 = y % 100 := Int.tmod_eq_emod_of_nonneg h1.1
    unfold BadC at hb
    omega
theorem pricedL_succ {xs : List Int} {k : Nat} (hk : k < xs.length) : (xs.take (k + 1)).map (fun x => x.tmod 100) = (xs.take k).map (fun x => x.tmod 100) ++ [(xs.getD k tU16.dflt).tmod 100] := by
  rw [take_snoc tU16.dflt hk, List.map_append]; rfl
end Go.Proofs.Ytnoiagnmbipppaa
