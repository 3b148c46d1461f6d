
/-
  Contracts of the reference's 'Index', 'Goals', 'Project', 'Same' and of 'project.Index'.
-/
import Derived.Test.YtemnlcnjpjdoaaaGreatDoorMW7
import Derived.Test.YtemnlcnjpjdoaaaGreatDoorMTA
import Derived.Test.YtemnlcnjpjdoaaaGreatDoorMW3
set_option linter.unusedSimpArgs false
set_option linter.unusedVariables false
namespace Go.Proofs.YtemnlcnjpjdoaaaGreatDoor
open Go.Sl Go
attribute [local irreducible] vc opsW opsD opV opW PureV ReadV Thn Blk

set_option maxRecDepth 8000 in
set_option maxHeartbeats 2000000 in
theorem rIndex_spec {w0 : World} {a b c d va sv : Value} {vs : List OpV} {t : TTask} {L s : List Int} (ht : RTask w0 a b c d vs t) (hp : RS tInt w0 va L) (hs : RS tInt w0 sv s) (hg : GoodT t) (hL : ∀ v ∈ L, 0 ≤ v ∧ v < t.vars.length) (hok : StateOk t.vars s) (hB : cntL t.vars L ≤ 1099511627776) :
    Calls Tryz.prog 48 #[.agg #[a, b, c, d], va, sv] w0 fun e w' => e = .returned (.int .i64 (idxL t.vars L s)) ∧ Sat w0 w' [] := by
  obtain ⟨ha, hb, hc, hd⟩ := ht
  have hla := ha.big
  have hlp := hp.big
  have hls := hok.1
  have hw := Sat.start w0
  refine calls_of_vc (args := [.agg #[a, b, c, d], va, sv]) mixed Tryz.func48 rfl (by kernel_rfl) (Nat.le_of_ble_eq_true rfl) ?_
  repeat (first | refine go_run ?_ | (refine go_newP ?_; clear hw; intro p w hw) | (refine go_newW ?_; clear hw; intro w hw) | (refine go_newS ?_; clear hw; intro s w hw))
  obtain ⟨pt, hpt⟩ : ∃ pt, pt = p := ⟨p, rfl⟩
  subst hpt
  refine vc_loop2 [7, 9, 12, 13, 14, 15, 16, 17, 18, 19, 20, 21, 22, 23, 24, 25, 26, 27, 28] (G := Nat) (H := Int) (fun k n => [(12, .int .i64 k), (7, .int .i64 n)]) (fun k n w => k ≤ L.length ∧ n = idxL t.vars (L.take k) s ∧ Sat w0 w [Box pt 26 [a, b, c, d]]) (fun k _ => L.length - k) 0 0 (fun _ _ => rfl) ⟨rfl, rfl, trivial⟩ ⟨Nat.zero_le _, rfl, hw⟩ ?_
  clear hw
  rintro σ k n w ⟨hk, hn, hw⟩
  repeat (first | refine go_run ?_ | (refine go_newP ?_; clear hw; intro p w hw) | (refine go_newW ?_; clear hw; intro w hw) | (refine go_newS ?_; clear hw; intro s w hw))
  refine go_if (fun h1 => ?_) (fun h1 => ?_)
  · have hkl : k < L.length := by omega
    have hv := hL _ (mem_getD tInt.dflt hkl)
    have hr := hok.rng hv.1 hv.2
    have hb1 := idxL_bound (p := L.take k) hok fun v hv => hL v (List.mem_of_mem_take hv)
    have hb2 := idxL_bound (p := L.take (k + 1)) hok fun v hv => hL v (List.mem_of_mem_take hv)
    have hle := cntL_take hg.pos hL (k + 1)
    have hS := idxL_takeS (vars := t.vars) (s := s) hkl
    rw [← hn] at hb1 hS
    simp only [sg] at hS hr
    have b0 : 0 ≤ n * t.vars.getD (L.getD k tInt.dflt).toNat tInt.dflt := Int.mul_nonneg (by omega) (by omega)
    repeat (first | refine go_run ?_ | (refine go_newP ?_; clear hw; intro p w hw) | (refine go_newW ?_; clear hw; intro w hw) | (refine go_newS ?_; clear hw; intro s w hw))
    exact ⟨k + 1, _, ⟨rfl, rfl, trivial⟩, by repeat (first | exact agree_refl | (apply agree_upd rfl) | (apply agree_mix rfl) | (apply agree_sets rfl)), ⟨by omega, hS.symm, hw⟩, by omega⟩
  · repeat (first | refine go_run ?_ | (refine go_newP ?_; clear hw; intro p w hw) | (refine go_newW ?_; clear hw; intro w hw) | (refine go_newS ?_; clear hw; intro s w hw))
    refine res_one (v := .int .i64 n) rfl rfl ⟨?_, hw.tail⟩
    rw [List.take_of_length_le (by omega)] at hn
    rw [hn]

theorem mem_take_succ {L : List Int} {k : Nat} (hk : k < L.length) {x : Int} : x ∈ L.take (k + 1) ↔ x ∈ L.take k ∨ x = L.getD k tInt.dflt := by
  rw [take_snoc tInt.dflt hk]; simp
theorem nodup_take {L : List Int} {k : Nat} (hk : k < L.length) (hn : L.Nodup) : L.getD k tInt.dflt ∉ L.take k := by
  rw [← List.take_append_drop k L] at hn
  intro h
  have h2 : L.getD k tInt.dflt ∈ L.drop k := by
    rw [getD_at hk, List.drop_eq_getElem_cons hk]; exact List.mem_cons_self
  exact (List.nodup_append.1 hn).2.2 _ h _ h2 rfl

set_option maxRecDepth 8000 in
set_option maxHeartbeats 2000000 in
theorem rGoals_spec {w0 : World} {a b c d va : Value} {vs : List OpV} {t : TTask} {L : List Int} (ht : RTask w0 a b c d vs t) (hp : RS tInt w0 va L) (hg : GoodT t) (hL : InV t.vars L) (hM : prodL t.vars ≤ 65536) :
    Calls Tryz.prog 68 #[.agg #[a, b, c, d], va] w0 fun e w' => ∃ s, e = .returned s ∧ Sat w0 w' [OS tBool 4 s (goalsK t L (cntL t.vars L).toNat)] := by
  have ht' := ht
  obtain ⟨ha, hb, hc, hd⟩ := ht
  have hlc := hc.big
  have hlp := hp.big
  have hB := cntL_le hg.pos hL
  have hN1 := cntL_pos hg.pos hL.mem
  have hgl := facts_len hg.goal
  have hvl := hg.vars
  have hnd := hL.nodup
  have hlen : (statesL t.vars).length ≤ 65536 := by rw [statesL_len hg.pos]; omega
  have hw := Sat.start w0
  refine calls_of_vc (args := [.agg #[a, b, c, d], va]) mixed Tryz.func68 rfl (by kernel_rfl) (Nat.le_of_ble_eq_true rfl) ?_
  repeat (first | refine go_run ?_ | (refine go_newP ?_; clear hw; intro p w hw) | (refine go_newW ?_; clear hw; intro w hw) | (refine go_newS ?_; clear hw; intro s w hw))
  obtain ⟨pt, hpt⟩ : ∃ pt, pt = p := ⟨p, rfl⟩
  subst hpt
  refine vc_loop2 [5, 7, 9, 16, 17, 18, 19, 20, 21, 22, 23, 24, 25, 26, 27, 28, 29, 30, 31, 32, 33, 34, 35] (G := Nat) (H := Value) (fun k s => [(16, .int .i64 k), (5, s)]) (fun k s w => k ≤ t.goal.length ∧ Sat w0 w [OS tFact 84 s (partL L (t.goal.take k)), Box pt 26 [a, b, c, d]]) (fun k _ => t.goal.length - k) 0 (.slice none 0 0) (fun _ _ => rfl) ⟨rfl, rfl, trivial⟩ ⟨Nat.zero_le _, hw.nil⟩ ?_
  clear hw
  rintro σ k s w ⟨hk, hw⟩
  repeat (first | refine go_run ?_ | (refine go_newP ?_; clear hw; intro p w hw) | (refine go_newW ?_; clear hw; intro w hw) | (refine go_newS ?_; clear hw; intro s w hw))
  refine go_if (fun h1 => ?_) (fun h1 => ?_)
  · have hkl : k < t.goal.length := by omega
    repeat (first | refine go_run ?_ | (refine go_newP ?_; clear hw; intro p w hw) | (refine go_newW ?_; clear hw; intro w hw) | (refine go_newS ?_; clear hw; intro s w hw))
    obtain ⟨pf, hpf⟩ : ∃ pf, pf = p := ⟨p, rfl⟩
    subst hpf
    refine vc_loop2 [5, 9, 22, 23, 24, 25, 26, 27, 28, 29, 30, 31, 32, 33, 34] (G := Nat) (H := Value) (fun j s => [(22, .int .i64 j), (5, s)]) (fun j s w => j ≤ L.length ∧ Sat w0 w [OS tFact 84 s (partL L (t.goal.take k) ++ if (t.goal.getD k tFact.dflt).var ∈ L.take j then [t.goal.getD k tFact.dflt] else []), Box pf 84 [.int .i64 (t.goal.getD k tFact.dflt).var, .int .i64 (t.goal.getD k tFact.dflt).val], Box pt 26 [a, b, c, d]]) (fun j _ => L.length - j) 0 s (fun _ _ => rfl) ⟨rfl, rfl, trivial⟩ ⟨Nat.zero_le _, by rw [List.take_zero, if_neg (by simp), List.append_nil]; exact hw.swap⟩ ?_
    clear hw
    rintro σ1 j s1 w ⟨hj, hw⟩
    repeat (first | refine go_run ?_ | (refine go_newP ?_; clear hw; intro p w hw) | (refine go_newW ?_; clear hw; intro w hw) | (refine go_newS ?_; clear hw; intro s w hw))
    refine go_if (fun h2 => ?_) (fun h2 => ?_)
    · have hjl : j < L.length := by omega
      have hml := mem_take_succ hjl (x := (t.goal.getD k tFact.dflt).var)
      have hnt := nodup_take hjl hnd
      have hpl := partL_len L (t.goal.take k)
      have hpl2 : (t.goal.take k).length ≤ 64 := by rw [List.length_take]; omega
      repeat (first | refine go_run ?_ | (refine go_newP ?_; clear hw; intro p w hw) | (refine go_newW ?_; clear hw; intro w hw) | (refine go_newS ?_; clear hw; intro s w hw))
      refine go_if (fun h3 => ?_) (fun h3 => ?_)
      · rw [if_neg (by rw [h3]; exact hnt), List.append_nil] at hw
        repeat (first | refine go_run ?_ | (refine go_newP ?_; clear hw; intro p w hw) | (refine go_newW ?_; clear hw; intro w hw) | (refine go_newS ?_; clear hw; intro s w hw))
        refine st_buildSlice1 tFact (x1 := t.goal.getD k tFact.dflt) rfl rfl rfl (Nat.le_of_ble_eq_true rfl) (Nat.zero_lt_succ _) hw ?_
        clear hw
        intro s2 w hw
        repeat (first | refine go_run ?_ | (refine go_newP ?_; clear hw; intro p w hw) | (refine go_newW ?_; clear hw; intro w hw) | (refine go_newS ?_; clear hw; intro s w hw))
        refine ⟨j + 1, _, ⟨rfl, rfl, trivial⟩, by repeat (first | exact agree_refl | (apply agree_upd rfl) | (apply agree_mix rfl) | (apply agree_sets rfl)), ⟨by omega, ?_⟩, by omega⟩
        rw [if_pos (hml.2 (.inr h3))]
        exact hw.tail
      · repeat (first | refine go_run ?_ | (refine go_newP ?_; clear hw; intro p w hw) | (refine go_newW ?_; clear hw; intro w hw) | (refine go_newS ?_; clear hw; intro s w hw))
        refine ⟨j + 1, s1, ⟨rfl, rfl, trivial⟩, by repeat (first | exact agree_refl | (apply agree_upd rfl) | (apply agree_mix rfl) | (apply agree_sets rfl)), ⟨by omega, ?_⟩, by omega⟩
        have : (t.goal.getD k tFact.dflt).var ∈ L.take (j + 1) ↔ (t.goal.getD k tFact.dflt).var ∈ L.take j := by rw [hml]; exact ⟨fun h => h.elim id fun e => absurd e h3, .inl⟩
        simp only [this]
        exact hw
    · rw [List.take_of_length_le (by omega : L.length ≤ j), ← partL_snoc, ← take_snoc tFact.dflt hkl] at hw
      repeat (first | refine go_run ?_ | (refine go_newP ?_; clear hw; intro p w hw) | (refine go_newW ?_; clear hw; intro w hw) | (refine go_newS ?_; clear hw; intro s w hw))
      exact ⟨k + 1, s1, ⟨rfl, rfl, trivial⟩, by repeat (first | exact agree_refl | (apply agree_upd rfl) | (apply agree_mix rfl) | (apply agree_sets rfl)), ⟨by omega, hw.swap.tail⟩, by omega⟩
  · have hke : k = t.goal.length := by omega
    subst hke
    rw [List.take_length] at hw
    obtain ⟨fv, hfv⟩ : ∃ fv, fv = s := ⟨s, rfl⟩
    subst hfv
    repeat (first | refine go_run ?_ | (refine go_newP ?_; clear hw; intro p w hw) | (refine go_newW ?_; clear hw; intro w hw) | (refine go_newS ?_; clear hw; intro s w hw))
    refine st_call rfl (rMany_spec (va := va) (ht'.at hw) (hp.at hw) hg.pos hL.mem (by omega)) ?_
    rintro _ w' ⟨rfl, hk'⟩
    replace hw := hw.call0 hk'
    clear hk'
    refine ⟨_, rfl, ?_⟩
    repeat (first | refine go_run ?_ | (refine go_newP ?_; clear hw; intro p w hw) | (refine go_newW ?_; clear hw; intro w hw) | (refine go_newS ?_; clear hw; intro s w hw))
    obtain ⟨ov, hov⟩ : ∃ ov, ov = s := ⟨s, rfl⟩
    subst hov
    refine st_call rfl (States_spec (ha.at hw) hg.pos hg.vars hM) ?_
    rintro _ w' ⟨sv, ss, rfl, hk'⟩
    replace hw := hw.call2 hk'
    clear hk'
    have hss := hw.rowsLen
    refine ⟨_, rfl, ?_⟩
    repeat (first | refine go_run ?_ | (refine go_newP ?_; clear hw; intro p w hw) | (refine go_newW ?_; clear hw; intro w hw) | (refine go_newS ?_; clear hw; intro s w hw))
    refine vc_loop [12, 44, 45, 46, 47, 48, 49, 50, 51, 52, 53, 54, 55, 56, 57] (G := Nat) (fun k => [(44, .int .i64 k)]) (fun k w => k ≤ (statesL t.vars).length ∧ Sat w0 w [OS tBool 4 ov (markB (cntL t.vars L).toNat fun a => ∃ i, i < k ∧ idxL t.vars L ((statesL t.vars).getD i []) = (a : Int) ∧ HoldFs ((statesL t.vars).getD i []) (partL L t.goal)), RowsAt tInt 3 ss (statesL t.vars), OS tVal 22 sv ss, OS tFact 84 fv (partL L t.goal), Box pt 26 [a, b, c, d]]) (fun k => (statesL t.vars).length - k) 0 (fun _ => rfl) ⟨rfl, trivial⟩ ⟨Nat.zero_le _, ?_⟩ ?_
    · rw [markB_none fun a _ ⟨i, hi, _⟩ => Nat.not_lt_zero _ hi]
      exact hw.focus 2 rfl
    clear hw
    rintro σ1 k w ⟨hk, hw⟩
    repeat (first | refine go_run ?_ | (refine go_newP ?_; clear hw; intro p w hw) | (refine go_newW ?_; clear hw; intro w hw) | (refine go_newS ?_; clear hw; intro s w hw))
    refine go_if (fun h2 => ?_) (fun h2 => ?_)
    · have hkl : k < (statesL t.vars).length := by omega
      have hst := statesL_at hg.pos hkl
      have hix := idxL_bound hst.1 hL.mem
      have hrow := (hw.focus 1 rfl).row hkl
      repeat (first | refine go_run ?_ | (refine go_newP ?_; clear hw; intro p w hw) | (refine go_newW ?_; clear hw; intro w hw) | (refine go_newS ?_; clear hw; intro s w hw))
      refine st_call rfl (Holds_spec (a := fv) (hw.rs 3 rfl) hrow) ?_
      rintro _ w' ⟨⟨r, rfl, hr⟩, hk'⟩
      replace hw := hw.call0 hk'
      clear hk'
      refine ⟨_, rfl, ?_⟩
      cases r with
      | false =>
        have hno : ¬ HoldFs ((statesL t.vars).getD k []) (partL L t.goal) := fun h => by have := hr.2 h; cases this
        repeat (first | refine go_run ?_ | (refine go_newP ?_; clear hw; intro p w hw) | (refine go_newW ?_; clear hw; intro w hw) | (refine go_newS ?_; clear hw; intro s w hw))
        refine ⟨k + 1, ⟨rfl, trivial⟩, by repeat (first | exact agree_refl | (apply agree_upd rfl) | (apply agree_mix rfl) | (apply agree_sets rfl)), ⟨by omega, ?_⟩, by omega⟩
        refine (congrArg (fun m => Sat w0 _ [OS tBool 4 ov m, RowsAt tInt 3 ss (statesL t.vars), OS tVal 22 sv ss, OS tFact 84 fv (partL L t.goal), Box pt 26 [a, b, c, d]]) (markB_congr fun a _ => ?_)).mp hw
        constructor
        · rintro ⟨i, hi, h⟩; exact ⟨i, by omega, h⟩
        · rintro ⟨i, hi, h⟩
          by_cases e : i = k
          · subst e; exact absurd h.2 hno
          · exact ⟨i, by omega, h⟩
      | true =>
        have hyes := hr.1 rfl
        have hrow := (hw.focus 1 rfl).row hkl
        have hml := markB_len (cntL t.vars L).toNat fun a => ∃ i, i < k ∧ idxL t.vars L ((statesL t.vars).getD i []) = (a : Int) ∧ HoldFs ((statesL t.vars).getD i []) (partL L t.goal)
        repeat (first | refine go_run ?_ | (refine go_newP ?_; clear hw; intro p w hw) | (refine go_newW ?_; clear hw; intro w hw) | (refine go_newS ?_; clear hw; intro s w hw))
        refine st_call rfl (rIndex_spec (va := va) (s := (statesL t.vars).getD k []) (ht'.at hw) (hp.at hw) hrow hg hL.mem hst.1 (by omega)) ?_
        rintro _ w' ⟨rfl, hk'⟩
        replace hw := hw.call0 hk'
        clear hk'
        refine ⟨_, rfl, ?_⟩
        repeat (first | refine go_run ?_ | (refine go_newP ?_; clear hw; intro p w hw) | (refine go_newW ?_; clear hw; intro w hw) | (refine go_newS ?_; clear hw; intro s w hw))
        refine ⟨k + 1, ⟨rfl, trivial⟩, by repeat (first | exact agree_refl | (apply agree_upd rfl) | (apply agree_mix rfl) | (apply agree_sets rfl)), ⟨by omega, ?_⟩, by omega⟩
        refine (congrArg (fun m => Sat w0 _ [OS tBool 4 ov m, RowsAt tInt 3 ss (statesL t.vars), OS tVal 22 sv ss, OS tFact 84 fv (partL L t.goal), Box pt 26 [a, b, c, d]]) (markB_set fun a _ => ?_)).mp hw
        constructor
        · rintro ⟨i, hi, h⟩
          by_cases e : i = k
          · subst e; right; omega
          · exact .inl ⟨i, by omega, h⟩
        · rintro (⟨i, hi, h⟩ | h)
          · exact ⟨i, by omega, h⟩
          · exact ⟨k, by omega, by omega, hyes⟩
    · have hke : k = (statesL t.vars).length := by omega
      subst hke
      repeat (first | refine go_run ?_ | (refine go_newP ?_; clear hw; intro p w hw) | (refine go_newW ?_; clear hw; intro w hw) | (refine go_newS ?_; clear hw; intro s w hw))
      refine res_one (v := ov) rfl rfl ⟨ov, rfl, ?_⟩
      rw [goals_mark]
      refine (congrArg (fun m => Sat w0 _ [OS tBool 4 ov m]) (markB_congr fun a _ => ?_)).mp hw.only
      constructor
      · rintro ⟨i, hi, h1, h2⟩
        exact ⟨_, (statesL_at hg.pos hi).1, h1, h2⟩
      · rintro ⟨x, hx, h1, h2⟩
        obtain ⟨r1, r2⟩ := statesL_of hg.pos hx
        exact ⟨_, r1, by rw [r2]; exact h1, by rw [r2]; exact h2⟩
end Go.Proofs.YtemnlcnjpjdoaaaGreatDoor
