
/-
  The statement 'IdastarPaths' returns true.
-/
import Derived.Test.YtgbijampdkahjaaWIAw
import Derived.Test.YtgbijampdkahjaaMTA
import Derived.Test.YtgbijampdkahjaaMSlB
set_option linter.unusedSimpArgs false
set_option linter.unusedVariables false
namespace Go.Proofs.Ytgbijampdkahjaa
open Go.Sl Go
attribute [local irreducible] vc opsW opsD opV opW PureV ReadV Thn Blk
instance : MapT Try.prog 63 3 4 := ⟨by kernel_rfl⟩
instance : ZeroV Try.prog 4 (.bool false) := ⟨by kernel_rfl⟩
/-- The keys of the map are ranks of the states so far. -/
def Keys (t : TTask) (p : List Int) (k : Nat) (kv : List (Int × Value)) : Prop := ∀ r, (mget kv r).isSome = true → ∃ i, i ≤ k ∧ r = rankL t.vars (stL t t.init (p.take i))
theorem Keys.step {t : TTask} {p : List Int} {k : Nat} {kv : List (Int × Value)} (h : Keys t p k kv) {v : Value} : Keys t p (k + 1) (mput kv (rankL t.vars (stL t t.init (p.take (k + 1)))) v) := fun r hr => by
  rw [mget_mput] at hr
  by_cases e : r = rankL t.vars (stL t t.init (p.take (k + 1)))
  · exact ⟨k + 1, Nat.le_refl _, e⟩
  · rw [if_neg e] at hr
    obtain ⟨i, h1, h2⟩ := h r hr
    exact ⟨i, by omega, h2⟩
theorem Keys.fresh {t : TTask} {p : List Int} {k : Nat} {kv : List (Int × Value)} {c : Int} (hg : GoodT t) (h : Keys t p k kv) (hP : Pln t t.init p c) (hD : Dis t [] t.init p) (hk : k < p.length) : mget kv (rankL t.vars (stL t t.init (p.take (k + 1)))) = none := by
  cases hm : mget kv (rankL t.vars (stL t t.init (p.take (k + 1)))) with
  | none => rfl
  | some v =>
    obtain ⟨i, h1, h2⟩ := h _ (by rw [hm]; rfl)
    have e := rankL_inj (stL_ok hg hP hg.init (k := k + 1) (by omega)) (stL_ok hg hP hg.init (k := i) (by omega)) h2
    exact absurd e.symm (hD.at_.2 i (k + 1) (by omega) (by omega))
set_option maxRecDepth 8000 in
set_option maxHeartbeats 8000000 in
theorem IdastarPaths_walk {w0 : World} {a b c d lv : Value} {vs : List OpV} {t : TTask} {less : List Int} (ht : RTask w0 a b c d vs t) (hl : RS tU8 w0 lv less) (hrl : ∀ x ∈ less, 0 ≤ x ∧ x ≤ 255) :
    Calls Try.prog 7 #[.agg #[a, b, c, d], lv] w0 fun e w' => e = .returned (.bool true) ∧ Sat w0 w' [] := by
  have hlb := hl.big
  have hw := Sat.start w0
  refine calls_of_vc (args := [.agg #[a, b, c, d], lv]) mixed Try.func7 rfl (by kernel_rfl) (Nat.le_of_ble_eq_true rfl) ?_
  repeat (first | refine go_run ?_ | (refine go_newP ?_; clear hw; intro p w hw) | (refine go_newWr ?_; clear hw; intro w hw) | (refine go_newS ?_; clear hw; intro s w hw))
  obtain ⟨pt, hpt⟩ : ∃ pt, pt = p := ⟨p, rfl⟩
  subst hpt
  refine st_call rfl (ifits_spec (ht.at hw)) ?_
  rintro _ w' ⟨⟨r, rfl, hr⟩, hk'⟩
  replace hw := hw.call0 hk'
  clear hk'
  refine ⟨_, rfl, ?_⟩
  cases r
  · repeat (first | refine go_run ?_ | (refine go_newP ?_; clear hw; intro p w hw) | (refine go_newWr ?_; clear hw; intro w hw) | (refine go_newS ?_; clear hw; intro s w hw))
    refine st_call rfl iawake_spec ?_
    rintro _ w' ⟨rfl, hk'⟩
    replace hw := hw.call0 hk'
    clear hk'
    refine ⟨_, rfl, ?_⟩
    repeat (first | refine go_run ?_ | (refine go_newP ?_; clear hw; intro p w hw) | (refine go_newWr ?_; clear hw; intro w hw) | (refine go_newS ?_; clear hw; intro s w hw))
    exact res_one (v := .bool true) rfl rfl ⟨rfl, sat_none hw⟩
  obtain ⟨hs, hmy⟩ := hr.1 rfl
  have hg := hs.good
  have hB := hs.many
  have hvl := hg.vars
  have hsl : (statesL t.vars).length = (prodL t.vars).toNat := statesL_len hg.pos
  have hpp := prodL_pos hg.pos
  by_cases h200 : (200 : Int) < (less.length : Int)
  · have hd : decide ((200 : Int) < (less.length : Int)) = true := decide_eq_true h200
    repeat (first | refine go_run ?_ | (refine go_newP ?_; clear hw; intro p w hw) | (refine go_newWr ?_; clear hw; intro w hw) | (refine go_newS ?_; clear hw; intro s w hw))
    simp only [hd, beq_self_eq_true, beq_tfI, beq_ftI, Bool.false_and, Bool.true_and, Bool.not_true, Bool.not_false, Bool.cond_true, Bool.cond_false, gv_fI, gv_tI]
    repeat (first | refine go_run ?_ | (refine go_newP ?_; clear hw; intro p w hw) | (refine go_newWr ?_; clear hw; intro w hw) | (refine go_newS ?_; clear hw; intro s w hw))
    refine st_call rfl iawake_spec ?_
    rintro _ w' ⟨rfl, hk'⟩
    replace hw := hw.call0 hk'
    clear hk'
    refine ⟨_, rfl, ?_⟩
    repeat (first | refine go_run ?_ | (refine go_newP ?_; clear hw; intro p w hw) | (refine go_newWr ?_; clear hw; intro w hw) | (refine go_newS ?_; clear hw; intro s w hw))
    exact res_one (v := .bool true) rfl rfl ⟨rfl, sat_none hw⟩
  have hd : decide ((200 : Int) < (less.length : Int)) = false := decide_eq_false h200
  repeat (first | refine go_run ?_ | (refine go_newP ?_; clear hw; intro p w hw) | (refine go_newWr ?_; clear hw; intro w hw) | (refine go_newS ?_; clear hw; intro s w hw))
  simp only [hd, beq_self_eq_true, beq_tfI, beq_ftI, Bool.false_and, Bool.true_and, Bool.not_true, Bool.not_false, Bool.cond_true, Bool.cond_false, gv_fI, gv_tI]
  repeat (first | refine go_run ?_ | (refine go_newP ?_; clear hw; intro p w hw) | (refine go_newWr ?_; clear hw; intro w hw) | (refine go_newS ?_; clear hw; intro s w hw))
  refine st_call rfl iawake_spec ?_
  rintro _ w' ⟨rfl, hk'⟩
  replace hw := hw.call0 hk'
  clear hk'
  refine ⟨_, rfl, ?_⟩
  replace hw : Sat w0 w' [Box pt 26 [a, b, c, d]] := hw
  repeat (first | refine go_run ?_ | (refine go_newP ?_; clear hw; intro p w hw) | (refine go_newWr ?_; clear hw; intro w hw) | (refine go_newS ?_; clear hw; intro s w hw))
  refine vc_plan [.op 0, .op 1, .op 2, .op 3, .chk 0, .op 4, .op 5, .op 6, .op 7, .op 8, .op 9] hw (by kernel_rfl) ?_; clear hw; intro w hw
  repeat (first | refine go_run ?_ | (refine go_newP ?_; clear hw; intro p w hw) | (refine go_newWr ?_; clear hw; intro w hw) | (refine go_newS ?_; clear hw; intro s w hw))
  refine st_call rfl (below_spec (ht.at hw) hg hB (hl.at hw) hrl) ?_
  rintro _ w' ⟨sv, D, rfl, hD, hk'⟩
  replace hw := hw.call1 hk'
  clear hk'
  refine ⟨_, rfl, ?_⟩
  obtain ⟨q1, q2, q3, q4⟩ := below_ok hg (by omega) hD hrl
  have htT : tErr t (belowL D less) = 0 := by
    unfold tErr
    rw [if_neg (by rw [q1]; omega), if_neg (fun ⟨x, hx, h⟩ => by have := q2 x hx; omega)]
  have hH := tab_ok hg q1 q2
  have hadm := tab_adm hg (by omega) hD q4
  repeat (first | refine go_run ?_ | (refine go_newP ?_; clear hw; intro p w hw) | (refine go_newWr ?_; clear hw; intro w hw) | (refine go_newS ?_; clear hw; intro s w hw))
  refine st_call rfl (eTable_spec (ht.at hw) hg (rsO (s := sv) hw) (by omega)) ?_
  rintro _ w' (⟨h1, _⟩ | ⟨_, pe, rfl, hk'⟩)
  · exact absurd htT h1
  replace hw := hw.call1 hk'
  clear hk'
  refine ⟨_, rfl, ?_⟩
  repeat (first | refine go_run ?_ | (refine go_newP ?_; clear hw; intro p w hw) | (refine go_newWr ?_; clear hw; intro w hw) | (refine go_newS ?_; clear hw; intro s w hw))
  refine st_call rfl (Search_spec (ev := .pointer (some pe)) (L := 20000) (ht.at hw) hH (.inr ⟨pe, rfl, hw.rdE 0 rfl⟩) (by decide)) ?_
  rintro _ w' ⟨pv, rfl, hk'⟩
  replace hw := hw.call1 hk'
  clear hk'
  refine ⟨_, rfl, ?_⟩
  have opv := (rsO (s := pv) hw).one
  obtain ⟨R, hR⟩ : ∃ R, R = runR t (tabH t (belowL D less)) (20000 : Int).toNat := ⟨_, rfl⟩
  have hRk : RunOk t (tabH t (belowL D less)) 20000 R := by rw [hR]; exact runR_ok hH (by decide)
  rw [← hR] at hw ⊢
  repeat (first | refine go_run ?_ | (refine go_newP ?_; clear hw; intro p w hw) | (refine go_newS ?_; clear hw; intro s w hw))
  obtain ⟨p7, hp7⟩ : ∃ p7, p7 = p := ⟨p, rfl⟩
  subst hp7
  refine st_boxAgg (n := 4) (p := p7) (vs := [.int .i64 (vdC R.1), pv, .int .i64 (coR t R), .int .i64 R.2.1.exp]) rfl rfl hw inferInstance rfl rfl (by simp only [List.all_cons, List.all_nil, opv]; rfl) ?_
  clear hw
  intro w hw
  have hpl := runR_path (t := t) (H := tabH t (belowL D less)) (lim := 20000) (by decide) hH
  rw [show runR t (tabH t (belowL D less)) 20000 = R from hR.symm] at hpl
  obtain ⟨q, hq⟩ : ∃ q, q = plR R := ⟨_, rfl⟩
  rw [← hq] at hw
  have hqP : q = [] ∨ ∃ c0, Pln t t.init q c0 ∧ Dis t [] t.init q := by
    cases hvd : R.1 with
    | unknown => left; rw [hq]; unfold plR; rw [hvd]
    | goOn => left; rw [hq]; unfold plR; rw [hvd]
    | solved =>
      right
      obtain ⟨c0, h1, h2, _⟩ := hRk.sol hvd
      have e : q = R.2.1.path := by rw [hq]; unfold plR; rw [hvd]
      rw [e]
      exact ⟨c0, h1, h2⟩
  have hql : q.length ≤ 1048576 := by
    rcases hqP with h | _
    · rw [h]; decide
    · rw [hq]; unfold plR
      split
      · exact hpl
      · decide
  repeat (first | refine go_run ?_ | (refine go_newP ?_; clear hw; intro p w hw) | (refine go_newWr ?_; clear hw; intro w hw) | (refine go_newS ?_; clear hw; intro s w hw))
  refine st_makeMap kInt hw ?_
  clear hw
  intro mv w hw
  repeat (first | refine go_run ?_ | (refine go_newP ?_; clear hw; intro p w hw) | (refine go_newWr ?_; clear hw; intro w hw) | (refine go_newS ?_; clear hw; intro s w hw))
  refine st_call rfl (Rank_spec (ht.vars.at hw) (ht.init.at hw) hg.init hg.pos (by omega)) ?_
  rintro _ w' ⟨rfl, hk'⟩
  replace hw := hw.call0 hk'
  clear hk'
  refine ⟨_, rfl, ?_⟩
  repeat (first | refine go_run ?_ | (refine go_newP ?_; clear hw; intro p w hw) | (refine go_newWr ?_; clear hw; intro w hw) | (refine go_newS ?_; clear hw; intro s w hw))
  refine st_insert (m := mv) (κ := kInt) (q := rankL t.vars t.init) (v := .bool true) rfl rfl rfl hw inferInstance ?_
  clear hw
  intro w hw
  have hK0 : Keys t q 0 (mput [] (rankL t.vars t.init) (.bool true)) := fun r hr => by
    rw [mget_mput] at hr
    by_cases e : r = rankL t.vars t.init
    · exact ⟨0, Nat.le_refl _, e⟩
    · rw [if_neg e] at hr; cases hr
  have hw1 : Sat w0 w (MapO kInt mv (mput [] (rankL t.vars t.init) (.bool true)) :: OS tInt 3 pv q :: Box pt 26 [a, b, c, d] :: ([] : List HP)) := hw.sel
  repeat (first | refine go_run ?_ | (refine go_newP ?_; clear hw; intro p w hw) | (refine go_newWr ?_; clear hw; intro w hw) | (refine go_newS ?_; clear hw; intro s w hw))
  refine vc_loop3 [4, 8, 11, 12, 13, 56, 57, 58, 59, 60, 61, 62, 63, 64, 65, 66, 67, 68, 69, 70, 71, 72, 73, 74, 75, 76, 77, 78, 79, 80, 81, 82, 83] (G := Nat) (H := Value) (I := List (Int × Value)) (fun k zv _ => [(56, .int .i64 k), (8, zv)]) (fun k zv kv w => k ≤ q.length ∧ Keys t q k kv ∧ (∃ Γe, Kept w0 Γe (fun w => RS tInt w zv (stL t t.init (q.take k))) ∧ Sat w0 w (MapO kInt mv kv :: OS tInt 3 pv q :: Box pt 26 [a, b, c, d] :: Γe))) (fun k _ _ => q.length - k) 0 b (mput [] (rankL t.vars t.init) (.bool true)) (fun _ _ _ => rfl) ⟨rfl, rfl, trivial⟩ ⟨Nat.zero_le _, hK0, [], Kept.of fun w Γ' h => ht.init.at h, hw1⟩ ?_
  clear hw hw1
  rintro σ k zv kv w ⟨hk, hKy, Γe, hKz, hw⟩
  repeat (first | refine go_run ?_ | (refine go_newP ?_; clear hw; intro p w hw) | (refine go_newW ?_; clear hw; intro w hw) | (refine go_newS ?_; clear hw; intro s w hw))
  refine go_if (fun h2 => ?_) (fun h2 => ?_)
  · have hkl : k < q.length := by omega
    obtain ⟨c0, hP, hDs⟩ := hqP.resolve_left (fun e => by rw [e] at hkl; exact Nat.not_lt_zero _ hkl)
    obtain ⟨p1, p2, p3⟩ := hP.at_ hkl
    have hso := stL_ok hg hP hg.init (k := k) (by omega)
    have hso2 := stL_ok hg hP hg.init (k := k + 1) (by omega)
    have c1 : stL t t.init (q.take (k + 1)) = succT t (stL t t.init (q.take k)) (q.getD k tInt.dflt).toNat := by rw [take_snoc tInt.dflt hkl, stL_snoc]
    have hfr := hKy.fresh hg hP hDs hkl
    repeat (first | refine go_run ?_ | (refine go_newP ?_; clear hw; intro p w hw) | (refine go_newW ?_; clear hw; intro w hw) | (refine go_newS ?_; clear hw; intro s w hw))
    refine st_call rfl (Apply_spec (ht.at hw) (hKz w [_, _, _] hw) hg hso) ?_
    rintro _ w' ⟨r, rv, rfl, hr, hk'⟩
    replace hw := hw.call1 hk'
    clear hk'
    refine ⟨_, rfl, ?_⟩
    have hrt : r = true := hr.2 ⟨p1, by omega, p3⟩
    subst hrt
    have hw2 : Sat w0 w' (OS tInt 3 rv (stL t t.init (q.take (k + 1))) :: MapO kInt mv kv :: OS tInt 3 pv q :: Box pt 26 [a, b, c, d] :: Γe) := by rw [c1]; exact hw
    clear hw
    have hw := hw2
    clear hw2
    repeat (first | refine go_run ?_ | (refine go_newP ?_; clear hw; intro p w hw) | (refine go_newWr ?_; clear hw; intro w hw) | (refine go_newS ?_; clear hw; intro s w hw))
    refine st_call rfl (Rank_spec (ht.vars.at hw) (rsO (s := rv) hw) hso2 hg.pos (by omega)) ?_
    rintro _ w' ⟨rfl, hk'⟩
    replace hw := hw.call0 hk'
    clear hk'
    refine ⟨_, rfl, ?_⟩
    repeat (first | refine go_run ?_ | (refine go_newP ?_; clear hw; intro p w hw) | (refine go_newWr ?_; clear hw; intro w hw) | (refine go_newS ?_; clear hw; intro s w hw))
    refine step_read rfl (rv_lookup (m := mv) (κ := kInt) (q := rankL t.vars (stL t t.init (q.take (k + 1)))) rfl rfl hw inferInstance) ?_
    rw [hfr]
    repeat (first | refine go_run ?_ | (refine go_newP ?_; clear hw; intro p w hw) | (refine go_newWr ?_; clear hw; intro w hw) | (refine go_newS ?_; clear hw; intro s w hw))
    refine st_call rfl (Rank_spec (ht.vars.at hw) (rsO (s := rv) hw) hso2 hg.pos (by omega)) ?_
    rintro _ w' ⟨rfl, hk'⟩
    replace hw := hw.call0 hk'
    clear hk'
    refine ⟨_, rfl, ?_⟩
    repeat (first | refine go_run ?_ | (refine go_newP ?_; clear hw; intro p w hw) | (refine go_newWr ?_; clear hw; intro w hw) | (refine go_newS ?_; clear hw; intro s w hw))
    refine st_mapUpdate (m := mv) (κ := kInt) (q := rankL t.vars (stL t t.init (q.take (k + 1)))) (v := .bool true) rfl rfl rfl hw inferInstance ?_
    clear hw
    intro w hw
    repeat (first | refine go_run ?_ | (refine go_newP ?_; clear hw; intro p w hw) | (refine go_newWr ?_; clear hw; intro w hw) | (refine go_newS ?_; clear hw; intro s w hw))
    refine ⟨k + 1, rv, mput kv (rankL t.vars (stL t t.init (q.take (k + 1)))) (.bool true), ⟨rfl, rfl, trivial⟩, by repeat (first | exact agree_refl | (apply agree_upd rfl) | (apply agree_mix rfl) | (apply agree_sets rfl)), ⟨by omega, hKy.step, [OS tInt 3 rv (stL t t.init (q.take (k + 1)))], fun w Δ h => (Sat.after h).rs 0 rfl, ?_⟩, by omega⟩
    exact hw.sel
  repeat (first | refine go_run ?_ | (refine go_newP ?_; clear hw; intro p w hw) | (refine go_newW ?_; clear hw; intro w hw) | (refine go_newS ?_; clear hw; intro s w hw))
  exact res_one (v := .bool true) rfl rfl ⟨rfl, sat_none hw⟩
end Go.Proofs.Ytgbijampdkahjaa
