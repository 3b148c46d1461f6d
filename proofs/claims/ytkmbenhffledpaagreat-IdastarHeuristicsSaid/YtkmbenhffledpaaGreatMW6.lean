/-
  Several texts as one: WTgt, WProject, WSys, WDist.
-/
import Derived.Test.YtkmbenhffledpaaGreatMW5
import Derived.Test.YtkmbenhffledpaaGreatMTA
import Derived.Test.YtkmbenhffledpaaGreatMSlB
import Derived.Test.YtkmbenhffledpaaGreatMW4
set_option linter.unusedSimpArgs false
set_option linter.unusedVariables false

/-
  Contract of 'project.targets'.
-/
namespace Go.Proofs.YtkmbenhffledpaaGreat
open Go.Sl Go
attribute [local irreducible] vc opsW opsD opV opW PureV ReadV Thn Blk

theorem compL_eq (l : List Int) : compL l = ((List.range l.length).filter fun j => decide (j = 0 ∨ l.getD j tInt.dflt ≠ l.getD (j - 1) tInt.dflt)).map fun j => l.getD j tInt.dflt := by
  have e : ∀ j, l.toArray[j]! = l.getD j tInt.dflt := fun j => by
    simp [getElem!_def, List.getD]
    cases l[j]? <;> rfl
  unfold compL Lib.compact Lib.compactUpTo Lib.keeps
  simp only [e]
theorem compL_mem {l : List Int} {x : Int} : x ∈ compL l ↔ x ∈ l := by
  rw [compL_eq]
  simp only [List.mem_map, List.mem_filter, List.mem_range, decide_eq_true_eq]
  constructor
  · rintro ⟨j, ⟨hj, _⟩, rfl⟩; exact mem_getD _ hj
  · intro hx
    obtain ⟨i, hi, he⟩ := List.mem_iff_getElem.1 hx
    have key : ∀ i, i < l.length → ∃ j, (j < l.length ∧ (j = 0 ∨ l.getD j tInt.dflt ≠ l.getD (j - 1) tInt.dflt)) ∧ l.getD j tInt.dflt = l.getD i tInt.dflt := by
      intro i
      induction i with
      | zero => intro h; exact ⟨0, ⟨h, .inl rfl⟩, rfl⟩
      | succ i ih =>
        intro h
        by_cases hh : l.getD (i + 1) tInt.dflt = l.getD i tInt.dflt
        · obtain ⟨j, h1, h2⟩ := ih (by omega)
          exact ⟨j, h1, h2.trans hh.symm⟩
        · exact ⟨i + 1, ⟨h, .inr hh⟩, rfl⟩
    obtain ⟨j, h1, h2⟩ := key i hi
    exact ⟨j, h1, by rw [h2, getD_at hi, he]⟩
theorem compL_asc {l : List Int} (h : l.Pairwise (· ≤ ·)) : (compL l).Pairwise (· < ·) := by
  rw [compL_eq, List.pairwise_map]
  have hle : ∀ i j, i ≤ j → j < l.length → l.getD i tInt.dflt ≤ l.getD j tInt.dflt := fun i j hij hj => by
    rcases Nat.lt_or_ge i j with h' | h'
    · rw [getD_at (by omega), getD_at hj]; exact List.pairwise_iff_getElem.1 h _ _ _ _ h'
    · have : i = j := by omega
      subst this; exact Int.le_refl _
  refine (List.pairwise_lt_range.filter _).imp_of_mem fun {i j} hi hj hij => ?_
  simp only [List.mem_filter, List.mem_range, decide_eq_true_eq] at hi hj
  have h1 := hle i (j - 1) (by omega) (by omega)
  have h2 := hle (j - 1) j (by omega) hj.1
  have h3 := hj.2.resolve_left (by omega)
  omega
end Go.Proofs.YtkmbenhffledpaaGreat

/-
  Contract of 'project.Project'.
-/
namespace Go.Proofs.YtkmbenhffledpaaGreat
open Go.Sl Go
attribute [local irreducible] vc opsW opsD opV opW PureV ReadV Thn Blk

theorem sat_none {w0 w : World} {Γ : List HP} (hw : Sat w0 w Γ) : Sat w0 w [] := ⟨hw.below, trivial⟩
def SysAt (w0 w : World) (cv ev gv : Value) (S : SysV) : Prop := Sat w0 w [OS tInt 3 cv S.costs, OS tEdg 208 ev S.edges, OS tBool 4 gv S.goals]
end Go.Proofs.YtkmbenhffledpaaGreat

/-
  A system's three lists are read.
-/
namespace Go.Proofs.YtkmbenhffledpaaGreat
open Go.Sl Go
/-- A system's three lists are read. -/
structure RSys (w : World) (cv ev gv : Value) (S : SysV) : Prop where
  costs : RS tInt w cv S.costs
  edges : RS tEdg w ev S.edges
  goals : RS tBool w gv S.goals
theorem RSys.at {w0 w : World} {Γ : List HP} {cv ev gv : Value} {S : SysV} (h : RSys w0 cv ev gv S) (hw : Sat w0 w Γ) : RSys w cv ev gv S := ⟨h.costs.at hw, h.edges.at hw, h.goals.at hw⟩
theorem SysAt.rs {w0 w : World} {cv ev gv : Value} {S : SysV} (h : SysAt w0 w cv ev gv S) : RSys w cv ev gv S := ⟨Sat.rs h 0 rfl, Sat.rs h 1 rfl, Sat.rs h 2 rfl⟩
end Go.Proofs.YtkmbenhffledpaaGreat

/-
  Contracts of 'Distances' of the base and of the reference of layer 40.
-/
namespace Go.Proofs.YtkmbenhffledpaaGreat
open Go.Sl Go
attribute [local irreducible] vc opsW opsD opV opW PureV ReadV Thn Blk

/-- The goal states by rank. -/
def GoalS (t : TTask) (i : Int) : Prop := HoldFs ((statesL t.vars).getD i.toNat []) t.goal
/-- The given costs, or the operators' own. -/
inductive CostsOf (w : World) (t : TTask) (kv : Value) (cs : List Int) : Prop
  | own : kv = .slice none 0 0 → cs = costsT t → CostsOf w t kv cs
  | new : (∃ p n k, kv = .slice (some p) n k) → RS tInt w kv cs → cs.length = t.ops.length → (∀ x ∈ cs, 0 ≤ x ∧ x ≤ 1099511627776) → CostsOf w t kv cs
theorem CostsOf.at {w0 w : World} {Γ : List HP} {t : TTask} {kv : Value} {cs : List Int} (h : CostsOf w0 t kv cs) (hw : Sat w0 w Γ) : CostsOf w t kv cs := by
  rcases h with ⟨h1, h2⟩ | ⟨h1, h2, h3, h4⟩
  · exact .own h1 h2
  · exact .new h1 (h2.at hw) h3 h4
theorem CostsOf.ok {w : World} {t : TTask} {kv : Value} {cs : List Int} (h : CostsOf w t kv cs) (hg : GoodT t) : cs.length = t.ops.length ∧ ∀ x ∈ cs, 0 ≤ x ∧ x ≤ 1099511627776 := by
  rcases h with ⟨h1, h2⟩ | ⟨h1, h2, h3, h4⟩
  · subst h2
    refine ⟨by simp [costsT], fun x hx => ?_⟩
    obtain ⟨o, ho, rfl⟩ := List.mem_map.1 hx
    obtain ⟨i, hi, rfl⟩ := List.getElem_of_mem ho
    have := hg.op i hi
    rw [getD_at hi] at this
    have h1 := this.cost0
    have h2 := this.cost1
    omega
  · exact ⟨h3, h4⟩
theorem eok_T {t : TTask} {cs : List Int} (hg : GoodT t) (h : cs.length = t.ops.length ∧ ∀ x ∈ cs, 0 ≤ x ∧ x ≤ 1099511627776) : EOk (edgesT t) cs (statesL t.vars).length := by
  have key : ∀ e ∈ edgesT t, (0 ≤ e.src ∧ e.src < (statesL t.vars).length) ∧ (0 ≤ e.dst ∧ e.dst < (statesL t.vars).length) ∧ 0 ≤ e.lab ∧ e.lab < cs.length := by
    intro e he
    obtain ⟨i, op, hi, ho, ha, rfl⟩ := mem_edgesT.1 he
    have hs := succT_ok hg (statesL_at hg.pos hi).1 ho
    have h1 := rankL_bound hs
    have h2 := (statesL_of hg.pos hs).1
    exact ⟨⟨by simp only; omega, by simp only; omega⟩, ⟨h1.1, by simp only; omega⟩, by simp only; omega, by simp only; omega⟩
  exact ⟨fun e he => (key e he).1, fun e he => (key e he).2.1, fun e he => (key e he).2.2, h.2⟩

set_option maxRecDepth 8000 in
set_option maxHeartbeats 4000000 in
theorem Distances_spec {w0 : World} {a b c d kv : Value} {vs : List OpV} {t : TTask} {cs : List Int} (ht : RTask w0 a b c d vs t) (hk : CostsOf w0 t kv cs) (hg : GoodT t) (hB : prodL t.vars ≤ 65536) :
    Calls Tryz.prog 49 #[.agg #[a, b, c, d], kv] w0 fun e w' => ∃ s D, e = .returned s ∧ DistOk (edgesT t) cs (GoalS t) (statesL t.vars).length D ∧ Sat w0 w' [OS tInt 3 s D] := by
  have ht' := ht
  obtain ⟨ha, hb, hc, hd⟩ := ht
  have hrs := hd.rs
  have hdl := hd.len
  have hol := hg.ops
  have hlen : (statesL t.vars).length ≤ 65536 := by rw [statesL_len hg.pos]; omega
  have hE := eok_T hg (hk.ok hg)
  have hcl := (hk.ok hg).1
  have hel : (edgesT t).length ≤ 65536 * 4096 := Nat.le_trans (edgesK_len t _) (Nat.mul_le_mul hlen hol)
  have hrl : (List.replicate (statesL t.vars).length (0 : Int)).length = (statesL t.vars).length := List.length_replicate
  have hw := Sat.start w0
  refine calls_of_vc (args := [.agg #[a, b, c, d], kv]) mixed Tryz.func49 rfl (by kernel_rfl) (Nat.le_of_ble_eq_true rfl) ?_
  repeat (first | refine go_run ?_ | (refine go_newP ?_; clear hw; intro p w hw) | (refine go_newW ?_; clear hw; intro w hw) | (refine go_newS ?_; clear hw; intro s w hw))
  obtain ⟨pt, hpt⟩ : ∃ pt, pt = p := ⟨p, rfl⟩
  subst hpt
  refine st_call rfl (States_spec (ha.at hw) hg.pos hg.vars hB) ?_
  rintro _ w' ⟨sv, ss, rfl, hk'⟩
  replace hw := hw.call2 hk'
  clear hk'
  have hss := hw.rowsLen
  refine ⟨_, rfl, ?_⟩
  repeat (first | refine go_run ?_ | (refine go_newP ?_; clear hw; intro p w hw) | (refine go_newW ?_; clear hw; intro w hw) | (refine go_newS ?_; clear hw; intro s w hw))
  obtain ⟨ov, hov⟩ : ∃ ov, ov = s := ⟨s, rfl⟩
  subst hov
  rw [hss, Int.toNat_natCast, ← dist0K_zero (GoalS t)] at hw
  have hlk : ∀ k, (dist0K (GoalS t) (statesL t.vars).length k).length = (statesL t.vars).length := fun k => dist0K_len _ _ k
  refine vc_loop [7, 8, 22, 23, 24, 25, 26, 27, 28, 29, 30, 31, 32, 33, 34, 35, 36, 37] (G := Nat) (fun k => [(22, .int .i64 k)]) (fun k w => k ≤ (statesL t.vars).length ∧ Sat w0 w [OS tInt 3 ov (dist0K (GoalS t) (statesL t.vars).length k), RowsAt tInt 3 ss (statesL t.vars), OS tVal 22 sv ss, Box pt 26 [a, b, c, d]]) (fun k => (statesL t.vars).length - k) 0 (fun _ => rfl) ⟨rfl, trivial⟩ ⟨Nat.zero_le _, hw⟩ ?_
  clear hw
  rintro σ k w ⟨hk1, hw⟩
  have hlk1 := hlk k
  repeat (first | refine go_run ?_ | (refine go_newP ?_; clear hw; intro p w hw) | (refine go_newW ?_; clear hw; intro w hw) | (refine go_newS ?_; clear hw; intro s w hw))
  refine go_if (fun h1 => ?_) (fun h1 => ?_)
  · have hkl : k < (statesL t.vars).length := by omega
    repeat (first | refine go_run ?_ | (refine go_newP ?_; clear hw; intro p w hw) | (refine go_newW ?_; clear hw; intro w hw) | (refine go_newS ?_; clear hw; intro s w hw))
    refine st_call rfl (Holds_spec (a := c) (hc.at hw) ((hw.focus 1 rfl).row hkl)) ?_
    rintro _ w' ⟨⟨r, rfl, hr⟩, hk'⟩
    replace hw := hw.call0 hk'
    clear hk'
    refine ⟨_, rfl, ?_⟩
    have hgk : GoalS t (k : Int) ↔ HoldFs ((statesL t.vars).getD k []) t.goal := by unfold GoalS; rw [Int.toNat_natCast]
    have hsl : ((dist0K (GoalS t) (statesL t.vars).length k).set k 1125899906842624).length = (statesL t.vars).length := by rw [List.length_set, hlk1]
    cases r
    · repeat (first | refine go_run ?_ | (refine go_newP ?_; clear hw; intro p w hw) | (refine go_newW ?_; clear hw; intro w hw) | (refine go_newS ?_; clear hw; intro s w hw))
      rw [dist0K_no (G := GoalS t) (k := k) (fun h => by have := hr.2 (hgk.1 h); cases this)] at hw
      exact ⟨k + 1, ⟨rfl, trivial⟩, by repeat (first | exact agree_refl | (apply agree_upd rfl) | (apply agree_mix rfl) | (apply agree_sets rfl)), ⟨by omega, hw⟩, by omega⟩
    · repeat (first | refine go_run ?_ | (refine go_newP ?_; clear hw; intro p w hw) | (refine go_newW ?_; clear hw; intro w hw) | (refine go_newS ?_; clear hw; intro s w hw))
      rw [dist0K_set0 (hgk.2 (hr.1 rfl))] at hw
      exact ⟨k + 1, ⟨rfl, trivial⟩, by repeat (first | exact agree_refl | (apply agree_upd rfl) | (apply agree_mix rfl) | (apply agree_sets rfl)), ⟨by omega, hw⟩, by omega⟩
  have hke : k = (statesL t.vars).length := by omega
  subst hke
  rw [dist0K_end] at hw
  clear hlk1 hlk hrl
  repeat (first | refine go_run ?_ | (refine go_newP ?_; clear hw; intro p w hw) | (refine go_newW ?_; clear hw; intro w hw) | (refine go_newS ?_; clear hw; intro s w hw))
  refine st_call rfl (Edges_spec (ht'.at hw) hg hB) ?_
  rintro _ w' ⟨es, rfl, hk'⟩
  replace hw := hw.call1 hk'
  clear hk'
  refine ⟨_, rfl, ?_⟩
  replace hw := hw.swap
  repeat (first | refine go_run ?_ | (refine go_newP ?_; clear hw; intro p w hw) | (refine go_newW ?_; clear hw; intro w hw) | (refine go_newS ?_; clear hw; intro s w hw))
  refine vc_loop2 [10, 12, 13, 40, 41, 42, 43, 44, 45, 46, 47, 48, 49, 50, 51, 52, 53, 54, 55, 56, 57, 58, 59, 60, 61, 62, 63, 64, 65, 66, 67, 68, 69, 70, 71, 72, 73, 74, 75, 76, 77, 78, 79, 80, 81, 82, 83, 84, 85, 86, 87, 88, 89, 90, 91, 92, 93] (G := Bool) (H := List Int) (fun ch _ => [(10, .bool ch)]) (fun ch D w => DInv (edgesT t) cs (GoalS t) (statesL t.vars).length D ∧ (ch = false → ∀ e ∈ edgesT t, Stab cs D e) ∧ Sat w0 w [OS tInt 3 ov D, OS tEdg 148 es (edgesT t), RowsAt tInt 3 ss (statesL t.vars), OS tVal 22 sv ss, Box pt 26 [a, b, c, d]]) (fun ch D => 2 * sumD D + (bif ch then 1 else 0)) true _ (fun _ _ => rfl) ⟨rfl, trivial⟩ ⟨dist0_inv _ _ _ _, (fun h => by cases h), hw⟩ ?_
  clear hw
  rintro σ1 ch D w ⟨hD, hst, hw⟩
  cases ch
  · repeat (first | refine go_run ?_ | (refine go_newP ?_; clear hw; intro p w hw) | (refine go_newW ?_; clear hw; intro w hw) | (refine go_newS ?_; clear hw; intro s w hw))
    exact res_one (v := ov) rfl rfl ⟨ov, D, rfl, hD.dist hE (hst rfl), hw.only⟩
  clear hst
  repeat (first | refine go_run ?_ | (refine go_newP ?_; clear hw; intro p w hw) | (refine go_newW ?_; clear hw; intro w hw) | (refine go_newS ?_; clear hw; intro s w hw))
  refine vc_loop3 [10, 12, 13, 43, 44, 45, 46, 47, 48, 49, 50, 51, 52, 53, 54, 55, 56, 57, 58, 59, 60, 61, 62, 63, 64, 65, 66, 67, 68, 69, 70, 71, 72, 73, 74, 75, 76, 77, 78, 79, 80, 81, 82, 83, 84, 85, 86, 87, 88, 89, 90, 91, 92, 93] (G := Nat) (H := Bool) (I := List Int) (fun k ch _ => [(43, .int .i64 k), (10, .bool ch)]) (fun k ch D' w => k ≤ (edgesT t).length ∧ DInv (edgesT t) cs (GoalS t) (statesL t.vars).length D' ∧ sumD D' ≤ sumD D ∧ (ch = true → sumD D' < sumD D) ∧ (ch = false → ∀ i, i < k → Stab cs D' ((edgesT t).getD i tEdg.dflt)) ∧ Sat w0 w [OS tInt 3 ov D', OS tEdg 148 es (edgesT t), RowsAt tInt 3 ss (statesL t.vars), OS tVal 22 sv ss, Box pt 26 [a, b, c, d]]) (fun k _ _ => (edgesT t).length - k) 0 false D (fun _ _ _ => rfl) ⟨rfl, rfl, trivial⟩ ⟨Nat.zero_le _, hD, Nat.le_refl _, (fun h => by cases h), fun _ i hi => absurd hi (Nat.not_lt_zero _), hw⟩ ?_
  clear hw
  rintro σ2 k ch D' w ⟨hk2, hD', hs1, hs2, hs3, hw⟩
  repeat (first | refine go_run ?_ | (refine go_newP ?_; clear hw; intro p w hw) | (refine go_newW ?_; clear hw; intro w hw) | (refine go_newS ?_; clear hw; intro s w hw))
  refine go_if (fun h3 => ?_) (fun h3 => ?_)
  · have hkl : k < (edgesT t).length := by omega
    obtain ⟨e1, e2, e3, e4⟩ := hE.getD hkl
    have hme := mem_getD tEdg.dflt hkl
    have hDl := hD'.len
    have r1 := hD'.rng ((edgesT t).getD k tEdg.dflt).dst.toNat (by omega)
    rw [Int.toNat_of_nonneg e2.1] at r1
    simp only [dg, cst] at r1 e4
    have hopl : ((edgesT t).getD k tEdg.dflt).lab.toNat < t.ops.length := by omega
    have hopc := (hd.at_ _ hopl).cost
    repeat (first | refine go_run ?_ | (refine go_newP ?_; clear hw; intro p w hw) | (refine go_newW ?_; clear hw; intro w hw) | (refine go_newS ?_; clear hw; intro s w hw))
    rcases hk with ⟨hk3, hk4⟩ | ⟨⟨pk, nk, ck, hk3⟩, hk4, hk5, hk6⟩
    · have hce : (eget tOp vs ((edgesT t).getD k tEdg.dflt).lab.toNat).cost = cs.getD ((edgesT t).getD k tEdg.dflt).lab.toNat tInt.dflt := by rw [hopc, hk4, costsT_at hopl]
      refine step_pure rfl (pv_neqNilS (a := none) (n := 0) (c := 0) hk3) ?_
      rw [hce]
      repeat (first | refine go_run ?_ | (refine go_newP ?_; clear hw; intro p w hw) | (refine go_newW ?_; clear hw; intro w hw) | (refine go_newS ?_; clear hw; intro s w hw))
      refine go_if (fun h4 => ?_) (fun h4 => ?_)
      · have hrx := hD'.relax hE hme h4.1 h4.2
        simp only [dg, cst] at hrx
        repeat (first | refine go_run ?_ | (refine go_newP ?_; clear hw; intro p w hw) | (refine go_newW ?_; clear hw; intro w hw) | (refine go_newS ?_; clear hw; intro s w hw))
        exact ⟨k + 1, true, _, ⟨rfl, rfl, trivial⟩, by repeat (first | exact agree_refl | (apply agree_upd rfl) | (apply agree_mix rfl) | (apply agree_sets rfl)), ⟨by omega, hrx.1, by omega, fun _ => by omega, (fun h => by cases h), hw.tail⟩, by omega⟩
      · repeat (first | refine go_run ?_ | (refine go_newP ?_; clear hw; intro p w hw) | (refine go_newW ?_; clear hw; intro w hw) | (refine go_newS ?_; clear hw; intro s w hw))
        refine ⟨k + 1, ch, D', ⟨rfl, rfl, trivial⟩, by repeat (first | exact agree_refl | (apply agree_upd rfl) | (apply agree_mix rfl) | (apply agree_sets rfl)), ⟨by omega, hD', hs1, hs2, fun hch i hi => ?_, hw.tail⟩, by omega⟩
        by_cases e : i = k
        · subst e
          intro hlt
          have : inf ≤ dg D' ((edgesT t).getD i tEdg.dflt).dst ∨ dg D' ((edgesT t).getD i tEdg.dflt).src ≤ dg D' ((edgesT t).getD i tEdg.dflt).dst + cst cs ((edgesT t).getD i tEdg.dflt) := h4
          omega
        · exact hs3 hch i (by omega)
    · refine step_pure rfl (pv_neqNilS (a := some pk) (n := nk) (c := ck) hk3) ?_
      repeat (first | refine go_run ?_ | (refine go_newP ?_; clear hw; intro p w hw) | (refine go_newW ?_; clear hw; intro w hw) | (refine go_newS ?_; clear hw; intro s w hw))
      refine go_if (fun h4 => ?_) (fun h4 => ?_)
      · have hrx := hD'.relax hE hme h4.1 h4.2
        simp only [dg, cst] at hrx
        repeat (first | refine go_run ?_ | (refine go_newP ?_; clear hw; intro p w hw) | (refine go_newW ?_; clear hw; intro w hw) | (refine go_newS ?_; clear hw; intro s w hw))
        exact ⟨k + 1, true, _, ⟨rfl, rfl, trivial⟩, by repeat (first | exact agree_refl | (apply agree_upd rfl) | (apply agree_mix rfl) | (apply agree_sets rfl)), ⟨by omega, hrx.1, by omega, fun _ => by omega, (fun h => by cases h), hw.tail⟩, by omega⟩
      · repeat (first | refine go_run ?_ | (refine go_newP ?_; clear hw; intro p w hw) | (refine go_newW ?_; clear hw; intro w hw) | (refine go_newS ?_; clear hw; intro s w hw))
        refine ⟨k + 1, ch, D', ⟨rfl, rfl, trivial⟩, by repeat (first | exact agree_refl | (apply agree_upd rfl) | (apply agree_mix rfl) | (apply agree_sets rfl)), ⟨by omega, hD', hs1, hs2, fun hch i hi => ?_, hw.tail⟩, by omega⟩
        by_cases e : i = k
        · subst e
          intro hlt
          have : inf ≤ dg D' ((edgesT t).getD i tEdg.dflt).dst ∨ dg D' ((edgesT t).getD i tEdg.dflt).src ≤ dg D' ((edgesT t).getD i tEdg.dflt).dst + cst cs ((edgesT t).getD i tEdg.dflt) := h4
          omega
        · exact hs3 hch i (by omega)
  · repeat (first | refine go_run ?_ | (refine go_newP ?_; clear hw; intro p w hw) | (refine go_newW ?_; clear hw; intro w hw) | (refine go_newS ?_; clear hw; intro s w hw))
    refine ⟨ch, D', ⟨rfl, trivial⟩, by repeat (first | exact agree_refl | (apply agree_upd rfl) | (apply agree_mix rfl) | (apply agree_sets rfl)), ⟨hD', fun hch e he => ?_, hw⟩, ?_⟩
    · obtain ⟨i, hi, rfl⟩ := List.getElem_of_mem he
      have := hs3 hch i (by omega)
      rwa [getD_at hi] at this
    · cases ch
      · simp only [cond_true, cond_false]; omega
      · have := hs2 rfl
        simp only [cond_true]; omega
end Go.Proofs.YtkmbenhffledpaaGreat
