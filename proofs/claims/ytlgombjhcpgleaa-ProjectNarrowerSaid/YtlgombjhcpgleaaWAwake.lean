/-
  The example with which each statement begins: 'example' and 'awake'.
-/
import Derived.Test.YtlgombjhcpgleaaWProject
import Derived.Test.YtlgombjhcpgleaaSlEq
namespace Go.Proofs.Ytlgombjhcpgleaa
open Go.Sl Go
attribute [local irreducible] vc opsW opsD opV opW PureV ReadV Thn Blk

instance : EqIntsT Try.prog 50 3 := ⟨by kernel_rfl⟩
def exT : TTask := ⟨[2, 3], [0, 0], [], [⟨ByteArray.empty, 0, [], [⟨[], 0, 1⟩, ⟨[⟨0, 1⟩], 1, 2⟩]⟩]⟩
set_option maxRecDepth 8000 in
set_option maxHeartbeats 1000000 in
theorem example_spec {w0 : World} :
    Calls Try.prog 35 #[] w0 fun e w' => ∃ a b d vs, e = .returned (.agg #[a, b, .slice none 0 0, d]) ∧ RTask w' a b (.slice none 0 0) d vs exT ∧ Sat w0 w' [] := by
  have hw := Sat.start w0
  refine calls_of_vc (args := []) mixed Try.func35 rfl (by kernel_rfl) (Nat.le_of_ble_eq_true rfl) ?_
  repeat (first | refine go_run ?_ | (refine go_newP ?_; clear hw; intro p w hw) | (refine go_newW ?_; clear hw; intro w hw) | (refine go_newS ?_; clear hw; intro s w hw))
  refine st_buildSlice (T := tInt) [2, 3] [.int .i64 2, .int .i64 3] rfl rfl rfl rfl rfl (Nat.le_of_ble_eq_true rfl) (Nat.zero_lt_succ _) (Nat.le_of_ble_eq_true rfl) hw ?_
  clear hw
  intro s1 w hw
  refine st_buildSlice (T := tInt) [0, 0] [.int .i64 0, .int .i64 0] rfl rfl rfl rfl rfl (Nat.le_of_ble_eq_true rfl) (Nat.zero_lt_succ _) (Nat.le_of_ble_eq_true rfl) hw ?_
  clear hw
  intro s2 w hw
  refine go_build2 ?_
  refine go_build2 ?_
  refine st_buildSlice1 tFact (x1 := ⟨0, 1⟩) rfl rfl rfl (Nat.le_of_ble_eq_true rfl) (Nat.zero_lt_succ _) hw ?_
  clear hw
  intro s5 w hw
  have o5 := (hw.rs 0 rfl).one
  refine st_build3 (v1 := s5) (v2 := .int .i64 1) (v3 := .int .i64 2) rfl rfl rfl rfl (by simp only [List.all_cons, List.all_nil, o5]; rfl) ?_
  have c5 : s5.cells.toList = [s5] := (hw.rs 0 rfl).cells1
  refine st_buildSlice (T := tEff) [⟨.slice none 0 0, 0, 1⟩, ⟨s5, 1, 2⟩] [.agg #[.slice none 0 0, .int .i64 0, .int .i64 1], .agg #[s5, .int .i64 1, .int .i64 2]] rfl rfl rfl rfl rfl (Nat.le_of_ble_eq_true rfl) (Nat.zero_lt_succ _) (Nat.le_of_ble_eq_true rfl) hw ?_
  clear hw
  intro s7 w hw
  have o7 := (hw.rs 0 rfl).one
  refine st_build1 (v1 := s7) rfl rfl (by simp only [List.all_cons, List.all_nil, o7]; rfl) ?_
  refine st_buildSlice1 tOp (x1 := ⟨ByteArray.empty, 0, .slice none 0 0, s7⟩) rfl rfl rfl (Nat.le_of_ble_eq_true rfl) (Nat.zero_lt_succ _) hw ?_
  clear hw
  intro s9 w hw
  have o9 := (hw.rs 0 rfl).one
  have o2 := (hw.rs 3 rfl).one
  have o1 := (hw.rs 4 rfl).one
  refine st_build3 (v1 := s1) (v2 := s2) (v3 := s9) rfl rfl rfl rfl (by simp only [List.all_cons, List.all_nil, o1, o2, o9]; rfl) ?_
  refine st_boxAgg (n := 4) (p := p) (vs := [s1, s2, .slice none 0 0, s9]) rfl rfl hw inferInstance rfl rfl (by simp only [List.all_cons, List.all_nil, o1, o2, o9]; rfl) ?_
  clear hw
  intro w hw
  repeat (first | refine go_run ?_ | (refine go_newP ?_; clear hw; intro p w hw) | (refine go_newW ?_; clear hw; intro w hw) | (refine go_newS ?_; clear hw; intro s w hw))
  refine res_cell (p := p) (vs := [s1, s2, .slice none 0 0, s9]) rfl rfl rfl (fun j v hv => box_cell (i := 5) hw rfl hv) ⟨s1, s2, s9, [⟨ByteArray.empty, 0, .slice none 0 0, s7⟩], rfl, ⟨hw.rs 4 rfl, hw.rs 3 rfl, RS.nil, ⟨hw.rs 0 rfl, rfl, fun i hi => ?_⟩⟩, sat_none hw⟩
  have h0 : i = 0 := by simp [exT] at hi; exact hi
  subst h0
  rw [eget_eq]
  refine ⟨rfl, Nat.le_of_ble_eq_true rfl, rfl, RS.nil, [⟨.slice none 0 0, 0, 1⟩, ⟨s5, 1, 2⟩], hw.rs 1 rfl, rfl, fun j hj => ?_⟩
  rw [eget_eq]
  have h1 : j = 0 ∨ j = 1 := by simp [exT] at hj; omega
  rcases h1 with rfl | rfl
  · exact ⟨rfl, rfl, RS.nil⟩
  · exact ⟨rfl, rfl, hw.rs 2 rfl⟩

/-! ### The systems of the example -/
def tgtC (t : TTask) (p : List Int) (a : Int) (op : Nat) : List Int := (upTo (cntL t.vars p)).filter fun b => (statesL t.vars).any fun s => decide (idxL t.vars p s = a) && decide (AppT t s op) && decide (idxL t.vars p (succT t s op) = b)
theorem tgtL_calc (t : TTask) (p : List Int) (a : Int) (op : Nat) : tgtL t p a op = tgtC t p a op := by
  unfold tgtL pickL tgtC
  apply List.filter_congr
  intro b _
  refine Bool.eq_iff_iff.2 ?_
  rw [List.any_eq_true]
  constructor
  · intro h
    obtain ⟨s, hs, h1, h2, h3⟩ := @of_decide_eq_true _ (Classical.propDecidable _) h
    exact ⟨s, mem_statesL.2 hs, by simp [h1, h2, h3]⟩
  · rintro ⟨s, hs, h⟩
    simp only [Bool.and_eq_true, decide_eq_true_eq] at h
    exact @decide_eq_true _ (Classical.propDecidable _) ⟨s, mem_statesL.1 hs, h.1.1, h.1.2, h.2⟩
def edgesC (t : TTask) (p : List Int) : List Edg := (List.range (cntL t.vars p).toNat).flatMap fun (a : Nat) => (List.range t.ops.length).flatMap fun op => edgB (a : Int) op (tgtC t p (a : Int) op)
theorem pEdges_calc (t : TTask) (p : List Int) : pEdges t p = edgesC t p := by
  unfold pEdges edgA edgO edgesC
  simp only [tgtL_calc]
theorem cnt_take {vars : List Int} (hd : ∀ x ∈ vars, 1 ≤ x) : ∀ (m : Nat) (q : List Int), m ≤ vars.length → InV vars q → (∀ v ∈ q, v < m) → cntL vars q ≤ prodL (vars.take m)
  | 0, q, _, hq, hm => by
    cases q with
    | nil => simp [cntL, valsL, prodL]
    | cons v q => have := hm v (by simp); have := (hq.mem v (by simp)).1; omega
  | m + 1, q, hl, hq, hm => by
    have hml : m < vars.length := by omega
    have hx : 1 ≤ vars.getD m tInt.dflt := hd _ (mem_getD _ hml)
    have hp : 1 ≤ prodL (vars.take m) := prodL_pos fun x hx => hd x (List.mem_of_mem_take hx)
    rw [take_snoc tInt.dflt hml, prodL_snoc]
    rcases List.eq_nil_or_concat q with rfl | ⟨l, v, rfl⟩
    · have : cntL vars [] = 1 := rfl
      have := Int.mul_le_mul hp hx (by omega) (by omega)
      omega
    · simp only [List.concat_eq_append] at hq hm ⊢
      obtain ⟨hl', ⟨hv0, hv1⟩, hvl⟩ := hq.init
      have hlt : ∀ u ∈ l, u < v := fun u hu => (List.pairwise_append.1 hq.asc).2.2 u hu v (by simp)
      have hvm := hm v (by simp)
      by_cases e : v = m
      · subst e
        have ih := cnt_take hd m l (by omega) hl' fun u hu => hlt u hu
        rw [cntL_snoc, sg_of]
        exact Int.mul_le_mul_of_nonneg_right ih (by omega)
      · have ih := cnt_take hd m (l ++ [v]) (by omega) hq fun u hu => by
          rcases List.mem_append.1 hu with h | h
          · have := hlt u h; omega
          · rw [List.mem_singleton.1 h]; omega
        have h2 : prodL (vars.take m) * 1 ≤ prodL (vars.take m) * vars.getD m tInt.dflt := Int.mul_le_mul_of_nonneg_left hx (by omega)
        omega
theorem cntL_le {vars q : List Int} (hd : ∀ x ∈ vars, 1 ≤ x) (hq : InV vars q) : cntL vars q ≤ prodL vars := by
  have := cnt_take hd vars.length q (Nat.le_refl _) hq fun v hv => (hq.mem v hv).2
  rwa [List.take_length] at this
theorem noBig {t : TTask} {p : List Int} (hd : ∀ x ∈ t.vars, 1 ≤ x) (h : prodL t.vars ≤ 4096) : ¬ BigFree t p := fun ⟨op, _, h2⟩ => by
  have := cntL_le hd (freeL_inV t.vars (opT t op) p)
  unfold frL at h2
  omega
instance (vars s : List Int) : Decidable (StateOk vars s) := by unfold StateOk; infer_instance
instance (vars : List Int) (x : Fact) : Decidable (FactOk vars x) := by unfold FactOk; infer_instance
instance (vars : List Int) (f : List Fact) : Decidable (FactsOk vars f) := by unfold FactsOk; infer_instance
theorem exGood : GoodT exT := by
  refine ⟨by decide, by decide, by decide, by decide, by decide, fun i hi => ?_⟩
  have h0 : i = 0 := by simp [exT] at hi; exact hi
  subst h0
  refine ⟨by decide, by decide, by decide, ⟨Nat.le_of_ble_eq_true rfl, fun i hi => absurd hi (Nat.not_lt_zero _)⟩, by decide, fun j hj => ?_⟩
  have h1 : j = 0 ∨ j = 1 := by simp [exT] at hj; omega
  rcases h1 with rfl | rfl
  · exact ⟨by decide, by decide⟩
  · exact ⟨by decide, by decide⟩
theorem exE1 : edgesC exT [1] = [⟨0, 0, 0⟩, ⟨0, 0, 2⟩, ⟨1, 0, 1⟩, ⟨1, 0, 2⟩, ⟨2, 0, 2⟩] := by decide +kernel
theorem exE0 : (edgesC exT [0]).length = 2 := by decide +kernel
theorem exP1 : pErr exT [1] = 0 := by
  rw [pErr_ok (chkP_zero.2 ⟨exGood, by decide⟩), pErr0, if_neg (by decide +kernel), if_neg (noBig exGood.pos (by decide +kernel)), if_neg (by rw [pEdges_calc, exE1]; decide)]
theorem exP0 : pErr exT [0] = 0 := by
  rw [pErr_ok (chkP_zero.2 ⟨exGood, by decide⟩), pErr0, if_neg (by decide +kernel), if_neg (noBig exGood.pos (by decide +kernel)), if_neg (by rw [pEdges_calc, exE0]; decide)]

theorem ex1V (cv ev gv : Value) : sysV (sysE exT [1] 0) cv ev gv = .agg #[.int .i64 3, .int .i64 0, cv, ev, gv] := by
  rw [sysE, if_pos rfl]; rfl
theorem ex0V (cv ev gv : Value) : sysV (sysE exT [0] 0) cv ev gv = .agg #[.int .i64 2, .int .i64 0, cv, ev, gv] := by
  rw [sysE, if_pos rfl]; rfl
theorem ex1E : (sysE exT [1] 0).edges = [⟨0, 0, 0⟩, ⟨0, 0, 2⟩, ⟨1, 0, 1⟩, ⟨1, 0, 2⟩, ⟨2, 0, 2⟩] := by
  rw [sysE, if_pos rfl, show (sysOk exT [1]).edges = pEdges exT [1] from rfl, pEdges_calc, exE1]
theorem ex0E : (sysE exT [0] 0).edges.length = 2 := by
  rw [sysE, if_pos rfl, show (sysOk exT [0]).edges = pEdges exT [0] from rfl, pEdges_calc, exE0]
set_option maxRecDepth 8000 in
set_option maxHeartbeats 1000000 in
theorem awake_spec {w0 : World} : Calls Try.prog 14 #[] w0 fun e w' => e = .returned (.bool true) ∧ Sat w0 w' [] := by
  have hw := Sat.start w0
  refine calls_of_vc (args := []) mixed Try.func14 rfl (by kernel_rfl) (Nat.le_of_ble_eq_true rfl) ?_
  repeat (first | refine go_run ?_ | (refine go_newP ?_; clear hw; intro p w hw) | (refine go_newW ?_; clear hw; intro w hw) | (refine go_newS ?_; clear hw; intro s w hw))
  refine st_call rfl example_spec ?_
  rintro _ w' ⟨a, b, d, vs, rfl, ht, hk'⟩
  replace hw := hw.call0 hk'
  clear hk'
  refine ⟨_, rfl, ?_⟩
  have hw1 := hw
  have hw := Sat.start w'
  repeat (first | refine go_run ?_ | (refine go_newP ?_; clear hw; intro p w hw) | (refine go_newW ?_; clear hw; intro w hw) | (refine go_newS ?_; clear hw; intro s w hw))
  refine st_call rfl (Project_spec (vp := s) (L := [1]) (ht.at hw) (rsO hw)) ?_
  rintro _ w2 ⟨cv, ev, gv, rfl, hk'⟩
  rw [exP1] at hk' ⊢
  rw [errV_zero rfl, ex1V]
  refine ⟨_, rfl, ?_⟩
  replace hw := hw1.call (hw.call hk')
  simp only [List.append_nil, List.cons_append, List.nil_append] at hw
  rw [ex1E] at hw
  clear hk' hw1 ht
  have o1 := (hw.rs 0 rfl).one
  have o2 := (hw.rs 1 rfl).one
  have o3 := (hw.rs 2 rfl).one
  repeat (first | refine go_run ?_ | (refine go_newP ?_; clear hw; intro p w hw) | (refine go_newWs ?_; clear hw; intro w hw) | (refine go_newS ?_; clear hw; intro s w hw))
  refine st_boxAgg (n := 5) (p := p) (vs := [.int .i64 3, .int .i64 0, cv, ev, gv]) rfl rfl hw inferInstance rfl rfl (by simp only [List.all_cons, List.all_nil, o1, o2, o3]; rfl) ?_
  clear hw
  intro w hw
  obtain ⟨px, hpx⟩ : ∃ px, px = p := ⟨p, rfl⟩
  subst hpx
  repeat (first | refine go_run ?_ | (refine go_newP ?_; clear hw; intro p w hw) | (refine go_newW ?_; clear hw; intro w hw) | (refine go_newS ?_; clear hw; intro s w hw))
  refine st_call rfl example_spec ?_
  rintro _ w' ⟨a, b, d, vs, rfl, ht, hk'⟩
  replace hw := hw.call0 hk'
  clear hk'
  refine ⟨_, rfl, ?_⟩
  have hw1 := hw
  clear hw
  have hw := Sat.start w'
  repeat (first | refine go_run ?_ | (refine go_newP ?_; clear hw; intro p w hw) | (refine go_newW ?_; clear hw; intro w hw) | (refine go_newS ?_; clear hw; intro s w hw))
  refine st_call rfl (Project_spec (vp := s) (L := [0]) (ht.at hw) (rsO hw)) ?_
  rintro _ w2 ⟨cv2, ev2, gv2, rfl, hk'⟩
  rw [exP0] at hk' ⊢
  rw [errV_zero rfl, ex0V]
  refine ⟨_, rfl, ?_⟩
  replace hw := hw1.call (hw.call hk')
  simp only [List.append_nil, List.cons_append, List.nil_append] at hw
  obtain ⟨l2, hl2, h2⟩ : ∃ l, (sysE exT [0] 0).edges = l ∧ l.length = 2 := ⟨_, rfl, ex0E⟩
  rw [hl2] at hw
  clear hk' hw1 ht
  have q1 := (hw.rs 0 rfl).one
  have q2 := (hw.rs 1 rfl).one
  have q3 := (hw.rs 2 rfl).one
  have hev : RS tEdg w2 ev [⟨0, 0, 0⟩, ⟨0, 0, 2⟩, ⟨1, 0, 1⟩, ⟨1, 0, 2⟩, ⟨2, 0, 2⟩] := hw.rs 6 rfl
  repeat (first | refine go_run ?_ | (refine go_newP ?_; clear hw; intro p w hw) | (refine go_newWs ?_; clear hw; intro w hw) | (refine go_newS ?_; clear hw; intro s w hw))
  refine st_boxAgg (n := 5) (p := p) (vs := [.int .i64 2, .int .i64 0, cv2, ev2, gv2]) rfl rfl hw inferInstance rfl rfl (by simp only [List.all_cons, List.all_nil, q1, q2, q3]; rfl) ?_
  clear hw
  intro w hw
  repeat (first | refine go_run ?_ | (refine go_newP ?_; clear hw; intro p w hw) | (refine go_newW ?_; clear hw; intro w hw) | (refine go_newS ?_; clear hw; intro s w hw))
  have hevw : RS tEdg w ev [⟨0, 0, 0⟩, ⟨0, 0, 2⟩, ⟨1, 0, 1⟩, ⟨1, 0, 2⟩, ⟨2, 0, 2⟩] := hw.rs 7 rfl
  refine step_pure rfl (pv_index (T := tEdg) (s := ev) (j := 1) rfl rfl hevw rfl (by decide) (by decide) (by decide)) ?_
  refine go_gt ?_
  refine step_read rfl (rv_elemAgg (T := tEdg) (s := ev) (i := 1) rfl hevw (by decide) rfl) ?_
  repeat (first | refine go_run ?_ | (refine go_newP ?_; clear hw; intro p w hw) | (refine go_newW ?_; clear hw; intro w hw) | (refine go_newS ?_; clear hw; intro s w hw))
  refine step_pure rfl (pv_eqlInts (us := [0, 0, 2]) (zs := [0, 0, 2]) rfl rfl rfl rfl) ?_
  repeat (first | refine go_run ?_ | (refine go_newP ?_; clear hw; intro p w hw) | (refine go_newW ?_; clear hw; intro w hw) | (refine go_newS ?_; clear hw; intro s w hw))
  exact res_one (v := .bool (decide ((l2.length : Int) = 2))) rfl rfl ⟨by rw [h2]; rfl, sat_none hw⟩
end Go.Proofs.Ytlgombjhcpgleaa
