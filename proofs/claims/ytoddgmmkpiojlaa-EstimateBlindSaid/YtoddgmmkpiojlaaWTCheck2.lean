
/-
  Contracts of 'conditions', 'large' and 'Check'.
-/
import Derived.Test.YtoddgmmkpiojlaaMW1
set_option linter.unusedSimpArgs false
set_option linter.unusedVariables false
namespace Go.Proofs.Ytoddgmmkpiojlaa
open Go.Sl
attribute [local irreducible] vc opsW opsD opV opW PureV ReadV Thn Blk

def RConds (w : World) (cs : List Value) (L : List (List Fact)) : Prop := cs.length = L.length ∧ ∀ i, i < L.length → RS tFact w (vget cs i) (L.getD i [])
theorem RConds.snoc {w : World} {cs : List Value} {L : List (List Fact)} {v : Value} {f : List Fact} (h : RConds w cs L) (hv : RS tFact w v f) : RConds w (cs ++ [v]) (L ++ [f]) := by
  refine ⟨by simp [h.1], fun i hi => ?_⟩
  simp only [List.length_append, List.length_cons, List.length_nil] at hi
  by_cases e : i < L.length
  · have := h.2 i e
    rw [vget_eq] at this ⊢
    simp only [List.getD_eq_getElem?_getD] at this ⊢
    rw [List.getElem?_append_left (by rw [h.1]; exact e), List.getElem?_append_left e]
    exact this
  · have e2 : i = L.length := by omega
    subst e2
    rw [vget_eq]
    simp only [List.getD_eq_getElem?_getD]
    rw [List.getElem?_append_right (by rw [h.1]; exact Nat.le_refl _), List.getElem?_append_right (Nat.le_refl _), h.1]
    simpa using hv
theorem RConds.at {w0 w : World} {Γ : List HP} {cs : List Value} {L : List (List Fact)} (h : RConds w0 cs L) (hw : Sat w0 w Γ) : RConds w cs L := ⟨h.1, fun i hi => (h.2 i hi).at hw⟩
def condsJ (t : TTask) (k j : Nat) : List (List Fact) := condsK t k ++ (t.ops.getD k dOp).pre :: ((t.ops.getD k dOp).effs.take j).map (·.when)
theorem condsJ_succ (t : TTask) {k j : Nat} (hj : j < (t.ops.getD k dOp).effs.length) : condsJ t k (j + 1) = condsJ t k j ++ [((t.ops.getD k dOp).effs.getD j dEff).when] := by
  unfold condsJ
  generalize t.ops.getD k dOp = o at *
  rw [take_snoc dEff hj]; simp
theorem condsJ_end (t : TTask) {k : Nat} (hk : k < t.ops.length) : condsJ t k (t.ops.getD k dOp).effs.length = condsK t (k + 1) := by
  rw [condsK_succ t hk]
  unfold condsJ opConds
  generalize t.ops.getD k dOp = o at *
  simp
theorem condsJ_len (t : TTask) {k j : Nat} (hj : j ≤ (t.ops.getD k dOp).effs.length) : (condsJ t k j).length = (condsK t k).length + 1 + j := by
  unfold condsJ
  generalize t.ops.getD k dOp = o at *
  simp; omega

set_option maxRecDepth 8000 in
set_option maxHeartbeats 2000000 in
theorem conditions_spec {wb w0 : World} {Γ : List HP} {a b c d : Value} {vs : List OpV} {t : TTask} (htb : RTask wb a b c d vs t) (hs : Sat wb w0 Γ) (hn : t.ops.length ≤ 4096) (he : ∀ i, i < t.ops.length → (t.ops.getD i dOp).effs.length ≤ 64) :
    Calls Try.prog 53 #[.agg #[a, b, c, d]] w0 fun e w' => ∃ s cs, e = .returned s ∧ RConds wb cs (conds t) ∧ Sat w0 w' [OS tVal 23 s cs] := by
  have hdb := htb.ops
  have hcb := htb.goal
  obtain ⟨ha, hb, hc, hd⟩ := htb.at hs
  have hrs := hd.rs
  have hdl := hd.len
  have hw := Sat.start w0
  refine calls_of_vc (args := [.agg #[a, b, c, d]]) mixed Try.func53 rfl (by kernel_rfl) (Nat.le_of_ble_eq_true rfl) ?_
  repeat (first | refine go_run ?_ | (refine go_newP ?_; clear hw; intro p w hw) | (refine go_newW ?_; clear hw; intro w hw) | (refine go_newS ?_; clear hw; intro s w hw))
  obtain ⟨pt, hpt⟩ : ∃ pt, pt = p := ⟨p, rfl⟩
  subst hpt
  have hc0 : RConds wb [c] (condsK t 0) := by
    rw [condsK_zero]
    refine ⟨rfl, fun i hi => ?_⟩
    simp at hi
    subst hi
    rw [vget_eq]
    simpa using hcb
  refine vc_loop2 [3, 5, 7, 14, 15, 16, 17, 18, 19, 20, 21, 22, 23, 24, 25, 26, 27, 28, 29, 30, 31, 32, 33, 34, 35, 36] (G := Nat) (H := Value × List Value) (fun k x => [(14, .int .i64 k), (3, x.1)]) (fun k x w => k ≤ t.ops.length ∧ RConds wb x.2 (condsK t k) ∧ Sat w0 w [OS tVal 23 x.1 x.2, Box pt 26 [a, b, c, d]]) (fun k x => t.ops.length - k) 0 (s, [c]) (fun _ _ => rfl) ⟨rfl, rfl, trivial⟩ ⟨Nat.zero_le _, hc0, hw⟩ ?_
  clear hw
  rintro σ k ⟨s, cs⟩ w ⟨hk, hcs, hw⟩
  simp only at hcs hw
  have hkl := condsK_len t k hk he
  have hcl := hcs.1
  repeat (first | refine go_run ?_ | (refine go_newP ?_; clear hw; intro p w hw) | (refine go_newW ?_; clear hw; intro w hw) | (refine go_newS ?_; clear hw; intro s w hw))
  refine go_if (fun h1 => ?_) (fun h1 => ?_)
  · have hop := hd.at_ k (by omega)
    have hone := hop.one
    have hopb := hdb.at_ k (by omega)
    have hpreb := hopb.pre
    have hpre := hop.pre
    obtain ⟨es, hesb⟩ := hopb.effs
    have hes := hesb.at hs
    have hers := hes.rs
    have hel := hes.len
    have hek := he k (by omega)
    repeat (first | refine go_run ?_ | (refine go_newP ?_; clear hw; intro p w hw) | (refine go_newW ?_; clear hw; intro w hw) | (refine go_newS ?_; clear hw; intro s w hw))
    have hc1 : RConds wb (cs ++ [(eget tOp vs k).pre]) (condsJ t k 0) := by
      have := hcs.snoc hpreb
      simpa [condsJ] using this
    refine vc_loop2 [3, 7, 26, 27, 28, 29, 30, 31, 32, 33, 34, 35] (G := Nat) (H := Value × List Value) (fun j x => [(26, .int .i64 j), (3, x.1)]) (fun j x w => j ≤ (t.ops.getD k dOp).effs.length ∧ RConds wb x.2 (condsJ t k j) ∧ Sat w0 w [OS tVal 23 x.1 x.2, Box pt 26 [a, b, c, d]]) (fun j x => (t.ops.getD k dOp).effs.length - j) 0 (s, cs ++ [(eget tOp vs k).pre]) (fun _ _ => rfl) ⟨rfl, rfl, trivial⟩ ⟨Nat.zero_le _, hc1, hw.tail.tail⟩ ?_
    clear hw hcs hcl hc1
    rintro σ1 j ⟨s2, cs2⟩ w ⟨hj, hcs, hw⟩
    simp only at hcs hw
    have hjl := condsJ_len t hj
    have hcl := hcs.1
    repeat (first | refine go_run ?_ | (refine go_newP ?_; clear hw; intro p w hw) | (refine go_newW ?_; clear hw; intro w hw) | (refine go_newS ?_; clear hw; intro s w hw))
    refine go_if (fun h2 => ?_) (fun h2 => ?_)
    · have hej := hes.at_ j (by omega)
      have hone2 := hej.one
      have hwh := hej.when
      have hwhb := (hesb.at_ j (by omega)).when
      repeat (first | refine go_run ?_ | (refine go_newP ?_; clear hw; intro p w hw) | (refine go_newW ?_; clear hw; intro w hw) | (refine go_newS ?_; clear hw; intro s w hw))
      have hc3 := hcs.snoc hwhb
      rw [← condsJ_succ t (by omega)] at hc3
      exact ⟨j + 1, (s, cs2 ++ [(eget tEff es j).when]), ⟨rfl, rfl, trivial⟩, by repeat (first | exact agree_refl | (apply agree_upd rfl) | (apply agree_mix rfl) | (apply agree_sets rfl)), ⟨by omega, hc3, hw.tail.tail⟩, by omega⟩
    · have hje : j = (t.ops.getD k dOp).effs.length := by omega
      subst hje
      rw [condsJ_end t (by omega)] at hcs
      repeat (first | refine go_run ?_ | (refine go_newP ?_; clear hw; intro p w hw) | (refine go_newW ?_; clear hw; intro w hw) | (refine go_newS ?_; clear hw; intro s w hw))
      exact ⟨k + 1, (s2, cs2), ⟨rfl, rfl, trivial⟩, by repeat (first | exact agree_refl | (apply agree_upd rfl) | (apply agree_mix rfl) | (apply agree_sets rfl)), ⟨by omega, hcs, hw⟩, by omega⟩
  · have hke : k = t.ops.length := by omega
    subst hke
    repeat (first | refine go_run ?_ | (refine go_newP ?_; clear hw; intro p w hw) | (refine go_newW ?_; clear hw; intro w hw) | (refine go_newS ?_; clear hw; intro s w hw))
    exact res_one (v := s) rfl rfl ⟨s, cs, rfl, hcs, hw.only⟩

set_option maxRecDepth 8000 in
theorem large1_spec {w0 : World} {a : Value} {f : List Fact} (ha : RS tFact w0 a f) :
    Calls Try.prog 71 #[a] w0 fun e w' => e = .returned (.bool (decide (64 < (f.length : Int)))) ∧ Sat w0 w' [] := by
  have hla := ha.big
  have hw := Sat.start w0
  refine calls_of_vc (args := [a]) mixed Try.func71 rfl (by kernel_rfl) (Nat.le_of_ble_eq_true rfl) ?_
  repeat (first | refine go_run ?_ | (refine go_newP ?_; clear hw; intro p w hw) | (refine go_newW ?_; clear hw; intro w hw) | (refine go_newS ?_; clear hw; intro s w hw))
  exact res_one (v := .bool (decide (64 < (f.length : Int)))) rfl rfl ⟨rfl, hw⟩

set_option maxRecDepth 8000 in
theorem largeIdx_spec {w0 : World} {a : Value} {cs : List Value} {L : List (List Fact)} (ha : RS tVal w0 a cs) (hL : RConds w0 cs L) :
    Calls Try.prog 80 #[a, .func (.func 71) #[] #[]] w0 fun e w' => (∃ r : Int, e = .returned (.int .i64 r) ∧ (0 ≤ r ↔ ∃ i, i < L.length ∧ 64 < (L.getD i []).length)) ∧ Sat w0 w' [] := by
  have hla := ha.big
  have hcl := hL.1
  have hw := Sat.start w0
  refine calls_of_vc (args := [a, .func (.func 71) #[] #[]]) mixed Try.func80 rfl (by kernel_rfl) (Nat.le_of_ble_eq_true rfl) ?_
  repeat (first | refine go_run ?_ | (refine go_newP ?_; clear hw; intro p w hw) | (refine go_newW ?_; clear hw; intro w hw) | (refine go_newS ?_; clear hw; intro s w hw))
  refine vc_loop [4, 5, 8, 9, 10, 11, 12, 13, 14, 15, 16, 17, 18] (G := Nat) (fun k => [(8, .int .i64 k)]) (fun k w => k ≤ L.length ∧ (∀ i, i < k → (L.getD i []).length ≤ 64) ∧ Sat w0 w []) (fun k => L.length - k) 0 (fun _ => rfl) ⟨rfl, trivial⟩ ⟨Nat.zero_le _, fun i hi => absurd hi (Nat.not_lt_zero _), hw⟩ ?_
  clear hw
  rintro σ k w ⟨hk, hpre, hw⟩
  repeat (first | refine go_run ?_ | (refine go_newP ?_; clear hw; intro p w hw) | (refine go_newW ?_; clear hw; intro w hw) | (refine go_newS ?_; clear hw; intro s w hw))
  refine go_if (fun h1 => ?_) (fun h1 => ?_)
  · repeat (first | refine go_run ?_ | (refine go_newP ?_; clear hw; intro p w hw) | (refine go_newW ?_; clear hw; intro w hw) | (refine go_newS ?_; clear hw; intro s w hw))
    refine st_callF (cs := []) rfl rfl (large1_spec ((hL.2 k (by omega)).at hw)) ?_
    rintro _ w' ⟨rfl, hk'⟩
    replace hw := hw.call0 hk'
    clear hk'
    refine ⟨_, rfl, ?_⟩
    repeat (first | refine go_run ?_ | (refine go_newP ?_; clear hw; intro p w hw) | (refine go_newW ?_; clear hw; intro w hw) | (refine go_newS ?_; clear hw; intro s w hw))
    refine go_if (fun h2 => ?_) (fun h2 => ?_)
    · repeat (first | refine go_run ?_ | (refine go_newP ?_; clear hw; intro p w hw) | (refine go_newW ?_; clear hw; intro w hw) | (refine go_newS ?_; clear hw; intro s w hw))
      exact res_one (v := .int .i64 k) rfl rfl ⟨⟨k, rfl, ⟨fun _ => ⟨k, by omega, by omega⟩, fun _ => by omega⟩⟩, hw⟩
    · repeat (first | refine go_run ?_ | (refine go_newP ?_; clear hw; intro p w hw) | (refine go_newW ?_; clear hw; intro w hw) | (refine go_newS ?_; clear hw; intro s w hw))
      refine ⟨k + 1, ⟨rfl, trivial⟩, by repeat (first | exact agree_refl | (apply agree_upd rfl) | (apply agree_mix rfl) | (apply agree_sets rfl)), ⟨by omega, fun i hi => ?_, hw⟩, by omega⟩
      by_cases h : i = k
      · subst h; omega
      · exact hpre i (by omega)
  · repeat (first | refine go_run ?_ | (refine go_newP ?_; clear hw; intro p w hw) | (refine go_newW ?_; clear hw; intro w hw) | (refine go_newS ?_; clear hw; intro s w hw))
    refine res_one (v := .int .i64 (-1)) rfl rfl ⟨⟨-1, rfl, ⟨fun h => absurd h (by decide), fun ⟨i, hi, hb⟩ => ?_⟩⟩, hw⟩
    have := hpre i (by omega)
    omega

set_option maxRecDepth 8000 in
theorem largeHas_spec {w0 : World} {a : Value} {cs : List Value} {L : List (List Fact)} (ha : RS tVal w0 a cs) (hL : RConds w0 cs L) :
    Calls Try.prog 70 #[a, .func (.func 71) #[] #[]] w0 fun e w' => (∃ r, e = .returned (.bool r) ∧ (r = true ↔ ∃ i, i < L.length ∧ 64 < (L.getD i []).length)) ∧ Sat w0 w' [] := by
  have hw := Sat.start w0
  refine calls_of_vc (args := [a, .func (.func 71) #[] #[]]) mixed Try.func70 rfl (by kernel_rfl) (Nat.le_of_ble_eq_true rfl) ?_
  repeat (first | refine go_run ?_ | (refine go_newP ?_; clear hw; intro p w hw) | (refine go_newW ?_; clear hw; intro w hw) | (refine go_newS ?_; clear hw; intro s w hw))
  refine st_call rfl (largeIdx_spec (ha.at hw) (hL.at hw)) ?_
  rintro _ w' ⟨⟨r, rfl, hr⟩, hk'⟩
  replace hw := hw.call0 hk'
  clear hk'
  refine ⟨_, rfl, ?_⟩
  repeat (first | refine go_run ?_ | (refine go_newP ?_; clear hw; intro p w hw) | (refine go_newW ?_; clear hw; intro w hw) | (refine go_newS ?_; clear hw; intro s w hw))
  refine res_one (v := .bool (decide (0 ≤ r))) rfl rfl ⟨⟨_, rfl, ?_⟩, hw⟩
  rw [decide_eq_true_eq, hr]

set_option maxRecDepth 8000 in
set_option maxHeartbeats 2000000 in
theorem large_spec {w0 : World} {a b c d : Value} {vs : List OpV} {t : TTask} (ht : RTask w0 a b c d vs t) :
    Calls Try.prog 52 #[.agg #[a, b, c, d]] w0 fun e w' => (∃ r, e = .returned (.bool r) ∧ (r = true ↔ LargeT t)) ∧ Sat w0 w' [] := by
  have ht' := ht
  obtain ⟨ha, hb, hc, hd⟩ := ht
  have hrs := hd.rs
  have hdl := hd.len
  have hla := ha.big
  have hll := hrs.big
  have hw := Sat.start w0
  refine calls_of_vc (args := [.agg #[a, b, c, d]]) mixed Try.func52 rfl (by kernel_rfl) (Nat.le_of_ble_eq_true rfl) ?_
  repeat (first | refine go_run ?_ | (refine go_newP ?_; clear hw; intro p w hw) | (refine go_newW ?_; clear hw; intro w hw) | (refine go_newS ?_; clear hw; intro s w hw))
  refine go_if (fun h1 => ?_) (fun h1 => ?_)
  · repeat (first | refine go_run ?_ | (refine go_newP ?_; clear hw; intro p w hw) | (refine go_newW ?_; clear hw; intro w hw) | (refine go_newS ?_; clear hw; intro s w hw))
    refine res_one (v := .bool true) rfl rfl ⟨⟨true, rfl, iffT ?_⟩, hw.tail⟩
    unfold LargeT
    omega
  · repeat (first | refine go_run ?_ | (refine go_newP ?_; clear hw; intro p w hw) | (refine go_newW ?_; clear hw; intro w hw) | (refine go_newS ?_; clear hw; intro s w hw))
    obtain ⟨pt, hpt⟩ : ∃ pt, pt = p := ⟨p, rfl⟩
    subst hpt
    refine vc_loop [2, 4, 18, 19, 20, 21, 22, 23, 24, 25, 26] (G := Nat) (fun k => [(18, .int .i64 k)]) (fun k w => k ≤ t.ops.length ∧ (∀ i, i < k → (t.ops.getD i dOp).effs.length ≤ 64) ∧ Sat w0 w [Box pt 26 [a, b, c, d]]) (fun k => t.ops.length - k) 0 (fun _ => rfl) ⟨rfl, trivial⟩ ⟨Nat.zero_le _, fun i hi => absurd hi (Nat.not_lt_zero _), hw⟩ ?_
    clear hw
    rintro σ k w ⟨hk, hef, hw⟩
    repeat (first | refine go_run ?_ | (refine go_newP ?_; clear hw; intro p w hw) | (refine go_newW ?_; clear hw; intro w hw) | (refine go_newS ?_; clear hw; intro s w hw))
    refine go_if (fun h2 => ?_) (fun h2 => ?_)
    · have hop := hd.at_ k (by omega)
      have hone := hop.one
      obtain ⟨es, hes⟩ := hop.effs
      have hers := hes.rs
      have hel := hes.len
      have heb := hers.big
      repeat (first | refine go_run ?_ | (refine go_newP ?_; clear hw; intro p w hw) | (refine go_newW ?_; clear hw; intro w hw) | (refine go_newS ?_; clear hw; intro s w hw))
      refine go_if (fun h3 => ?_) (fun h3 => ?_)
      · repeat (first | refine go_run ?_ | (refine go_newP ?_; clear hw; intro p w hw) | (refine go_newW ?_; clear hw; intro w hw) | (refine go_newS ?_; clear hw; intro s w hw))
        refine res_one (v := .bool true) rfl rfl ⟨⟨true, rfl, iffT (.inr (.inr (.inl ⟨k, by omega, by omega⟩)))⟩, hw.tail.tail⟩
      · repeat (first | refine go_run ?_ | (refine go_newP ?_; clear hw; intro p w hw) | (refine go_newW ?_; clear hw; intro w hw) | (refine go_newS ?_; clear hw; intro s w hw))
        refine ⟨k + 1, ⟨rfl, trivial⟩, by repeat (first | exact agree_refl | (apply agree_upd rfl) | (apply agree_mix rfl) | (apply agree_sets rfl)), ⟨by omega, fun i hi => ?_, hw.tail⟩, by omega⟩
        by_cases h : i = k
        · subst h; omega
        · exact hef i (by omega)
    · repeat (first | refine go_run ?_ | (refine go_newP ?_; clear hw; intro p w hw) | (refine go_newW ?_; clear hw; intro w hw) | (refine go_newS ?_; clear hw; intro s w hw))
      refine st_call rfl (conditions_spec ht' hw (by omega) (fun i hi => hef i (by omega))) ?_
      rintro _ w' ⟨s, cs, rfl, hcs, hk'⟩
      replace hw := hw.call1 hk'
      clear hk'
      refine ⟨_, rfl, ?_⟩
      repeat (first | refine go_run ?_ | (refine go_newP ?_; clear hw; intro p w hw) | (refine go_newW ?_; clear hw; intro w hw) | (refine go_newS ?_; clear hw; intro s w hw))
      refine st_call rfl (largeHas_spec (a := s) (rsO hw) (hcs.at hw)) ?_
      rintro _ w' ⟨⟨r, rfl, hr⟩, hk'⟩
      replace hw := hw.call0 hk'
      clear hk'
      refine ⟨_, rfl, ?_⟩
      repeat (first | refine go_run ?_ | (refine go_newP ?_; clear hw; intro p w hw) | (refine go_newW ?_; clear hw; intro w hw) | (refine go_newS ?_; clear hw; intro s w hw))
      refine res_one (v := .bool r) rfl rfl ⟨⟨r, rfl, hr.trans ⟨fun h => .inr (.inr (.inr h)), fun h => ?_⟩⟩, hw.tail.tail⟩
      rcases h with h | h | ⟨i, hi, h⟩ | h
      · omega
      · omega
      · have := hef i (by omega); omega
      · exact h
end Go.Proofs.Ytoddgmmkpiojlaa
