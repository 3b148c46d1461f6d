/-
  Several texts as one: WTState, WSort, WSlices, WTCheck2.
-/
import Derived.Test.YtoddgmmkpiojlaaMW1
import Derived.Test.YtoddgmmkpiojlaaMTA
import Derived.Test.YtoddgmmkpiojlaaMSlB
import Derived.Shelf.Sort.Plain
import Derived.Shelf.Slices.In.SortNone
import Derived.Shelf.Slices.CompactI
set_option linter.unusedSimpArgs false
set_option linter.unusedVariables false

/-
  Contracts of the helpers 'Ints', 'Is', 'Many', 'Small', 'Apply', 'Rank'.
-/
namespace Go.Proofs.Ytoddgmmkpiojlaa
open Go.Sl
attribute [local irreducible] vc opsW opsD opV opW PureV ReadV Thn Blk

theorem many_step {n k m : Int} (hn : 1 ≤ n) (hk : 1 ≤ k) (hm : n ≤ m) (h0 : m ≤ 65536) : let x := n * (if m + 1 < (if 0 > k then 0 else k) then m + 1 else (if 0 > k then 0 else k))
    0 ≤ x ∧ x ≤ 4295098368 ∧ (x ≤ m → x = n * k) ∧ (m < x → m < n * k) := by
  intro x
  have e : x = n * min k (m + 1) := by
    show n * (if m + 1 < (if 0 > k then 0 else k) then m + 1 else (if 0 > k then 0 else k)) = _
    have hk0 : (if 0 > k then 0 else k) = k := if_neg (by omega)
    rw [hk0]
    congr 1
    split <;> omega
  have h2 : n * min k (m + 1) ≤ 65536 * 65537 := Int.mul_le_mul (by omega) (by omega) (by omega) (by omega)
  have h3 : 0 ≤ n * min k (m + 1) := Int.mul_nonneg (by omega) (by omega)
  refine ⟨by omega, by omega, fun h => ?_, fun h => ?_⟩
  · rw [e] at h ⊢
    by_cases hh : k ≤ m + 1
    · rw [Int.min_eq_left hh]
    · rw [Int.min_eq_right (by omega)] at h
      have : 1 * (m + 1) ≤ n * (m + 1) := Int.mul_le_mul_of_nonneg_right hn (by omega)
      omega
  · rw [e] at h
    have : n * min k (m + 1) ≤ n * k := Int.mul_le_mul_of_nonneg_left (by omega) (by omega)
    omega
def manyL (vars : List Int) (m : Int) : Int := if prodL vars ≤ m then prodL vars else m + 1
set_option maxRecDepth 8000 in
theorem Many_spec {w0 : World} {a : Value} {vars : List Int} {m : Int} (ha : RS tInt w0 a vars) (hp : ∀ x ∈ vars, 1 ≤ x) (hm1 : 1 ≤ m) (hm2 : m ≤ 65536) :
    Calls Try.prog 15 #[a, .int .i64 m] w0 fun e w' => e = .returned (.int .i64 (manyL vars m)) ∧ Sat w0 w' [] := by
  have hla := ha.big
  have hw := Sat.start w0
  refine calls_of_vc (args := [a, .int .i64 m]) mixed Try.func15 rfl (by kernel_rfl) (Nat.le_of_ble_eq_true rfl) ?_
  repeat (first | refine go_run ?_ | (refine go_newP ?_; clear hw; intro p w hw) | (refine go_newW ?_; clear hw; intro w hw) | (refine go_newS ?_; clear hw; intro s w hw))
  refine vc_loop2 [4, 5, 7, 10, 11, 12, 13, 14, 15, 16, 17, 18, 19, 20, 21, 22, 23, 24, 25, 26] (G := Nat) (H := Int) (fun k n => [(10, .int .i64 k), (5, .int .i64 n)]) (fun k n w => k ≤ vars.length ∧ n = prodL (vars.take k) ∧ n ≤ m ∧ Sat w0 w []) (fun k _ => vars.length - k) 0 1 (fun _ _ => rfl) ⟨rfl, rfl, trivial⟩ ⟨Nat.zero_le _, rfl, hm1, hw⟩ ?_
  clear hw
  rintro σ k n w ⟨hk, hn, hnm, hw⟩
  repeat (first | refine go_run ?_ | (refine go_newP ?_; clear hw; intro p w hw) | (refine go_newW ?_; clear hw; intro w hw) | (refine go_newS ?_; clear hw; intro s w hw))
  refine go_if (fun h1 => ?_) (fun h1 => ?_)
  · have hkl : k < vars.length := by omega
    have hx := hp _ (mem_getD tInt.dflt hkl)
    have hpos : 1 ≤ n := by rw [hn]; exact prodL_pos fun x hx => hp x (List.mem_of_mem_take hx)
    obtain ⟨b0, b1, b2, b3⟩ := many_step hpos hx hnm hm2
    have hs : prodL (vars.take (k + 1)) = n * vars.getD k tInt.dflt := by rw [take_snoc tInt.dflt hkl, prodL_snoc, hn]
    repeat (first | refine go_run ?_ | (refine go_newP ?_; clear hw; intro p w hw) | (refine go_newW ?_; clear hw; intro w hw) | (refine go_newS ?_; clear hw; intro s w hw))
    refine go_if (fun h2 => ?_) (fun h2 => ?_)
    · repeat (first | refine go_run ?_ | (refine go_newP ?_; clear hw; intro p w hw) | (refine go_newW ?_; clear hw; intro w hw) | (refine go_newS ?_; clear hw; intro s w hw))
      refine res_one (v := .int .i64 (m + 1)) rfl rfl ⟨?_, hw⟩
      have h3 := b3 (by omega)
      have h4 : prodL (vars.take (k + 1)) ≤ prodL vars := by
        have := prodL_mono (l := vars.take (k + 1)) (m := vars.drop (k + 1)) (fun x hx => hp x (List.mem_of_mem_drop hx)) (fun x hx => hp x (List.mem_of_mem_take hx))
        rwa [List.take_append_drop] at this
      rw [manyL, if_neg (by omega)]
    · repeat (first | refine go_run ?_ | (refine go_newP ?_; clear hw; intro p w hw) | (refine go_newW ?_; clear hw; intro w hw) | (refine go_newS ?_; clear hw; intro s w hw))
      refine ⟨k + 1, _, ⟨rfl, rfl, trivial⟩, by repeat (first | exact agree_refl | (apply agree_upd rfl) | (apply agree_mix rfl) | (apply agree_sets rfl)), ⟨by omega, ?_, by omega, hw⟩, by omega⟩
      rw [hs]; exact b2 (by omega)
  · repeat (first | refine go_run ?_ | (refine go_newP ?_; clear hw; intro p w hw) | (refine go_newW ?_; clear hw; intro w hw) | (refine go_newS ?_; clear hw; intro s w hw))
    refine res_one (v := .int .i64 n) rfl rfl ⟨?_, hw⟩
    rw [List.take_of_length_le (by omega)] at hn
    rw [manyL, ← hn, if_pos hnm]

set_option maxRecDepth 8000 in
set_option maxHeartbeats 2000000 in
theorem Small_spec {w0 : World} {a b c d : Value} {vs : List OpV} {t : TTask} (ht : RTask w0 a b c d vs t) :
    Calls Try.prog 6 #[.agg #[a, b, c, d]] w0 fun e w' => (∃ r, e = .returned (.bool r) ∧ (r = true ↔ SmallT t)) ∧ Sat w0 w' [] := by
  have ht' := ht
  obtain ⟨ha, hb, hc, hd⟩ := ht
  have hrs := hd.rs
  have hdl := hd.len
  have hla := ha.big
  have hll := hrs.big
  have hw := Sat.start w0
  refine calls_of_vc (args := [.agg #[a, b, c, d]]) mixed Try.func6 rfl (by kernel_rfl) (Nat.le_of_ble_eq_true rfl) ?_
  repeat (first | refine go_run ?_ | (refine go_newP ?_; clear hw; intro p w hw) | (refine go_newW ?_; clear hw; intro w hw) | (refine go_newS ?_; clear hw; intro s w hw))
  refine go_if (fun h1 => ?_) (fun h1 => ?_)
  · repeat (first | refine go_run ?_ | (refine go_newP ?_; clear hw; intro p w hw) | (refine go_newW ?_; clear hw; intro w hw) | (refine go_newS ?_; clear hw; intro s w hw))
    refine res_one (v := .bool false) rfl rfl ⟨⟨false, rfl, iffF fun h => ?_⟩, hw.tail⟩
    have := h.vars
    have := h.ops
    omega
  · repeat (first | refine go_run ?_ | (refine go_newP ?_; clear hw; intro p w hw) | (refine go_newW ?_; clear hw; intro w hw) | (refine go_newS ?_; clear hw; intro s w hw))
    obtain ⟨pt, hpt⟩ : ∃ pt, pt = p := ⟨p, rfl⟩
    subst hpt
    refine vc_loop [2, 4, 18, 19, 20, 21, 22, 23, 24, 25, 26] (G := Nat) (fun k => [(18, .int .i64 k)]) (fun k w => k ≤ t.ops.length ∧ (∀ i, i < k → (t.ops.getD i dOp).effs.length ≤ 8) ∧ Sat w0 w [Box pt 26 [a, b, c, d]]) (fun k => t.ops.length - k) 0 (fun _ => rfl) ⟨rfl, trivial⟩ ⟨Nat.zero_le _, fun i hi => absurd hi (Nat.not_lt_zero _), hw⟩ ?_
    clear hw
    rintro σ k w ⟨hk, hef, hw⟩
    repeat (first | refine go_run ?_ | (refine go_newP ?_; clear hw; intro p w hw) | (refine go_newW ?_; clear hw; intro w hw) | (refine go_newS ?_; clear hw; intro s w hw))
    refine go_if (fun h2 => ?_) (fun h2 => ?_)
    · have hop := hd.at_ k (by omega)
      have hone := hop.one
      obtain ⟨es, hes⟩ := hop.effs
      have hers := hes.rs
      have hel := hes.len
      have heb := hers.big
      repeat (first | refine go_run ?_ | (refine go_newP ?_; clear hw; intro p w hw) | (refine go_newW ?_; clear hw; intro w hw) | (refine go_newS ?_; clear hw; intro s w hw))
      refine go_if (fun h3 => ?_) (fun h3 => ?_)
      · repeat (first | refine go_run ?_ | (refine go_newP ?_; clear hw; intro p w hw) | (refine go_newW ?_; clear hw; intro w hw) | (refine go_newS ?_; clear hw; intro s w hw))
        refine res_one (v := .bool false) rfl rfl ⟨⟨false, rfl, iffF fun h => ?_⟩, hw.tail.tail⟩
        have := h.effs k (by omega)
        omega
      · repeat (first | refine go_run ?_ | (refine go_newP ?_; clear hw; intro p w hw) | (refine go_newW ?_; clear hw; intro w hw) | (refine go_newS ?_; clear hw; intro s w hw))
        refine ⟨k + 1, ⟨rfl, trivial⟩, by repeat (first | exact agree_refl | (apply agree_upd rfl) | (apply agree_mix rfl) | (apply agree_sets rfl)), ⟨by omega, fun i hi => ?_, hw.tail⟩, by omega⟩
        by_cases h : i = k
        · subst h; omega
        · exact hef i (by omega)
    · repeat (first | refine go_run ?_ | (refine go_newP ?_; clear hw; intro p w hw) | (refine go_newW ?_; clear hw; intro w hw) | (refine go_newS ?_; clear hw; intro s w hw))
      refine st_call rfl (Good_spec (ht'.at hw)) ?_
      rintro _ w' ⟨⟨r, rfl, hr⟩, hk'⟩
      replace hw := hw.call0 hk'
      clear hk'
      refine ⟨_, rfl, ?_⟩
      cases r with
      | false =>
        repeat (first | refine go_run ?_ | (refine go_newP ?_; clear hw; intro p w hw) | (refine go_newW ?_; clear hw; intro w hw) | (refine go_newS ?_; clear hw; intro s w hw))
        refine res_one (v := .bool false) rfl rfl ⟨⟨false, rfl, iffF fun h => ?_⟩, hw.tail⟩
        have := hr.2 h.good
        cases this
      | true =>
        have hg := hr.1 rfl
        repeat (first | refine go_run ?_ | (refine go_newP ?_; clear hw; intro p w hw) | (refine go_newW ?_; clear hw; intro w hw) | (refine go_newS ?_; clear hw; intro s w hw))
        refine st_call rfl (Many_spec (m := 512) (ha.at hw) hg.pos (by decide) (by decide)) ?_
        rintro _ w' ⟨rfl, hk'⟩
        replace hw := hw.call0 hk'
        clear hk'
        refine ⟨_, rfl, ?_⟩
        repeat (first | refine go_run ?_ | (refine go_newP ?_; clear hw; intro p w hw) | (refine go_newW ?_; clear hw; intro w hw) | (refine go_newS ?_; clear hw; intro s w hw))
        refine res_one (v := .bool (decide (manyL t.vars 512 ≤ 512))) rfl rfl ⟨⟨_, rfl, ?_⟩, hw.tail⟩
        rw [decide_eq_true_eq, manyL]
        constructor
        · intro h
          exact ⟨hg, by omega, by omega, fun i hi => hef i (by omega), by split at h <;> omega⟩
        · intro h
          rw [if_pos h.many]; exact h.many

theorem StateOk.take {vars s : List Int} (h : StateOk vars s) (k : Nat) : StateOk (vars.take k) (s.take k) := by
  refine ⟨by simp [h.1], fun i hi => ?_⟩
  simp only [List.length_take] at hi
  have := h.2 i (by omega)
  simp only [List.getD_eq_getElem?_getD] at this ⊢
  rwa [List.getElem?_take_of_lt (by omega), List.getElem?_take_of_lt (by omega)]
theorem prodL_take {l : List Int} (h : ∀ x ∈ l, 1 ≤ x) (k : Nat) : prodL (l.take k) ≤ prodL l := by
  have := prodL_mono (l := l.take k) (m := l.drop k) (fun x hx => h x (List.mem_of_mem_drop hx)) (fun x hx => h x (List.mem_of_mem_take hx))
  rwa [List.take_append_drop] at this
theorem rankL_take {vars s : List Int} (h : StateOk vars s) {k : Nat} (hk : k < s.length) : rankL (vars.take (k + 1)) (s.take (k + 1)) = rankL (vars.take k) (s.take k) * vars.getD k tInt.dflt + s.getD k tInt.dflt := by
  rw [take_snoc tInt.dflt hk, take_snoc tInt.dflt (show k < vars.length by rw [← h.1]; exact hk), rankL_snoc (by simp [h.1])]
theorem rankL_step {vars s : List Int} (h : StateOk vars s) (hp : ∀ x ∈ vars, 1 ≤ x) {k : Nat} (hk : k < s.length) : 0 ≤ rankL (vars.take k) (s.take k) * vars.getD k tInt.dflt ∧ rankL (vars.take k) (s.take k) * vars.getD k tInt.dflt + s.getD k tInt.dflt < prodL vars := by
  have h1 := (rankL_bound (h.take k)).1
  have h2 := h.2 k hk
  have h3 := (rankL_bound (h.take (k + 1))).2
  rw [rankL_take h hk] at h3
  have h4 := prodL_take hp (k + 1)
  exact ⟨Int.mul_nonneg h1 (by omega), by omega⟩

end Go.Proofs.Ytoddgmmkpiojlaa

/-
  The kit's contracts of 'slices.Sort' and 'slices.Compact' over ints, at this program.
-/
namespace Go.Proofs.Ytoddgmmkpiojlaa
open Go.Sl Go Go.Shelf

end Go.Proofs.Ytoddgmmkpiojlaa

/-
  Contracts of 'slices.Index', 'Contains' and 'Clone' over ints.
-/
namespace Go.Proofs.Ytoddgmmkpiojlaa
open Go.Sl Go
attribute [local irreducible] vc opsW opsD opV opW PureV ReadV Thn Blk

set_option maxRecDepth 8000 in
theorem Index_spec {w0 : World} {a : Value} {xs : List Int} {v : Int} (ha : RS tInt w0 a xs) :
    Calls Try.prog 84 #[a, .int .i64 v] w0 fun e w' => (∃ r : Int, e = .returned (.int .i64 r) ∧ (0 ≤ r ↔ v ∈ xs)) ∧ Sat w0 w' [] := by
  have hla := ha.big
  have hw := Sat.start w0
  refine calls_of_vc (args := [a, .int .i64 v]) mixed Try.func84 rfl (by kernel_rfl) (Nat.le_of_ble_eq_true rfl) ?_
  repeat (first | refine go_run ?_ | (refine go_newP ?_; clear hw; intro p w hw) | (refine go_newW ?_; clear hw; intro w hw) | (refine go_newS ?_; clear hw; intro s w hw))
  refine vc_loop [4, 5, 8, 9, 10, 11, 12, 13, 14, 15, 16, 17, 18] (G := Nat) (fun k => [(8, .int .i64 k)]) (fun k w => k ≤ xs.length ∧ (∀ i, i < k → xs.getD i tInt.dflt ≠ v) ∧ Sat w0 w []) (fun k => xs.length - k) 0 (fun _ => rfl) ⟨rfl, trivial⟩ ⟨Nat.zero_le _, fun i hi => absurd hi (Nat.not_lt_zero _), hw⟩ ?_
  clear hw
  rintro σ k w ⟨hk, hpre, hw⟩
  repeat (first | refine go_run ?_ | (refine go_newP ?_; clear hw; intro p w hw) | (refine go_newW ?_; clear hw; intro w hw) | (refine go_newS ?_; clear hw; intro s w hw))
  refine go_if (fun h1 => ?_) (fun h1 => ?_)
  · have hkl : k < xs.length := by omega
    repeat (first | refine go_run ?_ | (refine go_newP ?_; clear hw; intro p w hw) | (refine go_newW ?_; clear hw; intro w hw) | (refine go_newS ?_; clear hw; intro s w hw))
    refine go_if (fun h2 => ?_) (fun h2 => ?_)
    · repeat (first | refine go_run ?_ | (refine go_newP ?_; clear hw; intro p w hw) | (refine go_newW ?_; clear hw; intro w hw) | (refine go_newS ?_; clear hw; intro s w hw))
      refine res_one (v := .int .i64 k) rfl rfl ⟨⟨k, rfl, ⟨fun _ => ?_, fun _ => by omega⟩⟩, hw⟩
      rw [h2]; exact mem_getD _ hkl
    · repeat (first | refine go_run ?_ | (refine go_newP ?_; clear hw; intro p w hw) | (refine go_newW ?_; clear hw; intro w hw) | (refine go_newS ?_; clear hw; intro s w hw))
      refine ⟨k + 1, ⟨rfl, trivial⟩, by repeat (first | exact agree_refl | (apply agree_upd rfl) | (apply agree_mix rfl) | (apply agree_sets rfl)), ⟨by omega, fun i hi => ?_, hw⟩, by omega⟩
      by_cases h : i = k
      · subst h; exact fun h => h2 h.symm
      · exact hpre i (by omega)
  · repeat (first | refine go_run ?_ | (refine go_newP ?_; clear hw; intro p w hw) | (refine go_newW ?_; clear hw; intro w hw) | (refine go_newS ?_; clear hw; intro s w hw))
    refine res_one (v := .int .i64 (-1)) rfl rfl ⟨⟨-1, rfl, ⟨fun h => by omega, fun h => ?_⟩⟩, hw⟩
    obtain ⟨i, hi, he⟩ := List.mem_iff_getElem.1 h
    exact absurd (by rw [getD_at hi]; exact he) (hpre i (by omega))

set_option maxRecDepth 8000 in
theorem Contains_spec {w0 : World} {a : Value} {xs : List Int} {v : Int} (ha : RS tInt w0 a xs) :
    Calls Try.prog 77 #[a, .int .i64 v] w0 fun e w' => e = .returned (.bool (decide (v ∈ xs))) ∧ Sat w0 w' [] := by
  have hw := Sat.start w0
  refine calls_of_vc (args := [a, .int .i64 v]) mixed Try.func77 rfl (by kernel_rfl) (Nat.le_of_ble_eq_true rfl) ?_
  repeat (first | refine go_run ?_ | (refine go_newP ?_; clear hw; intro p w hw) | (refine go_newW ?_; clear hw; intro w hw) | (refine go_newS ?_; clear hw; intro s w hw))
  refine st_call rfl (Index_spec ha) ?_
  rintro _ w' ⟨⟨r, rfl, hr⟩, hk'⟩
  replace hw := hw.call0 hk'
  clear hk'
  refine ⟨_, rfl, ?_⟩
  repeat (first | refine go_run ?_ | (refine go_newP ?_; clear hw; intro p w hw) | (refine go_newW ?_; clear hw; intro w hw) | (refine go_newS ?_; clear hw; intro s w hw))
  refine res_one (v := .bool (decide (0 ≤ r))) rfl rfl ⟨?_, hw⟩
  rw [decide_eq_decide.2 hr]

set_option maxRecDepth 8000 in
theorem Clone_spec {w0 : World} {a : Value} {xs : List Int} (ha : RS tInt w0 a xs) (hn : xs.length ≤ 1099511627776) :
    Calls Try.prog 38 #[a] w0 fun e w' => ∃ s, e = .returned s ∧ Sat w0 w' [OS tInt 3 s xs] := by
  have hw := Sat.start w0
  obtain ⟨ad, cap, hs⟩ := ha.shape
  subst hs
  refine calls_of_vc (args := [.slice ad xs.length cap]) mixed Try.func38 rfl (by kernel_rfl) (Nat.le_of_ble_eq_true rfl) ?_
  repeat (first | refine go_run ?_ | (refine go_newP ?_; clear hw; intro p w hw) | (refine go_newW ?_; clear hw; intro w hw) | (refine go_newS ?_; clear hw; intro s w hw))
  refine step_pure rfl (pv_eqlNilS (a := ad) (n := xs.length) (c := cap) rfl) ?_
  cases ad with
  | none =>
    have h0 : xs = [] := by
      rcases Nat.eq_zero_or_pos xs.length with h | h
      · exact List.eq_nil_of_length_eq_zero h
      · obtain ⟨p, c2, he, _⟩ := ha.some (by decide) h
        cases he
    subst h0
    repeat (first | refine go_run ?_ | (refine go_newP ?_; clear hw; intro p w hw) | (refine go_newW ?_; clear hw; intro w hw) | (refine go_newS ?_; clear hw; intro s w hw))
    exact res_one (v := .slice none 0 0) rfl rfl ⟨_, rfl, hw.nil⟩
  | some p =>
    repeat (first | refine go_run ?_ | (refine go_newP ?_; clear hw; intro p w hw) | (refine go_newW ?_; clear hw; intro w hw) | (refine go_newS ?_; clear hw; intro s w hw))
    refine st_buildSlice0 tInt hw ?_
    clear hw
    intro s1 w hw
    repeat (first | refine go_run ?_ | (refine go_newP ?_; clear hw; intro p w hw) | (refine go_newW ?_; clear hw; intro w hw) | (refine go_newS ?_; clear hw; intro s w hw))
    rw [List.nil_append] at hw
    exact res_one (v := s) rfl rfl ⟨_, rfl, hw⟩
end Go.Proofs.Ytoddgmmkpiojlaa

/-
  Contracts of 'conditions', 'large' and 'Check'.
-/
namespace Go.Proofs.Ytoddgmmkpiojlaa
open Go.Sl
attribute [local irreducible] vc opsW opsD opV opW PureV ReadV Thn Blk

def RConds (w : World) (cs : List Value) (L : List (List Fact)) : Prop := cs.length = L.length ∧ ∀ i, i < L.length → RS tFact w (vget cs i) (L.getD i [])
theorem RConds.snoc {w : World} {cs : List Value} {L : List (List Fact)} {v : Value} {f : List Fact} (h : RConds w cs L) (hv : RS tFact w v f) : RConds w (cs ++ [v]) (L ++ [f]) := by
  refine ⟨by simp [h.1], fun i hi => ?_⟩
  simp only [List.length_append, List.length_cons, List.length_nil] at hi
  by_cases e : i < L.length
  · have := h.2 i e
    rw [vget_eq] at this ⊢
    simp only [List.getD_eq_getElem?_getD] at this ⊢
    rw [List.getElem?_append_left (by rw [h.1]; exact e), List.getElem?_append_left e]
    exact this
  · have e2 : i = L.length := by omega
    subst e2
    rw [vget_eq]
    simp only [List.getD_eq_getElem?_getD]
    rw [List.getElem?_append_right (by rw [h.1]; exact Nat.le_refl _), List.getElem?_append_right (Nat.le_refl _), h.1]
    simpa using hv
theorem RConds.at {w0 w : World} {Γ : List HP} {cs : List Value} {L : List (List Fact)} (h : RConds w0 cs L) (hw : Sat w0 w Γ) : RConds w cs L := ⟨h.1, fun i hi => (h.2 i hi).at hw⟩
def condsJ (t : TTask) (k j : Nat) : List (List Fact) := condsK t k ++ (t.ops.getD k dOp).pre :: ((t.ops.getD k dOp).effs.take j).map (·.when)
theorem condsJ_succ (t : TTask) {k j : Nat} (hj : j < (t.ops.getD k dOp).effs.length) : condsJ t k (j + 1) = condsJ t k j ++ [((t.ops.getD k dOp).effs.getD j dEff).when] := by
  unfold condsJ
  generalize t.ops.getD k dOp = o at *
  rw [take_snoc dEff hj]; simp
theorem condsJ_end (t : TTask) {k : Nat} (hk : k < t.ops.length) : condsJ t k (t.ops.getD k dOp).effs.length = condsK t (k + 1) := by
  rw [condsK_succ t hk]
  unfold condsJ opConds
  generalize t.ops.getD k dOp = o at *
  simp
theorem condsJ_len (t : TTask) {k j : Nat} (hj : j ≤ (t.ops.getD k dOp).effs.length) : (condsJ t k j).length = (condsK t k).length + 1 + j := by
  unfold condsJ
  generalize t.ops.getD k dOp = o at *
  simp; omega

set_option maxRecDepth 8000 in
set_option maxHeartbeats 2000000 in
theorem conditions_spec {wb w0 : World} {Γ : List HP} {a b c d : Value} {vs : List OpV} {t : TTask} (htb : RTask wb a b c d vs t) (hs : Sat wb w0 Γ) (hn : t.ops.length ≤ 4096) (he : ∀ i, i < t.ops.length → (t.ops.getD i dOp).effs.length ≤ 64) :
    Calls Try.prog 53 #[.agg #[a, b, c, d]] w0 fun e w' => ∃ s cs, e = .returned s ∧ RConds wb cs (conds t) ∧ Sat w0 w' [OS tVal 23 s cs] := by
  have hdb := htb.ops
  have hcb := htb.goal
  obtain ⟨ha, hb, hc, hd⟩ := htb.at hs
  have hrs := hd.rs
  have hdl := hd.len
  have hw := Sat.start w0
  refine calls_of_vc (args := [.agg #[a, b, c, d]]) mixed Try.func53 rfl (by kernel_rfl) (Nat.le_of_ble_eq_true rfl) ?_
  repeat (first | refine go_run ?_ | (refine go_newP ?_; clear hw; intro p w hw) | (refine go_newW ?_; clear hw; intro w hw) | (refine go_newS ?_; clear hw; intro s w hw))
  obtain ⟨pt, hpt⟩ : ∃ pt, pt = p := ⟨p, rfl⟩
  subst hpt
  have hc0 : RConds wb [c] (condsK t 0) := by
    rw [condsK_zero]
    refine ⟨rfl, fun i hi => ?_⟩
    simp at hi
    subst hi
    rw [vget_eq]
    simpa using hcb
  refine vc_loop2 [3, 5, 7, 14, 15, 16, 17, 18, 19, 20, 21, 22, 23, 24, 25, 26, 27, 28, 29, 30, 31, 32, 33, 34, 35, 36] (G := Nat) (H := Value × List Value) (fun k x => [(14, .int .i64 k), (3, x.1)]) (fun k x w => k ≤ t.ops.length ∧ RConds wb x.2 (condsK t k) ∧ Sat w0 w [OS tVal 23 x.1 x.2, Box pt 26 [a, b, c, d]]) (fun k x => t.ops.length - k) 0 (s, [c]) (fun _ _ => rfl) ⟨rfl, rfl, trivial⟩ ⟨Nat.zero_le _, hc0, hw⟩ ?_
  clear hw
  rintro σ k ⟨s, cs⟩ w ⟨hk, hcs, hw⟩
  simp only at hcs hw
  have hkl := condsK_len t k hk he
  have hcl := hcs.1
  repeat (first | refine go_run ?_ | (refine go_newP ?_; clear hw; intro p w hw) | (refine go_newW ?_; clear hw; intro w hw) | (refine go_newS ?_; clear hw; intro s w hw))
  refine go_if (fun h1 => ?_) (fun h1 => ?_)
  · have hop := hd.at_ k (by omega)
    have hone := hop.one
    have hopb := hdb.at_ k (by omega)
    have hpreb := hopb.pre
    have hpre := hop.pre
    obtain ⟨es, hesb⟩ := hopb.effs
    have hes := hesb.at hs
    have hers := hes.rs
    have hel := hes.len
    have hek := he k (by omega)
    repeat (first | refine go_run ?_ | (refine go_newP ?_; clear hw; intro p w hw) | (refine go_newW ?_; clear hw; intro w hw) | (refine go_newS ?_; clear hw; intro s w hw))
    have hc1 : RConds wb (cs ++ [(eget tOp vs k).pre]) (condsJ t k 0) := by
      have := hcs.snoc hpreb
      simpa [condsJ] using this
    refine vc_loop2 [3, 7, 26, 27, 28, 29, 30, 31, 32, 33, 34, 35] (G := Nat) (H := Value × List Value) (fun j x => [(26, .int .i64 j), (3, x.1)]) (fun j x w => j ≤ (t.ops.getD k dOp).effs.length ∧ RConds wb x.2 (condsJ t k j) ∧ Sat w0 w [OS tVal 23 x.1 x.2, Box pt 26 [a, b, c, d]]) (fun j x => (t.ops.getD k dOp).effs.length - j) 0 (s, cs ++ [(eget tOp vs k).pre]) (fun _ _ => rfl) ⟨rfl, rfl, trivial⟩ ⟨Nat.zero_le _, hc1, hw.tail.tail⟩ ?_
    clear hw hcs hcl hc1
    rintro σ1 j ⟨s2, cs2⟩ w ⟨hj, hcs, hw⟩
    simp only at hcs hw
    have hjl := condsJ_len t hj
    have hcl := hcs.1
    repeat (first | refine go_run ?_ | (refine go_newP ?_; clear hw; intro p w hw) | (refine go_newW ?_; clear hw; intro w hw) | (refine go_newS ?_; clear hw; intro s w hw))
    refine go_if (fun h2 => ?_) (fun h2 => ?_)
    · have hej := hes.at_ j (by omega)
      have hone2 := hej.one
      have hwh := hej.when
      have hwhb := (hesb.at_ j (by omega)).when
      repeat (first | refine go_run ?_ | (refine go_newP ?_; clear hw; intro p w hw) | (refine go_newW ?_; clear hw; intro w hw) | (refine go_newS ?_; clear hw; intro s w hw))
      have hc3 := hcs.snoc hwhb
      rw [← condsJ_succ t (by omega)] at hc3
      exact ⟨j + 1, (s, cs2 ++ [(eget tEff es j).when]), ⟨rfl, rfl, trivial⟩, by repeat (first | exact agree_refl | (apply agree_upd rfl) | (apply agree_mix rfl) | (apply agree_sets rfl)), ⟨by omega, hc3, hw.tail.tail⟩, by omega⟩
    · have hje : j = (t.ops.getD k dOp).effs.length := by omega
      subst hje
      rw [condsJ_end t (by omega)] at hcs
      repeat (first | refine go_run ?_ | (refine go_newP ?_; clear hw; intro p w hw) | (refine go_newW ?_; clear hw; intro w hw) | (refine go_newS ?_; clear hw; intro s w hw))
      exact ⟨k + 1, (s2, cs2), ⟨rfl, rfl, trivial⟩, by repeat (first | exact agree_refl | (apply agree_upd rfl) | (apply agree_mix rfl) | (apply agree_sets rfl)), ⟨by omega, hcs, hw⟩, by omega⟩
  · have hke : k = t.ops.length := by omega
    subst hke
    repeat (first | refine go_run ?_ | (refine go_newP ?_; clear hw; intro p w hw) | (refine go_newW ?_; clear hw; intro w hw) | (refine go_newS ?_; clear hw; intro s w hw))
    exact res_one (v := s) rfl rfl ⟨s, cs, rfl, hcs, hw.only⟩

set_option maxRecDepth 8000 in
theorem large1_spec {w0 : World} {a : Value} {f : List Fact} (ha : RS tFact w0 a f) :
    Calls Try.prog 71 #[a] w0 fun e w' => e = .returned (.bool (decide (64 < (f.length : Int)))) ∧ Sat w0 w' [] := by
  have hla := ha.big
  have hw := Sat.start w0
  refine calls_of_vc (args := [a]) mixed Try.func71 rfl (by kernel_rfl) (Nat.le_of_ble_eq_true rfl) ?_
  repeat (first | refine go_run ?_ | (refine go_newP ?_; clear hw; intro p w hw) | (refine go_newW ?_; clear hw; intro w hw) | (refine go_newS ?_; clear hw; intro s w hw))
  exact res_one (v := .bool (decide (64 < (f.length : Int)))) rfl rfl ⟨rfl, hw⟩

set_option maxRecDepth 8000 in
theorem largeIdx_spec {w0 : World} {a : Value} {cs : List Value} {L : List (List Fact)} (ha : RS tVal w0 a cs) (hL : RConds w0 cs L) :
    Calls Try.prog 80 #[a, .func (.func 71) #[] #[]] w0 fun e w' => (∃ r : Int, e = .returned (.int .i64 r) ∧ (0 ≤ r ↔ ∃ i, i < L.length ∧ 64 < (L.getD i []).length)) ∧ Sat w0 w' [] := by
  have hla := ha.big
  have hcl := hL.1
  have hw := Sat.start w0
  refine calls_of_vc (args := [a, .func (.func 71) #[] #[]]) mixed Try.func80 rfl (by kernel_rfl) (Nat.le_of_ble_eq_true rfl) ?_
  repeat (first | refine go_run ?_ | (refine go_newP ?_; clear hw; intro p w hw) | (refine go_newW ?_; clear hw; intro w hw) | (refine go_newS ?_; clear hw; intro s w hw))
  refine vc_loop [4, 5, 8, 9, 10, 11, 12, 13, 14, 15, 16, 17, 18] (G := Nat) (fun k => [(8, .int .i64 k)]) (fun k w => k ≤ L.length ∧ (∀ i, i < k → (L.getD i []).length ≤ 64) ∧ Sat w0 w []) (fun k => L.length - k) 0 (fun _ => rfl) ⟨rfl, trivial⟩ ⟨Nat.zero_le _, fun i hi => absurd hi (Nat.not_lt_zero _), hw⟩ ?_
  clear hw
  rintro σ k w ⟨hk, hpre, hw⟩
  repeat (first | refine go_run ?_ | (refine go_newP ?_; clear hw; intro p w hw) | (refine go_newW ?_; clear hw; intro w hw) | (refine go_newS ?_; clear hw; intro s w hw))
  refine go_if (fun h1 => ?_) (fun h1 => ?_)
  · repeat (first | refine go_run ?_ | (refine go_newP ?_; clear hw; intro p w hw) | (refine go_newW ?_; clear hw; intro w hw) | (refine go_newS ?_; clear hw; intro s w hw))
    refine st_callF (cs := []) rfl rfl (large1_spec ((hL.2 k (by omega)).at hw)) ?_
    rintro _ w' ⟨rfl, hk'⟩
    replace hw := hw.call0 hk'
    clear hk'
    refine ⟨_, rfl, ?_⟩
    repeat (first | refine go_run ?_ | (refine go_newP ?_; clear hw; intro p w hw) | (refine go_newW ?_; clear hw; intro w hw) | (refine go_newS ?_; clear hw; intro s w hw))
    refine go_if (fun h2 => ?_) (fun h2 => ?_)
    · repeat (first | refine go_run ?_ | (refine go_newP ?_; clear hw; intro p w hw) | (refine go_newW ?_; clear hw; intro w hw) | (refine go_newS ?_; clear hw; intro s w hw))
      exact res_one (v := .int .i64 k) rfl rfl ⟨⟨k, rfl, ⟨fun _ => ⟨k, by omega, by omega⟩, fun _ => by omega⟩⟩, hw⟩
    · repeat (first | refine go_run ?_ | (refine go_newP ?_; clear hw; intro p w hw) | (refine go_newW ?_; clear hw; intro w hw) | (refine go_newS ?_; clear hw; intro s w hw))
      refine ⟨k + 1, ⟨rfl, trivial⟩, by repeat (first | exact agree_refl | (apply agree_upd rfl) | (apply agree_mix rfl) | (apply agree_sets rfl)), ⟨by omega, fun i hi => ?_, hw⟩, by omega⟩
      by_cases h : i = k
      · subst h; omega
      · exact hpre i (by omega)
  · repeat (first | refine go_run ?_ | (refine go_newP ?_; clear hw; intro p w hw) | (refine go_newW ?_; clear hw; intro w hw) | (refine go_newS ?_; clear hw; intro s w hw))
    refine res_one (v := .int .i64 (-1)) rfl rfl ⟨⟨-1, rfl, ⟨fun h => absurd h (by decide), fun ⟨i, hi, hb⟩ => ?_⟩⟩, hw⟩
    have := hpre i (by omega)
    omega

set_option maxRecDepth 8000 in
theorem largeHas_spec {w0 : World} {a : Value} {cs : List Value} {L : List (List Fact)} (ha : RS tVal w0 a cs) (hL : RConds w0 cs L) :
    Calls Try.prog 70 #[a, .func (.func 71) #[] #[]] w0 fun e w' => (∃ r, e = .returned (.bool r) ∧ (r = true ↔ ∃ i, i < L.length ∧ 64 < (L.getD i []).length)) ∧ Sat w0 w' [] := by
  have hw := Sat.start w0
  refine calls_of_vc (args := [a, .func (.func 71) #[] #[]]) mixed Try.func70 rfl (by kernel_rfl) (Nat.le_of_ble_eq_true rfl) ?_
  repeat (first | refine go_run ?_ | (refine go_newP ?_; clear hw; intro p w hw) | (refine go_newW ?_; clear hw; intro w hw) | (refine go_newS ?_; clear hw; intro s w hw))
  refine st_call rfl (largeIdx_spec (ha.at hw) (hL.at hw)) ?_
  rintro _ w' ⟨⟨r, rfl, hr⟩, hk'⟩
  replace hw := hw.call0 hk'
  clear hk'
  refine ⟨_, rfl, ?_⟩
  repeat (first | refine go_run ?_ | (refine go_newP ?_; clear hw; intro p w hw) | (refine go_newW ?_; clear hw; intro w hw) | (refine go_newS ?_; clear hw; intro s w hw))
  refine res_one (v := .bool (decide (0 ≤ r))) rfl rfl ⟨⟨_, rfl, ?_⟩, hw⟩
  rw [decide_eq_true_eq, hr]

set_option maxRecDepth 8000 in
set_option maxHeartbeats 2000000 in
theorem large_spec {w0 : World} {a b c d : Value} {vs : List OpV} {t : TTask} (ht : RTask w0 a b c d vs t) :
    Calls Try.prog 52 #[.agg #[a, b, c, d]] w0 fun e w' => (∃ r, e = .returned (.bool r) ∧ (r = true ↔ LargeT t)) ∧ Sat w0 w' [] := by
  have ht' := ht
  obtain ⟨ha, hb, hc, hd⟩ := ht
  have hrs := hd.rs
  have hdl := hd.len
  have hla := ha.big
  have hll := hrs.big
  have hw := Sat.start w0
  refine calls_of_vc (args := [.agg #[a, b, c, d]]) mixed Try.func52 rfl (by kernel_rfl) (Nat.le_of_ble_eq_true rfl) ?_
  repeat (first | refine go_run ?_ | (refine go_newP ?_; clear hw; intro p w hw) | (refine go_newW ?_; clear hw; intro w hw) | (refine go_newS ?_; clear hw; intro s w hw))
  refine go_if (fun h1 => ?_) (fun h1 => ?_)
  · repeat (first | refine go_run ?_ | (refine go_newP ?_; clear hw; intro p w hw) | (refine go_newW ?_; clear hw; intro w hw) | (refine go_newS ?_; clear hw; intro s w hw))
    refine res_one (v := .bool true) rfl rfl ⟨⟨true, rfl, iffT ?_⟩, hw.tail⟩
    unfold LargeT
    omega
  · repeat (first | refine go_run ?_ | (refine go_newP ?_; clear hw; intro p w hw) | (refine go_newW ?_; clear hw; intro w hw) | (refine go_newS ?_; clear hw; intro s w hw))
    obtain ⟨pt, hpt⟩ : ∃ pt, pt = p := ⟨p, rfl⟩
    subst hpt
    refine vc_loop [2, 4, 18, 19, 20, 21, 22, 23, 24, 25, 26] (G := Nat) (fun k => [(18, .int .i64 k)]) (fun k w => k ≤ t.ops.length ∧ (∀ i, i < k → (t.ops.getD i dOp).effs.length ≤ 64) ∧ Sat w0 w [Box pt 26 [a, b, c, d]]) (fun k => t.ops.length - k) 0 (fun _ => rfl) ⟨rfl, trivial⟩ ⟨Nat.zero_le _, fun i hi => absurd hi (Nat.not_lt_zero _), hw⟩ ?_
    clear hw
    rintro σ k w ⟨hk, hef, hw⟩
    repeat (first | refine go_run ?_ | (refine go_newP ?_; clear hw; intro p w hw) | (refine go_newW ?_; clear hw; intro w hw) | (refine go_newS ?_; clear hw; intro s w hw))
    refine go_if (fun h2 => ?_) (fun h2 => ?_)
    · have hop := hd.at_ k (by omega)
      have hone := hop.one
      obtain ⟨es, hes⟩ := hop.effs
      have hers := hes.rs
      have hel := hes.len
      have heb := hers.big
      repeat (first | refine go_run ?_ | (refine go_newP ?_; clear hw; intro p w hw) | (refine go_newW ?_; clear hw; intro w hw) | (refine go_newS ?_; clear hw; intro s w hw))
      refine go_if (fun h3 => ?_) (fun h3 => ?_)
      · repeat (first | refine go_run ?_ | (refine go_newP ?_; clear hw; intro p w hw) | (refine go_newW ?_; clear hw; intro w hw) | (refine go_newS ?_; clear hw; intro s w hw))
        refine res_one (v := .bool true) rfl rfl ⟨⟨true, rfl, iffT (.inr (.inr (.inl ⟨k, by omega, by omega⟩)))⟩, hw.tail.tail⟩
      · repeat (first | refine go_run ?_ | (refine go_newP ?_; clear hw; intro p w hw) | (refine go_newW ?_; clear hw; intro w hw) | (refine go_newS ?_; clear hw; intro s w hw))
        refine ⟨k + 1, ⟨rfl, trivial⟩, by repeat (first | exact agree_refl | (apply agree_upd rfl) | (apply agree_mix rfl) | (apply agree_sets rfl)), ⟨by omega, fun i hi => ?_, hw.tail⟩, by omega⟩
        by_cases h : i = k
        · subst h; omega
        · exact hef i (by omega)
    · repeat (first | refine go_run ?_ | (refine go_newP ?_; clear hw; intro p w hw) | (refine go_newW ?_; clear hw; intro w hw) | (refine go_newS ?_; clear hw; intro s w hw))
      refine st_call rfl (conditions_spec ht' hw (by omega) (fun i hi => hef i (by omega))) ?_
      rintro _ w' ⟨s, cs, rfl, hcs, hk'⟩
      replace hw := hw.call1 hk'
      clear hk'
      refine ⟨_, rfl, ?_⟩
      repeat (first | refine go_run ?_ | (refine go_newP ?_; clear hw; intro p w hw) | (refine go_newW ?_; clear hw; intro w hw) | (refine go_newS ?_; clear hw; intro s w hw))
      refine st_call rfl (largeHas_spec (a := s) (rsO hw) (hcs.at hw)) ?_
      rintro _ w' ⟨⟨r, rfl, hr⟩, hk'⟩
      replace hw := hw.call0 hk'
      clear hk'
      refine ⟨_, rfl, ?_⟩
      repeat (first | refine go_run ?_ | (refine go_newP ?_; clear hw; intro p w hw) | (refine go_newW ?_; clear hw; intro w hw) | (refine go_newS ?_; clear hw; intro s w hw))
      refine res_one (v := .bool r) rfl rfl ⟨⟨r, rfl, hr.trans ⟨fun h => .inr (.inr (.inr h)), fun h => ?_⟩⟩, hw.tail.tail⟩
      rcases h with h | h | ⟨i, hi, h⟩ | h
      · omega
      · omega
      · have := hef i (by omega); omega
      · exact h
end Go.Proofs.Ytoddgmmkpiojlaa
