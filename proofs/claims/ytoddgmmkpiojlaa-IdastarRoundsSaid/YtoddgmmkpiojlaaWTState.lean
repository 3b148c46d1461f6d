
/-
  Contracts of the helpers 'Ints', 'Is', 'Many', 'Small', 'Apply', 'Rank'.
-/
import Derived.Test.YtoddgmmkpiojlaaMW1
import Derived.Test.YtoddgmmkpiojlaaMTA
set_option linter.unusedSimpArgs false
set_option linter.unusedVariables false
namespace Go.Proofs.Ytoddgmmkpiojlaa
open Go.Sl
attribute [local irreducible] vc opsW opsD opV opW PureV ReadV Thn Blk

theorem list_eq_of {xs ys : List Int} (hl : xs.length = ys.length) (h : ∀ i, i < xs.length → xs.getD i tInt.dflt = ys.getD i tInt.dflt) : xs = ys := by
  apply List.ext_getElem hl
  intro i h1 h2
  have := h i h1
  rwa [getD_at h1, getD_at h2] at this

set_option maxRecDepth 8000 in
theorem Ints_spec {w0 : World} {a b : Value} {xs ys : List Int} (ha : RS tInt w0 a xs) (hb : RS tInt w0 b ys) :
    Calls Try.prog 22 #[a, b] w0 fun e w' => (∃ r, e = .returned (.bool r) ∧ (r = true ↔ xs = ys)) ∧ Sat w0 w' [] := by
  have hla := ha.big
  have hlb := hb.big
  have hw := Sat.start w0
  refine calls_of_vc (args := [a, b]) mixed Try.func22 rfl (by kernel_rfl) (Nat.le_of_ble_eq_true rfl) ?_
  repeat (first | refine go_run ?_ | (refine go_newP ?_; clear hw; intro p w hw) | (refine go_newW ?_; clear hw; intro w hw) | (refine go_newS ?_; clear hw; intro s w hw))
  refine go_if (fun h0 => ?_) (fun h0 => ?_)
  · repeat (first | refine go_run ?_ | (refine go_newP ?_; clear hw; intro p w hw) | (refine go_newW ?_; clear hw; intro w hw) | (refine go_newS ?_; clear hw; intro s w hw))
    refine res_one (v := .bool false) rfl rfl ⟨⟨false, rfl, iffF fun h => ?_⟩, hw⟩
    subst h
    omega
  · repeat (first | refine go_run ?_ | (refine go_newP ?_; clear hw; intro p w hw) | (refine go_newW ?_; clear hw; intro w hw) | (refine go_newS ?_; clear hw; intro s w hw))
    refine vc_loop [4, 5, 13, 14, 15, 16, 17, 18, 19, 20, 21, 22, 23, 24, 25] (G := Nat) (fun k => [(13, .int .i64 k)]) (fun k w => k ≤ xs.length ∧ (∀ i, i < k → xs.getD i tInt.dflt = ys.getD i tInt.dflt) ∧ Sat w0 w []) (fun k => xs.length - k) 0 (fun _ => rfl) ⟨rfl, trivial⟩ ⟨Nat.zero_le _, fun i hi => absurd hi (Nat.not_lt_zero _), hw⟩ ?_
    clear hw
    rintro σ k w ⟨hk, hpre, hw⟩
    repeat (first | refine go_run ?_ | (refine go_newP ?_; clear hw; intro p w hw) | (refine go_newW ?_; clear hw; intro w hw) | (refine go_newS ?_; clear hw; intro s w hw))
    refine go_if (fun h1 => ?_) (fun h1 => ?_)
    · repeat (first | refine go_run ?_ | (refine go_newP ?_; clear hw; intro p w hw) | (refine go_newW ?_; clear hw; intro w hw) | (refine go_newS ?_; clear hw; intro s w hw))
      refine go_if (fun h2 => ?_) (fun h2 => ?_)
      · repeat (first | refine go_run ?_ | (refine go_newP ?_; clear hw; intro p w hw) | (refine go_newW ?_; clear hw; intro w hw) | (refine go_newS ?_; clear hw; intro s w hw))
        refine res_one (v := .bool false) rfl rfl ⟨⟨false, rfl, iffF fun h => ?_⟩, hw⟩
        subst h
        exact h2 rfl
      · repeat (first | refine go_run ?_ | (refine go_newP ?_; clear hw; intro p w hw) | (refine go_newW ?_; clear hw; intro w hw) | (refine go_newS ?_; clear hw; intro s w hw))
        refine ⟨k + 1, ⟨rfl, trivial⟩, by repeat (first | exact agree_refl | (apply agree_upd rfl) | (apply agree_mix rfl) | (apply agree_sets rfl)), ⟨by omega, fun i hi => ?_, hw⟩, by omega⟩
        by_cases h : i = k
        · subst h; omega
        · exact hpre i (by omega)
    · repeat (first | refine go_run ?_ | (refine go_newP ?_; clear hw; intro p w hw) | (refine go_newW ?_; clear hw; intro w hw) | (refine go_newS ?_; clear hw; intro s w hw))
      exact res_one (v := .bool true) rfl rfl ⟨⟨true, rfl, iffT (list_eq_of (by omega) fun i hi => hpre i (by omega))⟩, hw⟩

set_option maxRecDepth 8000 in
theorem Is_spec {w0 : World} (c d : Int) :
    Calls Try.prog 21 #[errV c, .int .i64 d] w0 fun e w' => e = .returned (.bool (decide (c ≠ 0 ∧ c = d))) ∧ Sat w0 w' [] := by
  have hw := Sat.start w0
  by_cases hc : c = 0
  · subst hc
    refine calls_of_vc (args := [.nilIface, .int .i64 d]) mixed Try.func21 rfl (by kernel_rfl) (Nat.le_of_ble_eq_true rfl) ?_
    repeat (first | refine go_run ?_ | (refine go_newP ?_; clear hw; intro p w hw) | (refine go_newW ?_; clear hw; intro w hw) | (refine go_newS ?_; clear hw; intro s w hw))
    exact res_one (v := .bool false) rfl rfl ⟨rfl, hw⟩
  · have hn := Num_spec (w0 := w0) c
    rw [errV_some hc] at hn ⊢
    refine calls_of_vc (args := [.iface 56 (.int .i64 c), .int .i64 d]) mixed Try.func21 rfl (by kernel_rfl) (Nat.le_of_ble_eq_true rfl) ?_
    repeat (first | refine go_run ?_ | (refine go_newP ?_; clear hw; intro p w hw) | (refine go_newW ?_; clear hw; intro w hw) | (refine go_newS ?_; clear hw; intro s w hw))
    refine st_call rfl hn ?_
    rintro _ w' ⟨rfl, hk'⟩
    replace hw := hw.call0 hk'
    clear hk'
    refine ⟨_, rfl, ?_⟩
    repeat (first | refine go_run ?_ | (refine go_newP ?_; clear hw; intro p w hw) | (refine go_newW ?_; clear hw; intro w hw) | (refine go_newS ?_; clear hw; intro s w hw))
    exact res_one (v := .bool (decide (c = d))) rfl rfl ⟨by simp [hc], hw⟩

theorem many_step {n k m : Int} (hn : 1 ≤ n) (hk : 1 ≤ k) (hm : n ≤ m) (h0 : m ≤ 65536) : let x := n * (if m + 1 < (if 0 > k then 0 else k) then m + 1 else (if 0 > k then 0 else k))
    0 ≤ x ∧ x ≤ 4295098368 ∧ (x ≤ m → x = n * k) ∧ (m < x → m < n * k) := by
  intro x
  have e : x = n * min k (m + 1) := by
    show n * (if m + 1 < (if 0 > k then 0 else k) then m + 1 else (if 0 > k then 0 else k)) = _
    have hk0 : (if 0 > k then 0 else k) = k := if_neg (by omega)
    rw [hk0]
    congr 1
    split <;> omega
  have h2 : n * min k (m + 1) ≤ 65536 * 65537 := Int.mul_le_mul (by omega) (by omega) (by omega) (by omega)
  have h3 : 0 ≤ n * min k (m + 1) := Int.mul_nonneg (by omega) (by omega)
  refine ⟨by omega, by omega, fun h => ?_, fun h => ?_⟩
  · rw [e] at h ⊢
    by_cases hh : k ≤ m + 1
    · rw [Int.min_eq_left hh]
    · rw [Int.min_eq_right (by omega)] at h
      have : 1 * (m + 1) ≤ n * (m + 1) := Int.mul_le_mul_of_nonneg_right hn (by omega)
      omega
  · rw [e] at h
    have : n * min k (m + 1) ≤ n * k := Int.mul_le_mul_of_nonneg_left (by omega) (by omega)
    omega
def manyL (vars : List Int) (m : Int) : Int := if prodL vars ≤ m then prodL vars else m + 1
set_option maxRecDepth 8000 in
theorem Many_spec {w0 : World} {a : Value} {vars : List Int} {m : Int} (ha : RS tInt w0 a vars) (hp : ∀ x ∈ vars, 1 ≤ x) (hm1 : 1 ≤ m) (hm2 : m ≤ 65536) :
    Calls Try.prog 15 #[a, .int .i64 m] w0 fun e w' => e = .returned (.int .i64 (manyL vars m)) ∧ Sat w0 w' [] := by
  have hla := ha.big
  have hw := Sat.start w0
  refine calls_of_vc (args := [a, .int .i64 m]) mixed Try.func15 rfl (by kernel_rfl) (Nat.le_of_ble_eq_true rfl) ?_
  repeat (first | refine go_run ?_ | (refine go_newP ?_; clear hw; intro p w hw) | (refine go_newW ?_; clear hw; intro w hw) | (refine go_newS ?_; clear hw; intro s w hw))
  refine vc_loop2 [4, 5, 7, 10, 11, 12, 13, 14, 15, 16, 17, 18, 19, 20, 21, 22, 23, 24, 25, 26] (G := Nat) (H := Int) (fun k n => [(10, .int .i64 k), (5, .int .i64 n)]) (fun k n w => k ≤ vars.length ∧ n = prodL (vars.take k) ∧ n ≤ m ∧ Sat w0 w []) (fun k _ => vars.length - k) 0 1 (fun _ _ => rfl) ⟨rfl, rfl, trivial⟩ ⟨Nat.zero_le _, rfl, hm1, hw⟩ ?_
  clear hw
  rintro σ k n w ⟨hk, hn, hnm, hw⟩
  repeat (first | refine go_run ?_ | (refine go_newP ?_; clear hw; intro p w hw) | (refine go_newW ?_; clear hw; intro w hw) | (refine go_newS ?_; clear hw; intro s w hw))
  refine go_if (fun h1 => ?_) (fun h1 => ?_)
  · have hkl : k < vars.length := by omega
    have hx := hp _ (mem_getD tInt.dflt hkl)
    have hpos : 1 ≤ n := by rw [hn]; exact prodL_pos fun x hx => hp x (List.mem_of_mem_take hx)
    obtain ⟨b0, b1, b2, b3⟩ := many_step hpos hx hnm hm2
    have hs : prodL (vars.take (k + 1)) = n * vars.getD k tInt.dflt := by rw [take_snoc tInt.dflt hkl, prodL_snoc, hn]
    repeat (first | refine go_run ?_ | (refine go_newP ?_; clear hw; intro p w hw) | (refine go_newW ?_; clear hw; intro w hw) | (refine go_newS ?_; clear hw; intro s w hw))
    refine go_if (fun h2 => ?_) (fun h2 => ?_)
    · repeat (first | refine go_run ?_ | (refine go_newP ?_; clear hw; intro p w hw) | (refine go_newW ?_; clear hw; intro w hw) | (refine go_newS ?_; clear hw; intro s w hw))
      refine res_one (v := .int .i64 (m + 1)) rfl rfl ⟨?_, hw⟩
      have h3 := b3 (by omega)
      have h4 : prodL (vars.take (k + 1)) ≤ prodL vars := by
        have := prodL_mono (l := vars.take (k + 1)) (m := vars.drop (k + 1)) (fun x hx => hp x (List.mem_of_mem_drop hx)) (fun x hx => hp x (List.mem_of_mem_take hx))
        rwa [List.take_append_drop] at this
      rw [manyL, if_neg (by omega)]
    · repeat (first | refine go_run ?_ | (refine go_newP ?_; clear hw; intro p w hw) | (refine go_newW ?_; clear hw; intro w hw) | (refine go_newS ?_; clear hw; intro s w hw))
      refine ⟨k + 1, _, ⟨rfl, rfl, trivial⟩, by repeat (first | exact agree_refl | (apply agree_upd rfl) | (apply agree_mix rfl) | (apply agree_sets rfl)), ⟨by omega, ?_, by omega, hw⟩, by omega⟩
      rw [hs]; exact b2 (by omega)
  · repeat (first | refine go_run ?_ | (refine go_newP ?_; clear hw; intro p w hw) | (refine go_newW ?_; clear hw; intro w hw) | (refine go_newS ?_; clear hw; intro s w hw))
    refine res_one (v := .int .i64 n) rfl rfl ⟨?_, hw⟩
    rw [List.take_of_length_le (by omega)] at hn
    rw [manyL, ← hn, if_pos hnm]

set_option maxRecDepth 8000 in
set_option maxHeartbeats 2000000 in
theorem Small_spec {w0 : World} {a b c d : Value} {vs : List OpV} {t : TTask} (ht : RTask w0 a b c d vs t) :
    Calls Try.prog 6 #[.agg #[a, b, c, d]] w0 fun e w' => (∃ r, e = .returned (.bool r) ∧ (r = true ↔ SmallT t)) ∧ Sat w0 w' [] := by
  have ht' := ht
  obtain ⟨ha, hb, hc, hd⟩ := ht
  have hrs := hd.rs
  have hdl := hd.len
  have hla := ha.big
  have hll := hrs.big
  have hw := Sat.start w0
  refine calls_of_vc (args := [.agg #[a, b, c, d]]) mixed Try.func6 rfl (by kernel_rfl) (Nat.le_of_ble_eq_true rfl) ?_
  repeat (first | refine go_run ?_ | (refine go_newP ?_; clear hw; intro p w hw) | (refine go_newW ?_; clear hw; intro w hw) | (refine go_newS ?_; clear hw; intro s w hw))
  refine go_if (fun h1 => ?_) (fun h1 => ?_)
  · repeat (first | refine go_run ?_ | (refine go_newP ?_; clear hw; intro p w hw) | (refine go_newW ?_; clear hw; intro w hw) | (refine go_newS ?_; clear hw; intro s w hw))
    refine res_one (v := .bool false) rfl rfl ⟨⟨false, rfl, iffF fun h => ?_⟩, hw.tail⟩
    have := h.vars
    have := h.ops
    omega
  · repeat (first | refine go_run ?_ | (refine go_newP ?_; clear hw; intro p w hw) | (refine go_newW ?_; clear hw; intro w hw) | (refine go_newS ?_; clear hw; intro s w hw))
    obtain ⟨pt, hpt⟩ : ∃ pt, pt = p := ⟨p, rfl⟩
    subst hpt
    refine vc_loop [2, 4, 18, 19, 20, 21, 22, 23, 24, 25, 26] (G := Nat) (fun k => [(18, .int .i64 k)]) (fun k w => k ≤ t.ops.length ∧ (∀ i, i < k → (t.ops.getD i dOp).effs.length ≤ 8) ∧ Sat w0 w [Box pt 26 [a, b, c, d]]) (fun k => t.ops.length - k) 0 (fun _ => rfl) ⟨rfl, trivial⟩ ⟨Nat.zero_le _, fun i hi => absurd hi (Nat.not_lt_zero _), hw⟩ ?_
    clear hw
    rintro σ k w ⟨hk, hef, hw⟩
    repeat (first | refine go_run ?_ | (refine go_newP ?_; clear hw; intro p w hw) | (refine go_newW ?_; clear hw; intro w hw) | (refine go_newS ?_; clear hw; intro s w hw))
    refine go_if (fun h2 => ?_) (fun h2 => ?_)
    · have hop := hd.at_ k (by omega)
      have hone := hop.one
      obtain ⟨es, hes⟩ := hop.effs
      have hers := hes.rs
      have hel := hes.len
      have heb := hers.big
      repeat (first | refine go_run ?_ | (refine go_newP ?_; clear hw; intro p w hw) | (refine go_newW ?_; clear hw; intro w hw) | (refine go_newS ?_; clear hw; intro s w hw))
      refine go_if (fun h3 => ?_) (fun h3 => ?_)
      · repeat (first | refine go_run ?_ | (refine go_newP ?_; clear hw; intro p w hw) | (refine go_newW ?_; clear hw; intro w hw) | (refine go_newS ?_; clear hw; intro s w hw))
        refine res_one (v := .bool false) rfl rfl ⟨⟨false, rfl, iffF fun h => ?_⟩, hw.tail.tail⟩
        have := h.effs k (by omega)
        omega
      · repeat (first | refine go_run ?_ | (refine go_newP ?_; clear hw; intro p w hw) | (refine go_newW ?_; clear hw; intro w hw) | (refine go_newS ?_; clear hw; intro s w hw))
        refine ⟨k + 1, ⟨rfl, trivial⟩, by repeat (first | exact agree_refl | (apply agree_upd rfl) | (apply agree_mix rfl) | (apply agree_sets rfl)), ⟨by omega, fun i hi => ?_, hw.tail⟩, by omega⟩
        by_cases h : i = k
        · subst h; omega
        · exact hef i (by omega)
    · repeat (first | refine go_run ?_ | (refine go_newP ?_; clear hw; intro p w hw) | (refine go_newW ?_; clear hw; intro w hw) | (refine go_newS ?_; clear hw; intro s w hw))
      refine st_call rfl (Good_spec (ht'.at hw)) ?_
      rintro _ w' ⟨⟨r, rfl, hr⟩, hk'⟩
      replace hw := hw.call0 hk'
      clear hk'
      refine ⟨_, rfl, ?_⟩
      cases r with
      | false =>
        repeat (first | refine go_run ?_ | (refine go_newP ?_; clear hw; intro p w hw) | (refine go_newW ?_; clear hw; intro w hw) | (refine go_newS ?_; clear hw; intro s w hw))
        refine res_one (v := .bool false) rfl rfl ⟨⟨false, rfl, iffF fun h => ?_⟩, hw.tail⟩
        have := hr.2 h.good
        cases this
      | true =>
        have hg := hr.1 rfl
        repeat (first | refine go_run ?_ | (refine go_newP ?_; clear hw; intro p w hw) | (refine go_newW ?_; clear hw; intro w hw) | (refine go_newS ?_; clear hw; intro s w hw))
        refine st_call rfl (Many_spec (m := 512) (ha.at hw) hg.pos (by decide) (by decide)) ?_
        rintro _ w' ⟨rfl, hk'⟩
        replace hw := hw.call0 hk'
        clear hk'
        refine ⟨_, rfl, ?_⟩
        repeat (first | refine go_run ?_ | (refine go_newP ?_; clear hw; intro p w hw) | (refine go_newW ?_; clear hw; intro w hw) | (refine go_newS ?_; clear hw; intro s w hw))
        refine res_one (v := .bool (decide (manyL t.vars 512 ≤ 512))) rfl rfl ⟨⟨_, rfl, ?_⟩, hw.tail⟩
        rw [decide_eq_true_eq, manyL]
        constructor
        · intro h
          exact ⟨hg, by omega, by omega, fun i hi => hef i (by omega), by split at h <;> omega⟩
        · intro h
          rw [if_pos h.many]; exact h.many

set_option maxRecDepth 8000 in
set_option maxHeartbeats 2000000 in
theorem Apply_spec {w0 : World} {a b c d sv : Value} {vs : List OpV} {t : TTask} {st : List Int} {op : Int} (ht : RTask w0 a b c d vs t) (hs : RS tInt w0 sv st) (hg : GoodT t) (hok : StateOk t.vars st) :
    Calls Try.prog 56 #[.agg #[a, b, c, d], sv, .int .i64 op] w0 fun e w' => ∃ r rv, e = .returned (.tuple #[rv, .bool r]) ∧ (r = true ↔ 0 ≤ op ∧ op < t.ops.length ∧ AppT t st op.toNat) ∧ Sat w0 w' [OS tInt 3 rv (if r then succT t st op.toNat else [])] := by
  have ht' := ht
  obtain ⟨ha, hb, hc, hd⟩ := ht
  have hrs := hd.rs
  have hdl := hd.len
  have hla := ha.big
  have hll := hrs.big
  have hsl := hok.1
  have hvl := hg.vars
  have hw := Sat.start w0
  refine calls_of_vc (args := [.agg #[a, b, c, d], sv, .int .i64 op]) mixed Try.func56 rfl (by kernel_rfl) (Nat.le_of_ble_eq_true rfl) ?_
  repeat (first | refine go_run ?_ | (refine go_newP ?_; clear hw; intro p w hw) | (refine go_newW ?_; clear hw; intro w hw) | (refine go_newS ?_; clear hw; intro s w hw))
  obtain ⟨pt, hpt⟩ : ∃ pt, pt = p := ⟨p, rfl⟩
  subst hpt
  refine go_case (fun h1 => ?_) (fun h1 => ?_)
  · simp only [h1, gvff, gvtt]; (try simp only [beq_iff_eq, Bool.and_eq_true, Bool.or_eq_true, decide_eq_true_eq, decide_eq_false_iff_not, Bool.not_eq_true, Bool.not_eq_false, Bool.not_eq_eq_eq_not, Bool.not_true, Bool.not_false, Bool.and_eq_false_iff, Bool.or_eq_false_iff, bne_iff_ne, ne_eq, Int.not_lt, Int.not_le, Nat.not_lt, Nat.not_le] at h1)
    repeat (first | refine go_run ?_ | (refine go_newP ?_; clear hw; intro p w hw) | (refine go_newW ?_; clear hw; intro w hw) | (refine go_newS ?_; clear hw; intro s w hw))
    refine res_two (v := .slice none 0 0) (v' := .bool false) rfl rfl rfl ⟨false, _, rfl, iffF fun h => ?_, hw.tail.nil⟩
    omega
  · simp only [h1, gvff, gvtt]; (try simp only [beq_iff_eq, Bool.and_eq_true, Bool.or_eq_true, decide_eq_true_eq, decide_eq_false_iff_not, Bool.not_eq_true, Bool.not_eq_false, Bool.not_eq_eq_eq_not, Bool.not_true, Bool.not_false, Bool.and_eq_false_iff, Bool.or_eq_false_iff, bne_iff_ne, ne_eq, Int.not_lt, Int.not_le, Nat.not_lt, Nat.not_le] at h1)
    have hop := hd.at_ op.toNat (by omega)
    have hone := hop.one
    obtain ⟨es, hes⟩ := hop.effs
    have hers := hes.rs
    have hel := hes.len
    have heb := hers.big
    have hpre := hop.pre
    have hgo := hg.op op.toNat (by omega)
    have he64 := hgo.effs
    repeat (first | refine go_run ?_ | (refine go_newP ?_; clear hw; intro p w hw) | (refine go_newW ?_; clear hw; intro w hw) | (refine go_newS ?_; clear hw; intro s w hw))
    refine st_call rfl (Holds_spec (hpre.at hw) (hs.at hw)) ?_
    rintro _ w' ⟨⟨r, rfl, hr⟩, hk'⟩
    replace hw := hw.call0 hk'
    clear hk'
    refine ⟨_, rfl, ?_⟩
    cases r with
    | false =>
      repeat (first | refine go_run ?_ | (refine go_newP ?_; clear hw; intro p w hw) | (refine go_newW ?_; clear hw; intro w hw) | (refine go_newS ?_; clear hw; intro s w hw))
      refine res_two (v := .slice none 0 0) (v' := .bool false) rfl rfl rfl ⟨false, _, rfl, iffF fun h => ?_, hw.tail.nil⟩
      have := hr.2 h.2.2
      cases this
    | true =>
      have happ := hr.1 rfl
      repeat (first | refine go_run ?_ | (refine go_newP ?_; clear hw; intro p w hw) | (refine go_newW ?_; clear hw; intro w hw) | (refine go_newS ?_; clear hw; intro s w hw))
      refine st_buildSlice0 tInt hw ?_
      clear hw
      intro s1 w hw
      repeat (first | refine go_run ?_ | (refine go_newP ?_; clear hw; intro p w hw) | (refine go_newW ?_; clear hw; intro w hw) | (refine go_newS ?_; clear hw; intro s w hw))
      obtain ⟨out, hout⟩ : ∃ out, out = s := ⟨s, rfl⟩
      subst hout
      rw [List.nil_append] at hw
      refine vc_loop [10, 41, 42, 43, 44, 45, 46, 47, 48, 49, 50, 51, 52, 53, 54, 55] (G := Nat) (fun k => [(41, .int .i64 k)]) (fun k w => k ≤ (t.ops.getD op.toNat dOp).effs.length ∧ Sat w0 w [OS tInt 3 out (effsL st ((t.ops.getD op.toNat dOp).effs.take k)), Box pt 26 [a, b, c, d]]) (fun k => (t.ops.getD op.toNat dOp).effs.length - k) 0 (fun _ => rfl) ⟨rfl, trivial⟩ ⟨Nat.zero_le _, hw⟩ ?_
      clear hw
      rintro σ k w ⟨hk, hw⟩
      repeat (first | refine go_run ?_ | (refine go_newP ?_; clear hw; intro p w hw) | (refine go_newW ?_; clear hw; intro w hw) | (refine go_newS ?_; clear hw; intro s w hw))
      refine go_if (fun h2 => ?_) (fun h2 => ?_)
      · have hek := hes.at_ k (by omega)
        have hwh := hek.when
        have hone2 := hek.one
        have hv1 := hek.var
        have hv2 := hek.val
        obtain ⟨r1, r2, r3, r4⟩ := effOk_range (hgo.eff k (by omega))
        have hsn := effsL_snoc st ((t.ops.getD op.toNat dOp).effs.take k) ((t.ops.getD op.toNat dOp).effs.getD k dEff)
        rw [← take_snoc dEff (by omega)] at hsn
        have hln := effsL_len st ((t.ops.getD op.toNat dOp).effs.take k)
        repeat (first | refine go_run ?_ | (refine go_newP ?_; clear hw; intro p w hw) | (refine go_newW ?_; clear hw; intro w hw) | (refine go_newS ?_; clear hw; intro s w hw))
        refine st_call rfl (Holds_spec (hwh.at hw) (hs.at hw)) ?_
        rintro _ w' ⟨⟨r, rfl, hr2⟩, hk'⟩
        replace hw := hw.call0 hk'
        clear hk'
        refine ⟨_, rfl, ?_⟩
        cases r with
        | false =>
          repeat (first | refine go_run ?_ | (refine go_newP ?_; clear hw; intro p w hw) | (refine go_newW ?_; clear hw; intro w hw) | (refine go_newS ?_; clear hw; intro s w hw))
          refine ⟨k + 1, ⟨rfl, trivial⟩, by repeat (first | exact agree_refl | (apply agree_upd rfl) | (apply agree_mix rfl) | (apply agree_sets rfl)), ⟨by omega, ?_⟩, by omega⟩
          rw [hsn, if_neg fun h => by have := hr2.2 h; cases this]
          exact hw.tail
        | true =>
          repeat (first | refine go_run ?_ | (refine go_newP ?_; clear hw; intro p w hw) | (refine go_newW ?_; clear hw; intro w hw) | (refine go_newS ?_; clear hw; intro s w hw))
          refine ⟨k + 1, ⟨rfl, trivial⟩, by repeat (first | exact agree_refl | (apply agree_upd rfl) | (apply agree_mix rfl) | (apply agree_sets rfl)), ⟨by omega, ?_⟩, by omega⟩
          rw [hsn, if_pos (hr2.1 rfl), ← hv1, ← hv2]
          exact hw.tail
      · rw [List.take_of_length_le (by omega)] at hw
        repeat (first | refine go_run ?_ | (refine go_newP ?_; clear hw; intro p w hw) | (refine go_newW ?_; clear hw; intro w hw) | (refine go_newS ?_; clear hw; intro s w hw))
        exact res_two (v := out) (v' := .bool true) rfl rfl rfl ⟨true, _, rfl, iffT ⟨by omega, by omega, happ⟩, hw.only⟩

theorem StateOk.take {vars s : List Int} (h : StateOk vars s) (k : Nat) : StateOk (vars.take k) (s.take k) := by
  refine ⟨by simp [h.1], fun i hi => ?_⟩
  simp only [List.length_take] at hi
  have := h.2 i (by omega)
  simp only [List.getD_eq_getElem?_getD] at this ⊢
  rwa [List.getElem?_take_of_lt (by omega), List.getElem?_take_of_lt (by omega)]
theorem prodL_take {l : List Int} (h : ∀ x ∈ l, 1 ≤ x) (k : Nat) : prodL (l.take k) ≤ prodL l := by
  have := prodL_mono (l := l.take k) (m := l.drop k) (fun x hx => h x (List.mem_of_mem_drop hx)) (fun x hx => h x (List.mem_of_mem_take hx))
  rwa [List.take_append_drop] at this
theorem rankL_take {vars s : List Int} (h : StateOk vars s) {k : Nat} (hk : k < s.length) : rankL (vars.take (k + 1)) (s.take (k + 1)) = rankL (vars.take k) (s.take k) * vars.getD k tInt.dflt + s.getD k tInt.dflt := by
  rw [take_snoc tInt.dflt hk, take_snoc tInt.dflt (show k < vars.length by rw [← h.1]; exact hk), rankL_snoc (by simp [h.1])]
theorem rankL_step {vars s : List Int} (h : StateOk vars s) (hp : ∀ x ∈ vars, 1 ≤ x) {k : Nat} (hk : k < s.length) : 0 ≤ rankL (vars.take k) (s.take k) * vars.getD k tInt.dflt ∧ rankL (vars.take k) (s.take k) * vars.getD k tInt.dflt + s.getD k tInt.dflt < prodL vars := by
  have h1 := (rankL_bound (h.take k)).1
  have h2 := h.2 k hk
  have h3 := (rankL_bound (h.take (k + 1))).2
  rw [rankL_take h hk] at h3
  have h4 := prodL_take hp (k + 1)
  exact ⟨Int.mul_nonneg h1 (by omega), by omega⟩

set_option maxRecDepth 8000 in
theorem Rank_spec {w0 : World} {a b : Value} {vars s : List Int} (ha : RS tInt w0 a vars) (hb : RS tInt w0 b s) (hok : StateOk vars s) (hp : ∀ x ∈ vars, 1 ≤ x) (hB : prodL vars ≤ 1099511627776) :
    Calls Try.prog 42 #[a, b] w0 fun e w' => e = .returned (.int .i64 (rankL vars s)) ∧ Sat w0 w' [] := by
  have hla := ha.big
  have hlb := hb.big
  have hl := hok.1
  have hw := Sat.start w0
  refine calls_of_vc (args := [a, b]) mixed Try.func42 rfl (by kernel_rfl) (Nat.le_of_ble_eq_true rfl) ?_
  repeat (first | refine go_run ?_ | (refine go_newP ?_; clear hw; intro p w hw) | (refine go_newW ?_; clear hw; intro w hw) | (refine go_newS ?_; clear hw; intro s w hw))
  refine vc_loop2 [5, 6, 9, 10, 11, 12, 13, 14, 15, 16, 17, 18, 19, 20, 21, 22, 23] (G := Nat) (H := Int) (fun k n => [(9, .int .i64 k), (5, .int .i64 n)]) (fun k n w => k ≤ s.length ∧ n = rankL (vars.take k) (s.take k) ∧ Sat w0 w []) (fun k _ => s.length - k) 0 0 (fun _ _ => rfl) ⟨rfl, rfl, trivial⟩ ⟨Nat.zero_le _, rfl, hw⟩ ?_
  clear hw
  rintro σ k n w ⟨hk, hn, hw⟩
  repeat (first | refine go_run ?_ | (refine go_newP ?_; clear hw; intro p w hw) | (refine go_newW ?_; clear hw; intro w hw) | (refine go_newS ?_; clear hw; intro s w hw))
  refine go_if (fun h1 => ?_) (fun h1 => ?_)
  · have hkl : k < s.length := by omega
    obtain ⟨b1, b2⟩ := rankL_step hok hp hkl
    have b3 := hok.2 k hkl
    rw [← hn] at b1 b2
    repeat (first | refine go_run ?_ | (refine go_newP ?_; clear hw; intro p w hw) | (refine go_newW ?_; clear hw; intro w hw) | (refine go_newS ?_; clear hw; intro s w hw))
    refine ⟨k + 1, _, ⟨rfl, rfl, trivial⟩, by repeat (first | exact agree_refl | (apply agree_upd rfl) | (apply agree_mix rfl) | (apply agree_sets rfl)), ⟨by omega, ?_, hw⟩, by omega⟩
    rw [rankL_take hok hkl, hn]
  · repeat (first | refine go_run ?_ | (refine go_newP ?_; clear hw; intro p w hw) | (refine go_newW ?_; clear hw; intro w hw) | (refine go_newS ?_; clear hw; intro s w hw))
    refine res_one (v := .int .i64 n) rfl rfl ⟨?_, hw⟩
    rw [hn, List.take_of_length_le (by omega), List.take_of_length_le (by omega)]
end Go.Proofs.Ytoddgmmkpiojlaa
