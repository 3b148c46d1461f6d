
/-
  Contract of 'succgen.build': the decision tree.
-/
import Derived.Test.YtkmbenhffledpaaGreatWSucB
import Derived.Test.YtkmbenhffledpaaGreatMTA
set_option linter.unusedSimpArgs false
set_option linter.unusedVariables false
namespace Go.Proofs.YtkmbenhffledpaaGreat
open Go.Sl Go
attribute [local irreducible] vc opsW opsD opV opW PureV ReadV Thn Blk
def BuildOk (t : TTask) (f : Nat) : Prop := ∀ (w0 : World) (pg : Addr) (ov : Value) (ops : List Int) (v : Nat), GenT w0 pg t → RS tInt w0 ov ops → (∀ op ∈ ops, 0 ≤ op ∧ op < t.ops.length) → ops.length ≤ 4096 → v ≤ t.vars.length → t.vars.length - v < f →
  Calls Tryz.prog 107 #[.pointer (some pg), ov, .int .i64 v] w0 fun e w' => ∃ a, e = .returned (.pointer a) ∧ Sat w0 w' [RdH fun w => RS tInt w ov ops → RNode t w f a ops v]
def ChF (t : TTask) (f : Nat) (ops : List Int) (u : Nat) (ss : List Value) (x : Nat) (vl : List (Option Addr)) (w : World) : Prop := ∀ i, i < x → RS tInt w (vget ss i) (byV t ops u (i : Int)) → RNode t w f (vl.getD i none) (byV t ops u (i : Int)) (u + 1)
theorem ChF.step {t : TTask} {f : Nat} {ops : List Int} {u : Nat} {ss : List Value} {x : Nat} {vl : List (Option Addr)} {w : World} {a : Option Addr} (h : ChF t f ops u ss x vl w) (hl : vl.length = x) (hn : RS tInt w (vget ss x) (byV t ops u (x : Int)) → RNode t w f a (byV t ops u (x : Int)) (u + 1)) : ChF t f ops u ss (x + 1) (vl ++ [a]) w := fun i hi hr => by
  by_cases e : i < x
  · rw [show (vl ++ [a]).getD i none = vl.getD i none by simp [List.getD_eq_getElem?_getD, List.getElem?_append_left (show i < vl.length by omega)]]
    exact h i e hr
  · have e2 : i = x := by omega
    subst e2
    rw [show (vl ++ [a]).getD i none = a by subst hl; simp [List.getD_eq_getElem?_getD]]
    exact hn hr
set_option maxRecDepth 8000 in
set_option maxHeartbeats 8000000 in
theorem build_step {t : TTask} {f : Nat} (hg : GoodT t) (ih : BuildOk t f) : BuildOk t (f + 1) := by
  intro w0 pg ov ops v hG ho hops hol hv hf
  have hG' := hG
  obtain ⟨a, b, c, d, r0, vs, hb, ht⟩ := hG
  have ha := ht.vars
  have hvl := hg.vars
  have hob := ho.big
  have oov := ho.one
  have hw := Sat.start w0
  refine calls_of_vc (args := [.pointer (some pg), ov, .int .i64 v]) mixed Tryz.func107 rfl (by kernel_rfl) (Nat.le_of_ble_eq_true rfl) ?_
  refine vc_seq ?_
  refine vc_region ?_
  refine go_box ?_
  clear hw
  intro p3 w hw
  refine go_box ?_
  clear hw
  intro p5 w hw
  replace hw : Sat w0 w [Box p5 3 [.int .i64 (v : Int)], Box p3 136 [.pointer (some pg)]] := hw
  repeat (first | refine go_run ?_ | (refine go_newP ?_; clear hw; intro p w hw) | (refine go_newW ?_; clear hw; intro w hw) | (refine go_newS ?_; clear hw; intro s w hw))
  refine go_if (fun h1 => ?_) (fun h1 => ?_)
  · have he : ops = [] := List.eq_nil_of_length_eq_zero (by omega)
    repeat (first | refine go_run ?_ | (refine go_newP ?_; clear hw; intro p w hw) | (refine go_newW ?_; clear hw; intro w hw) | (refine go_newS ?_; clear hw; intro s w hw))
    exact res_one (v := .pointer none) rfl rfl ⟨none, rfl, Sat.rd0 (fun w _ => .inl ⟨he, rfl⟩) (hw.sel (Δ := []))⟩
  have hne : ops ≠ [] := fun e => by rw [e] at h1; exact h1 rfl
  obtain ⟨n1, n2, n3, n4⟩ := nextV_ok (t := t) (ops := ops) (f := t.vars.length - v) (v := v)
  repeat (first | refine go_run ?_ | (refine go_newP ?_; clear hw; intro p w hw) | (refine go_newW ?_; clear hw; intro w hw) | (refine go_newS ?_; clear hw; intro s w hw))
  refine vc_loop [19, 20, 21, 22, 23, 24, 25, 26, 27, 28, 29, 30, 31, 32, 33, 34] (G := Nat) (fun u => []) (fun u w => v ≤ u ∧ u ≤ nxV t ops v ∧ Sat w0 w [Box p5 3 [.int .i64 (u : Int)], Box p3 136 [.pointer (some pg)]]) (fun u => t.vars.length - u) v (fun _ => rfl) trivial ⟨Nat.le_refl _, n1, hw⟩ ?_
  clear hw
  rintro σ u w ⟨hu1, hu2, hw⟩
  have hul : u ≤ t.vars.length := by unfold nxV at hu2; omega
  have hun : nextV t ops (t.vars.length - u) u = nxV t ops v := by
    unfold nxV at hu2 ⊢
    have key : ∀ (m v u : Nat), v ≤ u → u ≤ nextV t ops (t.vars.length - v) v → u - v = m → u ≤ t.vars.length → nextV t ops (t.vars.length - u) u = nextV t ops (t.vars.length - v) v := by
      intro m
      induction m with
      | zero => intro v u h1 h2 h3 _; rw [show u = v by omega]
      | succ m ihm =>
        intro v u h1 h2 h3 h4
        have hvl : v < t.vars.length := by omega
        obtain ⟨n1, n2, n3, n4⟩ := nextV_ok (t := t) (ops := ops) (f := t.vars.length - v) (v := v)
        have hs := n3 v (Nat.le_refl _) (by omega)
        have e : nextV t ops (t.vars.length - v) v = nextV t ops (t.vars.length - (v + 1)) (v + 1) := by
          rw [show t.vars.length - v = (t.vars.length - (v + 1)) + 1 by omega]
          exact nextV_step hs
        rw [e] at h2 ⊢
        exact ihm (v + 1) u (by omega) h2 (by omega) h4
    exact key _ v u hu1 hu2 rfl hul
  refine vc_seq ?_
  refine vc_seq ?_
  refine vc_cut [19, 20, 21, 22, 23, 24, 25, 26, 27, 28, 29, 30, 31, 32] (G := Unit) (fun _ => [(32, .bool (decide (u < nxV t ops v)))]) (fun _ w => Sat w0 w [Box p5 3 [.int .i64 (u : Int)], Box p3 136 [.pointer (some pg)]]) (fun _ => rfl) ?_ ?_
  · by_cases h2 : u < t.vars.length
    · have hd : decide ((u : Int) < (t.vars.length : Int)) = true := decide_eq_true (by omega)
      repeat (first | refine go_run ?_ | (refine go_newP ?_; clear hw; intro p w hw) | (refine go_newWr ?_; clear hw; intro w hw) | (refine go_newS ?_; clear hw; intro s w hw))
      refine vc_plan [.op 0, .op 1, .op 2, .op 3, .op 4, .op 5, .op 6, .op 7, .op 8, .op 9, .op 10, .op 11, .op 12, .op 13] hw (by kernel_rfl) ?_; clear hw; intro w hw
      repeat (first | refine go_run ?_ | (refine go_newP ?_; clear hw; intro p w hw) | (refine go_newWr ?_; clear hw; intro w hw) | (refine go_newS ?_; clear hw; intro s w hw))
      simp only [hd, beq_self_eq_true, beq_tfI, beq_ftI, Bool.false_and, Bool.true_and, Bool.not_true, Bool.not_false, Bool.cond_true, Bool.cond_false, gv_fI, gv_tI]
      repeat (first | refine go_run ?_ | (refine go_newP ?_; clear hw; intro p w hw) | (refine go_newWr ?_; clear hw; intro w hw) | (refine go_newS ?_; clear hw; intro s w hw))
      refine st_call rfl (AnyC_spec (cs := [.pointer (some p3), .pointer (some p5)]) (f := 145) (P := fun op => (preV t op u).isSome = true) (ho.at hw) (fun w2 Γ hs op hop => build1_spec ((hG'.at hw).at hs) (cell_stays (by have := hw.boxR 1 rfl 0 _ rfl; simpa [Addr.add] using this) hs) (cell_stays (by have := hw.boxR 0 rfl 0 _ rfl; simpa [Addr.add] using this) hs) (hops op hop))) ?_
      rintro _ w' ⟨⟨r, rfl, hr⟩, hk'⟩
      replace hw := hw.call0 hk'
      clear hk'
      refine ⟨_, rfl, ?_⟩
      have hr2 : r = someV t ops u := by
        rw [Bool.eq_iff_iff, hr, someV_iff]
      have hdn : decide (u < nxV t ops v) = !r := by
        cases hsv : someV t ops u
        · rw [hr2, hsv]
          rw [show t.vars.length - u = (t.vars.length - (u + 1)) + 1 by omega, nextV_step hsv] at hun
          obtain ⟨m1, _⟩ := nextV_ok (t := t) (ops := ops) (f := t.vars.length - (u + 1)) (v := u + 1)
          exact decide_eq_true (by omega)
        · rw [hr2, hsv]
          rw [nextV_stop hsv] at hun
          exact decide_eq_false (by omega)
      repeat (first | refine go_run ?_ | (refine go_newP ?_; clear hw; intro p w hw) | (refine go_newWr ?_; clear hw; intro w hw) | (refine go_newS ?_; clear hw; intro s w hw))
      exact ⟨(), ⟨by rw [hdn]; rfl, trivial⟩, by repeat (first | exact agree_refl | (apply agree_upd rfl) | (apply agree_mix rfl) | (apply agree_sets rfl)), hw⟩
    · have hd : decide ((u : Int) < (t.vars.length : Int)) = false := decide_eq_false (by omega)
      have hdn : decide (u < nxV t ops v) = false := decide_eq_false (by unfold nxV at hu2 ⊢; omega)
      repeat (first | refine go_run ?_ | (refine go_newP ?_; clear hw; intro p w hw) | (refine go_newWr ?_; clear hw; intro w hw) | (refine go_newS ?_; clear hw; intro s w hw))
      refine vc_plan [.op 0, .op 1, .op 2, .op 3, .op 4, .op 5, .op 6, .op 7, .op 8, .op 9, .op 10, .op 11, .op 12, .op 13] hw (by kernel_rfl) ?_; clear hw; intro w hw
      repeat (first | refine go_run ?_ | (refine go_newP ?_; clear hw; intro p w hw) | (refine go_newWr ?_; clear hw; intro w hw) | (refine go_newS ?_; clear hw; intro s w hw))
      simp only [hd, beq_self_eq_true, beq_tfI, beq_ftI, Bool.false_and, Bool.true_and, Bool.not_true, Bool.not_false, Bool.cond_true, Bool.cond_false, gv_fI, gv_tI]
      repeat (first | refine go_run ?_ | (refine go_newP ?_; clear hw; intro p w hw) | (refine go_newWr ?_; clear hw; intro w hw) | (refine go_newS ?_; clear hw; intro s w hw))
      exact ⟨(), ⟨by rw [hdn]; rfl, trivial⟩, by repeat (first | exact agree_refl | (apply agree_upd rfl) | (apply agree_mix rfl) | (apply agree_sets rfl)), hw⟩
  clear hw
  rintro σ1 _ w hw
  repeat (first | refine go_run ?_ | (refine go_newP ?_; clear hw; intro p w hw) | (refine go_newW ?_; clear hw; intro w hw) | (refine go_newS ?_; clear hw; intro s w hw))
  refine go_if (fun h2 => ?_) (fun h2 => ?_)
  · have hul2 : u < t.vars.length := by unfold nxV at h2; omega
    repeat (first | refine go_run ?_ | (refine go_newP ?_; clear hw; intro p w hw) | (refine go_newW ?_; clear hw; intro w hw) | (refine go_newS ?_; clear hw; intro s w hw))
    exact ⟨u + 1, trivial, by repeat (first | exact agree_refl | (apply agree_upd rfl) | (apply agree_mix rfl) | (apply agree_sets rfl)), ⟨by omega, by omega, hw⟩, by omega⟩
  have hue : u = nxV t ops v := by omega
  repeat (first | refine go_run ?_ | (refine go_newP ?_; clear hw; intro p w hw) | (refine go_newW ?_; clear hw; intro w hw) | (refine go_newS ?_; clear hw; intro s w hw))
  refine go_if (fun h3 => ?_) (fun h3 => ?_)
  · have hul2 : u = t.vars.length := by omega
    repeat (first | refine go_run ?_ | (refine go_newP ?_; clear hw; intro p w hw) | (refine go_newW ?_; clear hw; intro w hw) | (refine go_newS ?_; clear hw; intro s w hw))
    refine st_build2 (v1 := ov) (v2 := .bool true) rfl rfl rfl (by simp only [List.all_cons, List.all_nil, oov]; rfl) ?_
    refine st_boxAggNew (vs := nodeC ov true 0 nilS (.pointer none)) rfl hw ?_
    clear hw
    intro pn w hw
    repeat (first | refine go_run ?_ | (refine go_newP ?_; clear hw; intro p w hw) | (refine go_newW ?_; clear hw; intro w hw) | (refine go_newS ?_; clear hw; intro s w hw))
    have hw2 : Sat w0 w [Box pn 256 (nodeC ov true 0 nilS (.pointer none)), Box p5 3 [.int .i64 (u : Int)], Box p3 136 [.pointer (some pg)]] := hw
    have hw3 := Sat.rd (Δ := [Box pn 256 (nodeC ov true 0 nilS (.pointer none))]) (φ := fun w => RS tInt w ov ops → RNode t w (f + 1) (some pn) ops v) (fun _ w h hr => .inr ⟨hne, pn, rfl, .inl ⟨by omega, ov, h.boxR 0 rfl, hr⟩⟩) hw2
    exact res_one (v := .pointer (some pn)) rfl rfl ⟨some pn, rfl, hw3.sel⟩
  have hul2 : u < t.vars.length := by omega
  have hdu := hg.dom u hul2
  obtain ⟨n, hn⟩ : ∃ n : Nat, t.vars.getD u tInt.dflt = (n : Int) := ⟨(t.vars.getD u tInt.dflt).toNat, by omega⟩
  repeat (first | refine go_run ?_ | (refine go_newP ?_; clear hw; intro p w hw) | (refine go_newW ?_; clear hw; intro w hw) | (refine go_newS ?_; clear hw; intro s w hw))
  obtain ⟨bv, hbv⟩ : ∃ bv, bv = s := ⟨s, rfl⟩
  subst hbv
  rw [hn, Int.toNat_natCast] at hw
  have hw1 : Sat w0 w [RowsAt tInt 3 (List.replicate n (.slice none 0 0)) (byL t ops u n 0), OS tVal 22 bv (List.replicate n (.slice none 0 0)), OS tInt 3 (.slice none 0 0) (restV t (ops.take 0) u), Box p5 3 [.int .i64 (u : Int)], Box p3 136 [.pointer (some pg)]] := by
    have h1 := (hw.nil (T := tInt) (e := 3)).rowsNil (T := tInt) (e := 3) n
    rw [← byL_zero (t := t) (ops := ops) (u := u)] at h1
    have h2 : Sat w0 w [RowsAt tInt 3 (List.replicate n (.slice none 0 0)) (byL t ops u n 0), OS tVal 22 bv (List.replicate n (.slice none 0 0)), OS tInt 3 (.slice none 0 0) [], Box p5 3 [.int .i64 (u : Int)], Box p3 136 [.pointer (some pg)]] := h1.sel
    exact h2
  clear hw
  refine vc_loop3 [8, 10, 11, 12, 57, 58, 59, 60, 61, 62, 63, 64, 65, 66, 67, 68, 69, 70, 71, 72, 73, 74, 75, 76, 77, 78, 79, 80, 81, 82, 83, 84, 85] (G := Nat) (H := Value) (I := List Value) (fun k rv _ => [(57, .int .i64 k), (8, rv)]) (fun k rv ss w => k ≤ ops.length ∧ ss.length = n ∧ Sat w0 w [RowsAt tInt 3 ss (byL t ops u n k), OS tVal 22 bv ss, OS tInt 3 rv (restV t (ops.take k) u), Box p5 3 [.int .i64 (u : Int)], Box p3 136 [.pointer (some pg)]]) (fun k _ _ => ops.length - k) 0 (.slice none 0 0) (List.replicate n (.slice none 0 0)) (fun _ _ _ => rfl) ⟨rfl, rfl, trivial⟩ ⟨Nat.zero_le _, List.length_replicate, hw1⟩ ?_
  clear hw1
  rintro σ2 k rv ss w ⟨hk, hssl, hw⟩
  have hrl : (restV t (ops.take k) u).length ≤ 4096 := by
    have h1 := List.length_filter_le (fun op => (preV t op u).isNone) (ops.take k)
    simp only [List.length_take] at h1
    unfold restV
    omega
  repeat (first | refine go_run ?_ | (refine go_newP ?_; clear hw; intro p w hw) | (refine go_newW ?_; clear hw; intro w hw) | (refine go_newS ?_; clear hw; intro s w hw))
  refine go_if (fun h4 => ?_) (fun h4 => ?_)
  · have hkl : k < ops.length := by omega
    have hopk := hops _ (mem_getD tInt.dflt hkl)
    repeat (first | refine go_run ?_ | (refine go_newP ?_; clear hw; intro p w hw) | (refine go_newW ?_; clear hw; intro w hw) | (refine go_newS ?_; clear hw; intro s w hw))
    refine st_call rfl (fact_spec (v := u) (hG'.at hw) hopk) ?_
    rintro _ w' ⟨⟨x, y, r, rfl, hr, hz⟩, hk'⟩
    replace hw := hw.call0 hk'
    clear hk'
    refine ⟨_, rfl, ?_⟩
    cases hp : preV t (ops.getD k tInt.dflt) u with
    | none =>
      rw [hp] at hr
      have hr2 : r = false := hr
      subst hr2
      repeat (first | refine go_run ?_ | (refine go_newP ?_; clear hw; intro p w hw) | (refine go_newW ?_; clear hw; intro w hw) | (refine go_newS ?_; clear hw; intro s w hw))
      rw [← rest_none hkl hp, ← byL_none hkl hp] at hw
      exact ⟨k + 1, _, _, ⟨rfl, rfl, trivial⟩, by repeat (first | exact agree_refl | (apply agree_upd rfl) | (apply agree_mix rfl) | (apply agree_sets rfl)), ⟨by omega, hssl, hw.tail.tail⟩, by omega⟩
    | some z =>
      rw [hp] at hr
      have hr2 : r = true := hr
      subst hr2
      have hyz := hz z hp
      subst hyz
      obtain ⟨z0, z1, z2⟩ := preV_rng hg hopk hp
      rw [hn] at z1
      repeat (first | refine go_run ?_ | (refine go_newP ?_; clear hw; intro p w hw) | (refine go_newW ?_; clear hw; intro w hw) | (refine go_newS ?_; clear hw; intro s w hw))
      have hbl := byL_len (t := t) (ops := ops) (u := u) (n := n) (k := k)
      have hi : y.toNat < (byL t ops u n k).length := by omega
      have hrl2 : ((byL t ops u n k).getD y.toNat []).length ≤ 4096 := by
        rw [byL_get (by omega)]
        have h1 := List.length_filter_le (fun op => decide (preV t op u = some ((y.toNat : Nat) : Int))) (ops.take k)
        simp only [List.length_take] at h1
        unfold byV
        omega
      replace hw := hw.swap.rowOut hi
      repeat (first | refine go_run ?_ | (refine go_newP ?_; clear hw; intro p w hw) | (refine go_newWr ?_; clear hw; intro w hw) | (refine go_newS ?_; clear hw; intro s w hw))
      refine vc_plan [.op 0, .op 1, .op 2, .op 3, .op 4, .op 5, .op 6, .op 7, .op 8, .op 9, .chk 2, .chk 5, .chk 7, .op 10, .chk 2, .op 11, .op 12] hw (by kernel_rfl) ?_; clear hw; intro w hw
      repeat (first | refine go_run ?_ | (refine go_newP ?_; clear hw; intro p w hw) | (refine go_newW ?_; clear hw; intro w hw) | (refine go_newS ?_; clear hw; intro s w hw))
      replace hw := Sat.rowIn hi (by omega) hw.tail
      rw [← byL_some hkl hp z0 z1, ← rest_some hkl hp] at hw
      exact ⟨k + 1, _, _, ⟨rfl, rfl, trivial⟩, by repeat (first | exact agree_refl | (apply agree_upd rfl) | (apply agree_mix rfl) | (apply agree_sets rfl)), ⟨by omega, by rw [List.length_set]; exact hssl, hw.swap.tail⟩, by omega⟩
  have hke : k = ops.length := by omega
  subst hke
  rw [List.take_of_length_le (Nat.le_refl _)] at hw hrl
  have hfu : t.vars.length - (u + 1) < f := by omega
  have hrst : ∀ op ∈ restV t ops u, 0 ≤ op ∧ op < t.ops.length := fun op h => hops op (List.mem_filter.1 h).1
  repeat (first | refine go_run ?_ | (refine go_newP ?_; clear hw; intro p w hw) | (refine go_newWr ?_; clear hw; intro w hw) | (refine go_newS ?_; clear hw; intro s w hw))
  refine vc_plan [.op 0, .op 1, .op 2, .op 3, .op 4, .op 5, .chk 0, .op 6, .op 7, .op 8] hw (by kernel_rfl) ?_; clear hw; intro w hw
  repeat (first | refine go_run ?_ | (refine go_newP ?_; clear hw; intro p w hw) | (refine go_newWr ?_; clear hw; intro w hw) | (refine go_newS ?_; clear hw; intro s w hw))
  refine st_call rfl (ih _ pg rv (restV t ops u) (u + 1) (hG'.at hw) (rsO hw) hrst hrl (by omega) hfu) ?_
  rintro _ w' ⟨ra, rfl, hk'⟩
  replace hw := hw.call1 hk'
  clear hk'
  refine ⟨_, rfl, ?_⟩
  repeat (first | refine go_run ?_ | (refine go_newP ?_; clear hw; intro p w hw) | (refine go_newWr ?_; clear hw; intro w hw) | (refine go_newS ?_; clear hw; intro s w hw))
  obtain ⟨pn, hpn⟩ : ∃ pn, pn = p := ⟨p, rfl⟩
  subst hpn
  have hw1 : Sat w0 w [RdH (ChF t f ops u ss 0 []), OS tVal 190 nilS (([] : List (Option Addr)).map Value.pointer), Box pn 256 (nodeC nilS false (u : Int) nilS (.pointer ra)), RdH (fun w => RNode t w f ra (restV t ops u) (u + 1)), RowsAt tInt 3 ss (byL t ops u n ops.length), OS tVal 22 bv ss, Box p5 3 [.int .i64 (u : Int)], Box p3 136 [.pointer (some pg)]] := by
    have h1 : Sat w0 w [Box pn 256 (nodeC nilS false (u : Int) nilS (.pointer ra)), RdH (fun w => RS tInt w rv (restV t ops u) → RNode t w f ra (restV t ops u) (u + 1)), RowsAt tInt 3 ss (byL t ops u n ops.length), OS tVal 22 bv ss, OS tInt 3 rv (restV t ops u), Box p5 3 [.int .i64 (u : Int)], Box p3 136 [.pointer (some pg)]] := hw
    have h2 : Sat w0 w [RdH (fun w => RS tInt w rv (restV t ops u) → RNode t w f ra (restV t ops u) (u + 1)), OS tInt 3 rv (restV t ops u), Box pn 256 (nodeC nilS false (u : Int) nilS (.pointer ra)), RowsAt tInt 3 ss (byL t ops u n ops.length), OS tVal 22 bv ss, Box p5 3 [.int .i64 (u : Int)], Box p3 136 [.pointer (some pg)]] := h1.sel
    have h3 := Sat.rd (Δ := [RdH (fun w => RS tInt w rv (restV t ops u) → RNode t w f ra (restV t ops u) (u + 1)), OS tInt 3 rv (restV t ops u)]) (φ := fun w => RNode t w f ra (restV t ops u) (u + 1)) (fun _ w h => (h.rdE 0 rfl) (h.rs 1 rfl)) h2
    have h4 := (Sat.rd0 (φ := ChF t f ops u ss 0 []) (fun w i hi => absurd hi (Nat.not_lt_zero _)) h3).nil (T := tVal) (e := 190)
    have h5 : Sat w0 w [RdH (ChF t f ops u ss 0 []), OS tVal 190 nilS [], Box pn 256 (nodeC nilS false (u : Int) nilS (.pointer ra)), RdH (fun w => RNode t w f ra (restV t ops u) (u + 1)), RowsAt tInt 3 ss (byL t ops u n ops.length), OS tVal 22 bv ss, Box p5 3 [.int .i64 (u : Int)], Box p3 136 [.pointer (some pg)]] := h4.sel
    exact h5
  clear hw
  refine vc_loop3 [15, 96, 97, 98, 99, 100, 101, 102, 103, 104, 105, 106, 107, 108, 109, 110, 111, 112, 113, 114] (G := Nat) (H := Value) (I := List (Option Addr)) (fun x _ _ => [(96, .int .i64 x)]) (fun x vv vl w => x ≤ n ∧ vl.length = x ∧ Sat w0 w [RdH (ChF t f ops u ss x vl), OS tVal 190 vv (vl.map Value.pointer), Box pn 256 (nodeC nilS false (u : Int) vv (.pointer ra)), RdH (fun w => RNode t w f ra (restV t ops u) (u + 1)), RowsAt tInt 3 ss (byL t ops u n ops.length), OS tVal 22 bv ss, Box p5 3 [.int .i64 (u : Int)], Box p3 136 [.pointer (some pg)]]) (fun x _ _ => n - x) 0 nilS [] (fun _ _ _ => rfl) ⟨rfl, trivial⟩ ⟨Nat.zero_le _, rfl, hw1⟩ ?_
  clear hw1
  rintro σ3 x vv vl w ⟨hx, hvl2, hw⟩
  have hvm : (vl.map Value.pointer).length = x := by rw [List.length_map]; exact hvl2
  have ovv := (hw.rs 1 rfl).one
  repeat (first | refine go_run ?_ | (refine go_newP ?_; clear hw; intro p w hw) | (refine go_newW ?_; clear hw; intro w hw) | (refine go_newS ?_; clear hw; intro s w hw))
  refine go_if (fun h5 => ?_) (fun h5 => ?_)
  · have hxl : x < n := by omega
    repeat (first | refine go_run ?_ | (refine go_newP ?_; clear hw; intro p w hw) | (refine go_newW ?_; clear hw; intro w hw) | (refine go_newS ?_; clear hw; intro s w hw))
    have hbyl : (byV t ops u (x : Int)).length ≤ 4096 := by
      have h1 := List.length_filter_le (fun op => decide (preV t op u = some (x : Int))) ops
      unfold byV
      omega
    have hbyo : ∀ op ∈ byV t ops u (x : Int), 0 ≤ op ∧ op < t.ops.length := fun op h => hops op (List.mem_filter.1 h).1
    refine vc_plan [.op 0, .op 1, .op 2, .op 3, .op 4, .op 5, .op 6, .op 7, .op 8, .op 9, .chk 4, .op 10, .chk 4, .op 11, .op 12, .op 13, .op 14] hw (by kernel_rfl) ?_; clear hw; intro w hw
    repeat (first | refine go_run ?_ | (refine go_newP ?_; clear hw; intro p w hw) | (refine go_newWr ?_; clear hw; intro w hw) | (refine go_newS ?_; clear hw; intro s w hw))
    have hrow : RS tInt w (vget ss x) (byV t ops u (x : Int)) := by
      have h1 : Sat w0 w [RowsAt tInt 3 ss (byL t ops u n ops.length)] := hw.sel
      have h2 := h1.row (i := x) (by rw [byL_len]; exact hxl)
      rw [byL_get hxl, List.take_of_length_le (Nat.le_refl _)] at h2
      exact h2
    refine st_call rfl (ih _ pg (vget ss x) (byV t ops u (x : Int)) (u + 1) (hG'.at hw) hrow hbyo hbyl (by omega) hfu) ?_
    rintro _ w' ⟨na, rfl, hk'⟩
    replace hw := hw.call1 hk'
    clear hk'
    refine ⟨_, rfl, ?_⟩
    repeat (first | refine go_run ?_ | (refine go_newP ?_; clear hw; intro p w hw) | (refine go_newWr ?_; clear hw; intro w hw) | (refine go_newS ?_; clear hw; intro s w hw))
    have hw1 : Sat w0 w [RdH (ChF t f ops u ss (x + 1) (vl ++ [na])), OS tVal 190 s ((vl ++ [na]).map Value.pointer), Box pn 256 (nodeC nilS false (u : Int) s (.pointer ra)), RdH (fun w => RNode t w f ra (restV t ops u) (u + 1)), RowsAt tInt 3 ss (byL t ops u n ops.length), OS tVal 22 bv ss, Box p5 3 [.int .i64 (u : Int)], Box p3 136 [.pointer (some pg)]] := by
      have h2 := Sat.rd2 (χ := ChF t f ops u ss (x + 1) (vl ++ [na])) (fun w h1 h2 => h2.step hvl2 h1) hw.tail
      rw [List.map_append]
      exact h2
    exact ⟨x + 1, _, _, ⟨rfl, trivial⟩, by repeat (first | exact agree_refl | (apply agree_upd rfl) | (apply agree_mix rfl) | (apply agree_sets rfl)), ⟨by omega, by simp [hvl2], hw1⟩, by omega⟩
  have hxe : x = n := by omega
  subst hxe
  repeat (first | refine go_run ?_ | (refine go_newP ?_; clear hw; intro p w hw) | (refine go_newW ?_; clear hw; intro w hw) | (refine go_newS ?_; clear hw; intro s w hw))
  have h1 : Sat w0 w [RdH (ChF t f ops u ss x vl), OS tVal 190 vv (vl.map Value.pointer), Box pn 256 (nodeC nilS false (u : Int) vv (.pointer ra)), RdH (fun w => RNode t w f ra (restV t ops u) (u + 1)), RowsAt tInt 3 ss (byL t ops u x ops.length), OS tVal 22 bv ss, Box p5 3 [.int .i64 (u : Int)], Box p3 136 [.pointer (some pg)]] := hw
  have h2 := Sat.rd (Δ := [RdH (ChF t f ops u ss x vl), OS tVal 190 vv (vl.map Value.pointer), Box pn 256 (nodeC nilS false (u : Int) vv (.pointer ra)), RdH (fun w => RNode t w f ra (restV t ops u) (u + 1)), RowsAt tInt 3 ss (byL t ops u x ops.length)]) (φ := fun w => RS tInt w ov ops → RNode t w (f + 1) (some pn) ops v) (fun _ w h _ => by
    refine .inr ⟨hne, pn, rfl, .inr ?_⟩
    rw [← hue]
    refine ⟨hul2, vv, ra, vl, h.boxR 2 rfl, h.rs 1 rfl, by rw [hvl2, hn]; rfl, h.rdE 3 rfl, fun i hi => (h.rdE 0 rfl) i (by omega) ?_⟩
    have h3 : Sat _ w [RowsAt tInt 3 ss (byL t ops u x ops.length)] := h.sel
    have h4 := h3.row (i := i) (by rw [byL_len]; omega)
    rw [byL_get (by omega), List.take_of_length_le (Nat.le_refl _)] at h4
    exact h4) h1
  exact res_one (v := .pointer (some pn)) rfl rfl ⟨some pn, rfl, h2.sel⟩
theorem build_spec {t : TTask} (hg : GoodT t) : ∀ f, BuildOk t f
  | 0 => fun _ _ _ _ _ _ _ _ _ _ h => absurd h (Nat.not_lt_zero _)
  | f + 1 => build_step hg (build_spec hg f)
end Go.Proofs.YtkmbenhffledpaaGreat
