
/-
  Contracts of 'project.has' and 'outside'.
-/
import Derived.Test.YtnoiagnmbipppaaWProj
set_option linter.unusedSimpArgs false
set_option linter.unusedVariables false
namespace Go.Proofs.Ytnoiagnmbipppaa
open Go.Sl Go
attribute [local irreducible] vc opsW opsD opV opW PureV ReadV Thn Blk

theorem cell_at {w0 w : World} {Γ : List HP} {p : Addr} {v : Value} (h : w0.cell? p = some v) (hw : Sat w0 w Γ) : w.cell? p = some v := by
  have hlt : p.block < w0.heap.size := by
    rcases Nat.lt_or_ge p.block w0.heap.size with h' | h'
    · exact h'
    · simp [World.cell?, Array.getElem?_eq_none h'] at h
  rw [hw.below.cell hlt]; exact h
set_option maxRecDepth 8000 in
theorem has1_spec {w0 : World} {pv : Addr} {v : Int} {x : Fact} (hv : w0.cell? pv = some (.int .i64 v)) :
    Calls Try.prog 87 #[.agg #[.int .i64 x.var, .int .i64 x.val], .pointer (some pv)] w0 fun e w' => e = .returned (.bool (decide (x.var = v))) ∧ Sat w0 w' [] := by
  have hw := Sat.start w0
  refine calls_of_vc (args := [.agg #[.int .i64 x.var, .int .i64 x.val], .pointer (some pv)]) mixed Try.func87 rfl (by kernel_rfl) (Nat.le_of_ble_eq_true rfl) ?_
  repeat (first | refine go_run ?_ | (refine go_newP ?_; clear hw; intro p w hw) | (refine go_newW ?_; clear hw; intro w hw) | (refine go_newS ?_; clear hw; intro s w hw))
  refine step_read rfl (rv_cell rfl (cell_at hv hw)) ?_
  repeat (first | refine go_run ?_ | (refine go_newP ?_; clear hw; intro p w hw) | (refine go_newW ?_; clear hw; intro w hw) | (refine go_newS ?_; clear hw; intro s w hw))
  exact res_one (v := .bool (decide (x.var = v))) rfl rfl ⟨rfl, hw.tail⟩

set_option maxRecDepth 8000 in
theorem hasIdx_spec {w0 : World} {a : Value} {f : List Fact} {pv : Addr} {v : Int} (ha : RS tFact w0 a f) (hv : w0.cell? pv = some (.int .i64 v)) :
    Calls Try.prog 91 #[a, .func (.func 87) #[] #[.pointer (some pv)]] w0 fun e w' => (∃ r : Int, e = .returned (.int .i64 r) ∧ (0 ≤ r ↔ ∃ x ∈ f, x.var = v)) ∧ Sat w0 w' [] := by
  have hla := ha.big
  have hw := Sat.start w0
  refine calls_of_vc (args := [a, .func (.func 87) #[] #[.pointer (some pv)]]) mixed Try.func91 rfl (by kernel_rfl) (Nat.le_of_ble_eq_true rfl) ?_
  repeat (first | refine go_run ?_ | (refine go_newP ?_; clear hw; intro p w hw) | (refine go_newW ?_; clear hw; intro w hw) | (refine go_newS ?_; clear hw; intro s w hw))
  refine vc_loop [4, 5, 8, 9, 10, 11, 12, 13, 14, 15, 16, 17, 18] (G := Nat) (fun k => [(8, .int .i64 k)]) (fun k w => k ≤ f.length ∧ (∀ i, i < k → (f.getD i tFact.dflt).var ≠ v) ∧ Sat w0 w []) (fun k => f.length - k) 0 (fun _ => rfl) ⟨rfl, trivial⟩ ⟨Nat.zero_le _, fun i hi => absurd hi (Nat.not_lt_zero _), hw⟩ ?_
  clear hw
  rintro σ k w ⟨hk, hpre, hw⟩
  repeat (first | refine go_run ?_ | (refine go_newP ?_; clear hw; intro p w hw) | (refine go_newW ?_; clear hw; intro w hw) | (refine go_newS ?_; clear hw; intro s w hw))
  refine go_if (fun h1 => ?_) (fun h1 => ?_)
  · have hkl : k < f.length := by omega
    repeat (first | refine go_run ?_ | (refine go_newP ?_; clear hw; intro p w hw) | (refine go_newW ?_; clear hw; intro w hw) | (refine go_newS ?_; clear hw; intro s w hw))
    refine st_callF (cs := [.pointer (some pv)]) rfl rfl (has1_spec (x := f.getD k tFact.dflt) (cell_at hv hw)) ?_
    rintro _ w' ⟨rfl, hk'⟩
    replace hw := hw.call0 hk'
    clear hk'
    refine ⟨_, rfl, ?_⟩
    repeat (first | refine go_run ?_ | (refine go_newP ?_; clear hw; intro p w hw) | (refine go_newW ?_; clear hw; intro w hw) | (refine go_newS ?_; clear hw; intro s w hw))
    refine go_if (fun h2 => ?_) (fun h2 => ?_)
    · repeat (first | refine go_run ?_ | (refine go_newP ?_; clear hw; intro p w hw) | (refine go_newW ?_; clear hw; intro w hw) | (refine go_newS ?_; clear hw; intro s w hw))
      refine res_one (v := .int .i64 k) rfl rfl ⟨⟨k, rfl, ⟨fun _ => ⟨_, mem_getD tFact.dflt hkl, h2⟩, fun _ => by omega⟩⟩, hw⟩
    · repeat (first | refine go_run ?_ | (refine go_newP ?_; clear hw; intro p w hw) | (refine go_newW ?_; clear hw; intro w hw) | (refine go_newS ?_; clear hw; intro s w hw))
      refine ⟨k + 1, ⟨rfl, trivial⟩, by repeat (first | exact agree_refl | (apply agree_upd rfl) | (apply agree_mix rfl) | (apply agree_sets rfl)), ⟨by omega, fun i hi => ?_, hw⟩, by omega⟩
      by_cases h : i = k
      · subst h; exact h2
      · exact hpre i (by omega)
  · repeat (first | refine go_run ?_ | (refine go_newP ?_; clear hw; intro p w hw) | (refine go_newW ?_; clear hw; intro w hw) | (refine go_newS ?_; clear hw; intro s w hw))
    refine res_one (v := .int .i64 (-1)) rfl rfl ⟨⟨-1, rfl, ⟨fun h => by omega, ?_⟩⟩, hw⟩
    rintro ⟨x, hx, he⟩
    obtain ⟨i, hi, rfl⟩ := List.mem_iff_getElem.1 hx
    exact absurd (by rw [getD_at hi]; exact he) (hpre i (by omega))

set_option maxRecDepth 8000 in
theorem hasC_spec {w0 : World} {a : Value} {f : List Fact} {pv : Addr} {v : Int} (ha : RS tFact w0 a f) (hv : w0.cell? pv = some (.int .i64 v)) :
    Calls Try.prog 86 #[a, .func (.func 87) #[] #[.pointer (some pv)]] w0 fun e w' => (∃ r, e = .returned (.bool r) ∧ (r = true ↔ ∃ x ∈ f, x.var = v)) ∧ Sat w0 w' [] := by
  have hw := Sat.start w0
  refine calls_of_vc (args := [a, .func (.func 87) #[] #[.pointer (some pv)]]) mixed Try.func86 rfl (by kernel_rfl) (Nat.le_of_ble_eq_true rfl) ?_
  repeat (first | refine go_run ?_ | (refine go_newP ?_; clear hw; intro p w hw) | (refine go_newW ?_; clear hw; intro w hw) | (refine go_newS ?_; clear hw; intro s w hw))
  refine st_call rfl (hasIdx_spec ha hv) ?_
  rintro _ w' ⟨⟨r, rfl, hr⟩, hk'⟩
  replace hw := hw.call0 hk'
  clear hk'
  refine ⟨_, rfl, ?_⟩
  repeat (first | refine go_run ?_ | (refine go_newP ?_; clear hw; intro p w hw) | (refine go_newW ?_; clear hw; intro w hw) | (refine go_newS ?_; clear hw; intro s w hw))
  exact res_one (v := .bool (decide (0 ≤ r))) rfl rfl ⟨⟨_, rfl, by rw [decide_eq_true_eq]; exact hr⟩, hw⟩

set_option maxRecDepth 8000 in
theorem has_spec {w0 : World} {a : Value} {f : List Fact} {v : Int} (ha : RS tFact w0 a f) :
    Calls Try.prog 77 #[a, .int .i64 v] w0 fun e w' => (∃ r, e = .returned (.bool r) ∧ (r = true ↔ ∃ x ∈ f, x.var = v)) ∧ Sat w0 w' [] := by
  have hw := Sat.start w0
  refine calls_of_vc (args := [a, .int .i64 v]) mixed Try.func77 rfl (by kernel_rfl) (Nat.le_of_ble_eq_true rfl) ?_
  repeat (first | refine go_run ?_ | (refine go_newP ?_; clear hw; intro p w hw) | (refine go_newW ?_; clear hw; intro w hw) | (refine go_newS ?_; clear hw; intro s w hw))
  refine st_call rfl (hasC_spec (v := v) (ha.at hw) (box_cell0 (i := 0) hw rfl rfl)) ?_
  rintro _ w' ⟨⟨r, rfl, hr⟩, hk'⟩
  replace hw := hw.call0 hk'
  clear hk'
  refine ⟨_, rfl, ?_⟩
  repeat (first | refine go_run ?_ | (refine go_newP ?_; clear hw; intro p w hw) | (refine go_newW ?_; clear hw; intro w hw) | (refine go_newS ?_; clear hw; intro s w hw))
  exact res_one (v := .bool r) rfl rfl ⟨⟨_, rfl, hr⟩, hw.tail⟩

def FreeK (o : TOp) (L : List Int) (k : Nat) (u : Int) : Prop := (∃ e ∈ o.effs.take k, e.var ∈ L ∧ ∃ f ∈ e.when, f.var = u) ∧ u ∉ L ∧ ∀ f ∈ o.pre, f.var ≠ u
def FreeJ (o : TOp) (L : List Int) (k : Nat) (f : List Fact) (u : Int) : Prop := FreeK o L k u ∨ ((∃ x ∈ f, x.var = u) ∧ u ∉ L ∧ ∀ x ∈ o.pre, x.var ≠ u)
theorem freeK_zero (o : TOp) (L : List Int) (u : Int) : ¬ FreeK o L 0 u := fun ⟨⟨e, he, _⟩, _⟩ => by simp at he
theorem freeK_succ {o : TOp} {L : List Int} {k : Nat} {u : Int} (hk : k < o.effs.length) (hm : (o.effs.getD k dEff).var ∈ L) : FreeJ o L k (o.effs.getD k dEff).when u ↔ FreeK o L (k + 1) u := by
  unfold FreeJ FreeK
  rw [take_snoc dEff hk]
  constructor
  · rintro (⟨⟨e, he, h1⟩, h2⟩ | ⟨⟨x, hx, hxu⟩, h2⟩)
    · exact ⟨⟨e, by simp [he], h1⟩, h2⟩
    · exact ⟨⟨_, by simp, hm, x, hx, hxu⟩, h2⟩
  · rintro ⟨⟨e, he, h1, h3⟩, h2⟩
    rcases List.mem_append.1 he with he | he
    · exact .inl ⟨⟨e, he, h1, h3⟩, h2⟩
    · rw [List.mem_singleton.1 he] at h3
      exact .inr ⟨h3, h2⟩
theorem freeK_skip {o : TOp} {L : List Int} {k : Nat} {u : Int} (hk : k < o.effs.length) (hm : (o.effs.getD k dEff).var ∉ L) : FreeK o L k u ↔ FreeK o L (k + 1) u := by
  unfold FreeK
  rw [take_snoc dEff hk]
  constructor
  · rintro ⟨⟨e, he, h1⟩, h2⟩
    exact ⟨⟨e, by simp [he], h1⟩, h2⟩
  · rintro ⟨⟨e, he, h1, h3⟩, h2⟩
    rcases List.mem_append.1 he with he | he
    · exact ⟨⟨e, he, h1, h3⟩, h2⟩
    · rw [List.mem_singleton.1 he] at h1
      exact absurd h1 hm
theorem freeJ_snoc {o : TOp} {L : List Int} {k : Nat} {f : List Fact} {x : Fact} {u : Int} : FreeJ o L k (f ++ [x]) u ↔ FreeJ o L k f u ∨ (u = x.var ∧ u ∉ L ∧ ∀ y ∈ o.pre, y.var ≠ u) := by
  unfold FreeJ
  constructor
  · rintro (h | ⟨⟨y, hy, hyu⟩, h2⟩)
    · exact .inl (.inl h)
    · rcases List.mem_append.1 hy with hy | hy
      · exact .inl (.inr ⟨⟨y, hy, hyu⟩, h2⟩)
      · rw [List.mem_singleton.1 hy] at hyu
        exact .inr ⟨hyu.symm, h2⟩
  · rintro ((h | ⟨⟨y, hy, hyu⟩, h2⟩) | ⟨rfl, h2⟩)
    · exact .inl h
    · exact .inr ⟨⟨y, by simp [hy], hyu⟩, h2⟩
    · exact .inr ⟨⟨x, by simp, rfl⟩, h2⟩
theorem sort_asc {xs : List Int} (h : xs.Nodup) : (sortL xs).Pairwise (· < ·) := by
  have h1 := sortL_pw xs
  have h2 : (sortL xs).Nodup := (List.mergeSort_perm xs _).nodup_iff.2 h
  exact (h1.and h2).imp fun h => by omega

set_option maxRecDepth 8000 in
set_option maxHeartbeats 2000000 in
theorem outside_spec {w0 : World} {va : Value} {v : OpV} {o : TOp} {vars L : List Int} (hv : ROp w0 v o) (hp : RS tInt w0 va L) (ho : OpOk vars o) (hn : vars.length ≤ 64) :
    Calls Try.prog 67 #[.agg (tOp.enc v).toArray, va] w0 fun e w' => ∃ s, e = .returned s ∧ Sat w0 w' [OS tInt 3 s (freeL vars o L)] := by
  have hone := hv.one
  obtain ⟨es, hes⟩ := hv.effs
  have hers := hes.rs
  have hel := hes.len
  have heb := hers.big
  have hpre := hv.pre
  have he64 := ho.effs
  have hw := Sat.start w0
  refine calls_of_vc (args := [.agg (tOp.enc v).toArray, va]) mixed Try.func67 rfl (by kernel_rfl) (Nat.le_of_ble_eq_true rfl) ?_
  repeat (first | refine go_run ?_ | (refine go_newP ?_; clear hw; intro p w hw) | (refine go_newW ?_; clear hw; intro w hw) | (refine go_newS ?_; clear hw; intro s w hw))
  obtain ⟨pt, hpt⟩ : ∃ pt, pt = p := ⟨p, rfl⟩
  subst hpt
  refine vc_loop3 [5, 7, 9, 13, 14, 15, 16, 17, 18, 19, 20, 21, 22, 23, 24, 25, 26, 27, 28, 29, 30, 31, 32, 33, 34, 35, 36, 37, 38, 39, 40, 41, 42, 43, 44, 45, 46, 47, 48, 49, 50, 51, 52, 53, 54, 55] (G := Nat) (H := Value) (I := List Int) (fun k s _ => [(13, .int .i64 k), (5, s)]) (fun k s xs w => k ≤ o.effs.length ∧ xs.Nodup ∧ xs.length ≤ 64 * k ∧ (∀ u, u ∈ xs ↔ FreeK o L k u) ∧ Sat w0 w [OS tInt 3 s xs, Box pt 46 (tOp.enc v)]) (fun k _ _ => o.effs.length - k) 0 (.slice none 0 0) [] (fun _ _ _ => rfl) ⟨rfl, rfl, trivial⟩ ⟨Nat.zero_le _, List.nodup_nil, by simp, fun u => ⟨fun h => by simp at h, fun h => absurd h (freeK_zero o L u)⟩, hw.nil⟩ ?_
  clear hw
  rintro σ k s xs w ⟨hk, hnd, hxl, hmem, hw⟩
  repeat (first | refine go_run ?_ | (refine go_newP ?_; clear hw; intro p w hw) | (refine go_newW ?_; clear hw; intro w hw) | (refine go_newS ?_; clear hw; intro s w hw))
  refine go_if (fun h1 => ?_) (fun h1 => ?_)
  · have hkl : k < o.effs.length := by omega
    have hek := hes.at_ k hkl
    have hwh := hek.when
    have hone2 := hek.one
    have hv1 := hek.var
    have heo := ho.eff k hkl
    have hwl := facts_len heo.1
    have hwb := hwh.big
    obtain ⟨F, hF⟩ : ∃ F, F = (o.effs.getD k dEff).when := ⟨_, rfl⟩
    rw [← hF] at hwh hwl hwb
    repeat (first | refine go_run ?_ | (refine go_newP ?_; clear hw; intro p w hw) | (refine go_newW ?_; clear hw; intro w hw) | (refine go_newS ?_; clear hw; intro s w hw))
    obtain ⟨pe, hpe⟩ : ∃ pe, pe = p := ⟨p, rfl⟩
    subst hpe
    refine st_call rfl (Contains_spec (hp.at hw)) ?_
    rintro _ w' ⟨rfl, hk'⟩
    replace hw := hw.call0 hk'
    clear hk'
    by_cases hm : (eget tEff es k).var ∈ L
    · rw [decide_eq_true hm]
      refine ⟨_, rfl, ?_⟩
      rw [hv1] at hm
      repeat (first | refine go_run ?_ | (refine go_newP ?_; clear hw; intro p w hw) | (refine go_newW ?_; clear hw; intro w hw) | (refine go_newS ?_; clear hw; intro s w hw))
      refine vc_loop3 [5, 9, 25, 26, 27, 28, 29, 30, 31, 32, 33, 34, 35, 36, 37, 38, 39, 40, 41, 42, 43, 44, 45, 46, 47, 48, 49, 50, 51, 52, 53, 54] (G := Nat) (H := Value) (I := List Int) (fun j s _ => [(25, .int .i64 j), (5, s)]) (fun j s xs w => j ≤ F.length ∧ xs.Nodup ∧ xs.length ≤ 64 * k + j ∧ (∀ u, u ∈ xs ↔ FreeJ o L k (F.take j) u) ∧ Sat w0 w [Box pe 96 (tEff.enc (eget tEff es k)), OS tInt 3 s xs, Box pt 46 (tOp.enc v)]) (fun j _ _ => F.length - j) 0 s xs (fun _ _ _ => rfl) ⟨rfl, rfl, trivial⟩ ⟨Nat.zero_le _, hnd, by omega, fun u => (hmem u).trans ⟨fun h => .inl h, fun h => by rcases h with h | ⟨⟨x, hx, _⟩, _⟩; exact h; simp at hx⟩, hw⟩ ?_
      clear hw hmem hnd hxl
      rintro σ1 j s xs w ⟨hj, hnd, hxl, hmem, hw⟩
      repeat (first | refine go_run ?_ | (refine go_newP ?_; clear hw; intro p w hw) | (refine go_newW ?_; clear hw; intro w hw) | (refine go_newS ?_; clear hw; intro s w hw))
      refine go_if (fun h2 => ?_) (fun h2 => ?_)
      · have hjl : j < F.length := by omega
        have hsn := fun u => freeJ_snoc (o := o) (L := L) (k := k) (f := F.take j) (x := F.getD j tFact.dflt) (u := u)
        rw [← take_snoc tFact.dflt hjl] at hsn
        repeat (first | refine go_run ?_ | (refine go_newP ?_; clear hw; intro p w hw) | (refine go_newW ?_; clear hw; intro w hw) | (refine go_newS ?_; clear hw; intro s w hw))
        refine st_call rfl (Contains_spec (hp.at hw)) ?_
        rintro _ w' ⟨rfl, hk'⟩
        replace hw := hw.call0 hk'
        clear hk'
        by_cases hm2 : (F.getD j tFact.dflt).var ∈ L
        · rw [decide_eq_true hm2]
          refine ⟨_, rfl, ?_⟩
          repeat (first | refine go_run ?_ | (refine go_newP ?_; clear hw; intro p w hw) | (refine go_newW ?_; clear hw; intro w hw) | (refine go_newS ?_; clear hw; intro s w hw))
          refine ⟨j + 1, s, xs, ⟨rfl, rfl, trivial⟩, by repeat (first | exact agree_refl | (apply agree_upd rfl) | (apply agree_mix rfl) | (apply agree_sets rfl)), ⟨by omega, hnd, by omega, fun u => ?_, hw.tail⟩, by omega⟩
          rw [hmem u, hsn u]
          exact ⟨.inl, fun h => h.resolve_right fun h => h.2.1 (h.1 ▸ hm2)⟩
        · rw [decide_eq_false hm2]
          refine ⟨_, rfl, ?_⟩
          repeat (first | refine go_run ?_ | (refine go_newP ?_; clear hw; intro p w hw) | (refine go_newW ?_; clear hw; intro w hw) | (refine go_newS ?_; clear hw; intro s w hw))
          refine st_call rfl (has_spec (hpre.at hw)) ?_
          rintro _ w' ⟨⟨r, rfl, hr⟩, hk'⟩
          replace hw := hw.call0 hk'
          clear hk'
          refine ⟨_, rfl, ?_⟩
          cases r with
          | true =>
            repeat (first | refine go_run ?_ | (refine go_newP ?_; clear hw; intro p w hw) | (refine go_newW ?_; clear hw; intro w hw) | (refine go_newS ?_; clear hw; intro s w hw))
            refine ⟨j + 1, s, xs, ⟨rfl, rfl, trivial⟩, by repeat (first | exact agree_refl | (apply agree_upd rfl) | (apply agree_mix rfl) | (apply agree_sets rfl)), ⟨by omega, hnd, by omega, fun u => ?_, hw.tail⟩, by omega⟩
            rw [hmem u, hsn u]
            obtain ⟨y, hy, hyu⟩ := hr.1 rfl
            exact ⟨.inl, fun h => h.resolve_right fun h => h.2.2 y hy (by rw [hyu, h.1])⟩
          | false =>
            have hnp : ∀ y ∈ o.pre, y.var ≠ (F.getD j tFact.dflt).var := fun y hy e => by have := hr.2 ⟨y, hy, e⟩; cases this
            repeat (first | refine go_run ?_ | (refine go_newP ?_; clear hw; intro p w hw) | (refine go_newW ?_; clear hw; intro w hw) | (refine go_newS ?_; clear hw; intro s w hw))
            refine st_call rfl (Contains_spec (a := s) (rsO hw)) ?_
            rintro _ w' ⟨rfl, hk'⟩
            replace hw := hw.call0 hk'
            clear hk'
            by_cases hm3 : (F.getD j tFact.dflt).var ∈ xs
            · rw [decide_eq_true hm3]
              refine ⟨_, rfl, ?_⟩
              repeat (first | refine go_run ?_ | (refine go_newP ?_; clear hw; intro p w hw) | (refine go_newW ?_; clear hw; intro w hw) | (refine go_newS ?_; clear hw; intro s w hw))
              refine ⟨j + 1, s, xs, ⟨rfl, rfl, trivial⟩, by repeat (first | exact agree_refl | (apply agree_upd rfl) | (apply agree_mix rfl) | (apply agree_sets rfl)), ⟨by omega, hnd, by omega, fun u => ?_, hw.tail⟩, by omega⟩
              rw [hsn u, ← hmem u]
              exact ⟨.inl, fun h => h.elim id fun h => h.1 ▸ hm3⟩
            · rw [decide_eq_false hm3]
              refine ⟨_, rfl, ?_⟩
              repeat (first | refine go_run ?_ | (refine go_newP ?_; clear hw; intro p w hw) | (refine go_newW ?_; clear hw; intro w hw) | (refine go_newS ?_; clear hw; intro s w hw))
              refine ⟨j + 1, _, xs ++ [(F.getD j tFact.dflt).var], ⟨rfl, rfl, trivial⟩, by repeat (first | exact agree_refl | (apply agree_upd rfl) | (apply agree_mix rfl) | (apply agree_sets rfl)), ⟨by omega, ?_, by simp; omega, fun u => ?_, hw.tail.tail⟩, by omega⟩
              · rw [List.nodup_append]
                refine ⟨hnd, by simp, fun x hx y hy e => ?_⟩
                rw [List.mem_singleton.1 hy] at e
                exact hm3 (e ▸ hx)
              · rw [hsn u, ← hmem u, List.mem_append, List.mem_singleton]
                exact ⟨fun h => h.elim .inl fun h => .inr ⟨h, h ▸ hm2, fun y hy => h ▸ hnp y hy⟩, fun h => h.elim .inl fun h => .inr h.1⟩
      · rw [List.take_of_length_le (by omega)] at hmem
        repeat (first | refine go_run ?_ | (refine go_newP ?_; clear hw; intro p w hw) | (refine go_newW ?_; clear hw; intro w hw) | (refine go_newS ?_; clear hw; intro s w hw))
        refine ⟨k + 1, s, xs, ⟨rfl, rfl, trivial⟩, by repeat (first | exact agree_refl | (apply agree_upd rfl) | (apply agree_mix rfl) | (apply agree_sets rfl)), ⟨by omega, hnd, by omega, fun u => ?_, hw.tail⟩, by omega⟩
        rw [hmem u, hF, freeK_succ hkl hm]
    · rw [decide_eq_false hm]
      refine ⟨_, rfl, ?_⟩
      rw [hv1] at hm
      repeat (first | refine go_run ?_ | (refine go_newP ?_; clear hw; intro p w hw) | (refine go_newW ?_; clear hw; intro w hw) | (refine go_newS ?_; clear hw; intro s w hw))
      refine ⟨k + 1, s, xs, ⟨rfl, rfl, trivial⟩, by repeat (first | exact agree_refl | (apply agree_upd rfl) | (apply agree_mix rfl) | (apply agree_sets rfl)), ⟨by omega, hnd, by omega, fun u => ?_, hw.tail⟩, by omega⟩
      rw [hmem u, freeK_skip hkl hm]
  · have hke : k = o.effs.length := by omega
    subst hke
    repeat (first | refine go_run ?_ | (refine go_newP ?_; clear hw; intro p w hw) | (refine go_newW ?_; clear hw; intro w hw) | (refine go_newS ?_; clear hw; intro s w hw))
    refine st_call rfl (Sort_spec hw (by omega)) ?_
    clear hw
    rintro _ w' ⟨rfl, hw⟩
    refine ⟨_, rfl, ?_⟩
    repeat (first | refine go_run ?_ | (refine go_newP ?_; clear hw; intro p w hw) | (refine go_newW ?_; clear hw; intro w hw) | (refine go_newS ?_; clear hw; intro s w hw))
    refine res_one (v := s) rfl rfl ⟨s, rfl, ?_⟩
    have e : sortL xs = freeL vars o L := by
      refine asc_pick (sort_asc hnd) fun u => ?_
      rw [sortL_mem, hmem u]
      unfold FreeK FreeOf
      rw [List.take_length]
      constructor
      · rintro ⟨⟨e, he, h1, f, hf, hfu⟩, h2⟩
        have := facts_mem (ho.mem e he).1 f hf
        exact ⟨⟨hfu ▸ this.1, hfu ▸ this.2.1⟩, ⟨e, he, h1, f, hf, hfu⟩, h2⟩
      · exact fun h => h.2
    rw [e] at hw
    exact hw.only
end Go.Proofs.Ytnoiagnmbipppaa
