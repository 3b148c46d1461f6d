
/-
  Contract of reference 35's 'Cuts'.
-/
import Derived.Test.YtkmbenhffledpaaGreatWLr9
import Derived.Test.YtkmbenhffledpaaGreatWLm5
set_option linter.unusedSimpArgs false
set_option linter.unusedVariables false
namespace Go.Proofs.YtkmbenhffledpaaGreat
open Go.Sl Go
attribute [local irreducible] vc opsW opsD opV opW PureV ReadV Thn Blk
theorem minC_big {t : TTask} {cs : List Int} {K : List Nat} (hc : CostsOk t cs) (hne : K ≠ []) (hlt : ∀ i ∈ K, i < cs.length) : MinC cs K (minK cs 1125899906842624 K) := by
  obtain ⟨h1, h2, h3⟩ := minK_ok (cs := cs) (K := K) (m := 1125899906842624)
  refine ⟨?_, h2⟩
  rcases h3 with h3 | ⟨i, hi, h3⟩
  · cases K with
    | nil => exact absurd rfl hne
    | cons x K =>
      have hx := hlt x List.mem_cons_self
      have h4 := hc.2 _ (mem_getD tInt.dflt hx)
      have h5 := h2 x List.mem_cons_self
      exact ⟨x, List.mem_cons_self, hx, by omega⟩
  · exact ⟨i, hi, hlt i hi, h3⟩
/-- An arc from the start zone into the goal zone, of an operator. -/
def CrsR (st zn : List Fact) (i : Nat) (a : RArc) : Prop := a.op = (i : Int) ∧ (a.start = true ∨ a.src ∈ st) ∧ a.dst ∈ zn
def FndR (A : List RArc) (st zn : List Fact) (i m : Nat) : Prop := ∃ n, n < m ∧ CrsR st zn i (A.getD n tRA.dflt)
theorem fndR_succ {A : List RArc} {st zn : List Fact} {i m : Nat} : FndR A st zn i (m + 1) ↔ FndR A st zn i m ∨ CrsR st zn i (A.getD m tRA.dflt) := by
  constructor
  · rintro ⟨n, h1, h2⟩
    by_cases e : n = m
    · rw [e] at h2; exact .inr h2
    · exact .inl ⟨n, by omega, h2⟩
  · rintro (⟨n, h1, h2⟩ | h)
    · exact ⟨n, by omega, h2⟩
    · exact ⟨m, Nat.lt_succ_self m, h⟩
theorem fndR_all {A : List RArc} {st zn : List Fact} {i : Nat} : FndR A st zn i A.length ↔ ∃ a ∈ A, a.op = (i : Int) ∧ (a.start = true ∨ a.src ∈ st) ∧ a.dst ∈ zn := by
  constructor
  · rintro ⟨n, h1, h2⟩
    exact ⟨_, mem_getD tRA.dflt h1, h2⟩
  · rintro ⟨a, ha, h⟩
    obtain ⟨n, hn, rfl⟩ := List.getElem_of_mem ha
    exact ⟨n, hn, by rw [getD_at hn]; exact h⟩
/-- The operators of the cut before i. -/
structure CutK (A : List RArc) (st zn : List Fact) (i : Nat) (K : List Nat) : Prop where
  asc : K.Pairwise (· < ·)
  mem : ∀ j, j ∈ K ↔ j < i ∧ FndR A st zn j A.length
theorem CutK.zero {A : List RArc} {st zn : List Fact} : CutK A st zn 0 [] := ⟨by simp, fun j => by simp⟩
theorem CutK.yes {A : List RArc} {st zn : List Fact} {i : Nat} {K : List Nat} (h : CutK A st zn i K) (hf : FndR A st zn i A.length) : CutK A st zn (i + 1) (K ++ [i]) := by
  refine ⟨List.pairwise_append.2 ⟨h.asc, by simp, fun x hx y hy => ?_⟩, fun j => ?_⟩
  · rw [List.mem_singleton.1 hy]; exact ((h.mem x).1 hx).1
  · rw [List.mem_append, List.mem_singleton, h.mem]
    constructor
    · rintro (⟨h1, h2⟩ | rfl)
      · exact ⟨by omega, h2⟩
      · exact ⟨Nat.lt_succ_self _, hf⟩
    · rintro ⟨h1, h2⟩
      by_cases e : j = i
      · exact .inr e
      · exact .inl ⟨by omega, h2⟩
theorem CutK.no {A : List RArc} {st zn : List Fact} {i : Nat} {K : List Nat} (h : CutK A st zn i K) (hf : ¬ FndR A st zn i A.length) : CutK A st zn (i + 1) K := by
  refine ⟨h.asc, fun j => ?_⟩
  rw [h.mem]
  constructor
  · rintro ⟨h1, h2⟩; exact ⟨by omega, h2⟩
  · rintro ⟨h1, h2⟩
    refine ⟨?_, h2⟩
    have : j ≠ i := fun e => hf (e ▸ h2)
    omega
theorem CutK.len {A : List RArc} {st zn : List Fact} {i : Nat} {K : List Nat} (h : CutK A st zn i K) : K.length ≤ i := by
  have h1 := nodup_sub (l := K) (m := List.range i) (h.asc.imp fun h => Nat.ne_of_lt h) fun j hj => List.mem_range.2 ((h.mem j).1 hj).1
  rw [List.length_range] at h1; exact h1
set_option maxRecDepth 8000 in
set_option maxHeartbeats 16000000 in
theorem r35Cuts_spec {w0 : World} {a b c d sv : Value} {vs : List OpV} {t : TTask} {z : List Int} (ht : RTask w0 a b c d vs t) (hg : GoodT t) (hs : RS tInt w0 sv z) (hok : StateOk t.vars z) :
    Calls Tryz.prog 15 #[.agg #[a, b, c, d], sv] w0 fun e w' => (LMC t z (costsT t) none ∧ e = .returned (.tuple #[.slice none 0 0, .bool false]) ∧ Sat w0 w' []) ∨ ∃ ov L cl, LMC t z (costsT t) (some L) ∧ e = .returned (.tuple #[ov, .bool true]) ∧ cl.map CutV.cost = L.map Prod.snd ∧ (∀ x ∈ cl, x.ops.oneCell' = true) ∧ Sat w0 w' [OS tCut 44 ov cl] := by
  have hol := hg.ops
  have hdr := ht.ops.rs
  have hdl := ht.ops.len
  have hN := factN_eq hg
  have hgok : ∀ f ∈ t.goal, FactOk t.vars f := fun f hf => by
    obtain ⟨i, hi, rfl⟩ := List.getElem_of_mem hf
    have := (hg.goal i hi).1
    rwa [getD_at hi] at this
  have hw := Sat.start w0
  refine calls_of_vc (args := [.agg #[a, b, c, d], sv]) mixed Tryz.func15 rfl (by kernel_rfl) (Nat.le_of_ble_eq_true rfl) ?_
  repeat (first | refine go_run ?_ | (refine go_newP ?_; clear hw; intro p w hw) | (refine go_newW ?_; clear hw; intro w hw) | (refine go_newS ?_; clear hw; intro s w hw))
  obtain ⟨pt, hpt⟩ : ∃ pt, pt = p := ⟨p, rfl⟩
  subst hpt
  refine st_call rfl (r34Costs_spec (ht.at hw) hg) ?_
  rintro _ w' ⟨cv, rfl, hk'⟩
  replace hw := hw.call1 hk'
  clear hk'
  refine ⟨_, rfl, ?_⟩
  replace hw := hw.nil (T := tCut) (e := 44)
  repeat (first | refine go_run ?_ | (refine go_newP ?_; clear hw; intro p w hw) | (refine go_newW ?_; clear hw; intro w hw) | (refine go_newS ?_; clear hw; intro s w hw))
  replace hw : Sat w0 w' [OS tCut 44 (.slice none 0 0) [], OS tInt 3 cv (costsT t), Box pt 26 [a, b, c, d]] := hw
  refine vc_loop4 [4, 5, 7, 8, 9, 10, 11, 12, 13, 14, 15, 17, 19, 22, 23, 24, 25, 26, 27, 28, 29, 30, 31, 32, 33, 34, 35, 36, 37, 38, 39, 40, 41, 42, 43, 44, 45, 46, 47, 48, 49, 50, 51, 52, 53, 54, 55, 56, 57, 58, 59, 60, 61, 62, 63, 64, 65, 66, 67, 68, 69, 70, 71, 72, 73, 74, 75, 76, 77, 78, 79, 80, 81, 82, 83, 84, 85, 86, 87, 88, 89, 90, 91, 92, 93, 94, 95, 96, 97, 98, 99, 100, 101, 102, 103, 104, 105, 106, 107, 108, 109, 110, 111, 112, 113, 114, 115, 116, 117, 118, 119, 120, 121, 122, 123, 124, 125, 126, 127, 128, 129, 130] (G := Value) (H := List Int) (I := List (List Nat × Int)) (M := List CutV) (fun ov _ _ _ => [(7, ov)]) (fun ov cs L cl w => CostsOk t cs ∧ Pre t z cs L ∧ cl.map CutV.cost = L.map Prod.snd ∧ (∀ y ∈ cl, y.ops.oneCell' = true) ∧ cl.length + sumD cs ≤ 4294967296 ∧ Sat w0 w [OS tCut 44 ov cl, OS tInt 3 cv cs, Box pt 26 [a, b, c, d]]) (fun _ cs _ _ => sumD cs) (.slice none 0 0) (costsT t) [] [] (fun _ _ _ _ => rfl) ⟨rfl, trivial⟩ ⟨lm_costs_ok hg, Pre.zero, rfl, (fun x hx => absurd hx List.not_mem_nil), ?_, hw⟩ ?_
  · have h3 := sumD_le (cs := costsT t) (B := 1048576) fun x hx => (costs_rng hg x hx).2
    have h4 : (costsT t).length * 1048576 ≤ 4096 * 1048576 := Nat.mul_le_mul_right _ (by rw [costs_len]; exact hg.ops)
    show 0 + sumD (costsT t) ≤ 4294967296
    omega
  clear hw
  rintro σ ov cs L cl w ⟨hc, hPre, hcl, hone, hlen, hw⟩
  have hcsl := hc.1
  repeat (first | refine go_run ?_ | (refine go_newP ?_; clear hw; intro p w hw) | (refine go_newW ?_; clear hw; intro w hw) | (refine go_newS ?_; clear hw; intro s w hw))
  refine st_call rfl (r34Facts_spec (ht.at hw) hg hc (rsO (s := cv) hw) (hs.at hw) hok) ?_
  rintro _ w' ⟨lv, ls, V, rfl, hVm, hk'⟩
  replace hw := hw.call2 hk'
  clear hk'
  refine ⟨_, rfl, ?_⟩
  have hmn := maxG_nn t.vars t.goal V
  have hml : maxG t.vars t.goal V ≤ inf := hm_le (withC_good hg hc) hVm
  have einf : inf = 1125899906842624 := rfl
  have hVn : ∀ g : Int, 0 ≤ g → g < factN t → 0 ≤ dg V g := fun g h0 h1 => (hVm.rng g h0 h1).1
  repeat (first | refine go_run ?_ | (refine go_newP ?_; clear hw; intro p w hw) | (refine go_newW ?_; clear hw; intro w hw) | (refine go_newS ?_; clear hw; intro s w hw))
  refine st_call rfl (r34Greatest_spec (rvals_of hg.pos hw) (ht.goal.at hw) hgok) ?_
  rintro _ w' ⟨rfl, hk'⟩
  replace hw := hw.call0 hk'
  clear hk'
  refine ⟨_, rfl, ?_⟩
  repeat (first | refine go_run ?_ | (refine go_newP ?_; clear hw; intro p w hw) | (refine go_newW ?_; clear hw; intro w hw) | (refine go_newS ?_; clear hw; intro s w hw))
  refine go_if (fun h1 => ?_) (fun h1 => ?_)
  · have hL := hPre _ (.dead hVm (by omega))
    repeat (first | refine go_run ?_ | (refine go_newP ?_; clear hw; intro p w hw) | (refine go_newW ?_; clear hw; intro w hw) | (refine go_newS ?_; clear hw; intro s w hw))
    exact res_two (v := .slice none 0 0) (v' := .bool false) rfl rfl rfl (.inl ⟨hL, rfl, sat_none hw⟩)
  repeat (first | refine go_run ?_ | (refine go_newP ?_; clear hw; intro p w hw) | (refine go_newW ?_; clear hw; intro w hw) | (refine go_newS ?_; clear hw; intro s w hw))
  refine go_if (fun h2 => ?_) (fun h2 => ?_)
  · have hL := hPre _ (.done hVm h2)
    repeat (first | refine go_run ?_ | (refine go_newP ?_; clear hw; intro p w hw) | (refine go_newW ?_; clear hw; intro w hw) | (refine go_newS ?_; clear hw; intro s w hw))
    exact res_two (v := ov) (v' := .bool true) rfl rfl rfl (.inr ⟨ov, L, cl, by simpa using hL, rfl, hcl, hone, hw.sel⟩)
  have hp0 : 0 < maxG t.vars t.goal V := by omega
  have hpf : maxG t.vars t.goal V < inf := by omega
  have hgne : t.goal ≠ [] := fun e => by rw [e] at hp0; exact absurd hp0 (by simp [maxG])
  repeat (first | refine go_run ?_ | (refine go_newP ?_; clear hw; intro p w hw) | (refine go_newW ?_; clear hw; intro w hw) | (refine go_newS ?_; clear hw; intro s w hw))
  refine st_call rfl (r35Arcs_spec (ht.at hw) hg (rvals_of hg.pos hw)) ?_
  rintro _ w' ⟨av, A, rfl, hA0, hk'⟩
  replace hw := hw.call1 hk'
  clear hk'
  refine ⟨_, rfl, ?_⟩
  have hA := hA0.fin hg hVn
  replace hw : Sat w0 w' [OS tRA 88 av A, RowsAt tInt 3 ls (rowsD t.vars V), OS tVal 22 lv ls, OS tCut 44 ov cl, OS tInt 3 cv cs, Box pt 26 [a, b, c, d]] := hw
  repeat (first | refine go_run ?_ | (refine go_newP ?_; clear hw; intro p w hw) | (refine go_newW ?_; clear hw; intro w hw) | (refine go_newS ?_; clear hw; intro s w hw))
  refine st_call rfl (r35Greatest_spec hg.pos (rvals_of hg.pos hw.tail) (ht.goal.at hw) hgne hgok) ?_
  rintro _ w' ⟨g0, rfl, hg0, hk'⟩
  replace hw := hw.call0 hk'
  clear hk'
  refine ⟨_, rfl, ?_⟩
  have hgF : GrtF V (goalN t) (numF t.vars g0) := grtX hg0
  have X := cutX_of hg hok hc hVm hp0 hpf hgF
  have hg0k := hgok g0 hg0.1
  repeat (first | refine go_run ?_ | (refine go_newP ?_; clear hw; intro p w hw) | (refine go_newW ?_; clear hw; intro w hw) | (refine go_newS ?_; clear hw; intro s w hw))
  refine st_call rfl (r35goals_spec (g0 := g0) hA hg hVn (rsO (s := av) hw) (rsO (s := cv) hw) hcsl hg0k) ?_
  rintro _ w' ⟨zv, zn, rfl, hZ, hk'⟩
  replace hw := hw.call1 hk'
  clear hk'
  refine ⟨_, rfl, ?_⟩
  have hzn : ∀ {f : Fact}, FactOk t.vars f → (f ∈ zn ↔ ZT (withC t cs) V (numF t.vars g0) (numF t.vars f)) := fun hf => hZ.fin hg hVn hA hf
  repeat (first | refine go_run ?_ | (refine go_newP ?_; clear hw; intro p w hw) | (refine go_newW ?_; clear hw; intro w hw) | (refine go_newS ?_; clear hw; intro s w hw))
  refine st_call rfl (r35begins_spec (g0 := g0) (cs := cs) (zn := zn) hA hg hVn (rsO (s := av) hw) (hs.at hw) (rsO (s := zv) hw) hok hzn) ?_
  rintro _ w' ⟨bv, st, rfl, hst, hk'⟩
  replace hw := hw.call1 hk'
  clear hk'
  refine ⟨_, rfl, ?_⟩
  have hcut : ∀ i : Nat, InCut (withC t cs) z V (numF t.vars g0) i ↔ FndR A st zn i A.length := fun i => (inCut_r hg hVn hA hzn hst).trans fndR_all.symm
  repeat (first | refine go_run ?_ | (refine go_newP ?_; clear hw; intro p w hw) | (refine go_newW ?_; clear hw; intro w hw) | (refine go_newS ?_; clear hw; intro s w hw))
  obtain ⟨pc, hpc⟩ : ∃ pc, pc = p := ⟨p, rfl⟩
  subst hpc
  replace hw : Sat w0 w [Box pc 44 [.slice none 0 0, .int .i64 (minK cs 1125899906842624 [])], OS tFact 77 bv st, OS tFact 77 zv zn, OS tRA 88 av A, RowsAt tInt 3 ls (rowsD t.vars V), OS tVal 22 lv ls, OS tCut 44 ov cl, OS tInt 3 cv cs, Box pt 26 [a, b, c, d]] := hw
  replace hw := hw.nil (T := tInt) (e := 3)
  have hw1 : Sat w0 w [Box pc 44 [.slice none 0 0, .int .i64 (minK cs 1125899906842624 [])], OS tInt 3 (.slice none 0 0) [], OS tFact 77 bv st, OS tFact 77 zv zn, OS tRA 88 av A, OS tInt 3 cv cs, OS tCut 44 ov cl, Box pt 26 [a, b, c, d]] := hw.sel
  clear hw
  have hw : Sat w0 w [Box pc 44 [.slice none 0 0, .int .i64 (minK cs 1125899906842624 [])], OS tInt 3 (.slice none 0 0) (([] : List Nat).map fun i : Nat => (i : Int)), OS tFact 77 bv st, OS tFact 77 zv zn, OS tRA 88 av A, OS tInt 3 cv cs, OS tCut 44 ov cl, Box pt 26 [a, b, c, d]] := hw1
  clear hw1
  refine vc_loop3 [14, 15, 17, 53, 54, 55, 56, 57, 58, 59, 60, 61, 62, 63, 64, 65, 66, 67, 68, 69, 70, 71, 72, 73, 74, 75, 76, 77, 78, 79, 80, 81, 82, 83, 84, 85, 86, 87, 88, 89, 90, 91, 92, 93, 94, 95, 96, 97, 98, 99, 100, 101] (G := Nat) (H := Value) (I := List Nat) (fun i _ _ => [(53, .int .i64 i)]) (fun i kv K w => i ≤ t.ops.length ∧ CutK A st zn i K ∧ Sat w0 w [Box pc 44 [kv, .int .i64 (minK cs 1125899906842624 K)], OS tInt 3 kv (K.map fun i : Nat => (i : Int)), OS tFact 77 bv st, OS tFact 77 zv zn, OS tRA 88 av A, OS tInt 3 cv cs, OS tCut 44 ov cl, Box pt 26 [a, b, c, d]]) (fun i _ _ => t.ops.length - i) 0 (.slice none 0 0) [] (fun _ _ _ => rfl) ⟨rfl, trivial⟩ ⟨Nat.zero_le _, .zero, hw⟩ ?_
  clear hw
  rintro σ1 i kv K w ⟨hi, hCK, hw⟩
  have hKl := hCK.len
  have hKml : ((K.map fun i : Nat => (i : Int))).length = K.length := List.length_map _
  repeat (first | refine go_run ?_ | (refine go_newP ?_; clear hw; intro p w hw) | (refine go_newW ?_; clear hw; intro w hw) | (refine go_newS ?_; clear hw; intro s w hw))
  refine go_if (fun h3 => ?_) (fun h3 => ?_)
  · have hil : i < t.ops.length := by omega
    repeat (first | refine go_run ?_ | (refine go_newP ?_; clear hw; intro p w hw) | (refine go_newW ?_; clear hw; intro w hw) | (refine go_newS ?_; clear hw; intro s w hw))
    refine vc_loop2 [15, 17, 58, 59, 60, 61, 62, 63, 64, 65, 66, 67, 68, 69, 70, 71, 72, 73, 74, 75, 76, 77, 78, 79, 80, 81, 82, 83, 84, 85] (G := Nat) (H := Bool) (fun m fd => [(58, .int .i64 m), (15, .bool fd)]) (fun m fd w => m ≤ A.length ∧ (fd = true ↔ FndR A st zn i m) ∧ Sat w0 w [Box pc 44 [kv, .int .i64 (minK cs 1125899906842624 K)], OS tInt 3 kv (K.map fun i : Nat => (i : Int)), OS tFact 77 bv st, OS tFact 77 zv zn, OS tRA 88 av A, OS tInt 3 cv cs, OS tCut 44 ov cl, Box pt 26 [a, b, c, d]]) (fun m _ => A.length - m) 0 false (fun _ _ => rfl) ⟨rfl, rfl, trivial⟩ ⟨Nat.zero_le _, ⟨(fun h => by cases h), fun ⟨n, h, _⟩ => absurd h (Nat.not_lt_zero _)⟩, hw⟩ ?_
    clear hw
    rintro σ2 m fd w ⟨hm, hfd, hw⟩
    have hAl := hA.len
    repeat (first | refine go_run ?_ | (refine go_newP ?_; clear hw; intro p w hw) | (refine go_newW ?_; clear hw; intro w hw) | (refine go_newS ?_; clear hw; intro s w hw))
    refine go_if (fun h4 => ?_) (fun h4 => ?_)
    · have hml2 : m < A.length := by omega
      have hma := mem_getD tRA.dflt hml2
      obtain ⟨x, hx⟩ : ∃ x, x = A.getD m tRA.dflt := ⟨_, rfl⟩
      rw [← hx] at hma
      have hsu := fndR_succ (A := A) (st := st) (zn := zn) (i := i) (m := m)
      rw [← hx] at hsu
      obtain ⟨k1, k2, op, k3, k4⟩ := hA.ok x hma
      cases fd
      · have hnf : ¬ FndR A st zn i m := fun h => by have := hfd.2 h; cases this
        have hno : ∀ (_ : ¬ CrsR st zn i x), (false = true ↔ FndR A st zn i (m + 1)) := fun hnc => ⟨(fun h => by cases h), fun h => absurd (hsu.1 h) (fun h => h.elim hnf hnc)⟩
        have hyes : ∀ (_ : CrsR st zn i x), (true = true ↔ FndR A st zn i (m + 1)) := fun hc => ⟨fun _ => hsu.2 (.inr hc), fun _ => rfl⟩
        obtain ⟨sb, hsb⟩ : ∃ sb, sb = x.start := ⟨_, rfl⟩
        repeat (first | refine go_run ?_ | (refine go_newP ?_; clear hw; intro p w hw) | (refine go_newWr ?_; clear hw; intro w hw) | (refine go_newS ?_; clear hw; intro s w hw))
        obtain ⟨pa, hpa⟩ : ∃ pa, pa = p := ⟨p, rfl⟩
        subst hpa
        rw [← hx] at hw ⊢
        rw [← hsb]
        replace hw : Sat w0 w [Box pa 88 [.bool sb, .int .i64 x.src.var, .int .i64 x.src.val, .int .i64 x.dst.var, .int .i64 x.dst.val, .int .i64 x.op], Box pc 44 [kv, .int .i64 (minK cs 1125899906842624 K)], OS tInt 3 kv (K.map fun i : Nat => (i : Int)), OS tFact 77 bv st, OS tFact 77 zv zn, OS tRA 88 av A, OS tInt 3 cv cs, OS tCut 44 ov cl, Box pt 26 [a, b, c, d]] := by rw [hsb]; exact hw
        by_cases ho : x.op = (i : Int)
        · have hd : decide (x.op = (i : Int)) = true := decide_eq_true ho
          cases sb
          · simp only [hd, beq_self_eq_true, beq_tfI, beq_ftI, Bool.false_and, Bool.true_and, Bool.false_or, Bool.true_or, Bool.not_true, Bool.not_false, Bool.cond_true, Bool.cond_false, gv_fI, gv_tI]
            repeat (first | refine go_run ?_ | (refine go_newP ?_; clear hw; intro p w hw) | (refine go_newWr ?_; clear hw; intro w hw) | (refine go_newS ?_; clear hw; intro s w hw))
            refine step_read rfl (rv_boxRSub (k := 1) (n := 2) (vs := [.int .i64 x.src.var, .int .i64 x.src.val]) rfl (hw.boxR 0 rfl) rfl rfl) ?_
            repeat (first | refine go_run ?_ | (refine go_newP ?_; clear hw; intro p w hw) | (refine go_newWr ?_; clear hw; intro w hw) | (refine go_newS ?_; clear hw; intro s w hw))
            refine st_call rfl (r35in_spec (f := x.src) (rsO (s := bv) hw)) ?_
            rintro _ w' ⟨⟨r1, rfl, hr1⟩, hk'⟩
            replace hw := hw.call0 hk'
            clear hk'
            refine ⟨_, rfl, ?_⟩
            cases r1
            · repeat (first | refine go_run ?_ | (refine go_newP ?_; clear hw; intro p w hw) | (refine go_newWr ?_; clear hw; intro w hw) | (refine go_newS ?_; clear hw; intro s w hw))
              exact ⟨m + 1, false, ⟨rfl, rfl, trivial⟩, by repeat (first | exact agree_refl | (apply agree_upd rfl) | (apply agree_mix rfl) | (apply agree_sets rfl)), ⟨by omega, hno (fun h => by
                rcases h.2.1 with h | h
                · rw [← hsb] at h; cases h
                · have := hr1.2 h; cases this), hw.tail⟩, by omega⟩
            · repeat (first | refine go_run ?_ | (refine go_newP ?_; clear hw; intro p w hw) | (refine go_newWr ?_; clear hw; intro w hw) | (refine go_newS ?_; clear hw; intro s w hw))
              refine step_read rfl (rv_boxRSub (k := 3) (n := 2) (vs := [.int .i64 x.dst.var, .int .i64 x.dst.val]) rfl (hw.boxR 0 rfl) rfl rfl) ?_
              repeat (first | refine go_run ?_ | (refine go_newP ?_; clear hw; intro p w hw) | (refine go_newWr ?_; clear hw; intro w hw) | (refine go_newS ?_; clear hw; intro s w hw))
              refine st_call rfl (r35in_spec (f := x.dst) (rsO (s := zv) hw)) ?_
              rintro _ w' ⟨⟨r2, rfl, hr2⟩, hk'⟩
              replace hw := hw.call0 hk'
              clear hk'
              refine ⟨_, rfl, ?_⟩
              cases r2
              · repeat (first | refine go_run ?_ | (refine go_newP ?_; clear hw; intro p w hw) | (refine go_newWr ?_; clear hw; intro w hw) | (refine go_newS ?_; clear hw; intro s w hw))
                exact ⟨m + 1, false, ⟨rfl, rfl, trivial⟩, by repeat (first | exact agree_refl | (apply agree_upd rfl) | (apply agree_mix rfl) | (apply agree_sets rfl)), ⟨by omega, hno (fun h => by have := hr2.2 h.2.2; cases this), hw.tail⟩, by omega⟩
              · repeat (first | refine go_run ?_ | (refine go_newP ?_; clear hw; intro p w hw) | (refine go_newWr ?_; clear hw; intro w hw) | (refine go_newS ?_; clear hw; intro s w hw))
                exact ⟨m + 1, true, ⟨rfl, rfl, trivial⟩, by repeat (first | exact agree_refl | (apply agree_upd rfl) | (apply agree_mix rfl) | (apply agree_sets rfl)), ⟨by omega, hyes ⟨ho, .inr (hr1.1 rfl), hr2.1 rfl⟩, hw.tail⟩, by omega⟩
          · simp only [hd, beq_self_eq_true, beq_tfI, beq_ftI, Bool.false_and, Bool.true_and, Bool.false_or, Bool.true_or, Bool.not_true, Bool.not_false, Bool.cond_true, Bool.cond_false, gv_fI, gv_tI]
            repeat (first | refine go_run ?_ | (refine go_newP ?_; clear hw; intro p w hw) | (refine go_newWr ?_; clear hw; intro w hw) | (refine go_newS ?_; clear hw; intro s w hw))
            refine step_read rfl (rv_boxRSub (k := 3) (n := 2) (vs := [.int .i64 x.dst.var, .int .i64 x.dst.val]) rfl (hw.boxR 0 rfl) rfl rfl) ?_
            repeat (first | refine go_run ?_ | (refine go_newP ?_; clear hw; intro p w hw) | (refine go_newWr ?_; clear hw; intro w hw) | (refine go_newS ?_; clear hw; intro s w hw))
            refine st_call rfl (r35in_spec (f := x.dst) (rsO (s := zv) hw)) ?_
            rintro _ w' ⟨⟨r2, rfl, hr2⟩, hk'⟩
            replace hw := hw.call0 hk'
            clear hk'
            refine ⟨_, rfl, ?_⟩
            cases r2
            · repeat (first | refine go_run ?_ | (refine go_newP ?_; clear hw; intro p w hw) | (refine go_newWr ?_; clear hw; intro w hw) | (refine go_newS ?_; clear hw; intro s w hw))
              exact ⟨m + 1, false, ⟨rfl, rfl, trivial⟩, by repeat (first | exact agree_refl | (apply agree_upd rfl) | (apply agree_mix rfl) | (apply agree_sets rfl)), ⟨by omega, hno (fun h => by have := hr2.2 h.2.2; cases this), hw.tail⟩, by omega⟩
            · repeat (first | refine go_run ?_ | (refine go_newP ?_; clear hw; intro p w hw) | (refine go_newWr ?_; clear hw; intro w hw) | (refine go_newS ?_; clear hw; intro s w hw))
              exact ⟨m + 1, true, ⟨rfl, rfl, trivial⟩, by repeat (first | exact agree_refl | (apply agree_upd rfl) | (apply agree_mix rfl) | (apply agree_sets rfl)), ⟨by omega, hyes ⟨ho, .inl hsb.symm, hr2.1 rfl⟩, hw.tail⟩, by omega⟩
        · have hd : decide (x.op = (i : Int)) = false := decide_eq_false ho
          simp only [hd, beq_self_eq_true, beq_tfI, beq_ftI, Bool.false_and, Bool.true_and, Bool.false_or, Bool.true_or, Bool.not_true, Bool.not_false, Bool.cond_true, Bool.cond_false, gv_fI, gv_tI]
          repeat (first | refine go_run ?_ | (refine go_newP ?_; clear hw; intro p w hw) | (refine go_newWr ?_; clear hw; intro w hw) | (refine go_newS ?_; clear hw; intro s w hw))
          exact ⟨m + 1, false, ⟨rfl, rfl, trivial⟩, by repeat (first | exact agree_refl | (apply agree_upd rfl) | (apply agree_mix rfl) | (apply agree_sets rfl)), ⟨by omega, hno (fun h => ho h.1), hw.tail⟩, by omega⟩
      · repeat (first | refine go_run ?_ | (refine go_newP ?_; clear hw; intro p w hw) | (refine go_newWr ?_; clear hw; intro w hw) | (refine go_newS ?_; clear hw; intro s w hw))
        exact ⟨m + 1, true, ⟨rfl, rfl, trivial⟩, by repeat (first | exact agree_refl | (apply agree_upd rfl) | (apply agree_mix rfl) | (apply agree_sets rfl)), ⟨by omega, ⟨fun _ => hsu.2 (.inl (hfd.1 rfl)), fun _ => rfl⟩, hw.tail⟩, by omega⟩
    have hme : m = A.length := by omega
    subst hme
    cases fd
    · repeat (first | refine go_run ?_ | (refine go_newP ?_; clear hw; intro p w hw) | (refine go_newW ?_; clear hw; intro w hw) | (refine go_newS ?_; clear hw; intro s w hw))
      exact ⟨i + 1, kv, K, ⟨rfl, trivial⟩, by repeat (first | exact agree_refl | (apply agree_upd rfl) | (apply agree_mix rfl) | (apply agree_sets rfl)), ⟨by omega, hCK.no (fun h => by have := hfd.2 h; cases this), hw⟩, by omega⟩
    · repeat (first | refine go_run ?_ | (refine go_newP ?_; clear hw; intro p w hw) | (refine go_newW ?_; clear hw; intro w hw) | (refine go_newS ?_; clear hw; intro s w hw))
      obtain ⟨kv2, hkv2⟩ : ∃ kv2, kv2 = s := ⟨s, rfl⟩
      subst hkv2
      simp only [List.set_cons_succ, List.set_cons_zero] at hw
      have hsn : minK cs 1125899906842624 (K ++ [i]) = if cs.getD i tInt.dflt < minK cs 1125899906842624 K then cs.getD i tInt.dflt else minK cs 1125899906842624 K := by
        unfold minK; rw [List.foldl_append]; rfl
      rw [← hsn, show ((K.map fun i : Nat => (i : Int))) ++ [(i : Int)] = (K ++ [i]).map fun i : Nat => (i : Int) by simp] at hw
      exact ⟨i + 1, kv2, K ++ [i], ⟨rfl, trivial⟩, by repeat (first | exact agree_refl | (apply agree_upd rfl) | (apply agree_mix rfl) | (apply agree_sets rfl)), ⟨by omega, hCK.yes (hfd.1 rfl), hw.tail⟩, by omega⟩
  have hie : i = t.ops.length := by omega
  subst hie
  have hasc := hCK.asc
  have hK : ∀ j, j ∈ K ↔ j < t.ops.length ∧ InCut (withC t cs) z V (numF t.vars g0) j := fun j => by rw [hCK.mem, hcut]
  have hKlt : ∀ i ∈ K, i < cs.length := fun i hi => by rw [hcsl]; exact ((hK i).1 hi).1
  have hKne : K ≠ [] := fun e => by
    obtain ⟨i, h3, h4⟩ := cut_some X
    have := (hK i).2 ⟨h3, h4⟩
    rw [e] at this; exact absurd this List.not_mem_nil
  have hMin := minC_big hc hKne hKlt
  have hCA := cutAt_of hg hc X hK hasc hMin
  have okv := (rsO (s := kv) hw).one
  obtain ⟨KI, hKI⟩ : ∃ KI, KI = (K.map fun i : Nat => (i : Int)) := ⟨_, rfl⟩
  rw [← hKI] at hw hKml
  have hKat : ∀ k (h : k < K.length), KI.getD k tInt.dflt = (K[k] : Int) := fun k h => by
    rw [hKI, getD_at (by rw [List.length_map]; exact h), List.getElem_map]
  obtain ⟨cc, hcd⟩ : ∃ cc, cc = minK cs 1125899906842624 K := ⟨_, rfl⟩
  rw [← hcd] at hw hMin hCA
  rw [← subC_nil cs cc] at hw
  have hcl0 := hCA.pos
  have hcl1 := hCA.le
  repeat (first | refine go_run ?_ | (refine go_newP ?_; clear hw; intro p w hw) | (refine go_newWr ?_; clear hw; intro w hw) | (refine go_newS ?_; clear hw; intro s w hw))
  refine vc_loop [19, 105, 106, 107, 108, 109, 110, 111, 112, 113, 114, 115, 116, 117] (G := Nat) (fun k => [(105, .int .i64 k)]) (fun k w => k ≤ K.length ∧ Sat w0 w [Box pc 44 [kv, .int .i64 cc], OS tInt 3 kv KI, OS tInt 3 cv (subC cs (K.take k) cc), OS tCut 44 ov cl, Box pt 26 [a, b, c, d]]) (fun k => K.length - k) 0 (fun _ => rfl) ⟨rfl, trivial⟩ ⟨Nat.zero_le _, (show Sat w0 w [Box pc 44 [kv, .int .i64 cc], OS tInt 3 kv KI, OS tInt 3 cv (subC cs [] cc), OS tCut 44 ov cl, Box pt 26 [a, b, c, d]] from hw.sel)⟩ ?_
  clear hw
  rintro σ2 k w ⟨hk, hw⟩
  repeat (first | refine go_run ?_ | (refine go_newP ?_; clear hw; intro p w hw) | (refine go_newW ?_; clear hw; intro w hw) | (refine go_newS ?_; clear hw; intro s w hw))
  refine go_if (fun h5 => ?_) (fun h5 => ?_)
  · have hkl : k < K.length := by omega
    have hki := hKat k hkl
    have hkc := hKlt _ (List.getElem_mem hkl)
    have hsl := subC_len cs (K.take k) cc
    have hst := subC_set (c := cc) hkl hasc hkc
    have hcr := hc.2 _ (mem_getD tInt.dflt hkc)
    have hsa := subC_at (cs := cs) (K := K.take k) (c := cc) hkc
    have hsr : -1048576 ≤ (subC cs (K.take k) cc).getD K[k] tInt.dflt ∧ (subC cs (K.take k) cc).getD K[k] tInt.dflt ≤ 1048576 := by
      rw [hsa]; split <;> omega
    have hk2 : (KI.getD k tInt.dflt).toNat = K[k] := by rw [hki]; rfl
    have hsr2 : -1048576 ≤ (subC cs (K.take k) cc).getD (KI.getD k tInt.dflt).toNat tInt.dflt ∧ (subC cs (K.take k) cc).getD (KI.getD k tInt.dflt).toNat tInt.dflt ≤ 1048576 := by rw [hk2]; exact hsr
    repeat (first | refine go_run ?_ | (refine go_newP ?_; clear hw; intro p w hw) | (refine go_newWr ?_; clear hw; intro w hw) | (refine go_newS ?_; clear hw; intro s w hw))
    refine go_draw ?_
    clear hw
    intro w hw
    repeat (first | refine go_run ?_ | (refine go_newP ?_; clear hw; intro p w hw) | (refine go_newWr ?_; clear hw; intro w hw) | (refine go_newS ?_; clear hw; intro s w hw))
    rw [hk2, hst] at hw
    exact ⟨k + 1, ⟨rfl, trivial⟩, by repeat (first | exact agree_refl | (apply agree_upd rfl) | (apply agree_mix rfl) | (apply agree_sets rfl)), ⟨by omega, hw⟩, by omega⟩
  have hke2 : k = K.length := by omega
  rw [hke2, List.take_of_length_le (Nat.le_refl _)] at hw
  have hsum := subC_sum (fun x hx => (hc.2 x hx).1) (by omega) hMin
  repeat (first | refine go_run ?_ | (refine go_newP ?_; clear hw; intro p w hw) | (refine go_newWr ?_; clear hw; intro w hw) | (refine go_newS ?_; clear hw; intro s w hw))
  refine st_buildSlice1 tCut (x1 := ⟨kv, cc⟩) rfl rfl rfl (Nat.le_of_ble_eq_true rfl) (Nat.zero_lt_succ _) hw ?_
  clear hw
  intro so w hw
  refine st_append (s := ov) (s2 := so) inferInstance rfl rfl (rsO hw) rfl rfl (fun x hx v hv => ?_) (by simp only [List.length_cons, List.length_nil]; omega) (by unfold big; simp only [List.length_cons, List.length_nil]; omega) hw ?_
  · rw [List.mem_singleton.1 hx] at hv
    simp only [tCut, List.mem_cons, List.not_mem_nil, or_false] at hv
    rcases hv with rfl | rfl
    · exact okv
    · rfl
  clear hw
  intro ov2 w hw
  have hd1 : decide (cc < 1) = false := decide_eq_false (by omega)
  have hd2 : decide ((1125899906842624 : Int) ≤ cc) = false := decide_eq_false (by omega)
  repeat (first | refine go_run ?_ | (refine go_newP ?_; clear hw; intro p w hw) | (refine go_newWr ?_; clear hw; intro w hw) | (refine go_newS ?_; clear hw; intro s w hw))
  simp only [hd1, hd2, beq_self_eq_true, beq_tfI, beq_ftI, Bool.false_and, Bool.true_and, Bool.false_or, Bool.true_or, Bool.not_true, Bool.not_false, Bool.cond_true, Bool.cond_false, gv_fI, gv_tI]
  repeat (first | refine go_run ?_ | (refine go_newP ?_; clear hw; intro p w hw) | (refine go_newWr ?_; clear hw; intro w hw) | (refine go_newS ?_; clear hw; intro s w hw))
  exact ⟨ov2, subC cs K cc, L ++ [(K, cc)], cl ++ [⟨kv, cc⟩], ⟨rfl, trivial⟩, by repeat (first | exact agree_refl | (apply agree_upd rfl) | (apply agree_mix rfl) | (apply agree_sets rfl)), ⟨subC_ok hc hMin, hPre.step hVm hp0 hpf hgF hK hasc hMin, by simp [hcl], fun x hx => (by
    rcases List.mem_append.1 hx with hx | hx
    · exact hone x hx
    · rw [List.mem_singleton.1 hx]; exact okv), by simp only [List.length_append, List.length_singleton]; omega, hw.sel⟩, by omega⟩
end Go.Proofs.YtkmbenhffledpaaGreat
