/-
  Several texts as one: TPdb, TIda3, TIda4, WEst3.
-/
import Derived.Test.YtkmbenhffledpaaGreatMW7
import Derived.Test.YtkmbenhffledpaaGreatMW8
import Derived.Test.YtkmbenhffledpaaGreatMTA
import Derived.Test.YtkmbenhffledpaaGreatMW5
set_option linter.unusedSimpArgs false
set_option linter.unusedVariables false

/-
  Plain facts about tables of least costs: least walks are short, other costs, saturated costs, wider patterns.
-/
namespace Go.Proofs.YtkmbenhffledpaaGreat
open Go.Sl Go

/-! ### A least walk is short -/
section
variable {E : List Edg} {c c' : List Int} {G : Int → Prop} {n : Nat} {D D' : List Int} {C : Int}
inductive WalkIn (E : List Edg) (c : List Int) (G : Int → Prop) (S : List Int) : Int → Int → Prop
  | goal {a : Int} : a ∈ S → G a → WalkIn E c G S a 0
  | step {e : Edg} {k : Int} : e ∈ E → e.src ∈ S → WalkIn E c G S e.dst k → WalkIn E c G S e.src (cst c e + k)
def outA (a : Int) (S : List Int) : List Int := S.filter fun x => decide (x ≠ a)
theorem outA_mem {a x : Int} {S : List Int} : x ∈ outA a S ↔ x ∈ S ∧ x ≠ a := by simp [outA]
theorem outA_len {a : Int} {S : List Int} (h : a ∈ S) : (outA a S).length < S.length := by
  unfold outA
  rw [List.length_filter_lt_length_iff_exists]
  exact ⟨a, h, by simp⟩
theorem walkIn_split (hE : EOk E c n) {S : List Int} (a : Int) {x k : Int} (h : WalkIn E c G S x k) :
    WalkIn E c G (outA a S) x k ∨ G a ∨ ∃ e k', e ∈ E ∧ e.src = a ∧ WalkIn E c G (outA a S) e.dst k' ∧ cst c e + k' ≤ k := by
  induction h with
  | @goal b hb hg =>
    by_cases e : b = a
    · subst e; exact .inr (.inl hg)
    · exact .inl (.goal (outA_mem.2 ⟨hb, e⟩) hg)
  | @step e k he hs _ ih =>
    have hc := (hE.cst he).1
    rcases ih with ih | ih | ⟨e', k', h1, h2, h3, h4⟩
    · by_cases ea : e.src = a
      · exact .inr (.inr ⟨e, k, he, ea, ih, Int.le_refl _⟩)
      · exact .inl (.step he (outA_mem.2 ⟨hs, ea⟩) ih)
    · exact .inr (.inl ih)
    · exact .inr (.inr ⟨e', k', h1, h2, h3, by omega⟩)
theorem WalkIn.walk {S : List Int} {x k : Int} (h : WalkIn E c G S x k) : x ∈ S ∧ Walk E c G x k := by
  induction h with
  | goal h hg => exact ⟨h, .goal hg⟩
  | step he hs _ ih => exact ⟨hs, .step he ih.2⟩
theorem Walk.within (hE : EOk E c n) {x k : Int} (h : Walk E c G x k) : 0 ≤ x → x < n → WalkIn E c G (upTo (n : Int)) x k := by
  induction h with
  | goal hg => intro h0 h1; exact .goal (upTo_mem.2 ⟨h0, h1⟩) hg
  | step he _ ih => intro h0 h1; have := hE.dst _ he; exact .step he (upTo_mem.2 ⟨h0, h1⟩) (ih this.1 this.2)
theorem walkIn_short (hE : EOk E c n) (h0 : 0 ≤ C) (hC : ∀ x ∈ c, x ≤ C) : ∀ (m : Nat) (S : List Int), S.length ≤ m → ∀ x k, WalkIn E c G S x k → ∃ k', k' ≤ k ∧ k' ≤ m * C ∧ Walk E c G x k'
  | 0, S, hl, x, k, h => by
    have := h.walk.1
    have : S = [] := List.eq_nil_of_length_eq_zero (by omega)
    subst this; simp at *
  | m + 1, S, hl, x, k, h => by
    have hx := h.walk.1
    have hk := h.walk.2.nonneg hE
    have hm : 0 ≤ (m : Int) * C := Int.mul_nonneg (by omega) h0
    have e1 : ((m + 1 : Nat) : Int) * C = (m : Int) * C + C := by rw [Int.natCast_add, Int.add_mul]; simp
    rcases walkIn_split hE x h with h1 | h1 | ⟨e, k', he, hs, hw, hle⟩
    · exact absurd rfl (outA_mem.1 h1.walk.1).2
    · exact ⟨0, hk, by omega, .goal h1⟩
    · obtain ⟨k2, a1, a2, a3⟩ := walkIn_short hE h0 hC m (outA x S) (by have := outA_len hx; omega) _ _ hw
      have hc : cst c e ≤ C := hC _ (mem_getD tInt.dflt (by have := hE.lab e he; omega))
      exact ⟨cst c e + k2, by omega, by omega, hs ▸ .step he a3⟩
theorem DistOk.short (hE : EOk E c n) (h0 : 0 ≤ C) (hC : ∀ x ∈ c, x ≤ C) (h : DistOk E c G n D) {i : Nat} {k : Int} (hi : i < n) (hw : Walk E c G i k) : dg D i ≤ n * C := by
  obtain ⟨k', _, h2, h3⟩ := walkIn_short hE h0 hC n (upTo (n : Int)) (by simp [upTo]) _ _ (hw.within hE (by omega) (by omega))
  exact Int.le_trans (h.low i hi _ h3) h2
theorem DistOk.fin (hE : EOk E c n) (h0 : 0 ≤ C) (hC : ∀ x ∈ c, x ≤ C) (hB : n * C < inf) (h : DistOk E c G n D) {i : Nat} (hi : i < n) : dg D i < inf ↔ ∃ k, Walk E c G i k :=
  ⟨fun hl => ⟨_, h.att i hi hl⟩, fun ⟨_, hw⟩ => by have := h.short hE h0 hC hi hw; omega⟩
theorem DistOk.bound (hE : EOk E c n) (h0 : 0 ≤ C) (hC : ∀ x ∈ c, x ≤ C) (h : DistOk E c G n D) {i : Nat} (hi : i < n) (hl : dg D i < inf) : dg D i ≤ n * C := h.short hE h0 hC hi (h.att i hi hl)

/-! ### Other costs -/
/-! ### Saturated costs -/
structure SatOk (E : List Edg) (D : List Int) (m : Nat) (l : List Int) : Prop where
  len : l.length = m
  nn : ∀ i : Nat, i < m → 0 ≤ l.getD i tInt.dflt
  low : ∀ e ∈ E, dg D e.src < inf → dg D e.dst < inf → dg D e.src - dg D e.dst ≤ cst l e
  att : ∀ i : Nat, i < m → l.getD i tInt.dflt = 0 ∨ ∃ e ∈ E, e.lab = i ∧ dg D e.src < inf ∧ dg D e.dst < inf ∧ l.getD i tInt.dflt = dg D e.src - dg D e.dst
/-- Where a step changes nothing bad: the parts of an update in bounds. -/
theorem SatOk.le {l : List Int} (hE : EOk E c n) (hd : DistOk E c G n D) (hs : SatOk E D c.length l) {i : Nat} (hi : i < c.length) : 0 ≤ l.getD i tInt.dflt ∧ l.getD i tInt.dflt ≤ c.getD i tInt.dflt := by
  refine ⟨hs.nn i hi, ?_⟩
  rcases hs.att i hi with h | ⟨e, he, hl, h1, h2, h3⟩
  · rw [h]; exact (hE.cost _ (mem_getD _ hi)).1
  · rw [h3]
    have := hd.stab hE he h2
    have e1 : cst c e = c.getD i tInt.dflt := by show c.getD e.lab.toNat tInt.dflt = _; rw [hl]; rfl
    omega
end

/-! ### Wider patterns -/
end Go.Proofs.YtkmbenhffledpaaGreat

/-
  IDA* with a table of values, in plain Lean: plans and least costs, admissible tables, the bounds of the rounds.
-/
namespace Go.Proofs.YtkmbenhffledpaaGreat
open Go.Sl
section
variable {t : TTask}
theorem costs_len (t : TTask) : (costsT t).length = t.ops.length := by simp [costsT]
theorem costs_rng (hg : GoodT t) : ∀ x ∈ costsT t, 0 ≤ x ∧ x ≤ 1048576 := fun x hx => by
  obtain ⟨i, hi, rfl⟩ := List.getElem_of_mem hx
  have hi' : i < t.ops.length := by rw [costs_len] at hi; exact hi
  rw [← getD_at (d := tInt.dflt) hi, costsT_at hi']
  exact ⟨(hg.op i hi').cost0, (hg.op i hi').cost1⟩
/-- The least cost of a plan. -/
structure Least (t : TTask) (s : List Int) (b : Int) : Prop where
  le : b ≤ inf
  nn : 0 ≤ b
  att : b < inf → ∃ p, Pln t s p b
  low : ∀ p c, Pln t s p c → b ≤ c ∧ b < inf
variable {H : List Int → Int} {lim : Nat}
end
end Go.Proofs.YtkmbenhffledpaaGreat

/-
  The tables that the statements of layer 50 use.
-/
namespace Go.Proofs.YtkmbenhffledpaaGreat
open Go.Sl
section
variable {t : TTask} {D less : List Int}
end
end Go.Proofs.YtkmbenhffledpaaGreat

/-
  Contracts of 'slices.ContainsFunc' over ints for any predicate, and of 'estimate.Blind' and 'estimate.Table'.
-/
namespace Go.Proofs.YtkmbenhffledpaaGreat
open Go.Sl Go
attribute [local irreducible] vc opsW opsD opV opW PureV ReadV Thn Blk
/-- A function value answers a question about ints. -/
def AskF (w0 : World) (f : Nat) (cs : List Value) (P : Int → Prop) (xs : List Int) : Prop := ∀ (w : World) (Γ : List HP), Sat w0 w Γ → ∀ x ∈ xs, Calls Tryz.prog f ([Value.int .i64 x] ++ cs).toArray w fun e w' => (∃ r, e = .returned (.bool r) ∧ (r = true ↔ P x)) ∧ Sat w w' []
theorem AskF.at {w0 w : World} {Γ : List HP} {f : Nat} {cs : List Value} {P : Int → Prop} {xs : List Int} (h : AskF w0 f cs P xs) (hw : Sat w0 w Γ) : AskF w f cs P xs := fun w1 Δ hs x hx => h w1 (Δ ++ Γ) (hw.call hs) x hx
theorem leastK_snoc {t : TTask} {k : Nat} (h : k < t.ops.length) : leastK t (k + 1) = min (leastK t k) (t.ops.getD k dOp).cost := by
  unfold leastK
  rw [take_snoc dOp h, List.foldl_append]; rfl
theorem hval_blind {w : World} {t : TTask} {gv : Value} (h : RS tFact w gv t.goal) : HVal w (.iface 107 (.agg #[gv, .int .i64 (leastC t)])) t (blindH t) :=
  ⟨_, _, _, _, rfl, methAt_S _, inferInstance, fun _ _ _ _ hs hsv _ => blindV_spec (h.at hs) hsv⟩
set_option maxRecDepth 8000 in
set_option maxHeartbeats 2000000 in
theorem Blind_spec {w0 : World} {a b c d : Value} {vs : List OpV} {t : TTask} (ht : RTask w0 a b c d vs t) (hg : GoodT t) :
    Calls Tryz.prog 25 #[.agg #[a, b, c, d]] w0 fun e w' => ∃ p, e = .returned (.tuple #[.pointer (some p), .nilIface]) ∧ Sat w0 w' [RdH fun w => REst w p t (blindH t)] := by
  have ht' := ht
  obtain ⟨ha, hb, hc, hd⟩ := ht
  have hdr := hd.rs
  have hdl := hd.len
  have hgl := facts_len hg.goal
  have hvl := hg.vars
  have hol := hg.ops
  have hw := Sat.start w0
  refine calls_of_vc (args := [.agg #[a, b, c, d]]) mixed Tryz.func25 rfl (by kernel_rfl) (Nat.le_of_ble_eq_true rfl) ?_
  repeat (first | refine go_run ?_ | (refine go_newP ?_; clear hw; intro p w hw) | (refine go_newW ?_; clear hw; intro w hw) | (refine go_newS ?_; clear hw; intro s w hw))
  obtain ⟨pt, hpt⟩ : ∃ pt, pt = p := ⟨p, rfl⟩
  subst hpt
  refine vc_loop2 [4, 6, 10, 11, 12, 13, 14, 15, 16, 17, 18] (G := Nat) (H := Int) (fun k m => [(10, .int .i64 k), (4, .int .i64 m)]) (fun k m w => k ≤ t.ops.length ∧ m = leastK t k ∧ Sat w0 w [Box pt 26 [a, b, c, d]]) (fun k _ => t.ops.length - k) 0 inf (fun _ _ => rfl) ⟨rfl, rfl, trivial⟩ ⟨Nat.zero_le _, rfl, hw⟩ ?_
  clear hw
  rintro σ k m w ⟨hk, hm, hw⟩
  repeat (first | refine go_run ?_ | (refine go_newP ?_; clear hw; intro p w hw) | (refine go_newW ?_; clear hw; intro w hw) | (refine go_newS ?_; clear hw; intro s w hw))
  refine go_if (fun h1 => ?_) (fun h1 => ?_)
  · have hkl : k < t.ops.length := by omega
    have hop := hd.at_ k hkl
    have hone := hop.one
    have hco := hop.cost
    repeat (first | refine go_run ?_ | (refine go_newP ?_; clear hw; intro p w hw) | (refine go_newW ?_; clear hw; intro w hw) | (refine go_newS ?_; clear hw; intro s w hw))
    exact ⟨k + 1, _, ⟨rfl, rfl, trivial⟩, by repeat (first | exact agree_refl | (apply agree_upd rfl) | (apply agree_mix rfl) | (apply agree_sets rfl)), ⟨by omega, by rw [leastK_snoc hkl, hm, ← hco]; split <;> omega, hw.sel⟩, by omega⟩
  have hke : k = t.ops.length := by omega
  subst hke
  have hmc : m = leastC t := hm
  subst hmc
  repeat (first | refine go_run ?_ | (refine go_newP ?_; clear hw; intro p w hw) | (refine go_newWr ?_; clear hw; intro w hw) | (refine go_newS ?_; clear hw; intro s w hw))
  refine vc_cut [19, 20, 21, 22, 23, 24, 25, 26, 27, 28, 29, 30, 2, 3] (G := Addr) (fun g => [(2, .pointer (some g)), (3, .nilIface)]) (fun g w => Sat w0 w [RdH fun w => REst w g t (blindH t)]) (fun _ => rfl) ?_ ?_
  · refine vc_tree (.step 1 [.op 1] (.step 4 [.op 4] (.step 0 [.op 0] (.step 2 [.op 2] (.step 7 [.op 7] (.step 3 [.op 3, .chk 0, .chk 7] (.alt 5 [.op 5, .chk 0, .chk 7] (.step 6 [.op 6] (.step 8 [.op 8, .chk 0] (.step 9 [.op 9] (.step 10 [.op 10] (.step 11 [.op 11] (.step 12 [.op 12] (.step 13 [.op 13] (.lin [])))))))) (.alt 8 [.op 8, .chk 0] (.step 5 [.op 5, .chk 0, .chk 7] (.step 6 [.op 6] (.step 9 [.op 9] (.step 10 [.op 10] (.step 11 [.op 11] (.step 12 [.op 12] (.step 13 [.op 13] (.lin [])))))))) (.stop))))))))) hw (by kernel_rfl) (by kernel_rfl) ?_; clear hw; intro w hw
    repeat (first | refine go_run ?_ | (refine go_newP ?_; clear hw; intro p w hw) | (refine go_newWr ?_; clear hw; intro w hw) | (refine go_newS ?_; clear hw; intro s w hw))
    refine st_call rfl (facts_spec (hc.at hw) (by omega)) ?_
    rintro _ w' ⟨gv, rfl, hk'⟩
    replace hw := hw.call1 hk'
    clear hk'
    refine ⟨_, rfl, ?_⟩
    have og := (rsO (s := gv) hw).one
    repeat (first | refine go_run ?_ | (refine go_newP ?_; clear hw; intro p w hw) | (refine go_newWr ?_; clear hw; intro w hw) | (refine go_newS ?_; clear hw; intro s w hw))
    refine opsT_alt ?_ (opsT_alt ?_ opsT_stop)
    · repeat (first | refine go_run ?_ | (refine go_newP ?_; clear hw; intro p w hw) | (refine go_newWr ?_; clear hw; intro w hw) | (refine go_newS ?_; clear hw; intro s w hw))
      refine st_build2 (v1 := gv) (v2 := .int .i64 (leastC t)) rfl rfl rfl (by simp only [List.all_cons, List.all_nil, og]; rfl) ?_
      repeat (first | refine go_run ?_ | (refine go_newP ?_; clear hw; intro p w hw) | (refine go_newWr ?_; clear hw; intro w hw) | (refine go_newS ?_; clear hw; intro s w hw))
      repeat (first | refine go_run ?_ | (refine go_newP ?_; clear hw; intro p w hw) | (refine go_newWr ?_; clear hw; intro w hw) | (refine go_newS ?_; clear hw; intro s w hw))
      refine st_call rfl (Check_spec (ht'.at hw)) ?_
      rintro _ w' ⟨rfl, hk'⟩
      replace hw := hw.call0 hk'
      clear hk'
      refine ⟨_, rfl, ?_⟩
      rw [errV_zero ((good_iff t).2 hg)]
      repeat (first | refine go_run ?_ | (refine go_newP ?_; clear hw; intro p w hw) | (refine go_newWr ?_; clear hw; intro w hw) | (refine go_newS ?_; clear hw; intro s w hw))
      refine st_call rfl (made_spec (h := .iface 107 (.agg #[gv, .int .i64 (leastC t)])) (H := blindH t) (ht'.at hw) hg ⟨_, _, rfl⟩) ?_
      rintro _ w' ⟨pe, rfl, hk'⟩
      replace hw := hw.call1 hk'
      clear hk'
      refine ⟨_, rfl, ?_⟩
      repeat (first | refine go_run ?_ | (refine go_newP ?_; clear hw; intro p w hw) | (refine go_newWr ?_; clear hw; intro w hw) | (refine go_newS ?_; clear hw; intro s w hw))
      have hw2 : Sat w0 w' [RdH fun w => HVal w (.iface 107 (.agg #[gv, .int .i64 (leastC t)])) t (blindH t) → REst w pe t (blindH t), OS tFact 77 gv t.goal, Box pt 26 [a, b, c, d]] := hw
      have hw3 := Sat.rd (Δ := [RdH fun w => HVal w (.iface 107 (.agg #[gv, .int .i64 (leastC t)])) t (blindH t) → REst w pe t (blindH t), OS tFact 77 gv t.goal]) (φ := fun w => REst w pe t (blindH t)) (fun _ w h => (h.rdE 0 rfl) (hval_blind (h.rs 1 rfl))) hw2
      exact ⟨pe, ⟨rfl, rfl, trivial⟩, by repeat (first | exact agree_refl | (apply agree_upd rfl) | (apply agree_mix rfl) | (apply agree_sets rfl)), hw3.sel⟩
    · repeat (first | refine go_run ?_ | (refine go_newP ?_; clear hw; intro p w hw) | (refine go_newWr ?_; clear hw; intro w hw) | (refine go_newS ?_; clear hw; intro s w hw))
      refine st_call rfl (Check_spec (ht'.at hw)) ?_
      rintro _ w' ⟨rfl, hk'⟩
      replace hw := hw.call0 hk'
      clear hk'
      refine ⟨_, rfl, ?_⟩
      rw [errV_zero ((good_iff t).2 hg)]
      repeat (first | refine go_run ?_ | (refine go_newP ?_; clear hw; intro p w hw) | (refine go_newWr ?_; clear hw; intro w hw) | (refine go_newS ?_; clear hw; intro s w hw))
      repeat (first | refine go_run ?_ | (refine go_newP ?_; clear hw; intro p w hw) | (refine go_newWr ?_; clear hw; intro w hw) | (refine go_newS ?_; clear hw; intro s w hw))
      refine st_build2 (v1 := gv) (v2 := .int .i64 (leastC t)) rfl rfl rfl (by simp only [List.all_cons, List.all_nil, og]; rfl) ?_
      repeat (first | refine go_run ?_ | (refine go_newP ?_; clear hw; intro p w hw) | (refine go_newWr ?_; clear hw; intro w hw) | (refine go_newS ?_; clear hw; intro s w hw))
      refine st_call rfl (made_spec (h := .iface 107 (.agg #[gv, .int .i64 (leastC t)])) (H := blindH t) (ht'.at hw) hg ⟨_, _, rfl⟩) ?_
      rintro _ w' ⟨pe, rfl, hk'⟩
      replace hw := hw.call1 hk'
      clear hk'
      refine ⟨_, rfl, ?_⟩
      repeat (first | refine go_run ?_ | (refine go_newP ?_; clear hw; intro p w hw) | (refine go_newWr ?_; clear hw; intro w hw) | (refine go_newS ?_; clear hw; intro s w hw))
      have hw2 : Sat w0 w' [RdH fun w => HVal w (.iface 107 (.agg #[gv, .int .i64 (leastC t)])) t (blindH t) → REst w pe t (blindH t), OS tFact 77 gv t.goal, Box pt 26 [a, b, c, d]] := hw
      have hw3 := Sat.rd (Δ := [RdH fun w => HVal w (.iface 107 (.agg #[gv, .int .i64 (leastC t)])) t (blindH t) → REst w pe t (blindH t), OS tFact 77 gv t.goal]) (φ := fun w => REst w pe t (blindH t)) (fun _ w h => (h.rdE 0 rfl) (hval_blind (h.rs 1 rfl))) hw2
      exact ⟨pe, ⟨rfl, rfl, trivial⟩, by repeat (first | exact agree_refl | (apply agree_upd rfl) | (apply agree_mix rfl) | (apply agree_sets rfl)), hw3.sel⟩
  clear hw
  rintro σ0 pe w hw
  repeat (first | refine go_run ?_ | (refine go_newP ?_; clear hw; intro p w hw) | (refine go_newWr ?_; clear hw; intro w hw) | (refine go_newS ?_; clear hw; intro s w hw))
  exact res_two (v := .pointer (some pe)) (v' := .nilIface) rfl rfl rfl ⟨pe, rfl, hw⟩
/-! ### Tables -/
end Go.Proofs.YtkmbenhffledpaaGreat
