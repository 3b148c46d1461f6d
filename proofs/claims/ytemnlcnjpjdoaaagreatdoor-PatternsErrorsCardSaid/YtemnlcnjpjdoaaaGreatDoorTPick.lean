
/-
  What the statements of layer 42 share: patterns whose databases are small, and what 'New' makes of them.
-/
import Derived.Test.YtemnlcnjpjdoaaaGreatDoorWPat4
import Derived.Test.YtemnlcnjpjdoaaaGreatDoorTInd
import Derived.Test.YtemnlcnjpjdoaaaGreatDoorTCliR
import Derived.Test.YtemnlcnjpjdoaaaGreatDoorMW7
import Derived.Test.YtemnlcnjpjdoaaaGreatDoorWPdbAw
set_option linter.unusedSimpArgs false
set_option linter.unusedVariables false
namespace Go.Proofs.YtemnlcnjpjdoaaaGreatDoor
open Go.Sl Go
attribute [local irreducible] vc opsW opsD opV opW PureV ReadV Thn Blk
/-- The patterns are right, and their databases small. -/
structure PatsOk (t : TTask) (Ls : List (List Int)) : Prop where
  small : SmallT t
  len : Ls.length ≤ 32
  inv : ∀ i, i < Ls.length → InV t.vars (Ls.getD i [])
  cnt : ∀ i, i < Ls.length → cntL t.vars (Ls.getD i []) ≤ 64
  full : 0 < Ls.length → ¬ ClqFull Ls.length (nbA Ls.length (arcP t Ls Ls.length))
theorem few_not_full {n : Nat} {N : Nat → Nat} (h : n ≤ 12) : ¬ ClqFull n N := by
  rintro ⟨M, hd, hml, hm⟩
  have h2 := sub_len hd (M := List.range (2 ^ n)) fun C hC => List.mem_range.2 (hm C hC).lt
  rw [List.length_range] at h2
  have : 2 ^ n ≤ 2 ^ 12 := Nat.pow_le_pow_right (by decide) h
  omega
/-- If all are neighbours there is one greatest clique. -/
theorem whole_not_full {n : Nat} {N : Nat → Nat} (h : ∀ u v, u < n → v < n → u ≠ v → ib (N u) v) : ¬ ClqFull n N := by
  rintro ⟨M, hd, hml, hm⟩
  have hone : ∀ C, MaxC n N C → C = 2 ^ n - 1 := fun C hC => by
    apply Nat.eq_of_testBit_eq
    intro i
    rw [Nat.testBit_two_pow_sub_one]
    by_cases hi : ib C i
    · rw [hi, decide_eq_true (hC.bd i hi)]
    · rw [Bool.eq_false_iff.2 hi]
      symm
      refine decide_eq_false fun hlt => ?_
      obtain ⟨v, hv, hn⟩ := hC.max i hlt hi
      exact hn (h i v hlt (hC.bd v hv) fun e => hi (by rw [e]; exact hv))
  have h2 := sub_len hd (M := [2 ^ n - 1]) fun C hC => by rw [hone C (hm C hC)]; exact List.mem_singleton_self _
  simp only [List.length_singleton] at h2
  omega
section
variable {t : TTask} {Ls Ds Cs : List (List Int)}
theorem PatsOk.lerr (h : PatsOk t Ls) : lErr t Ls = 0 := by
  unfold lErr
  rw [if_neg (by rw [(good_iff t).2 h.small.good]; decide), if_pos fun i hi => (h.inv i hi).pat]
theorem PatsOk.cerr (h : PatsOk t Ls) : clqErr t Ls = 0 := by
  unfold clqErr
  rw [if_neg (by simp [h.lerr]), if_neg (by have := h.len; omega), if_neg (fun hh => h.full hh.1 hh.2)]
theorem PatsOk.perr (h : PatsOk t Ls) : ∀ i, i < Ls.length → pErr t (Ls.getD i []) = 0 := fun i hi => (small_err h.small (h.inv i hi)).1
theorem PatsOk.berr (h : PatsOk t Ls) {i : Nat} (hi : i < Ls.length) : bErr t (Ls.getD i []) [] = 0 := bErr_zero h.small.good ⟨by simp, by simp⟩ (h.perr i hi)
/-- What 'New' makes. -/
structure CanOk (t : TTask) (Ls Ds Cs : List (List Int)) : Prop where
  pats : PatsOk t Ls
  dl : Ds.length = Ls.length
  cl : Cs.length ≤ 4096
  zero : Ls = [] → Cs = []
  clq : Ls ≠ [] → CliqL Ls.length (nbA Ls.length (arcP t Ls Ls.length)) Cs
  dist : ∀ i, i < Ls.length → DistOk (pEdges t (Ls.getD i [])) (costsT t) (GoalPK t (Ls.getD i [])) (cntL t.vars (Ls.getD i [])).toNat (Ds.getD i [])
theorem CanOk.ci (h : CanOk t Ls Ds Cs) : ∀ l ∈ Cs, ∀ i ∈ l, 0 ≤ i ∧ i < Ls.length := fun l hl i hi => by
  by_cases e : Ls = []
  · rw [h.zero e] at hl; simp at hl
  · obtain ⟨C, _, rfl⟩ := (h.clq e l).1 hl
    obtain ⟨v, hv, _, rfl⟩ := mem_bitsK.1 hi
    omega
theorem CanOk.can (h : CanOk t Ls Ds Cs) : ∃ Cs', CanC t Ls Ds (nbA Ls.length (arcP t Ls Ls.length)) Cs' ∧ ∀ s, canV t Ls Ds Cs s = canV t Ls Ds Cs' s := by
  have hA := addG t Ls
  by_cases e : Ls = []
  · refine ⟨[[]], ⟨h.pats.small.good, h.pats.inv, h.pats.cnt, h.pats.len, h.dist, hA.gr, hA.add, ?_⟩, fun s => ?_⟩
    · have e0 : Ls.length = 0 := by rw [e]; rfl
      rw [e0]
      intro l
      constructor
      · intro hl
        rw [List.mem_singleton] at hl
        subst hl
        exact ⟨0, ⟨fun v hv => by simp [ib] at hv, fun u v hu => by simp [ib] at hu, fun u hu => absurd hu (Nat.not_lt_zero _)⟩, rfl⟩
      · rintro ⟨C, _, rfl⟩
        exact List.mem_singleton.2 rfl
    · rw [h.zero e]
      unfold canV bestL
      rfl
  · exact ⟨Cs, ⟨h.pats.small.good, h.pats.inv, h.pats.cnt, h.pats.len, h.dist, hA.gr, hA.add, h.clq e⟩, fun _ => rfl⟩
theorem CanOk.rng (h : CanOk t Ls Ds Cs) {s : List Int} (hs : StateOk t.vars s) : 0 ≤ canV t Ls Ds Cs s ∧ canV t Ls Ds Cs s ≤ inf := by
  obtain ⟨Cs', h1, h2⟩ := h.can
  rw [h2]; exact h1.crng hs
theorem CanOk.step (h : CanOk t Ls Ds Cs) {s : List Int} {op : Nat} (hs : StateOk t.vars s) (ho : op < t.ops.length) (ha : AppT t s op) (hf : canV t Ls Ds Cs (succT t s op) < inf) : canV t Ls Ds Cs s < inf ∧ canV t Ls Ds Cs s ≤ (costsT t).getD op tInt.dflt + canV t Ls Ds Cs (succT t s op) := by
  obtain ⟨Cs', h1, h2⟩ := h.can
  rw [h2] at hf
  rw [h2, h2]
  have := h1.step hs ho ha hf
  exact ⟨by omega, by omega⟩
theorem CanOk.goal (h : CanOk t Ls Ds Cs) {s : List Int} (hs : StateOk t.vars s) (hg : HoldFs s t.goal) : canV t Ls Ds Cs s = 0 := by
  obtain ⟨Cs', h1, h2⟩ := h.can
  rw [h2]; exact h1.goal hs hg
theorem CanOk.more {p : List Int} {Ds' Cs' : List (List Int)} (h : CanOk t Ls Ds Cs) (h' : CanOk t (Ls ++ [p]) Ds' Cs') {s : List Int} (hs : StateOk t.vars s) : canV t Ls Ds Cs s ≤ canV t (Ls ++ [p]) Ds' Cs' s := by
  obtain ⟨C1, h1, h2⟩ := h.can
  obtain ⟨C2, h3, h4⟩ := h'.can
  rw [h2, h4]; exact h1.more h3 hs
theorem CanOk.one (h : CanOk t Ls Ds Cs) {s : List Int} (hs : StateOk t.vars s) {k : Nat} (hk : k < Ls.length) : valK t Ls Ds s k ≤ canV t Ls Ds Cs s := by
  obtain ⟨C1, h1, h2⟩ := h.can
  rw [h2]; exact h1.one hs hk
end
set_option maxRecDepth 8000 in
theorem paNew_ok {w0 : World} {a b c d s : Value} {vs : List OpV} {t : TTask} {ss : List Value} {Ls : List (List Int)} (ht : RTask w0 a b c d vs t) (hl : RLs w0 s ss Ls) (hT : TabB w0) (hp : PatsOk t Ls) :
    Calls Tryz.prog 15 #[.agg #[a, b, c, d], s] w0 fun e w' => ∃ p Ds Cs, e = .returned (.tuple #[.pointer (some p), .nilIface]) ∧ CanOk t Ls Ds Cs ∧ Sat w0 w' [RdH fun w => RCan w p t Ls Ds Cs] := by
  refine (paNew_spec ht hl hT).mono fun e w' h => ?_
  rcases h with ⟨h, _⟩ | ⟨_, ⟨k, hk, _, hb, _⟩, _⟩ | ⟨_, _, _, _, p, Ds, Cs, he, h1, h2, h3, h4, h5, hk⟩
  · exact absurd hp.cerr h
  · exact absurd (hp.berr hk) hb
  · exact ⟨p, Ds, Cs, he, ⟨hp, h4, h3, h1, h2, h5⟩, hk⟩
theorem CValue_ok {w0 : World} {p : Addr} {t : TTask} {Ls Ds Cs : List (List Int)} {sv : Value} {s : List Int} (hr : RCan w0 p t Ls Ds Cs) (h : CanOk t Ls Ds Cs) (hs : RS tInt w0 sv s) :
    Calls Tryz.prog 20 #[.pointer (some p), sv] w0 fun e w' => e = .returned (.int .i64 (canW t Ls Ds Cs s)) ∧ Sat w0 w' [] := CValue_spec hr h.pats.len h.dl h.cl h.ci h.pats.perr h.dist hs
end Go.Proofs.YtemnlcnjpjdoaaaGreatDoor
