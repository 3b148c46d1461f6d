
/-
  How many states are expanded with a consistent estimate, in plain Lean.
-/
import Derived.Test.YtegndanecnicaaaGreatTAstH
import Derived.Test.YtegndanecnicaaaGreatTCost
set_option linter.unusedSimpArgs false
set_option linter.unusedVariables false
namespace Go.Proofs.YtegndanecnicaaaGreat
open Go.Sl
def stI (t : TTask) (i : Nat) : List Int := (statesL t.vars).getD i []
def fOk (t : TTask) (H : List Int → Int) (D : List Int) (i : Nat) : Bool := decide (D.getD i tInt.dflt < inf) && decide (H (stI t i) < inf)
def loB (t : TTask) (H : List Int → Int) (D : List Int) (b : Int) (i : Nat) : Bool := fOk t H D i && decide (D.getD i tInt.dflt + H (stI t i) < b)
def upB (t : TTask) (H : List Int → Int) (D : List Int) (b : Int) (i : Nat) : Bool := fOk t H D i && decide (D.getD i tInt.dflt + H (stI t i) ≤ b)
def cntP (P : Nat → Bool) (k : Nat) : Nat := (List.range k).countP P
theorem cntP_succ (P : Nat → Bool) (k : Nat) : cntP P (k + 1) = cntP P k + (if P k = true then 1 else 0) := by
  unfold cntP
  rw [List.range_succ, List.countP_append, List.countP_cons, List.countP_nil]; omega
theorem cntP_le (P : Nat → Bool) (k : Nat) : cntP P k ≤ k := by
  have h := List.countP_le_length (p := P) (l := List.range k)
  rw [List.length_range] at h; exact h
section
variable {t : TTask} {H : List Int → Int} {D : List Int} {b : Int} {S : SA}
theorem lo_le (hg : GoodT t) (hD : CostOk t D) (hE : ExOk ⟨t, H, none⟩ b S) : cntP (loB t H D b) D.length ≤ S.ex.length := by
  unfold cntP
  rw [List.countP_eq_length_filter]
  have h1 : ((List.range D.length).filter (loB t H D b)).Nodup := List.Pairwise.filter (loB t H D b) List.nodup_range
  have h2 : ∀ i ∈ (List.range D.length).filter (loB t H D b), i ∈ S.ex.map fun k => (rankL t.vars (S.si k)).toNat := fun i hi => by
    obtain ⟨h3, h4⟩ := List.mem_filter.1 hi
    have hil := List.mem_range.1 h3
    unfold loB fOk at h4
    rw [Bool.and_eq_true, Bool.and_eq_true, decide_eq_true_eq, decide_eq_true_eq, decide_eq_true_eq] at h4
    obtain ⟨p, hp⟩ := hD.att i hil h4.1.1
    obtain ⟨k, hk, he⟩ := hE.lo p _ _ hp h4.1.2 h4.2
    refine List.mem_map.2 ⟨k, hk, ?_⟩
    rw [he]
    have h5 := (statesL_at hg.pos (i := i) (by have := hD.len; omega)).2
    rw [h5, Int.toNat_natCast]
  have := nodup_sub h1 h2
  rw [List.length_map] at this
  exact this
theorem up_ge {M : Int} (hM0 : 0 ≤ M) (hg : GoodT t) (hD : CostOk t D) (hE : ExOk ⟨t, H, none⟩ b S) (hb : b ≤ inf) (hM : ∀ y, H y < inf → H y ≤ M) (hM2 : (S.ex.length : Int) * 1048576 + M < inf) (hbi : b < inf ∨ b = inf) : S.ex.length ≤ cntP (upB t H D b) D.length := by
  unfold cntP
  rw [List.countP_eq_length_filter]
  have key : ∀ k ∈ S.ex, (rankL t.vars (S.si k)).toNat < (statesL t.vars).length ∧ stI t (rankL t.vars (S.si k)).toNat = S.si k := fun k hk => statesL_of hg.pos (hE.ok k hk).1
  have h1 : (S.ex.map fun k => (rankL t.vars (S.si k)).toNat).Nodup := by
    refine List.pairwise_map.2 (List.Pairwise.imp_of_mem ?_ hE.e.nd)
    intro k1 k2 m1 m2 hne he
    have e1 := (key k1 m1).2
    have e2 := (key k2 m2).2
    rw [he, e2] at e1
    exact hne (nodup_at hE.nd (hE.e.lt k1 m1) (hE.e.lt k2 m2) e1.symm)
  have h2 : ∀ i ∈ S.ex.map fun k => (rankL t.vars (S.si k)).toNat, i ∈ (List.range D.length).filter (upB t H D b) := fun i hi => by
    obtain ⟨k, hk, rfl⟩ := List.mem_map.1 hi
    obtain ⟨q1, q2⟩ := key k hk
    obtain ⟨hok, p, hp⟩ := hE.ok k hk
    have hgb := hE.gb k hk
    have hfin : H (S.si k) < inf := hE.e.fin k hk
    have hHM := hM _ hfin
    have hlen := hD.len
    have hlow := hD.low _ p _ hp
    have hDlt : D.getD (rankL t.vars (S.si k)).toNat tInt.dflt < inf := by omega
    obtain ⟨p2, hp2⟩ := hD.att (rankL t.vars (S.si k)).toNat (by omega) hDlt
    have hopt := hE.e.opt k hk p2 _ (by
      have e : (statesL t.vars).getD (rankL t.vars (S.si k)).toNat [] = S.si k := q2
      rw [e] at hp2; exact hp2)
    refine List.mem_filter.2 ⟨List.mem_range.2 (by omega), ?_⟩
    unfold upB fOk
    rw [q2, Bool.and_eq_true, Bool.and_eq_true, decide_eq_true_eq, decide_eq_true_eq, decide_eq_true_eq]
    refine ⟨⟨hDlt, hfin⟩, ?_⟩
    rcases hbi with hlt | heq
    · have h7 : S.gi k + H (S.si k) ≤ b := hE.up k hk hlt
      omega
    · omega
  have := nodup_sub h1 h2
  rw [List.length_map] at this
  exact this
end
end Go.Proofs.YtegndanecnicaaaGreat
