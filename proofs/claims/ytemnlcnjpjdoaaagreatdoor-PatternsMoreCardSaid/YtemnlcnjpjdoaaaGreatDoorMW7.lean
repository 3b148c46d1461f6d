/-
  Several texts as one: WChosen, WAffects, TSmall, TLaw5.
-/
import Derived.Test.YtemnlcnjpjdoaaaGreatDoorMW6
set_option linter.unusedSimpArgs false
set_option linter.unusedVariables false

/-
  Contracts of the laws' helpers 'chosen', 'few' and of the reference's 'Many', 'Index'; of 'project.Index'.
-/
namespace Go.Proofs.YtemnlcnjpjdoaaaGreatDoor
open Go.Sl Go
attribute [local irreducible] vc opsW opsD opV opW PureV ReadV Thn Blk

def bitB (bits v : Int) : Bool := decide ((bits / 2 ^ v.toNat).tmod 2 = 1)
def chosenK (bits : Int) (k : Nat) : List Int := (upTo k).filter (bitB bits)
theorem upTo_succ (k : Nat) : upTo ((k + 1 : Nat) : Int) = upTo (k : Int) ++ [(k : Int)] := by simp [upTo, List.range_succ]
theorem chosenK_succ (bits : Int) (k : Nat) : chosenK bits (k + 1) = if bitB bits k then chosenK bits k ++ [(k : Int)] else chosenK bits k := by
  unfold chosenK
  rw [upTo_succ, List.filter_append]
  split
  · rename_i h; simp [h]
  · rename_i h; simp [h]
theorem chosenK_len (bits : Int) (k : Nat) : (chosenK bits k).length ≤ k := by
  have := List.length_filter_le (bitB bits) (upTo k)
  rw [upTo_len] at this
  unfold chosenK
  omega
theorem chosen_inV (vars : List Int) (bits : Int) : InV vars (chosenK bits vars.length) := by
  refine ⟨fun v hv => ?_, (upTo_asc _).filter _⟩
  have := upTo_mem.1 (List.mem_filter.1 hv).1
  omega

set_option maxRecDepth 8000 in
set_option maxHeartbeats 1000000 in
theorem rMany_spec {w0 : World} {a b c d va : Value} {vs : List OpV} {t : TTask} {L : List Int} (ht : RTask w0 a b c d vs t) (hp : RS tInt w0 va L) (hd1 : ∀ x ∈ t.vars, 1 ≤ x) (hL : ∀ v ∈ L, 0 ≤ v ∧ v < t.vars.length) (hB : cntL t.vars L ≤ 1099511627776) :
    Calls Tryz.prog 34 #[.agg #[a, b, c, d], va] w0 fun e w' => e = .returned (.int .i64 (cntL t.vars L)) ∧ Sat w0 w' [] := by
  obtain ⟨ha, hb, hc, hd⟩ := ht
  have hla := ha.big
  have hlp := hp.big
  have hw := Sat.start w0
  refine calls_of_vc (args := [.agg #[a, b, c, d], va]) mixed Tryz.func34 rfl (by kernel_rfl) (Nat.le_of_ble_eq_true rfl) ?_
  repeat (first | refine go_run ?_ | (refine go_newP ?_; clear hw; intro p w hw) | (refine go_newW ?_; clear hw; intro w hw) | (refine go_newS ?_; clear hw; intro s w hw))
  obtain ⟨pt, hpt⟩ : ∃ pt, pt = p := ⟨p, rfl⟩
  subst hpt
  refine vc_loop2 [5, 7, 10, 11, 12, 13, 14, 15, 16, 17, 18, 19, 20, 21] (G := Nat) (H := Int) (fun k n => [(10, .int .i64 k), (5, .int .i64 n)]) (fun k n w => k ≤ L.length ∧ n = cntL t.vars (L.take k) ∧ Sat w0 w [Box pt 26 [a, b, c, d]]) (fun k _ => L.length - k) 0 1 (fun _ _ => rfl) ⟨rfl, rfl, trivial⟩ ⟨Nat.zero_le _, rfl, hw⟩ ?_
  clear hw
  rintro σ k n w ⟨hk, hn, hw⟩
  repeat (first | refine go_run ?_ | (refine go_newP ?_; clear hw; intro p w hw) | (refine go_newW ?_; clear hw; intro w hw) | (refine go_newS ?_; clear hw; intro s w hw))
  refine go_if (fun h1 => ?_) (fun h1 => ?_)
  · have hkl : k < L.length := by omega
    have hv := hL _ (mem_getD tInt.dflt hkl)
    have hpos : 1 ≤ n := by rw [hn]; exact cntL_pos hd1 fun v hv => hL v (List.mem_of_mem_take hv)
    have hdv := hd1 _ (mem_getD tInt.dflt (show (L.getD k tInt.dflt).toNat < t.vars.length by omega))
    have hS : cntL t.vars (L.take (k + 1)) = n * sg t.vars (L.getD k tInt.dflt) := by rw [cntL_takeS hkl, hn]
    have hle := cntL_take hd1 hL (k + 1)
    simp only [sg] at hS
    have b0 : 0 ≤ n * t.vars.getD (L.getD k tInt.dflt).toNat tInt.dflt := Int.mul_nonneg (by omega) (by omega)
    repeat (first | refine go_run ?_ | (refine go_newP ?_; clear hw; intro p w hw) | (refine go_newW ?_; clear hw; intro w hw) | (refine go_newS ?_; clear hw; intro s w hw))
    exact ⟨k + 1, _, ⟨rfl, rfl, trivial⟩, by repeat (first | exact agree_refl | (apply agree_upd rfl) | (apply agree_mix rfl) | (apply agree_sets rfl)), ⟨by omega, hS.symm, hw⟩, by omega⟩
  · repeat (first | refine go_run ?_ | (refine go_newP ?_; clear hw; intro p w hw) | (refine go_newW ?_; clear hw; intro w hw) | (refine go_newS ?_; clear hw; intro s w hw))
    refine res_one (v := .int .i64 n) rfl rfl ⟨?_, hw.tail⟩
    rw [List.take_of_length_le (by omega)] at hn
    rw [hn]

end Go.Proofs.YtemnlcnjpjdoaaaGreatDoor

/-
  Contract of 'project.Affects'.
-/
namespace Go.Proofs.YtemnlcnjpjdoaaaGreatDoor
open Go.Sl Go
attribute [local irreducible] vc opsW opsD opV opW PureV ReadV Thn Blk

def AffOf (t : TTask) (L : List Int) (i : Nat) : Prop := ∃ e ∈ (t.ops.getD i dOp).effs, e.var ∈ L
instance (t : TTask) (L : List Int) (i : Nat) : Decidable (AffOf t L i) := by unfold AffOf; infer_instance
end Go.Proofs.YtemnlcnjpjdoaaaGreatDoor

/-
  A small task's projections are within the limits.
-/
namespace Go.Proofs.YtemnlcnjpjdoaaaGreatDoor
open Go.Sl Go

theorem nodup_len_le {α : Type} [DecidableEq α] {l : List α} : ∀ {m : List α}, l.Nodup → (∀ x ∈ l, x ∈ m) → l.length ≤ m.length := by
  induction l with
  | nil => intro m _ _; simp
  | cons x l ih =>
    intro m hn hs
    rw [List.nodup_cons] at hn
    have hx := hs x (by simp)
    have h1 := ih (m := m.erase x) hn.2 fun y hy => by
      have hne : y ≠ x := fun e => hn.1 (by rw [← e]; exact hy)
      exact (List.mem_erase_of_ne hne).2 (hs y (by simp [hy]))
    rw [List.length_erase_of_mem hx] at h1
    have := List.length_pos_of_mem hx
    simp only [List.length_cons]; omega
def belowI {α : Type} (g : α → Int) (l : List α) (n : Nat) : Nat := (l.filter fun s => decide (0 ≤ g s ∧ g s < n)).length
def atI {α : Type} (g : α → Int) (l : List α) (n : Nat) : Nat := (l.filter fun s => decide (g s = n)).length
theorem below_succ {α : Type} (g : α → Int) (n : Nat) : ∀ l : List α, belowI g l (n + 1) = belowI g l n + atI g l n
  | [] => rfl
  | x :: l => by
    have ih := below_succ g n l
    simp only [belowI, atI, List.filter_cons] at ih ⊢
    by_cases h1 : 0 ≤ g x ∧ g x < (n : Int)
    · rw [if_pos (by simp; omega), if_pos (by simpa using h1), if_neg (by simp; omega)]
      simp only [List.length_cons]; omega
    · by_cases h2 : g x = (n : Int)
      · rw [if_pos (by simp; omega), if_neg (by simpa using h1), if_pos (by simpa using h2)]
        simp only [List.length_cons]; omega
      · rw [if_neg (by simp; omega), if_neg (by simpa using h1), if_neg (by simpa using h2)]
        exact ih
theorem tgt_len (t : TTask) (p : List Int) (a : Nat) (op : Nat) : (tgtL t p a op).length ≤ atI (idxL t.vars p) (statesL t.vars) a := by
  have h1 := nodup_len_le (l := tgtL t p a op) (m := ((statesL t.vars).filter fun s => decide (idxL t.vars p s = (a : Int))).map fun s => idxL t.vars p (succT t s op)) ((pickL_asc _ _).imp fun h e => by omega) fun b hb => by
    obtain ⟨_, s, hs, ha, _, hb⟩ := pickL_mem.1 hb
    exact List.mem_map.2 ⟨s, List.mem_filter.2 ⟨mem_statesL.2 hs, by simpa using ha⟩, hb⟩
  simpa [atI] using h1
theorem edgO_le (t : TTask) (p : List Int) (a : Nat) : ∀ j, (edgO t p a j).length ≤ j * atI (idxL t.vars p) (statesL t.vars) a
  | 0 => by simp [edgO]
  | j + 1 => by
    have h1 := edgO_le t p a j
    have h2 := tgt_len t p a j
    rw [edgO_succ, List.length_append, edgB_len, Nat.succ_mul]; omega
theorem edgA_le (t : TTask) (p : List Int) : ∀ k, (edgA t p k).length ≤ t.ops.length * belowI (idxL t.vars p) (statesL t.vars) k
  | 0 => by simp [edgA]
  | k + 1 => by
    have h1 := edgA_le t p k
    have h2 := edgO_le t p k t.ops.length
    rw [edgA_succ, List.length_append, below_succ, Nat.mul_add]; omega
theorem pEdges_le (t : TTask) (p : List Int) : (pEdges t p).length ≤ t.ops.length * (statesL t.vars).length :=
  Nat.le_trans (edgA_le t p _) (Nat.mul_le_mul_left _ (List.length_filter_le _ _))
theorem small_err {t : TTask} {p : List Int} (h : SmallT t) (hp : InV t.vars p) : pErr t p = 0 ∧ chkP t p = 0 := by
  have hc := chkP_zero.2 ⟨h.good, hp.pat⟩
  have h1 := cntL_le h.good.pos hp
  have h2 := h.many
  have h3 := pEdges_le t p
  have h4 : (statesL t.vars).length ≤ 512 := by rw [statesL_len h.good.pos]; omega
  have h5 : t.ops.length * (statesL t.vars).length ≤ 20 * 512 := Nat.mul_le_mul h.ops h4
  refine ⟨?_, hc⟩
  rw [pErr_ok hc, pErr0, if_neg (by omega), if_neg (noBig h.good.pos (by omega)), if_neg (by omega)]
end Go.Proofs.YtemnlcnjpjdoaaaGreatDoor

/-
  Plain facts for the statement 'ProjectAffects', and two steps for reads that are looked at again under a guard.
-/
namespace Go.Proofs.YtemnlcnjpjdoaaaGreatDoor
open Go.Sl Go

theorem sysE_ok (t : TTask) (L : List Int) : sysE t L 0 = sysOk t L := if_pos rfl
theorem sysV_ok (t : TTask) (L : List Int) (cv ev gv : Value) : sysV (sysOk t L) cv ev gv = .agg #[.int .i64 (cntL t.vars L), .int .i64 (idxL t.vars L t.init), cv, ev, gv] := rfl
end Go.Proofs.YtemnlcnjpjdoaaaGreatDoor
