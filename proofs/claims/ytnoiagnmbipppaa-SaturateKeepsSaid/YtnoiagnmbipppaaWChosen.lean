
/-
  Contracts of the laws' helpers 'chosen', 'few' and of the reference's 'Many', 'Index'; of 'project.Index'.
-/
import Derived.Test.YtnoiagnmbipppaaWAwake
set_option linter.unusedSimpArgs false
set_option linter.unusedVariables false
namespace Go.Proofs.Ytnoiagnmbipppaa
open Go.Sl Go
attribute [local irreducible] vc opsW opsD opV opW PureV ReadV Thn Blk

def bitB (bits v : Int) : Bool := decide ((bits / 2 ^ v.toNat).tmod 2 = 1)
def chosenK (bits : Int) (k : Nat) : List Int := (upTo k).filter (bitB bits)
theorem upTo_succ (k : Nat) : upTo ((k + 1 : Nat) : Int) = upTo (k : Int) ++ [(k : Int)] := by simp [upTo, List.range_succ]
theorem chosenK_succ (bits : Int) (k : Nat) : chosenK bits (k + 1) = if bitB bits k then chosenK bits k ++ [(k : Int)] else chosenK bits k := by
  unfold chosenK
  rw [upTo_succ, List.filter_append]
  split
  · rename_i h; simp [h]
  · rename_i h; simp [h]
theorem chosenK_len (bits : Int) (k : Nat) : (chosenK bits k).length ≤ k := by
  have := List.length_filter_le (bitB bits) (upTo k)
  rw [upTo_len] at this
  unfold chosenK
  omega
theorem chosen_inV (vars : List Int) (bits : Int) : InV vars (chosenK bits vars.length) := by
  refine ⟨fun v hv => ?_, (upTo_asc _).filter _⟩
  have := upTo_mem.1 (List.mem_filter.1 hv).1
  omega

set_option maxRecDepth 8000 in
set_option maxHeartbeats 1000000 in
theorem chosen_spec {w0 : World} {a b c d : Value} {vs : List OpV} {t : TTask} {bits : Int} (ht : RTask w0 a b c d vs t) (hn : t.vars.length ≤ 16) :
    Calls Try.prog 15 #[.agg #[a, b, c, d], .int .u16 bits] w0 fun e w' => ∃ s, e = .returned s ∧ Sat w0 w' [OS tInt 3 s (chosenK bits t.vars.length)] := by
  obtain ⟨ha, hb, hc, hd⟩ := ht
  have hla := ha.big
  have hw := Sat.start w0
  refine calls_of_vc (args := [.agg #[a, b, c, d], .int .u16 bits]) mixed Try.func15 rfl (by kernel_rfl) (Nat.le_of_ble_eq_true rfl) ?_
  repeat (first | refine go_run ?_ | (refine go_newP ?_; clear hw; intro p w hw) | (refine go_newW ?_; clear hw; intro w hw) | (refine go_newS ?_; clear hw; intro s w hw))
  obtain ⟨pt, hpt⟩ : ∃ pt, pt = p := ⟨p, rfl⟩
  subst hpt
  refine vc_loop2 [5, 6, 10, 11, 12, 13, 14, 15, 16, 17, 18, 19, 20, 21, 22] (G := Nat) (H := Value) (fun k s => [(10, .int .i64 k), (5, s)]) (fun k s w => k ≤ t.vars.length ∧ Sat w0 w [OS tInt 3 s (chosenK bits k), Box pt 26 [a, b, c, d]]) (fun k _ => t.vars.length - k) 0 (.slice none 0 0) (fun _ _ => rfl) ⟨rfl, rfl, trivial⟩ ⟨Nat.zero_le _, hw.nil⟩ ?_
  clear hw
  rintro σ k s w ⟨hk, hw⟩
  repeat (first | refine go_run ?_ | (refine go_newP ?_; clear hw; intro p w hw) | (refine go_newW ?_; clear hw; intro w hw) | (refine go_newS ?_; clear hw; intro s w hw))
  refine go_if (fun h1 => ?_) (fun h1 => ?_)
  · have hkl := chosenK_len bits k
    have hsn := chosenK_succ bits k
    repeat (first | refine go_run ?_ | (refine go_newP ?_; clear hw; intro p w hw) | (refine go_newW ?_; clear hw; intro w hw) | (refine go_newS ?_; clear hw; intro s w hw))
    refine step_pure rfl (pv_shr16 (a := bits) (b := k) (k := .i64) rfl rfl (by omega) (by omega)) ?_
    refine step_pure rfl (pv_remU16 (a := bits / 2 ^ (k : Int).toNat) (b := 2) rfl rfl (by decide)) ?_
    repeat (first | refine go_run ?_ | (refine go_newP ?_; clear hw; intro p w hw) | (refine go_newW ?_; clear hw; intro w hw) | (refine go_newS ?_; clear hw; intro s w hw))
    refine go_if (fun h2 => ?_) (fun h2 => ?_)
    · repeat (first | refine go_run ?_ | (refine go_newP ?_; clear hw; intro p w hw) | (refine go_newW ?_; clear hw; intro w hw) | (refine go_newS ?_; clear hw; intro s w hw))
      refine ⟨k + 1, _, ⟨rfl, rfl, trivial⟩, by repeat (first | exact agree_refl | (apply agree_upd rfl) | (apply agree_mix rfl) | (apply agree_sets rfl)), ⟨by omega, ?_⟩, by omega⟩
      rw [hsn, if_pos (by simp only [bitB, decide_eq_true_eq]; exact h2)]
      exact hw.tail
    · repeat (first | refine go_run ?_ | (refine go_newP ?_; clear hw; intro p w hw) | (refine go_newW ?_; clear hw; intro w hw) | (refine go_newS ?_; clear hw; intro s w hw))
      refine ⟨k + 1, _, ⟨rfl, rfl, trivial⟩, by repeat (first | exact agree_refl | (apply agree_upd rfl) | (apply agree_mix rfl) | (apply agree_sets rfl)), ⟨by omega, ?_⟩, by omega⟩
      rw [hsn, if_neg (by simp only [bitB, decide_eq_true_eq]; exact h2)]
      exact hw
  · have hke : k = t.vars.length := by omega
    subst hke
    repeat (first | refine go_run ?_ | (refine go_newP ?_; clear hw; intro p w hw) | (refine go_newW ?_; clear hw; intro w hw) | (refine go_newS ?_; clear hw; intro s w hw))
    exact res_one (v := s) rfl rfl ⟨s, rfl, hw.only⟩

set_option maxRecDepth 8000 in
set_option maxHeartbeats 1000000 in
theorem rMany_spec {w0 : World} {a b c d va : Value} {vs : List OpV} {t : TTask} {L : List Int} (ht : RTask w0 a b c d vs t) (hp : RS tInt w0 va L) (hd1 : ∀ x ∈ t.vars, 1 ≤ x) (hL : ∀ v ∈ L, 0 ≤ v ∧ v < t.vars.length) (hB : cntL t.vars L ≤ 1099511627776) :
    Calls Try.prog 30 #[.agg #[a, b, c, d], va] w0 fun e w' => e = .returned (.int .i64 (cntL t.vars L)) ∧ Sat w0 w' [] := by
  obtain ⟨ha, hb, hc, hd⟩ := ht
  have hla := ha.big
  have hlp := hp.big
  have hw := Sat.start w0
  refine calls_of_vc (args := [.agg #[a, b, c, d], va]) mixed Try.func30 rfl (by kernel_rfl) (Nat.le_of_ble_eq_true rfl) ?_
  repeat (first | refine go_run ?_ | (refine go_newP ?_; clear hw; intro p w hw) | (refine go_newW ?_; clear hw; intro w hw) | (refine go_newS ?_; clear hw; intro s w hw))
  obtain ⟨pt, hpt⟩ : ∃ pt, pt = p := ⟨p, rfl⟩
  subst hpt
  refine vc_loop2 [5, 7, 10, 11, 12, 13, 14, 15, 16, 17, 18, 19, 20, 21] (G := Nat) (H := Int) (fun k n => [(10, .int .i64 k), (5, .int .i64 n)]) (fun k n w => k ≤ L.length ∧ n = cntL t.vars (L.take k) ∧ Sat w0 w [Box pt 26 [a, b, c, d]]) (fun k _ => L.length - k) 0 1 (fun _ _ => rfl) ⟨rfl, rfl, trivial⟩ ⟨Nat.zero_le _, rfl, hw⟩ ?_
  clear hw
  rintro σ k n w ⟨hk, hn, hw⟩
  repeat (first | refine go_run ?_ | (refine go_newP ?_; clear hw; intro p w hw) | (refine go_newW ?_; clear hw; intro w hw) | (refine go_newS ?_; clear hw; intro s w hw))
  refine go_if (fun h1 => ?_) (fun h1 => ?_)
  · have hkl : k < L.length := by omega
    have hv := hL _ (mem_getD tInt.dflt hkl)
    have hpos : 1 ≤ n := by rw [hn]; exact cntL_pos hd1 fun v hv => hL v (List.mem_of_mem_take hv)
    have hdv := hd1 _ (mem_getD tInt.dflt (show (L.getD k tInt.dflt).toNat < t.vars.length by omega))
    have hS : cntL t.vars (L.take (k + 1)) = n * sg t.vars (L.getD k tInt.dflt) := by rw [cntL_takeS hkl, hn]
    have hle := cntL_take hd1 hL (k + 1)
    simp only [sg] at hS
    have b0 : 0 ≤ n * t.vars.getD (L.getD k tInt.dflt).toNat tInt.dflt := Int.mul_nonneg (by omega) (by omega)
    repeat (first | refine go_run ?_ | (refine go_newP ?_; clear hw; intro p w hw) | (refine go_newW ?_; clear hw; intro w hw) | (refine go_newS ?_; clear hw; intro s w hw))
    exact ⟨k + 1, _, ⟨rfl, rfl, trivial⟩, by repeat (first | exact agree_refl | (apply agree_upd rfl) | (apply agree_mix rfl) | (apply agree_sets rfl)), ⟨by omega, hS.symm, hw⟩, by omega⟩
  · repeat (first | refine go_run ?_ | (refine go_newP ?_; clear hw; intro p w hw) | (refine go_newW ?_; clear hw; intro w hw) | (refine go_newS ?_; clear hw; intro s w hw))
    refine res_one (v := .int .i64 n) rfl rfl ⟨?_, hw.tail⟩
    rw [List.take_of_length_le (by omega)] at hn
    rw [hn]

end Go.Proofs.Ytnoiagnmbipppaa
