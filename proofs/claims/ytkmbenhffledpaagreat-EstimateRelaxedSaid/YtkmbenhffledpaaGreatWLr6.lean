
/-
  Contract of reference 35's 'Greatest'.
-/
import Derived.Test.YtkmbenhffledpaaGreatWLr5
set_option linter.unusedSimpArgs false
set_option linter.unusedVariables false
namespace Go.Proofs.YtkmbenhffledpaaGreat
open Go.Sl Go
attribute [local irreducible] vc opsW opsD opV opW PureV ReadV Thn Blk
def GrtK (vars V : List Int) (l : List Fact) (f : Fact) : Prop := ∀ g ∈ l, dg V (numF vars g) < dg V (numF vars f) ∨ (dg V (numF vars g) = dg V (numF vars f) ∧ numF vars f ≤ numF vars g)
theorem GrtK.snoc {vars V : List Int} {l : List Fact} {f g : Fact} (h : GrtK vars V l f) (h2 : dg V (numF vars g) < dg V (numF vars f) ∨ (dg V (numF vars g) = dg V (numF vars f) ∧ numF vars f ≤ numF vars g)) : GrtK vars V (l ++ [g]) f := fun x hx => by
  rcases List.mem_append.1 hx with hx | hx
  · exact h x hx
  · rw [List.mem_singleton.1 hx]; exact h2
theorem GrtK.take {vars V : List Int} {l : List Fact} {f g : Fact} (h : GrtK vars V l f) (h2 : dg V (numF vars f) < dg V (numF vars g) ∨ (dg V (numF vars f) = dg V (numF vars g) ∧ numF vars g < numF vars f)) : GrtK vars V (l ++ [g]) g := fun x hx => by
  rcases List.mem_append.1 hx with hx | hx
  · have := h x hx; omega
  · rw [List.mem_singleton.1 hx]; exact .inr ⟨rfl, Int.le_refl _⟩
set_option maxRecDepth 8000 in
set_option maxHeartbeats 8000000 in
theorem r35Greatest_spec {w0 : World} {vv fv : Value} {vars V : List Int} {l : List Fact} (hp : ∀ x ∈ vars, 1 ≤ x) (hv : RVals w0 vv vars V) (hf : RS tFact w0 fv l) (hne : l ≠ []) (hok : ∀ f ∈ l, FactOk vars f) :
    Calls Tryz.prog 41 #[vv, fv] w0 fun e w' => ∃ f, e = .returned (.agg #[.int .i64 f.var, .int .i64 f.val]) ∧ GrtX vars V l f ∧ Sat w0 w' [] := by
  obtain ⟨rows, hrr, hrl, hrow⟩ := hv
  have hfb := hf.big
  have hl0 : 0 < l.length := List.length_pos_iff.2 hne
  have hw := Sat.start w0
  refine calls_of_vc (args := [vv, fv]) mixed Tryz.func41 rfl (by kernel_rfl) (Nat.le_of_ble_eq_true rfl) ?_
  repeat (first | refine go_run ?_ | (refine go_newP ?_; clear hw; intro p w hw) | (refine go_newW ?_; clear hw; intro w hw) | (refine go_newS ?_; clear hw; intro s w hw))
  rename_i pz _ _
  obtain ⟨pg, hpg⟩ : ∃ pg, pg = p := ⟨p, rfl⟩
  subst hpg
  refine vc_loop2 [7, 8, 9, 15, 16, 17, 18, 19, 20, 21, 22, 23, 24, 25, 26, 27, 28, 29, 30, 31, 32, 33, 34, 35, 36, 37, 38, 39, 40, 41, 42, 43, 44, 45, 46, 47, 48, 49, 50, 51, 52, 53, 54, 55, 56, 57, 58, 59, 60, 61, 62, 63, 64, 65, 66, 67] (G := Nat) (H := Fact) (fun k _ => [(15, .int .i64 k)]) (fun (k : Nat) (g : Fact) (w : World) => k ≤ l.length ∧ g ∈ l ∧ GrtK vars V (l.take k) g ∧ Sat w0 w [Box pg 77 (tFact.enc g), Box pz 77 (tFact.enc ⟨0, 0⟩)]) (fun k _ => l.length - k) 0 (l.getD 0 tFact.dflt) (fun _ _ => rfl) ⟨rfl, trivial⟩ ⟨Nat.zero_le _, mem_getD tFact.dflt hl0, fun x hx => absurd hx (by simp), hw⟩ ?_
  clear hw
  rintro σ k g w ⟨hk, hgm, hgk, hw⟩
  repeat (first | refine go_run ?_ | (refine go_newP ?_; clear hw; intro p w hw) | (refine go_newW ?_; clear hw; intro w hw) | (refine go_newS ?_; clear hw; intro s w hw))
  refine go_if (fun h1 => ?_) (fun h1 => ?_)
  · have hkl : k < l.length := by omega
    have hfk := mem_getD tFact.dflt hkl
    have hfo := hok _ hfk
    have hgo := hok _ hgm
    obtain ⟨f, hfe⟩ : ∃ f, f = (l.getD k tFact.dflt) := ⟨_, rfl⟩
    rw [← hfe] at hfk hfo
    have hsn : l.take (k + 1) = l.take k ++ [f] := by rw [take_snoc tFact.dflt hkl, hfe]
    have hlt := numF_lt hp hfo hgo
    have hgt := numF_lt hp hgo hfo
    obtain ⟨x0, x1, x2, x3⟩ := hfo
    obtain ⟨y0, y1, y2, y3⟩ := hgo
    have hvf : f.var.toNat < vars.length := by omega
    have hvg : g.var.toNat < vars.length := by omega
    obtain ⟨r, r1, r2, r3⟩ := hrow _ hvf
    obtain ⟨q, q1, q2, q3⟩ := hrow _ hvg
    have hx := r3 f.val.toNat (by omega)
    rw [Int.toNat_of_nonneg x2] at hx
    have hy := q3 g.val.toNat (by omega)
    rw [Int.toNat_of_nonneg y2] at hy
    have hx' : r.getD f.val.toNat tInt.dflt = dg V (numF vars f) := hx
    have hy' : q.getD g.val.toNat tInt.dflt = dg V (numF vars g) := hy
    clear hx hy r3 q3
    repeat (first | refine go_run ?_ | (refine go_newP ?_; clear hw; intro p w hw) | (refine go_newWr ?_; clear hw; intro w hw) | (refine go_newS ?_; clear hw; intro s w hw))
    obtain ⟨p7, hp7⟩ : ∃ p7, p7 = p := ⟨p, rfl⟩
    subst hp7
    rw [← hfe] at hw
    replace hw : Sat w0 w [Box p7 77 [.int .i64 f.var, .int .i64 f.val], Box pg 77 [.int .i64 g.var, .int .i64 g.val], Box pz 77 (tFact.enc ⟨0, 0⟩)] := hw
    refine go_draw ?_
    clear hw
    intro w hw
    repeat (first | refine go_run ?_ | (refine go_newP ?_; clear hw; intro p w hw) | (refine go_newWr ?_; clear hw; intro w hw) | (refine go_newS ?_; clear hw; intro s w hw))
    generalize hbb : (decide (q.getD g.val.toNat tInt.dflt < r.getD f.val.toNat tInt.dflt) || decide (r.getD f.val.toNat tInt.dflt = q.getD g.val.toNat tInt.dflt) && (decide (f.var < g.var) || decide (f.var = g.var) && decide (f.val < g.val))) = bb
    rw [hx', hy'] at hbb
    cases bb
    · repeat (first | refine go_run ?_ | (refine go_newP ?_; clear hw; intro p w hw) | (refine go_newWr ?_; clear hw; intro w hw) | (refine go_newS ?_; clear hw; intro s w hw))
      refine ⟨k + 1, g, ⟨rfl, trivial⟩, by repeat (first | exact agree_refl | (apply agree_upd rfl) | (apply agree_mix rfl) | (apply agree_sets rfl)), ⟨by omega, hgm, ?_, hw.tail⟩, by omega⟩
      rw [hsn]
      refine hgk.snoc ?_
      simp only [Bool.or_eq_false_iff, Bool.and_eq_false_iff, decide_eq_false_iff_not] at hbb
      obtain ⟨b1, b2⟩ := hbb
      rcases Int.lt_or_eq_of_le (Int.not_lt.1 b1) with b3 | b3
      · exact .inl b3
      · refine .inr ⟨b3, Int.not_lt.1 fun h => ?_⟩
        rcases b2 with b2 | ⟨b4, b5⟩
        · exact b2 b3
        · rcases hlt.1 h with h | ⟨h, h'⟩
          · exact b4 h
          · rcases b5 with b5 | b5
            · exact b5 h
            · exact b5 h'
    · repeat (first | refine go_run ?_ | (refine go_newP ?_; clear hw; intro p w hw) | (refine go_newWr ?_; clear hw; intro w hw) | (refine go_newS ?_; clear hw; intro s w hw))
      refine ⟨k + 1, f, ⟨rfl, trivial⟩, by repeat (first | exact agree_refl | (apply agree_upd rfl) | (apply agree_mix rfl) | (apply agree_sets rfl)), ⟨by omega, hfk, ?_, hw.tail⟩, by omega⟩
      rw [hsn]
      refine hgk.take ?_
      simp only [Bool.or_eq_true, Bool.and_eq_true, decide_eq_true_eq] at hbb
      rcases hbb with b1 | ⟨b1, b2⟩
      · exact .inl b1
      · refine .inr ⟨b1.symm, hlt.2 ?_⟩
        rcases b2 with b2 | b2
        · exact .inl b2
        · exact .inr b2
  have hke : k = l.length := by omega
  rw [hke, List.take_of_length_le (Nat.le_refl _)] at hgk
  repeat (first | refine go_run ?_ | (refine go_newP ?_; clear hw; intro p w hw) | (refine go_newW ?_; clear hw; intro w hw) | (refine go_newS ?_; clear hw; intro s w hw))
  exact res_cell (p := pz) (vs := [.int .i64 g.var, .int .i64 g.val]) rfl rfl rfl (hw.boxR 1 rfl) ⟨g, rfl, ⟨hgm, hgk⟩, sat_none hw⟩
end Go.Proofs.YtkmbenhffledpaaGreat
