
/-
  Contract of A*'s 'search.next'.
-/
import Derived.Test.YtegndanecnicaaaGreatWAHeap
set_option linter.unusedSimpArgs false
set_option linter.unusedVariables false
namespace Go.Proofs.YtegndanecnicaaaGreat
open Go.Sl Go
theorem pop_head {xs ys q : List Ent} {v : Ent} (hp : xs.Perm q) (hs : SortE q) (hv : xs.Perm (v :: ys)) (hm : ∀ x ∈ xs, hle elt v x) : ∃ q', q = v :: q' ∧ ys.Perm q' := by
  have h1 := hp.symm.trans hv
  cases q with
  | nil => exact absurd h1.length_eq (by simp)
  | cons y q' =>
    have hy : y ∈ xs := hp.mem_iff.2 List.mem_cons_self
    have e : v = y := by
      have hvq : v ∈ y :: q' := h1.mem_iff.2 List.mem_cons_self
      rcases List.mem_cons.1 hvq with e | e
      · exact e
      · have h2 : elt y v = true := (List.pairwise_cons.1 hs).1 v e
        have h3 : elt y v = false := hm y hy
        rw [h2] at h3; cases h3
    subst e
    exact ⟨q', rfl, (List.Perm.cons_inv h1).symm⟩
theorem nextE_cons (wt : List Bool) (g : List Int) (x : Ent) (q : List Ent) : nextE wt g (x :: q) = if wt.getD x.id.toNat false = true ∧ g.getD x.id.toNat tInt.dflt = x.g then some (x, q) else nextE wt g q := rfl
section
variable {c0 c1 c2 c3 c4 c5 c6 c8 c11 c12 c13 c14 : Value}
set_option maxRecDepth 8000 in
set_option maxHeartbeats 4000000 in
theorem anext_spec {w0 w : World} {Γ : List HP} {q : Addr} {h gv wv : Value} {xs q0 : List Ent} {gl : List Int} {wl : List Bool} (H : IsHeap tEnt.dflt elt xs) (hb : xs.length ≤ 1099511627776) (hp : xs.Perm q0) (hs : SortE q0) (hlen : wl.length = gl.length) (hid : ∀ x ∈ q0, 0 ≤ x.id ∧ x.id.toNat < gl.length)
    (hw : Sat w0 w (OS tEnt 164 h xs :: Box q 82 [c0, c1, c2, c3, c4, c5, c6, gv, c8, wv, h, c11, c12, c13, c14] :: OS tInt 3 gv gl :: OS tBool 4 wv wl :: Γ)) :
    Calls Tryz.prog 64 #[.pointer (some q)] w fun e w' => ∃ h', (nextE wl gl q0 = none ∧ e = .returned (.tuple #[.int .i64 0, .bool false]) ∧ Sat w0 w' (OS tEnt 164 h' ([] : List Ent) :: Box q 82 [c0, c1, c2, c3, c4, c5, c6, gv, c8, wv, h', c11, c12, c13, c14] :: OS tInt 3 gv gl :: OS tBool 4 wv wl :: Γ)) ∨
      (∃ x q1 ys, nextE wl gl q0 = some (x, q1) ∧ e = .returned (.tuple #[.int .i64 x.id, .bool true]) ∧ IsHeap tEnt.dflt elt ys ∧ ys.Perm q1 ∧ Sat w0 w' (OS tEnt 164 h' ys :: Box q 82 [c0, c1, c2, c3, c4, c5, c6, gv, c8, wv, h', c11, c12, c13, c14] :: OS tInt 3 gv gl :: OS tBool 4 wv (wl.set x.id.toNat false) :: Γ)) := by
  refine calls_of_vc (args := [.pointer (some q)]) mixed Tryz.func64 rfl (by kernel_rfl) (Nat.le_of_ble_eq_true rfl) ?_
  repeat (first | refine go_run ?_ | (refine go_newP ?_; clear hw; intro p w hw) | (refine go_newW ?_; clear hw; intro w hw) | (refine go_newS ?_; clear hw; intro s w hw))
  refine vc_loop2 [2, 3, 4, 5, 6, 7, 8, 9, 10, 11, 12, 13, 14, 15, 16, 17, 18, 19, 20, 21, 22, 23, 24, 25, 26, 27, 28, 29, 30, 31, 32, 33, 34, 35, 36, 37, 38, 39, 40, 41, 42, 43, 44, 45, 46] (G := Value) (H := List Ent) (fun _ _ => []) (fun h qs w => ∃ xs, IsHeap tEnt.dflt elt xs ∧ xs.Perm qs ∧ SortE qs ∧ qs.length ≤ q0.length ∧ (∀ x ∈ qs, x ∈ q0) ∧ nextE wl gl qs = nextE wl gl q0 ∧ Sat w0 w (OS tEnt 164 h xs :: Box q 82 [c0, c1, c2, c3, c4, c5, c6, gv, c8, wv, h, c11, c12, c13, c14] :: OS tInt 3 gv gl :: OS tBool 4 wv wl :: Γ)) (fun _ qs => qs.length) h q0 (fun _ _ => rfl) trivial ⟨xs, H, hp, hs, Nat.le_refl _, fun _ hx => hx, rfl, hw⟩ ?_
  have hql0 := hp.length_eq
  clear hw H hs hp
  rintro σ h qs w ⟨xs, H, hp, hs, hqn, hin, hne, hw⟩
  have hpl := hp.length_eq
  repeat (first | refine go_run ?_ | (refine go_newP ?_; clear hw; intro p w hw) | (refine go_newWr ?_; clear hw; intro w hw) | (refine go_newS ?_; clear hw; intro s w hw))
  refine go_if (fun h1 => ?_) (fun h1 => ?_)
  · repeat (first | refine go_run ?_ | (refine go_newP ?_; clear hw; intro p w hw) | (refine go_newWr ?_; clear hw; intro w hw) | (refine go_newS ?_; clear hw; intro s w hw))
    refine st_call rfl (axheapPop_spec H (by omega) (by omega) hw) ?_
    clear hw
    rintro _ w ⟨x, h', ys, rfl, hys, hpx, hmin, hw⟩
    obtain ⟨q', rfl, hpq⟩ := pop_head hp hs hpx hmin
    obtain ⟨x0, x1⟩ := hid x (hin x List.mem_cons_self)
    have x2 : x.id.toNat < wl.length := by omega
    rw [nextE_cons] at hne
    refine ⟨_, rfl, ?_⟩
    repeat (first | refine go_run ?_ | (refine go_newP ?_; clear hw; intro p w hw) | (refine go_newWr ?_; clear hw; intro w hw) | (refine go_newS ?_; clear hw; intro s w hw))
    refine go_draw ?_
    clear hw
    intro w hw
    repeat (first | refine go_run ?_ | (refine go_newP ?_; clear hw; intro p w hw) | (refine go_newW ?_; clear hw; intro w hw) | (refine go_newS ?_; clear hw; intro s w hw))
    by_cases hc : wl.getD x.id.toNat false = true ∧ gl.getD x.id.toNat tInt.dflt = x.g
    · have hB : (wl.getD x.id.toNat tBool.dflt && decide (gl.getD x.id.toNat tInt.dflt = x.g)) = true := by
        rw [show wl.getD x.id.toNat tBool.dflt = true from hc.1, decide_eq_true hc.2]; rfl
      rw [if_pos hc] at hne
      simp only [hB]
      repeat (first | refine go_run ?_ | (refine go_newP ?_; clear hw; intro p w hw) | (refine go_newWr ?_; clear hw; intro w hw) | (refine go_newS ?_; clear hw; intro s w hw))
      refine go_draw ?_
      clear hw
      intro w hw
      repeat (first | refine go_run ?_ | (refine go_newP ?_; clear hw; intro p w hw) | (refine go_newWr ?_; clear hw; intro w hw) | (refine go_newS ?_; clear hw; intro s w hw))
      exact res_two (v := .int .i64 x.id) (v' := .bool true) rfl rfl rfl ⟨h', .inr ⟨x, q', ys, hne.symm, rfl, hys, hpq, hw.tail⟩⟩
    · have hB : (wl.getD x.id.toNat tBool.dflt && decide (gl.getD x.id.toNat tInt.dflt = x.g)) = false :=
        Bool.eq_false_iff.2 fun e => hc ⟨(Bool.and_eq_true_iff.1 e).1, of_decide_eq_true (Bool.and_eq_true_iff.1 e).2⟩
      rw [if_neg hc] at hne
      simp only [hB]
      repeat (first | refine go_run ?_ | (refine go_newP ?_; clear hw; intro p w hw) | (refine go_newW ?_; clear hw; intro w hw) | (refine go_newS ?_; clear hw; intro s w hw))
      exact ⟨h', q', trivial, by repeat (first | exact agree_refl | (apply agree_upd rfl) | (apply agree_mix rfl) | (apply agree_sets rfl)), ⟨ys, hys, hpq, (List.pairwise_cons.1 hs).2, by rw [List.length_cons] at hqn; omega, fun y hy => hin y (List.mem_cons_of_mem _ hy), hne, hw.tail⟩, by simp⟩
  · have hq0 : qs = [] := List.eq_nil_of_length_eq_zero (by omega)
    have hx0 : xs = [] := List.eq_nil_of_length_eq_zero (by omega)
    subst hq0 hx0
    repeat (first | refine go_run ?_ | (refine go_newP ?_; clear hw; intro p w hw) | (refine go_newW ?_; clear hw; intro w hw) | (refine go_newS ?_; clear hw; intro s w hw))
    exact res_two (v := .int .i64 0) (v' := .bool false) rfl rfl rfl ⟨h, .inl ⟨hne.symm, rfl, hw⟩⟩
end
end Go.Proofs.YtegndanecnicaaaGreat
