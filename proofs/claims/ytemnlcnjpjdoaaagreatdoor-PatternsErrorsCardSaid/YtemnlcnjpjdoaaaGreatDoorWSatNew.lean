
/-
  Contract of 'saturate.New'.
-/
import Derived.Test.YtemnlcnjpjdoaaaGreatDoorWSatur
set_option linter.unusedSimpArgs false
set_option linter.unusedVariables false
namespace Go.Proofs.YtemnlcnjpjdoaaaGreatDoor
open Go.Sl Go
attribute [local irreducible] vc opsW opsD opV opW PureV ReadV Thn Blk
/-- The databases, the parts and the whole are read. -/
def DbF (t : TTask) (Ls : List (List Int)) (qs : List Value) (Ds : List (List Int)) (w : World) : Prop := qs.length = Ds.length ∧ ∀ i, i < Ds.length → ∃ q, vget qs i = .pointer (some q) ∧ RDb w q (dbI t (Ls.getD i []) (Ds.getD i []))
def PaF (ps : List Value) (Ps : List (List Int)) (w : World) : Prop := ps.length = Ps.length ∧ ∀ i, i < Ps.length → RS tInt w (vget ps i) (Ps.getD i [])
def RPt (w : World) (p : Addr) (t : TTask) (Ls Ds Ps : List (List Int)) : Prop := ∃ vv dv pv qs ps, BoxR w p [vv, dv, pv] ∧ RS tInt w vv t.vars ∧ RS tVal w dv qs ∧ DbF t Ls qs Ds w ∧ RS tVal w pv ps ∧ PaF ps Ps w
theorem DbF.at {w0 w : World} {Γ : List HP} {t : TTask} {Ls : List (List Int)} {qs : List Value} {Ds : List (List Int)} (h : DbF t Ls qs Ds w0) (hw : Sat w0 w Γ) : DbF t Ls qs Ds w := ⟨h.1, fun i hi => let ⟨q, a, b⟩ := h.2 i hi; ⟨q, a, b.at hw⟩⟩
theorem PaF.at {w0 w : World} {Γ : List HP} {ps : List Value} {Ps : List (List Int)} (h : PaF ps Ps w0) (hw : Sat w0 w Γ) : PaF ps Ps w := ⟨h.1, fun i hi => (h.2 i hi).at hw⟩
theorem RPt.at {w0 w : World} {Γ : List HP} {p : Addr} {t : TTask} {Ls Ds Ps : List (List Int)} (h : RPt w0 p t Ls Ds Ps) (hw : Sat w0 w Γ) : RPt w p t Ls Ds Ps := by
  obtain ⟨vv, dv, pv, qs, ps, h1, h2, h3, h4, h5, h6⟩ := h
  exact ⟨vv, dv, pv, qs, ps, h1.at hw, h2.at hw, h3.at hw, h4.at hw, h5.at hw, h6.at hw⟩
theorem vget_app_l {ss : List Value} {v : Value} {i : Nat} (h : i < ss.length) : vget (ss ++ [v]) i = vget ss i := by simp [vget_eq, List.getD_eq_getElem?_getD, List.getElem?_append_left h]
theorem vget_app_at {ss : List Value} {v : Value} {i : Nat} (h : i = ss.length) : vget (ss ++ [v]) i = v := by subst h; simp [vget_eq, List.getD_eq_getElem?_getD]
theorem DbF.snoc {t : TTask} {Ls : List (List Int)} {qs : List Value} {Ds : List (List Int)} {w : World} {q : Addr} {D : List Int} (h : DbF t Ls qs Ds w) (hq : RDb w q (dbI t (Ls.getD Ds.length []) D)) : DbF t Ls (qs ++ [.pointer (some q)]) (Ds ++ [D]) w := by
  have h1 := h.1
  refine ⟨by simp [h1], fun i hi => ?_⟩
  simp only [List.length_append, List.length_cons, List.length_nil] at hi
  by_cases e : i < Ds.length
  · rw [vget_app_l (by omega), getD_app_l e]; exact h.2 i e
  · have e2 : i = Ds.length := by omega
    rw [vget_app_at (by omega), getD_app_at e2, e2]
    exact ⟨q, rfl, hq⟩
theorem PaF.snoc {ps : List Value} {Ps : List (List Int)} {w : World} {s : Value} {S : List Int} (h : PaF ps Ps w) (hs : RS tInt w s S) : PaF (ps ++ [s]) (Ps ++ [S]) w := by
  have h1 := h.1
  refine ⟨by simp [h1], fun i hi => ?_⟩
  simp only [List.length_append, List.length_cons, List.length_nil] at hi
  by_cases e : i < Ps.length
  · rw [vget_app_l (by omega), getD_app_l e]; exact h.2 i e
  · have e2 : i = Ps.length := by omega
    rw [vget_app_at (by omega), getD_app_at e2]
    exact hs
theorem CostOk.berr {t : TTask} {c L : List Int} (h : CostOk t c) (hg : GoodT t) (hp : pErr t L = 0) : bErr t L c = 0 := by
  unfold bErr
  rw [if_neg (by rw [(good_iff t).2 hg]; decide), if_neg (by have := h.len; omega), if_neg (fun ⟨x, hx, hb⟩ => by have := h.rng x hx; unfold BadC at hb; omega), hp]

end Go.Proofs.YtemnlcnjpjdoaaaGreatDoor
