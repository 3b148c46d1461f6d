
/-
  What A*'s run returns, in plain Lean: plans along links, their costs, when the limit is reached.
-/
import Derived.Test.YtegndanecnicaaaGreatMTA
import Derived.Test.YtegndanecnicaaaGreatTIda3
set_option linter.unusedSimpArgs false
set_option linter.unusedVariables false
namespace Go.Proofs.YtegndanecnicaaaGreat
open Go.Sl
theorem nodup_sub {α : Type} [DecidableEq α] : ∀ {l m : List α}, l.Nodup → (∀ x ∈ l, x ∈ m) → l.length ≤ m.length
  | [], _, _, _ => Nat.zero_le _
  | x :: l, m, hn, hs => by
    obtain ⟨h1, h2⟩ := List.nodup_cons.1 hn
    have hx := hs x List.mem_cons_self
    have h3 : ∀ y ∈ l, y ∈ m.erase x := fun y hy => (List.mem_erase_of_ne (fun e => h1 (by rw [← e]; exact hy))).2 (hs y (List.mem_cons_of_mem _ hy))
    have h4 := nodup_sub h2 h3
    have h5 := List.length_erase_of_mem hx
    have h6 := List.length_pos_of_mem hx
    rw [List.length_cons]; omega
theorem countP_lt {α : Type} {P Q : α → Bool} : ∀ {l : List α}, (∀ x ∈ l, P x = true → Q x = true) → (∃ x ∈ l, Q x = true ∧ P x = false) → l.countP P < l.countP Q
  | [], _, h => by obtain ⟨x, hx, _⟩ := h; exact absurd hx List.not_mem_nil
  | y :: l, h1, h2 => by
    have hm : l.countP P ≤ l.countP Q := List.countP_mono_left fun x hx => h1 x (List.mem_cons_of_mem _ hx)
    rw [List.countP_cons, List.countP_cons]
    obtain ⟨x, hx, h3, h4⟩ := h2
    rcases List.mem_cons.1 hx with rfl | hx
    · rw [h3, h4, if_pos rfl, if_neg (by decide)]; omega
    · have ih := countP_lt (fun x hx => h1 x (List.mem_cons_of_mem _ hx)) ⟨x, hx, h3, h4⟩
      have hy := h1 y List.mem_cons_self
      cases hp : P y
      · rw [if_neg (by decide)]; omega
      · rw [hy hp, if_pos rfl]; omega
theorem Pth.cost {t : TTask} {p s : List Int} {c : Int} (h : Pth t p s c) : c = coL t p := by
  induction h with
  | nil => rfl
  | snoc _ _ _ ih => rw [coL_snoc, Int.toNat_natCast, ih]
theorem Pth.nn {t : TTask} (hg : GoodT t) {p s : List Int} {c : Int} (h : Pth t p s c) : 0 ≤ c := by
  induction h with
  | nil => exact Int.le_refl _
  | snoc _ ho _ ih => have := opC_rng hg ho; omega
theorem Pth.ok {t : TTask} (hg : GoodT t) {p s : List Int} {c : Int} (h : Pth t p s c) : StateOk t.vars s := by
  induction h with
  | nil => exact hg.init
  | snoc _ ho _ ih => exact succT_ok hg ih ho
section
variable {A : APar}
/-! ### Plans along links -/
def keyB (S : SA) (i j : Nat) : Bool := decide (S.gi j < S.gi i ∨ (S.gi j = S.gi i ∧ S.ti j < S.ti i))
def rkS (S : SA) (i : Nat) : Nat := (List.range S.st.length).countP (keyB S i)
theorem rk_lt {S : SA} {p i : Nat} (hp : p < S.st.length) (h : S.gi p < S.gi i ∨ (S.gi p = S.gi i ∧ S.ti p < S.ti i)) : rkS S p < rkS S i := by
  refine countP_lt (fun j _ hj => ?_) ⟨p, List.mem_range.2 hp, decide_eq_true h, decide_eq_false ?_⟩
  · have hj' := of_decide_eq_true hj
    refine decide_eq_true ?_
    omega
  · omega
theorem rk_le (S : SA) (i : Nat) : rkS S i ≤ S.st.length := by
  have h := List.countP_le_length (p := keyB S i) (l := List.range S.st.length)
  rw [List.length_range] at h; exact h
theorem link_path (hg : GoodT A.t) {S : SA} {exi : Nat → Prop} {c : Nat} (h : SInv A S exi c) : ∀ (m : Nat) {i : Nat}, i < S.st.length → rkS S i ≤ m → ∃ q k, LPath S.lk i q ∧ Pth A.t q (S.si i) k ∧ k ≤ S.gi i ∧ q.length ≤ rkS S i := by
  intro m
  induction m with
  | zero =>
    intro i hi hm
    rcases h.lnk i hi with ⟨h1, h2, h3⟩ | ⟨p, op, h1, h2, h3, h4, h5, h6, h7⟩
    · refine ⟨[], 0, .root (by show (S.li i).par < 0; omega), by rw [h2]; exact .nil, by omega, Nat.zero_le _⟩
    · have hc := opC_rng hg h3
      have := rk_lt (S := S) (p := p) (i := i) h2 (by omega)
      omega
  | succ m ih =>
    intro i hi hm
    rcases h.lnk i hi with ⟨h1, h2, h3⟩ | ⟨p, op, h1, h2, h3, h4, h5, h6, h7⟩
    · refine ⟨[], 0, .root (by show (S.li i).par < 0; omega), by rw [h2]; exact .nil, by omega, Nat.zero_le _⟩
    · have hc := opC_rng hg h3
      have hr := rk_lt (S := S) (p := p) (i := i) h2 (by omega)
      obtain ⟨q, k, k1, k2, k3, k4⟩ := ih h2 (by omega)
      have e1 : (S.lk.getD i dLnk).par = (p : Int) := by show (S.li i).par = _; rw [h1]
      have e2 : (S.lk.getD i dLnk).op = (op : Int) := by show (S.li i).op = _; rw [h1]
      refine ⟨q ++ [(op : Int)], k + opC A.t op, e2 ▸ .step e1 k1, by rw [h5]; exact .snoc k2 h3 h4, by omega, ?_⟩
      rw [List.length_append]; show q.length + 1 ≤ _; omega
theorem lpath_uniq {lk : List Lnk} {i : Nat} {q : List Int} (h : LPath lk i q) : ∀ {q' : List Int}, LPath lk i q' → q = q' := by
  induction h with
  | root h1 =>
    intro q' h'
    cases h' with
    | root _ => rfl
    | step h2 _ => omega
  | step h1 _ ih =>
    intro q' h'
    cases h' with
    | root h2 => omega
    | step h2 h3 =>
      have e := h1.symm.trans h2
      rw [Int.ofNat_inj] at e
      subst e
      rw [ih h3]
theorem SInv.parOk {S : SA} {exi : Nat → Prop} {c : Nat} (h : SInv A S exi c) : ParOk S.lk S.st.length := fun i hi => by
  have h0 : (S.lk.getD i dLnk) = S.li i := rfl
  rw [h0]
  rcases h.lnk i hi with ⟨h1, _, _⟩ | ⟨p, op, h1, h2, _⟩
  · omega
  · rw [h1]; show (p : Int) < _; omega
/-! ### The run -/
theorem reach_ex {S : SA} {s : List Int} {g : Int} {l : Lnk} : (S.reach A s g l).ex = S.ex := by
  unfold SA.reach; split
  · split <;> rfl
  · rfl
theorem expA_ex {i : Nat} {z : List Int} : ∀ (l : List Nat) {S : SA}, (expA A i z l S).ex = S.ex
  | [], _ => rfl
  | op :: l, S => (expA_ex l (S := stepA A i z S op)).trans reach_ex
/-- How a run ends, where I holds before each choice. -/
inductive FinA (A : APar) (lim : Nat) (I : SA → Prop) : AR × SA → Prop
  | none {S : SA} : I S → S.ex.length ≤ lim → nextE S.wt S.g S.q = Option.none → FinA A lim I (.none, S)
  | solved {S : SA} {x : Ent} {q : List Ent} : I S → S.ex.length ≤ lim → nextE S.wt S.g S.q = some (x, q) → HoldFs (S.si x.id.toNat) A.t.goal → FinA A lim I (.solved x.id.toNat, S.pop x q)
  | unknown {S : SA} {x : Ent} {q : List Ent} : I S → S.ex.length = lim → nextE S.wt S.g S.q = some (x, q) → ¬ HoldFs (S.si x.id.toNat) A.t.goal → FinA A lim I (.unknown, S.pop x q)
def expN (A : APar) (S : SA) (x : Ent) (q : List Ent) : SA := expA A x.id.toNat (S.si x.id.toNat) (succsL A.t (S.si x.id.toNat)) ((S.pop x q).mark x.id.toNat)
theorem expN_ex {S : SA} {x : Ent} {q : List Ent} : (expN A S x q).ex = x.id.toNat :: S.ex := expA_ex _
theorem runA_none {lim f : Nat} {S : SA} (h : nextE S.wt S.g S.q = Option.none) : runA A lim (f + 1) S = (.none, S) := by
  unfold runA; rw [h]
theorem runA_solved {lim f : Nat} {S : SA} {x : Ent} {q : List Ent} (h : nextE S.wt S.g S.q = some (x, q)) (hg : HoldFs (S.si x.id.toNat) A.t.goal) : runA A lim (f + 1) S = (.solved x.id.toNat, S.pop x q) := by
  unfold runA; rw [h]; exact if_pos hg
theorem runA_unknown {lim f : Nat} {S : SA} {x : Ent} {q : List Ent} (h : nextE S.wt S.g S.q = some (x, q)) (hg : ¬ HoldFs (S.si x.id.toNat) A.t.goal) (hl : lim ≤ S.ex.length) : runA A lim (f + 1) S = (.unknown, S.pop x q) := by
  unfold runA; rw [h]; exact (if_neg hg).trans (if_pos hl)
theorem runA_more {lim f : Nat} {S : SA} {x : Ent} {q : List Ent} (h : nextE S.wt S.g S.q = some (x, q)) (hg : ¬ HoldFs (S.si x.id.toNat) A.t.goal) (hl : ¬ lim ≤ S.ex.length) : runA A lim (f + 1) S = runA A lim f (expN A S x q) := by
  conv => lhs; unfold runA
  rw [h]; exact (if_neg hg).trans (if_neg hl)
theorem run_fin {lim : Nat} {I : SA → Prop} (hst : ∀ {S x q}, I S → nextE S.wt S.g S.q = some (x, q) → ¬ HoldFs (S.si x.id.toNat) A.t.goal → S.ex.length < lim → I (expN A S x q)) : ∀ (f : Nat) {S : SA}, I S → S.ex.length ≤ lim → f + S.ex.length = lim + 1 → FinA A lim I (runA A lim f S)
  | 0, _, _, h1, h2 => by omega
  | f + 1, S, hI, h1, h2 => by
    cases hn : nextE S.wt S.g S.q with
    | none => rw [runA_none hn]; exact .none hI h1 hn
    | some r =>
      obtain ⟨x, q⟩ := r
      by_cases hg : HoldFs (S.si x.id.toNat) A.t.goal
      · rw [runA_solved hn hg]; exact .solved hI h1 hn hg
      · by_cases hl : lim ≤ S.ex.length
        · rw [runA_unknown hn hg hl]; exact .unknown hI (by omega) hn hg
        · rw [runA_more hn hg hl]
          have he : (expN A S x q).ex.length = S.ex.length + 1 := by rw [expN_ex, List.length_cons]
          exact run_fin hst f (hst hI hn hg (by omega)) (by omega) (by omega)
/-- What holds before each choice. -/
def RInv (A : APar) (S : SA) : Prop := ∃ c, c ≤ 1 + S.ex.length * A.t.ops.length ∧ SInv A S (fun _ => False) c
theorem succs_len (t : TTask) (s : List Int) : (succsL t s).length ≤ t.ops.length := by
  have h := List.length_filter_le (fun op => decide (AppT t s op)) (List.range t.ops.length)
  rw [List.length_range] at h; exact h
theorem rinv_step (hH : HOk A.t A.H) {S : SA} {x : Ent} {q : List Ent} (h : RInv A S) (hn : nextE S.wt S.g S.q = some (x, q)) (hg : ¬ HoldFs (S.si x.id.toNat) A.t.goal) : RInv A (expN A S x q) := by
  obtain ⟨c, hc, hI⟩ := h
  have hl := succs_len A.t (S.si x.id.toNat)
  refine ⟨_, ?_, (hI.expand hH hn hg).1⟩
  rw [expN_ex, List.length_cons, Nat.succ_mul]; omega
theorem rinv_start (hH : HOk A.t A.H) : RInv A (startA A) := ⟨1, by omega, start_inv hH⟩
theorem srch_fin (hH : HOk A.t A.H) (lim : Nat) : FinA A lim (RInv A) (srchA A lim) :=
  run_fin (fun h hn hg _ => rinv_step hH h hn hg) _ (rinv_start hH) (Nat.zero_le _) rfl
/-! ### What is returned -/
def vdA : AR → Int | .solved _ => 1 | .none => 2 | .unknown => 3
def PlanR (R : AR × SA) (p : List Int) : Prop := match R.1 with | .solved i => LPath R.2.lk i p | _ => p = []
theorem planR_uniq {R : AR × SA} {p p' : List Int} (h : PlanR R p) (h' : PlanR R p') : p = p' := by
  unfold PlanR at h h'
  split at h
  · rename_i i e
    rw [e] at h'; exact lpath_uniq h h'
  · rename_i e
    split at h'
    · rename_i i e2; exact absurd e2 (e i)
    · rw [h, h']
theorem sol_ok (hg : GoodT A.t) (hH : HOk A.t A.H) {S : SA} {c : Nat} (h : SInv A S (fun _ => False) c) {x : Ent} {q : List Ent} (hn : nextE S.wt S.g S.q = some (x, q)) (hgo : HoldFs (S.si x.id.toNat) A.t.goal) :
    ∃ p, LPath S.lk x.id.toNat p ∧ p.length ≤ S.st.length ∧ Pln A.t A.t.init p (coL A.t p) ∧ coL A.t p ≤ S.gi x.id.toNat ∧ ∀ b, A.B = some b → S.gi x.id.toNat ≤ b := by
  have T := h.next hn
  obtain ⟨p, k, h1, h2, h3, h4⟩ := link_path hg h _ T.i1 (Nat.le_refl _)
  have hp := h2.plan (.goal hgo)
  rw [List.append_nil, Int.add_zero, h2.cost] at hp
  have hrk := rk_le S x.id.toNat
  refine ⟨p, h1, by omega, hp, by rw [← h2.cost]; exact h3, fun b hb => ?_⟩
  have e1 := T.ok.b b hb
  have e2 := T.ok.f
  have e3 := T.g
  have e4 := T.ok.h
  have e5 := hH.nn (S.si x.id.toNat)
  omega
theorem sol_best (hH : HOk A.t A.H) (ha : ∀ y q d, Pln A.t y q d → A.H y < inf ∧ A.H y ≤ d) {S : SA} {c : Nat} (h : SInv A S (fun _ => False) c) {x : Ent} {q : List Ent} (hn : nextE S.wt S.g S.q = some (x, q)) {p : List Int} {k : Int} (hp : Pln A.t A.t.init p k) (hb : ∀ b, A.B = some b → k ≤ b) : S.gi x.id.toNat ≤ k := by
  have T := h.next hn
  exact h.ai.best ha hH.nn T.i1 T.min hp hb
theorem none_ok (hf : ∀ y q d, Pln A.t y q d → A.H y < inf ∧ (A.B = none ∨ A.H y ≤ d)) {S : SA} {c : Nat} (h : SInv A S (fun _ => False) c) (hn : nextE S.wt S.g S.q = none) {p : List Int} {k : Int} (hp : Pln A.t A.t.init p k) : ∃ b, A.B = some b ∧ b < k :=
  h.ai.none hf (h.ended hn) hp
theorem states_le {vars : List Int} {l : List (List Int)} (hn : l.Nodup) (h : ∀ x ∈ l, StateOk vars x) : l.length ≤ (statesL vars).length :=
  nodup_sub hn fun x hx => mem_statesL.2 (h x hx)
theorem SInv.few {S : SA} {exi : Nat → Prop} {c : Nat} (h : SInv A S exi c) : S.st.length ≤ (statesL A.t.vars).length :=
  states_le h.ai.nd fun x hx => by
    obtain ⟨i, hi, e⟩ := List.getElem_of_mem hx
    have := h.ai.ok i hi
    rw [show S.as.si i = x from (getD_at hi).trans e] at this
    exact this
/-- The result of a search with an admissible estimate and the least cost of a plan. -/
theorem srch_best {lim : Nat} (hH : HOk A.t A.H) (ha : ∀ y q d, Pln A.t y q d → A.H y < inf ∧ A.H y ≤ d) {b : Int} (hb : Least A.t A.t.init b) {p : List Int} (hp : PlanR (srchA A lim) p) :
    p.length ≤ (statesL A.t.vars).length ∧ (srchA A lim).2.ex.length ≤ lim ∧
    ((∃ i, (srchA A lim).1 = .solved i ∧ Pln A.t A.t.init p b ∧ coL A.t p = b ∧ b < inf ∧ ∀ bd, A.B = some bd → b ≤ bd) ∨
     ((srchA A lim).1 = .none ∧ p = [] ∧ (b = inf ∨ ∃ bd, A.B = some bd ∧ bd < b)) ∨ ((srchA A lim).1 = .unknown ∧ p = [] ∧ (srchA A lim).2.ex.length = lim)) := by
  have hF := srch_fin hH lim
  generalize srchA A lim = R at hF hp ⊢
  cases hF with
  | none hI hl hn =>
    obtain ⟨c, _, h⟩ := hI
    have e : p = [] := hp
    subst e
    refine ⟨Nat.zero_le _, hl, .inr (.inl ⟨rfl, rfl, ?_⟩)⟩
    by_cases hlt : b < inf
    · obtain ⟨p, hp⟩ := hb.att hlt
      exact .inr (none_ok (fun y q d hq => ⟨(ha y q d hq).1, .inr (ha y q d hq).2⟩) h hn hp)
    · have := hb.le; exact .inl (by omega)
  | unknown hI hl hn hg =>
    have e : p = [] := hp
    subst e
    exact ⟨Nat.zero_le _, Nat.le_of_eq hl, .inr (.inr ⟨rfl, rfl, hl⟩)⟩
  | solved hI hl hn hgo =>
    rename_i S x q
    obtain ⟨c, _, h⟩ := hI
    obtain ⟨p', h1, h2, h3, h4, h5⟩ := sol_ok hH.good hH h hn hgo
    have e : p = p' := lpath_uniq (show LPath S.lk x.id.toNat p from hp) h1
    subst e
    obtain ⟨l1, l2⟩ := hb.low _ _ h3
    obtain ⟨pb, hpb⟩ := hb.att l2
    have h6 : S.gi x.id.toNat ≤ b := sol_best hH ha h hn hpb fun bd hbd => by
      have := h5 bd hbd; omega
    have e : coL A.t p = b := by omega
    rw [e] at h3
    exact ⟨Nat.le_trans h2 h.few, hl, .inl ⟨_, rfl, h3, e, l2, fun bd hbd => by have := h5 bd hbd; omega⟩⟩
end
end Go.Proofs.YtegndanecnicaaaGreat
