
/-
  A* with the perfect estimate, in plain Lean: the states that are expanded lie on the plan.
-/
import Derived.Test.YtegndanecnicaaaGreatTAstC
set_option linter.unusedSimpArgs false
set_option linter.unusedVariables false
namespace Go.Proofs.YtegndanecnicaaaGreat
open Go.Sl
section
variable {A : APar}
/-- Each state was reached from the one before it. -/
inductive ExCh (lk : List Lnk) : List Nat → Prop
  | nil : ExCh lk []
  | one {i : Nat} : (lk.getD i dLnk).par < 0 → ExCh lk [i]
  | cons {i j : Nat} {r : List Nat} : (lk.getD i dLnk).par = (j : Int) → ExCh lk (j :: r) → ExCh lk (i :: j :: r)
theorem exch_path {lk : List Lnk} : ∀ {r : List Nat} {i : Nat}, ExCh lk (i :: r) → ∃ q, LPath lk i q ∧ q.length = r.length
  | [], i, h => by
    cases h with
    | one h1 => exact ⟨[], .root h1, rfl⟩
  | j :: r, i, h => by
    cases h with
    | cons h1 h2 =>
      obtain ⟨q, k1, k2⟩ := exch_path h2
      exact ⟨_, .step h1 k1, by rw [List.length_append, k2]; rfl⟩
theorem ExCh.congr {lk lk' : List Lnk} {l : List Nat} (h : ExCh lk l) (he : ∀ k ∈ l, lk'.getD k dLnk = lk.getD k dLnk) : ExCh lk' l := by
  induction h with
  | nil => exact .nil
  | one h1 => exact .one (by rw [he _ List.mem_cons_self]; exact h1)
  | cons h1 _ ih => exact .cons (by rw [he _ List.mem_cons_self]; exact h1) (ih fun k hk => he k (List.mem_cons_of_mem _ hk))
/-- Of equal f the state of least h is taken. -/
theorem Taken.tie {S : SA} {c : Nat} (h : SInv A S (fun _ => False) c) {x : Ent} {q : List Ent} (hn : nextE S.wt S.g S.q = some (x, q)) {j : Nat} (hj : j < S.st.length) (hw : S.wi j = true) (hf : S.gi j + A.H (S.si j) = S.gi x.id.toNat + A.H (S.si x.id.toNat)) : A.H (S.si x.id.toNat) ≤ A.H (S.si j) := by
  obtain ⟨dr, h1, ⟨h2, h3⟩, h4⟩ := nextE_some hn
  have T := h.next hn
  obtain ⟨y, hy, e1, e2⟩ := h.qw j hj hw
  have hyo := h.qe y hy
  rw [h1] at hy
  have f1 := T.ok.f
  have f2 := T.ok.h
  have f3 := hyo.f
  have f4 := hyo.h
  have ej : y.id.toNat = j := by omega
  rw [ej] at f4
  have h3' : S.gi x.id.toNat = x.g := h3
  rcases List.mem_append.1 hy with hy | hy
  · exact absurd (by rw [e1, Int.toNat_natCast]; exact ⟨hw, e2.symm⟩) (h4 y hy)
  · rcases List.mem_cons.1 hy with e | hy
    · rw [e] at e1
      have : x.id.toNat = j := by omega
      rw [this]; exact Int.le_refl _
    · have he := elt_iff.1 (T.lst y hy)
      omega
structure PInv (A : APar) (b : Int) (S : SA) : Prop where
  ch : ExCh S.lk S.ex
  key : ∀ j, j < S.st.length → S.wi j = true → S.gi j + A.H (S.si j) = b → (S.ex = [] → (S.li j).par < 0) ∧ ∀ i r, S.ex = i :: r → A.H (S.si i) ≤ A.H (S.si j) ∨ (S.li j).par = (i : Int)
  hd : ∀ i r, S.ex = i :: r → ∀ k ∈ S.ex, A.H (S.si i) ≤ A.H (S.si k)
  nx : ∃ j, j < S.st.length ∧ S.wi j = true ∧ S.gi j + A.H (S.si j) = b ∧ ∀ i r, S.ex = i :: r → A.H (S.si j) < A.H (S.si i)
/-- The estimate is the least cost. -/
def Perf (t : TTask) (H : List Int → Int) : Prop := ∀ y, StateOk t.vars y → Least t y (H y)
theorem f_ge (hP : Perf A.t A.H) {b : Int} (hb : Least A.t A.t.init b) {S : SA} {exi : Nat → Prop} {c : Nat} (h : SInv A S exi c) {j : Nat} (hj : j < S.st.length) : b ≤ S.gi j + A.H (S.si j) := by
  have hok : StateOk A.t.vars (S.si j) := h.ai.ok j hj
  have hL := hP _ hok
  have hnn : 0 ≤ S.gi j := h.ai.nn j hj
  by_cases hlt : A.H (S.si j) < inf
  · obtain ⟨q, hq⟩ := hL.att hlt
    obtain ⟨p, k, h1, h2⟩ := h.ai.path j hj
    have h3 : Pth A.t p (S.si j) k := h1
    have h4 := (hb.low _ _ (h3.plan hq)).1
    have h5 : k ≤ S.gi j := h2
    omega
  · have := hb.le; omega
theorem perf_cons (hg : GoodT A.t) (hH : HOk A.t A.H) (hP : Perf A.t A.H) : Cons A.t A.H := fun s op hs ho ha => by
  have hc := opC_rng hg ho
  have h1 := hP _ (succT_ok hg hs ho)
  by_cases hlt : A.H (succT A.t s op) < inf
  · obtain ⟨q, hq⟩ := h1.att hlt
    exact ((hP _ hs).low _ _ (.step ho ha hq)).1
  · have := hH.le s
    omega
/-- What a step of an expansion keeps: states that wait with f = b. -/
def KeyS (A : APar) (b : Int) (i : Nat) (z : List Int) (S : SA) : Prop := ∀ j, j < S.st.length → S.wi j = true → S.gi j + A.H (S.si j) = b → A.H z ≤ A.H (S.si j) ∨ (S.li j).par = (i : Int)
theorem KeyS.step {b : Int} {i op : Nat} {z : List Int} {S : SA} {exi : Nat → Prop} {c : Nat} (h : SInv A S exi c) (hk : KeyS A b i z S) : KeyS A b i z (stepA A i (S.si i) S op) := by
  rcases step_to (i := i) (op := op) h with e | ⟨k, r, _⟩
  · rw [e]; exact hk
  · intro j hj hw hf
    by_cases e : j = k
    · subst e
      right; rw [r.l2]
    · have hS := r.oth j hj e
      rw [r.w1 j hS e] at hw
      rw [r.g1 j hS e, r.s1 j hS] at hf
      rw [r.s1 j hS, r.l1 j hS e]
      exact hk j hS hw hf
theorem KeyS.steps {b : Int} {i : Nat} {z : List Int} {exi : Nat → Prop} (hH : HOk A.t A.H) (l : List Nat) : ∀ {S : SA} {c : Nat}, SInv A S exi c → KeyS A b i z S → i < S.st.length → S.si i = z → (∀ op ∈ l, op < A.t.ops.length ∧ AppT A.t z op) → S.gi i + 1048576 ≤ (S.ex.length : Int) * 1048576 → KeyS A b i z (expA A i z l S) := by
  induction l with
  | nil => intro S c _ hk _ _ _ _; exact hk
  | cons op l ih =>
    intro S c h hk hi hz hl hex
    subst hz
    obtain ⟨ho, ha⟩ := hl op List.mem_cons_self
    obtain ⟨h1, h2, h3, _⟩ := h.step hH hi ho ha hex
    have hex' : (stepA A i (S.si i) S op).gi i + 1048576 ≤ ((stepA A i (S.si i) S op).ex.length : Int) * 1048576 := by rw [h3, h2.ex]; exact hex
    have hss : (stepA A i (S.si i) S op).si i = S.si i := h2.s i hi
    exact ih h1 (hk.step h) (Nat.lt_of_lt_of_le hi h2.n) hss (fun o ho => hl o (List.mem_cons_of_mem _ ho)) hex'
/-- The state that is taken next continues the chain. -/
theorem PInv.next (hP : Perf A.t A.H) {b : Int} (hb : Least A.t A.t.init b) {S : SA} {c : Nat} (h : SInv A S (fun _ => False) c) (hp : PInv A b S) {x : Ent} {q : List Ent} (hn : nextE S.wt S.g S.q = some (x, q)) :
    S.gi x.id.toNat + A.H (S.si x.id.toNat) = b ∧ ExCh S.lk (x.id.toNat :: S.ex) ∧ ∀ k ∈ S.ex, A.H (S.si x.id.toNat) < A.H (S.si k) := by
  have T := h.next hn
  obtain ⟨j, j1, j2, j3, j4⟩ := hp.nx
  have h1 := T.min j j1 j2
  have h2 := f_ge hP hb h T.i1
  have hf : S.gi x.id.toNat + A.H (S.si x.id.toNat) = b := by omega
  have ht := Taken.tie h hn j1 j2 (by omega)
  obtain ⟨k1, k2⟩ := hp.key _ T.i1 T.w hf
  have hlt : ∀ k ∈ S.ex, A.H (S.si x.id.toNat) < A.H (S.si k) := fun k hk => by
    cases hex : S.ex with
    | nil => rw [hex] at hk; exact absurd hk List.not_mem_nil
    | cons l r =>
      have h3 := j4 l r hex
      have h4 := hp.hd l r hex k hk
      omega
  refine ⟨hf, ?_, hlt⟩
  have hch := hp.ch
  cases hex : S.ex with
  | nil => exact .one (k1 hex)
  | cons l r =>
    rw [hex] at hch
    refine .cons ?_ hch
    have h3 := hlt l (by rw [hex]; exact List.mem_cons_self)
    rcases k2 l r hex with h4 | h4
    · omega
    · exact h4
theorem PInv.expand {M : Int} (hH : HOk A.t A.H) (hP : Perf A.t A.H) (hpos : ∀ op, op < A.t.ops.length → 0 < opC A.t op) (ha : ∀ y q d, Pln A.t y q d → A.H y < inf ∧ A.H y ≤ d) (hB : A.B = none) (hM : ∀ y, A.H y < inf → A.H y ≤ M) {b : Int} (hb : Least A.t A.t.init b) {S : SA} {c : Nat} (h : SInv A S (fun _ => False) c) (hbd : (S.ex.length : Int) * 1048576 + M < inf) (he : EInv A S) (hp : PInv A b S) {x : Ent} {q : List Ent} (hn : nextE S.wt S.g S.q = some (x, q)) (hgo : ¬ HoldFs (S.si x.id.toNat) A.t.goal) : PInv A b (expN A S x q) := by
  have hC := perf_cons hH.good hH hP
  have T := h.next hn
  obtain ⟨hf, hch, hlt⟩ := hp.next hP hb h hn
  obtain ⟨he', hK⟩ := he.expand hH hC ha hB hM h hbd hn
  obtain ⟨h', hG⟩ := h.expand hH hn hgo
  have hex : (expN A S x q).ex = x.id.toNat :: S.ex := expN_ex
  have hmem : ∀ k ∈ x.id.toNat :: S.ex, k < S.st.length := fun k hk => by
    rcases List.mem_cons.1 hk with rfl | hk
    · exact T.i1
    · exact he.lt k hk
  have hsame : ∀ k ∈ x.id.toNat :: S.ex, (expN A S x q).si k = S.si k ∧ (expN A S x q).gi k = S.gi k ∧ (expN A S x q).li k = S.li k := fun k hk => hK.st k hk (hmem k hk)
  have hzi := hsame _ List.mem_cons_self
  have hle : ∀ k ∈ x.id.toNat :: S.ex, A.H (S.si x.id.toNat) ≤ A.H (S.si k) := fun k hk => by
    rcases List.mem_cons.1 hk with rfl | hk
    · exact Int.le_refl _
    · exact Int.le_of_lt (hlt k hk)
  have hwl : S.wt.length = S.st.length := h.ai.lw
  have hkey : KeyS A b x.id.toNat (S.si x.id.toNat) (expN A S x q) := by
    obtain ⟨m1, m2⟩ := h.marked T
    refine KeyS.steps hH _ m1 (fun j hj hw hfj => ?_) T.i1 rfl (fun op hop => mem_succsL.1 hop) m2
    have hw' : (S.wt.set x.id.toNat false).getD j false = true := hw
    rw [set_at (by rw [hwl]; exact T.i1)] at hw'
    have hne : j ≠ x.id.toNat := fun e => by rw [if_pos e] at hw'; cases hw'
    rw [if_neg hne] at hw'
    have hfj' : S.gi j + A.H (S.si j) = b := hfj
    exact .inl (Taken.tie h hn hj hw' (by omega))
  refine ⟨?_, fun j hj hw hfj => ⟨fun e => (by rw [hex] at e; cases e), fun i r e => ?_⟩, fun i r e k hk => ?_, ?_⟩
  · rw [hex]
    exact hch.congr fun k hk => (hsame k hk).2.2
  · rw [hex] at e
    injection e with e1 _
    subst e1
    rw [hzi.1]
    exact hkey j hj hw hfj
  · rw [hex] at e hk
    injection e with e1 _
    subst e1
    rw [hzi.1, (hsame k hk).1]
    exact hle k hk
  · have hfin : A.H (S.si x.id.toNat) < inf := by rw [← T.ok.h]; exact T.ok.hi
    obtain ⟨pl, hpl⟩ := (hP _ (h.ai.ok _ T.i1)).att hfin
    have hpl2 : Pln A.t (S.si x.id.toNat) pl (A.H (S.si x.id.toNat)) := hpl
    clear hpl
    generalize hd : A.H (S.si x.id.toNat) = d at hpl2
    cases hpl2 with
    | goal hh => exact absurd hh hgo
    | @step _ op p' c' ho hap hq =>
      have hpc := hpos op ho
      have hHs := (ha _ _ _ hq).2
      have hHf := (ha _ _ _ hq).1
      have hw0 : (expN A S x q).wi x.id.toNat = false := he'.w _ (by rw [hex]; exact List.mem_cons_self)
      have hn1 : x.id.toNat < (expN A S x q).st.length := he'.lt _ (by rw [hex]; exact List.mem_cons_self)
      rcases h'.ai.done _ hn1 hw0 id with hcut | ⟨_, hdn⟩
      · rcases hcut with hcut | ⟨b', hb', _⟩
        · have h5 : inf ≤ A.H ((expN A S x q).si x.id.toNat) := hcut
          rw [hzi.1] at h5; omega
        · rw [hB] at hb'; cases hb'
      · have hss : (expN A S x q).as.si x.id.toNat = S.si x.id.toNat := hzi.1
        rw [show (expA A x.id.toNat (S.si x.id.toNat) (succsL A.t (S.si x.id.toNat)) ((S.pop x q).mark x.id.toNat)).as.si x.id.toNat = S.si x.id.toNat from hss] at hdn
        obtain ⟨j, j1, j2, j3⟩ := hdn op ho hap
        have j1' : j < (expN A S x q).st.length := j1
        have j2' : (expN A S x q).si j = succT A.t (S.si x.id.toNat) op := j2
        have j3' : (expN A S x q).gi j ≤ (expN A S x q).gi x.id.toNat + opC A.t op := j3
        rw [hzi.2.1] at j3'
        have hge := f_ge hP hb h' j1
        have hge' : b ≤ (expN A S x q).gi j + A.H ((expN A S x q).si j) := hge
        rw [j2'] at hge'
        have hwj : (expN A S x q).wi j = true := by
          cases hw : (expN A S x q).wi j
          · rcases he'.d j j1' hw with h6 | h6
            · rw [hex] at h6
              have h7 := hle j h6
              rw [← (hsame j h6).1, j2'] at h7
              omega
            · rw [j2'] at h6; omega
          · rfl
        refine ⟨j, j1', hwj, by rw [j2']; omega, fun i r e => ?_⟩
        rw [hex] at e
        injection e with e1 _
        subst e1
        rw [j2', hzi.1]; omega
theorem pinv_start (hH : HOk A.t A.H) (hB : A.B = none) {b : Int} (hHb : A.H A.t.init = b) (hlt : b < inf) : PInv A b (startA A) := by
  have hex : (startA A).ex = [] := rfl
  have hc : cutA A A.t.init 0 = false := by
    unfold cutA
    rw [hB, decide_eq_false (show ¬ A.H A.t.init = inf by omega)]; rfl
  refine ⟨.nil, fun j hj _ _ => ⟨fun _ => ?_, fun i r e => by rw [hex] at e; cases e⟩, fun i r e => (by rw [hex] at e; cases e), 0, Nat.zero_lt_one, ?_, ?_, fun i r e => by rw [hex] at e; cases e⟩
  · obtain rfl : j = 0 := by have h2 : j < 1 := hj; omega
    show (-1 : Int) < 0
    decide
  · show (!cutA A A.t.init 0) = true
    rw [hc]; rfl
  · show 0 + A.H A.t.init = b
    omega
def DInvA (A : APar) (b : Int) (S : SA) : Prop := CInv A S ∧ PInv A b S
theorem srch_perf {lim : Nat} {M : Int} (hH : HOk A.t A.H) (hP : Perf A.t A.H) (hpos : ∀ op, op < A.t.ops.length → 0 < opC A.t op) (ha : ∀ y q d, Pln A.t y q d → A.H y < inf ∧ A.H y ≤ d) (hB : A.B = none) (hM : ∀ y, A.H y < inf → A.H y ≤ M) (hb : (lim : Int) * 1048576 + M < inf) (hlim : (statesL A.t.vars).length < lim) (hlt : A.H A.t.init < inf) :
    ∃ i p, (srchA A lim).1 = .solved i ∧ LPath (srchA A lim).2.lk i p ∧ p.length = (srchA A lim).2.ex.length := by
  have hL := hP _ hH.good.init
  have hF : FinA A lim (DInvA A (A.H A.t.init)) (srchA A lim) := run_fin (fun {S x q} h hn hg hl => by
    obtain ⟨⟨⟨c, hc, hI⟩, he⟩, hp⟩ := h
    have hbd : (S.ex.length : Int) * 1048576 + M < inf := by
      have : (S.ex.length : Int) * 1048576 ≤ (lim : Int) * 1048576 := by omega
      omega
    exact ⟨⟨rinv_step hH ⟨c, hc, hI⟩ hn hg, (he.expand hH (perf_cons hH.good hH hP) ha hB hM hI hbd hn).1⟩, hp.expand hH hP hpos ha hB hM hL hI hbd he hn hg⟩) _ ⟨⟨rinv_start hH, einv_start hH hB⟩, pinv_start hH hB rfl hlt⟩ (Nat.zero_le _) rfl
  generalize srchA A lim = R at hF ⊢
  cases hF with
  | none hI hl hn =>
    obtain ⟨⟨⟨c, _, h⟩, he⟩, hp⟩ := hI
    obtain ⟨j, j1, j2, _⟩ := hp.nx
    have := h.ended hn j j1
    rw [j2] at this; cases this
  | unknown hI hl hn hg =>
    obtain ⟨⟨⟨c, _, h⟩, he⟩, hp⟩ := hI
    have := he.few h
    omega
  | solved hI hl hn hgo =>
    obtain ⟨⟨⟨c, _, h⟩, he⟩, hp⟩ := hI
    obtain ⟨_, h2, _⟩ := hp.next hP hL h hn
    obtain ⟨p, k1, k2⟩ := exch_path h2
    exact ⟨_, p, rfl, k1, k2⟩
/-- A dead initial state: nothing is expanded. -/
theorem srch_dead {lim : Nat} (hinf : A.H A.t.init = inf) : srchA A lim = (.none, startA A) := by
  have hc : cutA A A.t.init 0 = true := by unfold cutA; rw [decide_eq_true hinf]; rfl
  have hq : (startA A).q = [] := by
    show enqA A SA.zero 0 A.t.init 0 = []
    unfold enqA; rw [if_pos hc]; rfl
  exact runA_none (by rw [hq]; rfl)
end
end Go.Proofs.YtegndanecnicaaaGreat
