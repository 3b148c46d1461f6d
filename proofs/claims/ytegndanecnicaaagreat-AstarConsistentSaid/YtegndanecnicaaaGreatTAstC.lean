
/-
  A* with a consistent estimate, in plain Lean: no state is expanded twice, each with its least cost; which states are expanded.
-/
import Derived.Test.YtegndanecnicaaaGreatTAstR
set_option linter.unusedSimpArgs false
set_option linter.unusedVariables false
namespace Go.Proofs.YtegndanecnicaaaGreat
open Go.Sl
section
variable {A : APar}
/-- A consistent estimate. -/
def Cons (t : TTask) (H : List Int → Int) : Prop := ∀ s op, StateOk t.vars s → op < t.ops.length → AppT t s op → H s ≤ opC t op + H (succT t s op)
/-- Along a path: a state that waits, or the last state, or all is dead. -/
theorem front2 {t : TTask} {H : List Int → Int} {S : AS} (hg : GoodT t) (hC : Cons t H) (h : AInv t H none S fun _ => False) {p s : List Int} {c : Int} (hp : Pth t p s c) :
    (∃ j, j < S.st.length ∧ S.wi j = true ∧ S.gi j + H (S.si j) ≤ c + H s) ∨ (∃ j, j < S.st.length ∧ S.si j = s ∧ S.gi j ≤ c) ∨ inf ≤ c + H s := by
  induction hp with
  | nil =>
    obtain ⟨i, hi, h1, h2⟩ := h.init
    exact .inr (.inl ⟨i, hi, h1, h2⟩)
  | @snoc p s c op hp ho ha ih =>
    have hso := hp.ok hg
    have hc := hC s op hso ho ha
    have hnn := hp.nn hg
    rcases ih with ⟨j, h1, h2, h3⟩ | ⟨j, h1, h2, h3⟩ | h1
    · exact .inl ⟨j, h1, h2, by omega⟩
    · cases hw : S.wi j
      · rcases h.done j h1 hw id with hcut | ⟨_, hd⟩
        · rcases hcut with hcut | ⟨b, hb, _⟩
          · rw [h2] at hcut; exact .inr (.inr (by omega))
          · cases hb
        · rw [h2] at hd
          obtain ⟨k, k1, k2, k3⟩ := hd op ho ha
          exact .inr (.inl ⟨k, k1, k2, by omega⟩)
      · exact .inl ⟨j, h1, hw, by rw [h2]; omega⟩
    · exact .inr (.inr (by omega))
/-- What holds of the states that were expanded. -/
structure EInv (A : APar) (S : SA) : Prop where
  nd : S.ex.Nodup
  lt : ∀ k ∈ S.ex, k < S.st.length
  w : ∀ k ∈ S.ex, S.wi k = false
  opt : ∀ k ∈ S.ex, ∀ p c, Pth A.t p (S.si k) c → S.gi k ≤ c
  fin : ∀ k ∈ S.ex, A.H (S.si k) < inf
  low : ∀ k ∈ S.ex, ∀ p c, Pln A.t A.t.init p c → S.gi k + A.H (S.si k) ≤ c
  d : ∀ k, k < S.st.length → S.wi k = false → k ∈ S.ex ∨ inf ≤ A.H (S.si k)
/-- What a step leaves alone. -/
structure Keeps (S S' : SA) : Prop where
  st : ∀ k ∈ S.ex, k < S.st.length → S'.si k = S.si k ∧ S'.gi k = S.gi k ∧ S'.li k = S.li k
  ex : S'.ex = S.ex
  n : S.st.length ≤ S'.st.length
theorem RchTo.einv {S S' : SA} {i : Nat} {s : List Int} {g : Int} {l : Lnk} (r : RchTo A S S' i s g l) (hB : A.B = none) (he : EInv A S) (hi : i ∉ S.ex) : EInv A S' ∧ Keeps S S' := by
  have hne : ∀ k ∈ S.ex, k ≠ i := fun k hk e => hi (e ▸ hk)
  refine ⟨⟨by rw [r.ex]; exact he.nd, fun k hk => ?_, fun k hk => ?_, fun k hk => ?_, fun k hk => ?_, fun k hk => ?_, fun k hk hw => ?_⟩, fun k hk hl => ⟨r.s1 k hl, r.g1 k hl (hne k hk), r.l1 k hl (hne k hk)⟩, r.ex, r.n1⟩
  · rw [r.ex] at hk; exact Nat.lt_of_lt_of_le (he.lt k hk) r.n1
  · rw [r.ex] at hk; rw [r.w1 k (he.lt k hk) (hne k hk)]; exact he.w k hk
  · rw [r.ex] at hk; rw [r.s1 k (he.lt k hk), r.g1 k (he.lt k hk) (hne k hk)]; exact he.opt k hk
  · rw [r.ex] at hk; rw [r.s1 k (he.lt k hk)]; exact he.fin k hk
  · rw [r.ex] at hk; rw [r.s1 k (he.lt k hk), r.g1 k (he.lt k hk) (hne k hk)]; exact he.low k hk
  · by_cases e : k = i
    · subst e
      rw [r.w2] at hw
      have hc : cutA A s g = true := by simpa using hw
      unfold cutA at hc
      rw [hB] at hc
      right
      rw [r.s2]
      have h2 : decide (A.H s = inf) = true := by simpa using hc
      have := of_decide_eq_true h2
      omega
    · have hS := r.oth k hk e
      rw [r.w1 k hS e] at hw
      rw [r.ex, r.s1 k hS]
      exact he.d k hS hw
theorem Keeps.refl (S : SA) : Keeps S S := ⟨fun _ _ _ => ⟨rfl, rfl, rfl⟩, rfl, Nat.le_refl _⟩
theorem Keeps.trans {S T U : SA} (h : Keeps S T) (k : Keeps T U) : Keeps S U :=
  ⟨fun i hi hl => by
    obtain ⟨a1, a2, a3⟩ := h.st i hi hl
    obtain ⟨b1, b2, b3⟩ := k.st i (by rw [h.ex]; exact hi) (Nat.lt_of_lt_of_le hl h.n)
    exact ⟨b1.trans a1, b2.trans a2, b3.trans a3⟩, k.ex.trans h.ex, Nat.le_trans h.n k.n⟩
/-- The forms of a step. -/
theorem step_to {S : SA} {exi : Nat → Prop} {c i op : Nat} (h : SInv A S exi c) : stepA A i (S.si i) S op = S ∨ ∃ k, RchTo A S (stepA A i (S.si i) S op) k (succT A.t (S.si i) op) (S.gi i + opC A.t op) ⟨i, op, opC A.t op⟩ ∧ (k < S.st.length → S.si k = succT A.t (S.si i) op) := by
  unfold stepA SA.reach
  split
  · rename_i hm
    obtain ⟨hk, hke⟩ := idx_at hm
    split
    · exact .inl rfl
    · rename_i hlt
      have r := low_to (A := A) (l := ⟨i, op, opC A.t op⟩) hk (Int.not_le.1 hlt) h.ai.lg h.ai.lw h.ll h.lt
      have hke2 : S.si (S.st.idxOf (succT A.t (S.si i) op)) = succT A.t (S.si i) op := hke
      rw [hke2] at r
      exact .inr ⟨_, r, fun _ => hke2⟩
  · have r := new_to (A := A) (s := succT A.t (S.si i) op) (g := S.gi i + opC A.t op) (l := ⟨i, op, opC A.t op⟩) h.ai.lg h.ai.lw h.ll h.lt
    exact .inr ⟨_, r, fun hh => absurd hh (Nat.lt_irrefl _)⟩
theorem EInv.step {S : SA} {exi : Nat → Prop} {c i op : Nat} (hB : A.B = none) (h : SInv A S exi c) (he : EInv A S) (hi : i < S.st.length) (ho : op < A.t.ops.length) (ha : AppT A.t (S.si i) op) :
    EInv A (stepA A i (S.si i) S op) ∧ Keeps S (stepA A i (S.si i) S op) := by
  rcases step_to (i := i) (op := op) h with e | ⟨k, r, hks⟩
  · rw [e]; exact ⟨he, .refl S⟩
  · refine r.einv hB he fun hk => ?_
    have hkl := he.lt k hk
    have h3 := r.g3 hkl
    obtain ⟨p, c0, h1, h2⟩ := h.ai.path i hi
    have h4 := he.opt k hk _ _ (by rw [hks hkl]; exact h1.snoc ho ha)
    have h5 : c0 ≤ S.gi i := h2
    omega
theorem EInv.steps {exi : Nat → Prop} {i : Nat} {z : List Int} (hH : HOk A.t A.H) (hB : A.B = none) (l : List Nat) : ∀ {S : SA} {c : Nat}, SInv A S exi c → EInv A S → i < S.st.length → S.si i = z → (∀ op ∈ l, op < A.t.ops.length ∧ AppT A.t z op) → S.gi i + 1048576 ≤ (S.ex.length : Int) * 1048576 →
    EInv A (expA A i z l S) ∧ Keeps S (expA A i z l S) := by
  induction l with
  | nil => intro S c _ he _ _ _ _; exact ⟨he, .refl S⟩
  | cons op l ih =>
    intro S c h he hi hz hl hex
    subst hz
    obtain ⟨ho, ha⟩ := hl op List.mem_cons_self
    obtain ⟨h1, h2, h3, _⟩ := h.step hH hi ho ha hex
    obtain ⟨k1, k2⟩ := he.step hB h hi ho ha
    have hex' : (stepA A i (S.si i) S op).gi i + 1048576 ≤ ((stepA A i (S.si i) S op).ex.length : Int) * 1048576 := by rw [h3, h2.ex]; exact hex
    obtain ⟨m1, m2⟩ := ih h1 k1 (Nat.lt_of_lt_of_le hi h2.n) (h2.s i hi) (fun o ho => hl o (List.mem_cons_of_mem _ ho)) hex'
    exact ⟨m1, k2.trans m2⟩
/-- A state is taken: its cost is least. -/
theorem Taken.opt {S : SA} {c : Nat} {M : Int} (hg : GoodT A.t) (hC : Cons A.t A.H) (hB : A.B = none) (hM : ∀ y, A.H y < inf → A.H y ≤ M) (h : SInv A S (fun _ => False) c) (hb : (S.ex.length : Int) * 1048576 + M < inf) {x : Ent} {q : List Ent} (T : Taken A S x q) {p : List Int} {k : Int} (hp : Pth A.t p (S.si x.id.toNat) k) : S.gi x.id.toNat ≤ k := by
  have hai := h.ai
  rw [hB] at hai
  have hfin : A.H (S.si x.id.toNat) < inf := by rw [← T.ok.h]; exact T.ok.hi
  have hm := hM _ hfin
  have hgb := h.gb _ T.i1
  rcases front2 hg hC hai hp with ⟨j, h1, h2, h3⟩ | ⟨j, h1, h2, h3⟩ | h1
  · have h4 := T.min j h1 h2
    have h5 : S.gi j + A.H (S.si j) ≤ k + A.H (S.si x.id.toNat) := h3
    omega
  · have e := nodup_at h.ai.nd h1 T.i1 h2
    subst e; exact h3
  · refine Classical.byContradiction fun hn => ?_
    omega
theorem Taken.flow {S : SA} {c : Nat} (ha : ∀ y q d, Pln A.t y q d → A.H y < inf ∧ A.H y ≤ d) (hB : A.B = none) (h : SInv A S (fun _ => False) c) {x : Ent} {q : List Ent} (T : Taken A S x q) {p : List Int} {k : Int} (hp : Pln A.t A.t.init p k) : S.gi x.id.toNat + A.H (S.si x.id.toNat) ≤ k := by
  obtain ⟨i, hi, h1, h2⟩ := h.ai.init
  rcases front h.ai (fun y q d hq => ⟨(ha y q d hq).1, .inl hB⟩) hp i hi h1 with ⟨j, j1, j2, q', d', j3, j4⟩ | ⟨b, hb, _⟩
  · have h3 := T.min j j1 j2
    have h4 := (ha _ _ _ j3).2
    have h5 : S.gi j + d' ≤ S.gi i + k := j4
    have h6 : S.gi i ≤ 0 := h2
    have h7 : A.H (S.si j) ≤ d' := h4
    omega
  · rw [hB] at hb; cases hb
/-- After a state is taken and marked. -/
theorem EInv.taken {S : SA} {c : Nat} {M : Int} (hg : GoodT A.t) (hC : Cons A.t A.H) (ha : ∀ y q d, Pln A.t y q d → A.H y < inf ∧ A.H y ≤ d) (hB : A.B = none) (hM : ∀ y, A.H y < inf → A.H y ≤ M) (h : SInv A S (fun _ => False) c) (hb : (S.ex.length : Int) * 1048576 + M < inf) (he : EInv A S) {x : Ent} {q : List Ent} (T : Taken A S x q) :
    EInv A ((S.pop x q).mark x.id.toNat) := by
  have hwl : S.wt.length = S.st.length := h.ai.lw
  have hni : x.id.toNat ∉ S.ex := fun hh => by have h1 := he.w _ hh; rw [T.w] at h1; cases h1
  have hwi : ∀ k, ((S.pop x q).mark x.id.toNat).wi k = if k = x.id.toNat then false else S.wi k := fun k => by
    have hh : ((S.pop x q).mark x.id.toNat).wi k = (S.wt.set x.id.toNat false).getD k false := rfl
    rw [hh, set_at (by rw [hwl]; exact T.i1)]; rfl
  refine ⟨List.nodup_cons.2 ⟨hni, he.nd⟩, fun k hk => ?_, fun k hk => ?_, fun k hk => ?_, fun k hk => ?_, fun k hk => ?_, fun k hk hw => ?_⟩
  · rcases List.mem_cons.1 hk with rfl | hk
    · exact T.i1
    · exact he.lt k hk
  · rw [hwi]
    rcases List.mem_cons.1 hk with rfl | hk
    · rw [if_pos rfl]
    · split
      · rfl
      · exact he.w k hk
  · rcases List.mem_cons.1 hk with rfl | hk
    · exact fun p c hp => T.opt hg hC hB hM h hb hp
    · exact he.opt k hk
  · rcases List.mem_cons.1 hk with rfl | hk
    · have : A.H (S.si x.id.toNat) < inf := by rw [← T.ok.h]; exact T.ok.hi
      exact this
    · exact he.fin k hk
  · rcases List.mem_cons.1 hk with rfl | hk
    · exact fun p c hp => T.flow ha hB h hp
    · exact he.low k hk
  · rw [hwi] at hw
    by_cases e : k = x.id.toNat
    · exact .inl (by rw [e]; exact List.mem_cons_self)
    · rw [if_neg e] at hw
      rcases he.d k hk hw with h1 | h1
      · exact .inl (List.mem_cons_of_mem _ h1)
      · exact .inr h1
theorem SInv.marked {S : SA} {c : Nat} (h : SInv A S (fun _ => False) c) {x : Ent} {q : List Ent} (T : Taken A S x q) : SInv A ((S.pop x q).mark x.id.toNat) (· = x.id.toNat) c ∧ S.gi x.id.toNat + 1048576 ≤ ((x.id.toNat :: S.ex).length : Int) * 1048576 := by
  have h1 := T.inv h
  have hgbi := h.gb _ T.i1
  refine ⟨⟨h1.ai, h1.ll, h1.lt, h1.qs, fun y hy => ?_, h1.qw, h1.lnk, h1.tsl, fun j hj => ?_, h1.cn, h1.co⟩, by rw [List.length_cons]; omega⟩
  · have ho := h1.qe y hy
    exact ⟨ho.id0, ho.id1, ho.o0, ho.o1, ho.f, ho.h, ho.hi, ho.g, by have h3 : y.g ≤ (S.ex.length : Int) * 1048576 := ho.gb; show y.g ≤ ((x.id.toNat :: S.ex).length : Int) * 1048576; rw [List.length_cons]; omega, ho.b⟩
  · have h3 : S.gi j ≤ (S.ex.length : Int) * 1048576 := h1.gb j hj
    show S.gi j ≤ ((x.id.toNat :: S.ex).length : Int) * 1048576
    rw [List.length_cons]; omega
theorem EInv.expand {S : SA} {c : Nat} {M : Int} (hH : HOk A.t A.H) (hC : Cons A.t A.H) (ha : ∀ y q d, Pln A.t y q d → A.H y < inf ∧ A.H y ≤ d) (hB : A.B = none) (hM : ∀ y, A.H y < inf → A.H y ≤ M) (h : SInv A S (fun _ => False) c) (hb : (S.ex.length : Int) * 1048576 + M < inf) (he : EInv A S) {x : Ent} {q : List Ent} (hn : nextE S.wt S.g S.q = some (x, q)) :
    EInv A (expN A S x q) ∧ Keeps ((S.pop x q).mark x.id.toNat) (expN A S x q) := by
  have T := h.next hn
  obtain ⟨m1, m2⟩ := h.marked T
  exact EInv.steps hH hB _ m1 (he.taken hH.good hC ha hB hM h hb T) T.i1 rfl (fun op hop => mem_succsL.1 hop) m2
theorem einv_start (hH : HOk A.t A.H) (hB : A.B = none) : EInv A (startA A) := by
  have hex : (startA A).ex = [] := rfl
  have hno : ∀ k, k ∉ (startA A).ex := fun k hk => by rw [hex] at hk; exact List.not_mem_nil hk
  refine ⟨by rw [hex]; exact .nil, fun k hk => absurd hk (hno k), fun k hk => absurd hk (hno k), fun k hk => absurd hk (hno k), fun k hk => absurd hk (hno k), fun k hk => absurd hk (hno k), fun k hk hw => ?_⟩
  obtain rfl : k = 0 := by have h2 : k < 1 := hk; omega
  have h2 : (!cutA A A.t.init 0) = false := hw
  have hc : cutA A A.t.init 0 = true := by simpa using h2
  unfold cutA at hc
  rw [hB] at hc
  have h3 : decide (A.H A.t.init = inf) = true := by simpa using hc
  right
  have h4 := of_decide_eq_true h3
  show inf ≤ A.H A.t.init
  omega
/-- The expanded states are at most the states. -/
theorem EInv.few {S : SA} {exi : Nat → Prop} {c : Nat} (h : SInv A S exi c) (he : EInv A S) : S.ex.length ≤ (statesL A.t.vars).length := by
  have h1 := nodup_sub he.nd fun k hk => List.mem_range.2 (he.lt k hk)
  rw [List.length_range] at h1
  exact Nat.le_trans h1 h.few
def CInv (A : APar) (S : SA) : Prop := RInv A S ∧ EInv A S
/-- A run with a consistent estimate. -/
theorem srch_cons {lim : Nat} {M : Int} (hH : HOk A.t A.H) (hC : Cons A.t A.H) (ha : ∀ y q d, Pln A.t y q d → A.H y < inf ∧ A.H y ≤ d) (hB : A.B = none) (hM : ∀ y, A.H y < inf → A.H y ≤ M) (hb : (lim : Int) * 1048576 + M < inf) : FinA A lim (CInv A) (srchA A lim) :=
  run_fin (fun {S x q} h hn hg hl => by
    obtain ⟨⟨c, hc, hI⟩, he⟩ := h
    refine ⟨rinv_step hH ⟨c, hc, hI⟩ hn hg, (he.expand hH hC ha hB hM hI ?_ hn).1⟩
    have : (S.ex.length : Int) * 1048576 ≤ (lim : Int) * 1048576 := by omega
    omega) _ ⟨rinv_start hH, einv_start hH hB⟩ (Nat.zero_le _) rfl
/-- What is expanded in the end: states with their least costs; all states that lie below the least cost of a plan, and none above it. -/
structure ExOk (A : APar) (b : Int) (S : SA) : Prop where
  e : EInv A S
  up : ∀ k ∈ S.ex, b < inf → S.gi k + A.H (S.si k) ≤ b
  lo : ∀ p s c, Pth A.t p s c → A.H s < inf → c + A.H s < b → ∃ k ∈ S.ex, S.si k = s
  gb : ∀ k ∈ S.ex, S.gi k ≤ (S.ex.length : Int) * 1048576
  ok : ∀ k ∈ S.ex, StateOk A.t.vars (S.si k) ∧ ∃ p, Pth A.t p (S.si k) (S.gi k)
  nd : S.st.Nodup
theorem ExOk.of {S : SA} {c : Nat} {b : Int} (h : SInv A S (fun _ => False) c) (he : EInv A S) (hb : Least A.t A.t.init b) (hlo : ∀ p s c, Pth A.t p s c → A.H s < inf → c + A.H s < b → ∃ k ∈ S.ex, S.si k = s) : ExOk A b S :=
  ⟨he, fun k hk hlt => by obtain ⟨p, hp⟩ := hb.att hlt; exact he.low k hk p b hp, hlo, fun k hk => h.gb k (he.lt k hk), fun k hk => ⟨h.ai.ok k (he.lt k hk), by
    obtain ⟨p, c, h1, h2⟩ := h.ai.path k (he.lt k hk)
    have h3 := he.opt k hk p c h1
    have h4 : c ≤ S.gi k := h2
    have e : c = S.gi k := by omega
    exact ⟨p, e ▸ h1⟩⟩, h.ai.nd⟩
/-- With a consistent estimate and a limit that suffices: the result, and what was expanded. -/
theorem srch_all {lim : Nat} {M : Int} (hH : HOk A.t A.H) (hC : Cons A.t A.H) (ha : ∀ y q d, Pln A.t y q d → A.H y < inf ∧ A.H y ≤ d) (hB : A.B = none) (hM : ∀ y, A.H y < inf → A.H y ≤ M) (hb : (lim : Int) * 1048576 + M < inf) (hlim : (statesL A.t.vars).length < lim) {b : Int} (hL : Least A.t A.t.init b) :
    (srchA A lim).1 ≠ .unknown ∧ ∃ S, S.ex.length = (srchA A lim).2.ex.length ∧ S.ex.length ≤ (statesL A.t.vars).length ∧ ExOk A b S := by
  have hF := srch_cons hH hC ha hB hM hb
  generalize srchA A lim = R at hF ⊢
  cases hF with
  | none hI hl hn =>
    rename_i S
    obtain ⟨⟨c, _, h⟩, he⟩ := hI
    refine ⟨(by intro hh; cases hh), S, rfl, he.few h, .of h he hL fun p s k hp hs hk => ?_⟩
    have hai := h.ai
    rw [hB] at hai
    have hble := hL.le
    rcases front2 hH.good hC hai hp with ⟨j, h1, h2, h3⟩ | ⟨j, h1, h2, h3⟩ | h1
    · have h4 := h.ended hn j h1
      rw [show S.wi j = true from h2] at h4; cases h4
    · rcases he.d j h1 (h.ended hn j h1) with h4 | h4
      · exact ⟨j, h4, h2⟩
      · rw [show S.si j = s from h2] at h4; omega
    · omega
  | unknown hI hl hn hg =>
    obtain ⟨⟨c, _, h⟩, he⟩ := hI
    have := he.few h
    omega
  | solved hI hl hn hgo =>
    rename_i S x q
    obtain ⟨⟨c, _, h⟩, he⟩ := hI
    refine ⟨(by intro hh; cases hh), S, rfl, he.few h, .of h he hL fun p s k hp hs hk => ?_⟩
    have T := h.next hn
    obtain ⟨p', h1, h2, h3, h4, h5⟩ := sol_ok hH.good hH h hn hgo
    have h6 := (hL.low _ _ h3).1
    have h7 := hH.nn (S.si x.id.toNat)
    have hai := h.ai
    rw [hB] at hai
    have hble := hL.le
    rcases front2 hH.good hC hai hp with ⟨j, j1, j2, j3⟩ | ⟨j, j1, j2, j3⟩ | j1
    · have j4 := T.min j j1 j2
      have j5 : S.gi j + A.H (S.si j) ≤ k + A.H s := j3
      omega
    · have j2' : S.si j = s := j2
      have j3' : S.gi j ≤ k := j3
      cases hw : S.wi j
      · rcases he.d j j1 hw with j4 | j4
        · exact ⟨j, j4, j2⟩
        · rw [j2'] at j4; omega
      · have j4 := T.min j j1 hw
        rw [j2'] at j4
        omega
    · omega
end
end Go.Proofs.YtegndanecnicaaaGreat
