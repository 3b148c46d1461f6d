/-
  Control: the steps of 'vc', the loop's rule, calls, results.
-/
import Derived.Test.YtlgombjhcpgleaaSlOps
namespace Go.Sl
open Go.RowKit (Below)
section
variable {P : Program} {Q : Exit → Fr → World → Prop} {ρ : Fr} {w w0 : World} {Γ : List HP}

theorem vc_seq {a b : Code} (h : vc P a (Thn (vc P b Q) Q) ρ w) : vc P (.seq a b) Q ρ w := h
theorem vc_skip (h : Q .normal ρ w) : vc P .skip Q ρ w := h
theorem vc_label {l : Nat} (h : Q .normal ρ w) : vc P (.label l) Q ρ w := h
theorem vc_exit {i : Nat} (h : Q (.exit i) ρ w) : vc P (.exit i) Q ρ w := h
theorem vc_ret (h : Q .ret ρ w) : vc P .ret Q ρ w := h
theorem vc_block {i : Nat} {c : Code} (h : vc P c (Blk i Q) ρ w) : vc P (.block i c) Q ρ w := h
theorem vc_cond {c : Operand} {x y : Code} {t : Bool} (hc : evl ρ c = .bool t) (h1 : t = true → vc P x Q ρ w) (h0 : t = false → vc P y Q ρ w) : vc P (.cond c x y) Q ρ w := ⟨t, hc, h1, h0⟩
theorem vc_condT {c : Operand} {x y : Code} (hc : evl ρ c = .bool true) (h1 : vc P x Q ρ w) : vc P (.cond c x y) Q ρ w := ⟨true, hc, fun _ => h1, fun h => by cases h⟩
theorem vc_condF {c : Operand} {x y : Code} (hc : evl ρ c = .bool false) (h1 : vc P y Q ρ w) : vc P (.cond c x y) Q ρ w := ⟨false, hc, fun h => (by cases h), fun _ => h1⟩
theorem vc_region {i : Nat} {l : List Oper} (h : opsW P l.toArray (Q .normal) l ρ w) : vc P (.region i l.toArray false) Q ρ w := h
theorem vc_draw {i : Nat} {l : List Oper} (hw : Sat w0 w Γ) (hc : commB P l.toArray = true) (h : ∀ w', Sat w0 w' Γ → opsW P l.toArray (Q .normal) l ρ w') : vc P (.region i l.toArray true) Q ρ w :=
  .inl ⟨hc, h _ hw.drew⟩
/-- A region that draws its order, by a plan: carry it out in one order, and look again at the loose reads behind each effect. -/
theorem vc_plan {i : Nat} {l : List Oper} (is : List Item) (hw : Sat w0 w Γ) (hc : planB P l.toArray is = true) (h : ∀ w', Sat w0 w' Γ → opsD P l.toArray (Q .normal) is ρ w') : vc P (.region i l.toArray true) Q ρ w :=
  .inr (.inl ⟨is, hc, h _ hw.drew⟩)
/-- .. by a tree of plans. -/
theorem vc_tree {i : Nat} {l : List Oper} (T : PT) (hw : Sat w0 w Γ) (hb : baseB P l.toArray = true) (hc : treeB P l.toArray [] [] T = true) (h : ∀ w', Sat w0 w' Γ → opsT P l.toArray (Q .normal) T ρ w') : vc P (.region i l.toArray true) Q ρ w :=
  .inr (.inr ⟨T, hb, hc, h _ hw.drew⟩)
theorem opsT_lin {ops : Array Oper} {K : Fr → World → Prop} {is : List Item} (h : opsD P ops K is ρ w) : opsT P ops K (.lin is) ρ w := h
theorem opsT_step {ops : Array Oper} {K : Fr → World → Prop} {i : Nat} {is : List Item} {t : PT} (h : opsD P ops (opsT P ops K t) is ρ w) : opsT P ops K (.step i is t) ρ w := h
theorem opsT_alt {ops : Array Oper} {K : Fr → World → Prop} {i : Nat} {is : List Item} {t m : PT} (h : opsD P ops (opsT P ops K t) is ρ w) (hm : opsT P ops K m ρ w) : opsT P ops K (.alt i is t m) ρ w := ⟨h, hm⟩
theorem opsT_stop {ops : Array Oper} {K : Fr → World → Prop} : opsT P ops K .stop ρ w := trivial
theorem opsD_nil {ops : Array Oper} {K : Fr → World → Prop} (h : K ρ w) : opsD P ops K [] ρ w := h
theorem opsD_op {l : List Oper} {K : Fr → World → Prop} {i : Nat} {r : List Item} {o : Oper} (h : opsW P l.toArray (opsD P l.toArray K r) [o] ρ w) (ho : l[i]? = some o := by exact rfl) : opsD P l.toArray K (.op i :: r) ρ w := by
  have : (l.toArray)[i]? = some o := by simpa using ho
  simp only [opsD, this]; exact h
theorem opsD_chk {l : List Oper} {K : Fr → World → Prop} {i : Nat} {r : List Item} {d : Nat} {op : Op} {ty : TypeId} {pos : String} {af : Array Edge} {v : Value} (ho : l[i]? = some ⟨some d, op, ty, pos, af, none⟩) (hv : ReadV P ⟨some d, op, ty, pos, af, none⟩ ρ w v) (he : ρ d = v) (h : opsD P l.toArray K r ρ w) : opsD P l.toArray K (.chk i :: r) ρ w := by
  have : (l.toArray)[i]? = some ⟨some d, op, ty, pos, af, none⟩ := by simpa using ho
  simp only [opsD, this]
  refine ⟨fun d' hd => ?_, h⟩
  cases hd
  rw [he]; exact hv
theorem opsD_gchk {l : List Oper} {K : Fr → World → Prop} {i : Nat} {r : List Item} {d : Nat} {op : Op} {ty : TypeId} {pos : String} {af : Array Edge} {v : Value} {j : Nat} {want : Bool} (ho : l[i]? = some ⟨some d, op, ty, pos, af, some (j, want)⟩)
    (hv : guardB l.toArray ρ (j, want) = true → ReadV P ⟨some d, op, ty, pos, af, none⟩ ρ w v ∧ ρ d = v) (h : opsD P l.toArray K r ρ w) : opsD P l.toArray K (.chk i :: r) ρ w := by
  have : (l.toArray)[i]? = some ⟨some d, op, ty, pos, af, some (j, want)⟩ := by simpa using ho
  simp only [opsD, this]
  refine ⟨fun hg d' hd => ?_, h⟩
  cases hd
  obtain ⟨h1, h2⟩ := hv hg
  rw [h2]; exact h1
theorem thn_normal {N : Fr → World → Prop} (h : N ρ w) : Thn N Q .normal ρ w := h
theorem thn_exit {N : Fr → World → Prop} {i : Nat} (h : Q (.exit i) ρ w) : Thn N Q (.exit i) ρ w := h
theorem thn_ret {N : Fr → World → Prop} (h : Q .ret ρ w) : Thn N Q .ret ρ w := h
theorem blk_normal {i : Nat} (h : Q .normal ρ w) : Blk i Q .normal ρ w := h
theorem blk_ret {i : Nat} (h : Q .ret ρ w) : Blk i Q .ret ρ w := h
theorem blk_exit {i : Nat} (h : Q .normal ρ w) : Blk i Q (.exit i) ρ w := by simp only [Blk, if_true]; exact h
theorem blk_exit_ne {i j : Nat} (hne : Nat.beq i j = false) (h : Q (.exit i) ρ w) : Blk j Q (.exit i) ρ w := by
  have : i ≠ j := fun e => by subst e; simp at hne
  simp only [Blk, if_neg this]; exact h

/-! ### Loops -/
/-- The frame at a loop's head: what the loop does not write is as it was. -/
def mix (W : List Nat) (σ ρ : Fr) : Fr := fun t => bif W.elem t then σ t else ρ t
def sets (ρ : Fr) : List (Nat × Value) → Fr
  | [] => ρ
  | (d, v) :: l => upd (sets ρ l) d v
def Agree (W : List Nat) (ρ ρ0 : Fr) : Prop := ∀ t, W.elem t = false → ρ t = ρ0 t
def Holds (ρ : Fr) : List (Nat × Value) → Prop
  | [] => True
  | (d, v) :: l => ρ d = v ∧ Holds ρ l
theorem agree_refl {W : List Nat} : Agree W ρ ρ := fun _ _ => rfl
theorem agree_upd {W : List Nat} {ρ0 : Fr} {d : Nat} {v : Value} (hd : W.elem d = true) (h : Agree W ρ ρ0) : Agree W (upd ρ d v) ρ0 := by
  intro t ht
  have : Nat.beq t d = false := by
    cases hb : Nat.beq t d with
    | false => rfl
    | true => have := Nat.eq_of_beq_eq_true hb; subst this; rw [hd] at ht; cases ht
  simp only [upd, this, cond_false]; exact h t ht
theorem agree_updo {W : List Nat} {ρ0 : Fr} {d : Nat} {v : Value} (hd : W.elem d = true) (h : Agree W ρ ρ0) : Agree W (updo ρ (some d) v) ρ0 := agree_upd hd h
theorem agree_mix {W W' : List Nat} {σ ρ0 : Fr} (hs : W'.all (W.elem ·) = true) (h : Agree W ρ ρ0) : Agree W (mix W' σ ρ) ρ0 := by
  intro t ht
  have : W'.elem t = false := by
    cases hb : W'.elem t with
    | false => rfl
    | true =>
      have := List.all_eq_true.1 hs t (List.elem_iff.1 hb)
      rw [this] at ht; cases ht
  simp only [mix, this, cond_false]; exact h t ht
theorem agree_sets {W : List Nat} {ρ0 : Fr} : ∀ {l : List (Nat × Value)}, l.all (fun p => W.elem p.1) = true → Agree W ρ ρ0 → Agree W (sets ρ l) ρ0
  | [], _, h => h
  | (d, v) :: l, hs, h => by
    simp only [List.all_cons, Bool.and_eq_true] at hs
    exact agree_upd hs.1 (agree_sets hs.2 h)
theorem sets_mix {W : List Nat} {ρ0 : Fr} : ∀ {l : List (Nat × Value)}, Holds ρ l → Agree W ρ ρ0 → l.all (fun p => W.elem p.1) = true → sets (mix W ρ ρ0) l = ρ := by
  intro l hl ha hs
  have h0 : mix W ρ ρ0 = ρ := by
    funext t
    simp only [mix]
    cases hb : W.elem t with
    | true => rfl
    | false => exact (ha t hb).symm
  rw [h0]
  clear hs h0 ha
  induction l with
  | nil => rfl
  | cons p l ih =>
    obtain ⟨d, v⟩ := p
    simp only [sets, ih hl.2]
    funext t
    simp only [upd]
    cases hb : Nat.beq t d with
    | false => rfl
    | true => have := Nat.eq_of_beq_eq_true hb; subst this; exact hl.1.symm

/-- A loop: 'W' the slots that it writes, 'V g' what some of them hold at the head of a round, 'J g' what holds of memory, 'μ' what goes down. -/
theorem vc_loop {c : Code} (W : List Nat) {G : Type} (V : G → List (Nat × Value)) (J : G → World → Prop) (μ : G → Nat) (g0 : G)
    (hV : ∀ g, (V g).all (fun p => W.elem p.1) = true) (h0 : Holds ρ (V g0)) (hj : J g0 w)
    (hr : ∀ σ g w, J g w → vc P c (Thn (fun ρ' w' => ∃ g', Holds ρ' (V g') ∧ Agree W ρ' ρ ∧ J g' w' ∧ μ g' < μ g) Q) (sets (mix W σ ρ) (V g)) w) : vc P (.loop c) Q ρ w := by
  refine ⟨fun m ρ' w' => ∃ g, μ g = m ∧ Holds ρ' (V g) ∧ Agree W ρ' ρ ∧ J g w', ⟨μ g0, g0, rfl, h0, agree_refl, hj⟩, ?_⟩
  rintro m ρ' w' ⟨g, rfl, hh, ha, hj⟩
  have := hr ρ' g w' hj
  rw [sets_mix hh ha (hV g)] at this
  refine vc_mono this fun e ρ2 w2 hq => ?_
  cases e with
  | normal => obtain ⟨g', h1, h2, h3, h4⟩ := hq; exact ⟨μ g', h4, g', rfl, h1, h2, h3⟩
  | _ => exact hq
where
  vc_mono : ∀ {c : Code} {Q Q' : Exit → Fr → World → Prop} {ρ : Fr} {w : World}, vc P c Q ρ w → (∀ e ρ w, Q e ρ w → Q' e ρ w) → vc P c Q' ρ w := by
    intro c
    have hops : ∀ (ops : Array Oper) (l : List Oper) {K K' : Fr → World → Prop}, (∀ ρ w, K ρ w → K' ρ w) → ∀ {ρ : Fr} {w : World}, opsW P ops K l ρ w → opsW P ops K' l ρ w := by
      intro ops l K K' hk
      induction l with
      | nil => intro ρ w h; exact hk _ _ h
      | cons o r ih =>
        intro ρ w h
        have hv : ∀ {ρ w}, opV P o ρ w (opsW P ops K r) → opV P o ρ w (opsW P ops K' r) := by
          intro ρ w h
          unfold opV at *
          split at h
          · obtain ⟨v, h1, h2⟩ := h; exact ⟨v, h1, ih h2⟩
          · obtain ⟨v, h1, h2⟩ := h; exact ⟨v, h1, ih h2⟩
          · exact opUpon_mono (fun v w' hh => ih hh) h
        simp only [opsW] at h ⊢
        split
        · rename_i hg; simp only [hg] at h; exact hv h
        · rename_i g hg; simp only [hg] at h; exact ⟨fun h1 => hv (h.1 h1), fun h1 => ih (h.2 h1)⟩
    induction c with
    | skip => intro Q Q' ρ w h hq; exact hq _ _ _ h
    | label l => intro Q Q' ρ w h hq; exact hq _ _ _ h
    | exit i => intro Q Q' ρ w h hq; exact hq _ _ _ h
    | ret => intro Q Q' ρ w h hq; exact hq _ _ _ h
    | seq a b iha ihb =>
      intro Q Q' ρ w h hq
      refine iha (Q := Thn (vc P b Q) Q) h fun e ρ w he => ?_
      cases e with
      | normal => exact ihb he hq
      | _ => exact hq _ _ _ he
    | cond c x y ihx ihy =>
      intro Q Q' ρ w h hq
      obtain ⟨t, ht, h1, h0⟩ := h
      exact ⟨t, ht, fun h => ihx (h1 h) hq, fun h => ihy (h0 h) hq⟩
    | block i c ih =>
      intro Q Q' ρ w h hq
      refine ih (Q := Blk i Q) h fun e ρ w he => ?_
      cases e with
      | exit j =>
        simp only [Blk] at he ⊢
        split
        · rename_i hj; rw [if_pos hj] at he; exact hq _ _ _ he
        · rename_i hj; rw [if_neg hj] at he; exact hq _ _ _ he
      | _ => exact hq _ _ _ he
    | loop c ih =>
      intro Q Q' ρ w h hq
      obtain ⟨I, hm, hr⟩ := h
      refine ⟨I, hm, fun m ρ w hI => ih (hr m ρ w hI) fun e ρ w he => ?_⟩
      cases e with
      | normal => exact he
      | _ => exact hq _ _ _ he
    | region i ops draw =>
      intro Q Q' ρ w h hq
      cases draw with
      | false => exact hops ops _ (fun ρ w h => hq _ _ _ h) h
      | true =>
        have hD : ∀ (is : List Item) {K K' : Fr → World → Prop}, (∀ ρ w, K ρ w → K' ρ w) → ∀ {ρ : Fr} {w : World}, opsD P ops K is ρ w → opsD P ops K' is ρ w := by
          intro is K K' hk
          induction is with
          | nil => intro ρ w h; exact hk _ _ h
          | cons x r ih =>
            intro ρ w h
            cases x with
            | op i =>
              simp only [opsD] at h ⊢
              split
              · rename_i o ho; rw [ho] at h; exact hops ops _ (fun ρ w h => ih h) h
              · rename_i ho; rw [ho] at h; exact h
            | chk i => simp only [opsD] at h ⊢; exact ⟨h.1, ih h.2⟩
        have hT : ∀ (T : PT) {ρ : Fr} {w : World}, opsT P ops (Q .normal) T ρ w → opsT P ops (Q' .normal) T ρ w := by
          intro T
          induction T with
          | lin is => intro ρ w h; exact hD is (fun ρ w h => hq _ _ _ h) h
          | step i is t ih => intro ρ w h; exact hD is (fun ρ w h => ih h) h
          | alt i is t m ih ihm => intro ρ w h; exact ⟨hD is (fun ρ w h => ih h) h.1, ihm h.2⟩
          | stop => intro ρ w _; trivial
        rcases h with h | ⟨is, hp, h⟩ | ⟨T, hb, ht, h⟩
        · exact .inl ⟨h.1, hops ops _ (fun ρ w h => hq _ _ _ h) h.2⟩
        · exact .inr (.inl ⟨is, hp, hD is (fun ρ w h => hq _ _ _ h) h⟩)
        · exact .inr (.inr ⟨T, hb, ht, hT T h⟩)
    | _ => intro Q Q' ρ w h hq; exact h.elim
theorem vc_mono {c : Code} {Q Q' : Exit → Fr → World → Prop} {ρ : Fr} {w : World} (h : vc P c Q ρ w) (hq : ∀ e ρ w, Q e ρ w → Q' e ρ w) : vc P c Q' ρ w := vc_loop.vc_mono h hq

theorem vc_loop2 {c : Code} (W : List Nat) {G H : Type} (V : G → H → List (Nat × Value)) (J : G → H → World → Prop) (μ : G → H → Nat) (g0 : G) (h0' : H)
    (hV : ∀ g h, (V g h).all (fun p => W.elem p.1) = true) (h0 : Holds ρ (V g0 h0')) (hj : J g0 h0' w)
    (hr : ∀ σ g h w, J g h w → vc P c (Thn (fun ρ' w' => ∃ g' h', Holds ρ' (V g' h') ∧ Agree W ρ' ρ ∧ J g' h' w' ∧ μ g' h' < μ g h) Q) (sets (mix W σ ρ) (V g h)) w) : vc P (.loop c) Q ρ w := by
  refine vc_loop W (G := G × H) (fun x => V x.1 x.2) (fun x => J x.1 x.2) (fun x => μ x.1 x.2) (g0, h0') (fun x => hV _ _) h0 hj fun σ x w hx => vc_mono (hr σ x.1 x.2 w hx) fun e ρ w he => ?_
  cases e with
  | normal => obtain ⟨g', h', he⟩ := he; exact ⟨(g', h'), he⟩
  | _ => exact he
theorem vc_loop3 {c : Code} (W : List Nat) {G H I : Type} (V : G → H → I → List (Nat × Value)) (J : G → H → I → World → Prop) (μ : G → H → I → Nat) (g0 : G) (h0' : H) (i0 : I)
    (hV : ∀ g h i, (V g h i).all (fun p => W.elem p.1) = true) (h0 : Holds ρ (V g0 h0' i0)) (hj : J g0 h0' i0 w)
    (hr : ∀ σ g h i w, J g h i w → vc P c (Thn (fun ρ' w' => ∃ g' h' i', Holds ρ' (V g' h' i') ∧ Agree W ρ' ρ ∧ J g' h' i' w' ∧ μ g' h' i' < μ g h i) Q) (sets (mix W σ ρ) (V g h i)) w) : vc P (.loop c) Q ρ w := by
  refine vc_loop W (G := G × H × I) (fun x => V x.1 x.2.1 x.2.2) (fun x => J x.1 x.2.1 x.2.2) (fun x => μ x.1 x.2.1 x.2.2) (g0, h0', i0) (fun x => hV _ _ _) h0 hj fun σ x w hx => vc_mono (hr σ x.1 x.2.1 x.2.2 w hx) fun e ρ w he => ?_
  cases e with
  | normal => obtain ⟨g', h', i', he⟩ := he; exact ⟨(g', h', i'), he⟩
  | _ => exact he
theorem vc_loop4 {c : Code} (W : List Nat) {G H I M : Type} (V : G → H → I → M → List (Nat × Value)) (J : G → H → I → M → World → Prop) (μ : G → H → I → M → Nat) (g0 : G) (h0' : H) (i0 : I) (m0 : M)
    (hV : ∀ g h i m, (V g h i m).all (fun p => W.elem p.1) = true) (h0 : Holds ρ (V g0 h0' i0 m0)) (hj : J g0 h0' i0 m0 w)
    (hr : ∀ σ g h i m w, J g h i m w → vc P c (Thn (fun ρ' w' => ∃ g' h' i' m', Holds ρ' (V g' h' i' m') ∧ Agree W ρ' ρ ∧ J g' h' i' m' w' ∧ μ g' h' i' m' < μ g h i m) Q) (sets (mix W σ ρ) (V g h i m)) w) : vc P (.loop c) Q ρ w := by
  refine vc_loop W (G := G × H × I × M) (fun x => V x.1 x.2.1 x.2.2.1 x.2.2.2) (fun x => J x.1 x.2.1 x.2.2.1 x.2.2.2) (fun x => μ x.1 x.2.1 x.2.2.1 x.2.2.2) (g0, h0', i0, m0) (fun x => hV _ _ _ _) h0 hj fun σ x w hx => vc_mono (hr σ x.1 x.2.1 x.2.2.1 x.2.2.2 w hx) fun e ρ w he => ?_
  cases e with
  | normal => obtain ⟨g', h', i', m', he⟩ := he; exact ⟨(g', h', i', m'), he⟩
  | _ => exact he

/-- A cut: what the code up to here writes is forgotten but for 'V g', of some g. -/
theorem vc_cut {c : Code} {N : Fr → World → Prop} (W : List Nat) {G : Type} (V : G → List (Nat × Value)) (J : G → World → Prop) (hV : ∀ g, (V g).all (fun p => W.elem p.1) = true)
    (h1 : vc P c (Thn (fun ρ' w' => ∃ g, Holds ρ' (V g) ∧ Agree W ρ' ρ ∧ J g w') Q) ρ w) (h2 : ∀ σ g w, J g w → N (sets (mix W σ ρ) (V g)) w) : vc P c (Thn N Q) ρ w := by
  refine vc_mono h1 fun e ρ' w' he => ?_
  cases e with
  | normal =>
    obtain ⟨g, hh, ha, hj⟩ := he
    have := h2 ρ' g w' hj
    rw [sets_mix hh ha (hV g)] at this
    exact this
  | _ => exact he

/-! ### Calls -/
theorem run_call {f : FuncId} {fn : Func} {c : Code} (hf : P.funcs[f]? = some fn) (hn : (fn.name == "runtime.NumGoroutine") = false) (hb : fn.body = some c) (args : Array Value) (w : World) : (callFunc f args).run P w = .ok (.enter f args) w := by
  exact Go.MuLone.run_callFunc_enter hf hn hb args w
def callB (P : Program) (f : Nat) : Bool := match P.funcs[f]? with | some fn => !(fn.name == "runtime.NumGoroutine") && fn.body.isSome | none => false
class CallT (P : Program) (f : Nat) : Prop where
  ok : callB P f = true
theorem CallT.run {f : Nat} (h : CallT P f) (args : Array Value) (w : World) : (callFunc f args).run P w = .ok (.enter f args) w := by
  have h := h.ok
  simp only [callB] at h
  split at h
  · rename_i fn hf
    simp only [Bool.and_eq_true, Bool.not_eq_true', Option.isSome_iff_exists] at h
    obtain ⟨hn, c, hb⟩ := h
    exact run_call hf hn hb args w
  · cases h

section
variable {ops : Array Oper} {K : Fr → World → Prop} {r : List Oper} {d : Nat} {ty : TypeId} {pos : String} {af : Array Edge}
/-- A call of a Go function by its contract. -/
theorem st_call {f : Nat} {xs : List Operand} {ts : Array TypeId} {vs : List Value} {R : Ending → World → Prop} [C : CallT P f] (hx : xs.map (evl ρ) = vs) (hc : Calls P f vs.toArray w R)
    (h : ∀ e w', R e w' → ∃ v, e = .returned v ∧ opsW P ops K r (upd ρ d v) w') : opsW P ops K (⟨some d, .call { callee := .value (.func f), args := xs.toArray, argTypes := ts }, ty, pos, af, none⟩ :: r) ρ w := by
  refine step_eff rfl ?_
  have hr : (execOp (evl ρ) ⟨some d, .call { callee := .value (.func f), args := xs.toArray, argTypes := ts }, ty, pos, af, none⟩).run P w = .ok (.enter f vs.toArray) w := by
    simp only [execOp, resolve, Deferred.ofValue, evl, Sem.run_bind, Sem.run_pure, Result.andThen_ok, invoke]
    have : #[] ++ Array.map (evl ρ) xs.toArray ++ #[] = vs.toArray := by simp [hx]
    rw [this, C.run]
  simp only [opW, hr, opUpon]
  refine Calls.mono hc fun e w' hR => ?_
  obtain ⟨v, rfl, hk⟩ := h e w' hR
  exact hk
theorem st_call0 {f : Nat} {xs : List Operand} {ts : Array TypeId} {vs : List Value} {R : Ending → World → Prop} [C : CallT P f] (hx : xs.map (evl ρ) = vs) (hc : Calls P f vs.toArray w R)
    (h : ∀ e w', R e w' → ∃ v, e = .returned v ∧ opsW P ops K r ρ w') : opsW P ops K (⟨none, .call { callee := .value (.func f), args := xs.toArray, argTypes := ts }, ty, pos, af, none⟩ :: r) ρ w := by
  refine step_eff rfl ?_
  have hr : (execOp (evl ρ) ⟨none, .call { callee := .value (.func f), args := xs.toArray, argTypes := ts }, ty, pos, af, none⟩).run P w = .ok (.enter f vs.toArray) w := by
    simp only [execOp, resolve, Deferred.ofValue, evl, Sem.run_bind, Sem.run_pure, Result.andThen_ok, invoke]
    have : #[] ++ Array.map (evl ρ) xs.toArray ++ #[] = vs.toArray := by simp [hx]
    rw [this, C.run]
  simp only [opW, hr, opUpon]
  refine Calls.mono hc fun e w' hR => ?_
  obtain ⟨v, rfl, hk⟩ := h e w' hR
  exact hk
/-- A call of a closure: what it captured comes behind its arguments. -/
theorem st_callF {f : Nat} {x : Operand} {xs : List Operand} {ts : Array TypeId} {vs cs : List Value} {R : Ending → World → Prop} {dst : Option Nat} [C : CallT P f] (hf : evl ρ x = .func (.func f) #[] cs.toArray) (hx : xs.map (evl ρ) = vs) (hc : Calls P f (vs ++ cs).toArray w R)
    (h : ∀ e w', R e w' → ∃ v, e = .returned v ∧ opsW P ops K r (updo ρ dst v) w') : opsW P ops K (⟨dst, .call { callee := .value x, args := xs.toArray, argTypes := ts }, ty, pos, af, none⟩ :: r) ρ w := by
  refine step_eff rfl ?_
  have hr : (execOp (evl ρ) ⟨dst, .call { callee := .value x, args := xs.toArray, argTypes := ts }, ty, pos, af, none⟩).run P w = .ok (.enter f (vs ++ cs).toArray) w := by
    simp only [execOp, resolve, Sem.run_bind, hf, Deferred.ofValue, Sem.run_pure, Result.andThen_ok, invoke]
    have : #[] ++ Array.map (evl ρ) xs.toArray ++ cs.toArray = (vs ++ cs).toArray := by simp [hx]
    rw [this, C.run]
  simp only [opW, hr, opUpon]
  refine Calls.mono hc fun e w' hR => ?_
  obtain ⟨v, rfl, hk⟩ := h e w' hR
  exact hk
end

/-! ### Results -/
theorem res_one {fn : Func} {R : Value → World → Prop} {s : Nat} {v : Value} (hr : fn.results = #[.tmp s]) (hv : ρ s = v) (h : R v w) : postV P fn R .ret ρ w :=
  ⟨v, fun a ha => by
    have h1 : a.tmps.getD s undef = v := by rw [← hv, ← ha]; rfl
    simp only [results, hr, List.mapM_toArray, List.mapM_cons, List.mapM_nil, h1, bind_pure_comp, map_pure]
    rfl, h⟩
theorem res_one' {fn : Func} {R : Value → World → Prop} {s : Nat} {v : Value} (hr : fn.results = #[.tmp s]) (hv : ρ s = v) (h : R v w) : postV P fn R .normal ρ w := res_one (P := P) hr hv h
theorem res_two {fn : Func} {R : Value → World → Prop} {s s' : Nat} {v v' : Value} (hr : fn.results = #[.tmp s, .tmp s']) (hv : ρ s = v) (hv' : ρ s' = v') (h : R (.tuple #[v, v']) w) : postV P fn R .ret ρ w :=
  ⟨.tuple #[v, v'], fun a ha => by
    have h1 : a.tmps.getD s undef = v := by rw [← hv, ← ha]; rfl
    have h2 : a.tmps.getD s' undef = v' := by rw [← hv', ← ha]; rfl
    simp only [results, hr, List.mapM_toArray, List.mapM_cons, List.mapM_nil, h1, h2, bind_pure_comp, map_pure]
    rfl, h⟩
theorem res_none {fn : Func} {R : Value → World → Prop} (hr : fn.results = #[]) (h : R (.tuple #[]) w) : postV P fn R .ret ρ w :=
  ⟨.tuple #[], fun a ha => by simp [results, hr], h⟩
theorem res_none' {fn : Func} {R : Value → World → Prop} (hr : fn.results = #[]) (h : R (.tuple #[]) w) : postV P fn R .normal ρ w := res_none (P := P) hr h
end
end Go.Sl
