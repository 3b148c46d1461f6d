/-
  A range over a function: what the kit's law asks, out of 'Sat'.
-/
import Derived.Test.YtlgombjhcpgleaaSlGo
import Derived.RangeFuncFrom
import Derived.RangeFuncLeaves
namespace Go.Sl
open Go.RowKit (Below)

def cutH (B : Nat) (h : PH) : PH := fun b => if b < B then h b else none
/-- As 'Sat', in the blocks below B. -/
structure SatC (B : Nat) (w0 w : World) (Γ : List HP) : Prop where
  below : Below w0.heap.size w0 w
  sat : SatL Γ (cutH B (newH w0 w))
def Rest (B : Nat) (W : World) : HP := fun h => ∀ b, B ≤ b → b < W.heap.size → h b = W.heap[b]?
theorem Sat.toC {w0 w : World} {Γ : List HP} (h : Sat w0 w Γ) : SatC w.heap.size w0 w Γ := by
  refine ⟨h.below, h.sat.sub fun b o hb => ?_⟩
  have hlt : b < w.heap.size := by
    simp only [newH] at hb
    split at hb
    · cases hb
    · exact (Array.getElem?_eq_some_iff.1 hb).1
  simp only [cutH, if_pos hlt]; exact hb
theorem SatC.sat0 {B : Nat} {w0 w : World} {Γ : List HP} (h : SatC B w0 w Γ) : Sat w0 w Γ :=
  ⟨h.below, h.sat.sub fun b o hb => by
    simp only [cutH] at hb
    split at hb
    · exact hb
    · cases hb⟩
theorem SatC.own {β : Type} {B : Nat} {w0 : World} {Γ : β → List HP} (hB : w0.heap.size ≤ B) : OwnFrom B (fun s W => B ≤ W.heap.size ∧ SatC B w0 W (Γ s)) := by
  rintro s W W' row ⟨hs, hC⟩ hg hr
  have hblk : ∀ k, k < B → W'.heap[k]? = W.heap[k]? := fun k hk => hg.block k (by omega) fun e => by
    have := (hr k e.symm).1; omega
  refine ⟨by have := hg.size; omega, ⟨hC.below.os ▸ hg.os, hC.below.tape ▸ hg.tape, hC.below.output ▸ hg.output, by have := hg.size; have := hC.below.size; omega, fun k hk => ?_⟩, hC.sat.sub fun b o hb => ?_⟩
  · rw [hblk k (by omega)]; exact hC.below.block k hk
  · simp only [cutH, newH] at hb ⊢
    split at hb
    · rename_i h1
      rw [if_pos h1]
      split at hb
      · cases hb
      · rename_i h2; rw [if_neg h2, hblk b h1]; exact hb
    · cases hb
theorem SatC.open {B : Nat} {w0 W : World} {Γ : List HP} (hB : w0.heap.size ≤ B) (h : SatC B w0 W Γ) : Sat w0 W (Rest B W :: Γ) := by
  refine ⟨h.below, fun b => if b < B then none else W.heap[b]?, cutH B (newH w0 W), fun b => ?_, fun b o hb => ?_, fun b o hb => ?_, fun b h1 h2 => ?_, h.sat⟩
  · simp only [cutH]
    by_cases hb : b < B
    · left; rw [if_pos hb]
    · right; rw [if_neg hb]
  · simp only at hb
    split at hb
    · cases hb
    · simp only [newH]; rw [if_neg (by omega)]; exact hb
  · simp only [cutH] at hb
    split at hb
    · exact hb
    · cases hb
  · show (if b < B then none else W.heap[b]?) = W.heap[b]?
    rw [if_neg (by omega)]
theorem Sat.close {B : Nat} {w0 W W' : World} {Γ : List HP} (h : Sat w0 W' (Rest B W :: Γ)) (hsz : W'.heap.size = W.heap.size) : SatC B w0 W' Γ := by
  obtain ⟨h1, h2, d, s1, s2, hr, hg⟩ := h.sat
  refine ⟨h.below, hg.sub fun b o hb => ?_⟩
  have hn := s2 b o hb
  have hlt : b < W'.heap.size := by
    simp only [newH] at hn
    split at hn
    · cases hn
    · exact (Array.getElem?_eq_some_iff.1 hn).1
  simp only [cutH]
  by_cases hB : b < B
  · rw [if_pos hB]; exact hn
  · have := hr b (by omega) (by omega)
    rcases d b with hd | hd
    · rw [this, Array.getElem?_eq_getElem (by omega)] at hd; cases hd
    · rw [hb] at hd; cases hd
theorem Kept.others {w w' : World} (h : Kept w w') : KeepsOthers w w' := ⟨by rw [h.1]; exact Nat.le_refl _, fun k o hk ho => by
  rw [h.2 k fun cs t f e => by rw [hk] at e; cases e; cases ho]; exact hk⟩
theorem below2 {n : Nat} {w0 A B : World} (h : Below n w0 A) (k : Below n w0 B) (hs : A.heap.size ≤ B.heap.size) : Below n A B :=
  ⟨k.os.trans h.os.symm, k.tape.trans h.tape.symm, k.output.trans h.output.symm, hs, fun i hi => (k.block i hi).trans (h.block i hi).symm⟩

section
variable {P : Program} {ops : Array Oper} {K : Fr → World → Prop} {r : List Oper} {ρ : Fr} {w : World} {d : Nat} {ty : TypeId} {pos : String} {af : Array Edge}
/-- A call of yield, by what the round does. -/
theorem st_yield {x : Operand} {xs : List Operand} {ts : Array TypeId} {vs : List Value} {l m : Nat} {R : Ending → World → Prop} (hf : evl ρ x = .func (.yield l) #[] #[]) (hx : xs.map (evl ρ) = vs) (hc : YieldAt Fence.wide m P l vs.toArray w R)
    (h : ∀ e w', R e w' → ∃ v, e = .returned v ∧ opsW P ops K r (upd ρ d v) w') : opsW P ops K (⟨some d, .call { callee := .value x, args := xs.toArray, argTypes := ts }, ty, pos, af, none⟩ :: r) ρ w := by
  refine step_eff rfl ?_
  obtain ⟨fn, tmps, assign, body, hy, hR⟩ := hc
  have hr : (execOp (evl ρ) ⟨some d, .call { callee := .value x, args := xs.toArray, argTypes := ts }, ty, pos, af, none⟩).run P w = .ok (.round l fn tmps assign body) w := by
    simp only [execOp, resolve, Sem.run_bind, hf, Deferred.ofValue, Sem.run_pure, Result.andThen_ok, invoke]
    have : #[] ++ Array.map (evl ρ) xs.toArray = vs.toArray := by simp [hx]
    rw [this]; exact hy
  simp only [opW, hr, opUpon]
  refine ⟨hR.1, fun c cs _ => ?_⟩
  obtain ⟨e, w', hRe, hco⟩ := hR.2 c cs (room_wide _)
  refine ⟨e, w', ?_, hco⟩
  obtain ⟨v, rfl, hk⟩ := h e w' hRe
  exact hk
theorem act_ext {a b : Act} (hs : a.tmps.size = b.tmps.size) (hf : fr a = fr b) (hd : a.defers = b.defers) : a = b := by
  obtain ⟨t, d⟩ := a
  obtain ⟨t', d'⟩ := b
  simp only at hs hd
  subst hd
  congr 1
  apply Array.ext hs
  intro i h1 h2
  have := congrFun hf i
  simp only [fr] at this
  rw [Array.getD_eq_getD_getElem?, Array.getD_eq_getD_getElem?, Array.getElem?_eq_getElem h1, Array.getElem?_eq_getElem h2] at this
  simpa using this
theorem fr_two {t : Array Value} {ds : List Deferred} {p q : Nat} {v u : Value} (hp : p < t.size) (hq : q < t.size) : fr { tmps := (#[p, q].zip #[v, u]).foldl (fun t (p, v) => t.setIfInBounds p v) t, defers := ds } = upd (upd (fr ⟨t, ds⟩) p v) q u := by
  have h1 := fr_put (a := ⟨t, ds⟩) (d := some p) (v := v) (fun _ e => by cases e; exact hp)
  have h2 := fr_put (a := (⟨t, ds⟩ : Act).put (some p) v) (d := some q) (v := u) (fun _ e => by cases e; simpa [Act.put] using hq)
  rw [h1] at h2
  have e : (#[p, q].zip #[v, u]).foldl (fun t (p, v) => t.setIfInBounds p v) t = (t.setIfInBounds p v).setIfInBounds q u := by simp
  rw [e]
  exact h2
theorem size_two {t : Array Value} {p q : Nat} {v u : Value} : ((#[p, q].zip #[v, u]).foldl (fun t (p, v) => t.setIfInBounds p v) t).size = t.size := by simp
theorem wpIn_vcSeq {ro : Option Nat} {m n : Nat} {x y : Code} {Q : Exit → Act → World → Prop} {a : Act} (hm : P.follows .mixedOrders = true) (hfit : fits n x = true) (hs : a.tmps.size = n) (hd : a.defers = [])
    (h : vc P x (Thn (fun ρ w => ∀ a', a'.tmps.size = n → a'.defers = [] → fr a' = ρ → y.wpIn (fw ro) m P Q a' w) (fun _ _ _ => False)) (fr a) w) : (Code.seq x y).wpIn (fw ro) m P Q a w := by
  refine wpIn_seq (wpIn_mono (vc_sound hm x hfit _ a w hs hd h) fun e a' w' hq => ?_)
  obtain ⟨h1, h2, h3⟩ := hq
  cases e with
  | normal => exact h3 a' h1 h2 rfl
  | _ => exact h3.elim
theorem fr_args {args : List Value} {n : Nat} : fr { tmps := args.toArray ++ Array.replicate (n - args.toArray.size) undef, defers := [] } = arg0 args := by
  funext t
  simp only [fr, arg0]
  rcases Nat.lt_or_ge t args.length with ht | ht
  · simp [Array.getElem?_append_left, ht]
  · simp [Array.getElem?_append_right, ht]
    rcases Nat.lt_or_ge (t - args.length) (n - args.length) with h1 | h1
    · simp [h1]
    · simp [h1]
theorem vc_drawZ {Q : Exit → Fr → World → Prop} {w0 : World} {Γ : List HP} {i : Nat} {l : List Oper} (hw : Sat w0 w Γ) (hc : commB P l.toArray = true) (h : ∀ w', Kept w w' → Sat w0 w' Γ → opsW P l.toArray (Q .normal) l ρ w') : vc P (.region i l.toArray true) Q ρ w :=
  .inl ⟨hc, h _ ⟨rfl, fun _ _ => rfl⟩ hw.drew⟩
theorem wpIn_assign1 {ro : Option Nat} {m id s : Nat} {K : Act → World → Prop} {a : Act} (hm : P.follows .mixedOrders = true) (hs : d < a.tmps.size) (hd : a.defers = []) (h : K (a.put (some d) (fr a s)) w) :
    (Code.region id #[⟨some d, .assign (.tmp s), ty, pos, af, none⟩] false).wpIn (fw ro) m P (Exit.then K (fun _ _ _ => False)) a w := by
  refine wpIn_mono (vc_sound (n := a.tmps.size) hm _ (by simp [fits, opsFit, hs]) (fun e ρ' w' => e = .normal ∧ ρ' = upd (fr a) d (fr a s) ∧ w' = w) a w rfl hd ?_) fun e a' w' hq => ?_
  · refine vc_region (l := [_]) ?_
    exact step_pure rfl (pv_assign rfl) ⟨rfl, rfl, rfl⟩
  · obtain ⟨h1, h2, rfl, h3, rfl⟩ := hq
    have e : a' = a.put (some d) (fr a s) := by
      refine act_ext (by rw [size_put]; exact h1) ?_ (by rw [defers_put, hd]; exact h2)
      rw [h3, fr_put (fun t e => by cases e; exact hs)]; rfl
    rw [e]; exact h
theorem putObj_cell {W : World} {l : Nat} {o o' : Obj} {p : Addr} {v : Value} (hl : W.heap[l]? = some o) (ho : o.isCells = false) (h : W.cell? p = some v) : (W.putObj l o').cell? p = some v := by
  have hne : l ≠ p.block := fun e => by
    subst e
    simp only [World.cell?, hl] at h
    cases o <;> simp_all [Obj.isCells]
  simp only [World.cell?, World.putObj] at h ⊢
  rw [Array.getElem?_setIfInBounds_ne hne]; exact h
theorem rs_putObj {α : Type} {T : Ty α} {W : World} {l : Nat} {o o' : Obj} {s : Value} {xs : List α} (hl : W.heap[l]? = some o) (ho : o.isCells = false) (h : RS T W s xs) : RS T (W.putObj l o') s xs := by
  obtain ⟨⟨a, n, cap, hs, h1, h2, hc⟩, h3⟩ := h
  refine ⟨⟨a, n, cap, hs, h1, h2, fun i v hv => ?_⟩, h3⟩
  obtain ⟨p, hp, hsp, hcell⟩ := hc i v hv
  exact ⟨p, hp, hsp, putObj_cell hl ho hcell⟩
end
end Go.Sl
