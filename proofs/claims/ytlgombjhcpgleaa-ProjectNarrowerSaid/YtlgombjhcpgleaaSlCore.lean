/-
  A verification-condition generator over the model's structured code, with frames as functions: 'vc' and its soundness ('calls_of_vc'). Nothing here depends on one program.
-/
import Derived.OrdersIn
import Derived.KernelRfl
namespace Go.Sl

/-- A frame: what each slot holds. -/
abbrev Fr := Nat → Value
def upd (ρ : Fr) (d : Nat) (v : Value) : Fr := fun t => bif Nat.beq t d then v else ρ t
def updo (ρ : Fr) (d : Option Nat) (v : Value) : Fr := match d with | some d => upd ρ d v | none => ρ
def evl (ρ : Fr) : Operand → Value
  | .tmp t => ρ t
  | .const v => v
  | .global g => .pointer (some ⟨g, 0, none⟩)
  | .func f => .func (.func f) #[] #[]

def fr (a : Act) : Fr := fun t => a.tmps.getD t undef

theorem evl_fr (a : Act) : evl (fr a) = a.eval := by
  funext x; cases x <;> rfl

/-- What an operation is to a region that draws its order: it looks at no memory; it reads; all else. -/
inductive Cls where
  | pure | read | eff
  deriving DecidableEq
def isInt (P : Program) (t : TypeId) : Bool := match P.underlying t with | some (.int _) => true | _ => false
def cls (P : Program) : Op → Cls
  | .move _ | .assign _ | .pick .. | .binOp .. | .unOp .. | .extract .. | .fieldAddr .. | .field .. | .indexAddr .. | .index .. | .slice .. | .makeInterface .. | .makeFunc .. | .nilCheck _ | .typeAssert .. => .pure
  | .convert s d _ => if isInt P s && isInt P d then .pure else .eff
  | .call { callee := .builtin .len, argTypes, .. } => (match (argTypes[0]?).bind P.underlying with | some (.map ..) | some (.chan ..) => .read | _ => .pure)
  | .call { callee := .builtin .min, .. } | .call { callee := .builtin .max, .. } | .call { callee := .builtin .cap, .. } => .pure
  | .load .. | .lookup .. => .read
  | _ => .eff

/-- The operation yields v in every world, which it leaves as it is. -/
def PureV (P : Program) (o : Oper) (ρ : Fr) (v : Value) : Prop := ∀ w, (execOp (evl ρ) o).run P w = .ok (.value v) w
/-- The operation yields v in this world, which it leaves as it is. -/
def ReadV (P : Program) (o : Oper) (ρ : Fr) (w : World) (v : Value) : Prop := (execOp (evl ρ) o).run P w = .ok (.value v) w

def opUpon (P : Program) (K : Value → World → Prop) : Result Next → Prop
  | .ok (.value v) w => K v w
  | .ok .skip w => K undef w
  | .ok (.enter f args) w => Calls P f args w fun
      | .returned v, w' => K v w'
      | _, _ => False
  | .ok (.round l f tmps assign body) w => RoundIn Fence.wide 0 P l f tmps assign body w fun
      | .returned v, w' => K v w'
      | _, _ => False
  | _ => False
def opW (P : Program) (o : Oper) (ρ : Fr) (w : World) (K : Value → World → Prop) : Prop := opUpon P K ((execOp (evl ρ) o).run P w)

def opV (P : Program) (o : Oper) (ρ : Fr) (w : World) (K : Fr → World → Prop) : Prop :=
  match cls P o.op with
  | .pure => ∃ v, PureV P o ρ v ∧ K (updo ρ o.dst v) w
  | .read => ∃ v, ReadV P o ρ w v ∧ K (updo ρ o.dst v) w
  | .eff => opW P o ρ w fun v w' => K (updo ρ o.dst v) w'

def asks (v : Value) (want : Bool) : Bool := match v with | .bool b => b == want | _ => false
def gslot (ops : Array Oper) (j : Nat) : Option Nat := (ops[j]?).bind (·.dst)
def guardB (ops : Array Oper) (ρ : Fr) (g : Nat × Bool) : Bool := match gslot ops g.1 with | some t => asks (ρ t) g.2 | none => false

def opsW (P : Program) (ops : Array Oper) (K : Fr → World → Prop) : List Oper → Fr → World → Prop
  | [], ρ, w => K ρ w
  | o :: r, ρ, w =>
    match o.guard with
    | none => opV P o ρ w (opsW P ops K r)
    | some g => (guardB ops ρ g = true → opV P o ρ w (opsW P ops K r)) ∧ (guardB ops ρ g = false → opsW P ops K r (updo ρ o.dst undef) w)

def Thn (next : Fr → World → Prop) (Q : Exit → Fr → World → Prop) : Exit → Fr → World → Prop
  | .normal, ρ, w => next ρ w
  | e, ρ, w => Q e ρ w
def Blk (id : Nat) (Q : Exit → Fr → World → Prop) : Exit → Fr → World → Prop
  | .exit i, ρ, w => if i = id then Q .normal ρ w else Q (.exit i) ρ w
  | e, ρ, w => Q e ρ w

/-- Which operations may come up before which: the transitive predecessors. -/
def compatB (P : Program) (a b : Op) : Bool :=
  match cls P a, cls P b with
  | .pure, _ | _, .pure => true
  | .read, .read => true
  | _, _ => false
def commPair (P : Program) (ops : Array Oper) (bef : Array Nat) (i j : Nat) : Bool :=
  (bef.getD j 0).testBit i || match ops[i]?, ops[j]? with
    | some oi, some oj => oi.apart ops oj && compatB P oi.op oj.op
    | _, _ => true
def closedB (ops : Array Oper) (bef : Array Nat) : Bool :=
  (List.range ops.size).all fun j => (List.range ops.size).all fun i => !(bef.getD j 0).testBit i ||
    match ops[j]? with
    | some oj => oj.after.any fun e => Region.binds .any e && (e.on == i || (bef.getD e.on 0).testBit i)
    | none => false
def commB (P : Program) (ops : Array Oper) : Bool :=
  let bef := Region.before ops
  Region.noSelect ops && closedB ops bef && (List.range ops.size).all (fun j => (List.range j).all fun i => commPair P ops bef i j) &&
  (List.range ops.size).all fun j => match ops[j]? with
    | some oj => oj.after.all (fun e => !Region.binds .any e || decide (e.on < j)) && decide (bef.getD j 0 < 2 ^ ops.size) && decide (bef.size ≤ ops.size)
    | none => true

/-- A step of a plan: carry out operation i; look again at operation i. -/
inductive Item where
  | op (i : Nat)
  | chk (i : Nat)
  deriving DecidableEq

section
variable (P : Program) (ops : Array Oper)
def clsI (i : Nat) : Cls := match ops[i]? with | some o => cls P o.op | none => .pure
def bfr (i j : Nat) : Bool := ((Region.before ops).getD j 0).testBit i
/-- The reads that nothing orders against operation j. -/
def loose (j : Nat) : List Nat := (List.range ops.size).filter fun i => clsI P ops i == .read && !(i == j) && !bfr ops i j && !bfr ops j i
def itemsOf (π : List Nat) : List Item := π.flatMap fun i => Item.op i :: (match clsI P ops i with | .eff => (loose P ops i).map Item.chk | _ => [])
def opIdx : List Item → List Nat
  | [] => []
  | .op i :: r => i :: opIdx r
  | .chk _ :: r => opIdx r
def compat2 (a b : Cls) : Bool := match a, b with | .pure, _ | _, .pure => true | .read, .read | .read, .eff => true | _, _ => false
def pair2 (i j : Nat) : Bool := bfr ops i j || match ops[i]?, ops[j]? with | some oi, some oj => oi.apart ops oj && compat2 (cls P oi.op) (cls P oj.op) | _, _ => false
def pairs2 : List Nat → Bool
  | [] => true
  | i :: r => r.all (fun j => pair2 P ops i j) && pairs2 r
def readyAlong : List Nat → List Nat → Bool
  | _, [] => true
  | done, i :: r => (match ops[i]? with | some o => o.after.all fun e => !Region.binds .any e || done.contains e.on | none => false) && readyAlong (i :: done) r
def solid2 (r k : Nat) : Bool := k == r || bfr ops k r || match ops[r]?, ops[k]? with
  | some or_, some ok => (match ok.dst with | some d => !(or_.looksAt ops).contains d && or_.dst != some d | none => true)
  | _, _ => true
def planB (is : List Item) : Bool :=
  decide (is = itemsOf P ops (opIdx is)) && Region.noSelect ops && closedB ops (Region.before ops) &&
  decide ((opIdx is).length = ops.size) && (opIdx is).all (fun i => decide (i < ops.size)) && decide ((opIdx is).Nodup) &&
  readyAlong ops [] (opIdx is) && pairs2 P ops (opIdx is) &&
  (List.range ops.size).all (fun r => !(clsI P ops r == .read) || (List.range ops.size).all fun k => solid2 ops r k) &&
  ops.all (fun o => !(cls P o.op == .read) || (match o.dst with | some d => !(o.looksAt ops).contains d | none => false)) &&
  (List.range ops.size).all (fun j => decide ((Region.before ops).getD j 0 < 2 ^ ops.size)) && decide ((Region.before ops).size ≤ ops.size) && (List.range ops.size).all fun j => (opIdx is).contains j
end

def opsD (P : Program) (ops : Array Oper) (K : Fr → World → Prop) : List Item → Fr → World → Prop
  | [], ρ, w => K ρ w
  | .op i :: r, ρ, w => (match ops[i]? with | some o => opsW P ops (opsD P ops K r) [o] ρ w | none => False)
  | .chk i :: r, ρ, w => (match ops[i]? with
      | some o => (match o.guard with
          | none => ∀ d, o.dst = some d → ReadV P o ρ w (ρ d)
          | some g => guardB ops ρ g = true → ∀ d, o.dst = some d → ReadV P o ρ w (ρ d))
      | none => False) ∧ opsD P ops K r ρ w


/-- A tree of plans: where several operations may come up next and do not commute, each is tried. -/
inductive PT where
  | lin (is : List Item)
  | step (i : Nat) (is : List Item) (t : PT)
  | alt (i : Nat) (is : List Item) (t : PT) (more : PT)
  | stop
def opsT (P : Program) (ops : Array Oper) (K : Fr → World → Prop) : PT → Fr → World → Prop
  | .lin is, ρ, w => opsD P ops K is ρ w
  | .step _ is t, ρ, w => opsD P ops (opsT P ops K t) is ρ w
  | .alt _ is t m, ρ, w => opsD P ops (opsT P ops K t) is ρ w ∧ opsT P ops K m ρ w
  | .stop, _, _ => True
def baseB (P : Program) (ops : Array Oper) : Bool :=
  Region.noSelect ops && closedB ops (Region.before ops) &&
  (List.range ops.size).all (fun r => !(clsI P ops r == .read) || (List.range ops.size).all fun k => solid2 ops r k) &&
  ops.all (fun o => !(cls P o.op == .read) || (match o.dst with | some d => !(o.looksAt ops).contains d | none => false)) &&
  (List.range ops.size).all (fun j => decide ((Region.before ops).getD j 0 < 2 ^ ops.size)) && decide ((Region.before ops).size ≤ ops.size)
def readyB (ops : Array Oper) (dn : List Nat) (i : Nat) : Bool := match ops[i]? with | some o => o.after.all fun e => !Region.binds .any e || dn.contains e.on | none => false
def treeB (P : Program) (ops : Array Oper) : List Nat → List Nat → PT → Bool
  | dn, seen, .lin is => seen.isEmpty && decide (is = itemsOf P ops (opIdx is)) && decide ((opIdx is).length + dn.length = ops.size) && (opIdx is).all (fun i => decide (i < ops.size) && !dn.contains i) && decide ((opIdx is).Nodup) && readyAlong ops dn (opIdx is) && pairs2 P ops (opIdx is) && (List.range ops.size).all fun j => dn.contains j || (opIdx is).contains j
  | dn, seen, .step i is t => seen.isEmpty && decide (is = itemsOf P ops [i]) && decide (dn.length < ops.size) && !dn.contains i && readyB ops dn i && (List.range ops.size).all (fun j => dn.contains j || j == i || pair2 P ops i j) && treeB P ops (i :: dn) [] t
  | dn, seen, .alt i is t m => decide (is = itemsOf P ops [i]) && decide (dn.length < ops.size) && !dn.contains i && readyB ops dn i && treeB P ops (i :: dn) [] t && treeB P ops dn (i :: seen) m
  | dn, seen, .stop => !seen.isEmpty && (List.range ops.size).all fun j => dn.contains j || seen.contains j || !readyB ops dn j

def vc (P : Program) : Code → (Exit → Fr → World → Prop) → Fr → World → Prop
  | .skip, Q, ρ, w => Q .normal ρ w
  | .label _, Q, ρ, w => Q .normal ρ w
  | .seq a b, Q, ρ, w => vc P a (Thn (vc P b Q) Q) ρ w
  | .cond c x y, Q, ρ, w => ∃ t, evl ρ c = .bool t ∧ (t = true → vc P x Q ρ w) ∧ (t = false → vc P y Q ρ w)
  | .block id c, Q, ρ, w => vc P c (Blk id Q) ρ w
  | .loop c, Q, ρ, w => ∃ (I : Nat → Fr → World → Prop), (∃ m, I m ρ w) ∧ ∀ m ρ w, I m ρ w → vc P c (Thn (fun ρ' w' => ∃ m', m' < m ∧ I m' ρ' w') Q) ρ w
  | .exit id, Q, ρ, w => Q (.exit id) ρ w
  | .ret, Q, ρ, w => Q .ret ρ w
  | .region _ ops false, Q, ρ, w => opsW P ops (Q .normal) ops.toList ρ w
  | .region _ ops true, Q, ρ, w => (commB P ops = true ∧ opsW P ops (Q .normal) ops.toList ρ { w with drawn := w.drawn + 1 }) ∨ (∃ is, planB P ops is = true ∧ opsD P ops (Q .normal) is ρ { w with drawn := w.drawn + 1 }) ∨ ∃ T, baseB P ops = true ∧ treeB P ops [] [] T = true ∧ opsT P ops (Q .normal) T ρ { w with drawn := w.drawn + 1 }
  | _, _, _, _ => False

/-- Every slot that the code writes lies in the frame. -/
def opsFit (n : Nat) (ops : Array Oper) : Bool := ops.all fun o => match o.dst with | some d => decide (d < n) | none => true
def fits (n : Nat) : Code → Bool
  | .seq a b => fits n a && fits n b
  | .cond _ x y => fits n x && fits n y
  | .block _ c => fits n c
  | .loop c => fits n c
  | .region _ ops _ => opsFit n ops
  | _ => true

theorem fr_put {a : Act} {d : Option Nat} {v : Value} (h : ∀ t, d = some t → t < a.tmps.size) : fr (a.put d v) = updo (fr a) d v := by
  cases d with
  | none => rfl
  | some d =>
    funext t
    have hd := h d rfl
    simp only [fr, Act.put, updo, upd]
    by_cases htd : t = d
    · subst htd; simp [hd]
    · have : Nat.beq t d = false := by cases hb : Nat.beq t d with | false => rfl | true => exact absurd (Nat.eq_of_beq_eq_true hb) htd
      rw [this]; simp [Array.getElem?_setIfInBounds_ne (Ne.symm htd)]

theorem size_put (a : Act) (d : Option Nat) (v : Value) : (a.put d v).tmps.size = a.tmps.size := by cases d <;> simp [Act.put]
theorem defers_put (a : Act) (d : Option Nat) (v : Value) : (a.put d v).defers = a.defers := by cases d <;> rfl

theorem wanted_guardB {ops : Array Oper} {a : Act} {o : Oper} {g : Nat × Bool} (hg : o.guard = some g) :
    Region.wanted o (yielded ops a.tmps) = guardB ops (fr a) g := by
  obtain ⟨j, want⟩ := g
  simp only [Region.wanted, hg, guardB, gslot, yielded, fr, asks]
  cases (ops[j]?).bind (·.dst) with
  | none => simp
  | some t =>
    simp only [Option.bind_some]
    cases ht : a.tmps[t]? with
    | none => simp [ht, undef]
    | some v => simp [ht]; cases v <;> simp

section
variable {P : Program}

/-- What a walk in text order keeps: the frame's size, no deferred calls. -/
def Ok (n : Nat) (K : Fr → World → Prop) (a : Act) (w : World) : Prop := a.tmps.size = n ∧ a.defers = [] ∧ K (fr a) w
def OkQ (n : Nat) (Q : Exit → Fr → World → Prop) (e : Exit) (a : Act) (w : World) : Prop := a.tmps.size = n ∧ a.defers = [] ∧ Q e (fr a) w

theorem opUpon_mono {K K' : Value → World → Prop} (h : ∀ v w, K v w → K' v w) {r : Result Next} (hr : opUpon P K r) : opUpon P K' r := by
  unfold opUpon at *
  split at hr
  · exact h _ _ hr
  · exact h _ _ hr
  · exact Calls.mono hr fun e w' he => by cases e <;> first | exact h _ _ he | exact he
  · exact RoundIn.mono hr fun e w' he => by cases e <;> first | exact h _ _ he | exact he
  · exact hr.elim

theorem opW_of_opV {o : Oper} {ρ : Fr} {w : World} {K : Fr → World → Prop} (h : opV P o ρ w K) : opW P o ρ w fun v w' => K (updo ρ o.dst v) w' := by
  unfold opV at h
  split at h
  · obtain ⟨v, hv, hk⟩ := h; unfold opW; rw [hv w]; exact hk
  · obtain ⟨v, hv, hk⟩ := h; unfold opW; rw [hv]; exact hk
  · exact h

/-- The widest fence, in a round or in none. -/
def fw (ro : Option Nat) : Fence := { Fence.wide with round := ro }
theorem callsIn_fw {ro : Option Nat} {m : Nat} {f : FuncId} {args : Array Value} {w : World} {R : Ending → World → Prop} (h : Calls P f args w R) : CallsIn (fw ro) m P f args w R := (callsIn_wide (n := m)).2 h
theorem roundIn_fw {ro : Option Nat} {m l : Nat} {f : FuncId} {tmps : Array Value} {assign body : Code} {w : World} {R : Ending → World → Prop} (h : RoundIn Fence.wide 0 P l f tmps assign body w R) : RoundIn (fw ro) m P l f tmps assign body w R :=
  ⟨h.1, fun c cs _ => h.2 c cs (room_wide _)⟩
theorem opW_noDefer {o : Oper} {ρ : Fr} {w : World} {K : Value → World → Prop} (h : opW P o ρ w K) : ∀ c, o.op ≠ .defer c := by
  intro c hc
  unfold opW execOp at h
  simp only [hc] at h
  simp only [Sem.run_bind] at h
  generalize (resolve (evl ρ) c o.type).run P w = r at h
  cases r <;> exact h
theorem wp_of_opW {ro : Option Nat} {m : Nat} {o : Oper} {a : Act} {w : World} {K : Value → World → Prop} {Q : Exit → Act → World → Prop}
    (h : opW P o (fr a) w K) : o.wpIn (fw ro) m P a w (fun a' w' => ∃ v, a' = a.put o.dst v ∧ K v w') Q := by
  refine ⟨fun _ _ => trivial, ?_⟩
  rw [Oper.semAt_eq _ _ _ (opW_noDefer h)]
  unfold opW at h
  rw [evl_fr] at h
  generalize (execOp a.eval o).run P w = r at *
  unfold opUpon at h
  split at h
  · exact ⟨_, rfl, h⟩
  · exact ⟨_, rfl, h⟩
  · refine ⟨fun hd => absurd hd (by simp [fw, Fence.wide]), CallsIn.mono (callsIn_fw h) fun e w' he => ?_⟩
    cases e with
    | returned v => exact ⟨_, rfl, he⟩
    | panicked c => exact he.elim
    | outgrown => exact he.elim
  · refine ⟨fun hd => absurd hd (by simp [fw, Fence.wide]), RoundIn.mono (roundIn_fw h) fun e w' he => ?_⟩
    cases e with
    | returned v => exact ⟨_, rfl, he⟩
    | panicked c => exact he.elim
    | outgrown => exact he.elim
  · exact h.elim

/-! ### A region that draws its order: the walk in the order of the text serves every order -/

def opVA (P : Program) (o : Oper) (a : Act) (w : World) (K : Act → World → Prop) : Prop :=
  match cls P o.op with
  | .pure => ∃ v, (∀ w, (execOp a.eval o).run P w = .ok (.value v) w) ∧ K (a.put o.dst v) w
  | .read => ∃ v, (execOp a.eval o).run P w = .ok (.value v) w ∧ K (a.put o.dst v) w
  | .eff => opUpon P (fun v w' => K (a.put o.dst v) w') ((execOp a.eval o).run P w)
def cOp (P : Program) (ops : Array Oper) (o : Oper) (K : Act → World → Prop) (a : Act) (w : World) : Prop :=
  (Region.wanted o (yielded ops a.tmps) = true → opVA P o a w K) ∧ (Region.wanted o (yielded ops a.tmps) = false → K (a.put o.dst undef) w)

theorem opVA_mono {o : Oper} {a : Act} {w : World} {K K' : Act → World → Prop} (h : ∀ u w', K (a.put o.dst u) w' → K' (a.put o.dst u) w') (hh : opVA P o a w K) : opVA P o a w K' := by
  unfold opVA at *
  split at hh
  · obtain ⟨v, h1, h2⟩ := hh; exact ⟨v, h1, h _ _ h2⟩
  · obtain ⟨v, h1, h2⟩ := hh; exact ⟨v, h1, h _ _ h2⟩
  · exact opUpon_mono (fun v w' => h v w') hh
theorem cOp_mono {ops : Array Oper} {o : Oper} {a : Act} {w : World} {K K' : Act → World → Prop} (h : ∀ u w', K (a.put o.dst u) w' → K' (a.put o.dst u) w') (hh : cOp P ops o K a w) : cOp P ops o K' a w :=
  ⟨fun hw => opVA_mono h (hh.1 hw), fun hw => h _ _ (hh.2 hw)⟩

theorem opUpon_some {K : Value → World → Prop} {r : Result Next} (h : opUpon P K r) : ∃ v w', K v w' := by
  unfold opUpon at h
  split at h
  · exact ⟨_, _, h⟩
  · exact ⟨_, _, h⟩
  · obtain ⟨e, w', fr', hR, _⟩ := h []
    cases e with
    | returned v => exact ⟨_, _, hR⟩
    | panicked c => exact hR.elim
    | outgrown => exact hR.elim
  · obtain ⟨e, w', hR, _⟩ := h.2 default [] (room_wide _)
    cases e with
    | returned v => exact ⟨_, _, hR⟩
    | panicked c => exact hR.elim
    | outgrown => exact hR.elim
  · exact h.elim
theorem opVA_some {o : Oper} {a : Act} {w : World} {K : Act → World → Prop} (h : opVA P o a w K) : ∃ v w', K (a.put o.dst v) w' := by
  unfold opVA at h
  split at h
  · obtain ⟨v, _, h2⟩ := h; exact ⟨_, _, h2⟩
  · obtain ⟨v, _, h2⟩ := h; exact ⟨_, _, h2⟩
  · exact opUpon_some h
theorem cOp_some {ops : Array Oper} {o : Oper} {a : Act} {w : World} {K : Act → World → Prop} (h : cOp P ops o K a w) : ∃ v w', K (a.put o.dst v) w' := by
  cases hw : Region.wanted o (yielded ops a.tmps) with
  | true => exact opVA_some (h.1 hw)
  | false => exact ⟨_, _, h.2 hw⟩

theorem opVA_put {ops : Array Oper} {oi oj : Oper} {v : Value} (hap : oi.apart ops oj = true) (hsj : ∀ cs b, oj.op ≠ .select cs b) {K : Act → World → Prop} {a : Act} {w : World}
    (h : opVA P oj (a.put oi.dst v) w K) : opVA P oj a w fun a' w' => K (a'.put oi.dst v) w' := by
  obtain ⟨h1, h2, h3⟩ := Oper.apart_spec hap
  unfold opVA at *
  rw [execOp_put oj hsj a oi.dst v h1] at h
  split
  · rename_i hc; simp only [hc] at h
    obtain ⟨u, hu, hk⟩ := h; exact ⟨u, hu, (by have hk' := hk; rw [Act.put_comm a v u h2] at hk'; exact hk')⟩
  · rename_i hc; simp only [hc] at h
    obtain ⟨u, hu, hk⟩ := h; exact ⟨u, hu, (by have hk' := hk; rw [Act.put_comm a v u h2] at hk'; exact hk')⟩
  · rename_i hc; simp only [hc] at h
    exact opUpon_mono (fun u w' hk => (by have hk' := hk; rw [Act.put_comm a v u h2] at hk'; exact hk')) h
theorem cOp_put {ops : Array Oper} {oi oj : Oper} {v : Value} (hap : oi.apart ops oj = true) (hsj : ∀ cs b, oj.op ≠ .select cs b) {K : Act → World → Prop} {a : Act} {w : World}
    (h : cOp P ops oj K (a.put oi.dst v) w) : cOp P ops oj (fun a' w' => K (a'.put oi.dst v) w') a w := by
  obtain ⟨h1, h2, h3⟩ := Oper.apart_spec hap
  unfold cOp at *
  rw [wanted_put oj a oi.dst v h1] at h
  exact ⟨fun hw => opVA_put hap hsj (h.1 hw), fun hw => (by have hk' := h.2 hw; rw [Act.put_comm a v undef h2] at hk'; exact hk')⟩

theorem cOp_swap {ops : Array Oper} {oi oj : Oper} (hap : oi.apart ops oj = true) (hco : compatB P oi.op oj.op = true) (hsi : ∀ cs b, oi.op ≠ .select cs b) (hsj : ∀ cs b, oj.op ≠ .select cs b)
    {K : Act → World → Prop} {a : Act} {w : World} (h : cOp P ops oi (cOp P ops oj K) a w) : cOp P ops oj (cOp P ops oi K) a w := by
  obtain ⟨h1, h2, h3⟩ := Oper.apart_spec hap
  have wi : ∀ u, Region.wanted oi (yielded ops (a.put oj.dst u).tmps) = Region.wanted oi (yielded ops a.tmps) := fun u => wanted_put oi a oj.dst u h3
  have wj : ∀ u, Region.wanted oj (yielded ops (a.put oi.dst u).tmps) = Region.wanted oj (yielded ops a.tmps) := fun u => wanted_put oj a oi.dst u h1
  have ei : ∀ u, execOp (a.put oj.dst u).eval oi = execOp a.eval oi := fun u => execOp_put oi hsi a oj.dst u h3
  have ej : ∀ u, execOp (a.put oi.dst u).eval oj = execOp a.eval oj := fun u => execOp_put oj hsj a oi.dst u h1
  cases hwi : Region.wanted oi (yielded ops a.tmps) with
  | false =>
    refine cOp_mono (fun u w' hk => ?_) (cOp_put hap hsj (h.2 hwi))
    exact ⟨fun hw => (by rw [wi u, hwi] at hw; cases hw), fun _ => hk⟩
  | true =>
    have hi := h.1 hwi
    cases hwj : Region.wanted oj (yielded ops a.tmps) with
    | false =>
      refine ⟨fun hw => (by rw [hwj] at hw; cases hw), fun _ => ⟨fun _ => ?_, fun hw => (by rw [wi, hwi] at hw; cases hw)⟩⟩
      have hi' : opVA P oi a w fun a' w' => K (a'.put oj.dst undef) w' := opVA_mono (fun u w' hk => hk.2 (by rw [wj u, hwj])) hi
      unfold opVA at hi' ⊢
      rw [ei]
      split
      · rename_i hc; simp only [hc] at hi'; obtain ⟨v, hv, hk⟩ := hi'; exact ⟨v, hv, (by have hk' := hk; rw [Act.put_comm a v undef h2] at hk'; exact hk')⟩
      · rename_i hc; simp only [hc] at hi'; obtain ⟨v, hv, hk⟩ := hi'; exact ⟨v, hv, (by have hk' := hk; rw [Act.put_comm a v undef h2] at hk'; exact hk')⟩
      · rename_i hc; simp only [hc] at hi'; exact opUpon_mono (fun v w' hk => (by have hk' := hk; rw [Act.put_comm a v undef h2] at hk'; exact hk')) hi'
    | true =>
      refine ⟨fun _ => ?_, fun hw => (by rw [hwj] at hw; cases hw)⟩
      have hi' : opVA P oi a w fun a' w' => opVA P oj a' w' K := opVA_mono (fun u w' hk => hk.1 (by rw [wj u, hwj])) hi
      have done : opVA P oj a w (fun a' w' => opVA P oi a' w' K) → opVA P oj a w (cOp P ops oi K) := opVA_mono (fun u w' hk => ⟨fun _ => hk, fun hw => (by rw [wi u, hwi] at hw; cases hw)⟩)
      refine done ?_
      clear hi h done
      cases hci : cls P oi.op with
      | pure =>
        unfold opVA at hi'
        simp only [hci] at hi'
        obtain ⟨v, hv, hk⟩ := hi'
        refine opVA_mono (fun u w' hk => ?_) (opVA_put hap hsj (K := K) (v := v) hk)
        unfold opVA; simp only [hci]; rw [ei u]; exact ⟨v, hv, hk⟩
      | read =>
        cases hcj : cls P oj.op with
        | pure =>
          unfold opVA at hi' ⊢
          simp only [hci, hcj] at hi' ⊢
          obtain ⟨v, hv, u, hu, hk⟩ := hi'
          rw [ej v] at hu
          exact ⟨u, hu, v, by rw [ei u]; exact hv, (by have hk' := hk; rw [Act.put_comm a v u h2] at hk'; exact hk')⟩
        | read =>
          unfold opVA at hi' ⊢
          simp only [hci, hcj] at hi' ⊢
          obtain ⟨v, hv, u, hu, hk⟩ := hi'
          rw [ej v] at hu
          exact ⟨u, hu, v, by rw [ei u]; exact hv, (by have hk' := hk; rw [Act.put_comm a v u h2] at hk'; exact hk')⟩
        | eff => simp [compatB, hci, hcj] at hco
      | eff =>
        cases hcj : cls P oj.op with
        | pure =>
          unfold opVA at hi' ⊢
          simp only [hci, hcj] at hi' ⊢
          obtain ⟨v0, w0, u, hu, _⟩ := opUpon_some hi'
          rw [ej v0] at hu
          refine ⟨u, hu, ?_⟩
          rw [ei u]
          refine opUpon_mono (fun v w' hk => ?_) hi'
          obtain ⟨u', hu', hk⟩ := hk
          rw [ej v] at hu'
          have he := (hu w').symm.trans (hu' w')
          simp only [Result.ok.injEq, Next.value.injEq, and_true] at he
          subst he
          rw [← Act.put_comm a v u h2]; exact hk
        | read => simp [compatB, hci, hcj] at hco
        | eff => simp [compatB, hci, hcj] at hco

def cOpI (P : Program) (ops : Array Oper) (i : Nat) (K : Act → World → Prop) (a : Act) (w : World) : Prop :=
  match ops[i]? with
  | none => K a w
  | some o => cOp P ops o K a w
def wpAnyC (P : Program) (ops : Array Oper) (K : Act → World → Prop) : Nat → Array Bool → Act → World → Prop
  | 0, listed, a, w => Region.ready .any ops listed = [] ∧ K a w
  | fuel + 1, listed, a, w => (Region.ready .any ops listed = [] → K a w) ∧
    ∀ i ∈ Region.ready .any ops listed, cOpI P ops i (wpAnyC P ops K fuel (listed.setIfInBounds i true)) a w

theorem wpOp_of_cOp {ops : Array Oper} {i : Nat} {K : Act → World → Prop} {Q : Exit → Act → World → Prop} {a : Act} {w : World} {ro : Option Nat} {m : Nat} (h : cOpI P ops i K a w) : wpOpIn (fw ro) m P ops Q i K a w := by
  unfold cOpI at h; unfold wpOpIn
  split
  · rename_i ho; simp only [ho] at h; exact h
  · rename_i o ho
    simp only [ho] at h
    split
    · rename_i hw
      have hv := h.1 hw
      have h2 : opW P o (fr a) w fun v w' => K (a.put o.dst v) w' := by
        unfold opW; rw [evl_fr]
        unfold opVA at hv
        split at hv
        · obtain ⟨v, hv, hk⟩ := hv; rw [hv w]; exact hk
        · obtain ⟨v, hv, hk⟩ := hv; rw [hv]; exact hk
        · exact hv
      exact Oper.wpIn_mono (fun a' w' ⟨v, e, hk⟩ => by subst e; exact hk) (wp_of_opW h2)
    · rename_i hw; exact ⟨fun _ _ => trivial, h.2 (by simpa using hw)⟩
theorem wpAny_of_C {ro : Option Nat} {m : Nat} {ops : Array Oper} {K : Act → World → Prop} {Q : Exit → Act → World → Prop} (hQ : ∀ a w, K a w → Q .normal a w) : ∀ (fuel : Nat) (listed : Array Bool) (a : Act) (w : World),
    wpAnyC P ops K fuel listed a w → wpAnyIn (fw ro) m P .any ops Q fuel listed a w
  | 0, _, _, _, h => ⟨h.1, hQ _ _ h.2⟩
  | fuel + 1, _, _, _, h => ⟨fun h0 => hQ _ _ (h.1 h0), fun i hi => wpOp_of_cOp (by
      have := h.2 i hi
      unfold cOpI at this ⊢
      split
      · rename_i ho; simp only [ho] at this; exact wpAny_of_C hQ fuel _ _ _ this
      · rename_i o ho; simp only [ho] at this; exact cOp_mono (fun u w' hk => wpAny_of_C hQ fuel _ _ _ hk) this)⟩

/-- What has come up is closed under 'comes before'. -/
def Down (ops : Array Oper) (listed : Array Bool) : Prop := ∀ j i, listed.getD j false = true → ((Region.before ops).getD j 0).testBit i = true → listed.getD i false = true

theorem closed_spec {ops : Array Oper} (hc : closedB ops (Region.before ops) = true) {i j : Nat} {oj : Oper} (hj : ops[j]? = some oj) (hi : i < ops.size) (hb : ((Region.before ops).getD j 0).testBit i = true) :
    ∃ e ∈ oj.after, Region.binds .any e = true ∧ (e.on = i ∨ ((Region.before ops).getD e.on 0).testBit i = true) := by
  have hjl : j < ops.size := (Array.getElem?_eq_some_iff.1 hj).1
  have h1 := List.all_eq_true.1 (List.all_eq_true.1 hc j (List.mem_range.2 hjl)) i (List.mem_range.2 hi)
  simp only [hb, Bool.not_true, Bool.false_or, hj] at h1
  obtain ⟨e, he, hb'⟩ := Array.any_eq_true'.1 h1
  simp only [Bool.and_eq_true, Bool.or_eq_true, beq_iff_eq] at hb'
  exact ⟨e, he, hb'.1, hb'.2⟩

theorem getD_false_of {listed : Array Bool} {i : Nat} (h : listed.getD i true = false) : listed.getD i false = false ∧ i < listed.size := by
  rcases Nat.lt_or_ge i listed.size with h' | h'
  · simp [h'] at h ⊢; exact h
  · simp [Array.getElem?_eq_none h'] at h

theorem not_before {ops : Array Oper} (hc : closedB ops (Region.before ops) = true) {listed : Array Bool} (hd : Down ops listed) (hs : listed.size = ops.size) {i j : Nat} (hi : listed.getD i true = false)
    (hj : j ∈ Region.ready .any ops listed) : ((Region.before ops).getD j 0).testBit i = false := by
  obtain ⟨_, oj, hoj, hall⟩ := mem_ready.1 hj
  cases hb : ((Region.before ops).getD j 0).testBit i with
  | false => rfl
  | true =>
    obtain ⟨hi0, hil⟩ := getD_false_of hi
    obtain ⟨e, he, hbind, hon⟩ := closed_spec hc hoj (by omega) hb
    have hl := hall e he hbind
    rcases hon with rfl | hon
    · rw [hi0] at hl; cases hl
    · have := hd _ _ hl hon
      rw [hi0] at this; cases this

theorem down_set {ops : Array Oper} (hc : closedB ops (Region.before ops) = true) {listed : Array Bool} (hd : Down ops listed) {j : Nat} (hj : j ∈ Region.ready .any ops listed)
    (hbl : ∀ k i, ((Region.before ops).getD k 0).testBit i = true → i < ops.size) : Down ops (listed.setIfInBounds j true) := by
  obtain ⟨_, oj, hoj, hall⟩ := mem_ready.1 hj
  intro k i hk hb
  by_cases hjk : j = k
  · subst hjk
    obtain ⟨e, he, hbind, hon⟩ := closed_spec hc hoj (hbl _ _ hb) hb
    have hl := hall e he hbind
    rcases hon with rfl | hon
    · exact getD_set_true hl
    · exact getD_set_true (hd _ _ hl hon)
  · rw [getD_set_ne false hjk] at hk
    exact getD_set_true (hd _ _ hk hb)

theorem wpAnyC_first {ops : Array Oper} {K : Act → World → Prop} (hc : closedB ops (Region.before ops) = true) (hbl : ∀ k i, ((Region.before ops).getD k 0).testBit i = true → i < ops.size)
    (hsel : ∀ (j : Nat) (o : Oper) cs b, ops[j]? = some o → o.op ≠ .select cs b) {i : Nat} {oi : Oper} (hi : ops[i]? = some oi) :
    ∀ (fuel : Nat) (listed : Array Bool) (a : Act) (w : World), listed.size = ops.size → Down ops listed →
      (∀ j oj, ops[j]? = some oj → j ≠ i → listed.getD j true = false → ((Region.before ops).getD j 0).testBit i = false → oi.apart ops oj = true ∧ compatB P oi.op oj.op = true) →
      i ∈ Region.ready .any ops listed → cOp P ops oi (wpAnyC P ops K fuel (listed.setIfInBounds i true)) a w → wpAnyC P ops K (fuel + 1) listed a w := by
  intro fuel
  induction fuel with
  | zero =>
    intro listed a w hs hd hfree hr H
    refine ⟨fun h => (by rw [h] at hr; cases hr), fun j hj => ?_⟩
    by_cases hji : j = i
    · subst hji; unfold cOpI; rw [hi]; exact H
    · obtain ⟨v, w', hk⟩ := cOp_some H
      have := ready_mono hj hji
      rw [hk.1] at this; cases this
  | succ fuel ih =>
    intro listed a w hs hd hfree hr H
    refine ⟨fun h => (by rw [h] at hr; cases hr), fun j hj => ?_⟩
    by_cases hji : j = i
    · subst hji; unfold cOpI; rw [hi]; exact H
    · obtain ⟨hjun, oj, hoj, _⟩ := mem_ready.1 hj
      have hun := (mem_ready.1 hr).1
      have hnb := not_before hc hd hs hun hj
      obtain ⟨hap, hco⟩ := hfree j oj hoj hji hjun hnb
      have h1 : cOp P ops oi (cOp P ops oj (wpAnyC P ops K fuel ((listed.setIfInBounds i true).setIfInBounds j true))) a w :=
        cOp_mono (fun u w' hk => by have := hk.2 j (ready_mono hj hji); unfold cOpI at this; rw [hoj] at this; exact this) H
      have h2 := cOp_swap hap hco (fun cs b => hsel i oi cs b hi) (fun cs b => hsel j oj cs b hoj) h1
      unfold cOpI; rw [hoj]
      refine cOp_mono (fun u w' hk => ?_) h2
      rw [Array.setIfInBounds_comm _ _ (Ne.symm hji)] at hk
      refine ih (listed.setIfInBounds j true) _ w' (by simpa using hs) (down_set hc hd hj hbl) (fun k ok hok hki hkun hkb => hfree k ok hok hki ?_ hkb) (ready_mono hr (Ne.symm hji)) hk
      by_cases hjk : j = k
      · subst hjk; exact hjun
      · rw [getD_set_ne true hjk] at hkun; exact hkun

def firstK (ops : Array Oper) (k : Nat) (listed : Array Bool) : Prop := listed.size = ops.size ∧ ∀ j, j < ops.size → ∀ d, listed.getD j d = decide (j < k)

theorem before_lt {ops : Array Oper} (hc : closedB ops (Region.before ops) = true) (hlt : ∀ j oj, ops[j]? = some oj → ∀ e ∈ oj.after, Region.binds .any e = true → e.on < j) :
    ∀ j i, i < ops.size → j < ops.size → ((Region.before ops).getD j 0).testBit i = true → i < j := by
  intro j
  induction j using Nat.strongRecOn with
  | _ j ih =>
    intro i hi hj hb
    obtain ⟨oj, hoj⟩ : ∃ oj, ops[j]? = some oj := ⟨ops[j], by simp [hj]⟩
    obtain ⟨e, he, hbind, hon⟩ := closed_spec hc hoj hi hb
    have hl := hlt j oj hoj e he hbind
    rcases hon with rfl | hon
    · exact hl
    · exact Nat.lt_trans (ih e.on hl i hi (by omega) hon) hl

theorem cOp_of_opsW {ops : Array Oper} {o : Oper} {r : List Oper} {K : Fr → World → Prop} {n : Nat} {a : Act} {w : World} (hfit : ∀ d, o.dst = some d → d < n)
    (hs : a.tmps.size = n) (hd : a.defers = []) (h : opsW P ops K (o :: r) (fr a) w) : cOp P ops o (fun a' w' => a'.tmps.size = n ∧ a'.defers = [] ∧ opsW P ops K r (fr a') w') a w := by
  have hput : ∀ v, fr (a.put o.dst v) = updo (fr a) o.dst v := fun v => fr_put fun t ht => by rw [hs]; exact hfit t ht
  have hkeep : ∀ v w', opsW P ops K r (updo (fr a) o.dst v) w' → (a.put o.dst v).tmps.size = n ∧ (a.put o.dst v).defers = [] ∧ opsW P ops K r (fr (a.put o.dst v)) w' :=
    fun v w' hk => ⟨by rw [size_put, hs], by rw [defers_put, hd], by rw [hput]; exact hk⟩
  have hop : opV P o (fr a) w (opsW P ops K r) → opVA P o a w fun a' w' => a'.tmps.size = n ∧ a'.defers = [] ∧ opsW P ops K r (fr a') w' := by
    intro h
    unfold opV at h; unfold opVA
    split at h
    · obtain ⟨v, hv, hk⟩ := h
      unfold PureV at hv; rw [evl_fr] at hv; exact ⟨v, hv, hkeep _ _ hk⟩
    · obtain ⟨v, hv, hk⟩ := h
      unfold ReadV at hv; rw [evl_fr] at hv; exact ⟨v, hv, hkeep _ _ hk⟩
    · unfold opW at h; rw [evl_fr] at h
      exact opUpon_mono (fun v w' hk => hkeep _ _ hk) h
  simp only [opsW] at h
  cases hg : o.guard with
  | none =>
    simp only [hg] at h
    refine ⟨fun _ => hop h, fun hw => ?_⟩
    simp [Region.wanted, hg] at hw
  | some g =>
    simp only [hg] at h
    unfold cOp
    rw [wanted_guardB hg]
    exact ⟨fun hw => hop (h.1 hw), fun hw => hkeep _ _ (h.2 hw)⟩

theorem wpAnyC_text {ops : Array Oper} {K : Fr → World → Prop} {n : Nat} (hco : commB P ops = true) (hfit : opsFit n ops = true)
    :
    ∀ (l : List Oper) (k : Nat) (listed : Array Bool) (a : Act) (w : World), (∀ j, l[j]? = ops[k + j]?) → k + l.length = ops.size → firstK ops k listed →
      a.tmps.size = n → a.defers = [] → opsW P ops K l (fr a) w → wpAnyC P ops (Ok n K) l.length listed a w := by
  have hco' := hco
  simp only [commB, Bool.and_eq_true] at hco'
  obtain ⟨⟨⟨hsel, hc⟩, hpair⟩, hlt⟩ := hco'
  have hlt' : ∀ j oj, ops[j]? = some oj → ∀ e ∈ oj.after, Region.binds .any e = true → e.on < j := by
    intro j oj hj e he hb
    have h1 := List.all_eq_true.1 hlt j (List.mem_range.2 (Array.getElem?_eq_some_iff.1 hj).1)
    simp only [hj, Bool.and_eq_true] at h1
    have h2 := Array.all_eq_true_iff_forall_mem.1 h1.1.1 e he
    simpa [hb] using h2
  have hbl : ∀ k i, ((Region.before ops).getD k 0).testBit i = true → i < ops.size := by
    intro k i hb
    rcases Nat.lt_or_ge k ops.size with hk | hk
    · have h1 := List.all_eq_true.1 hlt k (List.mem_range.2 hk)
      have hok : ops[k]? = some ops[k] := by simp [hk]
      simp only [hok, Bool.and_eq_true, decide_eq_true_eq] at h1
      rcases Nat.lt_or_ge i ops.size with hi | hi
      · exact hi
      · have := Nat.testBit_lt_two_pow (Nat.lt_of_lt_of_le h1.1.2 (Nat.pow_le_pow_right (by omega) hi))
        rw [this] at hb; cases hb
    · rcases Nat.eq_zero_or_pos ops.size with h0 | h0
      · have : ops = #[] := by simpa using h0
        subst this
        simp [Region.before] at hb
      · have h1 := List.all_eq_true.1 hlt 0 (List.mem_range.2 h0)
        have hok : ops[0]? = some ops[0] := by simp [h0]
        simp only [hok, Bool.and_eq_true, decide_eq_true_eq] at h1
        have : (Region.before ops).getD k 0 = 0 := by
          have : (Region.before ops).size ≤ k := by omega
          simp [Array.getElem?_eq_none this]
        rw [this] at hb; simp at hb
  intro l
  induction l with
  | nil =>
    intro k listed a w hl hk hf hs hd h
    refine ⟨?_, hs, hd, h⟩
    rcases hr : Region.ready .any ops listed with _ | ⟨x, xs⟩
    · rfl
    · have hx : x ∈ Region.ready .any ops listed := by rw [hr]; exact List.mem_cons_self
      obtain ⟨hx0, ox, hox, _⟩ := mem_ready.1 hx
      have hxl := (Array.getElem?_eq_some_iff.1 hox).1
      rw [hf.2 x hxl] at hx0
      simp only [List.length_nil, Nat.add_zero] at hk
      simp [hk, hxl] at hx0
  | cons o r ih =>
    intro k listed a w hl hk hf hs hd h
    simp only [List.length_cons] at hk
    have h0 : ops[k]? = some o := by simpa using (hl 0).symm
    have hkl : k < ops.size := by omega
    have hfo : ∀ d, o.dst = some d → d < n := by
      intro d hd'
      have := Array.all_eq_true_iff_forall_mem.1 hfit o (Array.mem_of_getElem? h0)
      simpa [hd'] using this
    have hready : k ∈ Region.ready .any ops listed := by
      refine mem_ready.2 ⟨by rw [hf.2 k hkl]; simp, o, h0, fun e he hb => ?_⟩
      have := hlt' k o h0 e he hb
      rw [hf.2 e.on (by omega)]; simpa using this
    have hdown : Down ops listed := by
      intro j i hj hb
      have hil := hbl _ _ hb
      have hjl : j < ops.size := by
        rcases Nat.lt_or_ge j listed.size with h' | h'
        · rw [hf.1] at h'; exact h'
        · simp [Array.getElem?_eq_none h'] at hj
      have hij := before_lt hc hlt' j i hil hjl hb
      rw [hf.2 j hjl] at hj
      rw [hf.2 i hil]
      simp at hj ⊢; omega
    have hfree : ∀ j oj, ops[j]? = some oj → j ≠ k → listed.getD j true = false → ((Region.before ops).getD j 0).testBit k = false → o.apart ops oj = true ∧ compatB P o.op oj.op = true := by
      intro j oj hj hjk hjun hb
      have hjl := (Array.getElem?_eq_some_iff.1 hj).1
      rw [hf.2 j hjl] at hjun
      have hkj : k < j := by simp at hjun; omega
      have h1 := List.all_eq_true.1 (List.all_eq_true.1 hpair j (List.mem_range.2 hjl)) k (List.mem_range.2 hkj)
      simp only [commPair, hb, Bool.false_or, h0, hj, Bool.and_eq_true] at h1
      exact h1
    refine wpAnyC_first hc hbl (Region.noSelect_spec hsel) h0 r.length listed a w hf.1 hdown hfree hready ?_
    refine cOp_mono (fun u w' hk' => ?_) (cOp_of_opsW hfo hs hd h)
    refine ih (k + 1) _ _ _ (fun j => by have := hl (j + 1); simpa [Nat.add_assoc, Nat.add_comm 1 j] using this) (by omega) ⟨by simpa using hf.1, fun j hj d => ?_⟩ hk'.1 hk'.2.1 hk'.2.2
    by_cases hjk : k = j
    · subst hjk
      have : k < listed.size := by rw [hf.1]; exact hj
      simp [this]
    · rw [getD_set_ne d hjk, hf.2 j hj d]
      by_cases h3 : j < k
      · simp [h3]; omega
      · have : ¬ j < k + 1 := by omega
        simp [h3, this]

theorem wp_region_text {ro : Option Nat} {m : Nat} {id : Nat} {ops : Array Oper} {K : Fr → World → Prop} {n : Nat} {a : Act} {w : World} {Q : Exit → Act → World → Prop} (hQ : ∀ a w, Ok n K a w → Q .normal a w)
    (hfit : opsFit n ops = true) (hs : a.tmps.size = n) (hd : a.defers = []) (h : opsW P ops K ops.toList (fr a) w) : (Code.region id ops false).wpIn (fw ro) m P Q a w := by
  refine wpIn_region ?_
  have key : ∀ (l : List Oper) (k : Nat) (a : Act) (w : World), (∀ j, l[j]? = ops[k + j]?) → k + l.length = ops.size → a.tmps.size = n → a.defers = [] → opsW P ops K l (fr a) w →
      wpOpsIn (fw ro) m P ops Q ((List.range' k l.length)) a w := by
    intro l
    induction l with
    | nil => intro k a w _ _ hs hd h; exact hQ _ _ ⟨hs, hd, h⟩
    | cons o r ih =>
      intro k a w hl hk hs hd h
      have h0 : ops[k]? = some o := by simpa using (hl 0).symm
      have hfo : ∀ d, o.dst = some d → d < n := by
        intro d hd'
        have := Array.all_eq_true_iff_forall_mem.1 hfit o (Array.mem_of_getElem? h0)
        simpa [hd'] using this
      simp only [List.length_cons, List.range'_succ]
      rw [wpOpsIn_cons]
      refine wpOp_of_cOp ?_
      unfold cOpI; rw [h0]
      refine cOp_mono (fun u w' hk' => ?_) (cOp_of_opsW hfo hs hd h)
      simp only [List.length_cons] at hk
      exact ih (k + 1) _ _ (fun j => by have := hl (j + 1); simpa [Nat.add_assoc, Nat.add_comm 1 j] using this) (by omega) hk'.1 hk'.2.1 hk'.2.2
  have := key ops.toList 0 a w (by simp) (by simp) hs hd h
  simpa [List.range_eq_range'] using this

/-! ### Plans -/
def Still (P : Program) (ops : Array Oper) (i : Nat) (a : Act) (w : World) : Prop :=
  ∀ oi, ops[i]? = some oi → Region.wanted oi (yielded ops a.tmps) = true → ∀ d, oi.dst = some d → (execOp a.eval oi).run P w = .ok (.value (a.tmps.getD d undef)) w
def opVA2 (P : Program) (ops : Array Oper) (listed : Array Bool) (j : Nat) (o : Oper) (a : Act) (w : World) (K : Act → World → Prop) : Prop :=
  match cls P o.op with
  | .pure => ∃ v, (∀ w, (execOp a.eval o).run P w = .ok (.value v) w) ∧ K (a.put o.dst v) w
  | .read => ∃ v, (execOp a.eval o).run P w = .ok (.value v) w ∧ K (a.put o.dst v) w
  | .eff => opUpon P (fun v w' => (∀ r ∈ loose P ops j, listed.getD r false = true → Still P ops r a w') ∧ K (a.put o.dst v) w') ((execOp a.eval o).run P w)
def cOp2 (P : Program) (ops : Array Oper) (listed : Array Bool) (j : Nat) (o : Oper) (K : Act → World → Prop) (a : Act) (w : World) : Prop :=
  (Region.wanted o (yielded ops a.tmps) = true → opVA2 P ops listed j o a w K) ∧ (Region.wanted o (yielded ops a.tmps) = false → K (a.put o.dst undef) w)

theorem opVA2_mono {ops : Array Oper} {listed : Array Bool} {j : Nat} {o : Oper} {a : Act} {w : World} {K K' : Act → World → Prop} (h : ∀ u w', K (a.put o.dst u) w' → K' (a.put o.dst u) w') (hh : opVA2 P ops listed j o a w K) : opVA2 P ops listed j o a w K' := by
  unfold opVA2 at *
  split at hh
  · obtain ⟨v, h1, h2⟩ := hh; exact ⟨v, h1, h _ _ h2⟩
  · obtain ⟨v, h1, h2⟩ := hh; exact ⟨v, h1, h _ _ h2⟩
  · exact opUpon_mono (fun v w' hk => ⟨hk.1, h v w' hk.2⟩) hh
theorem cOp2_mono {ops : Array Oper} {listed : Array Bool} {j : Nat} {o : Oper} {a : Act} {w : World} {K K' : Act → World → Prop} (h : ∀ u w', K (a.put o.dst u) w' → K' (a.put o.dst u) w') (hh : cOp2 P ops listed j o K a w) : cOp2 P ops listed j o K' a w :=
  ⟨fun hw => opVA2_mono h (hh.1 hw), fun hw => h _ _ (hh.2 hw)⟩
theorem opVA2_some {ops : Array Oper} {listed : Array Bool} {j : Nat} {o : Oper} {a : Act} {w : World} {K : Act → World → Prop} (h : opVA2 P ops listed j o a w K) : ∃ v w', K (a.put o.dst v) w' := by
  unfold opVA2 at h
  split at h
  · obtain ⟨v, _, h2⟩ := h; exact ⟨_, _, h2⟩
  · obtain ⟨v, _, h2⟩ := h; exact ⟨_, _, h2⟩
  · obtain ⟨v, w', _, h2⟩ := opUpon_some h; exact ⟨_, _, h2⟩
theorem cOp2_some {ops : Array Oper} {listed : Array Bool} {j : Nat} {o : Oper} {a : Act} {w : World} {K : Act → World → Prop} (h : cOp2 P ops listed j o K a w) : ∃ v w', K (a.put o.dst v) w' := by
  cases hw : Region.wanted o (yielded ops a.tmps) with
  | true => exact opVA2_some (h.1 hw)
  | false => exact ⟨_, _, h.2 hw⟩
theorem opVA_of_2 {ops : Array Oper} {listed : Array Bool} {j : Nat} {o : Oper} {a : Act} {w : World} {K : Act → World → Prop} (h : opVA2 P ops listed j o a w K) : opVA P o a w K := by
  unfold opVA2 at h; unfold opVA
  split
  · rename_i hc; simp only [hc] at h; exact h
  · rename_i hc; simp only [hc] at h; exact h
  · rename_i hc; simp only [hc] at h; exact opUpon_mono (fun v w' hk => hk.2) h
theorem cOp_of_2 {ops : Array Oper} {listed : Array Bool} {j : Nat} {o : Oper} {a : Act} {w : World} {K : Act → World → Prop} (h : cOp2 P ops listed j o K a w) : cOp P ops o K a w := ⟨fun hw => opVA_of_2 (h.1 hw), h.2⟩

/-- Another operation's slot makes no difference to a read that has come up. -/
def Solid (ops : Array Oper) (r : Nat) (o : Oper) : Prop := ∀ or_, ops[r]? = some or_ → (∀ d, o.dst = some d → d ∉ or_.looksAt ops) ∧ ∀ d, o.dst = some d → or_.dst ≠ some d
theorem still_put {ops : Array Oper} {r : Nat} {o : Oper} {a : Act} {w : World} (v : Value) (hs : Solid ops r o) (hsel : ∀ or_ cs b, ops[r]? = some or_ → or_.op ≠ .select cs b) : Still P ops r (a.put o.dst v) w ↔ Still P ops r a w := by
  unfold Still
  constructor
  · intro h or_ hor hw d hd
    obtain ⟨h1, h2⟩ := hs or_ hor
    have := h or_ hor (by rw [wanted_put or_ a o.dst v h1]; exact hw) d hd
    rw [execOp_put or_ (fun cs b => hsel or_ cs b hor) a o.dst v h1] at this
    have hg : (a.put o.dst v).tmps.getD d undef = a.tmps.getD d undef := by
      cases ho : o.dst with
      | none => rfl
      | some d' =>
        have hne : d' ≠ d := fun e => h2 d' ho (e ▸ hd)
        simp [Act.put, Array.getElem?_setIfInBounds_ne hne]
    rw [hg] at this; exact this
  · intro h or_ hor hw d hd
    obtain ⟨h1, h2⟩ := hs or_ hor
    rw [wanted_put or_ a o.dst v h1] at hw
    have := h or_ hor hw d hd
    rw [execOp_put or_ (fun cs b => hsel or_ cs b hor) a o.dst v h1]
    have hg : (a.put o.dst v).tmps.getD d undef = a.tmps.getD d undef := by
      cases ho : o.dst with
      | none => rfl
      | some d' =>
        have hne : d' ≠ d := fun e => h2 d' ho (e ▸ hd)
        simp [Act.put, Array.getElem?_setIfInBounds_ne hne]
    rw [hg]; exact this


theorem loose_read {ops : Array Oper} {r j : Nat} (h : r ∈ loose P ops j) : clsI P ops r = .read ∧ r ≠ j := by
  simp only [loose, List.mem_filter, Bool.and_eq_true, beq_iff_eq, Bool.not_eq_true', beq_eq_false_iff_ne] at h
  exact ⟨h.2.1.1.1, h.2.1.1.2⟩
theorem opVA2_put {ops : Array Oper} {listed : Array Bool} {i j : Nat} {oi oj : Oper} {v : Value} (hsel : ∀ (k : Nat) (o : Oper) cs b, ops[k]? = some o → o.op ≠ .select cs b) (hap : oi.apart ops oj = true) (hsj : ∀ cs b, oj.op ≠ .select cs b) {K : Act → World → Prop} {a : Act} {w : World}
    (hsi : ∀ r, listed.getD r false = true → clsI P ops r = .read → Solid ops r oi)
    (h : opVA2 P ops (listed.setIfInBounds i true) j oj (a.put oi.dst v) w K) : opVA2 P ops listed j oj a w fun a' w' => (cls P oj.op = .eff → ∀ r ∈ loose P ops j, (listed.setIfInBounds i true).getD r false = true → Still P ops r (a.put oi.dst v) w') ∧ K (a'.put oi.dst v) w' := by
  obtain ⟨h1, h2, h3⟩ := Oper.apart_spec hap
  unfold opVA2 at *
  rw [execOp_put oj hsj a oi.dst v h1] at h
  cases hc : cls P oj.op with
  | pure =>
    simp only [hc] at h ⊢
    obtain ⟨u, hu, hk⟩ := h
    exact ⟨u, hu, fun e => (by cases e), by have hk' := hk; rw [Act.put_comm a v u h2] at hk'; exact hk'⟩
  | read =>
    simp only [hc] at h ⊢
    obtain ⟨u, hu, hk⟩ := h
    exact ⟨u, hu, fun e => (by cases e), by have hk' := hk; rw [Act.put_comm a v u h2] at hk'; exact hk'⟩
  | eff =>
    simp only [hc] at h ⊢
    refine opUpon_mono (fun u w' hk => ⟨fun r hr hl => ?_, fun _ => hk.1, by have hk' := hk.2; rw [Act.put_comm a v u h2] at hk'; exact hk'⟩) h
    exact (still_put v (hsi r hl (loose_read hr).1) (fun or_ cs b ho => hsel r or_ cs b ho)).1 (hk.1 r hr (getD_set_true hl))
theorem opVA2_putBack {ops : Array Oper} {listed : Array Bool} {i j : Nat} {oi oj : Oper} {u : Value} (hsel : ∀ (k : Nat) (o : Oper) cs b, ops[k]? = some o → o.op ≠ .select cs b) (hap : oi.apart ops oj = true) (hsi : ∀ cs b, oi.op ≠ .select cs b) (hjr : cls P oi.op = .eff → j ∉ loose P ops i) {K : Act → World → Prop} {a : Act} {w : World}
    (hsj : ∀ r, listed.getD r false = true → clsI P ops r = .read → Solid ops r oj)
    (h : opVA2 P ops listed i oi a w fun a' w' => K (a'.put oj.dst u) w') : opVA2 P ops (listed.setIfInBounds j true) i oi (a.put oj.dst u) w K := by
  obtain ⟨h1, h2, h3⟩ := Oper.apart_spec hap
  unfold opVA2 at *
  rw [execOp_put oi hsi a oj.dst u h3]
  cases hc : cls P oi.op with
  | pure =>
    simp only [hc] at h ⊢
    obtain ⟨v, hv, hk⟩ := h
    exact ⟨v, hv, by have hk' := hk; rw [Act.put_comm a v u h2] at hk'; exact hk'⟩
  | read =>
    simp only [hc] at h ⊢
    obtain ⟨v, hv, hk⟩ := h
    exact ⟨v, hv, by have hk' := hk; rw [Act.put_comm a v u h2] at hk'; exact hk'⟩
  | eff =>
    simp only [hc] at h ⊢
    refine opUpon_mono (fun v w' hk => ⟨fun r hr hl => ?_, by have hk' := hk.2; rw [Act.put_comm a v u h2] at hk'; exact hk'⟩) h
    have hrj : r ≠ j := fun e => hjr hc (e ▸ hr)
    rw [getD_set_ne false (Ne.symm hrj)] at hl
    exact (still_put u (hsj r hl (loose_read hr).1) (fun or_ cs b ho => hsel r or_ cs b ho)).2 (hk.1 r hr hl)
section
variable {ops : Array Oper} {listed : Array Bool} {j : Nat} {o : Oper} {a : Act} {w : World} {K : Act → World → Prop}
theorem opVA2_pure (hc : cls P o.op = .pure) : opVA2 P ops listed j o a w K = ∃ v, (∀ w, (execOp a.eval o).run P w = .ok (.value v) w) ∧ K (a.put o.dst v) w := by unfold opVA2; rw [hc]
theorem opVA2_read (hc : cls P o.op = .read) : opVA2 P ops listed j o a w K = ∃ v, (execOp a.eval o).run P w = .ok (.value v) w ∧ K (a.put o.dst v) w := by unfold opVA2; rw [hc]
theorem opVA2_eff (hc : cls P o.op = .eff) : opVA2 P ops listed j o a w K = opUpon P (fun v w' => (∀ r ∈ loose P ops j, listed.getD r false = true → Still P ops r a w') ∧ K (a.put o.dst v) w') ((execOp a.eval o).run P w) := by unfold opVA2; rw [hc]
end
theorem swap2 {ops : Array Oper} {listed : Array Bool} {i j : Nat} {oi oj : Oper} (hsel : ∀ (k : Nat) (o : Oper) cs b, ops[k]? = some o → o.op ≠ .select cs b) (hi : ops[i]? = some oi) (hj : ops[j]? = some oj)
    (hap : oi.apart ops oj = true) (hco : compat2 (cls P oi.op) (cls P oj.op) = true) (hil : i < listed.size) (hijl : cls P oi.op = .read → cls P oj.op = .eff → i ∈ loose P ops j)
    (hsi : ∀ r, listed.getD r false = true → clsI P ops r = .read → Solid ops r oi) (hsj : ∀ r, listed.getD r false = true → clsI P ops r = .read → Solid ops r oj)
    {K : Act → World → Prop} {a : Act} {w : World} (hdi : cls P oi.op = .read → ∃ d, oi.dst = some d ∧ d < a.tmps.size ∧ d ∉ oi.looksAt ops)
    (h : cOp2 P ops listed i oi (cOp2 P ops (listed.setIfInBounds i true) j oj K) a w) : cOp2 P ops listed j oj (cOp2 P ops (listed.setIfInBounds j true) i oi K) a w := by
  obtain ⟨h1, h2, h3⟩ := Oper.apart_spec hap
  have hseli := fun cs b => hsel i oi cs b hi
  have hselj := fun cs b => hsel j oj cs b hj
  have wi : ∀ u, Region.wanted oi (yielded ops (a.put oj.dst u).tmps) = Region.wanted oi (yielded ops a.tmps) := fun u => wanted_put oi a oj.dst u h3
  have wj : ∀ u, Region.wanted oj (yielded ops (a.put oi.dst u).tmps) = Region.wanted oj (yielded ops a.tmps) := fun u => wanted_put oj a oi.dst u h1
  have ei : ∀ u, execOp (a.put oj.dst u).eval oi = execOp a.eval oi := fun u => execOp_put oi hseli a oj.dst u h3
  have ej : ∀ u, execOp (a.put oi.dst u).eval oj = execOp a.eval oj := fun u => execOp_put oj hselj a oi.dst u h1
  have hjr : cls P oi.op = .eff → j ∉ loose P ops i := fun hc hm => by
    have := (loose_read hm).1
    simp only [clsI, hj] at this
    rw [hc, this] at hco; simp [compat2] at hco
  cases hwi : Region.wanted oi (yielded ops a.tmps) with
  | false =>
    have hj' := h.2 hwi
    cases hwj : Region.wanted oj (yielded ops a.tmps) with
    | false =>
      refine ⟨fun hw => (by rw [hwj] at hw; cases hw), fun _ => ⟨fun hw => (by rw [wi, hwi] at hw; cases hw), fun _ => ?_⟩⟩
      have := hj'.2 (by rw [wj, hwj])
      rw [Act.put_comm a undef undef h2] at this; exact this
    | true =>
      refine ⟨fun _ => ?_, fun hw => (by rw [hwj] at hw; cases hw)⟩
      have := opVA2_put hsel hap hselj hsi (hj'.1 (by rw [wj, hwj]))
      exact opVA2_mono (fun u w' hk => ⟨fun hw => (by rw [wi, hwi] at hw; cases hw), fun _ => hk.2⟩) this
  | true =>
    have hi' := h.1 hwi
    cases hwj : Region.wanted oj (yielded ops a.tmps) with
    | false =>
      refine ⟨fun hw => (by rw [hwj] at hw; cases hw), fun _ => ⟨fun _ => ?_, fun hw => (by rw [wi, hwi] at hw; cases hw)⟩⟩
      exact opVA2_putBack hsel hap hseli hjr hsj (opVA2_mono (fun u w' hk => hk.2 (by rw [wj u, hwj])) hi')
    | true =>
      refine ⟨fun _ => ?_, fun hw => (by rw [hwj] at hw; cases hw)⟩
      have hi2 : opVA2 P ops listed i oi a w fun a' w' => opVA2 P ops (listed.setIfInBounds i true) j oj a' w' K := opVA2_mono (fun u w' hk => hk.1 (by rw [wj u, hwj])) hi'
      have done : opVA2 P ops listed j oj a w (fun a' w' => opVA2 P ops (listed.setIfInBounds j true) i oi a' w' K) → opVA2 P ops listed j oj a w (cOp2 P ops (listed.setIfInBounds j true) i oi K) :=
        opVA2_mono (fun u w' hk => ⟨fun _ => hk, fun hw => (by rw [wi u, hwi] at hw; cases hw)⟩)
      refine done ?_
      clear done hi' h
      cases hci : cls P oi.op with
      | pure =>
        rw [opVA2_pure hci] at hi2
        obtain ⟨v, hv, hk⟩ := hi2
        refine opVA2_mono (fun u w' hk => ?_) (opVA2_put hsel hap hselj hsi hk)
        rw [opVA2_pure hci, ei u]; exact ⟨v, hv, hk.2⟩
      | read =>
        obtain ⟨di, hdi1, hdi2, hdi3⟩ := hdi hci
        rw [opVA2_read hci] at hi2
        obtain ⟨v, hv, hk⟩ := hi2
        cases hcj : cls P oj.op with
        | pure =>
          rw [opVA2_pure hcj] at hk ⊢
          obtain ⟨u, hu, hk⟩ := hk
          rw [ej v] at hu
          refine ⟨u, hu, ?_⟩
          rw [opVA2_read hci]
          exact ⟨v, by rw [ei u]; exact hv, by have hk' := hk; rw [Act.put_comm a v u h2] at hk'; exact hk'⟩
        | read =>
          rw [opVA2_read hcj] at hk ⊢
          obtain ⟨u, hu, hk⟩ := hk
          rw [ej v] at hu
          refine ⟨u, hu, ?_⟩
          rw [opVA2_read hci]
          exact ⟨v, by rw [ei u]; exact hv, by have hk' := hk; rw [Act.put_comm a v u h2] at hk'; exact hk'⟩
        | eff =>
          refine opVA2_mono (fun u w' hk => ?_) (opVA2_put hsel hap hselj hsi hk)
          have hst := hk.1 hcj i (hijl hci hcj) (by simp [hil])
          have hself : ∀ d, oi.dst = some d → d ∉ oi.looksAt ops := fun d hd => by rw [hdi1] at hd; cases hd; exact hdi3
          have hrun := hst oi hi (by rw [wanted_put oi a oi.dst v hself]; exact hwi) di hdi1
          rw [execOp_put oi hseli a oi.dst v hself] at hrun
          have hg : (a.put oi.dst v).tmps.getD di undef = v := by rw [hdi1]; simp [Act.put, hdi2]
          rw [hg] at hrun
          rw [opVA2_read hci, ei u]
          exact ⟨v, hrun, hk.2⟩
      | eff =>
        cases hcj : cls P oj.op with
        | pure =>
          rw [opVA2_eff hci] at hi2
          obtain ⟨v0, w0, _, hh⟩ := opUpon_some hi2
          rw [opVA2_pure hcj] at hh
          obtain ⟨u, hu, _⟩ := hh
          rw [ej v0] at hu
          rw [opVA2_pure hcj]
          refine ⟨u, hu, ?_⟩
          refine opVA2_putBack hsel hap hseli hjr hsj ?_
          rw [opVA2_eff hci]
          refine opUpon_mono (fun v w' hk => ⟨hk.1, ?_⟩) hi2
          have hk2 := hk.2
          rw [opVA2_pure hcj] at hk2
          obtain ⟨u', hu', hk3⟩ := hk2
          rw [ej v] at hu'
          have he := (hu w').symm.trans (hu' w')
          simp only [Result.ok.injEq, Next.value.injEq, and_true] at he
          subst he
          exact hk3
        | read => rw [hci, hcj] at hco; simp [compat2] at hco
        | eff => rw [hci, hcj] at hco; simp [compat2] at hco

/-! The walk along a plan -/
def wpAny2 (P : Program) (ops : Array Oper) (K : Act → World → Prop) : Nat → Array Bool → Act → World → Prop
  | 0, listed, a, w => Region.ready .any ops listed = [] ∧ K a w
  | fuel + 1, listed, a, w => (Region.ready .any ops listed = [] → K a w) ∧
    ∀ i ∈ Region.ready .any ops listed, ∀ o, ops[i]? = some o → cOp2 P ops listed i o (wpAny2 P ops K fuel (listed.setIfInBounds i true)) a w
theorem wpAny_of_2 {ro : Option Nat} {m : Nat} {ops : Array Oper} {K : Act → World → Prop} {Q : Exit → Act → World → Prop} (hQ : ∀ a w, K a w → Q .normal a w) : ∀ (fuel : Nat) (listed : Array Bool) (a : Act) (w : World),
    wpAny2 P ops K fuel listed a w → wpAnyIn (fw ro) m P .any ops Q fuel listed a w
  | 0, _, _, _, h => ⟨h.1, hQ _ _ h.2⟩
  | fuel + 1, _, _, _, h => ⟨fun h0 => hQ _ _ (h.1 h0), fun i hi => wpOp_of_cOp (by
      obtain ⟨_, o, ho, _⟩ := mem_ready.1 hi
      unfold cOpI; rw [ho]
      exact cOp_mono (fun u w' hk => wpAny_of_2 hQ fuel _ _ _ hk) (cOp_of_2 (h.2 i hi o ho)))⟩
/-- What a plan's Bool says. -/
structure PlanOk (P : Program) (ops : Array Oper) : Prop where
  sel : ∀ (k : Nat) (o : Oper) cs b, ops[k]? = some o → o.op ≠ .select cs b
  closed : closedB ops (Region.before ops) = true
  bl : ∀ k i, ((Region.before ops).getD k 0).testBit i = true → i < ops.size
  solid : ∀ (r : Nat) (or_ : Oper) (k : Nat) (ok : Oper), ops[r]? = some or_ → clsI P ops r = .read → ops[k]? = some ok → k ≠ r → bfr ops k r = false → Solid ops r ok
  dst : ∀ (i : Nat) (o : Oper), ops[i]? = some o → cls P o.op = .read → ∃ d, o.dst = some d ∧ d ∉ o.looksAt ops
theorem wpAny2_first {ops : Array Oper} {K : Act → World → Prop} {n : Nat} (H : PlanOk P ops) (hfit : opsFit n ops = true) {i : Nat} {oi : Oper} (hi : ops[i]? = some oi) :
    ∀ (fuel : Nat) (listed : Array Bool) (a : Act) (w : World), listed.size = ops.size → a.tmps.size = n → Down ops listed →
      (∀ (j : Nat) (oj : Oper), ops[j]? = some oj → j ≠ i → listed.getD j true = false → bfr ops i j = false → oi.apart ops oj = true ∧ compat2 (cls P oi.op) (cls P oj.op) = true) →
      i ∈ Region.ready .any ops listed → cOp2 P ops listed i oi (wpAny2 P ops K fuel (listed.setIfInBounds i true)) a w → wpAny2 P ops K (fuel + 1) listed a w := by
  have hdst : ∀ o, o ∈ ops → ∀ d, o.dst = some d → d < n := fun o ho d hd => by
    have := Array.all_eq_true_iff_forall_mem.1 hfit o ho
    simpa [hd] using this
  intro fuel
  induction fuel with
  | zero =>
    intro listed a w hs ha hd hfree hr h
    refine ⟨fun h => (by rw [h] at hr; cases hr), fun j hj oj hoj => ?_⟩
    by_cases hji : j = i
    · subst hji; rw [hi] at hoj; cases hoj; exact h
    · obtain ⟨v, w', hk⟩ := cOp2_some h
      have := ready_mono hj hji
      rw [hk.1] at this; cases this
  | succ fuel ih =>
    intro listed a w hs ha hd hfree hr h
    refine ⟨fun h => (by rw [h] at hr; cases hr), fun j hj oj hoj => ?_⟩
    by_cases hji : j = i
    · subst hji; rw [hi] at hoj; cases hoj; exact h
    · obtain ⟨hjun, oj', hoj', _⟩ := mem_ready.1 hj
      have hun := (mem_ready.1 hr).1
      have hnb : bfr ops i j = false := not_before H.closed hd hs hun hj
      have hnb' : bfr ops j i = false := not_before H.closed hd hs hjun hr
      obtain ⟨hap, hco⟩ := hfree j oj hoj hji hjun hnb
      have h1 : cOp2 P ops listed i oi (cOp2 P ops (listed.setIfInBounds i true) j oj (wpAny2 P ops K fuel ((listed.setIfInBounds i true).setIfInBounds j true))) a w :=
        cOp2_mono (fun u w' hk => hk.2 j (ready_mono hj hji) oj hoj) h
      have hil : i < listed.size := (getD_false_of hun).2
      have hnot : ∀ k, listed.getD k true = false → ∀ r, listed.getD r false = true → bfr ops k r = false := by
        intro k hk r hr'
        cases hb : bfr ops k r with
        | false => rfl
        | true => have := hd r k hr' hb; rw [(getD_false_of hk).1] at this; cases this
      have hsolid : ∀ (k : Nat) (ok : Oper), ops[k]? = some ok → listed.getD k true = false → ∀ r, listed.getD r false = true → clsI P ops r = .read → Solid ops r ok := by
        intro k ok hk hkun r hr' hc or_ hor
        have hkr : k ≠ r := fun e => by subst e; rw [(getD_false_of hkun).1] at hr'; cases hr'
        exact H.solid r or_ k ok hor hc hk hkr (hnot k hkun r hr') or_ hor
      have h2 := swap2 H.sel hi hoj hap hco hil (fun hc1 hc2 => by
          simp only [loose, List.mem_filter, List.mem_range, Bool.and_eq_true, beq_iff_eq, Bool.not_eq_true', beq_eq_false_iff_ne]
          exact ⟨by rw [← hs]; exact hil, ⟨⟨by simp only [clsI, hi]; exact hc1, Ne.symm hji⟩, hnb⟩, hnb'⟩)
        (hsolid i oi hi hun) (hsolid j oj hoj hjun) (fun hc => by
          obtain ⟨d, hd1, hd2⟩ := H.dst i oi hi hc
          exact ⟨d, hd1, by rw [ha]; exact hdst oi (Array.mem_of_getElem? hi) d hd1, hd2⟩) h1
      refine cOp2_mono (fun u w' hk => ?_) h2
      rw [Array.setIfInBounds_comm _ _ (Ne.symm hji)] at hk
      refine ih (listed.setIfInBounds j true) _ w' (by simpa using hs) (by rw [size_put]; exact ha) (down_set H.closed hd hj H.bl) (fun k ok hok hki hkun hkb => hfree k ok hok hki ?_ hkb) (ready_mono hr (Ne.symm hji)) hk
      by_cases hjk : j = k
      · subst hjk; exact hjun
      · rw [getD_set_ne true hjk] at hkun; exact hkun

theorem opsD_chks {ops : Array Oper} {K : Fr → World → Prop} {tail : List Item} {ρ : Fr} {w : World} : ∀ (l : List Nat), opsD P ops K (l.map Item.chk ++ tail) ρ w →
    (∀ r ∈ l, ∀ o, ops[r]? = some o → (match o.guard with
          | none => ∀ d, o.dst = some d → ReadV P o ρ w (ρ d)
          | some g => guardB ops ρ g = true → ∀ d, o.dst = some d → ReadV P o ρ w (ρ d))) ∧ opsD P ops K tail ρ w
  | [], h => ⟨by simp, h⟩
  | r :: l, h => by
    simp only [List.map_cons, List.cons_append, opsD] at h
    obtain ⟨h1, h2⟩ := opsD_chks l h.2
    refine ⟨fun r' hr' o ho => ?_, h2⟩
    rcases List.mem_cons.1 hr' with rfl | hr'
    · have := h.1
      simp only [ho] at this
      exact this
    · exact h1 r' hr' o ho
theorem still_of_chk {ops : Array Oper} {r : Nat} {a : Act} {w : World} (h : ∀ o, ops[r]? = some o → (match o.guard with
          | none => ∀ d, o.dst = some d → ReadV P o (fr a) w (fr a d)
          | some g => guardB ops (fr a) g = true → ∀ d, o.dst = some d → ReadV P o (fr a) w (fr a d))) : Still P ops r a w := by
  intro o ho hw d hd
  have := h o ho
  cases hg : o.guard with
  | none =>
    simp only [hg] at this
    have := this d hd
    unfold ReadV at this; rw [evl_fr] at this; exact this
  | some g =>
    simp only [hg] at this
    rw [wanted_guardB hg] at hw
    have := this hw d hd
    unfold ReadV at this; rw [evl_fr] at this; exact this
theorem pair2_of {ops : Array Oper} : ∀ {l : List Nat} {i : Nat}, pairs2 P ops (i :: l) = true → ∀ j ∈ l, pair2 P ops i j = true := by
  intro l i h j hj
  simp only [pairs2, Bool.and_eq_true] at h
  exact List.all_eq_true.1 h.1 j hj
theorem wpAny2_plan {ops : Array Oper} {K : Fr → World → Prop} {n : Nat} (H : PlanOk P ops) (hfit : opsFit n ops = true) :
    ∀ (rest dn : List Nat) (listed : Array Bool) (a : Act) (w : World), (∀ j, j < ops.size → j ∈ dn ∨ j ∈ rest) → (∀ j ∈ rest, j ∉ dn ∧ j < ops.size) → (∀ j ∈ dn, j < ops.size) → rest.Nodup → listed.size = ops.size → (∀ j, j < ops.size → ∀ d, listed.getD j d = decide (j ∈ dn)) →
      Down ops listed → readyAlong ops dn rest = true → pairs2 P ops rest = true → a.tmps.size = n → a.defers = [] → opsD P ops K (itemsOf P ops rest) (fr a) w → wpAny2 P ops (Ok n K) rest.length listed a w := by
  have hdst : ∀ o, o ∈ ops → ∀ d, o.dst = some d → d < n := fun o ho d hd => by
    have := Array.all_eq_true_iff_forall_mem.1 hfit o ho
    simpa [hd] using this
  intro rest
  induction rest with
  | nil =>
    intro dn listed a w hcov _ _ _ hs hl _ _ _ ha hdf h
    refine ⟨?_, ha, hdf, h⟩
    rcases hr : Region.ready .any ops listed with _ | ⟨x, xs⟩
    · rfl
    · have hx : x ∈ Region.ready .any ops listed := by rw [hr]; exact List.mem_cons_self
      obtain ⟨hx0, ox, hox, _⟩ := mem_ready.1 hx
      have hxl := (Array.getElem?_eq_some_iff.1 hox).1
      rw [hl x hxl] at hx0
      have := (hcov x hxl).resolve_right (by simp)
      simp [this] at hx0
  | cons i rest ih =>
    intro dn listed a w hcov hrest hdl hnd hs hl hdn hra hpr ha hdf h
    obtain ⟨hidn, hil⟩ := hrest i (by simp)
    obtain ⟨oi, hi⟩ : ∃ oi, ops[i]? = some oi := ⟨ops[i], by simp [hil]⟩
    simp only [readyAlong, hi, Bool.and_eq_true] at hra
    have hready : i ∈ Region.ready .any ops listed := by
      refine mem_ready.2 ⟨by rw [hl i hil]; simpa using hidn, oi, hi, fun e he hb => ?_⟩
      have := Array.all_eq_true_iff_forall_mem.1 hra.1 e he
      simp only [hb, Bool.not_true, Bool.false_or, List.contains_iff_mem] at this
      rw [hl _ (hdl _ this)]; simpa using this
    have hun : listed.getD i true = false := (mem_ready.1 hready).1
    have hfree : ∀ (j : Nat) (oj : Oper), ops[j]? = some oj → j ≠ i → listed.getD j true = false → bfr ops i j = false → oi.apart ops oj = true ∧ compat2 (cls P oi.op) (cls P oj.op) = true := by
      intro j oj hj hji hjun hb
      have hjl := (Array.getElem?_eq_some_iff.1 hj).1
      rw [hl j hjl] at hjun
      have hjr : j ∈ rest := by
        rcases hcov j hjl with h' | h'
        · simp [h'] at hjun
        · rcases List.mem_cons.1 h' with h' | h'
          · exact absurd h' hji
          · exact h'
      have := pair2_of hpr j hjr
      simp only [pair2, hb, Bool.false_or, hi, hj, Bool.and_eq_true] at this
      exact this
    have hnot : ∀ r, listed.getD r false = true → bfr ops i r = false := by
      intro r hr'
      cases hb : bfr ops i r with
      | false => rfl
      | true => have := hdn r i hr' hb; rw [(getD_false_of hun).1] at this; cases this
    have hsolid : ∀ r, listed.getD r false = true → clsI P ops r = .read → Solid ops r oi := by
      intro r hr' hc or_ hor
      have hir : i ≠ r := fun e => by subst e; rw [(getD_false_of hun).1] at hr'; cases hr'
      exact H.solid r or_ i oi hor hc hi hir (hnot r hr') or_ hor
    have hput : ∀ v, fr (a.put oi.dst v) = updo (fr a) oi.dst v := fun v => fr_put fun t ht => by rw [ha]; exact hdst oi (Array.mem_of_getElem? hi) t ht
    refine wpAny2_first H hfit hi rest.length listed a w hs ha hdn hfree hready ?_
    -- one step of the plan
    have hstep : cOp2 P ops listed i oi (fun a' w' => a'.tmps.size = n ∧ a'.defers = [] ∧ opsD P ops K (itemsOf P ops rest) (fr a') w') a w := by
      simp only [itemsOf, List.flatMap_cons, List.cons_append, opsD, hi] at h
      have hkeep : ∀ v w', opsD P ops K (itemsOf P ops rest) (updo (fr a) oi.dst v) w' → (a.put oi.dst v).tmps.size = n ∧ (a.put oi.dst v).defers = [] ∧ opsD P ops K (itemsOf P ops rest) (fr (a.put oi.dst v)) w' :=
        fun v w' hk => ⟨by rw [size_put, ha], by rw [defers_put, hdf], by rw [hput]; exact hk⟩
      have hop : opV P oi (fr a) w (opsW P ops (opsD P ops K ((match clsI P ops i with | .eff => (loose P ops i).map Item.chk | _ => []) ++ itemsOf P ops rest)) []) → opVA2 P ops listed i oi a w fun a' w' => a'.tmps.size = n ∧ a'.defers = [] ∧ opsD P ops K (itemsOf P ops rest) (fr a') w' := by
        intro hv
        have hcI : clsI P ops i = cls P oi.op := by simp [clsI, hi]
        rw [hcI] at hv
        unfold opV at hv
        cases hc : cls P oi.op with
        | pure =>
          simp only [hc] at hv
          rw [opVA2_pure hc]
          obtain ⟨v, hv1, hk⟩ := hv
          unfold PureV at hv1; rw [evl_fr] at hv1
          exact ⟨v, hv1, hkeep _ _ hk⟩
        | read =>
          simp only [hc] at hv
          rw [opVA2_read hc]
          obtain ⟨v, hv1, hk⟩ := hv
          unfold ReadV at hv1; rw [evl_fr] at hv1
          exact ⟨v, hv1, hkeep _ _ hk⟩
        | eff =>
          simp only [hc] at hv
          rw [opVA2_eff hc]
          unfold opW at hv; rw [evl_fr] at hv
          refine opUpon_mono (fun v w' hk => ?_) hv
          obtain ⟨hch, hk2⟩ := opsD_chks (loose P ops i) hk
          refine ⟨fun r hr hlr => ?_, hkeep _ _ hk2⟩
          refine (still_put v (hsolid r hlr (loose_read hr).1) (fun or_ cs b ho => H.sel r or_ cs b ho)).1 (still_of_chk fun o ho => ?_)
          rw [hput]
          exact hch r hr o ho
      simp only [opsW] at h
      cases hg : oi.guard with
      | none =>
        simp only [hg] at h
        refine ⟨fun _ => hop h, fun hw => ?_⟩
        simp [Region.wanted, hg] at hw
      | some g =>
        simp only [hg] at h
        unfold cOp2
        rw [wanted_guardB hg]
        refine ⟨fun hw => hop (h.1 hw), fun hw => hkeep _ _ ?_⟩
        have := h.2 hw
        have hcI : clsI P ops i = cls P oi.op := by simp [clsI, hi]
        rw [hcI] at this
        cases hc : cls P oi.op with
        | eff => simp only [hc] at this; exact (opsD_chks (loose P ops i) this).2
        | pure => simp only [hc] at this; exact this
        | read => simp only [hc] at this; exact this
    refine cOp2_mono (fun u w' hk => ?_) hstep
    refine ih (i :: dn) _ _ w' (fun j hj => ?_) (fun j hj => ⟨?_, (hrest j (by simp [hj])).2⟩) (fun j hj => ?_) (List.nodup_cons.1 hnd).2 (by simpa using hs) (fun j hj d => ?_) (down_set H.closed hdn hready H.bl) hra.2 (by simp only [pairs2, Bool.and_eq_true] at hpr; exact hpr.2) hk.1 hk.2.1 hk.2.2
    · rcases hcov j hj with h' | h'
      · left; simp [h']
      · rcases List.mem_cons.1 h' with h' | h'
        · left; simp [h']
        · right; exact h'
    · intro hm
      rcases List.mem_cons.1 hm with h' | h'
      · subst h'; exact (List.nodup_cons.1 hnd).1 hj
      · exact (hrest j (by simp [hj])).1 h'
    · rcases List.mem_cons.1 hj with rfl | h'
      · exact hil
      · exact hdl j h'
    · by_cases hij : i = j
      · subst hij
        have : i < listed.size := by rw [hs]; exact hil
        simp [this]
      · rw [getD_set_ne d hij, hl j hj d]
        simp [Ne.symm hij]
theorem planOk_of {ops : Array Oper} {is : List Item} (h : planB P ops is = true) : PlanOk P ops := by
  simp only [planB, Bool.and_eq_true, decide_eq_true_eq] at h
  obtain ⟨⟨⟨⟨⟨⟨⟨⟨⟨⟨⟨⟨h1, h2⟩, h3⟩, h4⟩, h5⟩, h6⟩, h7⟩, h8⟩, h9⟩, h10⟩, h11⟩, h12⟩, h13⟩ := h
  refine ⟨Region.noSelect_spec h2, h3, fun k i hb => ?_, fun r or_ k ok hr hc hk hkr hb or' hor' => ?_, fun i o ho hc => ?_⟩
  · rcases Nat.lt_or_ge k ops.size with hk | hk
    · have := of_decide_eq_true (List.all_eq_true.1 h11 k (List.mem_range.2 hk))
      rcases Nat.lt_or_ge i ops.size with hi | hi
      · exact hi
      · have := Nat.testBit_lt_two_pow (Nat.lt_of_lt_of_le this (Nat.pow_le_pow_right (by omega) hi))
        rw [this] at hb; cases hb
    · have : (Region.before ops).getD k 0 = 0 := by
        have : (Region.before ops).size ≤ k := by omega
        simp [Array.getElem?_eq_none this]
      rw [this] at hb; simp at hb
  · have hrl := (Array.getElem?_eq_some_iff.1 hr).1
    have hkl := (Array.getElem?_eq_some_iff.1 hk).1
    have h1 := List.all_eq_true.1 h9 r (List.mem_range.2 hrl)
    simp only [hc, beq_self_eq_true, Bool.not_true, Bool.false_or] at h1
    have h2 := List.all_eq_true.1 h1 k (List.mem_range.2 hkl)
    rw [hr] at hor'; cases hor'
    have hbeq : (k == r) = false := by simpa using hkr
    simp only [solid2, hbeq, hb, Bool.false_or, hr, hk] at h2
    refine ⟨fun d hd => ?_, fun d hd => ?_⟩ <;> simp [hd] at h2
    · exact h2.1
    · exact h2.2
  · have := Array.all_eq_true_iff_forall_mem.1 h10 o (Array.mem_of_getElem? ho)
    simp only [hc, beq_self_eq_true, Bool.not_true, Bool.false_or] at this
    split at this
    · rename_i d hd; exact ⟨d, hd, by simpa using this⟩
    · cases this
theorem planOk_base {ops : Array Oper} (h : baseB P ops = true) : PlanOk P ops := by
  simp only [baseB, Bool.and_eq_true, decide_eq_true_eq] at h
  obtain ⟨⟨⟨⟨⟨h2, h3⟩, h9⟩, h10⟩, h11⟩, h12⟩ := h
  refine ⟨Region.noSelect_spec h2, h3, fun k i hb => ?_, fun r or_ k ok hr hc hk hkr hb or' hor' => ?_, fun i o ho hc => ?_⟩
  · rcases Nat.lt_or_ge k ops.size with hk | hk
    · have := of_decide_eq_true (List.all_eq_true.1 h11 k (List.mem_range.2 hk))
      rcases Nat.lt_or_ge i ops.size with hi | hi
      · exact hi
      · have := Nat.testBit_lt_two_pow (Nat.lt_of_lt_of_le this (Nat.pow_le_pow_right (by omega) hi))
        rw [this] at hb; cases hb
    · have : (Region.before ops).getD k 0 = 0 := by
        have : (Region.before ops).size ≤ k := by omega
        simp [Array.getElem?_eq_none this]
      rw [this] at hb; simp at hb
  · have hrl := (Array.getElem?_eq_some_iff.1 hr).1
    have hkl := (Array.getElem?_eq_some_iff.1 hk).1
    have h1 := List.all_eq_true.1 h9 r (List.mem_range.2 hrl)
    simp only [hc, beq_self_eq_true, Bool.not_true, Bool.false_or] at h1
    have h2 := List.all_eq_true.1 h1 k (List.mem_range.2 hkl)
    rw [hr] at hor'; cases hor'
    have hbeq : (k == r) = false := by simpa using hkr
    simp only [solid2, hbeq, hb, Bool.false_or, hr, hk] at h2
    refine ⟨fun d hd => ?_, fun d hd => ?_⟩ <;> simp [hd] at h2
    · exact h2.1
    · exact h2.2
  · have := Array.all_eq_true_iff_forall_mem.1 h10 o (Array.mem_of_getElem? ho)
    simp only [hc, beq_self_eq_true, Bool.not_true, Bool.false_or] at this
    split at this
    · rename_i d hd; exact ⟨d, hd, by simpa using this⟩
    · cases this
theorem wp_region_plan {ro : Option Nat} {m : Nat} {id : Nat} {ops : Array Oper} {is : List Item} {K : Fr → World → Prop} {n : Nat} {a : Act} {w : World} {Q : Exit → Act → World → Prop} (hm : P.follows .mixedOrders = true) (hQ : ∀ a w, Ok n K a w → Q .normal a w)
    (hfit : opsFit n ops = true) (hp : planB P ops is = true) (hs : a.tmps.size = n) (hd : a.defers = []) (h : opsD P ops K is (fr a) { w with drawn := w.drawn + 1 }) : (Code.region id ops true).wpIn (fw ro) m P Q a w := by
  have H := planOk_of hp
  simp only [planB, Bool.and_eq_true, decide_eq_true_eq] at hp
  obtain ⟨⟨⟨⟨⟨⟨⟨⟨⟨⟨⟨⟨h1, h2⟩, h3⟩, h4⟩, h5⟩, h6⟩, h7⟩, h8⟩, h9⟩, h10⟩, h11⟩, h12⟩, h13⟩ := hp
  refine wpIn_region_any hm (wpAny_of_2 (K := Ok n K) hQ _ _ _ _ ?_)
  rw [h1] at h
  have hb : ∀ i ∈ opIdx is, i < ops.size := fun i hi => of_decide_eq_true (List.all_eq_true.1 h5 i hi)
  have := wpAny2_plan H hfit (opIdx is) [] (Array.replicate ops.size false) a _ (fun j hj => .inr (by simpa using List.all_eq_true.1 h13 j (List.mem_range.2 hj))) (fun j hj => ⟨by simp, hb j hj⟩) (by simp) h6 (by simp) (fun j hj d => by simp [hj])
    (fun j i hj _ => by
      rcases Nat.lt_or_ge j ops.size with hk | hk
      · simp [hk] at hj
      · simp [hk] at hj) h7 h8 hs hd h
  rw [h4] at this
  exact this

theorem cOp2_of_items {ops : Array Oper} {N : Fr → World → Prop} {n : Nat} (H : PlanOk P ops) (hfit : opsFit n ops = true) {i : Nat} {oi : Oper} (hi : ops[i]? = some oi) {listed : Array Bool} {a : Act} {w : World} (hun : listed.getD i true = false) (hdn : Down ops listed)
    (ha : a.tmps.size = n) (hdf : a.defers = []) (h : opsD P ops N (itemsOf P ops [i]) (fr a) w) : cOp2 P ops listed i oi (fun a' w' => a'.tmps.size = n ∧ a'.defers = [] ∧ N (fr a') w') a w := by
  have hdst : ∀ o, o ∈ ops → ∀ d, o.dst = some d → d < n := fun o ho d hd => by
    have := Array.all_eq_true_iff_forall_mem.1 hfit o ho
    simpa [hd] using this
  have hnot : ∀ r, listed.getD r false = true → bfr ops i r = false := by
    intro r hr'
    cases hb : bfr ops i r with
    | false => rfl
    | true => have := hdn r i hr' hb; rw [(getD_false_of hun).1] at this; cases this
  have hsolid : ∀ r, listed.getD r false = true → clsI P ops r = .read → Solid ops r oi := by
    intro r hr' hc or_ hor
    have hir : i ≠ r := fun e => by subst e; rw [(getD_false_of hun).1] at hr'; cases hr'
    exact H.solid r or_ i oi hor hc hi hir (hnot r hr') or_ hor
  have hput : ∀ v, fr (a.put oi.dst v) = updo (fr a) oi.dst v := fun v => fr_put fun t ht => by rw [ha]; exact hdst oi (Array.mem_of_getElem? hi) t ht
  simp only [itemsOf, List.flatMap_cons, List.flatMap_nil, List.append_nil, opsD, hi] at h
  have hkeep : ∀ v w', N (updo (fr a) oi.dst v) w' → (a.put oi.dst v).tmps.size = n ∧ (a.put oi.dst v).defers = [] ∧ N (fr (a.put oi.dst v)) w' :=
    fun v w' hk => ⟨by rw [size_put, ha], by rw [defers_put, hdf], by rw [hput]; exact hk⟩
  have hop : opV P oi (fr a) w (opsW P ops (opsD P ops N (match clsI P ops i with | .eff => (loose P ops i).map Item.chk | _ => [])) []) → opVA2 P ops listed i oi a w fun a' w' => a'.tmps.size = n ∧ a'.defers = [] ∧ N (fr a') w' := by
    intro hv
    have hcI : clsI P ops i = cls P oi.op := by simp [clsI, hi]
    rw [hcI] at hv
    unfold opV at hv
    cases hc : cls P oi.op with
    | pure =>
      simp only [hc] at hv
      rw [opVA2_pure hc]
      obtain ⟨v, hv1, hk⟩ := hv
      unfold PureV at hv1; rw [evl_fr] at hv1
      exact ⟨v, hv1, hkeep _ _ hk⟩
    | read =>
      simp only [hc] at hv
      rw [opVA2_read hc]
      obtain ⟨v, hv1, hk⟩ := hv
      unfold ReadV at hv1; rw [evl_fr] at hv1
      exact ⟨v, hv1, hkeep _ _ hk⟩
    | eff =>
      simp only [hc] at hv
      rw [opVA2_eff hc]
      unfold opW at hv; rw [evl_fr] at hv
      refine opUpon_mono (fun v w' hk => ?_) hv
      obtain ⟨hch, hk2⟩ := opsD_chks (tail := []) (loose P ops i) (by rw [List.append_nil]; exact hk)
      refine ⟨fun r hr hlr => ?_, hkeep _ _ hk2⟩
      refine (still_put v (hsolid r hlr (loose_read hr).1) (fun or_ cs b ho => H.sel r or_ cs b ho)).1 (still_of_chk fun o ho => ?_)
      rw [hput]
      exact hch r hr o ho
  simp only [opsW] at h
  cases hg : oi.guard with
  | none =>
    simp only [hg] at h
    refine ⟨fun _ => hop h, fun hw => ?_⟩
    simp [Region.wanted, hg] at hw
  | some g =>
    simp only [hg] at h
    unfold cOp2
    rw [wanted_guardB hg]
    refine ⟨fun hw => hop (h.1 hw), fun hw => hkeep _ _ ?_⟩
    have := h.2 hw
    have hcI : clsI P ops i = cls P oi.op := by simp [clsI, hi]
    rw [hcI] at this
    cases hc : cls P oi.op with
    | eff => simp only [hc] at this; exact (opsD_chks (tail := []) (loose P ops i) (by rw [List.append_nil]; exact this)).2
    | pure => simp only [hc] at this; exact this
    | read => simp only [hc] at this; exact this
/-- Where a tree's walk stands. -/
structure TSt (ops : Array Oper) (n : Nat) (dn : List Nat) (listed : Array Bool) (a : Act) : Prop where
  size : listed.size = ops.size
  at_ : ∀ j, j < ops.size → ∀ d, listed.getD j d = decide (j ∈ dn)
  down : Down ops listed
  lt : ∀ j ∈ dn, j < ops.size
  tmps : a.tmps.size = n
  defers : a.defers = []
theorem TSt.ready {ops : Array Oper} {n : Nat} {dn : List Nat} {listed : Array Bool} {a : Act} (S : TSt ops n dn listed a) {i : Nat} : i ∈ Region.ready .any ops listed ↔ (i ∉ dn ∧ readyB ops dn i = true) := by
  rw [mem_ready]
  constructor
  · rintro ⟨h1, o, ho, h2⟩
    have hil := (Array.getElem?_eq_some_iff.1 ho).1
    rw [S.at_ i hil] at h1
    refine ⟨by simpa using h1, ?_⟩
    simp only [readyB, ho]
    refine Array.all_eq_true_iff_forall_mem.2 fun e he => ?_
    cases hb : Region.binds .any e with
    | false => rfl
    | true =>
      have h3 := h2 e he hb
      rcases Nat.lt_or_ge e.on ops.size with hl | hl
      · rw [S.at_ _ hl] at h3
        simpa using h3
      · have : listed.size ≤ e.on := by rw [S.size]; exact hl
        simp [this] at h3
  · rintro ⟨h1, h2⟩
    unfold readyB at h2
    split at h2
    · rename_i o ho
      have hil := (Array.getElem?_eq_some_iff.1 ho).1
      refine ⟨by rw [S.at_ i hil]; simpa using h1, o, ho, fun e he hb => ?_⟩
      have := Array.all_eq_true_iff_forall_mem.1 h2 e he
      simp only [hb, Bool.not_true, Bool.false_or, List.contains_iff_mem] at this
      rw [S.at_ _ (S.lt _ this)]; simpa using this
    · cases h2
theorem TSt.next {ops : Array Oper} {n : Nat} {dn : List Nat} {listed : Array Bool} {a a' : Act} (H : PlanOk P ops) (S : TSt ops n dn listed a) {i : Nat} (hil : i < ops.size) (hr : i ∈ Region.ready .any ops listed) (ha : a'.tmps.size = n) (hd : a'.defers = []) : TSt ops n (i :: dn) (listed.setIfInBounds i true) a' := by
  refine ⟨by simpa using S.size, fun j hj d => ?_, down_set H.closed S.down hr H.bl, fun j hj => ?_, ha, hd⟩
  · by_cases hij : i = j
    · subst hij
      have : i < listed.size := by rw [S.size]; exact hil
      simp [this]
    · rw [getD_set_ne d hij, S.at_ j hj d]
      simp [Ne.symm hij]
  · rcases List.mem_cons.1 hj with rfl | h'
    · exact hil
    · exact S.lt j h'
def isAlt : PT → Prop
  | .alt .. | .stop => True
  | _ => False
theorem tree_sound {ops : Array Oper} {K : Fr → World → Prop} {n : Nat} (H : PlanOk P ops) (hfit : opsFit n ops = true) : ∀ (T : PT) (dn seen : List Nat) (fuel : Nat) (listed : Array Bool) (a : Act) (w : World), treeB P ops dn seen T = true → TSt ops n dn listed a → fuel + dn.length = ops.size → opsT P ops K T (fr a) w →
    (seen = [] → wpAny2 P ops (Ok n K) fuel listed a w) ∧ (isAlt T → ∀ i ∈ Region.ready .any ops listed, i ∉ seen → ∀ o, ops[i]? = some o → ∃ f, fuel = f + 1 ∧ cOp2 P ops listed i o (wpAny2 P ops (Ok n K) f (listed.setIfInBounds i true)) a w)
  | .stop, dn, seen, fuel, listed, a, w, ht, S, _, _ => by
    simp only [treeB, Bool.and_eq_true, Bool.not_eq_true'] at ht
    refine ⟨fun h => by simp [h] at ht, fun _ i hi hns o ho => ?_⟩
    have hil := (Array.getElem?_eq_some_iff.1 ho).1
    have h1 := List.all_eq_true.1 ht.2 i (List.mem_range.2 hil)
    obtain ⟨h2, h3⟩ := S.ready.1 hi
    simp [h2, hns, h3] at h1
  | .lin is, dn, seen, fuel, listed, a, w, ht, S, hf, h => by
    simp only [treeB, Bool.and_eq_true, decide_eq_true_eq] at ht
    obtain ⟨⟨⟨⟨⟨⟨⟨t1, t2⟩, t3⟩, t4⟩, t5⟩, t6⟩, t7⟩, t8⟩ := ht
    refine ⟨fun _ => ?_, fun h => h.elim⟩
    simp only [opsT] at h
    rw [t2] at h
    have hall : ∀ j ∈ opIdx is, j < ops.size ∧ j ∉ dn := fun j hj => by
      have := List.all_eq_true.1 t4 j hj
      simpa using this
    have := wpAny2_plan H hfit (opIdx is) dn listed a w (fun j hj => by
        have := List.all_eq_true.1 t8 j (List.mem_range.2 hj)
        simpa using this) (fun j hj => ⟨(hall j hj).2, (hall j hj).1⟩) S.lt t5 S.size S.at_ S.down t6 t7 S.tmps S.defers h
    have e : fuel = (opIdx is).length := by omega
    rw [e]; exact this
  | .step i is t, dn, seen, fuel, listed, a, w, ht, S, hf, h => by
    simp only [treeB, Bool.and_eq_true, decide_eq_true_eq, Bool.not_eq_true'] at ht
    obtain ⟨⟨⟨⟨⟨⟨t1, t2⟩, t3⟩, t4⟩, t5⟩, t6⟩, t7⟩ := ht
    refine ⟨fun _ => ?_, fun h => h.elim⟩
    obtain ⟨f, rfl⟩ : ∃ f, fuel = f + 1 := ⟨fuel - 1, by omega⟩
    have hr : i ∈ Region.ready .any ops listed := S.ready.2 ⟨by simpa using t4, t5⟩
    obtain ⟨hun, oi, hi, _⟩ := mem_ready.1 hr
    have hil := (Array.getElem?_eq_some_iff.1 hi).1
    simp only [opsT] at h
    rw [t2] at h
    refine wpAny2_first H hfit hi f listed a w S.size S.tmps S.down (fun j oj hj hji hjun hb => ?_) hr ?_
    · have hjl := (Array.getElem?_eq_some_iff.1 hj).1
      rw [S.at_ j hjl] at hjun
      have := List.all_eq_true.1 t6 j (List.mem_range.2 hjl)
      have hjd : dn.contains j = false := by simpa using hjun
      have hbe : (j == i) = false := by simpa using hji
      simp only [hjd, hbe, Bool.false_or, pair2, hb, hi, hj, Bool.and_eq_true] at this
      exact this
    · refine cOp2_mono (fun u w' hk => ?_) (cOp2_of_items H hfit hi hun S.down S.tmps S.defers h)
      exact (tree_sound H hfit t (i :: dn) [] f _ _ w' t7 (S.next H hil hr hk.1 hk.2.1) (by simp only [List.length_cons]; omega) hk.2.2).1 rfl
  | .alt i is t m, dn, seen, fuel, listed, a, w, ht, S, hf, h => by
    simp only [treeB, Bool.and_eq_true, decide_eq_true_eq, Bool.not_eq_true'] at ht
    obtain ⟨⟨⟨⟨⟨t2, t3⟩, t4⟩, t5⟩, t7⟩, t8⟩ := ht
    have hr : i ∈ Region.ready .any ops listed := S.ready.2 ⟨by simpa using t4, t5⟩
    obtain ⟨hun, oi, hi, _⟩ := mem_ready.1 hr
    have hil := (Array.getElem?_eq_some_iff.1 hi).1
    simp only [opsT] at h
    rw [t2] at h
    have hmA : isAlt m := by
      cases m with
      | lin is => simp [treeB] at t8
      | step i is t => simp [treeB] at t8
      | _ => trivial
    have hall : ∀ j ∈ Region.ready .any ops listed, j ∉ seen → ∀ o, ops[j]? = some o → ∃ f, fuel = f + 1 ∧ cOp2 P ops listed j o (wpAny2 P ops (Ok n K) f (listed.setIfInBounds j true)) a w := by
      intro j hj hjs o ho
      by_cases hji : j = i
      · subst hji
        rw [hi] at ho; cases ho
        obtain ⟨f, rfl⟩ : ∃ f, fuel = f + 1 := ⟨fuel - 1, by omega⟩
        refine ⟨f, rfl, cOp2_mono (fun u w' hk => ?_) (cOp2_of_items H hfit hi hun S.down S.tmps S.defers h.1)⟩
        exact (tree_sound H hfit t (j :: dn) [] f _ _ w' t7 (S.next H hil hr hk.1 hk.2.1) (by simp only [List.length_cons]; omega) hk.2.2).1 rfl
      · exact (tree_sound H hfit m dn (i :: seen) fuel listed a w t8 S hf h.2).2 hmA j hj (fun hm => by
          rcases List.mem_cons.1 hm with h' | h'
          · exact hji h'
          · exact hjs h') o ho
    refine ⟨fun hs => ?_, fun _ => hall⟩
    subst hs
    obtain ⟨f, rfl⟩ : ∃ f, fuel = f + 1 := ⟨fuel - 1, by omega⟩
    refine ⟨fun h0 => (by rw [h0] at hr; cases hr), fun j hj o ho => ?_⟩
    obtain ⟨f', hf', hc⟩ := hall j hj (by simp) o ho
    cases hf'
    exact hc
theorem wp_region_tree {ro : Option Nat} {m : Nat} {id : Nat} {ops : Array Oper} {T : PT} {K : Fr → World → Prop} {n : Nat} {a : Act} {w : World} {Q : Exit → Act → World → Prop} (hm : P.follows .mixedOrders = true) (hQ : ∀ a w, Ok n K a w → Q .normal a w)
    (hfit : opsFit n ops = true) (hb : baseB P ops = true) (ht : treeB P ops [] [] T = true) (hs : a.tmps.size = n) (hd : a.defers = []) (h : opsT P ops K T (fr a) { w with drawn := w.drawn + 1 }) : (Code.region id ops true).wpIn (fw ro) m P Q a w := by
  have H := planOk_base hb
  refine wpIn_region_any hm (wpAny_of_2 (K := Ok n K) hQ _ _ _ _ ?_)
  refine (tree_sound H hfit T [] [] ops.size _ a _ ht ⟨by simp, fun j hj d => by simp [hj], fun j i hj _ => ?_, by simp, hs, hd⟩ (by simp) h).1 rfl
  rcases Nat.lt_or_ge j ops.size with hk | hk
  · simp [hk] at hj
  · simp [hk] at hj

theorem least_ex {p : Nat → Prop} : ∀ m, p m → ∃ k, p k ∧ ∀ j, p j → k ≤ j := by
  intro m
  induction m using Nat.strongRecOn with
  | _ m ih =>
    intro hm
    by_cases h : ∃ j, j < m ∧ p j
    · obtain ⟨j, hj, hpj⟩ := h; exact ih j hj hpj
    · exact ⟨m, hm, fun j hj => Nat.le_of_not_lt fun hlt => h ⟨j, hlt, hj⟩⟩
open Classical in
noncomputable def least (p : Nat → Prop) : Nat := if h : ∃ k, p k ∧ ∀ j, p j → k ≤ j then h.choose else 0
theorem least_spec {p : Nat → Prop} {m : Nat} (hm : p m) : p (least p) ∧ ∀ j, p j → least p ≤ j := by
  have h := least_ex m hm
  unfold least
  rw [dif_pos h]
  exact h.choose_spec

theorem vc_sound {ro : Option Nat} {m : Nat} {n : Nat} (hm : P.follows .mixedOrders = true) : ∀ (c : Code), fits n c = true → ∀ (Q : Exit → Fr → World → Prop) (a : Act) (w : World), a.tmps.size = n → a.defers = [] → vc P c Q (fr a) w →
    c.wpIn (fw ro) m P (OkQ n Q) a w
  | .skip, _, _, _, _, hs, hd, h => wpIn_skip ⟨hs, hd, h⟩
  | .label _, _, _, _, _, hs, hd, h => wpIn_label ⟨hs, hd, h⟩
  | .exit _, _, _, _, _, hs, hd, h => wpIn_exit ⟨hs, hd, h⟩
  | .ret, _, _, _, _, hs, hd, h => wpIn_ret ⟨hs, hd, h⟩
  | .seq x y, hf, Q, a, w, hs, hd, h => by
    simp only [fits, Bool.and_eq_true] at hf
    refine wpIn_seq (wpIn_mono (vc_sound hm x hf.1 _ a w hs hd h) fun e a' w' hq => ?_)
    obtain ⟨hs', hd', hq⟩ := hq
    cases e with
    | normal => exact vc_sound hm y hf.2 Q a' w' hs' hd' hq
    | _ => exact ⟨hs', hd', hq⟩
  | .cond c x y, hf, Q, a, w, hs, hd, h => by
    simp only [fits, Bool.and_eq_true] at hf
    obtain ⟨t, ht, h1, h2⟩ := h
    rw [evl_fr] at ht
    exact wpIn_cond_split ht (fun ht => vc_sound hm x hf.1 Q a w hs hd (h1 ht)) (fun ht => vc_sound hm y hf.2 Q a w hs hd (h2 ht))
  | .block id c, hf, Q, a, w, hs, hd, h => by
    refine wpIn_block (wpIn_mono (vc_sound hm c hf _ a w hs hd h) fun e a' w' hq => ?_)
    obtain ⟨hs', hd', hq⟩ := hq
    cases e with
    | exit i =>
      simp only [Blk] at hq
      simp only [Exit.inBlock]
      split
      · rename_i hi; rw [if_pos hi] at hq; exact ⟨hs', hd', hq⟩
      · rename_i hi; rw [if_neg hi] at hq; exact ⟨hs', hd', hq⟩
    | _ => exact ⟨hs', hd', hq⟩
  | .loop c, hf, Q, a, w, hs, hd, h => by
    obtain ⟨I, h0, hr⟩ := h
    refine wpIn_loop (fun a w => a.tmps.size = n ∧ a.defers = [] ∧ ∃ m, I m (fr a) w) (fun a w => least fun m => I m (fr a) w) ⟨hs, hd, h0⟩ fun a w ⟨hs, hd, m0, hI0⟩ => ?_
    have hI := (least_spec (p := fun m => I m (fr a) w) hI0).1
    refine wpIn_mono (vc_sound hm c hf _ a w hs hd (hr _ _ _ hI)) fun e a' w' hq => ?_
    obtain ⟨hs', hd', hq⟩ := hq
    cases e with
    | normal =>
      obtain ⟨m', hlt, hI'⟩ := hq
      exact ⟨⟨hs', hd', m', hI'⟩, Nat.lt_of_le_of_lt ((least_spec (p := fun m => I m (fr a') w') hI').2 m' hI') hlt⟩
    | _ => exact ⟨hs', hd', hq⟩
  | .region id ops false, hf, Q, a, w, hs, hd, h => wp_region_text (fun a w h => h) hf hs hd h
  | .region id ops true, hf, Q, a, w, hs, hd, h => by
    rcases h with h | ⟨is, hp, h⟩ | ⟨T, hb, ht, h⟩
    case inr.inl => exact wp_region_plan hm (fun a w h => h) hf hp hs hd h
    case inr.inr => exact wp_region_tree hm (fun a w h => h) hf hb ht hs hd h
    refine wpIn_region_any hm (wpAny_of_C (K := Ok n (Q .normal)) (fun a w h => h) _ _ _ _ ?_)
    have := wpAnyC_text h.1 hf ops.toList 0 (Array.replicate ops.size false) a _ (by simp) (by simp) ⟨by simp, fun j hj d => by simp [hj]⟩ hs hd h.2
    simpa using this
  | .rangeFunc .., _, _, _, _, _, _, h => h.elim
  | .scope _, _, _, _, _, _, _, h => h.elim
  | .goto _, _, _, _, _, _, _, h => h.elim
  | .refuse _, _, _, _, _, _, _, h => h.elim

def arg0 (args : List Value) : Fr := fun t => (args[t]?).getD undef

def postV (P : Program) (fn : Func) (R : Value → World → Prop) (e : Exit) (ρ : Fr) (w : World) : Prop :=
  match e with
  | .normal | .ret => ∃ v, (∀ a : Act, fr a = ρ → (results fn a.tmps).run P w = .ok v w) ∧ R v w
  | _ => False

theorem calls_of_vc {f : FuncId} {fn : Func} {c : Code} {args : List Value} {w : World} {R : Ending → World → Prop} (hm : P.follows .mixedOrders = true)
    (hf : P.funcs[f]? = some fn) (hb : fn.body = some c) (hfit : fits fn.ntmps c = true) (hn : args.length ≤ fn.ntmps)
    (h : vc P c (postV P fn fun v w' => R (.returned v) w') (arg0 args) w) : Calls P f args.toArray w R := by
  refine (callsIn_wide (n := 0)).1 (callsIn_of_wp hf hb trivial ?_)
  have hfr : fr { tmps := args.toArray ++ Array.replicate (fn.ntmps - args.toArray.size) undef, defers := [] } = arg0 args := by
    funext t
    simp only [fr, arg0]
    rcases Nat.lt_or_ge t args.length with ht | ht
    · simp [Array.getElem?_append_left, ht]
    · simp [Array.getElem?_append_right, ht]
      rcases Nat.lt_or_ge (t - args.length) (fn.ntmps - args.length) with h1 | h1
      · simp [h1]
      · simp [h1]
  rw [← hfr] at h
  refine wpIn_mono (vc_sound (ro := none) hm c hfit _ _ w (by simp; omega) rfl h) fun e a' w' hq => ?_
  obtain ⟨_, hd, hq⟩ := hq
  cases e with
  | normal => obtain ⟨v, hv, hR⟩ := hq; exact ⟨hd, v, hv a' rfl, hR⟩
  | ret => obtain ⟨v, hv, hR⟩ := hq; exact ⟨hd, v, hv a' rfl, hR⟩
  | _ => exact hq.elim

end
end Go.Sl
