/-
  Finite-domain tasks, in plain Lean, and how they lie in memory.
-/
import Derived.Test.YtlgombjhcpgleaaSlGo
namespace Go.Proofs.Ytlgombjhcpgleaa
open Go.Sl

structure Fact where
  var : Int
  val : Int
  deriving DecidableEq
def tFact : Ty Fact := ⟨2, fun f => [.int .i64 f.var, .int .i64 f.val], fun _ => rfl, ⟨0, 0⟩⟩
instance : OneT tFact := ⟨fun x v hv => by simp only [tFact, List.mem_cons, List.not_mem_nil, or_false] at hv; rcases hv with rfl | rfl <;> rfl⟩
structure Eff where
  when : List Fact
  var : Int
  val : Int
structure TOp where
  name : ByteArray
  cost : Int
  pre : List Fact
  effs : List Eff
structure TTask where
  vars : List Int
  init : List Int
  goal : List Fact
  ops : List TOp

structure EffV where
  when : Value
  var : Int
  val : Int
def tEff : Ty EffV := ⟨3, fun e => [e.when, .int .i64 e.var, .int .i64 e.val], fun _ => rfl, ⟨.slice none 0 0, 0, 0⟩⟩
structure OpV where
  name : ByteArray
  cost : Int
  pre : Value
  effs : Value
def tOp : Ty OpV := ⟨4, fun o => [.string o.name, .int .i64 o.cost, o.pre, o.effs], fun _ => rfl, ⟨ByteArray.empty, 0, .slice none 0 0, .slice none 0 0⟩⟩
instance : ShutT tEff := ⟨trivial⟩
instance : ShutT tOp := ⟨trivial⟩
def dEff : Eff := ⟨[], 0, 0⟩
def dOp : TOp := ⟨ByteArray.empty, 0, [], []⟩

structure REff (w : World) (v : EffV) (e : Eff) : Prop where
  var : v.var = e.var
  val : v.val = e.val
  when : RS tFact w v.when e.when
structure REffs (w : World) (s : Value) (vs : List EffV) (es : List Eff) : Prop where
  rs : RS tEff w s vs
  len : vs.length = es.length
  at_ : ∀ i, i < es.length → REff w (eget tEff vs i) (es.getD i dEff)
structure ROp (w : World) (v : OpV) (o : TOp) : Prop where
  name : v.name = o.name
  size : o.name.size ≤ 9223372036854775807
  cost : v.cost = o.cost
  pre : RS tFact w v.pre o.pre
  effs : ∃ vs, REffs w v.effs vs o.effs
structure ROps (w : World) (s : Value) (vs : List OpV) (os : List TOp) : Prop where
  rs : RS tOp w s vs
  len : vs.length = os.length
  at_ : ∀ i, i < os.length → ROp w (eget tOp vs i) (os.getD i dOp)
/-- A task's four fields. -/
structure RTask (w : World) (a b c d : Value) (vs : List OpV) (t : TTask) : Prop where
  vars : RS tInt w a t.vars
  init : RS tInt w b t.init
  goal : RS tFact w c t.goal
  ops : ROps w d vs t.ops
theorem REff.one {w : World} {v : EffV} {e : Eff} (h : REff w v e) : (tEff.enc v).all Value.oneCell' = true := by
  simp only [tEff, List.all_cons, List.all_nil, Bool.and_true, h.when.one]; rfl
theorem ROp.one {w : World} {v : OpV} {o : TOp} (h : ROp w v o) : (tOp.enc v).all Value.oneCell' = true := by
  obtain ⟨vs, he⟩ := h.effs
  simp only [tOp, List.all_cons, List.all_nil, Bool.and_true, h.pre.one, he.rs.one]; rfl
theorem REffs.at {w0 w : World} {Γ : List HP} {s : Value} {vs : List EffV} {es : List Eff} (h : REffs w0 s vs es) (hw : Sat w0 w Γ) : REffs w s vs es :=
  ⟨h.rs.at hw, h.len, fun i hi => ⟨(h.at_ i hi).var, (h.at_ i hi).val, (h.at_ i hi).when.at hw⟩⟩
theorem ROp.at {w0 w : World} {Γ : List HP} {v : OpV} {o : TOp} (h : ROp w0 v o) (hw : Sat w0 w Γ) : ROp w v o :=
  ⟨h.name, h.size, h.cost, h.pre.at hw, let ⟨vs, he⟩ := h.effs; ⟨vs, he.at hw⟩⟩
theorem ROps.at {w0 w : World} {Γ : List HP} {s : Value} {vs : List OpV} {os : List TOp} (h : ROps w0 s vs os) (hw : Sat w0 w Γ) : ROps w s vs os :=
  ⟨h.rs.at hw, h.len, fun i hi => (h.at_ i hi).at hw⟩
theorem RTask.at {w0 w : World} {Γ : List HP} {a b c d : Value} {vs : List OpV} {t : TTask} (h : RTask w0 a b c d vs t) (hw : Sat w0 w Γ) : RTask w a b c d vs t :=
  ⟨h.vars.at hw, h.init.at hw, h.goal.at hw, h.ops.at hw⟩
end Go.Proofs.Ytlgombjhcpgleaa
