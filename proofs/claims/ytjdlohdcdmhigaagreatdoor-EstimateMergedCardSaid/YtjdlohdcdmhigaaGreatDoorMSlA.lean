/-
  Several texts as one: SlCore, SlHeap, SlOps, SlCtl, SlMore, SlApp, SlInv, SlPack, SlGo.
-/
import Derived.OrdersIn
import Derived.KernelRfl
import Derived.Below
import Derived.Laws.Sem
import Derived.Laws.Cells
import Derived.Laws.Small
import Derived.Laws.Slices
import Derived.Laws.World
import Derived.Laws.BitsLemmas
import Derived.WideLaws
import Derived.ChangeKeysEq
import Derived.Conc.MuLone
import Derived.Laws.AppendOwn
import Derived.Laws.Pointers
set_option linter.unusedSimpArgs false
set_option linter.unusedVariables false
/-
  A verification-condition generator over the model's structured code, with frames as functions: 'vc' and its soundness ('calls_of_vc'). Nothing here depends on one program.
-/
namespace Go.Sl
abbrev Fr:=Nat→Value
def upd (ρ:Fr) (d:Nat) (v:Value):Fr:=fun t=>bif Nat.beq t d then v else ρ t
def updo (ρ:Fr) (d:Option Nat) (v:Value):Fr:=match d with|some d=>upd ρ d v|none=>ρ
def evl (ρ:Fr):Operand→Value
 | .tmp t=>ρ t
 | .const v=>v
 | .global g=>.pointer (some ⟨g,0,none⟩)
 | .func f=>.func (.func f) #[] #[]
def fr (a:Act):Fr:=fun t=>a.tmps.getD t undef
theorem qaZ (a:Act):evl (fr a)=a.eval:=by
 funext x;cases x <;> rfl
inductive Cls where
 | pure|read|eff
 deriving DecidableEq
def isInt (P:Program) (t:TypeId):Bool:=match P.underlying t with|some (.int _)=>true|_=>false
def cls (P:Program):Op→Cls
 | .move _|.assign _|.pick ..|.binOp ..|.unOp ..|.extract ..|.fieldAddr ..|.field ..|.indexAddr ..|.index ..|.slice ..|.makeInterface ..|.makeFunc ..|.nilCheck _|.typeAssert ..=>.pure
 | .convert s d _=>if isInt P s && isInt P d then .pure else .eff
 | .call { callee:=.builtin .len,argTypes,.. }=>(match (argTypes[0]?).bind P.underlying with|some (.map ..)|some (.chan ..)=>.read|_=>.pure)
 | .call { callee:=.builtin .min,.. }|.call { callee:=.builtin .max,.. }|.call { callee:=.builtin .cap,.. }=>.pure
 | .load ..|.lookup ..=>.read
 | _=>.eff
def PureV (P:Program) (o:Oper) (ρ:Fr) (v:Value):Prop:=∀ w,(execOp (evl ρ) o).run P w=.ok (.value v) w
def ReadV (P:Program) (o:Oper) (ρ:Fr) (w:World) (v:Value):Prop:=(execOp (evl ρ) o).run P w=.ok (.value v) w
def opUpon (P:Program) (K:Value→World→Prop):Result Next→Prop
 | .ok (.value v) w=>K v w
 | .ok .skip w=>K undef w
 | .ok (.enter f args) w=>Calls P f args w fun
   | .returned v,w'=>K v w'
   | _,_=>False
 | .ok (.round l f tmps assign body) w=>RoundIn Fence.wide 0 P l f tmps assign body w fun
   | .returned v,w'=>K v w'
   | _,_=>False
 | _=>False
def opW (P:Program) (o:Oper) (ρ:Fr) (w:World) (K:Value→World→Prop):Prop:=opUpon P K ((execOp (evl ρ) o).run P w)
def opV (P:Program) (o:Oper) (ρ:Fr) (w:World) (K:Fr→World→Prop):Prop :=
 match cls P o.op with
 | .pure=>∃ v,PureV P o ρ v∧K (updo ρ o.dst v) w
 | .read=>∃ v,ReadV P o ρ w v∧K (updo ρ o.dst v) w
 | .eff=>opW P o ρ w fun v w'=>K (updo ρ o.dst v) w'
def asks (v:Value) (want:Bool):Bool:=match v with|.bool b=>b == want|_=>false
def gslot (ops:Array Oper) (j:Nat):Option Nat:=(ops[j]?).bind (·.dst)
def guardB (ops:Array Oper) (ρ:Fr) (g:Nat × Bool):Bool:=match gslot ops g.1 with|some t=>asks (ρ t) g.2|none=>false
def opsW (P:Program) (ops:Array Oper) (K:Fr→World→Prop):List Oper→Fr→World→Prop
 | [],ρ,w=>K ρ w
 | o::r,ρ,w =>
  match o.guard with
  | none=>opV P o ρ w (opsW P ops K r)
  | some g=>(guardB ops ρ g=true→opV P o ρ w (opsW P ops K r))∧(guardB ops ρ g=false→opsW P ops K r (updo ρ o.dst undef) w)
def Thn (next:Fr→World→Prop) (Q:Exit→Fr→World→Prop):Exit→Fr→World→Prop
 | .normal,ρ,w=>next ρ w
 | e,ρ,w=>Q e ρ w
def Blk (id:Nat) (Q:Exit→Fr→World→Prop):Exit→Fr→World→Prop
 | .exit i,ρ,w=>if i=id then Q .normal ρ w else Q (.exit i) ρ w
 | e,ρ,w=>Q e ρ w
def compatB (P:Program) (a b:Op):Bool :=
 match cls P a,cls P b with
 | .pure,_|_,.pure=>true
 | .read,.read=>true
 | _,_=>false
def commPair (P:Program) (ops:Array Oper) (bef:Array Nat) (i j:Nat):Bool :=
 (bef.getD j 0).testBit i || match ops[i]?,ops[j]? with
  | some oi,some oj=>oi.apart ops oj && compatB P oi.op oj.op
  | _,_=>true
def closedB (ops:Array Oper) (bef:Array Nat):Bool :=
 (List.range ops.size).all fun j=>(List.range ops.size).all fun i => !(bef.getD j 0).testBit i ||
  match ops[j]? with
  | some oj=>oj.after.any fun e=>Region.binds .any e && (e.on == i || (bef.getD e.on 0).testBit i)
  | none=>false
def commB (P:Program) (ops:Array Oper):Bool :=
 let bef:=Region.before ops
 Region.noSelect ops && closedB ops bef && (List.range ops.size).all (fun j=>(List.range j).all fun i=>commPair P ops bef i j) &&
 (List.range ops.size).all fun j=>match ops[j]? with
  | some oj=>oj.after.all (fun e => !Region.binds .any e || decide (e.on<j)) && decide (bef.getD j 0<2 ^ ops.size) && decide (bef.size≤ops.size)
  | none=>true
inductive Item where
 | op (i:Nat)
 | chk (i:Nat)
 deriving DecidableEq
section
variable (P:Program) (ops:Array Oper)
def clsI (i:Nat):Cls:=match ops[i]? with|some o=>cls P o.op|none=>.pure
def bfr (i j:Nat):Bool:=((Region.before ops).getD j 0).testBit i
def loose (j:Nat):List Nat:=(List.range ops.size).filter fun i=>clsI P ops i == .read && !(i == j) && !bfr ops i j && !bfr ops j i
def itemsOf (π:List Nat):List Item:=π.flatMap fun i=>Item.op i::(match clsI P ops i with|.eff=>(loose P ops i).map Item.chk|_=>[])
def opIdx:List Item→List Nat
 | []=>[]
 | .op i::r=>i::opIdx r
 | .chk _::r=>opIdx r
def compat2 (a b:Cls):Bool:=match a,b with|.pure,_|_,.pure=>true|.read,.read|.read,.eff=>true|_,_=>false
def pair2 (i j:Nat):Bool:=bfr ops i j || match ops[i]?,ops[j]? with|some oi,some oj=>oi.apart ops oj && compat2 (cls P oi.op) (cls P oj.op)|_,_=>false
def pairs2:List Nat→Bool
 | []=>true
 | i::r=>r.all (fun j=>pair2 P ops i j) && pairs2 r
def readyAlong:List Nat→List Nat→Bool
 | _,[]=>true
 | done,i::r=>(match ops[i]? with|some o=>o.after.all fun e => !Region.binds .any e || done.contains e.on|none=>false) && readyAlong (i::done) r
def solid2 (r k:Nat):Bool:=k == r || bfr ops k r || match ops[r]?,ops[k]? with
 | some or_,some ok=>(match ok.dst with|some d => !(or_.looksAt ops).contains d && or_.dst != some d|none=>true)
 | _,_=>true
def planB (is:List Item):Bool :=
 decide (is=itemsOf P ops (opIdx is)) && Region.noSelect ops && closedB ops (Region.before ops) &&
 decide ((opIdx is).length=ops.size) && (opIdx is).all (fun i=>decide (i<ops.size)) && decide ((opIdx is).Nodup) &&
 readyAlong ops [] (opIdx is) && pairs2 P ops (opIdx is) &&
 (List.range ops.size).all (fun r => !(clsI P ops r == .read) || (List.range ops.size).all fun k=>solid2 ops r k) &&
 ops.all (fun o => !(cls P o.op == .read) || (match o.dst with|some d => !(o.looksAt ops).contains d|none=>false)) &&
 (List.range ops.size).all (fun j=>decide ((Region.before ops).getD j 0<2 ^ ops.size)) && decide ((Region.before ops).size≤ops.size) && (List.range ops.size).all fun j=>(opIdx is).contains j
end
def opsD (P:Program) (ops:Array Oper) (K:Fr→World→Prop):List Item→Fr→World→Prop
 | [],ρ,w=>K ρ w
 | .op i::r,ρ,w=>(match ops[i]? with|some o=>opsW P ops (opsD P ops K r) [o] ρ w|none=>False)
 | .chk i::r,ρ,w=>(match ops[i]? with
   | some o=>(match o.guard with
     | none=>∀ d,o.dst=some d→ReadV P o ρ w (ρ d)
     | some g=>guardB ops ρ g=true→∀ d,o.dst=some d→ReadV P o ρ w (ρ d))
   | none=>False)∧opsD P ops K r ρ w
inductive PT where
 | lin (is:List Item)
 | step (i:Nat) (is:List Item) (t:PT)
 | alt (i:Nat) (is:List Item) (t:PT) (more:PT)
 | stop
def opsT (P:Program) (ops:Array Oper) (K:Fr→World→Prop):PT→Fr→World→Prop
 | .lin is,ρ,w=>opsD P ops K is ρ w
 | .step _ is t,ρ,w=>opsD P ops (opsT P ops K t) is ρ w
 | .alt _ is t m,ρ,w=>opsD P ops (opsT P ops K t) is ρ w∧opsT P ops K m ρ w
 | .stop,_,_=>True
def baseB (P:Program) (ops:Array Oper):Bool :=
 Region.noSelect ops && closedB ops (Region.before ops) &&
 (List.range ops.size).all (fun r => !(clsI P ops r == .read) || (List.range ops.size).all fun k=>solid2 ops r k) &&
 ops.all (fun o => !(cls P o.op == .read) || (match o.dst with|some d => !(o.looksAt ops).contains d|none=>false)) &&
 (List.range ops.size).all (fun j=>decide ((Region.before ops).getD j 0<2 ^ ops.size)) && decide ((Region.before ops).size≤ops.size)
def readyB (ops:Array Oper) (dn:List Nat) (i:Nat):Bool:=match ops[i]? with|some o=>o.after.all fun e => !Region.binds .any e || dn.contains e.on|none=>false
def treeB (P:Program) (ops:Array Oper):List Nat→List Nat→PT→Bool
 | dn,seen,.lin is=>seen.isEmpty && decide (is=itemsOf P ops (opIdx is)) && decide ((opIdx is).length+dn.length=ops.size) && (opIdx is).all (fun i=>decide (i<ops.size) && !dn.contains i) && decide ((opIdx is).Nodup) && readyAlong ops dn (opIdx is) && pairs2 P ops (opIdx is) && (List.range ops.size).all fun j=>dn.contains j || (opIdx is).contains j
 | dn,seen,.step i is t=>seen.isEmpty && decide (is=itemsOf P ops [i]) && decide (dn.length<ops.size) && !dn.contains i && readyB ops dn i && (List.range ops.size).all (fun j=>dn.contains j || j == i || pair2 P ops i j) && treeB P ops (i::dn) [] t
 | dn,seen,.alt i is t m=>decide (is=itemsOf P ops [i]) && decide (dn.length<ops.size) && !dn.contains i && readyB ops dn i && treeB P ops (i::dn) [] t && treeB P ops dn (i::seen) m
 | dn,seen,.stop => !seen.isEmpty && (List.range ops.size).all fun j=>dn.contains j || seen.contains j || !readyB ops dn j
def vc (P:Program):Code→(Exit→Fr→World→Prop)→Fr→World→Prop
 | .skip,Q,ρ,w=>Q .normal ρ w
 | .label _,Q,ρ,w=>Q .normal ρ w
 | .seq a b,Q,ρ,w=>vc P a (Thn (vc P b Q) Q) ρ w
 | .cond c x y,Q,ρ,w=>∃ t,evl ρ c=.bool t∧(t=true→vc P x Q ρ w)∧(t=false→vc P y Q ρ w)
 | .block id c,Q,ρ,w=>vc P c (Blk id Q) ρ w
 | .loop c,Q,ρ,w=>∃ (I:Nat→Fr→World→Prop),(∃ m,I m ρ w)∧∀ m ρ w,I m ρ w→vc P c (Thn (fun ρ' w'=>∃ m',m'<m∧I m' ρ' w') Q) ρ w
 | .exit id,Q,ρ,w=>Q (.exit id) ρ w
 | .ret,Q,ρ,w=>Q .ret ρ w
 | .region _ ops false,Q,ρ,w=>opsW P ops (Q .normal) ops.toList ρ w
 | .region _ ops true,Q,ρ,w=>(commB P ops=true∧opsW P ops (Q .normal) ops.toList ρ { w with drawn:=w.drawn+1 })∨(∃ is,planB P ops is=true∧opsD P ops (Q .normal) is ρ { w with drawn:=w.drawn+1 })∨∃ T,baseB P ops=true∧treeB P ops [] [] T=true∧opsT P ops (Q .normal) T ρ { w with drawn:=w.drawn+1 }
 | _,_,_,_=>False
def opsFit (n:Nat) (ops:Array Oper):Bool:=ops.all fun o=>match o.dst with|some d=>decide (d<n)|none=>true
def fits (n:Nat):Code→Bool
 | .seq a b=>fits n a && fits n b
 | .cond _ x y=>fits n x && fits n y
 | .block _ c=>fits n c
 | .loop c=>fits n c
 | .region _ ops _=>opsFit n ops
 | _=>true
theorem qb7 {a:Act}{d:Option Nat}{v:Value}(h:∀ t,d=some t→t<a.tmps.size):fr (a.put d v)=updo (fr a) d v:=by
 cases d with
 | none=>rfl
 | some d =>
  funext t
  have hd:=h d rfl
  simp only [fr,Act.put,updo,upd]
  by_cases htd:t=d
  ·subst htd;simp [hd]
  ·have:Nat.beq t d=false:=by cases hb:Nat.beq t d with|false=>rfl|true=>exact absurd (Nat.eq_of_beq_eq_true hb) htd
   rw [this];simp [Array.getElem?_setIfInBounds_ne (Ne.symm htd)]
theorem size_put (a:Act) (d:Option Nat) (v:Value):(a.put d v).tmps.size=a.tmps.size:=by cases d <;> simp [Act.put]
theorem qaT (a:Act) (d:Option Nat) (v:Value):(a.put d v).defers=a.defers:=by cases d <;> rfl
theorem qa0 {ops:Array Oper}{a:Act}{o:Oper}{g:Nat × Bool}(hg:o.guard=some g) :
  Region.wanted o (yielded ops a.tmps)=guardB ops (fr a) g:=by
 obtain⟨j,want⟩:=g
 simp only [Region.wanted,hg,guardB,gslot,yielded,fr,asks]
 cases (ops[j]?).bind (·.dst) with
 | none=>simp
 | some t =>
  simp only [Option.bind_some]
  cases ht:a.tmps[t]? with
  | none=>simp [ht,undef]
  | some v=>simp [ht];cases v <;> simp
section
variable {P:Program}
def Ok (n:Nat) (K:Fr→World→Prop) (a:Act) (w:World):Prop:=a.tmps.size=n∧a.defers=[]∧K (fr a) w
def OkQ (n:Nat) (Q:Exit→Fr→World→Prop) (e:Exit) (a:Act) (w:World):Prop:=a.tmps.size=n∧a.defers=[]∧Q e (fr a) w
theorem qaA {K K':Value→World→Prop}(h:∀ v w,K v w→K' v w) {r:Result Next}(hr:opUpon P K r):opUpon P K' r:=by
 unfold opUpon at *
 split at hr
 ·exact h _ _ hr
 ·exact h _ _ hr
 ·exact Calls.mono hr fun e w' he=>by cases e <;> first|exact h _ _ he|exact he
 ·exact RoundIn.mono hr fun e w' he=>by cases e <;> first|exact h _ _ he|exact he
 ·exact hr.elim
def fw (ro:Option Nat):Fence:={ Fence.wide with round:=ro }
theorem qjR {ro:Option Nat}{m:Nat}{f:FuncId}{args:Array Value}{w:World}{R:Ending→World→Prop}(h:Calls P f args w R):CallsIn (fw ro) m P f args w R:=(callsIn_wide (n:=m)).2 h
theorem qjS {ro:Option Nat}{m l:Nat}{f:FuncId}{tmps:Array Value}{assign body:Code}{w:World}{R:Ending→World→Prop}(h:RoundIn Fence.wide 0 P l f tmps assign body w R):RoundIn (fw ro) m P l f tmps assign body w R :=
 ⟨h.1,fun c cs _=>h.2 c cs (room_wide _)⟩
theorem qhU {o:Oper}{ρ:Fr}{w:World}{K:Value→World→Prop}(h:opW P o ρ w K):∀ c,o.op≠.defer c:=by
 intro c hc
 unfold opW execOp at h
 simp only [hc] at h
 simp only [Sem.run_bind] at h
 generalize (resolve (evl ρ) c o.type).run P w=r at h
 cases r <;> exact h
theorem qls {ro:Option Nat}{m:Nat}{o:Oper}{a:Act}{w:World}{K:Value→World→Prop}{Q:Exit→Act→World→Prop}
  (h:opW P o (fr a) w K):o.wpIn (fw ro) m P a w (fun a' w'=>∃ v,a'=a.put o.dst v∧K v w') Q:=by
 refine⟨fun _ _=>trivial,?_⟩
 rw [Oper.semAt_eq _ _ _ (qhU h)]
 unfold opW at h
 rw [qaZ] at h
 generalize (execOp a.eval o).run P w=r at *
 unfold opUpon at h
 split at h
 ·exact⟨_,rfl,h⟩
 ·exact⟨_,rfl,h⟩
 ·refine⟨fun hd=>absurd hd (by simp [fw,Fence.wide]),CallsIn.mono (qjR h) fun e w' he => ?_⟩
  cases e with
  | returned v=>exact⟨_,rfl,he⟩
  | panicked c=>exact he.elim
  | outgrown=>exact he.elim
 ·refine⟨fun hd=>absurd hd (by simp [fw,Fence.wide]),RoundIn.mono (qjS h) fun e w' he => ?_⟩
  cases e with
  | returned v=>exact⟨_,rfl,he⟩
  | panicked c=>exact he.elim
  | outgrown=>exact he.elim
 ·exact h.elim
def opVA (P:Program) (o:Oper) (a:Act) (w:World) (K:Act→World→Prop):Prop :=
 match cls P o.op with
 | .pure=>∃ v,(∀ w,(execOp a.eval o).run P w=.ok (.value v) w)∧K (a.put o.dst v) w
 | .read=>∃ v,(execOp a.eval o).run P w=.ok (.value v) w∧K (a.put o.dst v) w
 | .eff=>opUpon P (fun v w'=>K (a.put o.dst v) w') ((execOp a.eval o).run P w)
def cOp (P:Program) (ops:Array Oper) (o:Oper) (K:Act→World→Prop) (a:Act) (w:World):Prop :=
 (Region.wanted o (yielded ops a.tmps)=true→opVA P o a w K)∧(Region.wanted o (yielded ops a.tmps)=false→K (a.put o.dst undef) w)
theorem qb8 {o:Oper}{a:Act}{w:World}{K K':Act→World→Prop}(h:∀ u w',K (a.put o.dst u) w'→K' (a.put o.dst u) w') (hh:opVA P o a w K):opVA P o a w K':=by
 unfold opVA at *
 split at hh
 ·obtain⟨v,h1,h2⟩:=hh;exact⟨v,h1,h _ _ h2⟩
 ·obtain⟨v,h1,h2⟩:=hh;exact⟨v,h1,h _ _ h2⟩
 ·exact qaA (fun v w'=>h v w') hh
theorem qbv {ops:Array Oper}{o:Oper}{a:Act}{w:World}{K K':Act→World→Prop}(h:∀ u w',K (a.put o.dst u) w'→K' (a.put o.dst u) w') (hh:cOp P ops o K a w):cOp P ops o K' a w :=
 ⟨fun hw=>qb8 h (hh.1 hw),fun hw=>h _ _ (hh.2 hw)⟩
theorem qbP {K:Value→World→Prop}{r:Result Next}(h:opUpon P K r):∃ v w',K v w':=by
 unfold opUpon at h
 split at h
 ·exact⟨_,_,h⟩
 ·exact⟨_,_,h⟩
 ·obtain⟨e,w',fr',hR,_⟩:=h []
  cases e with
  | returned v=>exact⟨_,_,hR⟩
  | panicked c=>exact hR.elim
  | outgrown=>exact hR.elim
 ·obtain⟨e,w',hR,_⟩:=h.2 default [] (room_wide _)
  cases e with
  | returned v=>exact⟨_,_,hR⟩
  | panicked c=>exact hR.elim
  | outgrown=>exact hR.elim
 ·exact h.elim
theorem qlt {o:Oper}{a:Act}{w:World}{K:Act→World→Prop}(h:opVA P o a w K):∃ v w',K (a.put o.dst v) w':=by
 unfold opVA at h
 split at h
 ·obtain⟨v,_,h2⟩:=h;exact⟨_,_,h2⟩
 ·obtain⟨v,_,h2⟩:=h;exact⟨_,_,h2⟩
 ·exact qbP h
theorem qmY {ops:Array Oper}{o:Oper}{a:Act}{w:World}{K:Act→World→Prop}(h:cOp P ops o K a w):∃ v w',K (a.put o.dst v) w':=by
 cases hw:Region.wanted o (yielded ops a.tmps) with
 | true=>exact qlt (h.1 hw)
 | false=>exact⟨_,_,h.2 hw⟩
theorem qi8 {ops:Array Oper}{oi oj:Oper}{v:Value}(hap:oi.apart ops oj=true) (hsj:∀ cs b,oj.op≠.select cs b) {K:Act→World→Prop}{a:Act}{w:World}
  (h:opVA P oj (a.put oi.dst v) w K):opVA P oj a w fun a' w'=>K (a'.put oi.dst v) w':=by
 obtain⟨h1,h2,h3⟩:=Oper.apart_spec hap
 unfold opVA at *
 rw [execOp_put oj hsj a oi.dst v h1] at h
 split
 ·rename_i hc;simp only [hc] at h
  obtain⟨u,hu,hk⟩:=h;exact⟨u,hu,(by have hk':=hk;rw [Act.put_comm a v u h2] at hk';exact hk')⟩
 ·rename_i hc;simp only [hc] at h
  obtain⟨u,hu,hk⟩:=h;exact⟨u,hu,(by have hk':=hk;rw [Act.put_comm a v u h2] at hk';exact hk')⟩
 ·rename_i hc;simp only [hc] at h
  exact qaA (fun u w' hk=>(by have hk':=hk;rw [Act.put_comm a v u h2] at hk';exact hk')) h
theorem qoh {ops:Array Oper}{oi oj:Oper}{v:Value}(hap:oi.apart ops oj=true) (hsj:∀ cs b,oj.op≠.select cs b) {K:Act→World→Prop}{a:Act}{w:World}
  (h:cOp P ops oj K (a.put oi.dst v) w):cOp P ops oj (fun a' w'=>K (a'.put oi.dst v) w') a w:=by
 obtain⟨h1,h2,h3⟩:=Oper.apart_spec hap
 unfold cOp at *
 rw [wanted_put oj a oi.dst v h1] at h
 exact⟨fun hw=>qi8 hap hsj (h.1 hw),fun hw=>(by have hk':=h.2 hw;rw [Act.put_comm a v undef h2] at hk';exact hk')⟩
theorem qmZ {ops:Array Oper}{oi oj:Oper}(hap:oi.apart ops oj=true) (hco:compatB P oi.op oj.op=true) (hsi:∀ cs b,oi.op≠.select cs b) (hsj:∀ cs b,oj.op≠.select cs b)
  {K:Act→World→Prop}{a:Act}{w:World}(h:cOp P ops oi (cOp P ops oj K) a w):cOp P ops oj (cOp P ops oi K) a w:=by
 obtain⟨h1,h2,h3⟩:=Oper.apart_spec hap
 have wi:∀ u,Region.wanted oi (yielded ops (a.put oj.dst u).tmps)=Region.wanted oi (yielded ops a.tmps):=fun u=>wanted_put oi a oj.dst u h3
 have wj:∀ u,Region.wanted oj (yielded ops (a.put oi.dst u).tmps)=Region.wanted oj (yielded ops a.tmps):=fun u=>wanted_put oj a oi.dst u h1
 have ei:∀ u,execOp (a.put oj.dst u).eval oi=execOp a.eval oi:=fun u=>execOp_put oi hsi a oj.dst u h3
 have ej:∀ u,execOp (a.put oi.dst u).eval oj=execOp a.eval oj:=fun u=>execOp_put oj hsj a oi.dst u h1
 cases hwi:Region.wanted oi (yielded ops a.tmps) with
 | false =>
  refine qbv (fun u w' hk => ?_) (qoh hap hsj (h.2 hwi))
  exact⟨fun hw=>(by rw [wi u,hwi] at hw;cases hw),fun _=>hk⟩
 | true =>
  have hi:=h.1 hwi
  cases hwj:Region.wanted oj (yielded ops a.tmps) with
  | false =>
   refine⟨fun hw=>(by rw [hwj] at hw;cases hw),fun _=>⟨fun _ => ?_,fun hw=>(by rw [wi,hwi] at hw;cases hw)⟩⟩
   have hi':opVA P oi a w fun a' w'=>K (a'.put oj.dst undef) w':=qb8 (fun u w' hk=>hk.2 (by rw [wj u,hwj])) hi
   unfold opVA at hi' ⊢
   rw [ei]
   split
   ·rename_i hc;simp only [hc] at hi';obtain⟨v,hv,hk⟩:=hi';exact⟨v,hv,(by have hk':=hk;rw [Act.put_comm a v undef h2] at hk';exact hk')⟩
   ·rename_i hc;simp only [hc] at hi';obtain⟨v,hv,hk⟩:=hi';exact⟨v,hv,(by have hk':=hk;rw [Act.put_comm a v undef h2] at hk';exact hk')⟩
   ·rename_i hc;simp only [hc] at hi';exact qaA (fun v w' hk=>(by have hk':=hk;rw [Act.put_comm a v undef h2] at hk';exact hk')) hi'
  | true =>
   refine⟨fun _ => ?_,fun hw=>(by rw [hwj] at hw;cases hw)⟩
   have hi':opVA P oi a w fun a' w'=>opVA P oj a' w' K:=qb8 (fun u w' hk=>hk.1 (by rw [wj u,hwj])) hi
   have done:opVA P oj a w (fun a' w'=>opVA P oi a' w' K)→opVA P oj a w (cOp P ops oi K):=qb8 (fun u w' hk=>⟨fun _=>hk,fun hw=>(by rw [wi u,hwi] at hw;cases hw)⟩)
   refine done ?_
   clear hi h done
   cases hci:cls P oi.op with
   | pure =>
    unfold opVA at hi'
    simp only [hci] at hi'
    obtain⟨v,hv,hk⟩:=hi'
    refine qb8 (fun u w' hk => ?_) (qi8 hap hsj (K:=K) (v:=v) hk)
    unfold opVA;simp only [hci];rw [ei u];exact⟨v,hv,hk⟩
   | read =>
    cases hcj:cls P oj.op with
    | pure =>
     unfold opVA at hi' ⊢
     simp only [hci,hcj] at hi' ⊢
     obtain⟨v,hv,u,hu,hk⟩:=hi'
     rw [ej v] at hu
     exact⟨u,hu,v,by rw [ei u];exact hv,(by have hk':=hk;rw [Act.put_comm a v u h2] at hk';exact hk')⟩
    | read =>
     unfold opVA at hi' ⊢
     simp only [hci,hcj] at hi' ⊢
     obtain⟨v,hv,u,hu,hk⟩:=hi'
     rw [ej v] at hu
     exact⟨u,hu,v,by rw [ei u];exact hv,(by have hk':=hk;rw [Act.put_comm a v u h2] at hk';exact hk')⟩
    | eff=>simp [compatB,hci,hcj] at hco
   | eff =>
    cases hcj:cls P oj.op with
    | pure =>
     unfold opVA at hi' ⊢
     simp only [hci,hcj] at hi' ⊢
     obtain⟨v0,w0,u,hu,_⟩:=qbP hi'
     rw [ej v0] at hu
     refine⟨u,hu,?_⟩
     rw [ei u]
     refine qaA (fun v w' hk => ?_) hi'
     obtain⟨u',hu',hk⟩:=hk
     rw [ej v] at hu'
     have he:=(hu w').symm.trans (hu' w')
     simp only [Result.ok.injEq,Next.value.injEq,and_true] at he
     subst he
     rw [←Act.put_comm a v u h2];exact hk
    | read=>simp [compatB,hci,hcj] at hco
    | eff=>simp [compatB,hci,hcj] at hco
def cOpI (P:Program) (ops:Array Oper) (i:Nat) (K:Act→World→Prop) (a:Act) (w:World):Prop :=
 match ops[i]? with
 | none=>K a w
 | some o=>cOp P ops o K a w
def wpAnyC (P:Program) (ops:Array Oper) (K:Act→World→Prop):Nat→Array Bool→Act→World→Prop
 | 0,listed,a,w=>Region.ready .any ops listed=[]∧K a w
 | fuel+1,listed,a,w=>(Region.ready .any ops listed=[]→K a w) ∧
  ∀ i∈Region.ready .any ops listed,cOpI P ops i (wpAnyC P ops K fuel (listed.setIfInBounds i true)) a w
theorem qbQ {ops:Array Oper}{i:Nat}{K:Act→World→Prop}{Q:Exit→Act→World→Prop}{a:Act}{w:World}{ro:Option Nat}{m:Nat}(h:cOpI P ops i K a w):wpOpIn (fw ro) m P ops Q i K a w:=by
 unfold cOpI at h;unfold wpOpIn
 split
 ·rename_i ho;simp only [ho] at h;exact h
 ·rename_i o ho
  simp only [ho] at h
  split
  ·rename_i hw
   have hv:=h.1 hw
   have h2:opW P o (fr a) w fun v w'=>K (a.put o.dst v) w':=by
    unfold opW;rw [qaZ]
    unfold opVA at hv
    split at hv
    ·obtain⟨v,hv,hk⟩:=hv;rw [hv w];exact hk
    ·obtain⟨v,hv,hk⟩:=hv;rw [hv];exact hk
    ·exact hv
   exact Oper.wpIn_mono (fun a' w' ⟨v,e,hk⟩=>by subst e;exact hk) (qls h2)
  ·rename_i hw;exact⟨fun _ _=>trivial,h.2 (by simpa using hw)⟩
theorem qdx {ro:Option Nat}{m:Nat}{ops:Array Oper}{K:Act→World→Prop}{Q:Exit→Act→World→Prop}(hQ:∀ a w,K a w→Q .normal a w):∀ (fuel:Nat) (listed:Array Bool) (a:Act) (w:World),
  wpAnyC P ops K fuel listed a w→wpAnyIn (fw ro) m P .any ops Q fuel listed a w
 | 0,_,_,_,h=>⟨h.1,hQ _ _ h.2⟩
 | fuel+1,_,_,_,h=>⟨fun h0=>hQ _ _ (h.1 h0),fun i hi=>qbQ (by
   have:=h.2 i hi
   unfold cOpI at this ⊢
   split
   ·rename_i ho;simp only [ho] at this;exact qdx hQ fuel _ _ _ this
   ·rename_i o ho;simp only [ho] at this;exact qbv (fun u w' hk=>qdx hQ fuel _ _ _ hk) this)⟩
def Down (ops:Array Oper) (listed:Array Bool):Prop:=∀ j i,listed.getD j false=true→((Region.before ops).getD j 0).testBit i=true→listed.getD i false=true
theorem qcT {ops:Array Oper}(hc:closedB ops (Region.before ops)=true) {i j:Nat}{oj:Oper}(hj:ops[j]? = some oj) (hi:i<ops.size) (hb:((Region.before ops).getD j 0).testBit i=true) :
  ∃ e∈oj.after,Region.binds .any e=true∧(e.on=i∨((Region.before ops).getD e.on 0).testBit i=true):=by
 have hjl:j<ops.size:=(Array.getElem?_eq_some_iff.1 hj).1
 have h1:=List.all_eq_true.1 (List.all_eq_true.1 hc j (List.mem_range.2 hjl)) i (List.mem_range.2 hi)
 simp only [hb,Bool.not_true,Bool.false_or,hj] at h1
 obtain⟨e,he,hb'⟩:=Array.any_eq_true'.1 h1
 simp only [Bool.and_eq_true,Bool.or_eq_true,beq_iff_eq] at hb'
 exact⟨e,he,hb'.1,hb'.2⟩
theorem qaH {listed:Array Bool}{i:Nat}(h:listed.getD i true=false):listed.getD i false=false∧i<listed.size:=by
 rcases Nat.lt_or_ge i listed.size with h'|h'
 ·simp [h'] at h ⊢;exact h
 ·simp [Array.getElem?_eq_none h'] at h
theorem qdy {ops:Array Oper}(hc:closedB ops (Region.before ops)=true) {listed:Array Bool}(hd:Down ops listed) (hs:listed.size=ops.size) {i j:Nat}(hi:listed.getD i true=false)
  (hj:j∈Region.ready .any ops listed):((Region.before ops).getD j 0).testBit i=false:=by
 obtain⟨_,oj,hoj,hall⟩:=mem_ready.1 hj
 cases hb:((Region.before ops).getD j 0).testBit i with
 | false=>rfl
 | true =>
  obtain⟨hi0,hil⟩:=qaH hi
  obtain⟨e,he,hbind,hon⟩:=qcT hc hoj (by omega) hb
  have hl:=hall e he hbind
  rcases hon with rfl|hon
  ·rw [hi0] at hl;cases hl
  ·have:=hd _ _ hl hon
   rw [hi0] at this;cases this
theorem qd9 {ops:Array Oper}(hc:closedB ops (Region.before ops)=true) {listed:Array Bool}(hd:Down ops listed) {j:Nat}(hj:j∈Region.ready .any ops listed)
  (hbl:∀ k i,((Region.before ops).getD k 0).testBit i=true→i<ops.size):Down ops (listed.setIfInBounds j true):=by
 obtain⟨_,oj,hoj,hall⟩:=mem_ready.1 hj
 intro k i hk hb
 by_cases hjk:j=k
 ·subst hjk
  obtain⟨e,he,hbind,hon⟩:=qcT hc hoj (hbl _ _ hb) hb
  have hl:=hall e he hbind
  rcases hon with rfl|hon
  ·exact getD_set_true hl
  ·exact getD_set_true (hd _ _ hl hon)
 ·rw [getD_set_ne false hjk] at hk
  exact getD_set_true (hd _ _ hk hb)
theorem qha {ops:Array Oper}{K:Act→World→Prop}(hc:closedB ops (Region.before ops)=true) (hbl:∀ k i,((Region.before ops).getD k 0).testBit i=true→i<ops.size)
  (hsel:∀ (j:Nat) (o:Oper) cs b,ops[j]? = some o→o.op≠.select cs b) {i:Nat}{oi:Oper}(hi:ops[i]? = some oi) :
  ∀ (fuel:Nat) (listed:Array Bool) (a:Act) (w:World),listed.size=ops.size→Down ops listed →
   (∀ j oj,ops[j]? = some oj→j≠i→listed.getD j true=false→((Region.before ops).getD j 0).testBit i=false→oi.apart ops oj=true∧compatB P oi.op oj.op=true) →
   i∈Region.ready .any ops listed→cOp P ops oi (wpAnyC P ops K fuel (listed.setIfInBounds i true)) a w→wpAnyC P ops K (fuel+1) listed a w:=by
 intro fuel
 induction fuel with
 | zero =>
  intro listed a w hs hd hfree hr H
  refine⟨fun h=>(by rw [h] at hr;cases hr),fun j hj => ?_⟩
  by_cases hji:j=i
  ·subst hji;unfold cOpI;rw [hi];exact H
  ·obtain⟨v,w',hk⟩:=qmY H
   have:=ready_mono hj hji
   rw [hk.1] at this;cases this
 | succ fuel ih =>
  intro listed a w hs hd hfree hr H
  refine⟨fun h=>(by rw [h] at hr;cases hr),fun j hj => ?_⟩
  by_cases hji:j=i
  ·subst hji;unfold cOpI;rw [hi];exact H
  ·obtain⟨hjun,oj,hoj,_⟩:=mem_ready.1 hj
   have hun:=(mem_ready.1 hr).1
   have hnb:=qdy hc hd hs hun hj
   obtain⟨hap,hco⟩:=hfree j oj hoj hji hjun hnb
   have h1:cOp P ops oi (cOp P ops oj (wpAnyC P ops K fuel ((listed.setIfInBounds i true).setIfInBounds j true))) a w :=
    qbv (fun u w' hk=>by have:=hk.2 j (ready_mono hj hji);unfold cOpI at this;rw [hoj] at this;exact this) H
   have h2:=qmZ hap hco (fun cs b=>hsel i oi cs b hi) (fun cs b=>hsel j oj cs b hoj) h1
   unfold cOpI;rw [hoj]
   refine qbv (fun u w' hk => ?_) h2
   rw [Array.setIfInBounds_comm _ _ (Ne.symm hji)] at hk
   refine ih (listed.setIfInBounds j true) _ w' (by simpa using hs) (qd9 hc hd hj hbl) (fun k ok hok hki hkun hkb=>hfree k ok hok hki ?_ hkb) (ready_mono hr (Ne.symm hji)) hk
   by_cases hjk:j=k
   ·subst hjk;exact hjun
   ·rw [getD_set_ne true hjk] at hkun;exact hkun
def firstK (ops:Array Oper) (k:Nat) (listed:Array Bool):Prop:=listed.size=ops.size∧∀ j,j<ops.size→∀ d,listed.getD j d=decide (j<k)
theorem qlu {ops:Array Oper}(hc:closedB ops (Region.before ops)=true) (hlt:∀ j oj,ops[j]? = some oj→∀ e∈oj.after,Region.binds .any e=true→e.on<j) :
  ∀ j i,i<ops.size→j<ops.size→((Region.before ops).getD j 0).testBit i=true→i<j:=by
 intro j
 induction j using Nat.strongRecOn with
 | _ j ih =>
  intro i hi hj hb
  obtain⟨oj,hoj⟩:∃ oj,ops[j]? = some oj:=⟨ops[j],by simp [hj]⟩
  obtain⟨e,he,hbind,hon⟩:=qcT hc hoj hi hb
  have hl:=hlt j oj hoj e he hbind
  rcases hon with rfl|hon
  ·exact hl
  ·exact Nat.lt_trans (ih e.on hl i hi (by omega) hon) hl
theorem qeN {ops:Array Oper}{o:Oper}{r:List Oper}{K:Fr→World→Prop}{n:Nat}{a:Act}{w:World}(hfit:∀ d,o.dst=some d→d<n)
  (hs:a.tmps.size=n) (hd:a.defers=[]) (h:opsW P ops K (o::r) (fr a) w):cOp P ops o (fun a' w'=>a'.tmps.size=n∧a'.defers=[]∧opsW P ops K r (fr a') w') a w:=by
 have hput:∀ v,fr (a.put o.dst v)=updo (fr a) o.dst v:=fun v=>qb7 fun t ht=>by rw [hs];exact hfit t ht
 have hkeep:∀ v w',opsW P ops K r (updo (fr a) o.dst v) w'→(a.put o.dst v).tmps.size=n∧(a.put o.dst v).defers=[]∧opsW P ops K r (fr (a.put o.dst v)) w' :=
  fun v w' hk=>⟨by rw [size_put,hs],by rw [qaT,hd],by rw [hput];exact hk⟩
 have hop:opV P o (fr a) w (opsW P ops K r)→opVA P o a w fun a' w'=>a'.tmps.size=n∧a'.defers=[]∧opsW P ops K r (fr a') w':=by
  intro h
  unfold opV at h;unfold opVA
  split at h
  ·obtain⟨v,hv,hk⟩:=h
   unfold PureV at hv;rw [qaZ] at hv;exact⟨v,hv,hkeep _ _ hk⟩
  ·obtain⟨v,hv,hk⟩:=h
   unfold ReadV at hv;rw [qaZ] at hv;exact⟨v,hv,hkeep _ _ hk⟩
  ·unfold opW at h;rw [qaZ] at h
   exact qaA (fun v w' hk=>hkeep _ _ hk) h
 simp only [opsW] at h
 cases hg:o.guard with
 | none =>
  simp only [hg] at h
  refine⟨fun _=>hop h,fun hw => ?_⟩
  simp [Region.wanted,hg] at hw
 | some g =>
  simp only [hg] at h
  unfold cOp
  rw [qa0 hg]
  exact⟨fun hw=>hop (h.1 hw),fun hw=>hkeep _ _ (h.2 hw)⟩
theorem qhV {ops:Array Oper}{K:Fr→World→Prop}{n:Nat}(hco:commB P ops=true) (hfit:opsFit n ops=true)
  :
  ∀ (l:List Oper) (k:Nat) (listed:Array Bool) (a:Act) (w:World),(∀ j,l[j]? = ops[k+j]?)→k+l.length=ops.size→firstK ops k listed →
   a.tmps.size=n→a.defers=[]→opsW P ops K l (fr a) w→wpAnyC P ops (Ok n K) l.length listed a w:=by
 have hco':=hco
 simp only [commB,Bool.and_eq_true] at hco'
 obtain⟨⟨⟨hsel,hc⟩,hpair⟩,hlt⟩:=hco'
 have hlt':∀ j oj,ops[j]? = some oj→∀ e∈oj.after,Region.binds .any e=true→e.on<j:=by
  intro j oj hj e he hb
  have h1:=List.all_eq_true.1 hlt j (List.mem_range.2 (Array.getElem?_eq_some_iff.1 hj).1)
  simp only [hj,Bool.and_eq_true] at h1
  have h2:=Array.all_eq_true_iff_forall_mem.1 h1.1.1 e he
  simpa [hb] using h2
 have hbl:∀ k i,((Region.before ops).getD k 0).testBit i=true→i<ops.size:=by
  intro k i hb
  rcases Nat.lt_or_ge k ops.size with hk|hk
  ·have h1:=List.all_eq_true.1 hlt k (List.mem_range.2 hk)
   have hok:ops[k]? = some ops[k]:=by simp [hk]
   simp only [hok,Bool.and_eq_true,decide_eq_true_eq] at h1
   rcases Nat.lt_or_ge i ops.size with hi|hi
   ·exact hi
   ·have:=Nat.testBit_lt_two_pow (Nat.lt_of_lt_of_le h1.1.2 (Nat.pow_le_pow_right (by omega) hi))
    rw [this] at hb;cases hb
  ·rcases Nat.eq_zero_or_pos ops.size with h0|h0
   ·have:ops=#[]:=by simpa using h0
    subst this
    simp [Region.before] at hb
   ·have h1:=List.all_eq_true.1 hlt 0 (List.mem_range.2 h0)
    have hok:ops[0]? = some ops[0]:=by simp [h0]
    simp only [hok,Bool.and_eq_true,decide_eq_true_eq] at h1
    have:(Region.before ops).getD k 0=0:=by
     have:(Region.before ops).size≤k:=by omega
     simp [Array.getElem?_eq_none this]
    rw [this] at hb;simp at hb
 intro l
 induction l with
 | nil =>
  intro k listed a w hl hk hf hs hd h
  refine⟨?_,hs,hd,h⟩
  rcases hr:Region.ready .any ops listed with _|⟨x,xs⟩
  ·rfl
  ·have hx:x∈Region.ready .any ops listed:=by rw [hr];exact List.mem_cons_self
   obtain⟨hx0,ox,hox,_⟩:=mem_ready.1 hx
   have hxl:=(Array.getElem?_eq_some_iff.1 hox).1
   rw [hf.2 x hxl] at hx0
   simp only [List.length_nil,Nat.add_zero] at hk
   simp [hk,hxl] at hx0
 | cons o r ih =>
  intro k listed a w hl hk hf hs hd h
  simp only [List.length_cons] at hk
  have h0:ops[k]? = some o:=by simpa using (hl 0).symm
  have hkl:k<ops.size:=by omega
  have hfo:∀ d,o.dst=some d→d<n:=by
   intro d hd'
   have:=Array.all_eq_true_iff_forall_mem.1 hfit o (Array.mem_of_getElem? h0)
   simpa [hd'] using this
  have hready:k∈Region.ready .any ops listed:=by
   refine mem_ready.2 ⟨by rw [hf.2 k hkl];simp,o,h0,fun e he hb => ?_⟩
   have:=hlt' k o h0 e he hb
   rw [hf.2 e.on (by omega)];simpa using this
  have hdown:Down ops listed:=by
   intro j i hj hb
   have hil:=hbl _ _ hb
   have hjl:j<ops.size:=by
    rcases Nat.lt_or_ge j listed.size with h'|h'
    ·rw [hf.1] at h';exact h'
    ·simp [Array.getElem?_eq_none h'] at hj
   have hij:=qlu hc hlt' j i hil hjl hb
   rw [hf.2 j hjl] at hj
   rw [hf.2 i hil]
   simp at hj ⊢;omega
  have hfree:∀ j oj,ops[j]? = some oj→j≠k→listed.getD j true=false→((Region.before ops).getD j 0).testBit k=false→o.apart ops oj=true∧compatB P o.op oj.op=true:=by
   intro j oj hj hjk hjun hb
   have hjl:=(Array.getElem?_eq_some_iff.1 hj).1
   rw [hf.2 j hjl] at hjun
   have hkj:k<j:=by simp at hjun;omega
   have h1:=List.all_eq_true.1 (List.all_eq_true.1 hpair j (List.mem_range.2 hjl)) k (List.mem_range.2 hkj)
   simp only [commPair,hb,Bool.false_or,h0,hj,Bool.and_eq_true] at h1
   exact h1
  refine qha hc hbl (Region.noSelect_spec hsel) h0 r.length listed a w hf.1 hdown hfree hready ?_
  refine qbv (fun u w' hk' => ?_) (qeN hfo hs hd h)
  refine ih (k+1) _ _ _ (fun j=>by have:=hl (j+1);simpa [Nat.add_assoc,Nat.add_comm 1 j] using this) (by omega) ⟨by simpa using hf.1,fun j hj d => ?_⟩ hk'.1 hk'.2.1 hk'.2.2
  by_cases hjk:k=j
  ·subst hjk
   have:k<listed.size:=by rw [hf.1];exact hj
   simp [this]
  ·rw [getD_set_ne d hjk,hf.2 j hj d]
   by_cases h3:j<k
   ·simp [h3];omega
   ·have:¬j<k+1:=by omega
    simp [h3,this]
theorem qe5 {ro:Option Nat}{m:Nat}{id:Nat}{ops:Array Oper}{K:Fr→World→Prop}{n:Nat}{a:Act}{w:World}{Q:Exit→Act→World→Prop}(hQ:∀ a w,Ok n K a w→Q .normal a w)
  (hfit:opsFit n ops=true) (hs:a.tmps.size=n) (hd:a.defers=[]) (h:opsW P ops K ops.toList (fr a) w):(Code.region id ops false).wpIn (fw ro) m P Q a w:=by
 refine wpIn_region ?_
 have key:∀ (l:List Oper) (k:Nat) (a:Act) (w:World),(∀ j,l[j]? = ops[k+j]?)→k+l.length=ops.size→a.tmps.size=n→a.defers=[]→opsW P ops K l (fr a) w →
   wpOpsIn (fw ro) m P ops Q ((List.range' k l.length)) a w:=by
  intro l
  induction l with
  | nil=>intro k a w _ _ hs hd h;exact hQ _ _ ⟨hs,hd,h⟩
  | cons o r ih =>
   intro k a w hl hk hs hd h
   have h0:ops[k]? = some o:=by simpa using (hl 0).symm
   have hfo:∀ d,o.dst=some d→d<n:=by
    intro d hd'
    have:=Array.all_eq_true_iff_forall_mem.1 hfit o (Array.mem_of_getElem? h0)
    simpa [hd'] using this
   simp only [List.length_cons,List.range'_succ]
   rw [wpOpsIn_cons]
   refine qbQ ?_
   unfold cOpI;rw [h0]
   refine qbv (fun u w' hk' => ?_) (qeN hfo hs hd h)
   simp only [List.length_cons] at hk
   exact ih (k+1) _ _ (fun j=>by have:=hl (j+1);simpa [Nat.add_assoc,Nat.add_comm 1 j] using this) (by omega) hk'.1 hk'.2.1 hk'.2.2
 have:=key ops.toList 0 a w (by simp) (by simp) hs hd h
 simpa [List.range_eq_range'] using this
def Still (P:Program) (ops:Array Oper) (i:Nat) (a:Act) (w:World):Prop :=
 ∀ oi,ops[i]? = some oi→Region.wanted oi (yielded ops a.tmps)=true→∀ d,oi.dst=some d→(execOp a.eval oi).run P w=.ok (.value (a.tmps.getD d undef)) w
def opVA2 (P:Program) (ops:Array Oper) (listed:Array Bool) (j:Nat) (o:Oper) (a:Act) (w:World) (K:Act→World→Prop):Prop :=
 match cls P o.op with
 | .pure=>∃ v,(∀ w,(execOp a.eval o).run P w=.ok (.value v) w)∧K (a.put o.dst v) w
 | .read=>∃ v,(execOp a.eval o).run P w=.ok (.value v) w∧K (a.put o.dst v) w
 | .eff=>opUpon P (fun v w'=>(∀ r∈loose P ops j,listed.getD r false=true→Still P ops r a w')∧K (a.put o.dst v) w') ((execOp a.eval o).run P w)
def cOp2 (P:Program) (ops:Array Oper) (listed:Array Bool) (j:Nat) (o:Oper) (K:Act→World→Prop) (a:Act) (w:World):Prop :=
 (Region.wanted o (yielded ops a.tmps)=true→opVA2 P ops listed j o a w K)∧(Region.wanted o (yielded ops a.tmps)=false→K (a.put o.dst undef) w)
theorem qa7 {ops:Array Oper}{listed:Array Bool}{j:Nat}{o:Oper}{a:Act}{w:World}{K K':Act→World→Prop}(h:∀ u w',K (a.put o.dst u) w'→K' (a.put o.dst u) w') (hh:opVA2 P ops listed j o a w K):opVA2 P ops listed j o a w K':=by
 unfold opVA2 at *
 split at hh
 ·obtain⟨v,h1,h2⟩:=hh;exact⟨v,h1,h _ _ h2⟩
 ·obtain⟨v,h1,h2⟩:=hh;exact⟨v,h1,h _ _ h2⟩
 ·exact qaA (fun v w' hk=>⟨hk.1,h v w' hk.2⟩) hh
theorem qb9 {ops:Array Oper}{listed:Array Bool}{j:Nat}{o:Oper}{a:Act}{w:World}{K K':Act→World→Prop}(h:∀ u w',K (a.put o.dst u) w'→K' (a.put o.dst u) w') (hh:cOp2 P ops listed j o K a w):cOp2 P ops listed j o K' a w :=
 ⟨fun hw=>qa7 h (hh.1 hw),fun hw=>h _ _ (hh.2 hw)⟩
theorem qjT {ops:Array Oper}{listed:Array Bool}{j:Nat}{o:Oper}{a:Act}{w:World}{K:Act→World→Prop}(h:opVA2 P ops listed j o a w K):∃ v w',K (a.put o.dst v) w':=by
 unfold opVA2 at h
 split at h
 ·obtain⟨v,_,h2⟩:=h;exact⟨_,_,h2⟩
 ·obtain⟨v,_,h2⟩:=h;exact⟨_,_,h2⟩
 ·obtain⟨v,w',_,h2⟩:=qbP h;exact⟨_,_,h2⟩
theorem qlv {ops:Array Oper}{listed:Array Bool}{j:Nat}{o:Oper}{a:Act}{w:World}{K:Act→World→Prop}(h:cOp2 P ops listed j o K a w):∃ v w',K (a.put o.dst v) w':=by
 cases hw:Region.wanted o (yielded ops a.tmps) with
 | true=>exact qjT (h.1 hw)
 | false=>exact⟨_,_,h.2 hw⟩
theorem qlw {ops:Array Oper}{listed:Array Bool}{j:Nat}{o:Oper}{a:Act}{w:World}{K:Act→World→Prop}(h:opVA2 P ops listed j o a w K):opVA P o a w K:=by
 unfold opVA2 at h;unfold opVA
 split
 ·rename_i hc;simp only [hc] at h;exact h
 ·rename_i hc;simp only [hc] at h;exact h
 ·rename_i hc;simp only [hc] at h;exact qaA (fun v w' hk=>hk.2) h
theorem qm0 {ops:Array Oper}{listed:Array Bool}{j:Nat}{o:Oper}{a:Act}{w:World}{K:Act→World→Prop}(h:cOp2 P ops listed j o K a w):cOp P ops o K a w:=⟨fun hw=>qlw (h.1 hw),h.2⟩
def Solid (ops:Array Oper) (r:Nat) (o:Oper):Prop:=∀ or_,ops[r]? = some or_→(∀ d,o.dst=some d→d∉or_.looksAt ops)∧∀ d,o.dst=some d→or_.dst≠some d
theorem qdk {ops:Array Oper}{r:Nat}{o:Oper}{a:Act}{w:World}(v:Value) (hs:Solid ops r o) (hsel:∀ or_ cs b,ops[r]? = some or_→or_.op≠.select cs b):Still P ops r (a.put o.dst v) w↔Still P ops r a w:=by
 unfold Still
 constructor
 ·intro h or_ hor hw d hd
  obtain⟨h1,h2⟩:=hs or_ hor
  have:=h or_ hor (by rw [wanted_put or_ a o.dst v h1];exact hw) d hd
  rw [execOp_put or_ (fun cs b=>hsel or_ cs b hor) a o.dst v h1] at this
  have hg:(a.put o.dst v).tmps.getD d undef=a.tmps.getD d undef:=by
   cases ho:o.dst with
   | none=>rfl
   | some d' =>
    have hne:d'≠d:=fun e=>h2 d' ho (e ▸ hd)
    simp [Act.put,Array.getElem?_setIfInBounds_ne hne]
  rw [hg] at this;exact this
 ·intro h or_ hor hw d hd
  obtain⟨h1,h2⟩:=hs or_ hor
  rw [wanted_put or_ a o.dst v h1] at hw
  have:=h or_ hor hw d hd
  rw [execOp_put or_ (fun cs b=>hsel or_ cs b hor) a o.dst v h1]
  have hg:(a.put o.dst v).tmps.getD d undef=a.tmps.getD d undef:=by
   cases ho:o.dst with
   | none=>rfl
   | some d' =>
    have hne:d'≠d:=fun e=>h2 d' ho (e ▸ hd)
    simp [Act.put,Array.getElem?_setIfInBounds_ne hne]
  rw [hg];exact this
theorem qbJ {ops:Array Oper}{r j:Nat}(h:r∈loose P ops j):clsI P ops r=.read∧r≠j:=by
 simp only [loose,List.mem_filter,Bool.and_eq_true,beq_iff_eq,Bool.not_eq_true',beq_eq_false_iff_ne] at h
 exact⟨h.2.1.1.1,h.2.1.1.2⟩
theorem qeO {ops:Array Oper}{listed:Array Bool}{i j:Nat}{oi oj:Oper}{v:Value}(hsel:∀ (k:Nat) (o:Oper) cs b,ops[k]? = some o→o.op≠.select cs b) (hap:oi.apart ops oj=true) (hsj:∀ cs b,oj.op≠.select cs b) {K:Act→World→Prop}{a:Act}{w:World}
  (hsi:∀ r,listed.getD r false=true→clsI P ops r=.read→Solid ops r oi)
  (h:opVA2 P ops (listed.setIfInBounds i true) j oj (a.put oi.dst v) w K):opVA2 P ops listed j oj a w fun a' w'=>(cls P oj.op=.eff→∀ r∈loose P ops j,(listed.setIfInBounds i true).getD r false=true→Still P ops r (a.put oi.dst v) w')∧K (a'.put oi.dst v) w':=by
 obtain⟨h1,h2,h3⟩:=Oper.apart_spec hap
 unfold opVA2 at *
 rw [execOp_put oj hsj a oi.dst v h1] at h
 cases hc:cls P oj.op with
 | pure =>
  simp only [hc] at h ⊢
  obtain⟨u,hu,hk⟩:=h
  exact⟨u,hu,fun e=>(by cases e),by have hk':=hk;rw [Act.put_comm a v u h2] at hk';exact hk'⟩
 | read =>
  simp only [hc] at h ⊢
  obtain⟨u,hu,hk⟩:=h
  exact⟨u,hu,fun e=>(by cases e),by have hk':=hk;rw [Act.put_comm a v u h2] at hk';exact hk'⟩
 | eff =>
  simp only [hc] at h ⊢
  refine qaA (fun u w' hk=>⟨fun r hr hl => ?_,fun _=>hk.1,by have hk':=hk.2;rw [Act.put_comm a v u h2] at hk';exact hk'⟩) h
  exact (qdk v (hsi r hl (qbJ hr).1) (fun or_ cs b ho=>hsel r or_ cs b ho)).1 (hk.1 r hr (getD_set_true hl))
theorem qdl {ops:Array Oper}{listed:Array Bool}{i j:Nat}{oi oj:Oper}{u:Value}(hsel:∀ (k:Nat) (o:Oper) cs b,ops[k]? = some o→o.op≠.select cs b) (hap:oi.apart ops oj=true) (hsi:∀ cs b,oi.op≠.select cs b) (hjr:cls P oi.op=.eff→j∉loose P ops i) {K:Act→World→Prop}{a:Act}{w:World}
  (hsj:∀ r,listed.getD r false=true→clsI P ops r=.read→Solid ops r oj)
  (h:opVA2 P ops listed i oi a w fun a' w'=>K (a'.put oj.dst u) w'):opVA2 P ops (listed.setIfInBounds j true) i oi (a.put oj.dst u) w K:=by
 obtain⟨h1,h2,h3⟩:=Oper.apart_spec hap
 unfold opVA2 at *
 rw [execOp_put oi hsi a oj.dst u h3]
 cases hc:cls P oi.op with
 | pure =>
  simp only [hc] at h ⊢
  obtain⟨v,hv,hk⟩:=h
  exact⟨v,hv,by have hk':=hk;rw [Act.put_comm a v u h2] at hk';exact hk'⟩
 | read =>
  simp only [hc] at h ⊢
  obtain⟨v,hv,hk⟩:=h
  exact⟨v,hv,by have hk':=hk;rw [Act.put_comm a v u h2] at hk';exact hk'⟩
 | eff =>
  simp only [hc] at h ⊢
  refine qaA (fun v w' hk=>⟨fun r hr hl => ?_,by have hk':=hk.2;rw [Act.put_comm a v u h2] at hk';exact hk'⟩) h
  have hrj:r≠j:=fun e=>hjr hc (e ▸ hr)
  rw [getD_set_ne false (Ne.symm hrj)] at hl
  exact (qdk u (hsj r hl (qbJ hr).1) (fun or_ cs b ho=>hsel r or_ cs b ho)).2 (hk.1 r hr hl)
section
variable {ops:Array Oper}{listed:Array Bool}{j:Nat}{o:Oper}{a:Act}{w:World}{K:Act→World→Prop}
theorem qaU (hc:cls P o.op=.pure):opVA2 P ops listed j o a w K=∃ v,(∀ w,(execOp a.eval o).run P w=.ok (.value v) w)∧K (a.put o.dst v) w:=by unfold opVA2;rw [hc]
theorem qa8 (hc:cls P o.op=.read):opVA2 P ops listed j o a w K=∃ v,(execOp a.eval o).run P w=.ok (.value v) w∧K (a.put o.dst v) w:=by unfold opVA2;rw [hc]
theorem qdm (hc:cls P o.op=.eff):opVA2 P ops listed j o a w K=opUpon P (fun v w'=>(∀ r∈loose P ops j,listed.getD r false=true→Still P ops r a w')∧K (a.put o.dst v) w') ((execOp a.eval o).run P w):=by unfold opVA2;rw [hc]
end
theorem swap2 {ops:Array Oper}{listed:Array Bool}{i j:Nat}{oi oj:Oper}(hsel:∀ (k:Nat) (o:Oper) cs b,ops[k]? = some o→o.op≠.select cs b) (hi:ops[i]? = some oi) (hj:ops[j]? = some oj)
  (hap:oi.apart ops oj=true) (hco:compat2 (cls P oi.op) (cls P oj.op)=true) (hil:i<listed.size) (hijl:cls P oi.op=.read→cls P oj.op=.eff→i∈loose P ops j)
  (hsi:∀ r,listed.getD r false=true→clsI P ops r=.read→Solid ops r oi) (hsj:∀ r,listed.getD r false=true→clsI P ops r=.read→Solid ops r oj)
  {K:Act→World→Prop}{a:Act}{w:World}(hdi:cls P oi.op=.read→∃ d,oi.dst=some d∧d<a.tmps.size∧d∉oi.looksAt ops)
  (h:cOp2 P ops listed i oi (cOp2 P ops (listed.setIfInBounds i true) j oj K) a w):cOp2 P ops listed j oj (cOp2 P ops (listed.setIfInBounds j true) i oi K) a w:=by
 obtain⟨h1,h2,h3⟩:=Oper.apart_spec hap
 have hseli:=fun cs b=>hsel i oi cs b hi
 have hselj:=fun cs b=>hsel j oj cs b hj
 have wi:∀ u,Region.wanted oi (yielded ops (a.put oj.dst u).tmps)=Region.wanted oi (yielded ops a.tmps):=fun u=>wanted_put oi a oj.dst u h3
 have wj:∀ u,Region.wanted oj (yielded ops (a.put oi.dst u).tmps)=Region.wanted oj (yielded ops a.tmps):=fun u=>wanted_put oj a oi.dst u h1
 have ei:∀ u,execOp (a.put oj.dst u).eval oi=execOp a.eval oi:=fun u=>execOp_put oi hseli a oj.dst u h3
 have ej:∀ u,execOp (a.put oi.dst u).eval oj=execOp a.eval oj:=fun u=>execOp_put oj hselj a oi.dst u h1
 have hjr:cls P oi.op=.eff→j∉loose P ops i:=fun hc hm=>by
  have:=(qbJ hm).1
  simp only [clsI,hj] at this
  rw [hc,this] at hco;simp [compat2] at hco
 cases hwi:Region.wanted oi (yielded ops a.tmps) with
 | false =>
  have hj':=h.2 hwi
  cases hwj:Region.wanted oj (yielded ops a.tmps) with
  | false =>
   refine⟨fun hw=>(by rw [hwj] at hw;cases hw),fun _=>⟨fun hw=>(by rw [wi,hwi] at hw;cases hw),fun _ => ?_⟩⟩
   have:=hj'.2 (by rw [wj,hwj])
   rw [Act.put_comm a undef undef h2] at this;exact this
  | true =>
   refine⟨fun _ => ?_,fun hw=>(by rw [hwj] at hw;cases hw)⟩
   have:=qeO hsel hap hselj hsi (hj'.1 (by rw [wj,hwj]))
   exact qa7 (fun u w' hk=>⟨fun hw=>(by rw [wi,hwi] at hw;cases hw),fun _=>hk.2⟩) this
 | true =>
  have hi':=h.1 hwi
  cases hwj:Region.wanted oj (yielded ops a.tmps) with
  | false =>
   refine⟨fun hw=>(by rw [hwj] at hw;cases hw),fun _=>⟨fun _ => ?_,fun hw=>(by rw [wi,hwi] at hw;cases hw)⟩⟩
   exact qdl hsel hap hseli hjr hsj (qa7 (fun u w' hk=>hk.2 (by rw [wj u,hwj])) hi')
  | true =>
   refine⟨fun _ => ?_,fun hw=>(by rw [hwj] at hw;cases hw)⟩
   have hi2:opVA2 P ops listed i oi a w fun a' w'=>opVA2 P ops (listed.setIfInBounds i true) j oj a' w' K:=qa7 (fun u w' hk=>hk.1 (by rw [wj u,hwj])) hi'
   have done:opVA2 P ops listed j oj a w (fun a' w'=>opVA2 P ops (listed.setIfInBounds j true) i oi a' w' K)→opVA2 P ops listed j oj a w (cOp2 P ops (listed.setIfInBounds j true) i oi K) :=
    qa7 (fun u w' hk=>⟨fun _=>hk,fun hw=>(by rw [wi u,hwi] at hw;cases hw)⟩)
   refine done ?_
   clear done hi' h
   cases hci:cls P oi.op with
   | pure =>
    rw [qaU hci] at hi2
    obtain⟨v,hv,hk⟩:=hi2
    refine qa7 (fun u w' hk => ?_) (qeO hsel hap hselj hsi hk)
    rw [qaU hci,ei u];exact⟨v,hv,hk.2⟩
   | read =>
    obtain⟨di,hdi1,hdi2,hdi3⟩:=hdi hci
    rw [qa8 hci] at hi2
    obtain⟨v,hv,hk⟩:=hi2
    cases hcj:cls P oj.op with
    | pure =>
     rw [qaU hcj] at hk ⊢
     obtain⟨u,hu,hk⟩:=hk
     rw [ej v] at hu
     refine⟨u,hu,?_⟩
     rw [qa8 hci]
     exact⟨v,by rw [ei u];exact hv,by have hk':=hk;rw [Act.put_comm a v u h2] at hk';exact hk'⟩
    | read =>
     rw [qa8 hcj] at hk ⊢
     obtain⟨u,hu,hk⟩:=hk
     rw [ej v] at hu
     refine⟨u,hu,?_⟩
     rw [qa8 hci]
     exact⟨v,by rw [ei u];exact hv,by have hk':=hk;rw [Act.put_comm a v u h2] at hk';exact hk'⟩
    | eff =>
     refine qa7 (fun u w' hk => ?_) (qeO hsel hap hselj hsi hk)
     have hst:=hk.1 hcj i (hijl hci hcj) (by simp [hil])
     have hself:∀ d,oi.dst=some d→d∉oi.looksAt ops:=fun d hd=>by rw [hdi1] at hd;cases hd;exact hdi3
     have hrun:=hst oi hi (by rw [wanted_put oi a oi.dst v hself];exact hwi) di hdi1
     rw [execOp_put oi hseli a oi.dst v hself] at hrun
     have hg:(a.put oi.dst v).tmps.getD di undef=v:=by rw [hdi1];simp [Act.put,hdi2]
     rw [hg] at hrun
     rw [qa8 hci,ei u]
     exact⟨v,hrun,hk.2⟩
   | eff =>
    cases hcj:cls P oj.op with
    | pure =>
     rw [qdm hci] at hi2
     obtain⟨v0,w0,_,hh⟩:=qbP hi2
     rw [qaU hcj] at hh
     obtain⟨u,hu,_⟩:=hh
     rw [ej v0] at hu
     rw [qaU hcj]
     refine⟨u,hu,?_⟩
     refine qdl hsel hap hseli hjr hsj ?_
     rw [qdm hci]
     refine qaA (fun v w' hk=>⟨hk.1,?_⟩) hi2
     have hk2:=hk.2
     rw [qaU hcj] at hk2
     obtain⟨u',hu',hk3⟩:=hk2
     rw [ej v] at hu'
     have he:=(hu w').symm.trans (hu' w')
     simp only [Result.ok.injEq,Next.value.injEq,and_true] at he
     subst he
     exact hk3
    | read=>rw [hci,hcj] at hco;simp [compat2] at hco
    | eff=>rw [hci,hcj] at hco;simp [compat2] at hco
def wpAny2 (P:Program) (ops:Array Oper) (K:Act→World→Prop):Nat→Array Bool→Act→World→Prop
 | 0,listed,a,w=>Region.ready .any ops listed=[]∧K a w
 | fuel+1,listed,a,w=>(Region.ready .any ops listed=[]→K a w) ∧
  ∀ i∈Region.ready .any ops listed,∀ o,ops[i]? = some o→cOp2 P ops listed i o (wpAny2 P ops K fuel (listed.setIfInBounds i true)) a w
theorem qdz {ro:Option Nat}{m:Nat}{ops:Array Oper}{K:Act→World→Prop}{Q:Exit→Act→World→Prop}(hQ:∀ a w,K a w→Q .normal a w):∀ (fuel:Nat) (listed:Array Bool) (a:Act) (w:World),
  wpAny2 P ops K fuel listed a w→wpAnyIn (fw ro) m P .any ops Q fuel listed a w
 | 0,_,_,_,h=>⟨h.1,hQ _ _ h.2⟩
 | fuel+1,_,_,_,h=>⟨fun h0=>hQ _ _ (h.1 h0),fun i hi=>qbQ (by
   obtain⟨_,o,ho,_⟩:=mem_ready.1 hi
   unfold cOpI;rw [ho]
   exact qbv (fun u w' hk=>qdz hQ fuel _ _ _ hk) (qm0 (h.2 i hi o ho)))⟩
structure PlanOk (P:Program) (ops:Array Oper):Prop where
 sel:∀ (k:Nat) (o:Oper) cs b,ops[k]? = some o→o.op≠.select cs b
 closed:closedB ops (Region.before ops)=true
 bl:∀ k i,((Region.before ops).getD k 0).testBit i=true→i<ops.size
 solid:∀ (r:Nat) (or_:Oper) (k:Nat) (ok:Oper),ops[r]? = some or_→clsI P ops r=.read→ops[k]? = some ok→k≠r→bfr ops k r=false→Solid ops r ok
 dst:∀ (i:Nat) (o:Oper),ops[i]? = some o→cls P o.op=.read→∃ d,o.dst=some d∧d∉o.looksAt ops
theorem qdJ {ops:Array Oper}{K:Act→World→Prop}{n:Nat}(H:PlanOk P ops) (hfit:opsFit n ops=true) {i:Nat}{oi:Oper}(hi:ops[i]? = some oi) :
  ∀ (fuel:Nat) (listed:Array Bool) (a:Act) (w:World),listed.size=ops.size→a.tmps.size=n→Down ops listed →
   (∀ (j:Nat) (oj:Oper),ops[j]? = some oj→j≠i→listed.getD j true=false→bfr ops i j=false→oi.apart ops oj=true∧compat2 (cls P oi.op) (cls P oj.op)=true) →
   i∈Region.ready .any ops listed→cOp2 P ops listed i oi (wpAny2 P ops K fuel (listed.setIfInBounds i true)) a w→wpAny2 P ops K (fuel+1) listed a w:=by
 have hdst:∀ o,o∈ops→∀ d,o.dst=some d→d<n:=fun o ho d hd=>by
  have:=Array.all_eq_true_iff_forall_mem.1 hfit o ho
  simpa [hd] using this
 intro fuel
 induction fuel with
 | zero =>
  intro listed a w hs ha hd hfree hr h
  refine⟨fun h=>(by rw [h] at hr;cases hr),fun j hj oj hoj => ?_⟩
  by_cases hji:j=i
  ·subst hji;rw [hi] at hoj;cases hoj;exact h
  ·obtain⟨v,w',hk⟩:=qlv h
   have:=ready_mono hj hji
   rw [hk.1] at this;cases this
 | succ fuel ih =>
  intro listed a w hs ha hd hfree hr h
  refine⟨fun h=>(by rw [h] at hr;cases hr),fun j hj oj hoj => ?_⟩
  by_cases hji:j=i
  ·subst hji;rw [hi] at hoj;cases hoj;exact h
  ·obtain⟨hjun,oj',hoj',_⟩:=mem_ready.1 hj
   have hun:=(mem_ready.1 hr).1
   have hnb:bfr ops i j=false:=qdy H.closed hd hs hun hj
   have hnb':bfr ops j i=false:=qdy H.closed hd hs hjun hr
   obtain⟨hap,hco⟩:=hfree j oj hoj hji hjun hnb
   have h1:cOp2 P ops listed i oi (cOp2 P ops (listed.setIfInBounds i true) j oj (wpAny2 P ops K fuel ((listed.setIfInBounds i true).setIfInBounds j true))) a w :=
    qb9 (fun u w' hk=>hk.2 j (ready_mono hj hji) oj hoj) h
   have hil:i<listed.size:=(qaH hun).2
   have hnot:∀ k,listed.getD k true=false→∀ r,listed.getD r false=true→bfr ops k r=false:=by
    intro k hk r hr'
    cases hb:bfr ops k r with
    | false=>rfl
    | true=>have:=hd r k hr' hb;rw [(qaH hk).1] at this;cases this
   have hsolid:∀ (k:Nat) (ok:Oper),ops[k]? = some ok→listed.getD k true=false→∀ r,listed.getD r false=true→clsI P ops r=.read→Solid ops r ok:=by
    intro k ok hk hkun r hr' hc or_ hor
    have hkr:k≠r:=fun e=>by subst e;rw [(qaH hkun).1] at hr';cases hr'
    exact H.solid r or_ k ok hor hc hk hkr (hnot k hkun r hr') or_ hor
   have h2:=swap2 H.sel hi hoj hap hco hil (fun hc1 hc2=>by
     simp only [loose,List.mem_filter,List.mem_range,Bool.and_eq_true,beq_iff_eq,Bool.not_eq_true',beq_eq_false_iff_ne]
     exact⟨by rw [←hs];exact hil,⟨⟨by simp only [clsI,hi];exact hc1,Ne.symm hji⟩,hnb⟩,hnb'⟩)
    (hsolid i oi hi hun) (hsolid j oj hoj hjun) (fun hc=>by
     obtain⟨d,hd1,hd2⟩:=H.dst i oi hi hc
     exact⟨d,hd1,by rw [ha];exact hdst oi (Array.mem_of_getElem? hi) d hd1,hd2⟩) h1
   refine qb9 (fun u w' hk => ?_) h2
   rw [Array.setIfInBounds_comm _ _ (Ne.symm hji)] at hk
   refine ih (listed.setIfInBounds j true) _ w' (by simpa using hs) (by rw [size_put];exact ha) (qd9 H.closed hd hj H.bl) (fun k ok hok hki hkun hkb=>hfree k ok hok hki ?_ hkb) (ready_mono hr (Ne.symm hji)) hk
   by_cases hjk:j=k
   ·subst hjk;exact hjun
   ·rw [getD_set_ne true hjk] at hkun;exact hkun
theorem qca {ops:Array Oper}{K:Fr→World→Prop}{tail:List Item}{ρ:Fr}{w:World}:∀ (l:List Nat),opsD P ops K (l.map Item.chk++tail) ρ w →
  (∀ r∈l,∀ o,ops[r]? = some o→(match o.guard with
     | none=>∀ d,o.dst=some d→ReadV P o ρ w (ρ d)
     | some g=>guardB ops ρ g=true→∀ d,o.dst=some d→ReadV P o ρ w (ρ d)))∧opsD P ops K tail ρ w
 | [],h=>⟨by simp,h⟩
 | r::l,h=>by
  simp only [List.map_cons,List.cons_append,opsD] at h
  obtain⟨h1,h2⟩:=qca l h.2
  refine⟨fun r' hr' o ho => ?_,h2⟩
  rcases List.mem_cons.1 hr' with rfl|hr'
  ·have:=h.1
   simp only [ho] at this
   exact this
  ·exact h1 r' hr' o ho
theorem qdK {ops:Array Oper}{r:Nat}{a:Act}{w:World}(h:∀ o,ops[r]? = some o→(match o.guard with
     | none=>∀ d,o.dst=some d→ReadV P o (fr a) w (fr a d)
     | some g=>guardB ops (fr a) g=true→∀ d,o.dst=some d→ReadV P o (fr a) w (fr a d))):Still P ops r a w:=by
 intro o ho hw d hd
 have:=h o ho
 cases hg:o.guard with
 | none =>
  simp only [hg] at this
  have:=this d hd
  unfold ReadV at this;rw [qaZ] at this;exact this
 | some g =>
  simp only [hg] at this
  rw [qa0 hg] at hw
  have:=this hw d hd
  unfold ReadV at this;rw [qaZ] at this;exact this
theorem qm1 {ops:Array Oper}:∀ {l:List Nat}{i:Nat},pairs2 P ops (i::l)=true→∀ j∈l,pair2 P ops i j=true:=by
 intro l i h j hj
 simp only [pairs2,Bool.and_eq_true] at h
 exact List.all_eq_true.1 h.1 j hj
theorem qeP {ops:Array Oper}{K:Fr→World→Prop}{n:Nat}(H:PlanOk P ops) (hfit:opsFit n ops=true) :
  ∀ (rest dn:List Nat) (listed:Array Bool) (a:Act) (w:World),(∀ j,j<ops.size→j∈dn∨j∈rest)→(∀ j∈rest,j∉dn∧j<ops.size)→(∀ j∈dn,j<ops.size)→rest.Nodup→listed.size=ops.size→(∀ j,j<ops.size→∀ d,listed.getD j d=decide (j∈dn)) →
   Down ops listed→readyAlong ops dn rest=true→pairs2 P ops rest=true→a.tmps.size=n→a.defers=[]→opsD P ops K (itemsOf P ops rest) (fr a) w→wpAny2 P ops (Ok n K) rest.length listed a w:=by
 have hdst:∀ o,o∈ops→∀ d,o.dst=some d→d<n:=fun o ho d hd=>by
  have:=Array.all_eq_true_iff_forall_mem.1 hfit o ho
  simpa [hd] using this
 intro rest
 induction rest with
 | nil =>
  intro dn listed a w hcov _ _ _ hs hl _ _ _ ha hdf h
  refine⟨?_,ha,hdf,h⟩
  rcases hr:Region.ready .any ops listed with _|⟨x,xs⟩
  ·rfl
  ·have hx:x∈Region.ready .any ops listed:=by rw [hr];exact List.mem_cons_self
   obtain⟨hx0,ox,hox,_⟩:=mem_ready.1 hx
   have hxl:=(Array.getElem?_eq_some_iff.1 hox).1
   rw [hl x hxl] at hx0
   have:=(hcov x hxl).resolve_right (by simp)
   simp [this] at hx0
 | cons i rest ih =>
  intro dn listed a w hcov hrest hdl hnd hs hl hdn hra hpr ha hdf h
  obtain⟨hidn,hil⟩:=hrest i (by simp)
  obtain⟨oi,hi⟩:∃ oi,ops[i]? = some oi:=⟨ops[i],by simp [hil]⟩
  simp only [readyAlong,hi,Bool.and_eq_true] at hra
  have hready:i∈Region.ready .any ops listed:=by
   refine mem_ready.2 ⟨by rw [hl i hil];simpa using hidn,oi,hi,fun e he hb => ?_⟩
   have:=Array.all_eq_true_iff_forall_mem.1 hra.1 e he
   simp only [hb,Bool.not_true,Bool.false_or,List.contains_iff_mem] at this
   rw [hl _ (hdl _ this)];simpa using this
  have hun:listed.getD i true=false:=(mem_ready.1 hready).1
  have hfree:∀ (j:Nat) (oj:Oper),ops[j]? = some oj→j≠i→listed.getD j true=false→bfr ops i j=false→oi.apart ops oj=true∧compat2 (cls P oi.op) (cls P oj.op)=true:=by
   intro j oj hj hji hjun hb
   have hjl:=(Array.getElem?_eq_some_iff.1 hj).1
   rw [hl j hjl] at hjun
   have hjr:j∈rest:=by
    rcases hcov j hjl with h'|h'
    ·simp [h'] at hjun
    ·rcases List.mem_cons.1 h' with h'|h'
     ·exact absurd h' hji
     ·exact h'
   have:=qm1 hpr j hjr
   simp only [pair2,hb,Bool.false_or,hi,hj,Bool.and_eq_true] at this
   exact this
  have hnot:∀ r,listed.getD r false=true→bfr ops i r=false:=by
   intro r hr'
   cases hb:bfr ops i r with
   | false=>rfl
   | true=>have:=hdn r i hr' hb;rw [(qaH hun).1] at this;cases this
  have hsolid:∀ r,listed.getD r false=true→clsI P ops r=.read→Solid ops r oi:=by
   intro r hr' hc or_ hor
   have hir:i≠r:=fun e=>by subst e;rw [(qaH hun).1] at hr';cases hr'
   exact H.solid r or_ i oi hor hc hi hir (hnot r hr') or_ hor
  have hput:∀ v,fr (a.put oi.dst v)=updo (fr a) oi.dst v:=fun v=>qb7 fun t ht=>by rw [ha];exact hdst oi (Array.mem_of_getElem? hi) t ht
  refine qdJ H hfit hi rest.length listed a w hs ha hdn hfree hready ?_
  
  have hstep:cOp2 P ops listed i oi (fun a' w'=>a'.tmps.size=n∧a'.defers=[]∧opsD P ops K (itemsOf P ops rest) (fr a') w') a w:=by
   simp only [itemsOf,List.flatMap_cons,List.cons_append,opsD,hi] at h
   have hkeep:∀ v w',opsD P ops K (itemsOf P ops rest) (updo (fr a) oi.dst v) w'→(a.put oi.dst v).tmps.size=n∧(a.put oi.dst v).defers=[]∧opsD P ops K (itemsOf P ops rest) (fr (a.put oi.dst v)) w' :=
    fun v w' hk=>⟨by rw [size_put,ha],by rw [qaT,hdf],by rw [hput];exact hk⟩
   have hop:opV P oi (fr a) w (opsW P ops (opsD P ops K ((match clsI P ops i with|.eff=>(loose P ops i).map Item.chk|_=>[])++itemsOf P ops rest)) [])→opVA2 P ops listed i oi a w fun a' w'=>a'.tmps.size=n∧a'.defers=[]∧opsD P ops K (itemsOf P ops rest) (fr a') w':=by
    intro hv
    have hcI:clsI P ops i=cls P oi.op:=by simp [clsI,hi]
    rw [hcI] at hv
    unfold opV at hv
    cases hc:cls P oi.op with
    | pure =>
     simp only [hc] at hv
     rw [qaU hc]
     obtain⟨v,hv1,hk⟩:=hv
     unfold PureV at hv1;rw [qaZ] at hv1
     exact⟨v,hv1,hkeep _ _ hk⟩
    | read =>
     simp only [hc] at hv
     rw [qa8 hc]
     obtain⟨v,hv1,hk⟩:=hv
     unfold ReadV at hv1;rw [qaZ] at hv1
     exact⟨v,hv1,hkeep _ _ hk⟩
    | eff =>
     simp only [hc] at hv
     rw [qdm hc]
     unfold opW at hv;rw [qaZ] at hv
     refine qaA (fun v w' hk => ?_) hv
     obtain⟨hch,hk2⟩:=qca (loose P ops i) hk
     refine⟨fun r hr hlr => ?_,hkeep _ _ hk2⟩
     refine (qdk v (hsolid r hlr (qbJ hr).1) (fun or_ cs b ho=>H.sel r or_ cs b ho)).1 (qdK fun o ho => ?_)
     rw [hput]
     exact hch r hr o ho
   simp only [opsW] at h
   cases hg:oi.guard with
   | none =>
    simp only [hg] at h
    refine⟨fun _=>hop h,fun hw => ?_⟩
    simp [Region.wanted,hg] at hw
   | some g =>
    simp only [hg] at h
    unfold cOp2
    rw [qa0 hg]
    refine⟨fun hw=>hop (h.1 hw),fun hw=>hkeep _ _ ?_⟩
    have:=h.2 hw
    have hcI:clsI P ops i=cls P oi.op:=by simp [clsI,hi]
    rw [hcI] at this
    cases hc:cls P oi.op with
    | eff=>simp only [hc] at this;exact (qca (loose P ops i) this).2
    | pure=>simp only [hc] at this;exact this
    | read=>simp only [hc] at this;exact this
  refine qb9 (fun u w' hk => ?_) hstep
  refine ih (i::dn) _ _ w' (fun j hj => ?_) (fun j hj=>⟨?_,(hrest j (by simp [hj])).2⟩) (fun j hj => ?_) (List.nodup_cons.1 hnd).2 (by simpa using hs) (fun j hj d => ?_) (qd9 H.closed hdn hready H.bl) hra.2 (by simp only [pairs2,Bool.and_eq_true] at hpr;exact hpr.2) hk.1 hk.2.1 hk.2.2
  ·rcases hcov j hj with h'|h'
   ·left;simp [h']
   ·rcases List.mem_cons.1 h' with h'|h'
    ·left;simp [h']
    ·right;exact h'
  ·intro hm
   rcases List.mem_cons.1 hm with h'|h'
   ·subst h';exact (List.nodup_cons.1 hnd).1 hj
   ·exact (hrest j (by simp [hj])).1 h'
  ·rcases List.mem_cons.1 hj with rfl|h'
   ·exact hil
   ·exact hdl j h'
  ·by_cases hij:i=j
   ·subst hij
    have:i<listed.size:=by rw [hs];exact hil
    simp [this]
   ·rw [getD_set_ne d hij,hl j hj d]
    simp [Ne.symm hij]
theorem qlx {ops:Array Oper}{is:List Item}(h:planB P ops is=true):PlanOk P ops:=by
 simp only [planB,Bool.and_eq_true,decide_eq_true_eq] at h
 obtain⟨⟨⟨⟨⟨⟨⟨⟨⟨⟨⟨⟨h1,h2⟩,h3⟩,h4⟩,h5⟩,h6⟩,h7⟩,h8⟩,h9⟩,h10⟩,h11⟩,h12⟩,h13⟩:=h
 refine⟨Region.noSelect_spec h2,h3,fun k i hb => ?_,fun r or_ k ok hr hc hk hkr hb or' hor' => ?_,fun i o ho hc => ?_⟩
 ·rcases Nat.lt_or_ge k ops.size with hk|hk
  ·have:=of_decide_eq_true (List.all_eq_true.1 h11 k (List.mem_range.2 hk))
   rcases Nat.lt_or_ge i ops.size with hi|hi
   ·exact hi
   ·have:=Nat.testBit_lt_two_pow (Nat.lt_of_lt_of_le this (Nat.pow_le_pow_right (by omega) hi))
    rw [this] at hb;cases hb
  ·have:(Region.before ops).getD k 0=0:=by
    have:(Region.before ops).size≤k:=by omega
    simp [Array.getElem?_eq_none this]
   rw [this] at hb;simp at hb
 ·have hrl:=(Array.getElem?_eq_some_iff.1 hr).1
  have hkl:=(Array.getElem?_eq_some_iff.1 hk).1
  have h1:=List.all_eq_true.1 h9 r (List.mem_range.2 hrl)
  simp only [hc,beq_self_eq_true,Bool.not_true,Bool.false_or] at h1
  have h2:=List.all_eq_true.1 h1 k (List.mem_range.2 hkl)
  rw [hr] at hor';cases hor'
  have hbeq:(k == r)=false:=by simpa using hkr
  simp only [solid2,hbeq,hb,Bool.false_or,hr,hk] at h2
  refine⟨fun d hd => ?_,fun d hd => ?_⟩ <;> simp [hd] at h2
  ·exact h2.1
  ·exact h2.2
 ·have:=Array.all_eq_true_iff_forall_mem.1 h10 o (Array.mem_of_getElem? ho)
  simp only [hc,beq_self_eq_true,Bool.not_true,Bool.false_or] at this
  split at this
  ·rename_i d hd;exact⟨d,hd,by simpa using this⟩
  ·cases this
theorem qhW {ops:Array Oper}(h:baseB P ops=true):PlanOk P ops:=by
 simp only [baseB,Bool.and_eq_true,decide_eq_true_eq] at h
 obtain⟨⟨⟨⟨⟨h2,h3⟩,h9⟩,h10⟩,h11⟩,h12⟩:=h
 refine⟨Region.noSelect_spec h2,h3,fun k i hb => ?_,fun r or_ k ok hr hc hk hkr hb or' hor' => ?_,fun i o ho hc => ?_⟩
 ·rcases Nat.lt_or_ge k ops.size with hk|hk
  ·have:=of_decide_eq_true (List.all_eq_true.1 h11 k (List.mem_range.2 hk))
   rcases Nat.lt_or_ge i ops.size with hi|hi
   ·exact hi
   ·have:=Nat.testBit_lt_two_pow (Nat.lt_of_lt_of_le this (Nat.pow_le_pow_right (by omega) hi))
    rw [this] at hb;cases hb
  ·have:(Region.before ops).getD k 0=0:=by
    have:(Region.before ops).size≤k:=by omega
    simp [Array.getElem?_eq_none this]
   rw [this] at hb;simp at hb
 ·have hrl:=(Array.getElem?_eq_some_iff.1 hr).1
  have hkl:=(Array.getElem?_eq_some_iff.1 hk).1
  have h1:=List.all_eq_true.1 h9 r (List.mem_range.2 hrl)
  simp only [hc,beq_self_eq_true,Bool.not_true,Bool.false_or] at h1
  have h2:=List.all_eq_true.1 h1 k (List.mem_range.2 hkl)
  rw [hr] at hor';cases hor'
  have hbeq:(k == r)=false:=by simpa using hkr
  simp only [solid2,hbeq,hb,Bool.false_or,hr,hk] at h2
  refine⟨fun d hd => ?_,fun d hd => ?_⟩ <;> simp [hd] at h2
  ·exact h2.1
  ·exact h2.2
 ·have:=Array.all_eq_true_iff_forall_mem.1 h10 o (Array.mem_of_getElem? ho)
  simp only [hc,beq_self_eq_true,Bool.not_true,Bool.false_or] at this
  split at this
  ·rename_i d hd;exact⟨d,hd,by simpa using this⟩
  ·cases this
theorem qe6 {ro:Option Nat}{m:Nat}{id:Nat}{ops:Array Oper}{is:List Item}{K:Fr→World→Prop}{n:Nat}{a:Act}{w:World}{Q:Exit→Act→World→Prop}(hm:P.follows .mixedOrders=true) (hQ:∀ a w,Ok n K a w→Q .normal a w)
  (hfit:opsFit n ops=true) (hp:planB P ops is=true) (hs:a.tmps.size=n) (hd:a.defers=[]) (h:opsD P ops K is (fr a) { w with drawn:=w.drawn+1 }):(Code.region id ops true).wpIn (fw ro) m P Q a w:=by
 have H:=qlx hp
 simp only [planB,Bool.and_eq_true,decide_eq_true_eq] at hp
 obtain⟨⟨⟨⟨⟨⟨⟨⟨⟨⟨⟨⟨h1,h2⟩,h3⟩,h4⟩,h5⟩,h6⟩,h7⟩,h8⟩,h9⟩,h10⟩,h11⟩,h12⟩,h13⟩:=hp
 refine wpIn_region_any hm (qdz (K:=Ok n K) hQ _ _ _ _ ?_)
 rw [h1] at h
 have hb:∀ i∈opIdx is,i<ops.size:=fun i hi=>of_decide_eq_true (List.all_eq_true.1 h5 i hi)
 have:=qeP H hfit (opIdx is) [] (Array.replicate ops.size false) a _ (fun j hj=>.inr (by simpa using List.all_eq_true.1 h13 j (List.mem_range.2 hj))) (fun j hj=>⟨by simp,hb j hj⟩) (by simp) h6 (by simp) (fun j hj d=>by simp [hj])
  (fun j i hj _=>by
   rcases Nat.lt_or_ge j ops.size with hk|hk
   ·simp [hk] at hj
   ·simp [hk] at hj) h7 h8 hs hd h
 rw [h4] at this
 exact this
theorem qdn {ops:Array Oper}{N:Fr→World→Prop}{n:Nat}(H:PlanOk P ops) (hfit:opsFit n ops=true) {i:Nat}{oi:Oper}(hi:ops[i]? = some oi) {listed:Array Bool}{a:Act}{w:World}(hun:listed.getD i true=false) (hdn:Down ops listed)
  (ha:a.tmps.size=n) (hdf:a.defers=[]) (h:opsD P ops N (itemsOf P ops [i]) (fr a) w):cOp2 P ops listed i oi (fun a' w'=>a'.tmps.size=n∧a'.defers=[]∧N (fr a') w') a w:=by
 have hdst:∀ o,o∈ops→∀ d,o.dst=some d→d<n:=fun o ho d hd=>by
  have:=Array.all_eq_true_iff_forall_mem.1 hfit o ho
  simpa [hd] using this
 have hnot:∀ r,listed.getD r false=true→bfr ops i r=false:=by
  intro r hr'
  cases hb:bfr ops i r with
  | false=>rfl
  | true=>have:=hdn r i hr' hb;rw [(qaH hun).1] at this;cases this
 have hsolid:∀ r,listed.getD r false=true→clsI P ops r=.read→Solid ops r oi:=by
  intro r hr' hc or_ hor
  have hir:i≠r:=fun e=>by subst e;rw [(qaH hun).1] at hr';cases hr'
  exact H.solid r or_ i oi hor hc hi hir (hnot r hr') or_ hor
 have hput:∀ v,fr (a.put oi.dst v)=updo (fr a) oi.dst v:=fun v=>qb7 fun t ht=>by rw [ha];exact hdst oi (Array.mem_of_getElem? hi) t ht
 simp only [itemsOf,List.flatMap_cons,List.flatMap_nil,List.append_nil,opsD,hi] at h
 have hkeep:∀ v w',N (updo (fr a) oi.dst v) w'→(a.put oi.dst v).tmps.size=n∧(a.put oi.dst v).defers=[]∧N (fr (a.put oi.dst v)) w' :=
  fun v w' hk=>⟨by rw [size_put,ha],by rw [qaT,hdf],by rw [hput];exact hk⟩
 have hop:opV P oi (fr a) w (opsW P ops (opsD P ops N (match clsI P ops i with|.eff=>(loose P ops i).map Item.chk|_=>[])) [])→opVA2 P ops listed i oi a w fun a' w'=>a'.tmps.size=n∧a'.defers=[]∧N (fr a') w':=by
  intro hv
  have hcI:clsI P ops i=cls P oi.op:=by simp [clsI,hi]
  rw [hcI] at hv
  unfold opV at hv
  cases hc:cls P oi.op with
  | pure =>
   simp only [hc] at hv
   rw [qaU hc]
   obtain⟨v,hv1,hk⟩:=hv
   unfold PureV at hv1;rw [qaZ] at hv1
   exact⟨v,hv1,hkeep _ _ hk⟩
  | read =>
   simp only [hc] at hv
   rw [qa8 hc]
   obtain⟨v,hv1,hk⟩:=hv
   unfold ReadV at hv1;rw [qaZ] at hv1
   exact⟨v,hv1,hkeep _ _ hk⟩
  | eff =>
   simp only [hc] at hv
   rw [qdm hc]
   unfold opW at hv;rw [qaZ] at hv
   refine qaA (fun v w' hk => ?_) hv
   obtain⟨hch,hk2⟩:=qca (tail:=[]) (loose P ops i) (by rw [List.append_nil];exact hk)
   refine⟨fun r hr hlr => ?_,hkeep _ _ hk2⟩
   refine (qdk v (hsolid r hlr (qbJ hr).1) (fun or_ cs b ho=>H.sel r or_ cs b ho)).1 (qdK fun o ho => ?_)
   rw [hput]
   exact hch r hr o ho
 simp only [opsW] at h
 cases hg:oi.guard with
 | none =>
  simp only [hg] at h
  refine⟨fun _=>hop h,fun hw => ?_⟩
  simp [Region.wanted,hg] at hw
 | some g =>
  simp only [hg] at h
  unfold cOp2
  rw [qa0 hg]
  refine⟨fun hw=>hop (h.1 hw),fun hw=>hkeep _ _ ?_⟩
  have:=h.2 hw
  have hcI:clsI P ops i=cls P oi.op:=by simp [clsI,hi]
  rw [hcI] at this
  cases hc:cls P oi.op with
  | eff=>simp only [hc] at this;exact (qca (tail:=[]) (loose P ops i) (by rw [List.append_nil];exact this)).2
  | pure=>simp only [hc] at this;exact this
  | read=>simp only [hc] at this;exact this
structure TSt (ops:Array Oper) (n:Nat) (dn:List Nat) (listed:Array Bool) (a:Act):Prop where
 size:listed.size=ops.size
 at_:∀ j,j<ops.size→∀ d,listed.getD j d=decide (j∈dn)
 down:Down ops listed
 lt:∀ j∈dn,j<ops.size
 tmps:a.tmps.size=n
 defers:a.defers=[]
theorem TSt.ready {ops:Array Oper}{n:Nat}{dn:List Nat}{listed:Array Bool}{a:Act}(S:TSt ops n dn listed a) {i:Nat}:i∈Region.ready .any ops listed↔(i∉dn∧readyB ops dn i=true):=by
 rw [mem_ready]
 constructor
 ·rintro⟨h1,o,ho,h2⟩
  have hil:=(Array.getElem?_eq_some_iff.1 ho).1
  rw [S.at_ i hil] at h1
  refine⟨by simpa using h1,?_⟩
  simp only [readyB,ho]
  refine Array.all_eq_true_iff_forall_mem.2 fun e he => ?_
  cases hb:Region.binds .any e with
  | false=>rfl
  | true =>
   have h3:=h2 e he hb
   rcases Nat.lt_or_ge e.on ops.size with hl|hl
   ·rw [S.at_ _ hl] at h3
    simpa using h3
   ·have:listed.size≤e.on:=by rw [S.size];exact hl
    simp [this] at h3
 ·rintro⟨h1,h2⟩
  unfold readyB at h2
  split at h2
  ·rename_i o ho
   have hil:=(Array.getElem?_eq_some_iff.1 ho).1
   refine⟨by rw [S.at_ i hil];simpa using h1,o,ho,fun e he hb => ?_⟩
   have:=Array.all_eq_true_iff_forall_mem.1 h2 e he
   simp only [hb,Bool.not_true,Bool.false_or,List.contains_iff_mem] at this
   rw [S.at_ _ (S.lt _ this)];simpa using this
  ·cases h2
theorem TSt.next {ops:Array Oper}{n:Nat}{dn:List Nat}{listed:Array Bool}{a a':Act}(H:PlanOk P ops) (S:TSt ops n dn listed a) {i:Nat}(hil:i<ops.size) (hr:i∈Region.ready .any ops listed) (ha:a'.tmps.size=n) (hd:a'.defers=[]):TSt ops n (i::dn) (listed.setIfInBounds i true) a':=by
 refine⟨by simpa using S.size,fun j hj d => ?_,qd9 H.closed S.down hr H.bl,fun j hj => ?_,ha,hd⟩
 ·by_cases hij:i=j
  ·subst hij
   have:i<listed.size:=by rw [S.size];exact hil
   simp [this]
  ·rw [getD_set_ne d hij,S.at_ j hj d]
   simp [Ne.symm hij]
 ·rcases List.mem_cons.1 hj with rfl|h'
  ·exact hil
  ·exact S.lt j h'
def isAlt:PT→Prop
 | .alt ..|.stop=>True
 | _=>False
theorem qcw {ops:Array Oper}{K:Fr→World→Prop}{n:Nat}(H:PlanOk P ops) (hfit:opsFit n ops=true):∀ (T:PT) (dn seen:List Nat) (fuel:Nat) (listed:Array Bool) (a:Act) (w:World),treeB P ops dn seen T=true→TSt ops n dn listed a→fuel+dn.length=ops.size→opsT P ops K T (fr a) w →
  (seen=[]→wpAny2 P ops (Ok n K) fuel listed a w)∧(isAlt T→∀ i∈Region.ready .any ops listed,i∉seen→∀ o,ops[i]? = some o→∃ f,fuel=f+1∧cOp2 P ops listed i o (wpAny2 P ops (Ok n K) f (listed.setIfInBounds i true)) a w)
 | .stop,dn,seen,fuel,listed,a,w,ht,S,_,_=>by
  simp only [treeB,Bool.and_eq_true,Bool.not_eq_true'] at ht
  refine⟨fun h=>by simp [h] at ht,fun _ i hi hns o ho => ?_⟩
  have hil:=(Array.getElem?_eq_some_iff.1 ho).1
  have h1:=List.all_eq_true.1 ht.2 i (List.mem_range.2 hil)
  obtain⟨h2,h3⟩:=S.ready.1 hi
  simp [h2,hns,h3] at h1
 | .lin is,dn,seen,fuel,listed,a,w,ht,S,hf,h=>by
  simp only [treeB,Bool.and_eq_true,decide_eq_true_eq] at ht
  obtain⟨⟨⟨⟨⟨⟨⟨t1,t2⟩,t3⟩,t4⟩,t5⟩,t6⟩,t7⟩,t8⟩:=ht
  refine⟨fun _ => ?_,fun h=>h.elim⟩
  simp only [opsT] at h
  rw [t2] at h
  have hall:∀ j∈opIdx is,j<ops.size∧j∉dn:=fun j hj=>by
   have:=List.all_eq_true.1 t4 j hj
   simpa using this
  have:=qeP H hfit (opIdx is) dn listed a w (fun j hj=>by
    have:=List.all_eq_true.1 t8 j (List.mem_range.2 hj)
    simpa using this) (fun j hj=>⟨(hall j hj).2,(hall j hj).1⟩) S.lt t5 S.size S.at_ S.down t6 t7 S.tmps S.defers h
  have e:fuel=(opIdx is).length:=by omega
  rw [e];exact this
 | .step i is t,dn,seen,fuel,listed,a,w,ht,S,hf,h=>by
  simp only [treeB,Bool.and_eq_true,decide_eq_true_eq,Bool.not_eq_true'] at ht
  obtain⟨⟨⟨⟨⟨⟨t1,t2⟩,t3⟩,t4⟩,t5⟩,t6⟩,t7⟩:=ht
  refine⟨fun _ => ?_,fun h=>h.elim⟩
  obtain⟨f,rfl⟩:∃ f,fuel=f+1:=⟨fuel-1,by omega⟩
  have hr:i∈Region.ready .any ops listed:=S.ready.2 ⟨by simpa using t4,t5⟩
  obtain⟨hun,oi,hi,_⟩:=mem_ready.1 hr
  have hil:=(Array.getElem?_eq_some_iff.1 hi).1
  simp only [opsT] at h
  rw [t2] at h
  refine qdJ H hfit hi f listed a w S.size S.tmps S.down (fun j oj hj hji hjun hb => ?_) hr ?_
  ·have hjl:=(Array.getElem?_eq_some_iff.1 hj).1
   rw [S.at_ j hjl] at hjun
   have:=List.all_eq_true.1 t6 j (List.mem_range.2 hjl)
   have hjd:dn.contains j=false:=by simpa using hjun
   have hbe:(j == i)=false:=by simpa using hji
   simp only [hjd,hbe,Bool.false_or,pair2,hb,hi,hj,Bool.and_eq_true] at this
   exact this
  ·refine qb9 (fun u w' hk => ?_) (qdn H hfit hi hun S.down S.tmps S.defers h)
   exact (qcw H hfit t (i::dn) [] f _ _ w' t7 (S.next H hil hr hk.1 hk.2.1) (by simp only [List.length_cons];omega) hk.2.2).1 rfl
 | .alt i is t m,dn,seen,fuel,listed,a,w,ht,S,hf,h=>by
  simp only [treeB,Bool.and_eq_true,decide_eq_true_eq,Bool.not_eq_true'] at ht
  obtain⟨⟨⟨⟨⟨t2,t3⟩,t4⟩,t5⟩,t7⟩,t8⟩:=ht
  have hr:i∈Region.ready .any ops listed:=S.ready.2 ⟨by simpa using t4,t5⟩
  obtain⟨hun,oi,hi,_⟩:=mem_ready.1 hr
  have hil:=(Array.getElem?_eq_some_iff.1 hi).1
  simp only [opsT] at h
  rw [t2] at h
  have hmA:isAlt m:=by
   cases m with
   | lin is=>simp [treeB] at t8
   | step i is t=>simp [treeB] at t8
   | _=>trivial
  have hall:∀ j∈Region.ready .any ops listed,j∉seen→∀ o,ops[j]? = some o→∃ f,fuel=f+1∧cOp2 P ops listed j o (wpAny2 P ops (Ok n K) f (listed.setIfInBounds j true)) a w:=by
   intro j hj hjs o ho
   by_cases hji:j=i
   ·subst hji
    rw [hi] at ho;cases ho
    obtain⟨f,rfl⟩:∃ f,fuel=f+1:=⟨fuel-1,by omega⟩
    refine⟨f,rfl,qb9 (fun u w' hk => ?_) (qdn H hfit hi hun S.down S.tmps S.defers h.1)⟩
    exact (qcw H hfit t (j::dn) [] f _ _ w' t7 (S.next H hil hr hk.1 hk.2.1) (by simp only [List.length_cons];omega) hk.2.2).1 rfl
   ·exact (qcw H hfit m dn (i::seen) fuel listed a w t8 S hf h.2).2 hmA j hj (fun hm=>by
     rcases List.mem_cons.1 hm with h'|h'
     ·exact hji h'
     ·exact hjs h') o ho
  refine⟨fun hs => ?_,fun _=>hall⟩
  subst hs
  obtain⟨f,rfl⟩:∃ f,fuel=f+1:=⟨fuel-1,by omega⟩
  refine⟨fun h0=>(by rw [h0] at hr;cases hr),fun j hj o ho => ?_⟩
  obtain⟨f',hf',hc⟩:=hall j hj (by simp) o ho
  cases hf'
  exact hc
theorem qe7 {ro:Option Nat}{m:Nat}{id:Nat}{ops:Array Oper}{T:PT}{K:Fr→World→Prop}{n:Nat}{a:Act}{w:World}{Q:Exit→Act→World→Prop}(hm:P.follows .mixedOrders=true) (hQ:∀ a w,Ok n K a w→Q .normal a w)
  (hfit:opsFit n ops=true) (hb:baseB P ops=true) (ht:treeB P ops [] [] T=true) (hs:a.tmps.size=n) (hd:a.defers=[]) (h:opsT P ops K T (fr a) { w with drawn:=w.drawn+1 }):(Code.region id ops true).wpIn (fw ro) m P Q a w:=by
 have H:=qhW hb
 refine wpIn_region_any hm (qdz (K:=Ok n K) hQ _ _ _ _ ?_)
 refine (qcw H hfit T [] [] ops.size _ a _ ht ⟨by simp,fun j hj d=>by simp [hj],fun j i hj _ => ?_,by simp,hs,hd⟩ (by simp) h).1 rfl
 rcases Nat.lt_or_ge j ops.size with hk|hk
 ·simp [hk] at hj
 ·simp [hk] at hj
theorem qi9 {p:Nat→Prop}:∀ m,p m→∃ k,p k∧∀ j,p j→k≤j:=by
 intro m
 induction m using Nat.strongRecOn with
 | _ m ih =>
  intro hm
  by_cases h:∃ j,j<m∧p j
  ·obtain⟨j,hj,hpj⟩:=h;exact ih j hj hpj
  ·exact⟨m,hm,fun j hj=>Nat.le_of_not_lt fun hlt=>h ⟨j,hlt,hj⟩⟩
open Classical in
noncomputable def least (p:Nat→Prop):Nat:=if h:∃ k,p k∧∀ j,p j→k≤j then h.choose else 0
theorem qfx {p:Nat→Prop}{m:Nat}(hm:p m):p (least p)∧∀ j,p j→least p≤j:=by
 have h:=qi9 m hm
 unfold least
 rw [dif_pos h]
 exact h.choose_spec
theorem qa1 {ro:Option Nat}{m:Nat}{n:Nat}(hm:P.follows .mixedOrders=true):∀ (c:Code),fits n c=true→∀ (Q:Exit→Fr→World→Prop) (a:Act) (w:World),a.tmps.size=n→a.defers=[]→vc P c Q (fr a) w →
  c.wpIn (fw ro) m P (OkQ n Q) a w
 | .skip,_,_,_,_,hs,hd,h=>wpIn_skip ⟨hs,hd,h⟩
 | .label _,_,_,_,_,hs,hd,h=>wpIn_label ⟨hs,hd,h⟩
 | .exit _,_,_,_,_,hs,hd,h=>wpIn_exit ⟨hs,hd,h⟩
 | .ret,_,_,_,_,hs,hd,h=>wpIn_ret ⟨hs,hd,h⟩
 | .seq x y,hf,Q,a,w,hs,hd,h=>by
  simp only [fits,Bool.and_eq_true] at hf
  refine wpIn_seq (wpIn_mono (qa1 hm x hf.1 _ a w hs hd h) fun e a' w' hq => ?_)
  obtain⟨hs',hd',hq⟩:=hq
  cases e with
  | normal=>exact qa1 hm y hf.2 Q a' w' hs' hd' hq
  | _=>exact⟨hs',hd',hq⟩
 | .cond c x y,hf,Q,a,w,hs,hd,h=>by
  simp only [fits,Bool.and_eq_true] at hf
  obtain⟨t,ht,h1,h2⟩:=h
  rw [qaZ] at ht
  exact wpIn_cond_split ht (fun ht=>qa1 hm x hf.1 Q a w hs hd (h1 ht)) (fun ht=>qa1 hm y hf.2 Q a w hs hd (h2 ht))
 | .block id c,hf,Q,a,w,hs,hd,h=>by
  refine wpIn_block (wpIn_mono (qa1 hm c hf _ a w hs hd h) fun e a' w' hq => ?_)
  obtain⟨hs',hd',hq⟩:=hq
  cases e with
  | exit i =>
   simp only [Blk] at hq
   simp only [Exit.inBlock]
   split
   ·rename_i hi;rw [if_pos hi] at hq;exact⟨hs',hd',hq⟩
   ·rename_i hi;rw [if_neg hi] at hq;exact⟨hs',hd',hq⟩
  | _=>exact⟨hs',hd',hq⟩
 | .loop c,hf,Q,a,w,hs,hd,h=>by
  obtain⟨I,h0,hr⟩:=h
  refine wpIn_loop (fun a w=>a.tmps.size=n∧a.defers=[]∧∃ m,I m (fr a) w) (fun a w=>least fun m=>I m (fr a) w) ⟨hs,hd,h0⟩ fun a w ⟨hs,hd,m0,hI0⟩ => ?_
  have hI:=(qfx (p:=fun m=>I m (fr a) w) hI0).1
  refine wpIn_mono (qa1 hm c hf _ a w hs hd (hr _ _ _ hI)) fun e a' w' hq => ?_
  obtain⟨hs',hd',hq⟩:=hq
  cases e with
  | normal =>
   obtain⟨m',hlt,hI'⟩:=hq
   exact⟨⟨hs',hd',m',hI'⟩,Nat.lt_of_le_of_lt ((qfx (p:=fun m=>I m (fr a') w') hI').2 m' hI') hlt⟩
  | _=>exact⟨hs',hd',hq⟩
 | .region id ops false,hf,Q,a,w,hs,hd,h=>qe5 (fun a w h=>h) hf hs hd h
 | .region id ops true,hf,Q,a,w,hs,hd,h=>by
  rcases h with h|⟨is,hp,h⟩|⟨T,hb,ht,h⟩
  case inr.inl=>exact qe6 hm (fun a w h=>h) hf hp hs hd h
  case inr.inr=>exact qe7 hm (fun a w h=>h) hf hb ht hs hd h
  refine wpIn_region_any hm (qdx (K:=Ok n (Q .normal)) (fun a w h=>h) _ _ _ _ ?_)
  have:=qhV h.1 hf ops.toList 0 (Array.replicate ops.size false) a _ (by simp) (by simp) ⟨by simp,fun j hj d=>by simp [hj]⟩ hs hd h.2
  simpa using this
 | .rangeFunc ..,_,_,_,_,_,_,h=>h.elim
 | .scope _,_,_,_,_,_,_,h=>h.elim
 | .goto _,_,_,_,_,_,_,h=>h.elim
 | .refuse _,_,_,_,_,_,_,h=>h.elim
def arg0 (args:List Value):Fr:=fun t=>(args[t]?).getD undef
def postV (P:Program) (fn:Func) (R:Value→World→Prop) (e:Exit) (ρ:Fr) (w:World):Prop :=
 match e with
 | .normal|.ret=>∃ v,(∀ a:Act,fr a=ρ→(results fn a.tmps).run P w=.ok v w)∧R v w
 | _=>False
theorem qaf {f:FuncId}{fn:Func}{c:Code}{args:List Value}{w:World}{R:Ending→World→Prop}(hm:P.follows .mixedOrders=true)
  (hf:P.funcs[f]? = some fn) (hb:fn.body=some c) (hfit:fits fn.ntmps c=true) (hn:args.length≤fn.ntmps)
  (h:vc P c (postV P fn fun v w'=>R (.returned v) w') (arg0 args) w):Calls P f args.toArray w R:=by
 refine (callsIn_wide (n:=0)).1 (callsIn_of_wp hf hb trivial ?_)
 have hfr:fr { tmps:=args.toArray++Array.replicate (fn.ntmps-args.toArray.size) undef,defers:=[] }=arg0 args:=by
  funext t
  simp only [fr,arg0]
  rcases Nat.lt_or_ge t args.length with ht|ht
  ·simp [Array.getElem?_append_left,ht]
  ·simp [Array.getElem?_append_right,ht]
   rcases Nat.lt_or_ge (t-args.length) (fn.ntmps-args.length) with h1|h1
   ·simp [h1]
   ·simp [h1]
 rw [←hfr] at h
 refine wpIn_mono (qa1 (ro:=none) hm c hfit _ _ w (by simp;omega) rfl h) fun e a' w' hq => ?_
 obtain⟨_,hd,hq⟩:=hq
 cases e with
 | normal=>obtain⟨v,hv,hR⟩:=hq;exact⟨hd,v,hv a' rfl,hR⟩
 | ret=>obtain⟨v,hv,hR⟩:=hq;exact⟨hd,v,hv a' rfl,hR⟩
 | _=>exact hq.elim
end
end Go.Sl
/-
  Assertions over memory: what a call owns ('Sat w0 w Γ': since w0 nothing that was there has changed, and the new blocks hold what the list Γ says, each part its own blocks), and what it reads ('RSl').
-/
namespace Go.Sl
open Go.RowKit (Below)
abbrev PH:=Nat→Option Obj
abbrev HP:=PH→Prop
def Disj (h1 h2:PH):Prop:=∀ b,h1 b=none∨h2 b=none
def Sub (h1 h:PH):Prop:=∀ b o,h1 b=some o→h b=some o
def SatL:List HP→PH→Prop
 | [],_=>True
 | A::Γ,h=>∃ h1 h2,Disj h1 h2∧Sub h1 h∧Sub h2 h∧A h1∧SatL Γ h2
def hpU (h1 h2:PH):PH:=fun b=>match h1 b with|some o=>some o|none=>h2 b
def hpS (h:PH) (b:Nat) (o:Obj):PH:=fun b'=>if b'=b then some o else h b'
theorem Disj.symm {h1 h2:PH}(h:Disj h1 h2):Disj h2 h1:=fun b=>(h b).symm
theorem Disj.sub {h1 h2 h3:PH}(h:Disj h1 h2) (hs:Sub h3 h2):Disj h1 h3:=fun b=>by
 rcases h b with h'|h'
 ·exact .inl h'
 ·right;cases h3b:h3 b with
  | none=>rfl
  | some o=>rw [hs b o h3b] at h';cases h'
theorem Sub.trans {a b c:PH}(h:Sub a b) (k:Sub b c):Sub a c:=fun x o hx=>k x o (h x o hx)
theorem Sub.refl (h:PH):Sub h h:=fun _ _ h=>h
theorem SatL.sub {Γ:List HP}{h h':PH}(hs:Sub h h') (hh:SatL Γ h):SatL Γ h':=by
 cases Γ with
 | nil=>trivial
 | cons A Γ=>obtain⟨h1,h2,d,s1,s2,ha,hg⟩:=hh;exact⟨h1,h2,d,s1.trans hs,s2.trans hs,ha,hg⟩
theorem SatL.swap {A B:HP}{Γ:List HP}{h:PH}(hh:SatL (A::B::Γ) h):SatL (B::A::Γ) h:=by
 obtain⟨h1,h2,d,s1,s2,ha,h3,h4,d2,s3,s4,hb,hg⟩:=hh
 refine⟨h3,hpU h1 h4,fun b => ?_,s3.trans s2,fun b o hb' => ?_,hb,h1,h4,d.sub s4,fun b o hb'=>by simp [hpU,hb'],fun b o hb' => ?_,ha,hg⟩
 ·rcases d b with hn|hn
  ·rcases d2 b with hm|hm
   ·exact .inl hm
   ·right;simp [hpU,hn,hm]
  ·left;cases h3b:h3 b with
   | none=>rfl
   | some o=>rw [s3 b o h3b] at hn;cases hn
 ·simp only [hpU] at hb'
  split at hb'
  ·rename_i o' ho';cases hb';exact s1 b _ ho'
  ·exact s2 b o (s4 b o hb')
 ·simp only [hpU]
  rcases d b with hn|hn
  ·rw [hn];exact hb'
  ·rw [s4 b o hb'] at hn;cases hn
theorem SatL.tail {A:HP}{Γ:List HP}{h:PH}(hh:SatL (A::Γ) h):SatL Γ h:=by
 obtain⟨h1,h2,d,s1,s2,ha,hg⟩:=hh;exact hg.sub s2
theorem SatL.cons_mono {A A':HP}{Γ Γ':List HP}{h:PH}(ha:∀ h,A h→A' h) (hg:∀ h,SatL Γ h→SatL Γ' h) (hh:SatL (A::Γ) h):SatL (A'::Γ') h:=by
 obtain⟨h1,h2,d,s1,s2,a,g⟩:=hh;exact⟨h1,h2,d,s1,s2,ha _ a,hg _ g⟩
theorem SatL.focus {Γ:List HP}:∀ (i:Nat) {A:HP}{h:PH},Γ[i]? = some A→SatL Γ h→SatL (A::Γ.eraseIdx i) h:=by
 induction Γ with
 | nil=>intro i A h hi;simp at hi
 | cons B Γ ih =>
  intro i A h hi hh
  cases i with
  | zero=>simp only [List.getElem?_cons_zero,Option.some.injEq] at hi;subst hi;exact hh
  | succ i =>
   simp only [List.getElem?_cons_succ] at hi
   exact (SatL.cons_mono (fun _ h=>h) (fun _ h=>ih i hi h) hh).swap
theorem SatL.back {Γ:List HP}:∀ (i:Nat) {A A':HP}{h:PH},Γ[i]? = some A→SatL (A'::Γ.eraseIdx i) h→SatL (Γ.set i A') h:=by
 induction Γ with
 | nil=>intro i A A' h hi;simp at hi
 | cons B Γ ih =>
  intro i A A' h hi hh
  cases i with
  | zero=>exact hh
  | succ i =>
   simp only [List.getElem?_cons_succ] at hi
   exact SatL.cons_mono (fun _ h=>h) (fun _ h=>ih i hi h) (SatL.swap hh)
theorem SatL.write {A A':HP}{Γ:List HP}{h:PH}{b:Nat}{o':Obj}(hh:SatL (A::Γ) h) (hw:∀ h1,Sub h1 h→A h1→(∃ o,h1 b=some o)∧A' (hpS h1 b o')):SatL (A'::Γ) (hpS h b o'):=by
 obtain⟨h1,h2,d,s1,s2,a,g⟩:=hh
 obtain⟨⟨o,ho⟩,ha'⟩:=hw h1 s1 a
 have hb2:h2 b=none:=(d b).resolve_left (by rw [ho];simp)
 refine⟨hpS h1 b o',h2,fun x => ?_,fun x y hx => ?_,fun x y hx => ?_,ha',g⟩
 ·by_cases hxb:x=b
  ·subst hxb;exact .inr hb2
  ·simpa [hpS,hxb] using d x
 ·simp only [hpS] at hx ⊢
  split
  ·rename_i hxb;rw [if_pos hxb] at hx;exact hx
  ·rename_i hxb;rw [if_neg hxb] at hx;exact s1 x y hx
 ·have hxb:x≠b:=fun e=>by subst e;rw [hb2] at hx;cases hx
  simp only [hpS,if_neg hxb];exact s2 x y hx
theorem SatL.new {A:HP}{Γ:List HP}{h:PH}{b:Nat}{o:Obj}(hb:h b=none) (hh:SatL Γ h) (ha:A (fun x=>if x=b then some o else none)):SatL (A::Γ) (hpS h b o):=by
 refine⟨_,h,fun x => ?_,fun x y hx => ?_,fun x y hx => ?_,ha,hh⟩
 ·by_cases hxb:x=b
  ·subst hxb;exact .inr hb
  ·left;simp [hxb]
 ·by_cases hxb:x=b
  ·simp only [hxb,if_true] at hx;simpa [hpS,hxb] using hx
  ·simp [hxb] at hx
 ·have hxb:x≠b:=fun e=>by subst e;rw [hb] at hx;cases hx
  simp only [hpS,if_neg hxb];exact hx
def newH (w0 w:World):PH:=fun b=>if b<w0.heap.size then none else w.heap[b]?
structure Sat (w0 w:World) (Γ:List HP):Prop where
 below:Below w0.heap.size w0 w
 sat:SatL Γ (newH w0 w)
theorem Sat.start (w:World):Sat w w []:=⟨Below.refl _ _,trivial⟩
theorem Sat.drew {w0 w:World}{Γ:List HP}(h:Sat w0 w Γ):Sat w0 { w with drawn:=w.drawn+1 } Γ:=⟨h.below.trans ⟨rfl,rfl,rfl,Nat.le_refl _,fun _ _=>rfl⟩,h.sat⟩
theorem Sat.tail {w0 w:World}{A:HP}{Γ:List HP}(h:Sat w0 w (A::Γ)):Sat w0 w Γ:=⟨h.below,h.sat.tail⟩
theorem Sat.swap {w0 w:World}{A B:HP}{Γ:List HP}(h:Sat w0 w (A::B::Γ)):Sat w0 w (B::A::Γ):=⟨h.below,h.sat.swap⟩
theorem Sat.focus {w0 w:World}{Γ:List HP}(i:Nat) {A:HP}(hi:Γ[i]? = some A) (h:Sat w0 w Γ):Sat w0 w (A::Γ.eraseIdx i):=⟨h.below,h.sat.focus i hi⟩
theorem Sat.back {w0 w:World}{Γ:List HP}(i:Nat) {A A':HP}(hi:Γ[i]? = some A) (h:Sat w0 w (A'::Γ.eraseIdx i)):Sat w0 w (Γ.set i A'):=⟨h.below,h.sat.back i hi⟩
theorem Sat.mono {w0 w:World}{A A':HP}{Γ:List HP}(ha:∀ h,A h→A' h) (h:Sat w0 w (A::Γ)):Sat w0 w (A'::Γ):=⟨h.below,h.sat.cons_mono ha fun _ h=>h⟩
theorem Sat.tailMono {w0 w:World}{A:HP}{Γ Γ':List HP}(hg:∀ h,SatL Γ h→SatL Γ' h) (h:Sat w0 w (A::Γ)):Sat w0 w (A::Γ'):=⟨h.below,h.sat.cons_mono (fun _ h=>h) hg⟩
theorem Sat.call {w0 w w':World}{Γ Δ:List HP}(h:Sat w0 w Γ) (k:Sat w w' Δ):Sat w0 w' (Δ++Γ):=by
 have hsz:w0.heap.size≤w.heap.size:=h.below.size
 refine⟨h.below.trans (k.below.mono hsz),?_⟩
 have key:∀ (Δ:List HP) (g:PH),Sub g (newH w w')→SatL Δ g→SatL (Δ++Γ) (hpU g (newH w0 w)):=by
  intro Δ
  induction Δ with
  | nil =>
   intro g hg _
   refine h.sat.sub fun b o hb => ?_
   simp only [hpU]
   cases hgb:g b with
   | none=>exact hb
   | some o' =>
    have:=hg b o' hgb
    simp only [newH] at this hb
    split at this
    ·cases this
    ·split at hb
     ·cases hb
     ·rename_i h1 h2
      rw [Array.getElem?_eq_none (by omega)] at hb;cases hb
  | cons A Δ ih =>
   intro g hg ⟨h1,h2,d,s1,s2,ha,hr⟩
   refine⟨h1,hpU h2 (newH w0 w),fun b => ?_,fun b o hb => ?_,fun b o hb => ?_,ha,ih h2 (s2.trans hg) hr⟩
   ·cases h1b:h1 b with
    | none=>exact .inl rfl
    | some o =>
     right
     have h2b:h2 b=none:=(d b).resolve_left (by rw [h1b];simp)
     have:=hg b o (s1 b o h1b)
     simp only [hpU,h2b,newH] at this ⊢
     split at this
     ·cases this
     ·split
      ·rfl
      ·exact Array.getElem?_eq_none (by omega)
   ·simp only [hpU];rw [s1 b o hb]
   ·simp only [hpU] at hb ⊢
    split at hb
    ·rename_i o' ho';rw [s2 b o' ho'];exact hb
    ·cases hgb:g b with
     | none=>exact hb
     | some o' =>
      have:=hg b o' hgb
      simp only [newH] at this hb
      split at this
      ·cases this
      ·split at hb
       ·cases hb
       ·rw [Array.getElem?_eq_none (by omega)] at hb;cases hb
 refine (key Δ (newH w w') (Sub.refl _) k.sat).sub fun b o hb => ?_
 simp only [hpU,newH] at hb ⊢
 by_cases h1:b<w.heap.size
 ·simp only [h1,if_true] at hb
  split at hb
  ·cases hb
  ·rename_i h2;rw [if_neg h2,k.below.block b h1];exact hb
 ·simp only [h1,if_false] at hb
  have h2:¬b<w0.heap.size:=by omega
  rw [if_neg h2]
  split at hb
  ·rename_i o' ho';rw [ho'];exact hb
  ·rename_i hn;rw [if_neg h2,Array.getElem?_eq_none (by omega)] at hb;cases hb
theorem Sat.call0 {w0 w w':World}{Γ:List HP}(h:Sat w0 w Γ) (k:Sat w w' []):Sat w0 w' Γ:=h.call k
theorem Sat.call1 {w0 w w':World}{A:HP}{Γ:List HP}(h:Sat w0 w Γ) (k:Sat w w' [A]):Sat w0 w' (A::Γ):=h.call k
theorem Sat.call2 {w0 w w':World}{A B:HP}{Γ:List HP}(h:Sat w0 w Γ) (k:Sat w w' [A,B]):Sat w0 w' (A::B::Γ):=h.call k
def putB (w:World) (b:Nat) (o:Obj):World:={ w with heap:=w.heap.setIfInBounds b o }
theorem Sat.put {w0 w:World}{A A':HP}{Γ:List HP}{b:Nat}{o':Obj}(h:Sat w0 w (A::Γ))
  (hw:∀ h1,Sub h1 (newH w0 w)→A h1→(∃ o,h1 b=some o)∧A' (hpS h1 b o')):Sat w0 (putB w b o') (A'::Γ):=by
 obtain⟨h1,_,_,s1,_,a,_⟩:=id h.sat
 obtain⟨⟨o,ho⟩,_⟩:=hw h1 s1 a
 have hnew:=s1 b o ho
 simp only [newH] at hnew
 split at hnew
 ·cases hnew
 ·rename_i hb
  have hbl:b<w.heap.size:=(Array.getElem?_eq_some_iff.1 hnew).1
  refine⟨h.below.trans ⟨rfl,rfl,rfl,by simp [putB],fun k hk => ?_⟩,(h.sat.write hw).sub fun x y hx => ?_⟩
  ·simp only [putB];rw [Array.getElem?_setIfInBounds_ne (by omega)]
  ·simp only [hpS,newH] at hx ⊢
   split at hx
   ·rename_i hxb;subst hxb;rw [if_neg hb];simpa [putB,hbl] using hx
   ·rename_i hxb
    split
    ·rename_i h2;rw [if_pos h2] at hx;exact hx
    ·rename_i h2;rw [if_neg h2] at hx;simp only [putB];rw [Array.getElem?_setIfInBounds_ne (Ne.symm hxb)];exact hx
def pushW (w:World) (o:Obj):World:={ w with heap:=w.heap.push o }
theorem Sat.push {w0 w:World}{A:HP}{Γ:List HP}{o:Obj}(h:Sat w0 w Γ) (ha:A (fun x=>if x=w.heap.size then some o else none)):Sat w0 (pushW w o) (A::Γ):=by
 have hsz:=h.below.size
 refine⟨h.below.trans ⟨rfl,rfl,rfl,by simp [pushW],fun k hk => ?_⟩,?_⟩
 ·simp only [pushW];rw [Array.getElem?_push,if_neg (by omega)]
 ·refine (SatL.new (b:=w.heap.size) (o:=o) ?_ h.sat ha).sub fun x y hx => ?_
  ·simp only [newH];split
   ·rfl
   ·simp
  ·simp only [hpS,newH] at hx ⊢
   split at hx
   ·rename_i hxb;subst hxb;rw [if_neg (by omega)];simp only [pushW];rw [Array.getElem?_push,if_pos rfl];exact hx
   ·rename_i hxb
    split
    ·rename_i h2;rw [if_pos h2] at hx;exact hx
    ·rename_i h2;rw [if_neg h2] at hx;simp only [pushW];rw [Array.getElem?_push,if_neg (by omega)];exact hx
theorem Sat.at {w0 w:World}{Γ:List HP}(h:Sat w0 w Γ) (i:Nat) {A:HP}(hi:Γ[i]? = some A):∃ h1,(∀ b o,h1 b=some o→w.heap[b]? = some o∧w0.heap.size≤b)∧A h1:=by
 obtain⟨h1,_,_,s1,_,a,_⟩:=(h.focus i hi).sat
 refine⟨h1,fun b o hb => ?_,a⟩
 have:=s1 b o hb
 simp only [newH] at this
 split at this
 ·cases this
 ·exact⟨this,by omega⟩
def Box (p:Addr) (t:TypeId) (cells:List Value):HP:=fun h=>p.off=0∧p.spot=none∧h p.block=some (.cells cells.toArray t (0,0))
def big:Nat:=9223372036854775807
def Own (s:Value) (e:TypeId) (sz:Nat) (vs:List Value):HP:=fun h =>
 (s=.slice none 0 0∧vs=[]) ∨
 ∃ b off n cap pre post,s=.slice (some ⟨b,off,none⟩) n cap∧pre.length=off∧vs.length=n*sz∧n≤cap∧n≤big∧(cap-n)*sz≤post.length∧h b=some (.cells (pre++vs++post).toArray e (0,0))
def RSl (w:World) (s:Value) (sz:Nat) (vs:List Value):Prop :=
 ∃ a n cap,s=.slice a n cap∧vs.length=n*sz∧(n≤cap∧n≤big)∧∀ i v,vs[i]? = some v→∃ p,a=some p∧p.spot=none∧w.cell? ⟨p.block,p.off+i,none⟩=some v
def sadr (s:Value) (k:Nat):Addr:=match s with|.slice (some p) _ _=>⟨p.block,p.off+k,none⟩|_=>⟨0,0,none⟩
def slen (s:Value):Nat:=match s with|.slice _ n _=>n|_=>0
theorem cell_of_heap {w:World}{b:Nat}{cs:List Value}{t:TypeId}{f:Nat × Nat}(h:w.heap[b]? = some (.cells cs.toArray t f)) (k:Nat):w.cell? ⟨b,k,none⟩=cs[k]? := by
 simp [World.cell?,h]
theorem frozen_of_heap {w:World}{b:Nat}{cs:Array Value}{t:TypeId}(h:w.heap[b]? = some (.cells cs t (0,0))) (k:Nat):w.frozen? ⟨b,k,none⟩=false:=by
 simp [World.frozen?,h]
theorem RSl.below {w0 w:World}{s:Value}{sz:Nat}{vs:List Value}(h:RSl w0 s sz vs) (hb:Below w0.heap.size w0 w):RSl w s sz vs:=by
 obtain⟨a,n,cap,hs,hl,hbig,hc⟩:=h
 refine⟨a,n,cap,hs,hl,hbig,fun i v hv => ?_⟩
 obtain⟨p,hp,hsp,hcell⟩:=hc i v hv
 refine⟨p,hp,hsp,?_⟩
 have hlt:p.block<w0.heap.size:=by
  rcases Nat.lt_or_ge p.block w0.heap.size with h|h
  ·exact h
  ·simp [World.cell?,Array.getElem?_eq_none h] at hcell
 rw [hb.cell (p:=⟨p.block,p.off+i,none⟩) hlt];exact hcell
theorem RSl.at {w0 w:World}{Γ:List HP}{s:Value}{sz:Nat}{vs:List Value}(h:RSl w0 s sz vs) (hw:Sat w0 w Γ):RSl w s sz vs:=h.below hw.below
theorem Sat.rsl {w0 w:World}{Γ:List HP}(h:Sat w0 w Γ) (i:Nat) {s:Value}{e:TypeId}{sz:Nat}{vs:List Value}(hi:Γ[i]? = some (Own s e sz vs)):RSl w s sz vs:=by
 obtain⟨h1,hs,a⟩:=h.at i hi
 rcases a with ⟨rfl,rfl⟩|⟨b,off,n,cap,pre,post,rfl,hpre,hlen,hnc,hbig,_,hb⟩
 ·exact⟨none,0,0,rfl,by simp,⟨Nat.zero_le _,Nat.zero_le _⟩,by simp⟩
 ·refine⟨_,n,cap,rfl,hlen,⟨hnc,hbig⟩,fun i v hv=>⟨_,rfl,rfl,?_⟩⟩
  change w.cell? ⟨b,off+i,none⟩=some v
  rw [cell_of_heap (hs b _ hb).1]
  have hi':=(List.getElem?_eq_some_iff.1 hv).1
  rw [List.append_assoc,List.getElem?_append_right (by omega),List.getElem?_append_left (by omega)]
  rw [show off+i-pre.length=i from by omega];exact hv
theorem RSl.cell {w:World}{s:Value}{sz:Nat}{vs:List Value}(h:RSl w s sz vs) {k:Nat}{v:Value}(hv:vs[k]? = some v):w.cell? (sadr s k)=some v:=by
 obtain⟨a,n,cap,rfl,_,_,hc⟩:=h
 obtain⟨p,rfl,_,hcell⟩:=hc k v hv
 exact hcell
theorem RSl.len {w:World}{s:Value}{sz:Nat}{vs:List Value}(h:RSl w s sz vs):vs.length=slen s*sz∧slen s≤big:=by
 obtain⟨a,n,cap,rfl,hl,hb,_⟩:=h;exact⟨hl,hb.2⟩
end Go.Sl
/-
  The operations of the model as steps of the generator ('opsW'): what each yields, and what it does to what the call owns.
-/
namespace Go.Sl
def Kept (w w':World):Prop:=w'.heap.size=w.heap.size∧∀ k:Nat,(∀ cs t f,w.heap[k]? ≠ some (Obj.cells cs t f))→w'.heap[k]? = w.heap[k]?
theorem qgK {w:World}{b:Nat}{cs:Array Value}{t:TypeId}{f:Nat × Nat}{o:Obj}(h:w.heap[b]? = some (.cells cs t f)):Kept w (putB w b o) :=
 ⟨by simp [putB],fun k hk=>by
  have hne:b≠k:=fun e=>by subst e;exact hk _ _ _ h
  simp only [putB];rw [Array.getElem?_setIfInBounds_ne hne]⟩
theorem Kept.trans {a b c:World}(h:Kept a b) (k:Kept b c):Kept a c:=⟨k.1.trans h.1,fun i hi=>by
 have:=h.2 i hi
 rw [←this];exact k.2 i (by rw [this];exact hi)⟩
open Go.RowKit (Below)
def sliceB (P:Program) (t e sz by_:Nat):Bool:=(match P.underlying t with|some (.slice e')=>e' == e|_=>false) && (match P.info? e with|some i=>i.size == sz && i.bytes == by_|none=>false)
class SliceT (P:Program) (t:Nat) (e sz by_:outParam Nat):Prop where
 ok:sliceB P t e sz by_=true
def cellB (P:Program) (t:Nat):Bool:=match P.underlying t,P.info? t with|some (.struct _),_|some (.array ..),_=>false|some _,some i=>i.size == 1|_,_=>false
class CellT (P:Program) (t:Nat):Prop where
 ok:cellB P t=true
def aggB (P:Program) (t n:Nat):Bool:=(match P.underlying t with|some (.struct _)|some (.array ..)=>true|_=>false) && (match P.info? t with|some i=>i.size == n|none=>false)
class AggT (P:Program) (t:Nat) (n:outParam Nat):Prop where
 ok:aggB P t n=true
class ZeroT (P:Program) (t:Nat) (zs:outParam (List Value)):Prop where
 ok:((P.info? t).bind (·.zero)).map (·.cells.toList)=some zs
def fieldB (P:Program) (t f off ft:Nat):Bool:=match P.underlying t with|some (.struct fs)=>(match fs[f]? with|some x=>x.offset == off && x.type == ft && (match P.info? x.type with|some i => !(i.size == 0)|none=>false)|none=>false)|_=>false
class FieldT (P:Program) (t f:Nat) (off ft:outParam Nat):Prop where
 ok:fieldB P t f off ft=true
def plainB (P:Program) (t:Nat):Bool:=match P.underlying t with|some (.interface _)|none=>false|some _=>true
class PlainT (P:Program) (t:Nat):Prop where
 ok:plainB P t=true
class IfaceT (P:Program) (t:Nat):Prop where
 ok:(match P.underlying t with|some (.interface _)=>true|_=>false)=true
section
variable {P:Program}
theorem SliceT.und {t e sz by_:Nat}(h:SliceT P t e sz by_):P.underlying t=some (.slice e):=by
 have h:=h.ok
 simp only [sliceB,Bool.and_eq_true] at h
 have h1:=h.1
 split at h1
 ·rename_i e' he;rw [he];simp at h1;rw [h1]
 ·cases h1
theorem SliceT.info {t e sz by_:Nat}(h:SliceT P t e sz by_):∃ i,P.info? e=some i∧i.size=sz∧i.bytes=by_:=by
 have h:=h.ok
 simp only [sliceB,Bool.and_eq_true] at h
 have h2:=h.2
 split at h2
 ·rename_i i hi;simp at h2;exact⟨i,hi,h2.1,h2.2⟩
 ·cases h2
theorem SliceT.size {t e sz by_:Nat}(h:SliceT P t e sz by_) (w:World):(sizeOf e).run P w=.ok sz w:=by
 obtain⟨i,hi,hs,_⟩:=h.info
 simp [sizeOf,typeInfo,hi,hs]
theorem CellT.plain {t:Nat}(h:CellT P t):(∀ w,(isAgg t).run P w=.ok false w)∧∀ w,(sizeOf t).run P w=.ok 1 w:=by
 have h:=h.ok
 simp only [cellB] at h
 split at h
 ·cases h
 ·cases h
 ·rename_i d i h1 h2 hd hi
  refine⟨fun w => ?_,fun w => ?_⟩
  ·simp only [isAgg,Sem.run_bind,run_underlying hd,Result.andThen_ok]
   cases d <;> first|rfl|(exfalso;simp_all)
  ·simp at h;simp [sizeOf,typeInfo,hi,h]
 ·cases h
theorem AggT.agg {t n:Nat}(h:AggT P t n):(∀ w,(isAgg t).run P w=.ok true w)∧∀ w,(sizeOf t).run P w=.ok n w:=by
 have h:=h.ok
 simp only [aggB,Bool.and_eq_true] at h
 obtain⟨h1,h2⟩:=h
 split at h2
 ·rename_i i hi
  simp at h2
  refine⟨fun w => ?_,fun w=>by simp [sizeOf,typeInfo,hi,h2]⟩
  split at h1
  ·rename_i fs hd;simp [isAgg,run_underlying hd]
  ·rename_i a b hd;simp [isAgg,run_underlying hd]
  ·cases h1
 ·cases h2
theorem ZeroT.zero {t:Nat}{zs:List Value}(h:ZeroT P t zs):∃ v,v.cells=zs.toArray∧∀ w,(zeroValue t).run P w=.ok v w:=by
 have h:=h.ok
 cases hi:P.info? t with
 | none=>simp [hi] at h
 | some i =>
  simp only [hi,Option.bind_some] at h
  cases hz:i.zero with
  | none=>simp [hz] at h
  | some v =>
   simp only [hz,Option.map_some,Option.some.injEq] at h
   exact⟨v,by rw [←h],fun w=>by simp [zeroValue,typeInfo,hi,hz]⟩
theorem FieldT.place {t f off ft:Nat}(h:FieldT P t f off ft):∃ fs fld,P.underlying t=some (.struct fs)∧fs[f]? = some fld∧fld.offset=off∧fld.type=ft∧∀ (a:Addr) w,(fieldPlace a fld).run P w=.ok (a.add off) w:=by
 have h:=h.ok
 simp only [fieldB] at h
 split at h
 ·rename_i fs hd
  split at h
  ·rename_i x hx
   simp only [Bool.and_eq_true,beq_iff_eq] at h
   refine⟨fs,x,hd,hx,h.1.1,h.1.2,fun a w => ?_⟩
   have h2:=h.2
   split at h2
   ·rename_i i hi
    simp at h2
    simp [fieldPlace,sizeOf,typeInfo,hi,h2,h.1.1]
   ·cases h2
  ·cases h
 ·cases h
theorem PlainT.und {t:Nat}(h:PlainT P t):∃ d,P.underlying t=some d∧∀ ms,d≠.interface ms:=by
 have h:=h.ok
 simp only [plainB] at h
 split at h
 ·cases h
 ·cases h
 ·rename_i d hn hd;exact⟨d,hd,fun ms e=>hn ms e⟩
theorem IfaceT.und {t:Nat}(h:IfaceT P t):P.underlying t=some (.interface (P.methodsAt t)):=by
 have h:=h.ok
 split at h
 ·rename_i ms hd;simp [Program.methodsAt,hd]
 ·cases h
theorem qcH {n:Int}(h0 : -9223372036854775808≤n) (h1:n≤9223372036854775807):IntKind.i64.wrap n=n:=by rw [IntKind.wrap_i64];omega
section
variable {ops:Array Oper}{K:Fr→World→Prop}{r:List Oper}{ρ:Fr}{w:World}{d:Nat}{ty:TypeId}{pos:String}{af:Array Edge}{g:Option (Nat × Bool)}{dst:Option Nat}
theorem qcI (h:K ρ w):opsW P ops K [] ρ w:=h
theorem qaw {op:Op}{v:Value}(hc:cls P op=.pure) (hv:PureV P ⟨some d,op,ty,pos,af,none⟩ ρ v) (h:opsW P ops K r (upd ρ d v) w):opsW P ops K (⟨some d,op,ty,pos,af,none⟩::r) ρ w:=by
 simp only [opsW,opV,hc];exact⟨v,hv,h⟩
theorem qaE {op:Op}{v:Value}(hc:cls P op=.read) (hv:ReadV P ⟨some d,op,ty,pos,af,none⟩ ρ w v) (h:opsW P ops K r (upd ρ d v) w):opsW P ops K (⟨some d,op,ty,pos,af,none⟩::r) ρ w:=by
 simp only [opsW,opV,hc];exact⟨v,hv,h⟩
theorem qat {op:Op}(hc:cls P op=.eff) (h:opW P ⟨dst,op,ty,pos,af,none⟩ ρ w fun v w'=>opsW P ops K r (updo ρ dst v) w'):opsW P ops K (⟨dst,op,ty,pos,af,none⟩::r) ρ w:=by
 simp only [opsW,opV,hc];exact h
def gv (c:Bool) (v:Value):Value:=bif c then v else undef
theorem andL {a b:Bool}(h:(a && b)=true):a=true:=(Bool.and_eq_true _ _ ▸ h).1
theorem qag {c:Bool}{v:Value}(h:c=true):gv c v=v:=by rw [h];rfl
def Gd (v:Value) (want c:Bool):Prop:=asks v want=c
theorem qhJ (b want:Bool):Gd (.bool b) want (b == want):=rfl
theorem Gd_gv (c b want:Bool):Gd (gv c (.bool b)) want (c && (b == want)):=by cases c <;> rfl
theorem qev {op:Op}{j:Nat}{want c:Bool}{t:Nat}{v:Value}(hc:cls P op=.pure) (hj:gslot ops j=some t) (hg:Gd (ρ t) want c)
  (hv:c=true→PureV P ⟨some d,op,ty,pos,af,none⟩ ρ v) (h:opsW P ops K r (upd ρ d (gv c v)) w):opsW P ops K (⟨some d,op,ty,pos,af,some (j,want)⟩::r) ρ w:=by
 simp only [opsW,opV,hc,guardB,hj]
 unfold Gd at hg
 rw [hg]
 refine⟨fun h1=>⟨v,hv h1,?_⟩,fun h1 => ?_⟩
 ·rw [h1] at h;exact h
 ·rw [h1] at h;exact h
theorem qew {op:Op}{j:Nat}{want c:Bool}{t:Nat}{v:Value}(hc:cls P op=.read) (hj:gslot ops j=some t) (hg:Gd (ρ t) want c)
  (hv:c=true→ReadV P ⟨some d,op,ty,pos,af,none⟩ ρ w v) (h:opsW P ops K r (upd ρ d (gv c v)) w):opsW P ops K (⟨some d,op,ty,pos,af,some (j,want)⟩::r) ρ w:=by
 simp only [opsW,opV,hc,guardB,hj]
 unfold Gd at hg
 rw [hg]
 refine⟨fun h1=>⟨v,hv h1,?_⟩,fun h1 => ?_⟩
 ·rw [h1] at h;exact h
 ·rw [h1] at h;exact h
theorem qgL {op:Op}{j:Nat}{want:Bool}{t:Nat}(hj:gslot ops j=some t) (hg:asks (ρ t) want=true)
  (h1:opsW P ops K (⟨dst,op,ty,pos,af,none⟩::r) ρ w):opsW P ops K (⟨dst,op,ty,pos,af,some (j,want)⟩::r) ρ w:=by
 simp only [opsW,guardB,hj] at h1 ⊢
 rw [hg]
 exact⟨fun _=>h1,fun h=>by cases h⟩
theorem qgM {op:Op}{j:Nat}{want:Bool}{t:Nat}(hj:gslot ops j=some t) (hg:asks (ρ t) want=false)
  (h1:opsW P ops K r (updo ρ dst undef) w):opsW P ops K (⟨dst,op,ty,pos,af,some (j,want)⟩::r) ρ w:=by
 simp only [opsW,guardB,hj]
 rw [hg]
 exact⟨fun h=>(by cases h),fun _=>h1⟩
variable {x y z:Operand}{t t':TypeId}
theorem qk8 {v:Value}(hx:evl ρ x=v):PureV P ⟨dst,.move x,ty,pos,af,g⟩ ρ v:=fun w=>by simp [execOp,hx]
theorem qex {v:Value}(hx:evl ρ x=v):PureV P ⟨dst,.assign x,ty,pos,af,g⟩ ρ v:=fun w=>by simp [execOp,hx]
theorem qk9 {b:Bool}{u v:Value}(hz:evl ρ z=.bool b) (hx:evl ρ x=u) (hy:evl ρ y=v):PureV P ⟨dst,.pick z x y,ty,pos,af,g⟩ ρ (bif b then u else v):=fun w=>by
 cases b <;> simp [execOp,hx,hy,hz,asBool]
theorem pv_or {b b':Bool}(hz:evl ρ z=.bool b) (hx:evl ρ x=.bool true) (hy:evl ρ y=gv (b == false) (.bool b')):PureV P ⟨dst,.pick z x y,ty,pos,af,g⟩ ρ (.bool (b || b')):=fun w=>by
 cases b <;> simp [execOp,hx,hy,hz,asBool,gv]
theorem qnh {b b':Bool}(hz:evl ρ z=.bool b) (hx:evl ρ x=gv (b == true) (.bool b')) (hy:evl ρ y=.bool false):PureV P ⟨dst,.pick z x y,ty,pos,af,g⟩ ρ (.bool (b && b')):=fun w=>by
 cases b <;> simp [execOp,hx,hy,hz,asBool,gv]
theorem qos {c b b':Bool}(hg:c=true) (hz:evl ρ z=gv c (.bool b)) (hx:evl ρ x=.bool true) (hy:evl ρ y=gv (c && (b == false)) (.bool b')):PureV P ⟨dst,.pick z x y,ty,pos,af,g⟩ ρ (.bool (b || b')):=fun w=>by
 subst hg;cases b <;> simp [execOp,hx,hy,hz,asBool,gv]
theorem qn0 {c b b':Bool}(hg:c=true) (hz:evl ρ z=gv c (.bool b)) (hx:evl ρ x=gv (c && (b == true)) (.bool b')) (hy:evl ρ y=.bool false):PureV P ⟨dst,.pick z x y,ty,pos,af,g⟩ ρ (.bool (b && b')):=fun w=>by
 subst hg;cases b <;> simp [execOp,hx,hy,hz,asBool,gv]
variable {k:IntKind}{a b:Int}
theorem qni (hx:evl ρ x=.int k a) (hy:evl ρ y=.int k b):PureV P ⟨dst,.binOp .lss t x y t',ty,pos,af,g⟩ ρ (.bool (decide (a<b))):=fun w=>by simp [execOp,eqGuard,binOp,Op.intCmp,hx,hy]
theorem qnj (hx:evl ρ x=.int k a) (hy:evl ρ y=.int k b):PureV P ⟨dst,.binOp .leq t x y t',ty,pos,af,g⟩ ρ (.bool (decide (a≤b))):=fun w=>by simp [execOp,eqGuard,binOp,Op.intCmp,hx,hy]
theorem qnk (hx:evl ρ x=.int k a) (hy:evl ρ y=.int k b):PureV P ⟨dst,.binOp .gtr t x y t',ty,pos,af,g⟩ ρ (.bool (decide (b<a))):=fun w=>by simp [execOp,eqGuard,binOp,Op.intCmp,hx,hy]
theorem qnl (hx:evl ρ x=.int k a) (hy:evl ρ y=.int k b):PureV P ⟨dst,.binOp .geq t x y t',ty,pos,af,g⟩ ρ (.bool (decide (b≤a))):=fun w=>by simp [execOp,eqGuard,binOp,Op.intCmp,hx,hy]
theorem qnm (hx:evl ρ x=.int k a) (hy:evl ρ y=.int k b):PureV P ⟨dst,.binOp .eql t x y t',ty,pos,af,g⟩ ρ (.bool (decide (a=b))):=fun w=>by simp [execOp,eqGuard,binOp,Op.intCmp,hx,hy];rfl
theorem qnn (hx:evl ρ x=.int k a) (hy:evl ρ y=.int k b):PureV P ⟨dst,.binOp .neq t x y t',ty,pos,af,g⟩ ρ (.bool (!decide (a=b))):=fun w=>by simp [execOp,eqGuard,binOp,Op.intCmp,hx,hy];rfl
theorem qno (hx:evl ρ x=.int .i64 a) (hy:evl ρ y=.int .i64 b) (h0 : -9223372036854775808≤a+b) (h1:a+b≤9223372036854775807):PureV P ⟨dst,.binOp .add t x y t',ty,pos,af,g⟩ ρ (.int .i64 (a+b)):=fun w=>by simp [execOp,eqGuard,binOp,Op.intArith,hx,hy,qcH h0 h1]
theorem qnp (hx:evl ρ x=.int .i64 a) (hy:evl ρ y=.int .i64 b) (h0 : -9223372036854775808≤a-b) (h1:a-b≤9223372036854775807):PureV P ⟨dst,.binOp .sub t x y t',ty,pos,af,g⟩ ρ (.int .i64 (a-b)):=fun w=>by simp [execOp,eqGuard,binOp,Op.intArith,hx,hy,qcH h0 h1]
theorem qnq (hx:evl ρ x=.int .i64 a) (hy:evl ρ y=.int .i64 b) (h0 : -9223372036854775808≤a*b) (h1:a*b≤9223372036854775807):PureV P ⟨dst,.binOp .mul t x y t',ty,pos,af,g⟩ ρ (.int .i64 (a*b)):=fun w=>by simp [execOp,eqGuard,binOp,Op.intArith,hx,hy,qcH h0 h1]
theorem qnr {b:Bool}(hx:evl ρ x=.bool b):PureV P ⟨dst,.unOp .not t x,ty,pos,af,g⟩ ρ (.bool !b):=fun w=>by simp [execOp,Op.unary,hx]
theorem qns (hx:evl ρ x=.int .i64 a) (h0 : -9223372036854775808≤0-a) (h1:0-a≤9223372036854775807):PureV P ⟨dst,.unOp .neg t x,ty,pos,af,g⟩ ρ (.int .i64 (0-a)):=fun w=>by
 have:=qcH h0 h1
 simp only [execOp,Op.unary,hx,Op.intArith,Sem.run_bind,Sem.run_pure,Result.andThen_ok,this]
theorem qfj {u:TypeId}{v:Value} [T:IfaceT P t] (hx:evl ρ x=.iface u v) (hy:evl ρ y=.nilIface):PureV P ⟨dst,.binOp .neq t x y t',ty,pos,af,g⟩ ρ (.bool true):=fun w=>by simp [execOp,eqGuard,hx,hy,run_neq_held_nil w t u v T.und]
theorem qfk {u:TypeId}{v:Value} [T:IfaceT P t] (hx:evl ρ x=.iface u v) (hy:evl ρ y=.nilIface):PureV P ⟨dst,.binOp .eql t x y t',ty,pos,af,g⟩ ρ (.bool false):=fun w=>by simp [execOp,eqGuard,hx,hy,run_eql_held_nil w t u v T.und]
theorem qgN [T:IfaceT P t] (hx:evl ρ x=.nilIface):PureV P ⟨dst,.binOp .neq t x (.const .nilIface) t',ty,pos,af,g⟩ ρ (.bool false):=fun w=>by
 have h1:=run_neq_nil_nil w t T.und
 simp only [execOp,eqGuard,hx]
 cases x <;> simp [evl,h1]
theorem qgO [T:IfaceT P t] (hx:evl ρ x=.nilIface):PureV P ⟨dst,.binOp .eql t x (.const .nilIface) t',ty,pos,af,g⟩ ρ (.bool true):=fun w=>by
 have h1:=run_eql_nil_nil w t T.und
 simp only [execOp,eqGuard,hx]
 cases x <;> simp [evl,h1]
theorem qiJ {v:Value} [T:PlainT P t] (hx:evl ρ x=v):PureV P ⟨dst,.makeInterface t x,ty,pos,af,g⟩ ρ (.iface t v):=fun w=>by
 obtain⟨dd,hd,hn⟩:=T.und
 simp only [execOp,Instr.makeInterface,Sem.run_bind,run_underlying hd,Result.andThen_ok,hx]
 cases dd <;> first|rfl|exact absurd rfl (hn _)
theorem qfl {vs:Array Value}{i:Nat}{v:Value}(hx:evl ρ x=.tuple vs) (hi:vs[i]? = some v):PureV P ⟨dst,.extract x i,ty,pos,af,g⟩ ρ v:=fun w=>by simp [execOp,Instr.extract,hx,hi]
theorem qb1 {f off ft:Nat}{p:Addr} [T:FieldT P t f off ft] (hx:evl ρ x=.pointer (some p)):PureV P ⟨dst,.fieldAddr t x f,ty,pos,af,g⟩ ρ (.pointer (some (p.add off))):=fun w=>by
 obtain⟨fs,fld,hd,hf,ho,_,hp⟩:=T.place
 simp [execOp,Instr.fieldAt,Instr.sureAddr,hx,run_underlying hd,hf,hp]
theorem qiK {f off ft:Nat}{cs:Array Value}{v:Value} [T:FieldT P t f off ft] [C:CellT P ft] (hx:evl ρ x=.agg cs) (hv:cs[off]? = some v):PureV P ⟨dst,.field t x f,ty,pos,af,g⟩ ρ v:=fun w=>by
 obtain⟨fs,fld,hd,hf,ho,hft,_⟩:=T.place
 simp [execOp,Instr.field,hx,run_underlying hd,hf,part,asAgg,hft,C.plain.1,ho,hv]
theorem qey {p:Addr}(hx:evl ρ x=.pointer (some p)):PureV P ⟨dst,.nilCheck x,ty,pos,af,g⟩ ρ (.pointer (some p)):=fun w=>by simp [execOp,hx]
theorem qdH {u:TypeId}{v:Value}(hx:evl ρ x=.iface u v):PureV P ⟨dst,.nilCheck x,ty,pos,af,g⟩ ρ (.iface u v):=fun w=>by simp [execOp,hx]
end
class Foc (Γ:List HP) (A:HP) (put:HP→List HP):Prop where
 ok:∃ i,Γ[i]? = some A∧∀ A',put A'=Γ.set i A'
theorem Foc.here {A:HP}{Γ:List HP}:Foc (A::Γ) A (fun A'=>A'::Γ):=⟨0,rfl,fun _=>rfl⟩
theorem Foc.there {A B:HP}{Γ:List HP}{put:HP→List HP}(h:Foc Γ A put):Foc (B::Γ) A (fun A'=>B::put A'):=by
 obtain⟨i,hi,hp⟩:=h.ok
 exact⟨i+1,by simpa using hi,fun A'=>by rw [hp A'];rfl⟩
class BoxAt (Γ:List HP) (p:Addr) (t:outParam TypeId) (cells:outParam (List Value)) (put:outParam (HP→List HP)):Prop where
 foc:Foc Γ (Box p t cells) put
instance (priority:=high) box_here {p:Addr}{t:TypeId}{cells:List Value}{Γ:List HP}:BoxAt (Box p t cells::Γ) p t cells (fun A'=>A'::Γ):=⟨Foc.here⟩
instance box_there {B:HP}{p:Addr}{t:TypeId}{cells:List Value}{Γ:List HP}{put:HP→List HP} [h:BoxAt Γ p t cells put]:BoxAt (B::Γ) p t cells (fun A'=>B::put A'):=⟨h.foc.there⟩
attribute [irreducible] gv
structure Ty (α:Type) where
 sz:Nat
 enc:α→List Value
 ok:∀ x,(enc x).length=sz
 dflt:α
def tInt:Ty Int:=⟨1,fun n=>[.int .i64 n],fun _=>rfl,0⟩
def tBool:Ty Bool:=⟨1,fun b=>[.bool b],fun _=>rfl,false⟩
def tVal:Ty Value:=⟨1,fun v=>[v],fun _=>rfl,undef⟩
theorem Ty.len {α:Type}(T:Ty α) (xs:List α):(xs.flatMap T.enc).length=xs.length*T.sz:=by
 induction xs with
 | nil=>simp
 | cons x xs ih=>simp [List.flatMap_cons,T.ok,ih,Nat.add_mul];omega
theorem Ty.get {α:Type}(T:Ty α):∀ (xs:List α) (i k:Nat),i<xs.length→k<T.sz→(xs.flatMap T.enc)[i*T.sz+k]? = (T.enc (xs.getD i T.dflt))[k]?
 | [],i,k,h,_=>by simp at h
 | x::xs,0,k,_,hk=>by
  rw [List.flatMap_cons,Nat.zero_mul,Nat.zero_add,List.getElem?_append_left (by rw [T.ok];exact hk)];rfl
 | x::xs,i+1,k,h,hk=>by
  have hl:=T.ok x
  rw [List.flatMap_cons,List.getElem?_append_right (by rw [hl,Nat.add_mul];omega),hl,show (i+1)*T.sz+k-T.sz=i*T.sz+k from by rw [Nat.add_mul];omega]
  simp only [List.length_cons] at h
  rw [Ty.get T xs i k (by omega) hk];rfl
theorem Ty.set {α:Type}(T:Ty α):∀ (xs:List α) (i k:Nat) (v:Value) (x':α),i<xs.length→k<T.sz→T.enc x'=(T.enc (xs.getD i T.dflt)).set k v →
  (xs.flatMap T.enc).set (i*T.sz+k) v=(xs.set i x').flatMap T.enc
 | [],i,k,v,x',h,_,_=>by simp at h
 | x::xs,0,k,v,x',_,hk,he=>by
  simp only [List.getD_cons_zero] at he
  rw [List.flatMap_cons,Nat.zero_mul,Nat.zero_add,List.set_append_left _ _ (by rw [T.ok];exact hk),List.set_cons_zero,List.flatMap_cons,he]
 | x::xs,i+1,k,v,x',h,hk,he=>by
  have hl:=T.ok x
  simp only [List.length_cons] at h
  rw [List.flatMap_cons,List.set_append_right _ _ (by rw [hl,Nat.add_mul];omega),hl,show (i+1)*T.sz+k-T.sz=i*T.sz+k from by rw [Nat.add_mul];omega,List.set_cons_succ,List.flatMap_cons,
   Ty.set T xs i k v x' (by omega) hk (by simpa using he)]
def RS {α:Type}(T:Ty α) (w:World) (s:Value) (xs:List α):Prop:=RSl w s T.sz (xs.flatMap T.enc)∧xs.length=slen s
def OS {α:Type}(T:Ty α) (e:TypeId) (s:Value) (xs:List α):HP:=fun h=>Own s e T.sz (xs.flatMap T.enc) h∧xs.length=slen s
class OwnAt (Γ:List HP) (s:Value) (α:outParam Type) (T:outParam (Ty α)) (e:outParam TypeId) (xs:outParam (List α)) (put:outParam (HP→List HP)):Prop where
 foc:Foc Γ (OS T e s xs) put
instance (priority:=high) own_here {α:Type}{T:Ty α}{s:Value}{e:TypeId}{xs:List α}{Γ:List HP}:OwnAt (OS T e s xs::Γ) s α T e xs (fun A'=>A'::Γ):=⟨Foc.here⟩
instance own_there {B:HP}{α:Type}{T:Ty α}{s:Value}{e:TypeId}{xs:List α}{Γ:List HP}{put:HP→List HP} [h:OwnAt Γ s α T e xs put]:OwnAt (B::Γ) s α T e xs (fun A'=>B::put A'):=⟨h.foc.there⟩
def eadr {α:Type}(T:Ty α) (s:Value) (i:Nat):Addr:=sadr s (i*T.sz)
theorem RS.at {α:Type}{T:Ty α}{w0 w:World}{Γ:List HP}{s:Value}{xs:List α}(h:RS T w0 s xs) (hw:Sat w0 w Γ):RS T w s xs:=⟨h.1.at hw,h.2⟩
theorem RS.big {α:Type}{T:Ty α}{w:World}{s:Value}{xs:List α}(h:RS T w s xs):xs.length≤9223372036854775807:=by have:=h.1.len.2;rw [h.2];exact this
theorem Sat.rs {α:Type}{T:Ty α}{w0 w:World}{Γ:List HP}(h:Sat w0 w Γ) (i:Nat) {s:Value}{e:TypeId}{xs:List α}(hi:Γ[i]? = some (OS T e s xs)):RS T w s xs:=by
 have h':=(h.focus i hi).mono (A':=Own s e T.sz (xs.flatMap T.enc)) fun _ hh=>hh.1
 obtain⟨h1,_,a⟩:=h.at i hi
 exact⟨h'.rsl 0 rfl,a.2⟩
theorem rsO {α:Type}{T:Ty α}{w0 w:World}{Γ:List HP}{s:Value}{e:TypeId}{xs:List α}{put:HP→List HP} [h:OwnAt Γ s α T e xs put] (hw:Sat w0 w Γ):RS T w s xs:=by
 obtain⟨i,hi,_⟩:=h.foc.ok;exact hw.rs i hi
theorem Sat.nil {α:Type}{T:Ty α}{w0 w:World}{Γ:List HP}{e:TypeId}(h:Sat w0 w Γ):Sat w0 w (OS T e (.slice none 0 0) []::Γ) :=
 ⟨h.below,fun _=>none,newH w0 w,fun _=>.inl rfl,fun _ _ hb=>(by cases hb),Sub.refl _,⟨.inl ⟨rfl,rfl⟩,rfl⟩,h.sat⟩
theorem RS.nil {α:Type}{T:Ty α}{w:World}:RS T w (.slice none 0 0) []:=⟨⟨none,0,0,rfl,by simp,⟨Nat.zero_le _,Nat.zero_le _⟩,by simp⟩,rfl⟩
theorem RS.shape {α:Type}{T:Ty α}{w:World}{s:Value}{xs:List α}(h:RS T w s xs):∃ a cap,s=.slice a xs.length cap:=by
 obtain⟨⟨a,n,cap,rfl,_⟩,hl⟩:=h
 exact⟨a,cap,by rw [hl];rfl⟩
theorem RS.some {α:Type}{T:Ty α}(hT:0<T.sz) {w:World}{s:Value}{xs:List α}(h:RS T w s xs) (hp:0<xs.length):∃ p cap,s=.slice (some p) xs.length cap∧p.spot=none:=by
 obtain⟨⟨a,n,cap,rfl,_,_,hc⟩,hl⟩:=h
 have h0:0<(xs.flatMap T.enc).length:=by rw [T.len];exact Nat.mul_pos hp hT
 obtain⟨p,rfl,hsp,_⟩:=hc 0 _ (List.getElem?_eq_getElem h0)
 exact⟨p,cap,by rw [hl];rfl,hsp⟩
section
variable {ops:Array Oper}{K:Fr→World→Prop}{r:List Oper}{ρ:Fr}{w w0:World}{d:Nat}{ty:TypeId}{pos:String}{af:Array Edge}{g:Option (Nat × Bool)}{dst:Option Nat}{x y z:Operand}{t t':TypeId}{Γ:List HP}
variable {α:Type}{T:Ty α}{s:Value}{xs:List α}
theorem qnt {e sz by_:Nat} [S:SliceT P t e sz by_] (hx:evl ρ x=s) (h:RS T w s xs):PureV P ⟨dst,.call { callee:=.builtin .len,args:=#[x],argTypes:=#[t] },ty,pos,af,g⟩ ρ (.int .i64 xs.length):=fun w=>by
 obtain⟨a,cap,hs⟩:=h.shape
 simp [execOp,resolve,invoke,builtin,Builtin.len_,hx,run_underlying S.und,hs,goInt]
theorem qfW {e sz by_:Nat}{k:IntKind}{j:Int} [S:SliceT P t e sz by_] (hx:evl ρ x=s) (hy:evl ρ y=.int k j) (h:RS T w s xs) (hz:sz=T.sz) (hT:0<T.sz) (h0:0≤j) (h1:j<xs.length) :
  PureV P ⟨dst,.indexAddr t x y,ty,pos,af,g⟩ ρ (.pointer (some (eadr T s j.toNat))):=fun w=>by
 subst hz
 obtain⟨p,cap,hs,hsp⟩:=h.some hT (by omega)
 have hadd:∀ n,p.add n=⟨p.block,p.off+n,none⟩:=fun n=>by
  unfold Addr.add;split
  ·rename_i hn;subst hn;cases p;simp_all
  ·rfl
 simp [execOp,Instr.indexAt,hx,hy,asIntOf,run_underlying S.und,hs,h0,h1,S.size,eadr,sadr,hadd]
theorem qgP {e sz by_:Nat}{k:IntKind}{j:Nat} [S:SliceT P t e sz by_] (hx:evl ρ x=s) (hy:evl ρ y=.int k j) (h:RS T w s xs) (hz:sz=T.sz) (hT:0<T.sz) (h1:j<xs.length) :
  PureV P ⟨dst,.indexAddr t x y,ty,pos,af,g⟩ ρ (.pointer (some (eadr T s j))):=by
 have:=qfW (P:=P) (t:=t) (w:=w) (dst:=dst) (ty:=ty) (pos:=pos) (af:=af) (g:=g) hx hy h hz hT (Int.natCast_nonneg j) (by omega)
 simpa using this
theorem qbz {p:Addr}{v:Value} [C:CellT P t] (hx:evl ρ x=.pointer (some p)) (hv:w.cell? p=some v):ReadV P ⟨dst,.load t x,ty,pos,af,g⟩ ρ w v:=by
 simp [ReadV,execOp,Instr.loadAt,Instr.sureAddr,hx,loadVar,C.plain.1,hv]
theorem qd0 {p:Addr}{n:Nat}{vs:List Value} [A:AggT P t n] (hx:evl ρ x=.pointer (some p)) (hn:vs.length=n) (hv:∀ j v,vs[j]? = some v→w.cell? (p.add j)=some v):ReadV P ⟨dst,.load t x,ty,pos,af,g⟩ ρ w (.agg vs.toArray):=by
 subst hn
 have:=run_loadCells_list (P:=P) (w:=w) p vs hv
 simp [ReadV,execOp,Instr.loadAt,Instr.sureAddr,hx,loadVar,A.agg.1,A.agg.2,this]
theorem qez (h:RS T w s xs) {i k:Nat}{v:Value}(hi:i<xs.length) (hk:k<T.sz) (hv:(T.enc (xs.getD i T.dflt))[k]? = some v):w.cell? ((eadr T s i).add k)=some v:=by
 have h1:=h.1.cell (k:=i*T.sz+k) (v:=v) (by rw [T.get xs i k hi hk];exact hv)
 obtain⟨p,cap,hs,_⟩:=h.some (by omega) (by omega)
 subst hs
 unfold eadr sadr Addr.add at *
 split
 ·rename_i h0;subst h0;simpa using h1
 ·simpa [Nat.add_assoc] using h1
theorem qjy (h:RS T w s xs) {i:Nat}{v:Value}(hi:i<xs.length) (hv:T.enc (xs.getD i T.dflt)=[v]):w.cell? (eadr T s i)=some v:=by
 have hsz:T.sz=1:=by rw [←T.ok (xs.getD i T.dflt),hv];rfl
 have:=qez h hi (k:=0) (by omega) (v:=v) (by rw [hv];rfl)
 simpa [Addr.add] using this
theorem qdu {i:Nat}{v:Value} [C:CellT P t] (hx:evl ρ x=.pointer (some (eadr T s i))) (h:RS T w s xs) (hi:i<xs.length) (hv:T.enc (xs.getD i T.dflt)=[v]):ReadV P ⟨dst,.load t x,ty,pos,af,g⟩ ρ w v :=
 qbz hx (qjy h hi hv)
theorem qaS {i k:Nat}{v:Value} [C:CellT P t] (hx:evl ρ x=.pointer (some ((eadr T s i).add k))) (h:RS T w s xs) (hi:i<xs.length) (hk:k<T.sz) (hv:(T.enc (xs.getD i T.dflt))[k]? = some v):ReadV P ⟨dst,.load t x,ty,pos,af,g⟩ ρ w v :=
 qbz hx (qez h hi hk hv)
theorem qbh {i n:Nat} [A:AggT P t n] (hx:evl ρ x=.pointer (some (eadr T s i))) (h:RS T w s xs) (hi:i<xs.length) (hn:n=T.sz):ReadV P ⟨dst,.load t x,ty,pos,af,g⟩ ρ w (.agg (T.enc (xs.getD i T.dflt)).toArray) :=
 qd0 hx (by rw [T.ok,hn]) fun j v hv=>qez h hi (by rw [←T.ok (xs.getD i T.dflt)];exact (List.getElem?_eq_some_iff.1 hv).1) hv
theorem qau {i k:Nat}{p:Addr}{bt:TypeId}{cells:List Value}{v:Value}(hw:Sat w0 w Γ) (hi:Γ[i]? = some (Box p bt cells)) (hv:cells[k]? = some v):w.cell? (p.add k)=some v:=by
 obtain⟨h1,hs,ho,hsp,hb⟩:=hw.at i hi
 have:=cell_of_heap (hs _ _ hb).1 k
 obtain⟨pb,po,psp⟩:=p
 simp only at ho hsp;subst ho hsp
 unfold Addr.add
 split
 ·rename_i h0;subst h0;rw [this];exact hv
 ·simp only [Nat.zero_add];rw [this];exact hv
theorem qbE {i:Nat}{p:Addr}{bt:TypeId}{cells:List Value}{v:Value}(hw:Sat w0 w Γ) (hi:Γ[i]? = some (Box p bt cells)) (hv:cells[0]? = some v):w.cell? p=some v:=by
 have:=qau hw hi (k:=0) hv
 simpa [Addr.add] using this
theorem qgQ {k:Nat}{p:Addr}{bt:TypeId}{cells:List Value}{v:Value}{put:HP→List HP} [C:CellT P t] (hx:evl ρ x=.pointer (some (p.add k))) (hw:Sat w0 w Γ) (B:BoxAt Γ p bt cells put) (hv:cells[k]? = some v):ReadV P ⟨dst,.load t x,ty,pos,af,g⟩ ρ w v:=by
 obtain⟨i,hi,_⟩:=B.foc.ok;exact qbz hx (qau hw hi hv)
theorem qeA {p:Addr}{bt:TypeId}{cells:List Value}{v:Value}{put:HP→List HP} [C:CellT P t] (hx:evl ρ x=.pointer (some p)) (hw:Sat w0 w Γ) (B:BoxAt Γ p bt cells put) (hv:cells[0]? = some v):ReadV P ⟨dst,.load t x,ty,pos,af,g⟩ ρ w v:=by
 obtain⟨i,hi,_⟩:=B.foc.ok;exact qbz hx (qbE hw hi hv)
theorem qb2 {n:Nat}{p:Addr}{bt:TypeId}{cells:List Value}{put:HP→List HP} [A:AggT P t n] (hx:evl ρ x=.pointer (some p)) (hw:Sat w0 w Γ) (B:BoxAt Γ p bt cells put) (hn:cells.length=n):ReadV P ⟨dst,.load t x,ty,pos,af,g⟩ ρ w (.agg cells.toArray):=by
 obtain⟨i,hi,_⟩:=B.foc.ok;exact qd0 hx hn fun _ _ hv=>qau hw hi hv
theorem qaz {b:Nat}{bt:TypeId}:∀ (vs:List Value) (off i:Nat) (cs:List Value) (w:World),(∀ v∈vs,v.oneCell'=true)→off+i+vs.length≤cs.length→w.heap[b]? = some (.cells cs.toArray bt (0,0)) →
  (storeCells ⟨b,off,none⟩ vs i).run P w=.ok () (putB w b (.cells (cs.take (off+i)++vs++cs.drop (off+i+vs.length)).toArray bt (0,0)))
 | [],off,i,cs,w,_,_,hb=>by
  have:(putB w b (.cells (cs.take (off+i)++[]++cs.drop (off+i+0)).toArray bt (0,0)))=w:=by
   simp only [putB,List.append_nil,Nat.add_zero,List.take_append_drop]
   cases w;simp only [World.mk.injEq,and_true]
   apply Array.ext_getElem?
   intro k
   simp only at hb
   by_cases hk:b=k
   ·subst hk;rw [Array.getElem?_setIfInBounds_self_of_lt (Array.getElem?_eq_some_iff.1 hb).1];exact hb.symm
   ·rw [Array.getElem?_setIfInBounds_ne hk]
  simp only [storeCells,Sem.run_pure,List.length_nil,this]
 | v::vs,off,i,cs,w,hv,hl,hb=>by
  have hadd:(⟨b,off,none⟩:Addr).add i=⟨b,off+i,none⟩:=by unfold Addr.add;split <;> simp_all
  simp only [List.length_cons] at hl
  have hc:w.cell? ⟨b,off+i,none⟩=some cs[off+i]:=by rw [cell_of_heap hb];exact List.getElem?_eq_getElem (by omega)
  have hset:w.setCell ⟨b,off+i,none⟩ v=putB w b (.cells (cs.set (off+i) v).toArray bt (0,0)):=by
   simp only [World.setCell,putB]
   congr 1
   apply Array.ext_getElem?
   intro k
   have hbl:=(Array.getElem?_eq_some_iff.1 hb).1
   by_cases hk:b=k
   ·subst hk;rw [Array.getElem?_modify,if_pos rfl,hb,Array.getElem?_setIfInBounds_self_of_lt hbl];simp
   ·rw [Array.getElem?_modify,if_neg hk,Array.getElem?_setIfInBounds_ne hk]
  simp only [storeCells,Sem.run_bind,hadd,run_store P w _ v .plain (hv v (by simp)),hc,frozen_of_heap hb,Bool.false_eq_true,if_false,Result.andThen_ok,hset]
  have hbl:=(Array.getElem?_eq_some_iff.1 hb).1
  rw [qaz (bt:=bt) vs off (i+1) (cs.set (off+i) v) _ (fun u hu=>hv u (by simp [hu])) (by simp;omega) (by simp [putB,hbl])]
  congr 1
  simp only [putB,Array.setIfInBounds_setIfInBounds]
  congr 4
  have h1:(cs.set (off+i) v).take (off+(i+1))=cs.take (off+i)++[v]:=by
   rw [show off+(i+1)=off+i+1 from by omega,List.take_succ_eq_append_getElem (by simp;omega),List.take_set_of_le (by omega)]
   simp
  have h2:(cs.set (off+i) v).drop (off+(i+1)+vs.length)=cs.drop (off+i+(vs.length+1)):=by
   rw [List.drop_set_of_lt (by omega)];congr 1;omega
  rw [h1,h2];simp
theorem qbl {p:Addr}{v:Value}{K:Value→World→Prop}(hx:evl ρ x=.pointer (some p)) (hy:evl ρ y=v) (hsz:∀ w,(sizeOf t).run P w=.ok v.cells.size w) {w':World}(hr:(storeCells p v.cells.toList).run P w=.ok () w') (h:K undef w') :
  opW P ⟨none,.store t x y,ty,pos,af,none⟩ ρ w K:=by
 simp only [opW,execOp,hx,hy,Instr.storeAt,Instr.sureAddr,Sem.run_bind,Sem.run_pure,Result.andThen_ok,storeVar,hsz,ne_eq,not_true,if_false,hr,opUpon]
 exact h
theorem qiL {k:Nat}{p:Addr}{bt:TypeId}{cells:List Value}{v:Value}{put:HP→List HP} [C:CellT P t] (hx:evl ρ x=.pointer (some (p.add k))) (hy:evl ρ y=v) (hv:v.oneCell'=true) (hw:Sat w0 w Γ) (B:BoxAt Γ p bt cells put) (hk:k<cells.length)
  (h:∀ w',Sat w0 w' (put (Box p bt (cells.set k v)))→opsW P ops K r ρ w'):opsW P ops K (⟨none,.store t x y,ty,pos,af,none⟩::r) ρ w:=by
 refine qat rfl ?_
 obtain⟨i,hi,hput⟩:=B.foc.ok
 simp only [hput] at h
 obtain⟨h1,hs,ho,hsp,hb⟩:=hw.at i hi
 obtain⟨pb,po,psp⟩:=p
 simp only at ho hsp hb;subst ho hsp
 have hadd:(⟨pb,0,none⟩:Addr).add k=⟨pb,k,none⟩:=by unfold Addr.add;split <;> simp_all
 rw [hadd] at hx
 have hc:v.cells=#[v]:=by cases v <;> first|rfl|(simp [Value.oneCell'] at hv)
 refine qbl hx hy (fun w=>by rw [hc];exact C.plain.2 w) (w':=putB w pb (.cells (cells.set k v).toArray bt (0,0))) ?_ ?_
 ·rw [hc]
  have:=qaz (P:=P) (b:=pb) [v] k 0 cells w (by simpa using hv) (by simp;omega) (hs _ _ hb).1
  rw [show #[v].toList=[v] from rfl,this]
  congr 4
  simp only [Nat.add_zero,List.length_cons,List.length_nil,Nat.zero_add]
  rw [List.set_eq_take_append_cons_drop]
  simp [hk]
 ·refine h _ ((Sat.put (hw.focus i hi) fun h1 _ ⟨_,_,hb⟩=>⟨⟨_,hb⟩,rfl,rfl,by simp [hpS]⟩).back i hi)
theorem qla {k:Nat}{p:Addr}{bt:TypeId}{cells:List Value}{v:Value}{put:HP→List HP} [C:CellT P t] (hx:evl ρ x=.pointer (some (p.add k))) (hy:evl ρ y=v) (hv:v.oneCell'=true) (hw:Sat w0 w Γ) (B:BoxAt Γ p bt cells put) (hk:k<cells.length)
  (h:∀ w',Sat w0 w' (put (Box p bt (cells.set k v)))→Kept w w'→opsW P ops K r ρ w'):opsW P ops K (⟨none,.store t x y,ty,pos,af,none⟩::r) ρ w:=by
 refine qat rfl ?_
 obtain⟨i,hi,hput⟩:=B.foc.ok
 simp only [hput] at h
 obtain⟨h1,hs,ho,hsp,hb⟩:=hw.at i hi
 obtain⟨pb,po,psp⟩:=p
 simp only at ho hsp hb;subst ho hsp
 have hadd:(⟨pb,0,none⟩:Addr).add k=⟨pb,k,none⟩:=by unfold Addr.add;split <;> simp_all
 rw [hadd] at hx
 have hc:v.cells=#[v]:=by cases v <;> first|rfl|(simp [Value.oneCell'] at hv)
 refine qbl hx hy (fun w=>by rw [hc];exact C.plain.2 w) (w':=putB w pb (.cells (cells.set k v).toArray bt (0,0))) ?_ ?_
 ·rw [hc]
  have:=qaz (P:=P) (b:=pb) [v] k 0 cells w (by simpa using hv) (by simp;omega) (hs _ _ hb).1
  rw [show #[v].toList=[v] from rfl,this]
  congr 4
  simp only [Nat.add_zero,List.length_cons,List.length_nil,Nat.zero_add]
  rw [List.set_eq_take_append_cons_drop]
  simp [hk]
 ·refine h _ ((Sat.put (hw.focus i hi) fun h1 _ ⟨_,_,hb⟩=>⟨⟨_,hb⟩,rfl,rfl,by simp [hpS]⟩).back i hi) (qgK (hs _ _ hb).1)
theorem qn1 {p:Addr}{bt:TypeId}{cells:List Value}{v:Value}{put:HP→List HP} [C:CellT P t] (hx:evl ρ x=.pointer (some p)) (hy:evl ρ y=v) (hv:v.oneCell'=true) (hw:Sat w0 w Γ) (B:BoxAt Γ p bt cells put) (hk:0<cells.length)
  (h:∀ w',Sat w0 w' (put (Box p bt (cells.set 0 v)))→opsW P ops K r ρ w'):opsW P ops K (⟨none,.store t x y,ty,pos,af,none⟩::r) ρ w :=
 qiL (k:=0) (by simpa [Addr.add] using hx) hy hv hw B hk h
theorem qao {n:Nat}{p:Addr}{bt:TypeId}{cells vs:List Value}{put:HP→List HP} [A:AggT P t n] (hx:evl ρ x=.pointer (some p)) (hy:evl ρ y=.agg vs.toArray) (hw:Sat w0 w Γ) (B:BoxAt Γ p bt cells put) (hn:vs.length=n) (hl:cells.length=n) (hv:vs.all Value.oneCell'=true)
  (h:∀ w',Sat w0 w' (put (Box p bt vs))→opsW P ops K r ρ w'):opsW P ops K (⟨none,.store t x y,ty,pos,af,none⟩::r) ρ w:=by
 refine qat rfl ?_
 obtain⟨i,hi,hput⟩:=B.foc.ok
 simp only [hput] at h
 obtain⟨h1,hs,ho,hsp,hb⟩:=hw.at i hi
 obtain⟨pb,po,psp⟩:=p
 simp only at ho hsp hb;subst ho hsp
 refine qbl hx hy (fun w=>by rw [A.agg.2];simp [Value.cells,hn]) (w':=putB w pb (.cells vs.toArray bt (0,0))) ?_ ?_
 ·have:=qaz (P:=P) (b:=pb) vs 0 0 cells w (by simpa using hv) (by simp;omega) (hs _ _ hb).1
  simp only [Value.cells]
  rw [this]
  congr 4
  simp only [Nat.add_zero,Nat.zero_add,List.take_zero,List.nil_append]
  rw [List.drop_eq_nil_of_le (by omega),List.append_nil]
 ·exact h _ ((Sat.put (hw.focus i hi) fun h1 _ ⟨_,_,hb⟩=>⟨⟨_,hb⟩,rfl,rfl,by simp [hpS]⟩).back i hi)
theorem qmC {zs:List Value} [Z:ZeroT P t zs] (hw:Sat w0 w Γ) (h:∀ p w',Sat w0 w' (Box p t zs::Γ)→opsW P ops K r (upd ρ d (.pointer (some p))) w'):opsW P ops K (⟨some d,.alloc t,ty,pos,af,none⟩::r) ρ w:=by
 refine qat rfl ?_
 obtain⟨v,hv,hz⟩:=Z.zero
 simp only [opW,execOp,Instr.alloc,Sem.run_bind,hz,Result.andThen_ok,newVar,newRow,run_newObj,Sem.run_pure,opUpon,hv]
 exact h ⟨w.heap.size,0,none⟩ _ (hw.push (o:=.cells zs.toArray t) ⟨rfl,rfl,by simp⟩)
theorem qgR {v:Value}(hx:evl ρ x=v) (hw:Sat w0 w Γ) (h:∀ p w',Sat w0 w' (Box p t v.cells.toList::Γ)→opsW P ops K r (upd ρ d (.pointer (some p))) w'):opsW P ops K (⟨some d,.box t x,ty,pos,af,none⟩::r) ρ w:=by
 refine qat rfl ?_
 simp only [opW,execOp,Instr.box,Sem.run_bind,Result.andThen_ok,newVar,newRow,run_newObj,Sem.run_pure,opUpon,hx]
 exact h ⟨w.heap.size,0,none⟩ _ (hw.push (o:=.cells v.cells t) ⟨rfl,rfl,by simp⟩)
theorem qhK {i j k:Nat}{e:TypeId}{v:Value}{x':α}(hv:v.oneCell'=true) (hw:Sat w0 w Γ) (hi:Γ[i]? = some (OS T e s xs)) (hj:j<xs.length) (hk:k<T.sz) (he:T.enc x'=(T.enc (xs.getD j T.dflt)).set k v) :
  ∃ w',(storeCells ((eadr T s j).add k) [v]).run P w=.ok () w'∧Sat w0 w' (Γ.set i (OS T e s (xs.set j x')))∧Kept w w':=by
 obtain⟨h1,hs,ho,hl⟩:=hw.at i hi
 have hlen:=T.len xs
 rcases ho with ⟨rfl,hnil⟩|⟨b,off,n,cap,pre,post,rfl,hpre,hvl,hnc,hbig,hpl,hb⟩
 ·simp only [slen] at hl;omega
 ·have hidx:j*T.sz+k<(xs.flatMap T.enc).length:=by
   rw [hlen]
   have:(j+1)*T.sz≤xs.length*T.sz:=Nat.mul_le_mul_right _ hj
   rw [Nat.add_mul] at this;omega
  have hadd:(eadr T (.slice (some ⟨b,off,none⟩) n cap) j).add k=⟨b,off+(j*T.sz+k),none⟩:=by
   unfold eadr sadr Addr.add
   split
   ·rename_i h0;subst h0;simp
   ·simp [Nat.add_assoc]
  rw [hadd]
  have hnew:((pre++xs.flatMap T.enc++post).take (off+(j*T.sz+k)+0)++[v]++(pre++xs.flatMap T.enc++post).drop (off+(j*T.sz+k)+0+1))=pre++(xs.set j x').flatMap T.enc++post:=by
   rw [←T.set xs j k v x' hj hk he]
   have h2:(pre++xs.flatMap T.enc++post).set (off+(j*T.sz+k)) v=pre++(xs.flatMap T.enc).set (j*T.sz+k) v++post:=by
    rw [List.append_assoc,List.set_append_right _ _ (by omega),List.set_append_left _ _ (by omega),show off+(j*T.sz+k)-pre.length=j*T.sz+k from by omega,List.append_assoc]
   rw [←h2,List.set_eq_take_append_cons_drop,if_pos (by simp only [List.length_append];omega)]
   simp
  refine⟨putB w b (.cells (pre++(xs.set j x').flatMap T.enc++post).toArray e (0,0)),?_,?_,qgK (hs b _ hb).1⟩
  ·rw [qaz (b:=b) (bt:=e) [v] _ 0 _ w (by simpa using hv) (by simp only [List.length_append,List.length_cons,List.length_nil];omega) (hs b _ hb).1]
   rw [←hnew];rfl
  ·have hlen':=T.len (xs.set j x')
   refine (Sat.put (hw.focus i hi) fun g hg ⟨ho',hl'⟩ => ?_).back i hi
   rcases ho' with ⟨hn,_⟩|⟨b',off',n',cap',pre',post',hs',hpre',hvl',hnc',hbig',hpl',hb'⟩
   ·cases hn
   ·cases hs'
    refine⟨⟨_,hb'⟩,.inr ⟨b,off,n,cap,pre,post,rfl,hpre,by rw [hlen',List.length_set,←hlen,hvl],hnc,hbig,hpl,by simp [hpS]⟩,by rw [List.length_set];exact hl⟩
theorem qn2 {j:Nat}{e:TypeId}{v:Value}{x':α}{put:HP→List HP} [C:CellT P t] (hx:evl ρ x=.pointer (some (eadr T s j))) (hy:evl ρ y=v) (hv:v.oneCell'=true) (hw:Sat w0 w Γ) (O:OwnAt Γ s α T e xs put) (hj:j<xs.length) (he:T.enc x'=[v])
  (h:∀ w',Sat w0 w' (put (OS T e s (xs.set j x')))→opsW P ops K r ρ w'):opsW P ops K (⟨none,.store t x y,ty,pos,af,none⟩::r) ρ w:=by
 refine qat rfl ?_
 obtain⟨i,hi,hput⟩:=O.foc.ok
 simp only [hput] at h
 have hsz:T.sz=1:=by rw [←T.ok x',he];rfl
 have hc:v.cells=#[v]:=by cases v <;> first|rfl|(simp [Value.oneCell'] at hv)
 have h1:T.enc x'=(T.enc (xs.getD j T.dflt)).set 0 v:=by
  rw [he]
  have:=T.ok (xs.getD j T.dflt)
  rw [hsz] at this
  match h2:T.enc (xs.getD j T.dflt),this with
  | [u],_=>rfl
 obtain⟨w',hr,hs,hkp⟩:=qhK (P:=P) (k:=0) hv hw hi hj (by omega) h1
 exact qbl hx hy (fun w=>by rw [hc];exact C.plain.2 w) (by rw [hc];simpa [Addr.add] using hr) (h _ hs)
theorem qmD {j:Nat}{e:TypeId}{v:Value}{x':α}{put:HP→List HP} [C:CellT P t] (hx:evl ρ x=.pointer (some (eadr T s j))) (hy:evl ρ y=v) (hv:v.oneCell'=true) (hw:Sat w0 w Γ) (O:OwnAt Γ s α T e xs put) (hj:j<xs.length) (he:T.enc x'=[v])
  (h:∀ w',Sat w0 w' (put (OS T e s (xs.set j x')))→Kept w w'→opsW P ops K r ρ w'):opsW P ops K (⟨none,.store t x y,ty,pos,af,none⟩::r) ρ w:=by
 refine qat rfl ?_
 obtain⟨i,hi,hput⟩:=O.foc.ok
 simp only [hput] at h
 have hsz:T.sz=1:=by rw [←T.ok x',he];rfl
 have hc:v.cells=#[v]:=by cases v <;> first|rfl|(simp [Value.oneCell'] at hv)
 have h1:T.enc x'=(T.enc (xs.getD j T.dflt)).set 0 v:=by
  rw [he]
  have:=T.ok (xs.getD j T.dflt)
  rw [hsz] at this
  match h2:T.enc (xs.getD j T.dflt),this with
  | [u],_=>rfl
 obtain⟨w',hr,hs,hkp⟩:=qhK (P:=P) (k:=0) hv hw hi hj (by omega) h1
 exact qbl hx hy (fun w=>by rw [hc];exact C.plain.2 w) (by rw [hc];simpa [Addr.add] using hr) (h _ hs hkp)
theorem qgS {j k:Nat}{e:TypeId}{v:Value}{x':α}{put:HP→List HP} [C:CellT P t] (hx:evl ρ x=.pointer (some ((eadr T s j).add k))) (hy:evl ρ y=v) (hv:v.oneCell'=true) (hw:Sat w0 w Γ) (O:OwnAt Γ s α T e xs put) (hj:j<xs.length) (hk:k<T.sz) (he:T.enc x'=(T.enc (xs.getD j T.dflt)).set k v)
  (h:∀ w',Sat w0 w' (put (OS T e s (xs.set j x')))→opsW P ops K r ρ w'):opsW P ops K (⟨none,.store t x y,ty,pos,af,none⟩::r) ρ w:=by
 refine qat rfl ?_
 obtain⟨i,hi,hput⟩:=O.foc.ok
 simp only [hput] at h
 have hc:v.cells=#[v]:=by cases v <;> first|rfl|(simp [Value.oneCell'] at hv)
 obtain⟨w',hr,hs,hkp⟩:=qhK (P:=P) hv hw hi hj hk he
 exact qbl hx hy (fun w=>by rw [hc];exact C.plain.2 w) (by rw [hc];exact hr) (h _ hs)
end
end
end Go.Sl
/-
  Control: the steps of 'vc', the loop's rule, calls, results.
-/
namespace Go.Sl
open Go.RowKit (Below)
section
variable {P:Program}{Q:Exit→Fr→World→Prop}{ρ:Fr}{w w0:World}{Γ:List HP}
theorem qbU {a b:Code}(h:vc P a (Thn (vc P b Q) Q) ρ w):vc P (.seq a b) Q ρ w:=h
theorem qf0 (h:Q .normal ρ w):vc P .skip Q ρ w:=h
theorem qf1 {i:Nat}(h:Q (.exit i) ρ w):vc P (.exit i) Q ρ w:=h
theorem qiZ (h:Q .ret ρ w):vc P .ret Q ρ w:=h
theorem qcr {i:Nat}{c:Code}(h:vc P c (Blk i Q) ρ w):vc P (.block i c) Q ρ w:=h
theorem qoa {c:Operand}{x y:Code}{t:Bool}(hc:evl ρ c=.bool t) (h1:t=true→vc P x Q ρ w) (h0:t=false→vc P y Q ρ w):vc P (.cond c x y) Q ρ w:=⟨t,hc,h1,h0⟩
theorem qmP {c:Operand}{x y:Code}(hc:evl ρ c=.bool true) (h1:vc P x Q ρ w):vc P (.cond c x y) Q ρ w:=⟨true,hc,fun _=>h1,fun h=>by cases h⟩
theorem qmQ {c:Operand}{x y:Code}(hc:evl ρ c=.bool false) (h1:vc P y Q ρ w):vc P (.cond c x y) Q ρ w:=⟨false,hc,fun h=>(by cases h),fun _=>h1⟩
theorem qaF {i:Nat}{l:List Oper}(h:opsW P l.toArray (Q .normal) l ρ w):vc P (.region i l.toArray false) Q ρ w:=h
theorem qob {i:Nat}{l:List Oper}(hw:Sat w0 w Γ) (hc:commB P l.toArray=true) (h:∀ w',Sat w0 w' Γ→opsW P l.toArray (Q .normal) l ρ w'):vc P (.region i l.toArray true) Q ρ w :=
 .inl ⟨hc,h _ hw.drew⟩
theorem qax {i:Nat}{l:List Oper}(is:List Item) (hw:Sat w0 w Γ) (hc:planB P l.toArray is=true) (h:∀ w',Sat w0 w' Γ→opsD P l.toArray (Q .normal) is ρ w'):vc P (.region i l.toArray true) Q ρ w :=
 .inr (.inl ⟨is,hc,h _ hw.drew⟩)
theorem qeK {i:Nat}{l:List Oper}(T:PT) (hw:Sat w0 w Γ) (hb:baseB P l.toArray=true) (hc:treeB P l.toArray [] [] T=true) (h:∀ w',Sat w0 w' Γ→opsT P l.toArray (Q .normal) T ρ w'):vc P (.region i l.toArray true) Q ρ w :=
 .inr (.inr ⟨T,hb,hc,h _ hw.drew⟩)
theorem qd5 {ops:Array Oper}{K:Fr→World→Prop}{is:List Item}(h:opsD P ops K is ρ w):opsT P ops K (.lin is) ρ w:=h
theorem qdf {ops:Array Oper}{K:Fr→World→Prop}{i:Nat}{is:List Item}{t:PT}(h:opsD P ops (opsT P ops K t) is ρ w):opsT P ops K (.step i is t) ρ w:=h
theorem qav {ops:Array Oper}{K:Fr→World→Prop}{i:Nat}{is:List Item}{t m:PT}(h:opsD P ops (opsT P ops K t) is ρ w) (hm:opsT P ops K m ρ w):opsT P ops K (.alt i is t m) ρ w:=⟨h,hm⟩
theorem qaG {ops:Array Oper}{K:Fr→World→Prop}:opsT P ops K .stop ρ w:=trivial
theorem qdg {ops:Array Oper}{K:Fr→World→Prop}(h:K ρ w):opsD P ops K [] ρ w:=h
theorem qcL {l:List Oper}{K:Fr→World→Prop}{i:Nat}{r:List Item}{o:Oper}(h:opsW P l.toArray (opsD P l.toArray K r) [o] ρ w) (ho:l[i]? = some o:=by exact rfl):opsD P l.toArray K (.op i::r) ρ w:=by
 have:(l.toArray)[i]? = some o:=by simpa using ho
 simp only [opsD,this];exact h
theorem qf2 {l:List Oper}{K:Fr→World→Prop}{i:Nat}{r:List Item}{d:Nat}{op:Op}{ty:TypeId}{pos:String}{af:Array Edge}{v:Value}(ho:l[i]? = some ⟨some d,op,ty,pos,af,none⟩) (hv:ReadV P ⟨some d,op,ty,pos,af,none⟩ ρ w v) (he:ρ d=v) (h:opsD P l.toArray K r ρ w):opsD P l.toArray K (.chk i::r) ρ w:=by
 have:(l.toArray)[i]? = some ⟨some d,op,ty,pos,af,none⟩:=by simpa using ho
 simp only [opsD,this]
 refine⟨fun d' hd => ?_,h⟩
 cases hd
 rw [he];exact hv
theorem qeL {l:List Oper}{K:Fr→World→Prop}{i:Nat}{r:List Item}{d:Nat}{op:Op}{ty:TypeId}{pos:String}{af:Array Edge}{v:Value}{j:Nat}{want:Bool}(ho:l[i]? = some ⟨some d,op,ty,pos,af,some (j,want)⟩)
  (hv:guardB l.toArray ρ (j,want)=true→ReadV P ⟨some d,op,ty,pos,af,none⟩ ρ w v∧ρ d=v) (h:opsD P l.toArray K r ρ w):opsD P l.toArray K (.chk i::r) ρ w:=by
 have:(l.toArray)[i]? = some ⟨some d,op,ty,pos,af,some (j,want)⟩:=by simpa using ho
 simp only [opsD,this]
 refine⟨fun hg d' hd => ?_,h⟩
 cases hd
 obtain⟨h1,h2⟩:=hv hg
 rw [h2];exact h1
theorem qbi {N:Fr→World→Prop}(h:N ρ w):Thn N Q .normal ρ w:=h
theorem qd6 {N:Fr→World→Prop}{i:Nat}(h:Q (.exit i) ρ w):Thn N Q (.exit i) ρ w:=h
theorem qf3 {N:Fr→World→Prop}(h:Q .ret ρ w):Thn N Q .ret ρ w:=h
theorem qcs {i:Nat}(h:Q .normal ρ w):Blk i Q .normal ρ w:=h
theorem qf4 {i:Nat}(h:Q .ret ρ w):Blk i Q .ret ρ w:=h
theorem qd7 {i:Nat}(h:Q .normal ρ w):Blk i Q (.exit i) ρ w:=by simp only [Blk,if_true];exact h
theorem qhR {i j:Nat}(hne:Nat.beq i j=false) (h:Q (.exit i) ρ w):Blk j Q (.exit i) ρ w:=by
 have:i≠j:=fun e=>by subst e;simp at hne
 simp only [Blk,if_neg this];exact h
def mix (W:List Nat) (σ ρ:Fr):Fr:=fun t=>bif W.elem t then σ t else ρ t
def sets (ρ:Fr):List (Nat × Value)→Fr
 | []=>ρ
 | (d,v)::l=>upd (sets ρ l) d v
def Agree (W:List Nat) (ρ ρ0:Fr):Prop:=∀ t,W.elem t=false→ρ t=ρ0 t
def Holds (ρ:Fr):List (Nat × Value)→Prop
 | []=>True
 | (d,v)::l=>ρ d=v∧Holds ρ l
theorem qfm {W:List Nat}:Agree W ρ ρ:=fun _ _=>rfl
theorem qg3 {W:List Nat}{ρ0:Fr}{d:Nat}{v:Value}(hd:W.elem d=true) (h:Agree W ρ ρ0):Agree W (upd ρ d v) ρ0:=by
 intro t ht
 have:Nat.beq t d=false:=by
  cases hb:Nat.beq t d with
  | false=>rfl
  | true=>have:=Nat.eq_of_beq_eq_true hb;subst this;rw [hd] at ht;cases ht
 simp only [upd,this,cond_false];exact h t ht
theorem qli {W W':List Nat}{σ ρ0:Fr}(hs:W'.all (W.elem ·)=true) (h:Agree W ρ ρ0):Agree W (mix W' σ ρ) ρ0:=by
 intro t ht
 have:W'.elem t=false:=by
  cases hb:W'.elem t with
  | false=>rfl
  | true =>
   have:=List.all_eq_true.1 hs t (List.elem_iff.1 hb)
   rw [this] at ht;cases ht
 simp only [mix,this,cond_false];exact h t ht
theorem qfn {W:List Nat}{ρ0:Fr}:∀ {l:List (Nat × Value)},l.all (fun p=>W.elem p.1)=true→Agree W ρ ρ0→Agree W (sets ρ l) ρ0
 | [],_,h=>h
 | (d,v)::l,hs,h=>by
  simp only [List.all_cons,Bool.and_eq_true] at hs
  exact qg3 hs.1 (qfn hs.2 h)
theorem qi0 {W:List Nat}{ρ0:Fr}:∀ {l:List (Nat × Value)},Holds ρ l→Agree W ρ ρ0→l.all (fun p=>W.elem p.1)=true→sets (mix W ρ ρ0) l=ρ:=by
 intro l hl ha hs
 have h0:mix W ρ ρ0=ρ:=by
  funext t
  simp only [mix]
  cases hb:W.elem t with
  | true=>rfl
  | false=>exact (ha t hb).symm
 rw [h0]
 clear hs h0 ha
 induction l with
 | nil=>rfl
 | cons p l ih =>
  obtain⟨d,v⟩:=p
  simp only [sets,ih hl.2]
  funext t
  simp only [upd]
  cases hb:Nat.beq t d with
  | false=>rfl
  | true=>have:=Nat.eq_of_beq_eq_true hb;subst this;exact hl.1.symm
theorem qak {c:Code}(W:List Nat) {G:Type}(V:G→List (Nat × Value)) (J:G→World→Prop) (μ:G→Nat) (g0:G)
  (hV:∀ g,(V g).all (fun p=>W.elem p.1)=true) (h0:Holds ρ (V g0)) (hj:J g0 w)
  (hr:∀ σ g w,J g w→vc P c (Thn (fun ρ' w'=>∃ g',Holds ρ' (V g')∧Agree W ρ' ρ∧J g' w'∧μ g'<μ g) Q) (sets (mix W σ ρ) (V g)) w):vc P (.loop c) Q ρ w:=by
 refine⟨fun m ρ' w'=>∃ g,μ g=m∧Holds ρ' (V g)∧Agree W ρ' ρ∧J g w',⟨μ g0,g0,rfl,h0,qfm,hj⟩,?_⟩
 rintro m ρ' w' ⟨g,rfl,hh,ha,hj⟩
 have:=hr ρ' g w' hj
 rw [qi0 hh ha (hV g)] at this
 refine vc_mono this fun e ρ2 w2 hq => ?_
 cases e with
 | normal=>obtain⟨g',h1,h2,h3,h4⟩:=hq;exact⟨μ g',h4,g',rfl,h1,h2,h3⟩
 | _=>exact hq
where
 vc_mono:∀ {c:Code}{Q Q':Exit→Fr→World→Prop}{ρ:Fr}{w:World},vc P c Q ρ w→(∀ e ρ w,Q e ρ w→Q' e ρ w)→vc P c Q' ρ w:=by
  intro c
  have hops:∀ (ops:Array Oper) (l:List Oper) {K K':Fr→World→Prop},(∀ ρ w,K ρ w→K' ρ w)→∀ {ρ:Fr}{w:World},opsW P ops K l ρ w→opsW P ops K' l ρ w:=by
   intro ops l K K' hk
   induction l with
   | nil=>intro ρ w h;exact hk _ _ h
   | cons o r ih =>
    intro ρ w h
    have hv:∀ {ρ w},opV P o ρ w (opsW P ops K r)→opV P o ρ w (opsW P ops K' r):=by
     intro ρ w h
     unfold opV at *
     split at h
     ·obtain⟨v,h1,h2⟩:=h;exact⟨v,h1,ih h2⟩
     ·obtain⟨v,h1,h2⟩:=h;exact⟨v,h1,ih h2⟩
     ·exact qaA (fun v w' hh=>ih hh) h
    simp only [opsW] at h ⊢
    split
    ·rename_i hg;simp only [hg] at h;exact hv h
    ·rename_i g hg;simp only [hg] at h;exact⟨fun h1=>hv (h.1 h1),fun h1=>ih (h.2 h1)⟩
  induction c with
  | skip=>intro Q Q' ρ w h hq;exact hq _ _ _ h
  | label l=>intro Q Q' ρ w h hq;exact hq _ _ _ h
  | exit i=>intro Q Q' ρ w h hq;exact hq _ _ _ h
  | ret=>intro Q Q' ρ w h hq;exact hq _ _ _ h
  | seq a b iha ihb =>
   intro Q Q' ρ w h hq
   refine iha (Q:=Thn (vc P b Q) Q) h fun e ρ w he => ?_
   cases e with
   | normal=>exact ihb he hq
   | _=>exact hq _ _ _ he
  | cond c x y ihx ihy =>
   intro Q Q' ρ w h hq
   obtain⟨t,ht,h1,h0⟩:=h
   exact⟨t,ht,fun h=>ihx (h1 h) hq,fun h=>ihy (h0 h) hq⟩
  | block i c ih =>
   intro Q Q' ρ w h hq
   refine ih (Q:=Blk i Q) h fun e ρ w he => ?_
   cases e with
   | exit j =>
    simp only [Blk] at he ⊢
    split
    ·rename_i hj;rw [if_pos hj] at he;exact hq _ _ _ he
    ·rename_i hj;rw [if_neg hj] at he;exact hq _ _ _ he
   | _=>exact hq _ _ _ he
  | loop c ih =>
   intro Q Q' ρ w h hq
   obtain⟨I,hm,hr⟩:=h
   refine⟨I,hm,fun m ρ w hI=>ih (hr m ρ w hI) fun e ρ w he => ?_⟩
   cases e with
   | normal=>exact he
   | _=>exact hq _ _ _ he
  | region i ops draw =>
   intro Q Q' ρ w h hq
   cases draw with
   | false=>exact hops ops _ (fun ρ w h=>hq _ _ _ h) h
   | true =>
    have hD:∀ (is:List Item) {K K':Fr→World→Prop},(∀ ρ w,K ρ w→K' ρ w)→∀ {ρ:Fr}{w:World},opsD P ops K is ρ w→opsD P ops K' is ρ w:=by
     intro is K K' hk
     induction is with
     | nil=>intro ρ w h;exact hk _ _ h
     | cons x r ih =>
      intro ρ w h
      cases x with
      | op i =>
       simp only [opsD] at h ⊢
       split
       ·rename_i o ho;rw [ho] at h;exact hops ops _ (fun ρ w h=>ih h) h
       ·rename_i ho;rw [ho] at h;exact h
      | chk i=>simp only [opsD] at h ⊢;exact⟨h.1,ih h.2⟩
    have hT:∀ (T:PT) {ρ:Fr}{w:World},opsT P ops (Q .normal) T ρ w→opsT P ops (Q' .normal) T ρ w:=by
     intro T
     induction T with
     | lin is=>intro ρ w h;exact hD is (fun ρ w h=>hq _ _ _ h) h
     | step i is t ih=>intro ρ w h;exact hD is (fun ρ w h=>ih h) h
     | alt i is t m ih ihm=>intro ρ w h;exact⟨hD is (fun ρ w h=>ih h) h.1,ihm h.2⟩
     | stop=>intro ρ w _;trivial
    rcases h with h|⟨is,hp,h⟩|⟨T,hb,ht,h⟩
    ·exact .inl ⟨h.1,hops ops _ (fun ρ w h=>hq _ _ _ h) h.2⟩
    ·exact .inr (.inl ⟨is,hp,hD is (fun ρ w h=>hq _ _ _ h) h⟩)
    ·exact .inr (.inr ⟨T,hb,ht,hT T h⟩)
  | _=>intro Q Q' ρ w h hq;exact h.elim
theorem vc_mono {c:Code}{Q Q':Exit→Fr→World→Prop}{ρ:Fr}{w:World}(h:vc P c Q ρ w) (hq:∀ e ρ w,Q e ρ w→Q' e ρ w):vc P c Q' ρ w:=qak.vc_mono h hq
theorem qaq {c:Code}(W:List Nat) {G H:Type}(V:G→H→List (Nat × Value)) (J:G→H→World→Prop) (μ:G→H→Nat) (g0:G) (h0':H)
  (hV:∀ g h,(V g h).all (fun p=>W.elem p.1)=true) (h0:Holds ρ (V g0 h0')) (hj:J g0 h0' w)
  (hr:∀ σ g h w,J g h w→vc P c (Thn (fun ρ' w'=>∃ g' h',Holds ρ' (V g' h')∧Agree W ρ' ρ∧J g' h' w'∧μ g' h'<μ g h) Q) (sets (mix W σ ρ) (V g h)) w):vc P (.loop c) Q ρ w:=by
 refine qak W (G:=G × H) (fun x=>V x.1 x.2) (fun x=>J x.1 x.2) (fun x=>μ x.1 x.2) (g0,h0') (fun x=>hV _ _) h0 hj fun σ x w hx=>vc_mono (hr σ x.1 x.2 w hx) fun e ρ w he => ?_
 cases e with
 | normal=>obtain⟨g',h',he⟩:=he;exact⟨(g',h'),he⟩
 | _=>exact he
theorem qbf {c:Code}(W:List Nat) {G H I:Type}(V:G→H→I→List (Nat × Value)) (J:G→H→I→World→Prop) (μ:G→H→I→Nat) (g0:G) (h0':H) (i0:I)
  (hV:∀ g h i,(V g h i).all (fun p=>W.elem p.1)=true) (h0:Holds ρ (V g0 h0' i0)) (hj:J g0 h0' i0 w)
  (hr:∀ σ g h i w,J g h i w→vc P c (Thn (fun ρ' w'=>∃ g' h' i',Holds ρ' (V g' h' i')∧Agree W ρ' ρ∧J g' h' i' w'∧μ g' h' i'<μ g h i) Q) (sets (mix W σ ρ) (V g h i)) w):vc P (.loop c) Q ρ w:=by
 refine qak W (G:=G × H × I) (fun x=>V x.1 x.2.1 x.2.2) (fun x=>J x.1 x.2.1 x.2.2) (fun x=>μ x.1 x.2.1 x.2.2) (g0,h0',i0) (fun x=>hV _ _ _) h0 hj fun σ x w hx=>vc_mono (hr σ x.1 x.2.1 x.2.2 w hx) fun e ρ w he => ?_
 cases e with
 | normal=>obtain⟨g',h',i',he⟩:=he;exact⟨(g',h',i'),he⟩
 | _=>exact he
theorem qf5 {c:Code}(W:List Nat) {G H I M:Type}(V:G→H→I→M→List (Nat × Value)) (J:G→H→I→M→World→Prop) (μ:G→H→I→M→Nat) (g0:G) (h0':H) (i0:I) (m0:M)
  (hV:∀ g h i m,(V g h i m).all (fun p=>W.elem p.1)=true) (h0:Holds ρ (V g0 h0' i0 m0)) (hj:J g0 h0' i0 m0 w)
  (hr:∀ σ g h i m w,J g h i m w→vc P c (Thn (fun ρ' w'=>∃ g' h' i' m',Holds ρ' (V g' h' i' m')∧Agree W ρ' ρ∧J g' h' i' m' w'∧μ g' h' i' m'<μ g h i m) Q) (sets (mix W σ ρ) (V g h i m)) w):vc P (.loop c) Q ρ w:=by
 refine qak W (G:=G × H × I × M) (fun x=>V x.1 x.2.1 x.2.2.1 x.2.2.2) (fun x=>J x.1 x.2.1 x.2.2.1 x.2.2.2) (fun x=>μ x.1 x.2.1 x.2.2.1 x.2.2.2) (g0,h0',i0,m0) (fun x=>hV _ _ _ _) h0 hj fun σ x w hx=>vc_mono (hr σ x.1 x.2.1 x.2.2.1 x.2.2.2 w hx) fun e ρ w he => ?_
 cases e with
 | normal=>obtain⟨g',h',i',m',he⟩:=he;exact⟨(g',h',i',m'),he⟩
 | _=>exact he
theorem qdh {c:Code}{N:Fr→World→Prop}(W:List Nat) {G:Type}(V:G→List (Nat × Value)) (J:G→World→Prop) (hV:∀ g,(V g).all (fun p=>W.elem p.1)=true)
  (h1:vc P c (Thn (fun ρ' w'=>∃ g,Holds ρ' (V g)∧Agree W ρ' ρ∧J g w') Q) ρ w) (h2:∀ σ g w,J g w→N (sets (mix W σ ρ) (V g)) w):vc P c (Thn N Q) ρ w:=by
 refine vc_mono h1 fun e ρ' w' he => ?_
 cases e with
 | normal =>
  obtain⟨g,hh,ha,hj⟩:=he
  have:=h2 ρ' g w' hj
  rw [qi0 hh ha (hV g)] at this
  exact this
 | _=>exact he
theorem qmR {f:FuncId}{fn:Func}{c:Code}(hf:P.funcs[f]? = some fn) (hn:(fn.name == "runtime.NumGoroutine") = false) (hb : fn.body = some c) (args : Array Value) (w : World) : (callFunc f args).run P w = .ok (.enter f args) w := by
 exact Go.MuLone.run_callFunc_enter hf hn hb args w
def callB (P:Program) (f:Nat):Bool:=match P.funcs[f]? with|some fn => !(fn.name == "runtime.NumGoroutine") && fn.body.isSome | none => false
class CallT (P:Program) (f:Nat):Prop where
 ok:callB P f=true
theorem CallT.run {f:Nat}(h:CallT P f) (args:Array Value) (w:World):(callFunc f args).run P w=.ok (.enter f args) w:=by
 have h:=h.ok
 simp only [callB] at h
 split at h
 ·rename_i fn hf
  simp only [Bool.and_eq_true,Bool.not_eq_true',Option.isSome_iff_exists] at h
  obtain⟨hn,c,hb⟩:=h
  exact qmR hf hn hb args w
 ·cases h
section
variable {ops:Array Oper}{K:Fr→World→Prop}{r:List Oper}{d:Nat}{ty:TypeId}{pos:String}{af:Array Edge}
theorem qah {f:Nat}{xs:List Operand}{ts:Array TypeId}{vs:List Value}{R:Ending→World→Prop} [C:CallT P f] (hx:xs.map (evl ρ)=vs) (hc:Calls P f vs.toArray w R)
  (h:∀ e w',R e w'→∃ v,e=.returned v∧opsW P ops K r (upd ρ d v) w'):opsW P ops K (⟨some d,.call { callee:=.value (.func f),args:=xs.toArray,argTypes:=ts },ty,pos,af,none⟩::r) ρ w:=by
 refine qat rfl ?_
 have hr:(execOp (evl ρ) ⟨some d,.call { callee:=.value (.func f),args:=xs.toArray,argTypes:=ts },ty,pos,af,none⟩).run P w=.ok (.enter f vs.toArray) w:=by
  simp only [execOp,resolve,Deferred.ofValue,evl,Sem.run_bind,Sem.run_pure,Result.andThen_ok,invoke]
  have:#[]++Array.map (evl ρ) xs.toArray++#[]=vs.toArray:=by simp [hx]
  rw [this,C.run]
 simp only [opW,hr,opUpon]
 refine Calls.mono hc fun e w' hR => ?_
 obtain⟨v,rfl,hk⟩:=h e w' hR
 exact hk
theorem qbu {f:Nat}{x:Operand}{xs:List Operand}{ts:Array TypeId}{vs cs:List Value}{R:Ending→World→Prop}{dst:Option Nat} [C:CallT P f] (hf:evl ρ x=.func (.func f) #[] cs.toArray) (hx:xs.map (evl ρ)=vs) (hc:Calls P f (vs++cs).toArray w R)
  (h:∀ e w',R e w'→∃ v,e=.returned v∧opsW P ops K r (updo ρ dst v) w'):opsW P ops K (⟨dst,.call { callee:=.value x,args:=xs.toArray,argTypes:=ts },ty,pos,af,none⟩::r) ρ w:=by
 refine qat rfl ?_
 have hr:(execOp (evl ρ) ⟨dst,.call { callee:=.value x,args:=xs.toArray,argTypes:=ts },ty,pos,af,none⟩).run P w=.ok (.enter f (vs++cs).toArray) w:=by
  simp only [execOp,resolve,Sem.run_bind,hf,Deferred.ofValue,Sem.run_pure,Result.andThen_ok,invoke]
  have:#[]++Array.map (evl ρ) xs.toArray++cs.toArray=(vs++cs).toArray:=by simp [hx]
  rw [this,C.run]
 simp only [opW,hr,opUpon]
 refine Calls.mono hc fun e w' hR => ?_
 obtain⟨v,rfl,hk⟩:=h e w' hR
 exact hk
end
theorem qai {fn:Func}{R:Value→World→Prop}{s:Nat}{v:Value}(hr:fn.results=#[.tmp s]) (hv:ρ s=v) (h:R v w):postV P fn R .ret ρ w :=
 ⟨v,fun a ha=>by
  have h1:a.tmps.getD s undef=v:=by rw [←hv,←ha];rfl
  simp only [results,hr,List.mapM_toArray,List.mapM_cons,List.mapM_nil,h1,bind_pure_comp,map_pure]
  rfl,h⟩
theorem qay {fn:Func}{R:Value→World→Prop}{s s':Nat}{v v':Value}(hr:fn.results=#[.tmp s,.tmp s']) (hv:ρ s=v) (hv':ρ s'=v') (h:R (.tuple #[v,v']) w):postV P fn R .ret ρ w :=
 ⟨.tuple #[v,v'],fun a ha=>by
  have h1:a.tmps.getD s undef=v:=by rw [←hv,←ha];rfl
  have h2:a.tmps.getD s' undef=v':=by rw [←hv',←ha];rfl
  simp only [results,hr,List.mapM_toArray,List.mapM_cons,List.mapM_nil,h1,h2,bind_pure_comp,map_pure]
  rfl,h⟩
theorem qf6 {fn:Func}{R:Value→World→Prop}(hr:fn.results=#[]) (h:R (.tuple #[]) w):postV P fn R .ret ρ w :=
 ⟨.tuple #[],fun a ha=>by simp [results,hr],h⟩
theorem qaL {fn:Func}{R:Value→World→Prop}(hr:fn.results=#[]) (h:R (.tuple #[]) w):postV P fn R .normal ρ w:=qf6 (P:=P) hr h
end
end Go.Sl
/-
  More operations: booleans compared, type assertions, literals, make.
-/
namespace Go.Sl
open Go.RowKit (Below)
def boolB (P:Program) (t:Nat):Bool:=match P.underlying t with|some .bool=>true|_=>false
class BoolT (P:Program) (t:Nat):Prop where
 ok:boolB P t=true
section
variable {P:Program}
theorem BoolT.und {t:Nat}(h:BoolT P t):P.underlying t=some .bool:=by
 have h:=h.ok
 unfold boolB at h
 split at h
 ·assumption
 ·cases h
section
variable {ops:Array Oper}{K:Fr→World→Prop}{r:List Oper}{ρ:Fr}{w w0:World}{d:Nat}{ty:TypeId}{pos:String}{af:Array Edge}{g:Option (Nat × Bool)}{dst:Option Nat}{x y z:Operand}{t t':TypeId}{Γ:List HP}
theorem qk4 {a b:Bool} [B:BoolT P t] (hx:evl ρ x=.bool a) (hy:evl ρ y=.bool b):PureV P ⟨dst,.binOp .eql t x y t',ty,pos,af,g⟩ ρ (.bool (a == b)):=fun w=>by
 simp [execOp,eqGuard,hx,hy,run_eql_bool w t a b B.und]
theorem qk5 {a b:Bool} [B:BoolT P t] (hx:evl ρ x=.bool a) (hy:evl ρ y=.bool b):PureV P ⟨dst,.binOp .neq t x y t',ty,pos,af,g⟩ ρ (.bool (!(a == b))):=fun w=>by
 simp [execOp,eqGuard,hx,hy,run_neq_bool w t a b B.und]
theorem qeo {v:Value} [Q:PlainT P t] (hx:evl ρ x=.iface t v):PureV P ⟨dst,.typeAssert x t' t true,ty,pos,af,g⟩ ρ (.tuple #[v,.bool true]):=fun w=>by
 obtain⟨dd,hd,hn⟩:=Q.und
 simp only [execOp,Instr.typeAssert,Sem.run_bind,run_underlying hd,Result.andThen_ok,hx]
 cases dd <;> first|exact absurd rfl (hn _)|simp
theorem qgG {v:Value} [Q:PlainT P t] (hx:evl ρ x=.iface t v):PureV P ⟨dst,.typeAssert x t' t false,ty,pos,af,g⟩ ρ v:=fun w=>by
 obtain⟨dd,hd,hn⟩:=Q.und
 simp only [execOp,Instr.typeAssert,Sem.run_bind,run_underlying hd,Result.andThen_ok,hx]
 cases dd <;> first|exact absurd rfl (hn _)|simp
theorem qep {f:FuncId}{xs:List Operand}{vs:List Value}(hx:xs.map (evl ρ)=vs):PureV P ⟨dst,.makeFunc (.func f) #[] xs.toArray,ty,pos,af,g⟩ ρ (.func (.func f) #[] vs.toArray):=fun w=>by
 simp [execOp,Instr.makeFunc,←hx]
theorem qnf {k:IntKind}{a b:Int}(hx:evl ρ x=.int k a) (hy:evl ρ y=.int k b) {ts:Array TypeId}:PureV P ⟨dst,.call { callee:=.builtin .min,args:=#[x,y],argTypes:=ts },ty,pos,af,g⟩ ρ (.int k (if b<a then b else a)):=fun w=>by
 simp [execOp,resolve,invoke,builtin,hx,hy,run_min_int2]
theorem qng {k:IntKind}{a b:Int}(hx:evl ρ x=.int k a) (hy:evl ρ y=.int k b) {ts:Array TypeId}:PureV P ⟨dst,.call { callee:=.builtin .max,args:=#[x,y],argTypes:=ts },ty,pos,af,g⟩ ρ (.int k (if b>a then b else a)):=fun w=>by
 simp [execOp,resolve,invoke,builtin,hx,hy,run_max_int2]
theorem qiI {parts:List (Nat × Operand)}{vs:List (Nat × Value)}{v:Value}(hp:(parts.map fun p=>(p.1,evl ρ p.2))=vs) (hv:∀ w,(Instr.build t vs.toArray).run P w=.ok v w) (h:opsW P ops K r (upd ρ d v) w) :
  opsW P ops K (⟨some d,.build t parts.toArray,ty,pos,af,none⟩::r) ρ w:=by
 refine qat rfl ?_
 have:(Array.map (fun x:Nat × Operand=>match x with|(i,x)=>(i,evl ρ x)) parts.toArray)=vs.toArray:=by rw [←hp];simp
 simp only [opW,execOp,this,Sem.run_bind,hv,Result.andThen_ok,Sem.run_pure,opUpon]
 exact h
end
def placesB (P:Program) (t:Nat):Option (List (Nat × Nat)):=match P.underlying t with|some (.struct fs)=>fs.toList.mapM (fun f=>(P.info? f.type).map fun i=>(f.offset,i.size))|_=>none
class StructT (P:Program) (t:Nat) (places:outParam (List (Nat × Nat))):Prop where
 ok:placesB P t=some places
def buildB (P:Program) (t:Nat) (vs:List (Nat × Value)):Option (Array Value) :=
 match P.underlying t,(P.info? t).bind (·.zero) with
 | some (.struct fs),some z=>(match fs.toList.mapM (fun f=>(P.info? f.type).map fun i=>(f.offset,i.size)) with
   | some places=>Instr.fill (places[·]?) z.cells vs
   | none=>none)
 | _,_=>none
theorem qeq {fs:List Field}{places:List (Nat × Nat)}(h:fs.mapM (fun f=>(P.info? f.type).map fun i=>(f.offset,i.size))=some places) (w:World) :
  (fs.mapM (fun f=>do pure (f.offset,←sizeOf f.type):Field→Sem (Nat × Nat))).run P w=.ok places w:=by
 induction fs generalizing places with
 | nil=>simp at h;subst h;rfl
 | cons f fs ih =>
  simp only [List.mapM_cons] at h ⊢
  cases hi:P.info? f.type with
  | none=>simp [hi] at h
  | some i =>
   simp only [hi,Option.map_some,Option.bind_eq_bind,Option.bind_some] at h
   cases hr:fs.mapM (fun f=>(P.info? f.type).map fun i=>(f.offset,i.size)) with
   | none=>simp [hr] at h
   | some ps =>
    simp only [hr,Option.bind_some,Option.pure_def,Option.some.injEq] at h
    subst h
    have hs:(sizeOf f.type).run P w=.ok i.size w:=by simp [sizeOf,typeInfo,hi]
    simp only [Sem.run_bind,hs,Result.andThen_ok,Sem.run_pure,ih hr]
theorem qmB {t:Nat}{vs:List (Nat × Value)}{cs:Array Value}(h:buildB P t vs=some cs) (w:World):(Instr.build t vs.toArray).run P w=.ok (.agg cs) w:=by
 unfold buildB at h
 split at h
 ·rename_i fs z hd hz
  split at h
  ·rename_i places hp
   cases hi:P.info? t with
   | none=>simp [hi] at hz
   | some i =>
    simp only [hi,Option.bind_some] at hz
    have h1:=qeq (P:=P) hp w
    have h2:(fs.mapM (fun f=>do pure (f.offset,←sizeOf f.type):Field→Sem (Nat × Nat))).run P w=.ok places.toArray w:=by
     rw [←Array.toArray_toList (xs:=fs),List.mapM_toArray]
     simp only [Sem.run_map,h1,Result.andThen_ok]
    simp only [Instr.build,Sem.run_bind,zeroValue,typeInfo,run_program,Result.andThen_ok,hi,Sem.run_pure,hz,run_underlying hd,h2]
    have h3:(fun x:Nat=>(places.toArray)[x]?)=(fun x:Nat=>places[x]?):=by funext x;simp
    rw [h3,h]
    rfl
  ·cases h
 ·cases h
theorem qgH {t:Nat}{places:List (Nat × Nat)}{zs:List Value}{vs:List (Nat × Value)}{cs:Array Value}(S:StructT P t places) (Z:ZeroT P t zs) (h:Instr.fill (places[·]?) zs.toArray vs=some cs):buildB P t vs=some cs:=by
 have hp:=S.ok
 have hz:=Z.ok
 unfold placesB at hp
 split at hp
 ·rename_i fs hd
  cases hi:(P.info? t).bind (·.zero) with
  | none=>simp [hi] at hz
  | some z =>
   simp only [hi,Option.map_some,Option.some.injEq] at hz
   have hzc:z.cells=zs.toArray:=by rw [←hz]
   simp only [buildB,hd,hi,hp,hzc]
   exact h
 ·cases hp
section
variable {ops:Array Oper}{K:Fr→World→Prop}{r:List Oper}{ρ:Fr}{w w0:World}{d:Nat}{ty:TypeId}{pos:String}{af:Array Edge}{x y z:Operand}{t t':TypeId}{Γ:List HP}{α:Type}
theorem qgI {parts:List (Nat × Operand)}{vs:List (Nat × Value)}{cs:Array Value}{places:List (Nat × Nat)}{zs:List Value} [S:StructT P t places] [Z:ZeroT P t zs] (hp:(parts.map fun p=>(p.1,evl ρ p.2))=vs) (hf:Instr.fill (places[·]?) zs.toArray vs=some cs)
  (h:opsW P ops K r (upd ρ d (.agg cs)) w):opsW P ops K (⟨some d,.build t parts.toArray,ty,pos,af,none⟩::r) ρ w :=
 qiI hp (qmB (qgH S Z hf)) h
theorem qb0 {T:Ty α}{e:TypeId}{xs:List α}{cells:Array Value}{n cap:Nat}(hc:cells.toList=xs.flatMap T.enc++List.replicate 0 undef) (hn:xs.length=n) (hb:n≤big) (hcap:cap=n) (hw:Sat w0 w Γ) :
  Sat w0 (pushW w (.cells cells e)) (OS T e (.slice (some ⟨w.heap.size,0,none⟩) n cap) xs::Γ):=by
 refine hw.push ⟨.inr ⟨w.heap.size,0,n,cap,[],[],rfl,rfl,by rw [T.len,hn],by omega,hb,by simp [hcap],?_⟩,hn⟩
 simp at hc
 simp [←hc]
theorem qer:∀ (vs:List Value) (k off:Nat) (cs:List Value),off+k+vs.length≤cs.length →
  (vs.zipIdx k).foldl (fun (cs:Array Value) (x:Value × Nat)=>cs.setIfInBounds (off+x.2) x.1) cs.toArray=(cs.take (off+k)++vs++cs.drop (off+k+vs.length)).toArray
 | [],k,off,cs,_=>by simp
 | v::vs,k,off,cs,h=>by
  simp only [List.length_cons] at h
  rw [List.zipIdx_cons,List.foldl_cons]
  have e:(cs.toArray.setIfInBounds (off+k) v)=(cs.set (off+k) v).toArray:=by simp
  simp only
  rw [e,qer vs (k+1) off _ (by simp;omega)]
  congr 1
  rw [show off+(k+1)=off+k+1 from by omega,List.take_succ_eq_append_getElem (by simp;omega),List.take_set_of_le (by omega),List.drop_set_of_lt (by omega)]
  simp
  congr 1
  omega
theorem qes {place:Nat→Option (Nat × Nat)}{i off size:Nat}{v:Value}{cs:List Value}{rest:List (Nat × Value)}(hp:place i=some (off,size)) (hs:v.cells.size=size) (ho:off+size≤cs.length) :
  Instr.fill place cs.toArray ((i,v)::rest)=Instr.fill place (cs.take off++v.cells.toList++cs.drop (off+size)).toArray rest:=by
 have h1:¬(v.cells.size≠size || off+v.cells.size>cs.toArray.size)=true:=by simp [hs];omega
 rw [Instr.fill,hp]
 simp only
 rw [if_neg h1]
 congr 1
 have:=qer v.cells.toList 0 off cs (by simp [hs];omega)
 rw [←Array.foldl_toList]
 simp only [Array.toList_zipIdx]
 simp only [Nat.add_zero,Array.length_toList,hs] at this
 exact this
theorem qdZ {sz:Nat}:∀ (vs:List Value) (k:Nat) (dn rest:List Value),(∀ v∈vs,v.cells.size=sz)→dn.length=k*sz→rest.length=vs.length*sz →
  Instr.fill (fun i=>some (i*sz,sz)) (dn++rest).toArray ((vs.zipIdx k).map fun x=>(x.2,x.1))=some (dn++vs.flatMap (·.cells.toList)).toArray
 | [],k,dn,rest,_,_,hr=>by
  simp at hr;subst hr;simp [Instr.fill]
 | v::vs,k,dn,rest,hv,hd,hr=>by
  have hsz:=hv v (by simp)
  simp only [List.length_cons,Nat.add_mul,Nat.one_mul] at hr
  rw [List.zipIdx_cons,List.map_cons,qes (off:=k*sz) (size:=sz) rfl hsz (by simp;omega)]
  have h1:(dn++rest).take (k*sz)=dn:=by rw [←hd];simp
  have h2:(dn++rest).drop (k*sz+sz)=rest.drop sz:=by rw [←hd,List.drop_append];simp
  rw [h1,h2,qdZ vs (k+1) (dn++v.cells.toList) (rest.drop sz) (fun u hu=>hv u (by simp [hu])) (by simp [hd,hsz,Nat.add_mul]) (by simp;omega)]
  simp [List.flatMap_cons]
theorem qbM {T:Ty α}(xs:List α) (vs:List Value) {e sz by_ len:Nat}{parts:List (Nat × Operand)}{zs:List Value} [S:SliceT P t e sz by_] [Z:ZeroT P e zs] (hp:(parts.map fun p=>(p.1,evl ρ p.2))=(vs.zipIdx 0).map fun x=>(x.2,x.1))
  (hx:vs.flatMap (·.cells.toList)=xs.flatMap T.enc) (hvs:vs.all (fun v=>v.cells.size == sz)=true) (hlen:vs.length=len) (hxl:xs.length=len) (hsm:len*sz≤16777216) (hpos:0<len*sz) (hbig:len≤16777216) (hw:Sat w0 w Γ)
  (h:∀ s w',Sat w0 w' (OS T e s xs::Γ)→opsW P ops K r (upd ρ d s) w'):opsW P ops K (⟨some d,.buildSlice t len parts.toArray,ty,pos,af,none⟩::r) ρ w:=by
 refine qat rfl ?_
 obtain⟨zv,hz',hzr⟩:=Z.zero
 have:(Array.map (fun x:Nat × Operand=>match x with|(i,x)=>(i,evl ρ x)) parts.toArray)=((vs.zipIdx 0).map fun x=>(x.2,x.1)).toArray:=by rw [←hp];simp
 have h0:¬(len*sz=0):=by omega
 have h1:¬(len*sz>2 ^ 24):=by omega
 have hf:Instr.fill (fun i=>some (i*sz,sz)) ((Array.range (len*sz)).map (zs.toArray[· % zs.toArray.size]!)) ((vs.zipIdx 0).map fun x=>(x.2,x.1))=some (xs.flatMap T.enc).toArray:=by
  have:=qdZ (sz:=sz) vs 0 [] ((Array.range (len*sz)).map (zs.toArray[· % zs.toArray.size]!)).toList (fun v hv=>by simpa using List.all_eq_true.1 hvs v hv) (by simp) (by simp [hlen])
  rw [hx] at this
  simp only [List.nil_append,Array.toArray_toList] at this
  exact this
 simp only [opW,execOp,this,Instr.buildSlice,Sem.run_bind,run_underlying S.und,Result.andThen_ok,S.size,h1,if_false,h0,Sem.run_pure,hzr,hz']
 rw [hf]
 simp only [Sem.run_bind,newRow,run_newObj,Result.andThen_ok,Sem.run_pure,opUpon]
 exact h _ _ (qb0 (e:=e) (by simp) hxl (by unfold big;omega) rfl hw)
theorem qam (T:Ty α) {x1:α}{e sz by_:Nat}{v:Value}{zs:List Value} [S:SliceT P t e sz by_] [Z:ZeroT P e zs] (hp:evl ρ x=v) (hx:v.cells.toList=T.enc x1) (hvs:sz=T.sz) (hsm:sz≤16777216) (hpos:0<sz) (hw:Sat w0 w Γ)
  (h:∀ s w',Sat w0 w' (OS T e s [x1]::Γ)→opsW P ops K r (upd ρ d s) w'):opsW P ops K (⟨some d,.buildSlice t 1 #[(0,x)],ty,pos,af,none⟩::r) ρ w:=by
 have hs:v.cells.size=sz:=by
  have:=T.ok x1
  rw [←hx,←hvs] at this
  simpa using this
 exact qbM (parts:=[(0,x)]) [x1] [v] (by simp [hp]) (by simp [hx]) (by simp [hs]) rfl rfl (by omega) (by omega) (by omega) hw h
def setsL (zs:List Value) (l:List (Nat × Value)):List Value:=l.foldl (fun cs p=>cs.set p.1 p.2) zs
def onesB (places:List (Nat × Nat)) (n:Nat):Bool:=decide (places=(List.range n).map fun i=>(i,1))
theorem qgJ {places:List (Nat × Nat)}{n:Nat}(ho:onesB places n=true):∀ (l:List (Nat × Value)) (cs:List Value),cs.length=n→l.all (fun p=>decide (p.1<n) && p.2.oneCell')=true→Instr.fill (places[·]?) cs.toArray l=some (setsL cs l).toArray
 | [],cs,_,_=>by simp [Instr.fill,setsL]
 | (i,v)::l,cs,hc,hl=>by
  simp only [List.all_cons,Bool.and_eq_true,decide_eq_true_eq] at hl
  have hv:v.cells=#[v]:=by
   have:=hl.1.2
   cases v <;> first|rfl|(simp [Value.oneCell'] at this)
  have hp:places[i]? = some (i,1):=by
   have:=of_decide_eq_true ho
   rw [this];simp [hl.1.1]
  rw [qes hp (by rw [hv];rfl) (by omega),hv]
  have e:cs.take i++#[v].toList++cs.drop (i+1)=cs.set i v:=by
   rw [List.set_eq_take_append_cons_drop,if_pos (by omega)];simp
  rw [e,qgJ ho l (cs.set i v) (by simpa using hc) hl.2]
  rfl
theorem qap {parts:List (Nat × Operand)}{vs:List (Nat × Value)}{places:List (Nat × Nat)}{zs:List Value} [S:StructT P t places] [Z:ZeroT P t zs] (hp:(parts.map fun p=>(p.1,evl ρ p.2))=vs) (ho:onesB places zs.length=true) (hv:vs.all (fun p=>decide (p.1<zs.length) && p.2.oneCell')=true)
  (h:opsW P ops K r (upd ρ d (.agg (setsL zs vs).toArray)) w):opsW P ops K (⟨some d,.build t parts.toArray,ty,pos,af,none⟩::r) ρ w :=
 qgI hp (qgJ ho vs zs rfl hv) h
theorem qk6 {i1:Nat}{x1:Operand}{v1:Value}{places:List (Nat × Nat)}{zs:List Value} [S:StructT P t places] [Z:ZeroT P t zs] (h1:evl ρ x1=v1) (ho:onesB places zs.length=true) (hv:[(i1,v1)].all (fun p=>decide (p.1<zs.length) && p.2.oneCell')=true)
  (h:opsW P ops K r (upd ρ d (.agg (setsL zs [(i1,v1)]).toArray)) w):opsW P ops K (⟨some d,.build t #[(i1,x1)],ty,pos,af,none⟩::r) ρ w:=qap (parts:=[(i1,x1)]) (by simp [h1]) ho hv h
theorem qc7 {i1 i2:Nat}{x1 x2:Operand}{v1 v2:Value}{places:List (Nat × Nat)}{zs:List Value} [S:StructT P t places] [Z:ZeroT P t zs] (h1:evl ρ x1=v1) (h2:evl ρ x2=v2) (ho:onesB places zs.length=true) (hv:[(i1,v1),(i2,v2)].all (fun p=>decide (p.1<zs.length) && p.2.oneCell')=true)
  (h:opsW P ops K r (upd ρ d (.agg (setsL zs [(i1,v1),(i2,v2)]).toArray)) w):opsW P ops K (⟨some d,.build t #[(i1,x1),(i2,x2)],ty,pos,af,none⟩::r) ρ w:=qap (parts:=[(i1,x1),(i2,x2)]) (by simp [h1,h2]) ho hv h
theorem qbd {i1 i2 i3:Nat}{x1 x2 x3:Operand}{v1 v2 v3:Value}{places:List (Nat × Nat)}{zs:List Value} [S:StructT P t places] [Z:ZeroT P t zs] (h1:evl ρ x1=v1) (h2:evl ρ x2=v2) (h3:evl ρ x3=v3) (ho:onesB places zs.length=true) (hv:[(i1,v1),(i2,v2),(i3,v3)].all (fun p=>decide (p.1<zs.length) && p.2.oneCell')=true)
  (h:opsW P ops K r (upd ρ d (.agg (setsL zs [(i1,v1),(i2,v2),(i3,v3)]).toArray)) w):opsW P ops K (⟨some d,.build t #[(i1,x1),(i2,x2),(i3,x3)],ty,pos,af,none⟩::r) ρ w:=qap (parts:=[(i1,x1),(i2,x2),(i3,x3)]) (by simp [h1,h2,h3]) ho hv h
theorem qk7 {i1 i2 i3 i4:Nat}{x1 x2 x3 x4:Operand}{v1 v2 v3 v4:Value}{places:List (Nat × Nat)}{zs:List Value} [S:StructT P t places] [Z:ZeroT P t zs] (h1:evl ρ x1=v1) (h2:evl ρ x2=v2) (h3:evl ρ x3=v3) (h4:evl ρ x4=v4) (ho:onesB places zs.length=true) (hv:[(i1,v1),(i2,v2),(i3,v3),(i4,v4)].all (fun p=>decide (p.1<zs.length) && p.2.oneCell')=true)
  (h:opsW P ops K r (upd ρ d (.agg (setsL zs [(i1,v1),(i2,v2),(i3,v3),(i4,v4)]).toArray)) w):opsW P ops K (⟨some d,.build t #[(i1,x1),(i2,x2),(i3,x3),(i4,x4)],ty,pos,af,none⟩::r) ρ w:=qap (parts:=[(i1,x1),(i2,x2),(i3,x3),(i4,x4)]) (by simp [h1,h2,h3,h4]) ho hv h
theorem qet {T:Ty α}{z:α}{zs:List Value}(hz:T.enc z=zs) (n:Nat):((Array.range (n*T.sz)).map (zs.toArray[· % zs.toArray.size]!)).toList=(List.replicate n z).flatMap T.enc:=by
 have hl:zs.length=T.sz:=by rw [←hz];exact T.ok z
 apply List.ext_getElem?
 intro i
 by_cases hi:i<n*T.sz
 ·have hpos:0<T.sz:=by
   rcases Nat.eq_zero_or_pos T.sz with h|h
   ·rw [h] at hi;simp at hi
   ·exact h
  have hq:i / T.sz<n:=(Nat.div_lt_iff_lt_mul hpos).2 hi
  have hmod:i % T.sz<T.sz:=Nat.mod_lt _ hpos
  have hsplit:i=i / T.sz*T.sz+i % T.sz:=by rw [Nat.mul_comm];exact (Nat.div_add_mod i T.sz).symm
  have h1:=T.get (List.replicate n z) (i / T.sz) (i % T.sz) (by simpa using hq) hmod
  rw [←hsplit] at h1
  rw [h1]
  have h2:(List.replicate n z).getD (i / T.sz) T.dflt=z:=by simp [List.getD,hq]
  rw [h2,hz]
  have hlt:i % zs.length<zs.length:=by rw [hl];exact hmod
  simp [hi,hl,hmod]
 ·rw [List.getElem?_eq_none (by simp;omega),List.getElem?_eq_none (by rw [T.len];simp;omega)]
theorem qeu (T:Ty α) (z:α) {e sz by_:Nat}{n:Int}{zs:List Value} [S:SliceT P t e sz by_] [Z:ZeroT P e zs] (hx:evl ρ x=.int .i64 n) (hy:evl ρ y=.int .i64 n) (hsz:sz=T.sz) (hz:T.enc z=zs) (h0:0≤n) (hb:by_*n≤281474976710656) (hn:n≤281474976710656) (hw:Sat w0 w Γ)
  (h:∀ s w',Sat w0 w' (OS T e s (List.replicate n.toNat z)::Γ)→opsW P ops K r (upd ρ d s) w'):opsW P ops K (⟨some d,.makeSlice t x y,ty,pos,af,none⟩::r) ρ w:=by
 refine qat rfl ?_
 subst hsz
 obtain⟨zv,hz',hzr⟩:=Z.zero
 obtain⟨i,hi,hs,hby⟩:=S.info
 have hwr:IntKind.i64.wrap n=n:=qcH (by omega) (by omega)
 have h1:¬(n<0):=by omega
 have h2:¬(281474976710656<(by_:Int)*n):=by omega
 have hcond:((n<0 || (i.bytes:Int)*n>2 ^ 48) || n<0 || n>n)=false:=by simp [hby];omega
 simp only [opW,execOp,hx,hy,Instr.makeSlice,Sem.run_bind,run_underlying S.und,Result.andThen_ok,asInt,asIntOf,Sem.run_pure,typeInfo,run_program,hi,hwr,hcond,Bool.false_eq_true,if_false,run_askRoom,S.size]
 have hcells:∀ (z0:Array Value),(n.toNat*T.sz=0∨z0=zs.toArray)→((Array.range (n.toNat*T.sz)).map (z0[· % z0.size]!)).toList=(List.replicate n.toNat z).flatMap T.enc:=by
  intro z0 h
  rcases h with h|h
  ·rw [h]
   have:((List.replicate n.toNat z).flatMap T.enc).length=0:=by rw [T.len];simpa using h
   rw [List.eq_nil_of_length_eq_zero this];simp
  ·rw [h];exact qet hz n.toNat
 by_cases hz0:n.toNat*T.sz=0
 ·simp only [hz0,if_true,Sem.run_pure,Result.andThen_ok,newRow,Sem.run_bind,run_newObj,opUpon]
  have:=hcells #[] (.inl hz0)
  rw [hz0] at this
  exact h _ _ (qb0 (T:=T) (e:=e) (by rw [this];simp) (by simp) (by unfold big;omega) rfl hw)
 ·simp only [hz0,if_false,Sem.run_bind,hzr,Sem.run_pure,Result.andThen_ok,newRow,run_newObj,opUpon,hz']
  exact h _ _ (qb0 (T:=T) (e:=e) (by rw [hcells _ (.inr rfl)];simp) (by simp) (by unfold big;omega) rfl hw)
end
end
end Go.Sl
/-
  Slices of slices, append, rows of rows.
-/
namespace Go.Sl
open Go.RowKit (Below)
section
variable {P:Program}
@[irreducible] def vget (ss:List Value) (i:Nat):Value:=ss.getD i undef
theorem qaR (ss:List Value) (i:Nat):vget ss i=ss.getD i undef:=by unfold vget;rfl
theorem qcy {i:Nat}{ρ:Fr}{w:World}{ty:TypeId}{pos:String}{af:Array Edge}{g:Option (Nat × Bool)}{dst:Option Nat}{x:Operand}{t:TypeId}{s:Value}{xs:List Value} [C:CellT P t] (hx:evl ρ x=.pointer (some (eadr tVal s i))) (h:RS tVal w s xs) (hi:i<xs.length):ReadV P ⟨dst,.load t x,ty,pos,af,g⟩ ρ w (vget xs i) :=
 qdu hx h hi (by rw [qaR];rfl)
def ssub (s:Value) (sz lo hi:Nat):Value:=match s with
 | .slice a _ cap=>.slice (if cap=lo then a else a.map (·.add (lo*sz))) (hi-lo) (cap-lo)
 | v=>v
def cut {α:Type}(xs:List α) (lo hi:Nat):List α:=(xs.take hi).drop lo
theorem qcb {α:Type}{xs:List α}{lo hi:Nat}(h:hi≤xs.length):(cut xs lo hi).length=hi-lo:=by simp [cut];omega
theorem Ty.drop {α:Type}(T:Ty α):∀ (xs:List α) (k:Nat),(xs.flatMap T.enc).drop (k*T.sz)=(xs.drop k).flatMap T.enc
 | xs,0=>by simp
 | [],k+1=>by simp
 | x::xs,k+1=>by
  have h:=T.ok x
  have ih:=T.drop xs k
  rw [List.drop_succ_cons,List.flatMap_cons,←ih,List.drop_append,List.drop_eq_nil_of_le (by rw [h,Nat.add_mul];omega),h]
  simp only [List.nil_append];congr 1;rw [Nat.add_mul];omega
theorem Ty.take {α:Type}(T:Ty α):∀ (xs:List α) (k:Nat),(xs.flatMap T.enc).take (k*T.sz)=(xs.take k).flatMap T.enc
 | xs,0=>by simp
 | [],k+1=>by simp
 | x::xs,k+1=>by
  have h:=T.ok x
  have ih:=T.take xs k
  rw [List.take_succ_cons,List.flatMap_cons,List.flatMap_cons,←ih,List.take_append,List.take_of_length_le (by rw [h,Nat.add_mul];omega),h]
  congr 2;rw [Nat.add_mul];omega
theorem Ty.cut {α:Type}(T:Ty α) (xs:List α) (lo hi:Nat):Sl.cut (xs.flatMap T.enc) (lo*T.sz) (hi*T.sz)=(Sl.cut xs lo hi).flatMap T.enc:=by
 simp only [Sl.cut,T.take,T.drop]
theorem qbw {b off k:Nat}:(⟨b,off,none⟩:Addr).add k=⟨b,off+k,none⟩:=by unfold Addr.add;split <;> simp_all
theorem qdo {p:Addr}(h:p.spot=none) (k:Nat):p.add k=⟨p.block,p.off+k,none⟩:=by
 obtain⟨b,off,sp⟩:=p;simp only at h;subst h;exact qbw
theorem qm3 {s:Value}{e:TypeId}{sz:Nat}{vs:List Value}{h:PH}{lo hi:Nat}(ho:Own s e sz vs h) (h1:lo≤hi) (h2:hi≤slen s):Own (ssub s sz lo hi) e sz (cut vs (lo*sz) (hi*sz)) h:=by
 rcases ho with ⟨rfl,rfl⟩|⟨b,off,n,cap,pre,post,rfl,hpre,hlen,hnc,hbig,hpost,hb⟩
 ·simp only [slen] at h2
  have:lo=0:=by omega
  have:hi=0:=by omega
  subst lo hi
  left;simp [ssub,cut]
 ·simp only [slen] at h2
  right
  have hm1:lo*sz≤hi*sz:=Nat.mul_le_mul_right _ h1
  have hm2:hi*sz≤n*sz:=Nat.mul_le_mul_right _ h2
  have hcl:(cut vs (lo*sz) (hi*sz)).length=(hi-lo)*sz:=by rw [qcb (by omega),Nat.sub_mul]
  have hsplit:vs=vs.take (lo*sz)++cut vs (lo*sz) (hi*sz)++vs.drop (hi*sz):=by
   have e1:vs.take (lo*sz)=(vs.take (hi*sz)).take (lo*sz):=by rw [List.take_take];congr 1;omega
   rw [e1]
   simp only [cut,List.take_append_drop]
  by_cases hc:cap=lo
  ·subst hc
   have:hi=cap:=by omega
   subst this
   refine⟨b,off,0,0,pre,vs++post,by simp [ssub],hpre,by rw [hcl];simp,Nat.le_refl _,Nat.zero_le _,by simp,?_⟩
   have hcn:cut vs (hi*sz) (hi*sz)=[]:=by apply List.eq_nil_of_length_eq_zero;rw [hcl];simp
   rw [hb,hcn];simp
  ·refine⟨b,off+lo*sz,hi-lo,cap-lo,pre++vs.take (lo*sz),vs.drop (hi*sz)++post,by simp [ssub,hc,qbw],by simp [hpre];omega,hcl,by omega,by omega,?_,?_⟩
   ·simp only [List.length_append,List.length_drop,hlen]
    have:(cap-lo-(hi-lo))*sz=(n-hi)*sz+(cap-n)*sz:=by rw [←Nat.add_mul];congr 1;omega
    have h3:(n-hi)*sz=n*sz-hi*sz:=Nat.sub_mul _ _ _
    omega
   ·rw [hb]
    congr 3
    conv=>lhs;rw [hsplit]
    simp
theorem qok {α:Type}{T:Ty α}{e:TypeId}{s:Value}{xs:List α}{h:PH}{lo hi:Nat}(ho:OS T e s xs h) (h1:lo≤hi) (h2:hi≤xs.length):OS T e (ssub s T.sz lo hi) (cut xs lo hi) h:=by
 have hl:=ho.2
 refine⟨by rw [←T.cut];exact qm3 ho.1 h1 (by omega),?_⟩
 rw [qcb h2]
 have:=ho.1
 rcases this with ⟨rfl,_⟩|⟨b,off,n,cap,pre,post,rfl,_⟩
 ·simp only [slen] at hl;simp [ssub,slen]
 ·simp [ssub,slen]
theorem qbR {α:Type}{T:Ty α}{w:World}{s:Value}{xs:List α}{lo hi:Nat}(ho:RS T w s xs) (h1:lo≤hi) (h2:hi≤xs.length):RS T w (ssub s T.sz lo hi) (cut xs lo hi):=by
 obtain⟨⟨a,n,cap,rfl,hlen,⟨hnc,hbig⟩,hc⟩,hl⟩:=ho
 simp only [slen] at hl
 subst hl
 have hcl:=qcb (lo:=lo) h2
 refine⟨⟨_,hi-lo,cap-lo,rfl,by rw [T.len,hcl],⟨by omega,by omega⟩,fun i v hv => ?_⟩,hcl⟩
 rw [←T.cut] at hv
 have hil:=(List.getElem?_eq_some_iff.1 hv).1
 have hcl2:(cut (xs.flatMap T.enc) (lo*T.sz) (hi*T.sz)).length=hi*T.sz-lo*T.sz:=qcb (by rw [T.len];exact Nat.mul_le_mul_right _ h2)
 have hv':(xs.flatMap T.enc)[lo*T.sz+i]? = some v:=by
  simp only [cut,List.getElem?_drop] at hv
  rw [List.getElem?_take] at hv
  split at hv
  ·exact hv
  ·cases hv
 obtain⟨p,rfl,hsp,hcell⟩:=hc _ _ hv'
 by_cases hcl':cap=lo
 ·subst hcl'
  have:hi*T.sz≤cap*T.sz:=Nat.mul_le_mul_right _ (by omega)
  omega
 ·refine⟨p.add (lo*T.sz),by simp [hcl'],by rw [qdo hsp],?_⟩
  rw [qdo hsp]
  simp only []
  rw [Nat.add_assoc];exact hcell
theorem Sat.sub {w0 w:World}{Γ:List HP}{α:Type}{T:Ty α}{s:Value}{e:TypeId}{xs:List α}{put:HP→List HP}(hw:Sat w0 w Γ) (O:OwnAt Γ s α T e xs put) (lo hi:Nat) (h1:lo≤hi) (h2:hi≤xs.length):Sat w0 w (put (OS T e (ssub s T.sz lo hi) (cut xs lo hi))):=by
 obtain⟨i,hi',hp⟩:=O.foc.ok
 rw [hp]
 exact Sat.back i hi' ((hw.focus i hi').mono fun h ho=>qok ho h1 h2)
section
variable {ops:Array Oper}{K:Fr→World→Prop}{r:List Oper}{ρ:Fr}{w w0:World}{d:Nat}{ty:TypeId}{pos:String}{af:Array Edge}{g:Option (Nat × Bool)}{dst:Option Nat}{x y z:Operand}{t t':TypeId}{Γ:List HP}
variable {α:Type}{T:Ty α}{s:Value}{xs:List α}
theorem qft {e sz by_:Nat}{k:IntKind}{j:Int} [S:SliceT P t e sz by_] (hx:evl ρ x=s) (hy:evl ρ y=.int k j) (h:RS T w s xs) (hz:sz=T.sz) (h0:0≤j) (h1:j≤xs.length) :
  PureV P ⟨dst,.slice t x none (some y) none,ty,pos,af,g⟩ ρ (ssub s T.sz 0 j.toNat):=fun w=>by
 subst hz
 obtain⟨⟨a,n,cap,rfl,_,⟨hnc,_⟩,_⟩,hl⟩:=h
 simp only [slen] at hl
 have hj:j≤cap:=by omega
 simp [execOp,Instr.sliceAt,Instr.slice,Instr.sliceBounds,Instr.sliceBound,asIntOf,hx,hy,run_underlying S.und,h0,hj,S.size,ssub]
theorem qdL {e sz by_:Nat}{k:IntKind}{j:Int} [S:SliceT P t e sz by_] (hx:evl ρ x=s) (hy:evl ρ y=.int k j) (h:RS T w s xs) (hz:sz=T.sz) (h0:0≤j) (h1:j≤xs.length) :
  PureV P ⟨dst,.slice t x (some y) none none,ty,pos,af,g⟩ ρ (ssub s T.sz j.toNat xs.length):=fun w=>by
 subst hz
 obtain⟨⟨a,n,cap,rfl,_,⟨hnc,_⟩,_⟩,hl⟩:=h
 simp only [slen] at hl
 have hj:j≤n:=by omega
 simp [execOp,Instr.sliceAt,Instr.slice,Instr.sliceBounds,Instr.sliceBound,asIntOf,hx,hy,run_underlying S.und,h0,hj,S.size,ssub,hl]
theorem qdM {e sz by_:Nat}{k k':IntKind}{i j:Int} [S:SliceT P t e sz by_] (hx:evl ρ x=s) (hy:evl ρ y=.int k i) (hz':evl ρ z=.int k' j) (h:RS T w s xs) (hz:sz=T.sz) (h0:0≤i) (hij:i≤j) (h1:j≤xs.length) :
  PureV P ⟨dst,.slice t x (some y) (some z) none,ty,pos,af,g⟩ ρ (ssub s T.sz i.toNat j.toNat):=fun w=>by
 subst hz
 obtain⟨⟨a,n,cap,rfl,_,⟨hnc,_⟩,_⟩,hl⟩:=h
 simp only [slen] at hl
 have hj:j≤cap:=by omega
 have hj0:0≤j:=by omega
 have hi:i≤max j 0:=by omega
 simp [execOp,Instr.sliceAt,Instr.slice,Instr.sliceBounds,Instr.sliceBound,asIntOf,hx,hy,hz',run_underlying S.und,h0,hj,hj0,hi,S.size,ssub]
theorem qeR {e sz by_:Nat} [S:SliceT P t e sz by_] (hx:evl ρ x=s) (h:RS T w s xs) (hz:sz=T.sz) :
  PureV P ⟨dst,.slice t x none none none,ty,pos,af,g⟩ ρ (ssub s T.sz 0 xs.length):=fun w=>by
 subst hz
 obtain⟨⟨a,n,cap,rfl,_,⟨hnc,_⟩,_⟩,hl⟩:=h
 simp only [slen] at hl
 simp [execOp,Instr.sliceAt,Instr.slice,Instr.sliceBounds,Instr.sliceBound,hx,run_underlying S.und,S.size,ssub,hl]
theorem qbo {s:Value}{sz:Nat}{vs:List Value}{n:Nat}(h:RSl w s sz vs) (hn:slen s=n) (w':World) (hw':w'.heap=w.heap):(Builtin.firstCells sz n s).run P w'=.ok vs.toArray w':=by
 obtain⟨a,n',cap,rfl,hlen,_,hc⟩:=h
 simp only [slen] at hn;subst hn
 cases a with
 | none =>
  have:vs=[]:=by
   apply List.eq_nil_iff_length_eq_zero.2
   rcases Nat.eq_zero_or_pos vs.length with h|h
   ·exact h
   ·obtain⟨p,hp,_⟩:=hc 0 _ (List.getElem?_eq_getElem h);cases hp
  subst this
  simp [Builtin.firstCells]
 | some p =>
  refine run_firstCells_some (P:=P) w' sz n' p n' cap vs hlen fun j v hv => ?_
  obtain⟨p',hp',hsp,hcell⟩:=hc j v hv
  cases hp'
  rw [qdo hsp]
  simpa [World.cell?,hw'] using hcell
theorem Sat.renew {A':HP}{i:Nat}{A:HP}{o:Obj}(hw:Sat w0 w Γ) (hi:Γ[i]? = some A) (ha:A' (fun x=>if x=w.heap.size then some o else none)):Sat w0 (pushW w o) (Γ.set i A'):=by
 have h1:=(hw.push ha).focus (i+1) (A:=A) (by simpa using hi)
 exact Sat.back i hi h1.tail
theorem qbe {e sz by_:Nat}{s2:Value}{ys:List α}{zs:List Value}{put:HP→List HP} [S:SliceT P t e sz by_] [Z:ZeroT P e zs] (O:OwnAt Γ s α T e xs put) (hx:evl ρ x=s) (hy:evl ρ y=s2) (h2:RS T w s2 ys) (hsz:sz=T.sz) (hzl:zs.length=sz)
  (hone:∀ x∈ys,∀ v∈T.enc x,v.oneCell'=true) (hb:(xs.length+ys.length)*by_≤140737488355328) (hl:xs.length+ys.length≤big) (hw:Sat w0 w Γ)
  (h:∀ s' w',Sat w0 w' (put (OS T e s' (xs++ys)))→opsW P ops K r (upd ρ d s') w'):opsW P ops K (⟨some d,.call { callee:=.builtin .append,args:=#[x,y],argTypes:=#[t,t] },ty,pos,af,none⟩::r) ρ w:=by
 refine qat rfl ?_
 subst hsz
 obtain⟨i,hi,hp⟩:=O.foc.ok
 simp only [hp] at h
 obtain⟨inf,hinf,hs,hby⟩:=S.info
 obtain⟨zv,hzv,hzr⟩:=Z.zero
 have h1:=hw.rs i hi
 obtain⟨ph,hph,hown⟩:=hw.at i hi
 obtain⟨a2,cap2,hs2⟩:=h2.shape
 have hfc2:∀ w':World,w'.heap=w.heap→(Builtin.firstCells T.sz ys.length s2).run P w'=.ok (ys.flatMap T.enc).toArray w':=fun w' hw'=>qbo h2.1 h2.2.symm w' hw'
 have hfc1:∀ w':World,w'.heap=w.heap→(Builtin.firstCells T.sz xs.length s).run P w'=.ok (xs.flatMap T.enc).toArray w':=fun w' hw'=>qbo h1.1 h1.2.symm w' hw'
 have hgrow:∀ (a:Option Addr) (cap:Nat),s=.slice a xs.length cap→cap<xs.length+ys.length →
   (execOp (evl ρ) ⟨some d,.call { callee:=.builtin .append,args:=#[x,y],argTypes:=#[t,t] },ty,pos,af,none⟩).run P w =
   .ok (.value (.slice (some ⟨w.heap.size,0,none⟩) (xs.length+ys.length) (grownCap w (xs.length+ys.length) cap e))) (pushW w.drew (.cells ((xs.flatMap T.enc).toArray++(ys.flatMap T.enc).toArray++Builtin.zeroCells zs.toArray (grownCap w (xs.length+ys.length) cap e-(xs.length+ys.length))) e)):=by
  intro a cap hsh hcap
  have hn:¬(xs.length+ys.length≤cap):=by omega
  have h63':¬(9223372036854775807<((xs.length:Int)+(ys.length:Int))):=by unfold big at hl;omega
  have hfit:=growslice_fits (bytes:=by_) hcap hb
  have h48':¬(281474976710656<Builtin.nextslicecap (xs.length+ys.length) cap*by_):=by omega
  have hq:(Question.appendCap (xs.length+ys.length) cap e).forced=false:=rfl
  rw [hsh] at hfc1
  rw [hs2] at hfc2
  simp [execOp,resolve,invoke,builtin,Builtin.append_,hx,hy,hsh,hs2,run_underlying S.und,S.size,typeInfo,hinf,hby,Builtin.lenOf,hn,h63',h48',hq,hfc1,hfc2,hzr,hzv,grownCap]
  rw [hfc1 w.drew rfl]
  simp only [Result.andThen_ok]
  rw [hfc2 w.drew rfl]
  have hlist:∀ (X Y:List Value) (Z:Array Value),X.toArray++(Y.toArray++Z)=(X++Y).toArray++Z:=fun X Y Z=>by apply Array.ext';simp only [Array.toList_append,List.append_assoc]
  simp only [newRow,Sem.run_bind,run_newObj,Result.andThen_ok,Sem.run_pure]
  rw [hlist]
  rfl
 simp only [opW]
 rcases hown with ⟨hown,hlen⟩
 have hnew:∀ cap,cap<xs.length+ys.length→Sat w0 (pushW w.drew (.cells ((xs.flatMap T.enc).toArray++(ys.flatMap T.enc).toArray++Builtin.zeroCells zs.toArray (grownCap w (xs.length+ys.length) cap e-(xs.length+ys.length))) e)) (Γ.set i (OS T e (.slice (some ⟨w.heap.size,0,none⟩) (xs.length+ys.length) (grownCap w (xs.length+ys.length) cap e)) (xs++ys))):=by
  intro cap hcap
  have hge:=grownCap_ge w (xs.length+ys.length) cap e
  refine Sat.renew (w:=w.drew) hw.drew hi ⟨.inr ⟨w.heap.size,0,_,_,[],(Builtin.zeroCells zs.toArray (grownCap w (xs.length+ys.length) cap e-(xs.length+ys.length))).toList,rfl,rfl,by rw [T.len];simp,hge,hl,?_,?_⟩,by simp [slen]⟩
  ·simp [size_zeroCells,hzl]
  ·simp
 rcases hown with ⟨rfl,hnil⟩|⟨b,off,n,cap,pre,post,rfl,hpre,hlen',hnc,hbig,hpost,hb'⟩
 ·simp only [slen] at hlen
  by_cases hys:ys.length=0
  ·have hy0:=List.eq_nil_of_length_eq_zero hys
   subst hy0
   have hr:(execOp (evl ρ) ⟨some d,.call { callee:=.builtin .append,args:=#[x,y],argTypes:=#[t,t] },ty,pos,af,none⟩).run P w=.ok (.value (.slice none 0 0)) w:=by
    have hfc2':=hfc2 w rfl
    rw [hs2] at hfc2'
    simp only [List.length_nil] at hfc2'
    simp [execOp,resolve,invoke,builtin,Builtin.append_,hx,hy,hs2,run_underlying S.und,S.size,Builtin.lenOf,hfc2']
   rw [hr]
   refine h _ _ ?_
   have:xs=[]:=List.eq_nil_of_length_eq_zero hlen
   subst this
   simp only [List.append_nil]
   rw [show Γ.set i (OS T e (.slice none 0 0) [])=Γ from ?_]
   ·exact hw
   ·apply List.ext_getElem?
    intro k
    rw [List.getElem?_set]
    split
    ·rename_i hk;subst hk;split
     ·rw [hi]
     ·rename_i hk;rw [List.getElem?_eq_none (by omega)]
    ·rfl
  ·rw [hgrow none 0 (by rw [hlen]) (by omega)]
   exact h _ _ (hnew 0 (by omega))
 ·simp only [slen] at hlen
  subst hlen
  by_cases hroom:xs.length+ys.length≤cap
  ·have hfc2':=hfc2 w rfl
   rw [hs2] at hfc2'
   have hlx:(xs.flatMap T.enc).length=xs.length*T.sz:=T.len xs
   have hly:(ys.flatMap T.enc).length=ys.length*T.sz:=T.len ys
   have hm:xs.length*T.sz+ys.length*T.sz≤xs.length*T.sz+(cap-xs.length)*T.sz:=by
    have:ys.length*T.sz≤(cap-xs.length)*T.sz:=Nat.mul_le_mul_right _ (by omega)
    omega
   have hst:=qaz (P:=P) (bt:=e) (ys.flatMap T.enc) (off+xs.length*T.sz) 0 (pre++xs.flatMap T.enc++post) w (by
    intro v hv
    obtain⟨x',hx',hv'⟩:=List.mem_flatMap.1 hv
    exact hone x' hx' v hv') (by simp only [List.length_append,hlx,hly];omega) (hph _ _ hb').1
   have hr:(execOp (evl ρ) ⟨some d,.call { callee:=.builtin .append,args:=#[x,y],argTypes:=#[t,t] },ty,pos,af,none⟩).run P w=.ok (.value (.slice (some ⟨b,off,none⟩) (xs.length+ys.length) cap)) (putB w b (.cells ((pre++xs.flatMap T.enc++post).take (off+xs.length*T.sz+0)++ys.flatMap T.enc++(pre++xs.flatMap T.enc++post).drop (off+xs.length*T.sz+0+(ys.flatMap T.enc).length)).toArray e (0,0))):=by
    simp only [execOp,resolve,invoke,builtin,Builtin.append_,hx,hy,hs2,Sem.run_bind,Sem.run_pure,Result.andThen_ok,List.map_toArray,List.map_cons,List.map_nil,run_underlying S.und,S.size,Builtin.lenOf]
    simp [hfc2',hroom,qbw,run_underlying S.und,Builtin.lenOf,S.size]
    rw [hst]
    simp
   rw [hr]
   have h1':(pre++xs.flatMap T.enc++post).take (off+xs.length*T.sz+0)=pre++xs.flatMap T.enc:=by
    rw [List.take_append_of_le_length (by simp only [List.length_append,hlx];omega)]
    exact List.take_of_length_le (by simp only [List.length_append,hlx];omega)
   have h2':(pre++xs.flatMap T.enc++post).drop (off+xs.length*T.sz+0+(ys.flatMap T.enc).length)=post.drop (ys.length*T.sz):=by
    rw [List.drop_append,List.drop_eq_nil_of_le (by simp only [List.length_append,hlx,hly];omega)]
    simp only [List.nil_append,List.length_append,hlx,hly];congr 1;omega
   rw [h1',h2']
   refine h _ _ (Sat.back i hi (Sat.put (hw.focus i hi) fun h1 hsub hA => ?_))
   rcases hA with ⟨hA,_⟩
   rcases hA with ⟨hc,_⟩|⟨b1,off1,n1,cap1,pre1,post1,hs1,hpre1,hlen1,hnc1,hbig1,hpost1,hb1⟩
   ·cases hc
   ·cases hs1
    refine⟨⟨_,hb1⟩,.inr ⟨b,off,xs.length+ys.length,cap,pre,post.drop (ys.length*T.sz),rfl,hpre,by rw [T.len,List.length_append],hroom,hl,?_,?_⟩,by simp [slen]⟩
    ·simp only [List.length_drop]
     have:(cap-(xs.length+ys.length))*T.sz=(cap-xs.length)*T.sz-ys.length*T.sz:=by rw [←Nat.sub_mul];congr 1;omega
     omega
    ·simp [hpS]
  ·rw [hgrow _ cap rfl (by omega)]
   exact h _ _ (hnew cap (by omega))
end
theorem RS.one {α:Type}{T:Ty α}{w:World}{s:Value}{xs:List α}(h:RS T w s xs):s.oneCell'=true:=by
 obtain⟨a,cap,rfl⟩:=h.shape;rfl
class OneT {α:Type}(T:Ty α):Prop where
 ok:∀ (x:α) (v:Value),v∈T.enc x→v.oneCell'=true
instance:OneT tInt:=⟨fun _ v hv=>by rw [List.mem_singleton.1 hv];rfl⟩
instance:OneT tBool:=⟨fun _ v hv=>by rw [List.mem_singleton.1 hv];rfl⟩
theorem Foc.app {A:HP}{Δ Γ:List HP}{put:HP→List HP}(h:Foc Γ A put):Foc (Δ++Γ) A (fun A'=>Δ++put A'):=by
 obtain⟨i,hi,hp⟩:=h.ok
 refine⟨Δ.length+i,by rw [List.getElem?_append_right (by omega)];simpa using hi,fun A' => ?_⟩
 rw [hp,List.set_append_right _ _ (by omega)];simp
instance box_app {Δ:List HP}{p:Addr}{t:TypeId}{cells:List Value}{Γ:List HP}{put:HP→List HP} [h:BoxAt Γ p t cells put]:BoxAt (Δ++Γ) p t cells (fun A'=>Δ++put A'):=⟨h.foc.app⟩
instance own_app {Δ:List HP}{α:Type}{T:Ty α}{s:Value}{e:TypeId}{xs:List α}{Γ:List HP}{put:HP→List HP} [h:OwnAt Γ s α T e xs put]:OwnAt (Δ++Γ) s α T e xs (fun A'=>Δ++put A'):=⟨h.foc.app⟩
def RowsAt {α:Type}(T:Ty α) (e:TypeId) (ss:List Value) (xss:List (List α)):HP:=fun h=>ss.length=xss.length∧SatL (List.zipWith (OS T e) ss xss) h
theorem SatL.app {Γ:List HP}:∀ (Δ:List HP) {h1 h2 h:PH},Disj h1 h2→Sub h1 h→Sub h2 h→SatL Δ h1→SatL Γ h2→SatL (Δ++Γ) h:=by
 intro Δ
 induction Δ with
 | nil=>intro h1 h2 h _ _ s2 _ hg;exact hg.sub s2
 | cons A Δ ih =>
  intro h1 h2 h d s1 s2 hd hg
  obtain⟨g1,g2,dg,t1,t2,ha,hr⟩:=hd
  refine⟨g1,hpU g2 h2,fun b => ?_,t1.trans s1,fun b o hb => ?_,ha,ih (h1:=g2) (h2:=h2) (d.symm.sub t2).symm (fun b o hb=>by simp [hpU,hb]) (fun b o hb => ?_) hr hg⟩
  ·cases hg1:g1 b with
   | none=>exact .inl rfl
   | some o =>
    right
    have:g2 b=none:=(dg b).resolve_left (by rw [hg1];simp)
    have h2n:h2 b=none:=(d b).resolve_left (by rw [t1 b o hg1];simp)
    simp [hpU,this,h2n]
  ·simp only [hpU] at hb
   split at hb
   ·rename_i o' ho';cases hb;exact s1 b _ (t2 b _ ho')
   ·exact s2 b o hb
  ·simp only [hpU]
   have:g2 b=none:=by
    rcases d b with h|h
    ·cases hg2:g2 b with
     | none=>rfl
     | some o'=>rw [t2 b o' hg2] at h;cases h
    ·rw [hb] at h;cases h
   rw [this];exact hb
theorem SatL.split {Γ:List HP}:∀ (Δ:List HP) {h:PH},SatL (Δ++Γ) h→∃ h1 h2,Disj h1 h2∧Sub h1 h∧Sub h2 h∧SatL Δ h1∧SatL Γ h2:=by
 intro Δ
 induction Δ with
 | nil=>intro h hh;exact⟨fun _=>none,h,fun _=>.inl rfl,fun _ _ hb=>(by simp at hb),Sub.refl _,trivial,hh⟩
 | cons A Δ ih =>
  intro h hh
  obtain⟨g1,g2,dg,t1,t2,ha,hr⟩:=hh
  obtain⟨k1,k2,dk,u1,u2,hd,hg⟩:=ih hr
  refine⟨hpU g1 k1,k2,fun b => ?_,fun b o hb => ?_,u2.trans t2,⟨g1,k1,dg.sub u1,fun b o hb=>by simp [hpU,hb],fun b o hb => ?_,ha,hd⟩,hg⟩
  ·rcases dk b with h|h
   ·rcases dg b with h'|h'
    ·left;simp [hpU,h',h]
    ·right;cases hk:k2 b with
     | none=>rfl
     | some o=>rw [u2 b o hk] at h';cases h'
   ·exact .inr h
  ·simp only [hpU] at hb
   split at hb
   ·rename_i o' ho';cases hb;exact t1 b _ ho'
   ·exact t2 b o (u1 b o hb)
  ·simp only [hpU]
   rcases dg b with h|h
   ·rw [h];exact hb
   ·rw [u1 b o hb] at h;cases h
variable {w w0:World}{Γ:List HP}{α:Type}{T:Ty α}{e:TypeId}{ss:List Value}{xss:List (List α)}
theorem Sat.flat (h:Sat w0 w (RowsAt T e ss xss::Γ)):ss.length=xss.length∧Sat w0 w (List.zipWith (OS T e) ss xss++Γ):=by
 obtain⟨h1,h2,d,s1,s2,⟨hl,ha⟩,hg⟩:=h.sat
 exact⟨hl,h.below,SatL.app _ d s1 s2 ha hg⟩
theorem Sat.unflat (hl:ss.length=xss.length) (h:Sat w0 w (List.zipWith (OS T e) ss xss++Γ)):Sat w0 w (RowsAt T e ss xss::Γ):=by
 obtain⟨h1,h2,d,s1,s2,ha,hg⟩:=h.sat.split
 exact⟨h.below,h1,h2,d,s1,s2,⟨hl,ha⟩,hg⟩
theorem Sat.rows0 (h:Sat w0 w Γ):Sat w0 w (RowsAt T e [] []::Γ):=Sat.unflat rfl h
theorem Sat.rowOut {i:Nat}(hi:i<xss.length) (h:Sat w0 w (RowsAt T e ss xss::Γ)):Sat w0 w (OS T e (vget ss i) (xss.getD i [])::((List.zipWith (OS T e) ss xss).eraseIdx i++Γ)):=by
 obtain⟨hl,h⟩:=h.flat
 have:=h.focus i (A:=OS T e (vget ss i) (xss.getD i [])) (by
  rw [List.getElem?_append_left (by simp;omega)]
  simp [qaR,List.getElem?_zipWith,List.getD,List.getElem?_eq_getElem (show i<ss.length by omega),List.getElem?_eq_getElem hi])
 rwa [List.eraseIdx_append_of_lt_length (by simp;omega)] at this
theorem Sat.rowIn {i:Nat}{s':Value}{xs':List α}(hi:i<xss.length) (hl:ss.length=xss.length) (h:Sat w0 w (OS T e s' xs'::((List.zipWith (OS T e) ss xss).eraseIdx i++Γ))):Sat w0 w (RowsAt T e (ss.set i s') (xss.set i xs')::Γ):=by
 refine Sat.unflat (by simp [hl]) ?_
 have h1:i<(List.zipWith (OS T e) ss xss++Γ).length:=by simp;omega
 rw [←List.eraseIdx_append_of_lt_length (by simp;omega)] at h
 have h2:=Sat.back i (List.getElem?_eq_getElem h1) h
 rw [List.set_append_left _ _ (by simp;omega)] at h2
 have:List.zipWith (OS T e) (ss.set i s') (xss.set i xs')=(List.zipWith (OS T e) ss xss).set i (OS T e s' xs'):=by
  apply List.ext_getElem?
  intro k
  by_cases hk:i=k
  ·subst hk
   rw [List.getElem?_zipWith,List.getElem?_set_self (by omega),List.getElem?_set_self (by omega),List.getElem?_set_self (by simp;omega)]
  ·rw [List.getElem?_zipWith,List.getElem?_set_ne hk,List.getElem?_set_ne hk,List.getElem?_set_ne hk,List.getElem?_zipWith]
 rw [this];exact h2
theorem Sat.only {A:HP}(h:Sat w0 w (A::Γ)):Sat w0 w [A]:=h.tailMono fun _ _=>trivial
theorem Sat.comm {Δ:List HP}(h:Sat w0 w (Δ++Γ)):Sat w0 w (Γ++Δ):=by
 obtain⟨h1,h2,d,s1,s2,ha,hg⟩:=h.sat.split
 exact⟨h.below,SatL.app _ d.symm s2 s1 hg ha⟩
theorem Sat.rowsLen (h:Sat w0 w (RowsAt T e ss xss::Γ)):ss.length=xss.length:=h.flat.1
theorem Sat.row {i:Nat}(hi:i<xss.length) (h:Sat w0 w (RowsAt T e ss xss::Γ)):RS T w (vget ss i) (xss.getD i []):=(h.rowOut hi).rs 0 rfl
theorem Sat.rowPush {s':Value}{xs':List α}(h:Sat w0 w (OS T e s' xs'::RowsAt T e ss xss::Γ)):Sat w0 w (RowsAt T e (ss++[s']) (xss++[xs'])::Γ):=by
 obtain⟨hl,h1⟩:=(Sat.swap h).flat
 refine Sat.unflat (by simp [hl]) ?_
 rw [List.zipWith_append hl]
 simpa using h1
theorem Sat.rowsNil (h:Sat w0 w Γ):∀ n,Sat w0 w (RowsAt T e (List.replicate n (.slice none 0 0)) (List.replicate n [])::Γ)
 | 0=>h.rows0
 | n+1=>by
  rw [List.replicate_succ',List.replicate_succ']
  exact (Sat.nil (T:=T) (e:=e) (Sat.rowsNil h n)).rowPush
end
theorem Sat.rowNew {w0 w:World}{Γ:List HP}{α:Type}{T:Ty α}{e:TypeId}{ss:List Value}{xss:List (List α)}{i:Nat}{s':Value}{xs':List α}(hi:i<xss.length) (h:Sat w0 w (OS T e s' xs'::RowsAt T e ss xss::Γ)):Sat w0 w (RowsAt T e (ss.set i s') (xss.set i xs')::Γ):=by
 have hl:=h.swap.rowsLen
 have h1:=(h.swap.rowOut hi).tail
 have h2:=h1.focus ((List.zipWith (OS T e) ss xss).eraseIdx i).length (A:=OS T e s' xs') (by rw [List.getElem?_append_right (Nat.le_refl _)];simp)
 refine Sat.rowIn hi hl ?_
 rw [List.eraseIdx_append_of_length_le (Nat.le_refl _)] at h2
 simpa using h2
attribute [irreducible] ssub
end Go.Sl
/-
  Calls of methods through an interface value; division.
-/
namespace Go.Sl
def methB (P:Program) (t:Nat) (name:String) (f:Nat) (ptr:Bool) (elem:Nat):Bool :=
 (match P.underlying t with|some (.pointer e)=>e == elem|_=>false) &&
 match P.info? t with
 | some i=>(match i.methods.find? (·.name == name) with
   | some m=>m.path.isEmpty && (match m.func with|some (g,q)=>g == f && q == ptr|none=>false)
   | none=>false)
 | none=>false
class MethT (P:Program) (t:Nat) (name:String) (f:outParam Nat) (ptr:outParam Bool) (elem:outParam Nat):Prop where
 ok:methB P t name f ptr elem=true
section
variable {P:Program}
theorem MethT.rows {t f elem:Nat}{name:String}{ptr:Bool}(h:MethT P t name f ptr elem):P.underlying t=some (.pointer elem)∧∃ i m,P.info? t=some i∧i.methods.find? (·.name == name)=some m∧m.path.toList=[]∧m.path.isEmpty=true∧m.func=some (f,ptr):=by
 have h:=h.ok
 simp only [methB,Bool.and_eq_true] at h
 obtain⟨h1,h2⟩:=h
 refine⟨?_,?_⟩
 ·split at h1
  ·rename_i e he;rw [he];simp at h1;rw [h1]
  ·cases h1
 ·split at h2
  ·rename_i i hi
   split at h2
   ·rename_i m hm
    simp only [Bool.and_eq_true] at h2
    obtain⟨h3,h4⟩:=h2
    split at h4
    ·rename_i g q hg
     simp at h4
     refine⟨i,m,hi,hm,?_,h3,by rw [hg,h4.1,h4.2]⟩
     simpa using h3
    ·cases h4
   ·cases h2
  ·cases h2
theorem qef {t f elem:Nat}{name:String}(M:MethT P t name f true elem) (fuel:Nat) (p:Addr) (w:World):(method (fuel+1) t (.pointer (some p)) name).run P w=.ok (f,.pointer (some p)) w:=by
 obtain⟨hu,i,m,hi,hm,hp,he,hf⟩:=M.rows
 simp only [method,Sem.run_bind,run_typeInfo w hi,Result.andThen_ok,hm,hp,follow,Sem.run_pure,hf,receiverAt,run_underlying hu,Place.get]
theorem qhu {t f elem:Nat}{name:String}(M:MethT P t name f false elem) [C:CellT P elem] (fuel:Nat) {p:Addr}{v:Value}{w:World}(hv:w.cell? p=some v):(method (fuel+1) t (.pointer (some p)) name).run P w=.ok (f,v) w:=by
 obtain⟨hu,i,m,hi,hm,hp,he,hf⟩:=M.rows
 have hs:∀ (a b:String),Builtin.ssaWrapNilChk_ #[t] t #[.pointer (some p),strVal a,strVal b]=pure (.pointer (some p)):=fun _ _=>rfl
 have hl:(loadVar elem p).run P w=.ok v w:=by
  simp only [loadVar,Sem.run_bind,C.plain.1,Result.andThen_ok,Bool.false_eq_true,if_false]
  simp [hv]
 simp only [method,Sem.run_bind,run_typeInfo w hi,Result.andThen_ok,hm,hp,follow,Sem.run_pure,hf,receiverAt,run_underlying hu,Place.get,he,if_true,hs,asAddr,hl]
variable {ops:Array Oper}{K:Fr→World→Prop}{r:List Oper}{ρ:Fr}{w w0:World}{Γ:List HP}{d:Option Nat}{ty:TypeId}{pos:String}{af:Array Edge}{x:Operand}
theorem qeg (P:Program):∃ m,P.types.size+Made.depth=m+1:=⟨P.types.size+(Made.depth-1),by rw [Nat.add_assoc];congr 1⟩
theorem qfc {t f elem:Nat}{name:String}{p:Addr}{xs:List Operand}{ts:Array TypeId}{vs:List Value}{R:Ending→World→Prop} [M:MethT P t name f true elem] [C:CallT P f] (hr:evl ρ x=.iface t (.pointer (some p))) (hx:xs.map (evl ρ)=vs) (hc:Calls P f (.pointer (some p)::vs).toArray w R)
  (h:∀ e w',R e w'→∃ v,e=.returned v∧opsW P ops K r (updo ρ d v) w'):opsW P ops K (⟨d,.call { callee:=.invoke x name,args:=xs.toArray,argTypes:=ts },ty,pos,af,none⟩::r) ρ w:=by
 refine qat rfl ?_
 obtain⟨m,hm⟩:=qeg P
 have hr:(execOp (evl ρ) ⟨d,.call { callee:=.invoke x name,args:=xs.toArray,argTypes:=ts },ty,pos,af,none⟩).run P w=.ok (.enter f (.pointer (some p)::vs).toArray) w:=by
  have e:(#[evl ρ x]++Array.map (evl ρ) xs.toArray)=(.iface t (.pointer (some p))::vs).toArray:=by simp [hr,hx]
  simp only [execOp,resolve,Sem.run_bind,Sem.run_pure,Result.andThen_ok,invoke,e]
  simp only [List.getElem?_toArray,List.getElem?_cons_zero,callMethod,Sem.run_bind,run_program,Result.andThen_ok,hm,qef M,C.run]
  congr 2
  simp
 simp only [opW,hr,opUpon]
 refine Calls.mono hc fun e w' hR => ?_
 obtain⟨v,rfl,hk⟩:=h e w' hR
 exact hk
theorem qaD {t f elem:Nat}{name:String}{p:Addr}{u:Value}{xs:List Operand}{ts:Array TypeId}{vs:List Value}{R:Ending→World→Prop} [M:MethT P t name f false elem] [C:CallT P f] [E:CellT P elem] (hr:evl ρ x=.iface t (.pointer (some p))) (hx:xs.map (evl ρ)=vs) (hu:w.cell? p=some u) (hc:Calls P f (u::vs).toArray w R)
  (h:∀ e w',R e w'→∃ v,e=.returned v∧opsW P ops K r (updo ρ d v) w'):opsW P ops K (⟨d,.call { callee:=.invoke x name,args:=xs.toArray,argTypes:=ts },ty,pos,af,none⟩::r) ρ w:=by
 refine qat rfl ?_
 obtain⟨m,hm⟩:=qeg P
 have hr:(execOp (evl ρ) ⟨d,.call { callee:=.invoke x name,args:=xs.toArray,argTypes:=ts },ty,pos,af,none⟩).run P w=.ok (.enter f (u::vs).toArray) w:=by
  have e:(#[evl ρ x]++Array.map (evl ρ) xs.toArray)=(.iface t (.pointer (some p))::vs).toArray:=by simp [hr,hx]
  simp only [execOp,resolve,Sem.run_bind,Sem.run_pure,Result.andThen_ok,invoke,e]
  simp only [List.getElem?_toArray,List.getElem?_cons_zero,callMethod,Sem.run_bind,run_program,Result.andThen_ok,hm,qhu M m hu,C.run]
  congr 2
  simp
 simp only [opW,hr,opUpon]
 refine Calls.mono hc fun e w' hR => ?_
 obtain⟨v,rfl,hk⟩:=h e w' hR
 exact hk
theorem Sat.box0 {p:Addr}{bt:TypeId}{cells:List Value}{v:Value}{put:HP→List HP}(hw:Sat w0 w Γ) (B:BoxAt Γ p bt cells put) (hv:cells[0]? = some v):w.cell? p=some v:=by
 obtain⟨i,hi,_⟩:=B.foc.ok;exact qbE hw hi hv
theorem qaJ {α:Type}(T:Ty α) {t e sz by_:Nat}{d:Nat} [S:SliceT P t e sz by_] (hw:Sat w0 w Γ) (h:∀ s w',Sat w0 w' (OS T e s []::Γ)→opsW P ops K r (upd ρ d s) w'):opsW P ops K (⟨some d,.buildSlice t 0 #[],ty,pos,af,none⟩::r) ρ w:=by
 refine qat rfl ?_
 simp only [opW,execOp,Instr.buildSlice,Sem.run_bind,run_underlying S.und,Result.andThen_ok,S.size,Sem.run_pure,Nat.zero_mul,Nat.not_lt_zero,if_false,if_true,gt_iff_lt,List.map_toArray,List.map_nil,Instr.fill]
 simp only [Sem.run_bind,newRow,run_newObj,Result.andThen_ok,Sem.run_pure,opUpon]
 exact h _ _ (qb0 (e:=e) (xs:=([]:List α)) (by simp) rfl (by unfold big;omega) rfl hw)
@[irreducible] def eget {α:Type}(T:Ty α) (xs:List α) (i:Nat):α:=xs.getD i T.dflt
theorem qaN {α:Type}(T:Ty α) (xs:List α) (i:Nat):eget T xs i=xs.getD i T.dflt:=by unfold eget;rfl
class ShutT {α:Type}(T:Ty α):Prop where
 ok:True
theorem qbj {α:Type}{T:Ty α}{i n:Nat}{s:Value}{xs:List α}{ty:TypeId}{pos:String}{af:Array Edge}{g:Option (Nat × Bool)}{dst:Option Nat}{t:TypeId} [A:AggT P t n] (hx:evl ρ x=.pointer (some (eadr T s i))) (h:RS T w s xs) (hi:i<xs.length) (hn:n=T.sz) (_O:ShutT T):ReadV P ⟨dst,.load t x,ty,pos,af,g⟩ ρ w (.agg (T.enc (eget T xs i)).toArray):=by
 rw [qaN];exact qbh hx h hi hn
theorem qaW {α:Type}{T:Ty α}{i k:Nat}{v:Value}{s:Value}{xs:List α}{ty:TypeId}{pos:String}{af:Array Edge}{g:Option (Nat × Bool)}{dst:Option Nat}{t:TypeId} [C:CellT P t] (hx:evl ρ x=.pointer (some ((eadr T s i).add k))) (h:RS T w s xs) (hi:i<xs.length) (hk:k<T.sz) (_O:ShutT T) (hv:(T.enc (eget T xs i))[k]? = some v):ReadV P ⟨dst,.load t x,ty,pos,af,g⟩ ρ w v:=by
 rw [qaN] at hv;exact qaS hx h hi hk hv
theorem RS.cells1 {α:Type}{T:Ty α}{w:World}{s:Value}{xs:List α}(h:RS T w s xs):s.cells.toList=[s]:=by
 obtain⟨a,cap,rfl⟩:=h.shape;rfl
class StrT (P:Program) (t:Nat):Prop where
 ok:(match P.underlying t with|some .string=>true|_=>false)=true
theorem StrT.und {t:Nat}(h:StrT P t):P.underlying t=some .string:=by
 have h:=h.ok
 split at h
 ·rename_i he;exact he
 ·cases h
@[irreducible] def bat (b:ByteArray) (i:Nat):Int:=(((b[i]?).getD 0).toNat:Int)
theorem qoo (b:ByteArray) (i:Nat):bat b i=(((b[i]?).getD 0).toNat:Int):=by unfold bat;rfl
theorem qkp {t:TypeId}{ty:TypeId}{pos:String}{af:Array Edge}{g:Option (Nat × Bool)}{dst:Option Nat}{b:ByteArray} [S:StrT P t] (hx:evl ρ x=.string b):PureV P ⟨dst,.call { callee:=.builtin .len,args:=#[x],argTypes:=#[t] },ty,pos,af,g⟩ ρ (.int .i64 b.size):=fun w=>by
 simp [execOp,resolve,invoke,builtin,Builtin.len_,hx,run_underlying S.und,goInt]
theorem qgq {t:TypeId}{ty:TypeId}{pos:String}{af:Array Edge}{g:Option (Nat × Bool)}{dst:Option Nat}{y:Operand}{b:ByteArray}{j:Nat} [S:StrT P t] (hx:evl ρ x=.string b) (hy:evl ρ y=.int .i64 j) (hj:j<b.size):PureV P ⟨dst,.index t x y,ty,pos,af,g⟩ ρ (.int .u8 (bat b j)):=fun w=>by
 have hg:b[j]? = some b[j]:=by simp [hj]
 simp [execOp,Instr.index,hx,hy,asIntOf,run_underlying S.und,qoo,hg]
variable {dst:Option Nat}{t t':TypeId}{g:Option (Nat × Bool)}{y:Operand}{a b:Int}
theorem qnL (hb:0<b) (h0 : -9223372036854775807≤a) (h1:a≤9223372036854775807) : -9223372036854775808≤a.tdiv b∧a.tdiv b≤9223372036854775807:=by
 have h:=Int.natAbs_tdiv_le_natAbs a b
 omega
theorem qm9 (hx:evl ρ x=.int .i64 a) (hy:evl ρ y=.int .i64 b) (hb:0<b) (h0 : -9223372036854775807≤a) (h1:a≤9223372036854775807):PureV P ⟨dst,.binOp .quo t x y t',ty,pos,af,g⟩ ρ (.int .i64 (a.tdiv b)):=fun w=>by
 have hb':b≠0:=by omega
 have:=qnL hb h0 h1
 simp [execOp,eqGuard,binOp,Op.intDiv,hx,hy,hb',qcH this.1 this.2]
theorem qna (hx:evl ρ x=.int .i64 a) (hy:evl ρ y=.int .i64 b) (hb:0<b):PureV P ⟨dst,.binOp .rem t x y t',ty,pos,af,g⟩ ρ (.int .i64 (a.tmod b)):=fun w=>by
 have hb':b≠0:=by omega
 simp [execOp,eqGuard,binOp,Op.intDiv,hx,hy,hb']
end
end Go.Sl
/-
  Several parts as one; parts chosen out of a list; boxes that are only read; fields of fields; pointers compared with nil; structs built of structs.
-/
namespace Go.Sl
section
variable {w0 w:World}{Γ Δ:List HP}
class PickL (Γ:List HP) (A:HP) (Γ':outParam (List HP)):Prop where
 ok:∃ i,Γ[i]? = some A∧Γ'=Γ.eraseIdx i
instance (priority:=high) pick_here {A:HP}{Γ:List HP}:PickL (A::Γ) A Γ:=⟨0,rfl,rfl⟩
instance pick_there {A B:HP}{Γ Γ':List HP} [h:PickL Γ A Γ']:PickL (B::Γ) A (B::Γ'):=by
 obtain⟨i,h1,h2⟩:=h.ok
 exact⟨i+1,by simpa using h1,by simp [h2]⟩
class SelL (Γ Δ:List HP):Prop where
 ok:∀ h,SatL Γ h→SatL Δ h
instance sel_nil {Γ:List HP}:SelL Γ []:=⟨fun _ _=>trivial⟩
instance sel_cons {A:HP}{Γ Γ' Δ:List HP} [p:PickL Γ A Γ'] [s:SelL Γ' Δ]:SelL Γ (A::Δ):=⟨fun h hh=>by
 obtain⟨i,h1,h2⟩:=p.ok
 obtain⟨g1,g2,d,s1,s2,a,g⟩:=hh.focus i h1
 rw [←h2] at g
 exact⟨g1,g2,d,s1,s2,a,s.ok g2 g⟩⟩
theorem Sat.sel [s:SelL Γ Δ] (h:Sat w0 w Γ):Sat w0 w Δ:=⟨h.below,s.ok _ h.sat⟩
def RdH (φ:World→Prop):HP:=fun h=>∀ w:World,(∀ b o,h b=some o→w.heap[b]? = some o)→φ w
theorem Sat.rd {φ:World→Prop}(hφ:∀ w0 w,Sat w0 w Δ→φ w) (h:Sat w0 w (Δ++Γ)):Sat w0 w (RdH φ::Γ):=by
 obtain⟨h1,h2,d,s1,s2,a,g⟩:=SatL.split Δ h.sat
 refine⟨h.below,h1,h2,d,s1,s2,fun w' hw'=>hφ { w' with heap:=#[] } w' ⟨⟨rfl,rfl,rfl,Nat.zero_le _,fun k hk=>absurd hk (Nat.not_lt_zero _)⟩,a.sub fun b o hb => ?_⟩,g⟩
 simp only [newH]
 rw [if_neg (by simp)]
 exact hw' b o hb
theorem Sat.rdE {φ:World→Prop}(h:Sat w0 w Γ) (i:Nat) (hi:Γ[i]? = some (RdH φ)):φ w:=by
 obtain⟨h1,hs,a⟩:=h.at i hi
 exact a w fun b o hb=>(hs b o hb).1
theorem Sat.rd2 {φ ψ χ:World→Prop}(hc:∀ w,φ w→ψ w→χ w) (h:Sat w0 w (RdH φ::RdH ψ::Γ)):Sat w0 w (RdH χ::Γ) :=
 Sat.rd (Δ:=[RdH φ,RdH ψ]) (fun _ w hw=>hc w (hw.rdE 0 rfl) (hw.rdE 1 rfl)) h
theorem Sat.rd0 {φ:World→Prop}(hφ:∀ w,φ w) (h:Sat w0 w Γ):Sat w0 w (RdH φ::Γ):=Sat.rd (Δ:=[]) (fun _ w _=>hφ w) h
def BoxR (w:World) (p:Addr) (cells:List Value):Prop:=∀ j v,cells[j]? = some v→w.cell? (p.add j)=some v
theorem qct {p:Addr}{v:Value}(h:w0.cell? p=some v) (hw:Sat w0 w Γ):w.cell? p=some v:=by
 have hlt:p.block<w0.heap.size:=by
  rcases Nat.lt_or_ge p.block w0.heap.size with h'|h'
  ·exact h'
  ·simp [World.cell?,Array.getElem?_eq_none h'] at h
 rw [hw.below.cell hlt];exact h
theorem BoxR.at {p:Addr}{cells:List Value}(h:BoxR w0 p cells) (hw:Sat w0 w Γ):BoxR w p cells:=fun j v hv=>qct (h j v hv) hw
theorem Sat.boxR {p:Addr}{t:TypeId}{cells:List Value}(hw:Sat w0 w Γ) (i:Nat) (hi:Γ[i]? = some (Box p t cells)):BoxR w p cells:=fun _ _ hv=>qau hw hi hv
theorem boxRO {p:Addr}{t:TypeId}{cells:List Value}{put:HP→List HP} [B:BoxAt Γ p t cells put] (hw:Sat w0 w Γ):BoxR w p cells:=by
 obtain⟨i,hi,_⟩:=B.foc.ok;exact hw.boxR i hi
theorem qg6 (p:Addr) (a b:Nat):(p.add a).add b=p.add (a+b):=by
 unfold Addr.add
 by_cases ha:a=0
 ·subst ha;simp
 ·by_cases hb:b=0
  ·subst hb;simp
  ·simp [ha,hb,Nat.add_assoc]
variable {P:Program}{ρ:Fr}{ty:TypeId}{pos:String}{af:Array Edge}{g:Option (Nat × Bool)}{dst:Option Nat}{x y:Operand}{t t':TypeId}
theorem qeM {k:Nat}{p:Addr}{cells:List Value}{v:Value} [C:CellT P t] (hx:evl ρ x=.pointer (some (p.add k))) (h:BoxR w p cells) (hv:cells[k]? = some v):ReadV P ⟨dst,.load t x,ty,pos,af,g⟩ ρ w v:=qbz hx (h _ _ hv)
theorem qdi {p:Addr}{cells:List Value}{v:Value} [C:CellT P t] (hx:evl ρ x=.pointer (some p)) (h:BoxR w p cells) (hv:cells[0]? = some v):ReadV P ⟨dst,.load t x,ty,pos,af,g⟩ ρ w v :=
 qbz hx (by have:=h _ _ hv;simpa [Addr.add] using this)
theorem qbH {n:Nat}{p:Addr}{cells:List Value} [A:AggT P t n] (hx:evl ρ x=.pointer (some p)) (h:BoxR w p cells) (hn:cells.length=n):ReadV P ⟨dst,.load t x,ty,pos,af,g⟩ ρ w (.agg cells.toArray) :=
 qd0 hx hn h
theorem qbI {n k:Nat}{p:Addr}{cells vs:List Value} [A:AggT P t n] (hx:evl ρ x=.pointer (some (p.add k))) (h:BoxR w p cells) (hn:vs.length=n) (hv:vs=(cells.drop k).take n):ReadV P ⟨dst,.load t x,ty,pos,af,g⟩ ρ w (.agg vs.toArray) :=
 qd0 hx hn fun j v hj=>by
  rw [qg6]
  refine h _ _ ?_
  rw [hv,List.getElem?_take,List.getElem?_drop] at hj
  split at hj
  ·exact hj
  ·cases hj
theorem qdj {f off ft a:Nat}{p:Addr} [T:FieldT P t f off ft] (hx:evl ρ x=.pointer (some (p.add a))):PureV P ⟨dst,.fieldAddr t x f,ty,pos,af,g⟩ ρ (.pointer (some (p.add (a+off)))):=by
 have:=qb1 (P:=P) (t:=t) (f:=f) (ρ:=ρ) (dst:=dst) (ty:=ty) (pos:=pos) (af:=af) (g:=g) hx
 rwa [qg6] at this
class PtrT (P:Program) (t:Nat):Prop where
 ok:(match P.underlying t with|some (.pointer _)=>true|_=>false)=true
theorem PtrT.und (h:PtrT P t):P.underlying t=some (.pointer (P.pointee t)):=by
 have h:=h.ok
 split at h
 ·rename_i e he;rw [he];simp [Program.pointee,he]
 ·cases h
theorem qfp {a:Option Addr} [T:PtrT P t] (hx:evl ρ x=.pointer a):PureV P ⟨dst,.binOp .eql t x (.const (.pointer none)) t',ty,pos,af,g⟩ ρ (.bool a.isNone):=fun w=>by
 have h1:=run_eql_pointer_nil w t a T.und
 simp only [execOp,eqGuard,hx]
 cases x <;> simp [evl,h1]
theorem qfq {a:Option Addr} [T:PtrT P t] (hx:evl ρ x=.pointer a):PureV P ⟨dst,.binOp .neq t x (.const (.pointer none)) t',ty,pos,af,g⟩ ρ (.bool (!a.isNone)):=fun w=>by
 have h1:=run_neq_pointer_nil w t a T.und
 simp only [execOp,eqGuard,hx]
 cases x <;> simp [evl,h1]
def splL (places:List (Nat × Nat)) (cs:List Value):List (Nat × List Value)→List Value
 | []=>cs
 | (i,l)::r=>splL places (match places[i]? with|some (off,size)=>cs.take off++l++cs.drop (off+size)|none=>cs) r
def splB (places:List (Nat × Nat)) (n:Nat):List (Nat × List Value)→Bool
 | []=>true
 | (i,l)::r=>(match places[i]? with|some (off,size)=>l.length == size && Nat.ble (off+size) n|none=>false) && splB places n r
theorem qi6 {places:List (Nat × Nat)}{n:Nat}:∀ (vs:List (Nat × Value)) (cs:List Value),cs.length=n→splB places n (vs.map fun p=>(p.1,p.2.cells.toList))=true →
  Instr.fill (places[·]?) cs.toArray vs=some (splL places cs (vs.map fun p=>(p.1,p.2.cells.toList))).toArray
 | [],cs,_,_=>by simp [Instr.fill,splL]
 | (i,v)::vs,cs,hc,hb=>by
  simp only [List.map_cons,splB,Bool.and_eq_true] at hb
  obtain⟨h1,h2⟩:=hb
  cases hp:places[i]? with
  | none=>simp [hp] at h1
  | some q =>
   obtain⟨off,size⟩:=q
   simp only [hp,Bool.and_eq_true,beq_iff_eq,Nat.ble_eq] at h1
   obtain⟨h3,h4⟩:=h1
   rw [qes hp (by simpa using h3) (by omega),qi6 vs _ (by simp at h3;simp [h3];omega) h2]
   simp only [List.map_cons,splL,hp]
variable {ops:Array Oper}{K:Fr→World→Prop}{r:List Oper}{d:Nat}
theorem qg7 {parts:List (Nat × Operand)}{vs:List (Nat × Value)}{ls:List (Nat × List Value)}{places:List (Nat × Nat)}{zs:List Value} [S:StructT P t places] [Z:ZeroT P t zs] (hp:(parts.map fun p=>(p.1,evl ρ p.2))=vs)
  (hc:(vs.map fun p=>(p.1,p.2.cells.toList))=ls) (hb:splB places zs.length ls=true) (h:opsW P ops K r (upd ρ d (.agg (splL places zs ls).toArray)) w):opsW P ops K (⟨some d,.build t parts.toArray,ty,pos,af,none⟩::r) ρ w:=by
 subst hc
 exact qgI hp (qi6 vs zs rfl hb) h
theorem qg8 {vs:List Value}(hx:evl ρ x=.agg vs.toArray) (hw:Sat w0 w Γ) (h:∀ p w',Sat w0 w' (Box p t vs::Γ)→opsW P ops K r (upd ρ d (.pointer (some p))) w'):opsW P ops K (⟨some d,.box t x,ty,pos,af,none⟩::r) ρ w :=
 qgR hx hw fun p w' hs=>h p w' (by simpa [Value.cells] using hs)
end
end Go.Sl
/-
  The steps of the generator with their side conditions as default tactics: what a walk's line 'repeat (first | refine .. ?_ | ..)' tries. Written by a small program (gengo.py).
-/
namespace Go.Sl
section
variable {P:Program}{ops:Array Oper}{K:Fr→World→Prop}{r:List Oper}{ρ:Fr}{w w0:World}{d:Nat}{ty:TypeId}{pos:String}{af:Array Edge}{dst:Option Nat}{x y:Operand}{t:TypeId}{Γ:List HP}{op:Op}{v:Value}
theorem qcK (h:opsW P ops K r (upd ρ d v) w)
  (hc:cls P op=.pure:=by exact rfl)
  (hv:PureV P ⟨some d,op,ty,pos,af,none⟩ ρ v:=by
   first
    | (apply qk8;(conv=>lhs;whnf))
    | (apply qex;(conv=>lhs;whnf))
    | ((first|apply qni|apply qnl|apply qnk|apply qnj) <;> exact rfl)
    | (apply qnm <;> exact rfl)
    | (apply qnn <;> exact rfl)
    | ((first|apply qno|apply qnp);exact rfl;exact rfl;omega;omega)
    | (apply qnq;exact rfl;exact rfl;(first|omega|assumption);(first|omega|assumption))
    | (apply qm9;exact rfl;exact rfl;omega;omega;omega)
    | (apply qna;exact rfl;exact rfl;omega)
    | (apply qnr;exact rfl)
    | (apply qdj;exact rfl)
    | (apply qb1;exact rfl)
    | (apply qnt;(conv=>lhs;whnf);(first|exact RS.at (by assumption) hw|exact rsO hw|assumption))
    | (apply qkp;exact rfl)
    | (apply qgq;exact rfl;exact rfl;omega)
    | (apply qgP;(conv=>lhs;whnf);exact rfl;(first|exact RS.at (by assumption) hw|exact rsO hw|assumption);exact rfl;exact Nat.zero_lt_succ _;omega)
    | (apply qfW;(conv=>lhs;whnf);exact rfl;(first|exact RS.at (by assumption) hw|exact rsO hw|assumption);exact rfl;exact Nat.zero_lt_succ _;omega;omega)
    | (apply qfl <;> exact rfl)
    | (apply qiJ;(conv=>lhs;whnf))
    | (apply qgN;exact rfl)
    | (apply qfp;exact rfl)
    | (apply qfq;exact rfl)
    | (apply qgO;exact rfl)
    | (apply qfj <;> exact rfl)
    | (apply qfk <;> exact rfl)
    | (apply pv_or <;> exact rfl)
    | (apply qnh <;> exact rfl)
    | (apply qey;exact rfl)
    | (apply qdH;exact rfl)
    | (apply qeo;exact rfl)
    | (apply qgG;exact rfl)
    | (apply qk4 <;> exact rfl)
    | (apply qk5 <;> exact rfl)
    | (apply qep;exact rfl)
    | ((first|apply qnf|apply qng) <;> exact rfl)
    | (apply qns;exact rfl;omega;omega)
    | (apply qiK <;> exact rfl)
    | (apply qk9;exact rfl;(conv=>lhs;whnf);(conv=>lhs;whnf))
    | (apply qft;(conv=>lhs;whnf);exact rfl;(first|exact RS.at (by assumption) hw|exact rsO hw|assumption);exact rfl;omega;omega)
    | (apply qdL;(conv=>lhs;whnf);exact rfl;(first|exact RS.at (by assumption) hw|exact rsO hw|assumption);exact rfl;omega;omega)
    | (apply qdM;(conv=>lhs;whnf);exact rfl;exact rfl;(first|exact RS.at (by assumption) hw|exact rsO hw|assumption);exact rfl;omega;omega;omega)
    | (apply qeR;(conv=>lhs;whnf);(first|exact RS.at (by assumption) hw|exact rsO hw|assumption);exact rfl)):opsW P ops K (⟨some d,op,ty,pos,af,none⟩::r) ρ w:=qaw hc hv h
theorem qdv (h:opsW P ops K r (upd ρ d v) w)
  (hc:cls P op=.read:=by exact rfl)
  (hv:ReadV P ⟨some d,op,ty,pos,af,none⟩ ρ w v:=by
   first
    | (apply qgQ;exact rfl;exact hw;infer_instance;exact rfl)
    | (apply qeA;exact rfl;exact hw;infer_instance;exact rfl)
    | (apply qcy;exact rfl;(first|exact RS.at (by assumption) hw|exact rsO hw|assumption);omega)
    | (apply qaW;exact rfl;(first|exact RS.at (by assumption) hw|exact rsO hw|assumption);omega;exact Nat.lt_of_sub_pos (Nat.zero_lt_succ _);infer_instance;exact rfl)
    | (apply qbj;exact rfl;(first|exact RS.at (by assumption) hw|exact rsO hw|assumption);omega;exact rfl;infer_instance)
    | (apply qdu;exact rfl;(first|exact RS.at (by assumption) hw|exact rsO hw|assumption);omega;exact rfl)
    | (apply qaS;exact rfl;(first|exact RS.at (by assumption) hw|exact rsO hw|assumption);omega;exact Nat.lt_of_sub_pos (Nat.zero_lt_succ _);exact rfl)
    | (apply qbh;exact rfl;(first|exact RS.at (by assumption) hw|exact rsO hw|assumption);omega;exact rfl)
    | (apply qb2;exact rfl;exact hw;infer_instance;exact rfl)
    | (apply qeM;exact rfl;exact BoxR.at (by assumption) hw;exact rfl)
    | (apply qdi;exact rfl;exact BoxR.at (by assumption) hw;exact rfl)
    | (apply qbH;exact rfl;exact BoxR.at (by assumption) hw;exact rfl)):opsW P ops K (⟨some d,op,ty,pos,af,none⟩::r) ρ w:=qaE hc hv h
theorem go_gt {j:Nat}{want:Bool}{s:Nat}(h:opsW P ops K (⟨dst,op,ty,pos,af,none⟩::r) ρ w) (hj:gslot ops j=some s:=by exact rfl) (hg:asks (ρ s) want=true:=by exact rfl):opsW P ops K (⟨dst,op,ty,pos,af,some (j,want)⟩::r) ρ w:=qgL hj hg h
theorem go_gf {j:Nat}{want:Bool}{s:Nat}(h:opsW P ops K r (updo ρ dst undef) w) (hj:gslot ops j=some s:=by exact rfl) (hg:asks (ρ s) want=false:=by exact rfl):opsW P ops K (⟨dst,op,ty,pos,af,some (j,want)⟩::r) ρ w:=qgM hj hg h
theorem qd1 {j:Nat}{want c:Bool}{s:Nat}(h:opsW P ops K r (upd ρ d (gv c v)) w)
  (hc:cls P op=.pure:=by exact rfl) (hj:gslot ops j=some s:=by exact rfl) (hg:Gd (ρ s) want c:=by first|exact qhJ _ _|exact Gd_gv _ _ _)
  (hv:c=true→PureV P ⟨some d,op,ty,pos,af,none⟩ ρ v:=by
   intro hg
   have hq:=hg
   (try simp only [beq_iff_eq,Bool.and_eq_true,Bool.or_eq_true,decide_eq_true_eq,decide_eq_false_iff_not,Bool.not_eq_true,Bool.not_eq_false,Bool.not_eq_eq_eq_not,Bool.not_true,Bool.not_false,Bool.and_eq_false_iff,Bool.or_eq_false_iff,bne_iff_ne,ne_eq,Int.not_lt,Int.not_le,Nat.not_lt,Nat.not_le] at hq)
   first
    | (apply qos hg <;> exact rfl)
    | (apply qn0 hg <;> exact rfl)
    | (apply qk8;(first|exact qag hg|exact qag (andL hg)|(conv=>lhs;whnf)))
    | (apply qex;(first|exact qag hg|exact qag (andL hg)|(conv=>lhs;whnf)))
    | ((first|apply qni|apply qnl|apply qnk|apply qnj) <;> (first|exact rfl|exact qag hg|exact qag (andL hg)))
    | (apply qnm <;> (first|exact rfl|exact qag hg|exact qag (andL hg)))
    | (apply qnn <;> (first|exact rfl|exact qag hg|exact qag (andL hg)))
    | ((first|apply qno|apply qnp);(first|exact rfl|exact qag hg|exact qag (andL hg));(first|exact rfl|exact qag hg|exact qag (andL hg));omega;omega)
    | (apply qnq;(first|exact rfl|exact qag hg|exact qag (andL hg));(first|exact rfl|exact qag hg|exact qag (andL hg));(first|omega|assumption);(first|omega|assumption))
    | (apply qm9;(first|exact rfl|exact qag hg|exact qag (andL hg));(first|exact rfl|exact qag hg|exact qag (andL hg));omega;omega;omega)
    | (apply qna;(first|exact rfl|exact qag hg|exact qag (andL hg));(first|exact rfl|exact qag hg|exact qag (andL hg));omega)
    | (apply qnr;(first|exact rfl|exact qag hg|exact qag (andL hg)))
    | (apply qdj;(first|exact rfl|exact qag hg|exact qag (andL hg)))
    | (apply qb1;(first|exact rfl|exact qag hg|exact qag (andL hg)))
    | (apply qnt;(first|exact qag hg|exact qag (andL hg)|(conv=>lhs;whnf));(first|exact RS.at (by assumption) hw|exact rsO hw|assumption))
    | (apply qkp;(first|exact rfl|exact qag hg|exact qag (andL hg)))
    | (apply qgq;(first|exact rfl|exact qag hg|exact qag (andL hg));(first|exact rfl|exact qag hg|exact qag (andL hg));omega)
    | (apply qgP;(first|exact qag hg|exact qag (andL hg)|(conv=>lhs;whnf));(first|exact rfl|exact qag hg|exact qag (andL hg));(first|exact RS.at (by assumption) hw|exact rsO hw|assumption);(first|exact rfl|exact qag hg|exact qag (andL hg));exact Nat.zero_lt_succ _;omega)
    | (apply qfW;(first|exact qag hg|exact qag (andL hg)|(conv=>lhs;whnf));(first|exact rfl|exact qag hg|exact qag (andL hg));(first|exact RS.at (by assumption) hw|exact rsO hw|assumption);(first|exact rfl|exact qag hg|exact qag (andL hg));exact Nat.zero_lt_succ _;omega;omega)
    | (apply qfl <;> (first|exact rfl|exact qag hg|exact qag (andL hg)))
    | (apply qiJ;(first|exact qag hg|exact qag (andL hg)|(conv=>lhs;whnf)))
    | (apply qgN;(first|exact rfl|exact qag hg|exact qag (andL hg)))
    | (apply qfp;(first|exact rfl|exact qag hg|exact qag (andL hg)))
    | (apply qfq;(first|exact rfl|exact qag hg|exact qag (andL hg)))
    | (apply qgO;(first|exact rfl|exact qag hg|exact qag (andL hg)))
    | (apply qfj <;> (first|exact rfl|exact qag hg|exact qag (andL hg)))
    | (apply qfk <;> (first|exact rfl|exact qag hg|exact qag (andL hg)))
    | (apply pv_or <;> (first|exact rfl|exact qag hg|exact qag (andL hg)))
    | (apply qnh <;> (first|exact rfl|exact qag hg|exact qag (andL hg)))
    | (apply qey;(first|exact rfl|exact qag hg|exact qag (andL hg)))
    | (apply qdH;(first|exact rfl|exact qag hg|exact qag (andL hg)))
    | (apply qeo;(first|exact rfl|exact qag hg|exact qag (andL hg)))
    | (apply qgG;(first|exact rfl|exact qag hg|exact qag (andL hg)))
    | (apply qk4 <;> (first|exact rfl|exact qag hg|exact qag (andL hg)))
    | (apply qk5 <;> (first|exact rfl|exact qag hg|exact qag (andL hg)))
    | (apply qep;(first|exact rfl|exact qag hg|exact qag (andL hg)))
    | ((first|apply qnf|apply qng) <;> (first|exact rfl|exact qag hg|exact qag (andL hg)))
    | (apply qns;(first|exact rfl|exact qag hg|exact qag (andL hg));omega;omega)
    | (apply qiK <;> (first|exact rfl|exact qag hg|exact qag (andL hg)))
    | (apply qk9;(first|exact rfl|exact qag hg|exact qag (andL hg));(first|exact qag hg|exact qag (andL hg)|(conv=>lhs;whnf));(first|exact qag hg|exact qag (andL hg)|(conv=>lhs;whnf)))
    | (apply qft;(first|exact qag hg|exact qag (andL hg)|(conv=>lhs;whnf));(first|exact rfl|exact qag hg|exact qag (andL hg));(first|exact RS.at (by assumption) hw|exact rsO hw|assumption);(first|exact rfl|exact qag hg|exact qag (andL hg));omega;omega)
    | (apply qdL;(first|exact qag hg|exact qag (andL hg)|(conv=>lhs;whnf));(first|exact rfl|exact qag hg|exact qag (andL hg));(first|exact RS.at (by assumption) hw|exact rsO hw|assumption);(first|exact rfl|exact qag hg|exact qag (andL hg));omega;omega)
    | (apply qdM;(first|exact qag hg|exact qag (andL hg)|(conv=>lhs;whnf));(first|exact rfl|exact qag hg|exact qag (andL hg));(first|exact rfl|exact qag hg|exact qag (andL hg));(first|exact RS.at (by assumption) hw|exact rsO hw|assumption);(first|exact rfl|exact qag hg|exact qag (andL hg));omega;omega;omega)
    | (apply qeR;(first|exact qag hg|exact qag (andL hg)|(conv=>lhs;whnf));(first|exact RS.at (by assumption) hw|exact rsO hw|assumption);(first|exact rfl|exact qag hg|exact qag (andL hg)))):opsW P ops K (⟨some d,op,ty,pos,af,some (j,want)⟩::r) ρ w:=qev hc hj hg hv h
theorem qd2 {j:Nat}{want c:Bool}{s:Nat}(h:opsW P ops K r (upd ρ d (gv c v)) w)
  (hc:cls P op=.read:=by exact rfl) (hj:gslot ops j=some s:=by exact rfl) (hg:Gd (ρ s) want c:=by first|exact qhJ _ _|exact Gd_gv _ _ _)
  (hv:c=true→ReadV P ⟨some d,op,ty,pos,af,none⟩ ρ w v:=by
   intro hg
   have hq:=hg
   (try simp only [beq_iff_eq,Bool.and_eq_true,Bool.or_eq_true,decide_eq_true_eq,decide_eq_false_iff_not,Bool.not_eq_true,Bool.not_eq_false,Bool.not_eq_eq_eq_not,Bool.not_true,Bool.not_false,Bool.and_eq_false_iff,Bool.or_eq_false_iff,bne_iff_ne,ne_eq,Int.not_lt,Int.not_le,Nat.not_lt,Nat.not_le] at hq)
   first
    | (apply qgQ;(first|exact rfl|exact qag hg|exact qag (andL hg));exact hw;infer_instance;(first|exact rfl|exact qag hg|exact qag (andL hg)))
    | (apply qeA;(first|exact rfl|exact qag hg|exact qag (andL hg));exact hw;infer_instance;(first|exact rfl|exact qag hg|exact qag (andL hg)))
    | (apply qcy;(first|exact rfl|exact qag hg|exact qag (andL hg));(first|exact RS.at (by assumption) hw|exact rsO hw|assumption);omega)
    | (apply qaW;(first|exact rfl|exact qag hg|exact qag (andL hg));(first|exact RS.at (by assumption) hw|exact rsO hw|assumption);omega;exact Nat.lt_of_sub_pos (Nat.zero_lt_succ _);infer_instance;(first|exact rfl|exact qag hg|exact qag (andL hg)))
    | (apply qbj;(first|exact rfl|exact qag hg|exact qag (andL hg));(first|exact RS.at (by assumption) hw|exact rsO hw|assumption);omega;(first|exact rfl|exact qag hg|exact qag (andL hg));infer_instance)
    | (apply qdu;(first|exact rfl|exact qag hg|exact qag (andL hg));(first|exact RS.at (by assumption) hw|exact rsO hw|assumption);omega;(first|exact rfl|exact qag hg|exact qag (andL hg)))
    | (apply qaS;(first|exact rfl|exact qag hg|exact qag (andL hg));(first|exact RS.at (by assumption) hw|exact rsO hw|assumption);omega;exact Nat.lt_of_sub_pos (Nat.zero_lt_succ _);(first|exact rfl|exact qag hg|exact qag (andL hg)))
    | (apply qbh;(first|exact rfl|exact qag hg|exact qag (andL hg));(first|exact RS.at (by assumption) hw|exact rsO hw|assumption);omega;(first|exact rfl|exact qag hg|exact qag (andL hg)))
    | (apply qb2;(first|exact rfl|exact qag hg|exact qag (andL hg));exact hw;infer_instance;(first|exact rfl|exact qag hg|exact qag (andL hg)))
    | (apply qeM;(first|exact rfl|exact qag hg|exact qag (andL hg));exact BoxR.at (by assumption) hw;(first|exact rfl|exact qag hg|exact qag (andL hg)))
    | (apply qdi;(first|exact rfl|exact qag hg|exact qag (andL hg));exact BoxR.at (by assumption) hw;(first|exact rfl|exact qag hg|exact qag (andL hg)))
    | (apply qbH;(first|exact rfl|exact qag hg|exact qag (andL hg));exact BoxR.at (by assumption) hw;(first|exact rfl|exact qag hg|exact qag (andL hg)))):opsW P ops K (⟨some d,op,ty,pos,af,some (j,want)⟩::r) ρ w:=qew hc hj hg hv h
theorem gvff (v:Value):gv (false == false) v=v:=qag rfl
theorem gvtt (v:Value):gv (true == true) v=v:=qag rfl
theorem qn8 {j:Nat}{want b:Bool}{s:Nat}(h1:b=true→opsW P ops K (⟨dst,op,ty,pos,af,some (j,want)⟩::r) ρ w) (h0:b=false→opsW P ops K (⟨dst,op,ty,pos,af,some (j,want)⟩::r) ρ w) (_hj:gslot ops j=some s:=by exact rfl) (_hs:ρ s=.bool b:=by exact rfl):opsW P ops K (⟨dst,op,ty,pos,af,some (j,want)⟩::r) ρ w:=by
 cases hb:b with
 | true=>exact h1 hb
 | false=>exact h0 hb
theorem qd3 {zs:List Value} [Z:ZeroT P t zs] (h:∀ p w',Sat w0 w' (Box p t zs::Γ)→opsW P ops K r (upd ρ d (.pointer (some p))) w') (hw:Sat w0 w Γ:=by exact hw):opsW P ops K (⟨some d,.alloc t,ty,pos,af,none⟩::r) ρ w:=qmC hw h
theorem qdI (h:∀ p w',Sat w0 w' (Box p t v.cells.toList::Γ)→opsW P ops K r (upd ρ d (.pointer (some p))) w') (hx:evl ρ x=v:=by (conv=>lhs;whnf)) (hw:Sat w0 w Γ:=by exact hw):opsW P ops K (⟨some d,.box t x,ty,pos,af,none⟩::r) ρ w:=qgR hx hw h
theorem qeG {n:Nat}{p:Addr}{bt:TypeId}{cells vs:List Value}{put:HP→List HP} [A:AggT P t n] (h:∀ w',Sat w0 w' (put (Box p bt vs))→opsW P ops K r ρ w')
  (hx:evl ρ x=.pointer (some p):=by exact rfl) (hy:evl ρ y=.agg vs.toArray:=by exact rfl) (hw:Sat w0 w Γ:=by exact hw) (B:BoxAt Γ p bt cells put:=by infer_instance) (hn:vs.length=n:=by exact rfl) (hl:cells.length=n:=by exact rfl) (hv:vs.all Value.oneCell'=true:=by first|exact rfl|assumption):opsW P ops K (⟨none,.store t x y,ty,pos,af,none⟩::r) ρ w:=qao hx hy hw B hn hl hv h
theorem qg0 {α:Type}{T:Ty α}{s:Value}{xs:List α}{j:Nat}{e:TypeId}{x':α}{put:HP→List HP} [C:CellT P t] (h:∀ w',Sat w0 w' (put (OS T e s (xs.set j x')))→opsW P ops K r ρ w')
  (hx:evl ρ x=.pointer (some (eadr T s j)):=by exact rfl) (hy:evl ρ y=v:=by (conv=>lhs;whnf)) (hv:v.oneCell'=true:=by first|exact rfl|exact RS.one (rsO hw)|exact RS.one (by assumption)) (hw:Sat w0 w Γ:=by exact hw) (O:OwnAt Γ s α T e xs put:=by infer_instance) (hj:j<xs.length:=by omega) (he:T.enc x'=[v]:=by exact rfl):opsW P ops K (⟨none,.store t x y,ty,pos,af,none⟩::r) ρ w:=qn2 hx hy hv hw O hj he h
theorem qg1 {p:Addr}{bt:TypeId}{cells:List Value}{put:HP→List HP} [C:CellT P t] (h:∀ w',Sat w0 w' (put (Box p bt (cells.set 0 v)))→opsW P ops K r ρ w')
  (hx:evl ρ x=.pointer (some p):=by exact rfl) (hy:evl ρ y=v:=by (conv=>lhs;whnf)) (hv:v.oneCell'=true:=by first|exact rfl|exact RS.one (rsO hw)|exact RS.one (by assumption)) (hw:Sat w0 w Γ:=by exact hw) (B:BoxAt Γ p bt cells put:=by infer_instance) (hk:0<cells.length:=by exact Nat.zero_lt_succ _):opsW P ops K (⟨none,.store t x y,ty,pos,af,none⟩::r) ρ w:=qn1 hx hy hv hw B hk h
theorem qiT {k:Nat}{p:Addr}{bt:TypeId}{cells:List Value}{put:HP→List HP} [C:CellT P t] (h:∀ w',Sat w0 w' (put (Box p bt (cells.set k v)))→opsW P ops K r ρ w')
  (hx:evl ρ x=.pointer (some (p.add k)):=by exact rfl) (hy:evl ρ y=v:=by (conv=>lhs;whnf)) (hv:v.oneCell'=true:=by first|exact rfl|exact RS.one (rsO hw)|exact RS.one (by assumption)) (hw:Sat w0 w Γ:=by exact hw) (B:BoxAt Γ p bt cells put:=by infer_instance) (hk:k<cells.length:=by exact Nat.lt_of_sub_pos (Nat.zero_lt_succ _)):opsW P ops K (⟨none,.store t x y,ty,pos,af,none⟩::r) ρ w:=qiL hx hy hv hw B hk h
theorem qiU {e sz by_:Nat}{n:Int}{zs:List Value} [S:SliceT P t e sz by_] [Z:ZeroT P e zs] (h:∀ s w',Sat w0 w' (OS tInt e s (List.replicate n.toNat 0)::Γ)→opsW P ops K r (upd ρ d s) w')
  (hx:evl ρ x=.int .i64 n:=by exact rfl) (hy:evl ρ y=.int .i64 n:=by exact rfl) (hsz:sz=tInt.sz:=by exact rfl) (hz:tInt.enc 0=zs:=by exact rfl) (h0:0≤n:=by omega) (hb:by_*n≤281474976710656:=by omega) (hn:n≤281474976710656:=by omega) (hw:Sat w0 w Γ:=by exact hw):opsW P ops K (⟨some d,.makeSlice t x y,ty,pos,af,none⟩::r) ρ w:=qeu tInt 0 hx hy hsz hz h0 hb hn hw h
theorem qiV {e sz by_:Nat}{n:Int}{zs:List Value} [S:SliceT P t e sz by_] [Z:ZeroT P e zs] (h:∀ s w',Sat w0 w' (OS tBool e s (List.replicate n.toNat false)::Γ)→opsW P ops K r (upd ρ d s) w')
  (hx:evl ρ x=.int .i64 n:=by exact rfl) (hy:evl ρ y=.int .i64 n:=by exact rfl) (hsz:sz=tBool.sz:=by exact rfl) (hz:tBool.enc false=zs:=by exact rfl) (h0:0≤n:=by omega) (hb:by_*n≤281474976710656:=by omega) (hn:n≤281474976710656:=by omega) (hw:Sat w0 w Γ:=by exact hw):opsW P ops K (⟨some d,.makeSlice t x y,ty,pos,af,none⟩::r) ρ w:=qeu tBool false hx hy hsz hz h0 hb hn hw h
theorem qiW {e sz by_:Nat}{n:Int}{zs:List Value} [S:SliceT P t e sz by_] [Z:ZeroT P e zs] (h:∀ s w',Sat w0 w' (OS tVal e s (List.replicate n.toNat (.slice none 0 0))::Γ)→opsW P ops K r (upd ρ d s) w')
  (hx:evl ρ x=.int .i64 n:=by exact rfl) (hy:evl ρ y=.int .i64 n:=by exact rfl) (hsz:sz=tVal.sz:=by exact rfl) (hz:tVal.enc (.slice none 0 0)=zs:=by exact rfl) (h0:0≤n:=by omega) (hb:by_*n≤281474976710656:=by omega) (hn:n≤281474976710656:=by omega) (hw:Sat w0 w Γ:=by exact hw):opsW P ops K (⟨some d,.makeSlice t x y,ty,pos,af,none⟩::r) ρ w:=qeu tVal (.slice none 0 0) hx hy hsz hz h0 hb hn hw h
theorem qdb {i1:Nat}{x1:Operand}{v1:Value}{places:List (Nat × Nat)}{zs:List Value} [S:StructT P t places] [Z:ZeroT P t zs] (h:opsW P ops K r (upd ρ d (.agg (setsL zs [(i1,v1)]).toArray)) w) (h1:evl ρ x1=v1:=by (conv=>lhs;whnf)) (ho:onesB places zs.length=true:=by exact rfl) (hv:[(i1,v1)].all (fun p=>decide (p.1<zs.length) && p.2.oneCell')=true:=by exact rfl):opsW P ops K (⟨some d,.build t #[(i1,x1)],ty,pos,af,none⟩::r) ρ w:=qk6 h1 ho hv h
theorem qdc {i1 i2:Nat}{x1 x2:Operand}{v1 v2:Value}{places:List (Nat × Nat)}{zs:List Value} [S:StructT P t places] [Z:ZeroT P t zs] (h:opsW P ops K r (upd ρ d (.agg (setsL zs [(i1,v1),(i2,v2)]).toArray)) w) (h1:evl ρ x1=v1:=by (conv=>lhs;whnf)) (h2:evl ρ x2=v2:=by (conv=>lhs;whnf)) (ho:onesB places zs.length=true:=by exact rfl) (hv:[(i1,v1),(i2,v2)].all (fun p=>decide (p.1<zs.length) && p.2.oneCell')=true:=by exact rfl):opsW P ops K (⟨some d,.build t #[(i1,x1),(i2,x2)],ty,pos,af,none⟩::r) ρ w:=qc7 h1 h2 ho hv h
theorem qdd {i1 i2 i3:Nat}{x1 x2 x3:Operand}{v1 v2 v3:Value}{places:List (Nat × Nat)}{zs:List Value} [S:StructT P t places] [Z:ZeroT P t zs] (h:opsW P ops K r (upd ρ d (.agg (setsL zs [(i1,v1),(i2,v2),(i3,v3)]).toArray)) w) (h1:evl ρ x1=v1:=by (conv=>lhs;whnf)) (h2:evl ρ x2=v2:=by (conv=>lhs;whnf)) (h3:evl ρ x3=v3:=by (conv=>lhs;whnf)) (ho:onesB places zs.length=true:=by exact rfl) (hv:[(i1,v1),(i2,v2),(i3,v3)].all (fun p=>decide (p.1<zs.length) && p.2.oneCell')=true:=by exact rfl):opsW P ops K (⟨some d,.build t #[(i1,x1),(i2,x2),(i3,x3)],ty,pos,af,none⟩::r) ρ w:=qbd h1 h2 h3 ho hv h
theorem qlh {e sz by_:Nat}{n:Int}{zs:List Value} [S:SliceT P t e sz by_] [Z:ZeroT P e zs] (h:∀ s w',Sat w0 w' (OS tInt e s [n]::Γ)→opsW P ops K r (upd ρ d s) w')
  (hx:evl ρ x=.int .i64 n:=by exact rfl) (hsz:sz=tInt.sz:=by exact rfl) (hsm:sz≤16777216:=by exact Nat.le_of_ble_eq_true rfl) (hp:0<sz:=by exact Nat.zero_lt_succ _) (hw:Sat w0 w Γ:=by exact hw):opsW P ops K (⟨some d,.buildSlice t 1 #[(0,x)],ty,pos,af,none⟩::r) ρ w:=qam tInt hx rfl hsz hsm hp hw h
theorem qn9 {e sz by_:Nat}{zs:List Value} [S:SliceT P t e sz by_] [Z:ZeroT P e zs] (h:∀ s w',Sat w0 w' (OS tVal e s [v]::Γ)→opsW P ops K r (upd ρ d s) w')
  (hx:evl ρ x=v:=by (conv=>lhs;whnf)) (hc:v.cells.toList=[v]:=by first|exact rfl|exact RS.cells1 (rsO hw)|exact RS.cells1 (by assumption)) (hsz:sz=tVal.sz:=by exact rfl) (hsm:sz≤16777216:=by exact Nat.le_of_ble_eq_true rfl) (hp:0<sz:=by exact Nat.zero_lt_succ _) (hw:Sat w0 w Γ:=by exact hw):opsW P ops K (⟨some d,.buildSlice t 1 #[(0,x)],ty,pos,af,none⟩::r) ρ w:=qam tVal hx hc hsz hsm hp hw h
theorem qeH {α:Type}{T:Ty α}{s s2:Value}{xs ys:List α}{e sz by_:Nat}{zs:List Value}{put:HP→List HP} [S:SliceT P t e sz by_] [Z:ZeroT P e zs] (h:∀ s' w',Sat w0 w' (put (OS T e s' (xs++ys)))→opsW P ops K r (upd ρ d s') w')
  (hx:evl ρ x=s:=by (conv=>lhs;whnf)) (hy:evl ρ y=s2:=by (conv=>lhs;whnf)) (hw:Sat w0 w Γ:=by exact hw) (O:OwnAt Γ s α T e xs put:=by infer_instance) (h2:RS T w s2 ys:=by (first|exact RS.at (by assumption) hw|exact rsO hw|assumption))
  (hsz:sz=T.sz:=by exact rfl) (hzl:zs.length=sz:=by exact rfl) (hone:∀ x∈ys,∀ v∈T.enc x,v.oneCell'=true:=by first|exact fun x _ v hv=>OneT.ok x v hv|(intro x hx v hv;rw [List.mem_singleton.1 hx] at hv;rw [List.mem_singleton.1 hv];first|exact rfl|exact RS.one (rsO hw)|exact RS.one (by assumption))) (hb:(xs.length+ys.length)*by_≤140737488355328:=by first|omega|(simp only [List.length_append,List.length_cons,List.length_nil,List.length_replicate] at *;omega)) (hl:xs.length+ys.length≤big:=by first|(unfold big;omega)|(unfold big;simp only [List.length_append,List.length_cons,List.length_nil,List.length_replicate] at *;omega)) :
  opsW P ops K (⟨some d,.call { callee:=.builtin .append,args:=#[x,y],argTypes:=#[t,t] },ty,pos,af,none⟩::r) ρ w:=qbe O hx hy h2 hsz hzl hone hb hl hw h
theorem qg2 {l:List Oper}{i:Nat}{is:List Item}(h:opsD P l.toArray K is ρ w) (ho:l[i]? = some ⟨some d,op,ty,pos,af,none⟩:=by exact rfl)
  (hv:ReadV P ⟨some d,op,ty,pos,af,none⟩ ρ w v:=by
   first
    | (apply qgQ;exact rfl;exact hw;infer_instance;exact rfl)
    | (apply qeA;exact rfl;exact hw;infer_instance;exact rfl)
    | (apply qcy;exact rfl;(first|exact RS.at (by assumption) hw|exact rsO hw|assumption);omega)
    | (apply qaW;exact rfl;(first|exact RS.at (by assumption) hw|exact rsO hw|assumption);omega;exact Nat.lt_of_sub_pos (Nat.zero_lt_succ _);infer_instance;exact rfl)
    | (apply qbj;exact rfl;(first|exact RS.at (by assumption) hw|exact rsO hw|assumption);omega;exact rfl;infer_instance)
    | (apply qdu;exact rfl;(first|exact RS.at (by assumption) hw|exact rsO hw|assumption);omega;exact rfl)
    | (apply qaS;exact rfl;(first|exact RS.at (by assumption) hw|exact rsO hw|assumption);omega;exact Nat.lt_of_sub_pos (Nat.zero_lt_succ _);exact rfl)
    | (apply qbh;exact rfl;(first|exact RS.at (by assumption) hw|exact rsO hw|assumption);omega;exact rfl)
    | (apply qb2;exact rfl;exact hw;infer_instance;exact rfl)
    | (apply qeM;exact rfl;exact BoxR.at (by assumption) hw;exact rfl)
    | (apply qdi;exact rfl;exact BoxR.at (by assumption) hw;exact rfl)
    | (apply qbH;exact rfl;exact BoxR.at (by assumption) hw;exact rfl)) (he:ρ d=v:=by exact rfl):opsD P l.toArray K (.chk i::is) ρ w:=qf2 ho hv he h
theorem qfZ {l:List Oper}{i:Nat}{is:List Item}{j:Nat}{want c:Bool}{s:Nat}(h:opsD P l.toArray K is ρ w) (ho:l[i]? = some ⟨some d,op,ty,pos,af,some (j,want)⟩:=by exact rfl) (hj:gslot l.toArray j=some s:=by exact rfl) (hg:Gd (ρ s) want c:=by first|exact qhJ _ _|exact Gd_gv _ _ _) (he:ρ d=gv c v:=by exact rfl)
  (hv:c=true→ReadV P ⟨some d,op,ty,pos,af,none⟩ ρ w v:=by
   intro hg
   have hq:=hg
   (try simp only [beq_iff_eq,Bool.and_eq_true,Bool.or_eq_true,decide_eq_true_eq,decide_eq_false_iff_not,Bool.not_eq_true,Bool.not_eq_false,Bool.not_eq_eq_eq_not,Bool.not_true,Bool.not_false,Bool.and_eq_false_iff,Bool.or_eq_false_iff,bne_iff_ne,ne_eq,Int.not_lt,Int.not_le,Nat.not_lt,Nat.not_le] at hq)
   first
    | (apply qgQ;(first|exact rfl|exact qag hg|exact qag (andL hg));exact hw;infer_instance;(first|exact rfl|exact qag hg|exact qag (andL hg)))
    | (apply qeA;(first|exact rfl|exact qag hg|exact qag (andL hg));exact hw;infer_instance;(first|exact rfl|exact qag hg|exact qag (andL hg)))
    | (apply qcy;(first|exact rfl|exact qag hg|exact qag (andL hg));(first|exact RS.at (by assumption) hw|exact rsO hw|assumption);omega)
    | (apply qaW;(first|exact rfl|exact qag hg|exact qag (andL hg));(first|exact RS.at (by assumption) hw|exact rsO hw|assumption);omega;exact Nat.lt_of_sub_pos (Nat.zero_lt_succ _);infer_instance;(first|exact rfl|exact qag hg|exact qag (andL hg)))
    | (apply qbj;(first|exact rfl|exact qag hg|exact qag (andL hg));(first|exact RS.at (by assumption) hw|exact rsO hw|assumption);omega;(first|exact rfl|exact qag hg|exact qag (andL hg));infer_instance)
    | (apply qdu;(first|exact rfl|exact qag hg|exact qag (andL hg));(first|exact RS.at (by assumption) hw|exact rsO hw|assumption);omega;(first|exact rfl|exact qag hg|exact qag (andL hg)))
    | (apply qaS;(first|exact rfl|exact qag hg|exact qag (andL hg));(first|exact RS.at (by assumption) hw|exact rsO hw|assumption);omega;exact Nat.lt_of_sub_pos (Nat.zero_lt_succ _);(first|exact rfl|exact qag hg|exact qag (andL hg)))
    | (apply qbh;(first|exact rfl|exact qag hg|exact qag (andL hg));(first|exact RS.at (by assumption) hw|exact rsO hw|assumption);omega;(first|exact rfl|exact qag hg|exact qag (andL hg)))
    | (apply qb2;(first|exact rfl|exact qag hg|exact qag (andL hg));exact hw;infer_instance;(first|exact rfl|exact qag hg|exact qag (andL hg)))
    | (apply qeM;(first|exact rfl|exact qag hg|exact qag (andL hg));exact BoxR.at (by assumption) hw;(first|exact rfl|exact qag hg|exact qag (andL hg)))
    | (apply qdi;(first|exact rfl|exact qag hg|exact qag (andL hg));exact BoxR.at (by assumption) hw;(first|exact rfl|exact qag hg|exact qag (andL hg)))
    | (apply qbH;(first|exact rfl|exact qag hg|exact qag (andL hg));exact BoxR.at (by assumption) hw;(first|exact rfl|exact qag hg|exact qag (andL hg)))):opsD P l.toArray K (.chk i::is) ρ w:=by
 refine qeL (v:=v) ho (fun hq => ?_) h
 have hc:c=true:=by
  simp only [guardB,hj] at hq
  rw [←hq];exact hg.symm
 exact⟨hv hc,by rw [he,hc];exact qag rfl⟩
theorem qd4 {l:List Oper}{i:Nat}{is:List Item}{j:Nat}{want:Bool}(h:opsD P l.toArray K is ρ w) (ho:l[i]? = some ⟨some d,op,ty,pos,af,some (j,want)⟩:=by exact rfl)
  (hv:ReadV P ⟨some d,op,ty,pos,af,none⟩ ρ w v:=by
   first
    | (apply qgQ;exact rfl;exact hw;infer_instance;exact rfl)
    | (apply qeA;exact rfl;exact hw;infer_instance;exact rfl)
    | (apply qcy;exact rfl;(first|exact RS.at (by assumption) hw|exact rsO hw|assumption);omega)
    | (apply qaW;exact rfl;(first|exact RS.at (by assumption) hw|exact rsO hw|assumption);omega;exact Nat.lt_of_sub_pos (Nat.zero_lt_succ _);infer_instance;exact rfl)
    | (apply qbj;exact rfl;(first|exact RS.at (by assumption) hw|exact rsO hw|assumption);omega;exact rfl;infer_instance)
    | (apply qdu;exact rfl;(first|exact RS.at (by assumption) hw|exact rsO hw|assumption);omega;exact rfl)
    | (apply qaS;exact rfl;(first|exact RS.at (by assumption) hw|exact rsO hw|assumption);omega;exact Nat.lt_of_sub_pos (Nat.zero_lt_succ _);exact rfl)
    | (apply qbh;exact rfl;(first|exact RS.at (by assumption) hw|exact rsO hw|assumption);omega;exact rfl)
    | (apply qb2;exact rfl;exact hw;infer_instance;exact rfl)
    | (apply qeM;exact rfl;exact BoxR.at (by assumption) hw;exact rfl)
    | (apply qdi;exact rfl;exact BoxR.at (by assumption) hw;exact rfl)
    | (apply qbH;exact rfl;exact BoxR.at (by assumption) hw;exact rfl)) (he:ρ d=v:=by exact rfl):opsD P l.toArray K (.chk i::is) ρ w:=qeL ho (fun _=>⟨hv,he⟩) h
theorem qde {l:List Oper}{i:Nat}{is:List Item}{j:Nat}{want:Bool}{s:Nat}(h:opsD P l.toArray K is ρ w) (ho:l[i]? = some ⟨some d,op,ty,pos,af,some (j,want)⟩:=by exact rfl) (hj:gslot l.toArray j=some s:=by exact rfl) (hg:asks (ρ s) want=false:=by exact rfl):opsD P l.toArray K (.chk i::is) ρ w:=by
 refine qeL (v:=.bool false) ho (fun hq => ?_) h
 simp only [guardB,hj] at hq
 rw [hg] at hq
 cases hq
theorem qbA {Q:Exit→Fr→World→Prop}{i:Nat}{l:List Oper}(h:∀ w',Sat w0 w' Γ→opsW P l.toArray (Q .normal) l ρ w') (hw:Sat w0 w Γ:=by exact hw) (hc:commB P l.toArray=true:=by decide +kernel):vc P (.region i l.toArray true) Q ρ w:=qob hw hc h
theorem qcp {Q:Exit→Fr→World→Prop}{i j:Nat}(h:Q (.exit i) ρ w) (hne:Nat.beq i j=false:=by exact rfl):Blk j Q (.exit i) ρ w:=qhR hne h
theorem go_if {Q:Exit→Fr→World→Prop}{c:Operand}{x y:Code}{b:Bool}{p q:Prop}(h1:p→vc P x Q ρ w) (h0:q→vc P y Q ρ w) (hc:evl ρ c=.bool b:=by exact rfl)
  (hp:b=true→p:=by
   intro hq
   (try simp only [beq_iff_eq,Bool.and_eq_true,Bool.or_eq_true,decide_eq_true_eq,decide_eq_false_iff_not,Bool.not_eq_true,Bool.not_eq_false,Bool.not_eq_eq_eq_not,Bool.not_true,Bool.not_false,Bool.and_eq_false_iff,Bool.or_eq_false_iff,bne_iff_ne,ne_eq,Int.not_lt,Int.not_le,Nat.not_lt,Nat.not_le] at hq)
   exact hq)
  (hn:b=false→q:=by
   intro hq
   (try simp only [beq_iff_eq,Bool.and_eq_true,Bool.or_eq_true,decide_eq_true_eq,decide_eq_false_iff_not,Bool.not_eq_true,Bool.not_eq_false,Bool.not_eq_eq_eq_not,Bool.not_true,Bool.not_false,Bool.and_eq_false_iff,Bool.or_eq_false_iff,bne_iff_ne,ne_eq,Int.not_lt,Int.not_le,Nat.not_lt,Nat.not_le] at hq)
   exact hq):vc P (.cond c x y) Q ρ w:=qoa hc (fun h=>h1 (hp h)) (fun h=>h0 (hn h))
theorem qiX {Q:Exit→Fr→World→Prop}{c:Operand}{a b:Code}(h:vc P a Q ρ w) (hc:evl ρ c=.bool true:=by exact rfl):vc P (.cond c a b) Q ρ w:=qmP hc h
theorem qiY {Q:Exit→Fr→World→Prop}{c:Operand}{a b:Code}(h:vc P b Q ρ w) (hc:evl ρ c=.bool false:=by exact rfl):vc P (.cond c a b) Q ρ w:=qmQ hc h
structure Leav (p:Prop):Prop where
 out:p
theorem qac {G G':Prop}(h:G') (hs:Leav G'→G:=by intro hgo;(first|refine qbU ?_|refine qbi ?_|refine qaF ?_|refine qcI ?_|refine qcK ?_|refine qdv ?_|refine qcr ?_|refine qcs ?_|refine qf0 ?_|refine qf1 ?_|refine qiZ ?_|refine qd6 ?_|refine qf3 ?_|refine qf4 ?_|refine qd7 ?_|refine qcp ?_|refine qiX ?_|refine qiY ?_|refine qcL ?_|refine qdg ?_|refine qg2 ?_|refine qde ?_|refine qd4 ?_|refine qfZ ?_|refine qd5 ?_|refine qdf ?_|refine go_gt ?_|refine go_gf ?_|refine qd1 ?_|refine qd2 ?_|refine qdb ?_|refine qdc ?_|refine qdd ?_);(repeat (first|refine qbU ?_|refine qbi ?_|refine qaF ?_|refine qcI ?_|refine qcK ?_|refine qdv ?_|refine qcr ?_|refine qcs ?_|refine qf0 ?_|refine qf1 ?_|refine qiZ ?_|refine qd6 ?_|refine qf3 ?_|refine qf4 ?_|refine qd7 ?_|refine qcp ?_|refine qiX ?_|refine qiY ?_|refine qcL ?_|refine qdg ?_|refine qg2 ?_|refine qde ?_|refine qd4 ?_|refine qfZ ?_|refine qd5 ?_|refine qdf ?_|refine go_gt ?_|refine go_gf ?_|refine qd1 ?_|refine qd2 ?_|refine qdb ?_|refine qdc ?_|refine qdd ?_));exact hgo.out):G:=hs ⟨h⟩
theorem qeI {G G':Prop}(h:G') (hs:Leav G'→G:=by intro hgo;(first|refine qbU ?_|refine qbi ?_|refine qaF ?_|refine qcI ?_|refine qcK ?_|refine qdv ?_|refine qcr ?_|refine qcs ?_|refine qf0 ?_|refine qf1 ?_|refine qiZ ?_|refine qd6 ?_|refine qf3 ?_|refine qf4 ?_|refine qd7 ?_|refine qcp ?_|refine qcL ?_|refine qdg ?_|refine qg2 ?_|refine qde ?_|refine qd4 ?_|refine qfZ ?_|refine qd5 ?_|refine qdf ?_|refine go_gt ?_|refine go_gf ?_|refine qd1 ?_|refine qd2 ?_|refine qdb ?_|refine qdc ?_|refine qdd ?_);(repeat (first|refine qbU ?_|refine qbi ?_|refine qaF ?_|refine qcI ?_|refine qcK ?_|refine qdv ?_|refine qcr ?_|refine qcs ?_|refine qf0 ?_|refine qf1 ?_|refine qiZ ?_|refine qd6 ?_|refine qf3 ?_|refine qf4 ?_|refine qd7 ?_|refine qcp ?_|refine qcL ?_|refine qdg ?_|refine qg2 ?_|refine qde ?_|refine qd4 ?_|refine qfZ ?_|refine qd5 ?_|refine qdf ?_|refine go_gt ?_|refine go_gf ?_|refine qd1 ?_|refine qd2 ?_|refine qdb ?_|refine qdc ?_|refine qdd ?_));exact hgo.out):G:=hs ⟨h⟩
theorem qaa {G G':Prop}(h:G') (hs:Leav G'→G:=by intro hgo;(first|refine qd3 ?_|refine qdI ?_);exact hgo.out):G:=hs ⟨h⟩
theorem qae {G G':Prop}(h:G') (hs:Leav G'→G:=by intro hgo;(first|refine qeG ?_|refine qg0 ?_|refine qg1 ?_|refine qiT ?_|refine qbA ?_);exact hgo.out):G:=hs ⟨h⟩
theorem qad {G G':Prop}(h:G') (hs:Leav G'→G:=by intro hgo;(first|refine qeG ?_|refine qg0 ?_|refine qg1 ?_|refine qiT ?_);exact hgo.out):G:=hs ⟨h⟩
theorem qmM {G G':Prop}(h:G') (hs:Leav G'→G:=by intro hgo;(first|refine qbA ?_);exact hgo.out):G:=hs ⟨h⟩
theorem qab {G G':Prop}(h:G') (hs:Leav G'→G:=by intro hgo;(first|refine qiU ?_|refine qiV ?_|refine qiW ?_|refine qlh ?_|refine qn9 ?_|refine qeH ?_);exact hgo.out):G:=hs ⟨h⟩
theorem qcq {G G':Prop}(h:G') (hs:Leav G'→G:=by intro hgo;(first|refine qiU ?_|refine qiV ?_|refine qiW ?_|refine qlh ?_|refine qeH ?_);exact hgo.out):G:=hs ⟨h⟩
end
theorem agr {W:List Nat}{ρ ρ':Fr}(h:Agree W ρ' ρ:=by repeat (first|exact qfm|(apply qg3 rfl)|(apply qli rfl)|(apply qfn rfl))):Agree W ρ' ρ:=h
end Go.Sl
