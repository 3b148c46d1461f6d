/- Several texts. -/
import Derived.OrdersIn
import Derived.KernelRfl
import Derived.Below
import Derived.Laws.Sem
import Derived.Laws.Cells
import Derived.Laws.Small
import Derived.Laws.Slices
import Derived.Laws.World
import Derived.Laws.BitsLemmas
import Derived.WideLaws
import Derived.ChangeKeysEq
import Derived.Conc.MuLone
import Derived.Laws.AppendOwn
import Derived.Laws.Pointers
set_option linter.unusedSimpArgs false
set_option linter.unusedVariables false
set_option maxRecDepth 8000
set_option maxHeartbeats 16000000
open List Nat
namespace Go.Sl
section
theorem om {P:Prop} (h:P:=by omega):P:=h
theorem kr {P:Prop} (h:P:=by kernel_rfl):P:=h
abbrev Fr:=Nat->Value
def dD (ρ:Fr) (d:Nat) (v:Value):Fr:=fun t=>bif Nat.beq t d then v else ρ t
def fh (ρ:Fr) (d:Option Nat) (v:Value):Fr:=match d with|some d=>dD ρ d v|none=>ρ
def aG (ρ:Fr):Operand->Value
 | .tmp t=>ρ t
 | .const v=>v
 | .global g=>.pointer (some ⟨g,0,none⟩)
 | .func f=>.func (.func f) #[] #[]
def fr (a:Act):Fr:=fun t=>a.tmps.getD t undef
theorem nu (a:Act):aG (fr a)=a.eval:=by
 funext x;cases x<;>rfl
inductive DB where
 | pure|read|dL
 deriving DecidableEq
def isInt (P:Program) (t:TypeId):Bool:=match P.underlying t with|some (.int _)=>true|_=>false
def cls (P:Program):Op->DB
 | .move _|.assign _|.pick ..|.binOp ..|.unOp ..|.extract ..|.fieldAddr ..|.field ..|.indexAddr ..|.index ..|.slice ..|.makeInterface ..|.makeFunc ..|.nilCheck _|.typeAssert ..=>.pure
 | .convert s d _=>if isInt P s && isInt P d then .pure else .dL
 | .call { callee:=.builtin .len,argTypes,.. }=>(match (argTypes[0]?).bind P.underlying with|some (.map ..)|some (.chan ..)=>.read|_=>.pure)
 | .call { callee:=.builtin .min,.. }|.call { callee:=.builtin .max,.. }|.call { callee:=.builtin .cap,.. }=>.pure
 | .load ..|.lookup ..=>.read
 | _=>.dL
def PureV (P:Program) (o:Oper) (ρ:Fr) (v:Value):Prop:=∀ w,(execOp (aG ρ) o).run P w=.ok (.value v) w
def ReadV (P:Program) (o:Oper) (ρ:Fr) (w:World) (v:Value):Prop:=(execOp (aG ρ) o).run P w=.ok (.value v) w
def bC (P:Program) (K:Value->World->Prop):Result Next->Prop
 | .ok (.value v) w=>K v w
 | .ok .skip w=>K undef w
 | .ok (.enter f args) w=>Calls P f args w fun
   | .returned v,w'=>K v w'
   | _,_=>False
 | .ok (.round l f tmps assign body) w=>RoundIn Fence.wide 0 P l f tmps assign body w fun
   | .returned v,w'=>K v w'
   | _,_=>False
 | _=>False
def opW (P:Program) (o:Oper) (ρ:Fr) (w:World) (K:Value->World->Prop):Prop:=bC P K ((execOp (aG ρ) o).run P w)
def opV (P:Program) (o:Oper) (ρ:Fr) (w:World) (K:Fr->World->Prop):Prop :=
 match cls P o.op with
 | .pure=>∃ v,PureV P o ρ v/\K (fh ρ o.dst v) w
 | .read=>∃ v,ReadV P o ρ w v/\K (fh ρ o.dst v) w
 | .dL=>opW P o ρ w fun v w'=>K (fh ρ o.dst v) w'
def asks (v:Value) (want:Bool):Bool:=match v with|.bool b=>b == want|_=>false
def gj (ops:Array Oper) (j:Nat):Option Nat:=(ops[j]?).bind (·.dst)
def eo (ops:Array Oper) (ρ:Fr) (g:Nat × Bool):Bool:=match gj ops g.1 with|some t=>asks (ρ t) g.2|none=>false
def opsW (P:Program) (ops:Array Oper) (K:Fr->World->Prop):List Oper->Fr->World->Prop
 | [],ρ,w=>K ρ w
 | o::r,ρ,w =>
  match o.guard with
  | none=>opV P o ρ w (opsW P ops K r)
  | some g=>(eo ops ρ g=true->opV P o ρ w (opsW P ops K r))/\(eo ops ρ g=false->opsW P ops K r (fh ρ o.dst undef) w)
def Thn (next:Fr->World->Prop) (Q:Exit->Fr->World->Prop):Exit->Fr->World->Prop
 | .normal,ρ,w=>next ρ w
 | e,ρ,w=>Q e ρ w
def Blk (id:Nat) (Q:Exit->Fr->World->Prop):Exit->Fr->World->Prop
 | .exit i,ρ,w=>if i=id then Q .normal ρ w else Q (.exit i) ρ w
 | e,ρ,w=>Q e ρ w
def gN (P:Program) (a b:Op):Bool :=
 match cls P a,cls P b with
 | .pure,_|_,.pure=>true
 | .read,.read=>true
 | _,_=>false
def oH (P:Program) (ops:Array Oper) (bef:Array Nat) (i j:Nat):Bool :=
 (bef.getD j 0).testBit i || match ops[i]?,ops[j]? with
  | some oi,some oj=>oi.apart ops oj && gN P oi.op oj.op
  | _,_=>true
def fo (ops:Array Oper) (bef:Array Nat):Bool :=
 (List.range ops.size).all fun j=>(List.range ops.size).all fun i => !(bef.getD j 0).testBit i ||
  match ops[j]? with
  | some oj=>oj.after.any fun e=>Region.binds .any e && (e.on == i || (bef.getD e.on 0).testBit i)
  | none=>false
def my (P:Program) (ops:Array Oper):Bool :=
 let bef:=Region.before ops
 Region.noSelect ops && fo ops bef && (List.range ops.size).all (fun j=>(List.range j).all fun i=>oH P ops bef i j) &&
 (List.range ops.size).all fun j=>match ops[j]? with
  | some oj=>oj.after.all (fun e => !Region.binds .any e || decide (e.on<j)) && decide (bef.getD j 0<2 ^ ops.size) && decide (bef.size<=ops.size)
  | none=>true
inductive Item where
 | op (i:Nat)
 | chk (i:Nat)
 deriving DecidableEq
section
variable (P:Program) (ops:Array Oper)
def e8 (i:Nat):DB:=match ops[i]? with|some o=>cls P o.op|none=>.pure
def pP (i j:Nat):Bool:=((Region.before ops).getD j 0).testBit i
def loose (j:Nat):List Nat:=(List.range ops.size).filter fun i=>e8 P ops i == .read && !(i == j) && !pP ops i j && !pP ops j i
def dC (π:List Nat):List Item:=π.flatMap fun i=>Item.op i::(match e8 P ops i with|.dL=>(loose P ops i).map Item.chk|_=>[])
def dP:List Item->List Nat
 | []=>[]
 | .op i::r=>i::dP r
 | .chk _::r=>dP r
def gO (a b:DB):Bool:=match a,b with|.pure,_|_,.pure=>true|.read,.read|.read,.dL=>true|_,_=>false
def oI (i j:Nat):Bool:=pP ops i j || match ops[i]?,ops[j]? with|some oi,some oj=>oi.apart ops oj && gO (cls P oi.op) (cls P oj.op)|_,_=>false
def js:List Nat->Bool
 | []=>true
 | i::r=>r.all (fun j=>oI P ops i j) && js r
def fH:List Nat->List Nat->Bool
 | _,[]=>true
 | done,i::r=>(match ops[i]? with|some o=>o.after.all fun e => !Region.binds .any e || done.contains e.on|none=>false) && fH (i::done) r
def nw (r k:Nat):Bool:=k == r || pP ops k r || match ops[r]?,ops[k]? with
 | some or_,some ok=>(match ok.dst with|some d => !(or_.looksAt ops).contains d && or_.dst != some d|none=>true)
 | _,_=>true
def lI (is:List Item):Bool :=
 decide (is=dC P ops (dP is)) && Region.noSelect ops && fo ops (Region.before ops) &&
 decide ((dP is).length=ops.size) && (dP is).all (fun i=>decide (i<ops.size)) && decide ((dP is).Nodup) &&
 fH ops [] (dP is) && js P ops (dP is) &&
 (List.range ops.size).all (fun r => !(e8 P ops r == .read) || (List.range ops.size).all fun k=>nw ops r k) &&
 ops.all (fun o => !(cls P o.op == .read) || (match o.dst with|some d => !(o.looksAt ops).contains d|none=>false)) &&
 (List.range ops.size).all (fun j=>decide ((Region.before ops).getD j 0<2 ^ ops.size)) && decide ((Region.before ops).size<=ops.size) && (List.range ops.size).all fun j=>(dP is).contains j
end
def opsD (P:Program) (ops:Array Oper) (K:Fr->World->Prop):List Item->Fr->World->Prop
 | [],ρ,w=>K ρ w
 | .op i::r,ρ,w=>(match ops[i]? with|some o=>opsW P ops (opsD P ops K r) [o] ρ w|none=>False)
 | .chk i::r,ρ,w=>(match ops[i]? with
   | some o=>(match o.guard with
     | none=>∀ d,o.dst=some d->ReadV P o ρ w (ρ d)
     | some g=>eo ops ρ g=true->∀ d,o.dst=some d->ReadV P o ρ w (ρ d))
   | none=>False)/\opsD P ops K r ρ w
inductive PT where
 | lin (is:List Item)
 | step (i:Nat) (is:List Item) (t:PT)
 | alt (i:Nat) (is:List Item) (t:PT) (more:PT)
 | stop
def gP (P:Program) (ops:Array Oper) (K:Fr->World->Prop):PT->Fr->World->Prop
 | .lin is,ρ,w=>opsD P ops K is ρ w
 | .step _ is t,ρ,w=>opsD P ops (gP P ops K t) is ρ w
 | .alt _ is t m,ρ,w=>opsD P ops (gP P ops K t) is ρ w/\gP P ops K m ρ w
 | .stop,_,_=>True
def oJ (P:Program) (ops:Array Oper):Bool :=
 Region.noSelect ops && fo ops (Region.before ops) &&
 (List.range ops.size).all (fun r => !(e8 P ops r == .read) || (List.range ops.size).all fun k=>nw ops r k) &&
 ops.all (fun o => !(cls P o.op == .read) || (match o.dst with|some d => !(o.looksAt ops).contains d|none=>false)) &&
 (List.range ops.size).all (fun j=>decide ((Region.before ops).getD j 0<2 ^ ops.size)) && decide ((Region.before ops).size<=ops.size)
def ki (ops:Array Oper) (dn:List Nat) (i:Nat):Bool:=match ops[i]? with|some o=>o.after.all fun e => !Region.binds .any e || dn.contains e.on|none=>false
def gm (P:Program) (ops:Array Oper):List Nat->List Nat->PT->Bool
 | dn,seen,.lin is=>seen.isEmpty && decide (is=dC P ops (dP is)) && decide ((dP is).length+dn.length=ops.size) && (dP is).all (fun i=>decide (i<ops.size) && !dn.contains i) && decide ((dP is).Nodup) && fH ops dn (dP is) && js P ops (dP is) && (List.range ops.size).all fun j=>dn.contains j || (dP is).contains j
 | dn,seen,.step i is t=>seen.isEmpty && decide (is=dC P ops [i]) && decide (dn.length<ops.size) && !dn.contains i && ki ops dn i && (List.range ops.size).all (fun j=>dn.contains j || j == i || oI P ops i j) && gm P ops (i::dn) [] t
 | dn,seen,.alt i is t m=>decide (is=dC P ops [i]) && decide (dn.length<ops.size) && !dn.contains i && ki ops dn i && gm P ops (i::dn) [] t && gm P ops dn (i::seen) m
 | dn,seen,.stop => !seen.isEmpty && (List.range ops.size).all fun j=>dn.contains j || seen.contains j || !ki ops dn j
def vc (P:Program):Code->(Exit->Fr->World->Prop)->Fr->World->Prop
 | .skip,Q,ρ,w=>Q .normal ρ w
 | .label _,Q,ρ,w=>Q .normal ρ w
 | .seq a b,Q,ρ,w=>vc P a (Thn (vc P b Q) Q) ρ w
 | .cond c x y,Q,ρ,w=>∃ t,aG ρ c=.bool t/\(t=true->vc P x Q ρ w)/\(t=false->vc P y Q ρ w)
 | .block id c,Q,ρ,w=>vc P c (Blk id Q) ρ w
 | .loop c,Q,ρ,w=>∃ (I:Nat->Fr->World->Prop),(∃ m,I m ρ w)/\∀ m ρ w,I m ρ w->vc P c (Thn (fun ρ' w'=>∃ m',m'<m/\I m' ρ' w') Q) ρ w
 | .exit id,Q,ρ,w=>Q (.exit id) ρ w
 | .ret,Q,ρ,w=>Q .ret ρ w
 | .region _ ops false,Q,ρ,w=>opsW P ops (Q .normal) ops.toList ρ w
 | .region _ ops true,Q,ρ,w=>(my P ops=true/\opsW P ops (Q .normal) ops.toList ρ { w with drawn:=w.drawn+1 })\/(∃ is,lI P ops is=true/\opsD P ops (Q .normal) is ρ { w with drawn:=w.drawn+1 })\/∃ T,oJ P ops=true/\gm P ops [] [] T=true/\gP P ops (Q .normal) T ρ { w with drawn:=w.drawn+1 }
 | _,_,_,_=>False
def fI (n:Nat) (ops:Array Oper):Bool:=ops.all fun o=>match o.dst with|some d=>decide (d<n)|none=>true
def fits (n:Nat):Code->Bool
 | .seq a b=>fits n a && fits n b
 | .cond _ x y=>fits n x && fits n y
 | .block _ c=>fits n c
 | .loop c=>fits n c
 | .region _ ops _=>fI n ops
 | _=>true
theorem te {a:Act}{d:Option Nat}{v:Value}(h:∀ t,d=some t->t<a.tmps.size):fr (a.put d v)=fh (fr a) d v:=by
 cases d with
 | none=>rfl
 | some d =>
  funext t
  have hd:=h d rfl;simp only[fr,Act.put,fh,dD];by_cases htd:t=d
  ·subst htd;simp[hd]
  ·have:Nat.beq t d=false:=by cases hb:Nat.beq t d with|false=>rfl|true=>exact absurd (eq_of_beq_eq_true hb) htd
   rw[this];simp[Array.getElem?_setIfInBounds_ne (Ne.symm htd)]
theorem size_put (a:Act) (d:Option Nat) (v:Value):(a.put d v).tmps.size=a.tmps.size:=by cases d<;>simp[Act.put]
theorem xd (a:Act) (d:Option Nat) (v:Value):(a.put d v).defers=a.defers:=by cases d<;>rfl
theorem qbm {ops:Array Oper}{a:Act}{o:Oper}{g:Nat × Bool}(hg:o.guard=some g) :
  Region.wanted o (yielded ops a.tmps)=eo ops (fr a) g:=by
 obtain⟨j,want⟩:=g;simp only[Region.wanted,hg,eo,gj,yielded,fr,asks]
 cases (ops[j]?).bind (·.dst) with
 | none=>simp
 | some t =>
  simp only[Option.bind_some]
  cases ht:a.tmps[t]? with
  | none=>simp[ht,undef]
  | some v=>simp[ht];cases v<;>simp
section
variable {P:Program}
def Ok (n:Nat) (K:Fr->World->Prop) (a:Act) (w:World):Prop:=a.tmps.size=n/\a.defers=[]/\K (fr a) w
def DI (n:Nat) (Q:Exit->Fr->World->Prop) (e:Exit) (a:Act) (w:World):Prop:=a.tmps.size=n/\a.defers=[]/\Q e (fr a) w
theorem qL {K K':Value->World->Prop}(h:∀ v w,K v w->K' v w) {r:Result Next}(hr:bC P K r):bC P K' r:=by
 unfold bC at *
 split at hr
 ·exact h _ _ hr
 ·exact h _ _ hr
 ·exact Calls.mono hr fun e w' he=>by cases e<;>first|exact h _ _ he|exact he
 ·exact RoundIn.mono hr fun e w' he=>by cases e<;>first|exact h _ _ he|exact he
 ·exact hr.elim
def fw (ro:Option Nat):Fence:={ Fence.wide with round:=ro }
theorem qnY {ro:Option Nat}{m:Nat}{f:FuncId}{args:Array Value}{w:World}{R:Ending->World->Prop}(h:Calls P f args w R):CallsIn (fw ro) m P f args w R:=(callsIn_wide (n:=m)).2 h
theorem qnZ {ro:Option Nat}{m l:Nat}{f:FuncId}{tmps:Array Value}{assign body:Code}{w:World}{R:Ending->World->Prop}(h:RoundIn Fence.wide 0 P l f tmps assign body w R):RoundIn (fw ro) m P l f tmps assign body w R :=
 ⟨h.1,fun c cs _=>h.2 c cs (room_wide _)⟩
theorem qln {o:Oper}{ρ:Fr}{w:World}{K:Value->World->Prop}(h:opW P o ρ w K):∀ c,o.op≠.defer c:=by
 intro c hc;unfold opW execOp at h;simp only[hc]at h;simp only[Sem.run_bind]at h;generalize (resolve (aG ρ) c o.type).run P w=r at h;cases r<;>exact h
theorem qpC {ro:Option Nat}{m:Nat}{o:Oper}{a:Act}{w:World}{K:Value->World->Prop}{Q:Exit->Act->World->Prop}
  (h:opW P o (fr a) w K):o.wpIn (fw ro) m P a w (fun a' w'=>∃ v,a'=a.put o.dst v/\K v w') Q:=by
 refine⟨fun _ _=>trivial,?_⟩;rw[Oper.semAt_eq _ _ _ (qln h)];unfold opW at h;rw[nu]at h;generalize (execOp a.eval o).run P w=r at *
 unfold bC at h;split at h
 ·exact⟨_,rfl,h⟩
 ·exact⟨_,rfl,h⟩
 ·refine⟨fun hd=>absurd hd (by simp[fw,Fence.wide]),CallsIn.mono (qnY h) fun e w' he=>?_⟩
  cases e with
  | returned v=>exact⟨_,rfl,he⟩
  | panicked c=>exact he.elim
  | outgrown=>exact he.elim
 ·refine⟨fun hd=>absurd hd (by simp[fw,Fence.wide]),RoundIn.mono (qnZ h) fun e w' he=>?_⟩
  cases e with
  | returned v=>exact⟨_,rfl,he⟩
  | panicked c=>exact he.elim
  | outgrown=>exact he.elim
 ·exact h.elim
def eH (P:Program) (o:Oper) (a:Act) (w:World) (K:Act->World->Prop):Prop :=
 match cls P o.op with
 | .pure=>∃ v,(∀ w,(execOp a.eval o).run P w=.ok (.value v) w)/\K (a.put o.dst v) w
 | .read=>∃ v,(execOp a.eval o).run P w=.ok (.value v) w/\K (a.put o.dst v) w
 | .dL=>bC P (fun v w'=>K (a.put o.dst v) w') ((execOp a.eval o).run P w)
def mN (P:Program) (ops:Array Oper) (o:Oper) (K:Act->World->Prop) (a:Act) (w:World):Prop :=
 (Region.wanted o (yielded ops a.tmps)=true->eH P o a w K)/\(Region.wanted o (yielded ops a.tmps)=false->K (a.put o.dst undef) w)
theorem qc6 {o:Oper}{a:Act}{w:World}{K K':Act->World->Prop}(h:∀ u w',K (a.put o.dst u) w'->K' (a.put o.dst u) w') (hh:eH P o a w K):eH P o a w K':=by
 unfold eH at *
 split at hh
 ·obtain⟨v,h1,h2⟩:=hh;exact⟨v,h1,h _ _ h2⟩
 ·obtain⟨v,h1,h2⟩:=hh;exact⟨v,h1,h _ _ h2⟩
 ·exact qL (fun v w'=>h v w') hh
theorem xe {ops:Array Oper}{o:Oper}{a:Act}{w:World}{K K':Act->World->Prop}(h:∀ u w',K (a.put o.dst u) w'->K' (a.put o.dst u) w') (hh:mN P ops o K a w):mN P ops o K' a w :=
 ⟨fun hw=>qc6 h (hh.1 hw),fun hw=>h _ _ (hh.2 hw)⟩
theorem qcG {K:Value->World->Prop}{r:Result Next}(h:bC P K r):∃ v w',K v w':=by
 unfold bC at h;split at h
 ·exact⟨_,_,h⟩
 ·exact⟨_,_,h⟩
 ·obtain⟨e,w',fr',hR,_⟩:=h []
  cases e with
  | returned v=>exact⟨_,_,hR⟩
  | panicked c=>exact hR.elim
  | outgrown=>exact hR.elim
 ·obtain⟨e,w',hR,_⟩:=h.2 default [] (room_wide _)
  cases e with
  | returned v=>exact⟨_,_,hR⟩
  | panicked c=>exact hR.elim
  | outgrown=>exact hR.elim
 ·exact h.elim
theorem qpD {o:Oper}{a:Act}{w:World}{K:Act->World->Prop}(h:eH P o a w K):∃ v w',K (a.put o.dst v) w':=by
 unfold eH at h;split at h
 ·obtain⟨v,_,h2⟩:=h;exact⟨_,_,h2⟩
 ·obtain⟨v,_,h2⟩:=h;exact⟨_,_,h2⟩
 ·exact qcG h
theorem qsm {ops:Array Oper}{o:Oper}{a:Act}{w:World}{K:Act->World->Prop}(h:mN P ops o K a w):∃ v w',K (a.put o.dst v) w':=by
 cases hw:Region.wanted o (yielded ops a.tmps) with
 | true=>exact qpD (h.1 hw)
 | false=>exact⟨_,_,h.2 hw⟩
theorem qmH {ops:Array Oper}{oi oj:Oper}{v:Value}(lN:oi.apart ops oj=true) (pQ:∀ cs b,oj.op≠.select cs b) {K:Act->World->Prop}{a:Act}{w:World}
  (h:eH P oj (a.put oi.dst v) w K):eH P oj a w fun a' w'=>K (a'.put oi.dst v) w':=by
 obtain⟨h1,h2,h3⟩:=Oper.apart_spec lN;unfold eH at *
 rw[execOp_put oj pQ a oi.dst v h1]at h;split
 ·rename_i hc;simp only[hc]at h
  obtain⟨u,hu,hk⟩:=h;exact⟨u,hu,(by have aj:=hk;rw[Act.put_comm a v u h2]at aj;exact aj)⟩
 ·rename_i hc;simp only[hc]at h
  obtain⟨u,hu,hk⟩:=h;exact⟨u,hu,(by have aj:=hk;rw[Act.put_comm a v u h2]at aj;exact aj)⟩
 ·rename_i hc;simp only[hc]at h
  exact qL (fun u w' hk=>(by have aj:=hk;rw[Act.put_comm a v u h2]at aj;exact aj)) h
theorem quW {ops:Array Oper}{oi oj:Oper}{v:Value}(lN:oi.apart ops oj=true) (pQ:∀ cs b,oj.op≠.select cs b) {K:Act->World->Prop}{a:Act}{w:World}
  (h:mN P ops oj K (a.put oi.dst v) w):mN P ops oj (fun a' w'=>K (a'.put oi.dst v) w') a w:=by
 obtain⟨h1,h2,h3⟩:=Oper.apart_spec lN;unfold mN at *
 rw[wanted_put oj a oi.dst v h1]at h;exact⟨fun hw=>qmH lN pQ (h.1 hw),fun hw=>(by have aj:=h.2 hw;rw[Act.put_comm a v undef h2]at aj;exact aj)⟩
theorem qsn {ops:Array Oper}{oi oj:Oper}(lN:oi.apart ops oj=true) (gg:gN P oi.op oj.op=true) (tf:∀ cs b,oi.op≠.select cs b) (pQ:∀ cs b,oj.op≠.select cs b)
  {K:Act->World->Prop}{a:Act}{w:World}(h:mN P ops oi (mN P ops oj K) a w):mN P ops oj (mN P ops oi K) a w:=by
 obtain⟨h1,h2,h3⟩:=Oper.apart_spec lN;have wi:∀ u,Region.wanted oi (yielded ops (a.put oj.dst u).tmps)=Region.wanted oi (yielded ops a.tmps):=fun u=>wanted_put oi a oj.dst u h3;have wj:∀ u,Region.wanted oj (yielded ops (a.put oi.dst u).tmps)=Region.wanted oj (yielded ops a.tmps):=fun u=>wanted_put oj a oi.dst u h1;have ei:∀ u,execOp (a.put oj.dst u).eval oi=execOp a.eval oi:=fun u=>execOp_put oi tf a oj.dst u h3;have ej:∀ u,execOp (a.put oi.dst u).eval oj=execOp a.eval oj:=fun u=>execOp_put oj pQ a oi.dst u h1
 cases rF:Region.wanted oi (yielded ops a.tmps) with
 | false =>
  refine xe (fun u w' hk=>?_) (quW lN pQ (h.2 rF))
  exact⟨fun hw=>(by rw[wi u,rF]at hw;cases hw),fun _=>hk⟩
 | true =>
  have hi:=h.1 rF
  cases qM:Region.wanted oj (yielded ops a.tmps) with
  | false =>
   refine⟨fun hw=>(by rw[qM]at hw;cases hw),fun _=>⟨fun _=>?_,fun hw=>(by rw[wi,rF]at hw;cases hw)⟩⟩;have eO:eH P oi a w fun a' w'=>K (a'.put oj.dst undef) w':=qc6 (fun u w' hk=>hk.2 (by rw[wj u,qM])) hi;unfold eH at eO ⊢;rw[ei];split
   ·rename_i hc;simp only[hc]at eO;obtain⟨v,hv,hk⟩:=eO;exact⟨v,hv,(by have aj:=hk;rw[Act.put_comm a v undef h2]at aj;exact aj)⟩
   ·rename_i hc;simp only[hc]at eO;obtain⟨v,hv,hk⟩:=eO;exact⟨v,hv,(by have aj:=hk;rw[Act.put_comm a v undef h2]at aj;exact aj)⟩
   ·rename_i hc;simp only[hc]at eO;exact qL (fun v w' hk=>(by have aj:=hk;rw[Act.put_comm a v undef h2]at aj;exact aj)) eO
  | true =>
   refine⟨fun _=>?_,fun hw=>(by rw[qM]at hw;cases hw)⟩;have eO:eH P oi a w fun a' w'=>eH P oj a' w' K:=qc6 (fun u w' hk=>hk.1 (by rw[wj u,qM])) hi;have done:eH P oj a w (fun a' w'=>eH P oi a' w' K)->eH P oj a w (mN P ops oi K):=qc6 (fun u w' hk=>⟨fun _=>hk,fun hw=>(by rw[wi u,rF]at hw;cases hw)⟩);refine done ?_;clear hi h done
   cases iK:cls P oi.op with
   | pure =>
    unfold eH at eO;simp only[iK]at eO;obtain⟨v,hv,hk⟩:=eO;refine qc6 (fun u w' hk=>?_) (qmH lN pQ (K:=K) (v:=v) hk)
    unfold eH;simp only[iK];rw[ei u];exact⟨v,hv,hk⟩
   | read =>
    cases kz:cls P oj.op with
    | pure =>
     unfold eH at eO ⊢;simp only[iK,kz]at eO ⊢;obtain⟨v,hv,u,hu,hk⟩:=eO;rw[ej v]at hu
     exact⟨u,hu,v,by rw[ei u];exact hv,(by have aj:=hk;rw[Act.put_comm a v u h2]at aj;exact aj)⟩
    | read =>
     unfold eH at eO ⊢;simp only[iK,kz]at eO ⊢;obtain⟨v,hv,u,hu,hk⟩:=eO;rw[ej v]at hu
     exact⟨u,hu,v,by rw[ei u];exact hv,(by have aj:=hk;rw[Act.put_comm a v u h2]at aj;exact aj)⟩
    | dL=>simp[gN,iK,kz]at gg
   | dL =>
    cases kz:cls P oj.op with
    | pure =>
     unfold eH at eO ⊢;simp only[iK,kz]at eO ⊢;obtain⟨v0,w0,u,hu,_⟩:=qcG eO;rw[ej v0]at hu;refine⟨u,hu,?_⟩;rw[ei u];refine qL (fun v w' hk=>?_) eO;obtain⟨u',hu',hk⟩:=hk;rw[ej v]at hu';have he:=(hu w').symm.trans (hu' w');simp only[Result.ok.injEq,Next.value.injEq,and_true]at he;subst he
     rw[<-Act.put_comm a v u h2];exact hk
    | read=>simp[gN,iK,kz]at gg
    | dL=>simp[gN,iK,kz]at gg
def lO (P:Program) (ops:Array Oper) (i:Nat) (K:Act->World->Prop) (a:Act) (w:World):Prop :=
 match ops[i]? with
 | none=>K a w
 | some o=>mN P ops o K a w
def kj (P:Program) (ops:Array Oper) (K:Act->World->Prop):Nat->Array Bool->Act->World->Prop
 | 0,listed,a,w=>Region.ready .any ops listed=[]/\K a w
 | fuel+1,listed,a,w=>(Region.ready .any ops listed=[]->K a w) /\
  ∀ i∈Region.ready .any ops listed,lO P ops i (kj P ops K fuel (listed.setIfInBounds i true)) a w
theorem qcH {ops:Array Oper}{i:Nat}{K:Act->World->Prop}{Q:Exit->Act->World->Prop}{a:Act}{w:World}{ro:Option Nat}{m:Nat}(h:lO P ops i K a w):wpOpIn (fw ro) m P ops Q i K a w:=by
 unfold lO at h;unfold wpOpIn;split
 ·rename_i ho;simp only[ho]at h;exact h
 ·rename_i o ho
  simp only[ho]at h;split
  ·rename_i hw
   have hv:=h.1 hw;have h2:opW P o (fr a) w fun v w'=>K (a.put o.dst v) w':=by
    unfold opW;rw[nu];unfold eH at hv;split at hv
    ·obtain⟨v,hv,hk⟩:=hv;rw[hv w];exact hk
    ·obtain⟨v,hv,hk⟩:=hv;rw[hv];exact hk
    ·exact hv
   exact Oper.wpIn_mono (fun a' w' ⟨v,e,hk⟩=>by subst e;exact hk) (qpC h2)
  ·rename_i hw;exact⟨fun _ _=>trivial,h.2 (by simpa using hw)⟩
theorem qeS {ro:Option Nat}{m:Nat}{ops:Array Oper}{K:Act->World->Prop}{Q:Exit->Act->World->Prop}(hQ:∀ a w,K a w->Q .normal a w):∀ (fuel:Nat) (listed:Array Bool) (a:Act) (w:World),
  kj P ops K fuel listed a w->wpAnyIn (fw ro) m P .any ops Q fuel listed a w
 | 0,_,_,_,h=>⟨h.1,hQ _ _ h.2⟩
 | fuel+1,_,_,_,h=>⟨fun h0=>hQ _ _ (h.1 h0),fun i hi=>qcH (by
   have:=h.2 i hi;unfold lO at this ⊢;split
   ·rename_i ho;simp only[ho]at this;exact qeS hQ fuel _ _ _ this
   ·rename_i o ho;simp only[ho]at this;exact xe (fun u w' hk=>qeS hQ fuel _ _ _ hk) this)⟩
def Down (ops:Array Oper) (listed:Array Bool):Prop:=∀ j i,listed.getD j false=true->((Region.before ops).getD j 0).testBit i=true->listed.getD i false=true
theorem qd7 {ops:Array Oper}(hc:fo ops (Region.before ops)=true) {i j:Nat}{oj:Oper}(hj:ops[j]? = some oj) (hi:i<ops.size) (hb:((Region.before ops).getD j 0).testBit i=true) :
  ∃ e∈oj.after,Region.binds .any e=true/\(e.on=i\/((Region.before ops).getD e.on 0).testBit i=true):=by
 have cJ:j<ops.size:=(Array.getElem?_eq_some_iff.1 hj).1;have h1:=all_eq_true.1 (all_eq_true.1 hc j (mem_range.2 cJ)) i (mem_range.2 hi);simp only[hb,Bool.not_true,Bool.false_or,hj]at h1;obtain⟨e,he,eY⟩:=Array.any_eq_true'.1 h1;simp only[Bool.and_eq_true,Bool.or_eq_true,beq_iff_eq]at eY;exact⟨e,he,eY.1,eY.2⟩
theorem xf {listed:Array Bool}{i:Nat}(h:listed.getD i true=false):listed.getD i false=false/\i<listed.size:=by
 rcases Nat.lt_or_ge i listed.size with h'|h'
 ·simp[h']at h ⊢;exact h
 ·simp[Array.getElem?_eq_none h']at h
theorem qeT {ops:Array Oper}(hc:fo ops (Region.before ops)=true) {listed:Array Bool}(hd:Down ops listed) (hs:listed.size=ops.size) {i j:Nat}(hi:listed.getD i true=false)
  (hj:j∈Region.ready .any ops listed):((Region.before ops).getD j 0).testBit i=false:=by
 obtain⟨_,oj,lP,bZ⟩:=mem_ready.1 hj
 cases hb:((Region.before ops).getD j 0).testBit i with
 | false=>rfl
 | true =>
  obtain⟨hi0,cI⟩:=xf hi;obtain⟨e,he,oK,th⟩:=qd7 hc lP om hb;have hl:=bZ e he oK;rcases th with rfl|th
  ·rw[hi0]at hl;cases hl
  ·have:=hd _ _ hl th
   rw[hi0]at this;cases this
theorem qfG {ops:Array Oper}(hc:fo ops (Region.before ops)=true) {listed:Array Bool}(hd:Down ops listed) {j:Nat}(hj:j∈Region.ready .any ops listed)
  (iH:∀ k i,((Region.before ops).getD k 0).testBit i=true->i<ops.size):Down ops (listed.setIfInBounds j true):=by
 obtain⟨_,oj,lP,bZ⟩:=mem_ready.1 hj;intro k i hk hb;by_cases nT:j=k
 ·subst nT
  obtain⟨e,he,oK,th⟩:=qd7 hc lP (iH _ _ hb) hb;have hl:=bZ e he oK;rcases th with rfl|th
  ·exact getD_set_true hl
  ·exact getD_set_true (hd _ _ hl th)
 ·rw[getD_set_ne false nT]at hk
  exact getD_set_true (hd _ _ hk hb)
theorem qjV {ops:Array Oper}{K:Act->World->Prop}(hc:fo ops (Region.before ops)=true) (iH:∀ k i,((Region.before ops).getD k 0).testBit i=true->i<ops.size)
  (gQ:∀ (j:Nat) (o:Oper) cs b,ops[j]? = some o->o.op≠.select cs b) {i:Nat}{oi:Oper}(hi:ops[i]? = some oi) :
  ∀ (fuel:Nat) (listed:Array Bool) (a:Act) (w:World),listed.size=ops.size->Down ops listed ->
   (∀ j oj,ops[j]? = some oj->j≠i->listed.getD j true=false->((Region.before ops).getD j 0).testBit i=false->oi.apart ops oj=true/\gN P oi.op oj.op=true) ->
   i∈Region.ready .any ops listed->mN P ops oi (kj P ops K fuel (listed.setIfInBounds i true)) a w->kj P ops K (fuel+1) listed a w:=by
 intro fuel
 induction fuel with
 | zero =>
  intro listed a w hs hd gn hr H;refine⟨fun h=>(by rw[h]at hr;cases hr),fun j hj=>?_⟩;by_cases kS:j=i
  ·subst kS;unfold lO;rw[hi];exact H
  ·obtain⟨v,w',hk⟩:=qsm H
   have:=ready_mono hj kS
   rw[hk.1]at this;cases this
 | succ fuel ih =>
  intro listed a w hs hd gn hr H;refine⟨fun h=>(by rw[h]at hr;cases hr),fun j hj=>?_⟩;by_cases kS:j=i
  ·subst kS;unfold lO;rw[hi];exact H
  ·obtain⟨iU,oj,lP,_⟩:=mem_ready.1 hj
   have iv:=(mem_ready.1 hr).1;have yw:=qeT hc hd hs iv hj;obtain⟨lN,gg⟩:=gn j oj lP kS iU yw
   have h1:mN P ops oi (mN P ops oj (kj P ops K fuel ((listed.setIfInBounds i true).setIfInBounds j true))) a w :=
    xe (fun u w' hk=>by have:=hk.2 j (ready_mono hj kS);unfold lO at this;rw[lP]at this;exact this) H
   have h2:=qsn lN gg (fun cs b=>gQ i oi cs b hi) (fun cs b=>gQ j oj cs b lP) h1;unfold lO;rw[lP];refine xe (fun u w' hk=>?_) h2;rw[Array.setIfInBounds_comm _ _ (Ne.symm kS)]at hk;refine ih (listed.setIfInBounds j true) _ w' (by simpa using hs) (qfG hc hd hj iH) (fun k ok br wR oL hkb=>gn k ok br wR ?_ hkb) (ready_mono hr (Ne.symm kS)) hk;by_cases nT:j=k
   ·subst nT;exact iU
   ·rw[getD_set_ne true nT]at oL;exact oL
def yx (ops:Array Oper) (k:Nat) (listed:Array Bool):Prop:=listed.size=ops.size/\∀ j,j<ops.size->∀ d,listed.getD j d=decide (j<k)
theorem qpE {ops:Array Oper}(hc:fo ops (Region.before ops)=true) (bD:∀ j oj,ops[j]? = some oj->∀ e∈oj.after,Region.binds .any e=true->e.on<j) :
  ∀ j i,i<ops.size->j<ops.size->((Region.before ops).getD j 0).testBit i=true->i<j:=by
 intro j
 induction j using Nat.strongRecOn with
 | _ j ih =>
  intro i hi hj hb;obtain⟨oj,lP⟩:∃ oj,ops[j]? = some oj:=⟨ops[j],by simp[hj]⟩
  obtain⟨e,he,oK,th⟩:=qd7 hc lP hi hb;have hl:=bD j oj lP e he oK;rcases th with rfl|th
  ·exact hl
  ·exact Nat.lt_trans (ih e.on hl i hi om th) hl
theorem qgb {ops:Array Oper}{o:Oper}{r:List Oper}{K:Fr->World->Prop}{n:Nat}{a:Act}{w:World}(cL:∀ d,o.dst=some d->d<n)
  (hs:a.tmps.size=n) (hd:a.defers=[]) (h:opsW P ops K (o::r) (fr a) w):mN P ops o (fun a' w'=>a'.tmps.size=n/\a'.defers=[]/\opsW P ops K r (fr a') w') a w:=by
 have cO:∀ v,fr (a.put o.dst v)=fh (fr a) o.dst v:=fun v=>te fun t ht=>by rw[hs];exact cL t ht
 have bS:∀ v w',opsW P ops K r (fh (fr a) o.dst v) w'->(a.put o.dst v).tmps.size=n/\(a.put o.dst v).defers=[]/\opsW P ops K r (fr (a.put o.dst v)) w' :=
  fun v w' hk=>⟨by rw[size_put,hs],by rw[xd,hd],by rw[cO];exact hk⟩
 have bW:opV P o (fr a) w (opsW P ops K r)->eH P o a w fun a' w'=>a'.tmps.size=n/\a'.defers=[]/\opsW P ops K r (fr a') w':=by
  intro h;unfold opV at h;unfold eH;split at h
  ·obtain⟨v,hv,hk⟩:=h
   unfold PureV at hv;rw[nu]at hv;exact⟨v,hv,bS _ _ hk⟩
  ·obtain⟨v,hv,hk⟩:=h
   unfold ReadV at hv;rw[nu]at hv;exact⟨v,hv,bS _ _ hk⟩
  ·unfold opW at h;rw[nu]at h
   exact qL (fun v w' hk=>bS _ _ hk) h
 simp only[opsW]at h
 cases hg:o.guard with
 | none =>
  simp only[hg]at h;refine⟨fun _=>bW h,fun hw=>?_⟩
  simp[Region.wanted,hg]at hw
 | some g =>
  simp only[hg]at h;unfold mN;rw[qbm hg];exact⟨fun hw=>bW (h.1 hw),fun hw=>bS _ _ (h.2 hw)⟩
theorem qlo {ops:Array Oper}{K:Fr->World->Prop}{n:Nat}(gg:my P ops=true) (cL:fI n ops=true)
  :
  ∀ (l:List Oper) (k:Nat) (listed:Array Bool) (a:Act) (w:World),(∀ j,l[j]? = ops[k+j]?)->k+l.length=ops.size->yx ops k listed ->
   a.tmps.size=n->a.defers=[]->opsW P ops K l (fr a) w->kj P ops (Ok n K) l.length listed a w:=by
 have qwO:=gg;simp only[my,Bool.and_eq_true]at qwO;obtain⟨⟨⟨gQ,hc⟩,qwP⟩,bD⟩:=qwO;have qwQ:∀ j oj,ops[j]? = some oj->∀ e∈oj.after,Region.binds .any e=true->e.on<j:=by
  intro j oj hj e he hb;have h1:=all_eq_true.1 bD j (mem_range.2 (Array.getElem?_eq_some_iff.1 hj).1);simp only[hj,Bool.and_eq_true]at h1;have h2:=Array.all_eq_true_iff_forall_mem.1 h1.1.1 e he
  simpa [hb] using h2
 have iH:∀ k i,((Region.before ops).getD k 0).testBit i=true->i<ops.size:=by
  intro k i hb;rcases Nat.lt_or_ge k ops.size with hk|hk
  ·have h1:=all_eq_true.1 bD k (mem_range.2 hk)
   have br:ops[k]? = some ops[k]:=by simp[hk]
   simp only[br,Bool.and_eq_true,decide_eq_true_eq]at h1;rcases Nat.lt_or_ge i ops.size with hi|hi
   ·exact hi
   ·have:=testBit_lt_two_pow (Nat.lt_of_lt_of_le h1.1.2 (Nat.pow_le_pow_right om hi))
    rw[this]at hb;cases hb
  ·rcases eq_zero_or_pos ops.size with h0|h0
   ·have:ops=#[]:=by simpa using h0
    subst this;simp[Region.before]at hb
   ·have h1:=all_eq_true.1 bD 0 (mem_range.2 h0)
    have br:ops[0]? = some ops[0]:=by simp[h0]
    simp only[br,Bool.and_eq_true,decide_eq_true_eq]at h1;have:(Region.before ops).getD k 0=0:=by
     have:(Region.before ops).size<=k:=by omega
     simp[Array.getElem?_eq_none this]
    rw[this]at hb;simp at hb
 intro l
 induction l with
 | nil =>
  intro k listed a w hl hk hf hs hd h;refine⟨?_,hs,hd,h⟩;rcases hr:Region.ready .any ops listed with _|⟨x,xs⟩
  ·rfl
  ·have hx:x∈Region.ready .any ops listed:=by rw[hr];exact mem_cons_self
   obtain⟨mC,ox,hox,_⟩:=mem_ready.1 hx;have ku:=(Array.getElem?_eq_some_iff.1 hox).1;rw[hf.2 x ku]at mC;simp only[length_nil,Nat.add_zero]at hk
   simp[hk,ku]at mC
 | cons o r ih =>
  intro k listed a w hl hk hf hs hd h;simp only[length_cons]at hk;have h0:ops[k]? = some o:=by simpa using (hl 0).symm
  have aK:k<ops.size:=by omega
  have j2:∀ d,o.dst=some d->d<n:=by
   intro d nx;have:=Array.all_eq_true_iff_forall_mem.1 cL o (Array.mem_of_getElem? h0)
   simpa [nx] using this
  have lQ:k∈Region.ready .any ops listed:=by
   refine mem_ready.2 ⟨by rw[hf.2 k aK];simp,o,h0,fun e he hb=>?_⟩;have:=qwQ k o h0 e he hb;rw[hf.2 e.on om];simpa using this
  have qwR:Down ops listed:=by
   intro j i hj hb;have cI:=iH _ _ hb;have cJ:j<ops.size:=by
    rcases Nat.lt_or_ge j listed.size with h'|h'
    ·rw[hf.1]at h';exact h'
    ·simp[Array.getElem?_eq_none h']at hj
   have ie:=qpE hc qwQ j i cI cJ hb;rw[hf.2 j cJ]at hj;rw[hf.2 i cI];simp at hj ⊢;omega
  have gn:∀ j oj,ops[j]? = some oj->j≠k->listed.getD j true=false->((Region.before ops).getD j 0).testBit k=false->o.apart ops oj=true/\gN P o.op oj.op=true:=by
   intro j oj hj nT iU hb;have cJ:=(Array.getElem?_eq_some_iff.1 hj).1;rw[hf.2 j cJ]at iU;have hkj:k<j:=by simp at iU;omega
   have h1:=all_eq_true.1 (all_eq_true.1 qwP j (mem_range.2 cJ)) k (mem_range.2 hkj);simp only[oH,hb,Bool.false_or,h0,hj,Bool.and_eq_true]at h1;exact h1
  refine qjV hc iH (Region.noSelect_spec gQ) h0 r.length listed a w hf.1 qwR gn lQ ?_;refine xe (fun u w' aj => ?_) (qgb j2 hs hd h);refine ih (k+1) _ _ _ (fun j=>by have:=hl (j+1);simpa [Nat.add_assoc,Nat.add_comm 1 j] using this) om ⟨by simpa using hf.1,fun j hj d=>?_⟩ aj.1 aj.2.1 aj.2.2;by_cases nT:k=j
  ·subst nT
   have:k<listed.size:=by rw[hf.1];exact hj
   simp[this]
  ·rw[getD_set_ne d nT,hf.2 j hj d]
   by_cases h3:j<k
   ·simp[h3];omega
   ·have:¬j<k+1:=by omega
    simp[h3,this]
theorem qhh {ro:Option Nat}{m:Nat}{id:Nat}{ops:Array Oper}{K:Fr->World->Prop}{n:Nat}{a:Act}{w:World}{Q:Exit->Act->World->Prop}(hQ:∀ a w,Ok n K a w->Q .normal a w)
  (cL:fI n ops=true) (hs:a.tmps.size=n) (hd:a.defers=[]) (h:opsW P ops K ops.toList (fr a) w):(Code.region id ops false).wpIn (fw ro) m P Q a w:=by
 refine wpIn_region ?_
 have key:∀ (l:List Oper) (k:Nat) (a:Act) (w:World),(∀ j,l[j]? = ops[k+j]?)->k+l.length=ops.size->a.tmps.size=n->a.defers=[]->opsW P ops K l (fr a) w ->
   wpOpsIn (fw ro) m P ops Q ((range' k l.length)) a w:=by
  intro l
  induction l with
  | nil=>intro k a w _ _ hs hd h;exact hQ _ _ ⟨hs,hd,h⟩
  | cons o r ih =>
   intro k a w hl hk hs hd h;have h0:ops[k]? = some o:=by simpa using (hl 0).symm
   have j2:∀ d,o.dst=some d->d<n:=by
    intro d nx;have:=Array.all_eq_true_iff_forall_mem.1 cL o (Array.mem_of_getElem? h0)
    simpa [nx] using this
   simp only[length_cons,range'_succ];rw[wpOpsIn_cons];refine qcH ?_;unfold lO;rw[h0];refine xe (fun u w' aj => ?_) (qgb j2 hs hd h);simp only[length_cons]at hk;exact ih (k+1) _ _ (fun j=>by have:=hl (j+1);simpa [Nat.add_assoc,Nat.add_comm 1 j] using this) om aj.1 aj.2.1 aj.2.2
 have:=key ops.toList 0 a w (by simp) (by simp) hs hd h
 simpa [range_eq_range'] using this
def Still (P:Program) (ops:Array Oper) (i:Nat) (a:Act) (w:World):Prop :=
 ∀ oi,ops[i]? = some oi->Region.wanted oi (yielded ops a.tmps)=true->∀ d,oi.dst=some d->(execOp a.eval oi).run P w=.ok (.value (a.tmps.getD d undef)) w
def cS (P:Program) (ops:Array Oper) (listed:Array Bool) (j:Nat) (o:Oper) (a:Act) (w:World) (K:Act->World->Prop):Prop :=
 match cls P o.op with
 | .pure=>∃ v,(∀ w,(execOp a.eval o).run P w=.ok (.value v) w)/\K (a.put o.dst v) w
 | .read=>∃ v,(execOp a.eval o).run P w=.ok (.value v) w/\K (a.put o.dst v) w
 | .dL=>bC P (fun v w'=>(∀ r∈loose P ops j,listed.getD r false=true->Still P ops r a w')/\K (a.put o.dst v) w') ((execOp a.eval o).run P w)
def gR (P:Program) (ops:Array Oper) (listed:Array Bool) (j:Nat) (o:Oper) (K:Act->World->Prop) (a:Act) (w:World):Prop :=
 (Region.wanted o (yielded ops a.tmps)=true->cS P ops listed j o a w K)/\(Region.wanted o (yielded ops a.tmps)=false->K (a.put o.dst undef) w)
theorem yy {ops:Array Oper}{listed:Array Bool}{j:Nat}{o:Oper}{a:Act}{w:World}{K K':Act->World->Prop}(h:∀ u w',K (a.put o.dst u) w'->K' (a.put o.dst u) w') (hh:cS P ops listed j o a w K):cS P ops listed j o a w K':=by
 unfold cS at *
 split at hh
 ·obtain⟨v,h1,h2⟩:=hh;exact⟨v,h1,h _ _ h2⟩
 ·obtain⟨v,h1,h2⟩:=hh;exact⟨v,h1,h _ _ h2⟩
 ·exact qL (fun v w' hk=>⟨hk.1,h v w' hk.2⟩) hh
theorem qc7 {ops:Array Oper}{listed:Array Bool}{j:Nat}{o:Oper}{a:Act}{w:World}{K K':Act->World->Prop}(h:∀ u w',K (a.put o.dst u) w'->K' (a.put o.dst u) w') (hh:gR P ops listed j o K a w):gR P ops listed j o K' a w :=
 ⟨fun hw=>yy h (hh.1 hw),fun hw=>h _ _ (hh.2 hw)⟩
theorem qn0 {ops:Array Oper}{listed:Array Bool}{j:Nat}{o:Oper}{a:Act}{w:World}{K:Act->World->Prop}(h:cS P ops listed j o a w K):∃ v w',K (a.put o.dst v) w':=by
 unfold cS at h;split at h
 ·obtain⟨v,_,h2⟩:=h;exact⟨_,_,h2⟩
 ·obtain⟨v,_,h2⟩:=h;exact⟨_,_,h2⟩
 ·obtain⟨v,w',_,h2⟩:=qcG h;exact⟨_,_,h2⟩
theorem qpF {ops:Array Oper}{listed:Array Bool}{j:Nat}{o:Oper}{a:Act}{w:World}{K:Act->World->Prop}(h:gR P ops listed j o K a w):∃ v w',K (a.put o.dst v) w':=by
 cases hw:Region.wanted o (yielded ops a.tmps) with
 | true=>exact qn0 (h.1 hw)
 | false=>exact⟨_,_,h.2 hw⟩
theorem qpG {ops:Array Oper}{listed:Array Bool}{j:Nat}{o:Oper}{a:Act}{w:World}{K:Act->World->Prop}(h:cS P ops listed j o a w K):eH P o a w K:=by
 unfold cS at h;unfold eH;split
 ·rename_i hc;simp only[hc]at h;exact h
 ·rename_i hc;simp only[hc]at h;exact h
 ·rename_i hc;simp only[hc]at h;exact qL (fun v w' hk=>hk.2) h
theorem qso {ops:Array Oper}{listed:Array Bool}{j:Nat}{o:Oper}{a:Act}{w:World}{K:Act->World->Prop}(h:gR P ops listed j o K a w):mN P ops o K a w:=⟨fun hw=>qpG (h.1 hw),h.2⟩
def BA (ops:Array Oper) (r:Nat) (o:Oper):Prop:=∀ or_,ops[r]? = some or_->(∀ d,o.dst=some d->d∉or_.looksAt ops)/\∀ d,o.dst=some d->or_.dst≠some d
theorem qei {ops:Array Oper}{r:Nat}{o:Oper}{a:Act}{w:World}(v:Value) (hs:BA ops r o) (gQ:∀ or_ cs b,ops[r]? = some or_->or_.op≠.select cs b):Still P ops r (a.put o.dst v) w↔Still P ops r a w:=by
 unfold Still;constructor
 ·intro h or_ mi hw d hd
  obtain⟨h1,h2⟩:=hs or_ mi;have:=h or_ mi (by rw[wanted_put or_ a o.dst v h1];exact hw) d hd;rw[execOp_put or_ (fun cs b=>gQ or_ cs b mi) a o.dst v h1]at this;have hg:(a.put o.dst v).tmps.getD d undef=a.tmps.getD d undef:=by
   cases ho:o.dst with
   | none=>rfl
   | some d' =>
    have cY:d'≠d:=fun e=>h2 d' ho (e ▸ hd);simp[Act.put,Array.getElem?_setIfInBounds_ne cY]
  rw[hg]at this;exact this
 ·intro h or_ mi hw d hd
  obtain⟨h1,h2⟩:=hs or_ mi;rw[wanted_put or_ a o.dst v h1]at hw;have:=h or_ mi hw d hd;rw[execOp_put or_ (fun cs b=>gQ or_ cs b mi) a o.dst v h1];have hg:(a.put o.dst v).tmps.getD d undef=a.tmps.getD d undef:=by
   cases ho:o.dst with
   | none=>rfl
   | some d' =>
    have cY:d'≠d:=fun e=>h2 d' ho (e ▸ hd);simp[Act.put,Array.getElem?_setIfInBounds_ne cY]
  rw[hg];exact this
theorem qcr {ops:Array Oper}{r j:Nat}(h:r∈loose P ops j):e8 P ops r=.read/\r≠j:=by
 simp only[loose,mem_filter,Bool.and_eq_true,beq_iff_eq,Bool.not_eq_true',beq_eq_false_iff_ne]at h;exact⟨h.2.1.1.1,h.2.1.1.2⟩
theorem qgc {ops:Array Oper}{listed:Array Bool}{i j:Nat}{oi oj:Oper}{v:Value}(gQ:∀ (k:Nat) (o:Oper) cs b,ops[k]? = some o->o.op≠.select cs b) (lN:oi.apart ops oj=true) (pQ:∀ cs b,oj.op≠.select cs b) {K:Act->World->Prop}{a:Act}{w:World}
  (tf:∀ r,listed.getD r false=true->e8 P ops r=.read->BA ops r oi)
  (h:cS P ops (listed.setIfInBounds i true) j oj (a.put oi.dst v) w K):cS P ops listed j oj a w fun a' w'=>(cls P oj.op=.dL->∀ r∈loose P ops j,(listed.setIfInBounds i true).getD r false=true->Still P ops r (a.put oi.dst v) w')/\K (a'.put oi.dst v) w':=by
 obtain⟨h1,h2,h3⟩:=Oper.apart_spec lN;unfold cS at *
 rw[execOp_put oj pQ a oi.dst v h1]at h
 cases hc:cls P oj.op with
 | pure =>
  simp only[hc]at h ⊢;obtain⟨u,hu,hk⟩:=h
  exact⟨u,hu,fun e=>(by cases e),by have aj:=hk;rw[Act.put_comm a v u h2]at aj;exact aj⟩
 | read =>
  simp only[hc]at h ⊢;obtain⟨u,hu,hk⟩:=h
  exact⟨u,hu,fun e=>(by cases e),by have aj:=hk;rw[Act.put_comm a v u h2]at aj;exact aj⟩
 | dL =>
  simp only[hc]at h ⊢;refine qL (fun u w' hk=>⟨fun r hr hl=>?_,fun _=>hk.1,by have aj:=hk.2;rw[Act.put_comm a v u h2]at aj;exact aj⟩) h;exact(qei v (tf r hl (qcr hr).1) (fun or_ cs b ho=>gQ r or_ cs b ho)).1 (hk.1 r hr (getD_set_true hl))
theorem qej {ops:Array Oper}{listed:Array Bool}{i j:Nat}{oi oj:Oper}{u:Value}(gQ:∀ (k:Nat) (o:Oper) cs b,ops[k]? = some o->o.op≠.select cs b) (lN:oi.apart ops oj=true) (tf:∀ cs b,oi.op≠.select cs b) (hjr:cls P oi.op=.dL->j∉loose P ops i) {K:Act->World->Prop}{a:Act}{w:World}
  (pQ:∀ r,listed.getD r false=true->e8 P ops r=.read->BA ops r oj)
  (h:cS P ops listed i oi a w fun a' w'=>K (a'.put oj.dst u) w'):cS P ops (listed.setIfInBounds j true) i oi (a.put oj.dst u) w K:=by
 obtain⟨h1,h2,h3⟩:=Oper.apart_spec lN;unfold cS at *
 rw[execOp_put oi tf a oj.dst u h3]
 cases hc:cls P oi.op with
 | pure =>
  simp only[hc]at h ⊢;obtain⟨v,hv,hk⟩:=h
  exact⟨v,hv,by have aj:=hk;rw[Act.put_comm a v u h2]at aj;exact aj⟩
 | read =>
  simp only[hc]at h ⊢;obtain⟨v,hv,hk⟩:=h
  exact⟨v,hv,by have aj:=hk;rw[Act.put_comm a v u h2]at aj;exact aj⟩
 | dL =>
  simp only[hc]at h ⊢;refine qL (fun v w' hk=>⟨fun r hr hl=>?_,by have aj:=hk.2;rw[Act.put_comm a v u h2]at aj;exact aj⟩) h;have hrj:r≠j:=fun e=>hjr hc (e ▸ hr);rw[getD_set_ne false (Ne.symm hrj)]at hl;exact(qei u (pQ r hl (qcr hr).1) (fun or_ cs b ho=>gQ r or_ cs b ho)).2 (hk.1 r hr hl)
section
variable {ops:Array Oper}{listed:Array Bool}{j:Nat}{o:Oper}{a:Act}{w:World}{K:Act->World->Prop}
theorem xg (hc:cls P o.op=.pure):cS P ops listed j o a w K=∃ v,(∀ w,(execOp a.eval o).run P w=.ok (.value v) w)/\K (a.put o.dst v) w:=by unfold cS;rw[hc]
theorem yz (hc:cls P o.op=.read):cS P ops listed j o a w K=∃ v,(execOp a.eval o).run P w=.ok (.value v) w/\K (a.put o.dst v) w:=by unfold cS;rw[hc]
theorem qek (hc:cls P o.op=.dL):cS P ops listed j o a w K=bC P (fun v w'=>(∀ r∈loose P ops j,listed.getD r false=true->Still P ops r a w')/\K (a.put o.dst v) w') ((execOp a.eval o).run P w):=by unfold cS;rw[hc]
end
theorem qwS {ops:Array Oper}{listed:Array Bool}{i j:Nat}{oi oj:Oper}(gQ:∀ (k:Nat) (o:Oper) cs b,ops[k]? = some o->o.op≠.select cs b) (hi:ops[i]? = some oi) (hj:ops[j]? = some oj)
  (lN:oi.apart ops oj=true) (gg:gO (cls P oi.op) (cls P oj.op)=true) (cI:i<listed.size) (qyh:cls P oi.op=.read->cls P oj.op=.dL->i∈loose P ops j)
  (tf:∀ r,listed.getD r false=true->e8 P ops r=.read->BA ops r oi) (pQ:∀ r,listed.getD r false=true->e8 P ops r=.read->BA ops r oj)
  {K:Act->World->Prop}{a:Act}{w:World}(hdi:cls P oi.op=.read->∃ d,oi.dst=some d/\d<a.tmps.size/\d∉oi.looksAt ops)
  (h:gR P ops listed i oi (gR P ops (listed.setIfInBounds i true) j oj K) a w):gR P ops listed j oj (gR P ops (listed.setIfInBounds j true) i oi K) a w:=by
 obtain⟨h1,h2,h3⟩:=Oper.apart_spec lN;have qN:=fun cs b=>gQ i oi cs b hi;have qO:=fun cs b=>gQ j oj cs b hj;have wi:∀ u,Region.wanted oi (yielded ops (a.put oj.dst u).tmps)=Region.wanted oi (yielded ops a.tmps):=fun u=>wanted_put oi a oj.dst u h3;have wj:∀ u,Region.wanted oj (yielded ops (a.put oi.dst u).tmps)=Region.wanted oj (yielded ops a.tmps):=fun u=>wanted_put oj a oi.dst u h1;have ei:∀ u,execOp (a.put oj.dst u).eval oi=execOp a.eval oi:=fun u=>execOp_put oi qN a oj.dst u h3;have ej:∀ u,execOp (a.put oi.dst u).eval oj=execOp a.eval oj:=fun u=>execOp_put oj qO a oi.dst u h1;have hjr:cls P oi.op=.dL->j∉loose P ops i:=fun hc hm=>by
  have:=(qcr hm).1;simp only[e8,hj]at this;rw[hc,this]at gg;simp[gO]at gg
 cases rF:Region.wanted oi (yielded ops a.tmps) with
 | false =>
  have zS:=h.2 rF
  cases qM:Region.wanted oj (yielded ops a.tmps) with
  | false =>
   refine⟨fun hw=>(by rw[qM]at hw;cases hw),fun _=>⟨fun hw=>(by rw[wi,rF]at hw;cases hw),fun _=>?_⟩⟩;have:=zS.2 (by rw[wj,qM])
   rw[Act.put_comm a undef undef h2]at this;exact this
  | true =>
   refine⟨fun _=>?_,fun hw=>(by rw[qM]at hw;cases hw)⟩;have:=qgc gQ lN qO tf (zS.1 (by rw[wj,qM]))
   exact yy (fun u w' hk=>⟨fun hw=>(by rw[wi,rF]at hw;cases hw),fun _=>hk.2⟩) this
 | true =>
  have eO:=h.1 rF
  cases qM:Region.wanted oj (yielded ops a.tmps) with
  | false =>
   refine⟨fun hw=>(by rw[qM]at hw;cases hw),fun _=>⟨fun _=>?_,fun hw=>(by rw[wi,rF]at hw;cases hw)⟩⟩
   exact qej gQ lN qN hjr pQ (yy (fun u w' hk=>hk.2 (by rw[wj u,qM])) eO)
  | true =>
   refine⟨fun _=>?_,fun hw=>(by rw[qM]at hw;cases hw)⟩;have oh:cS P ops listed i oi a w fun a' w'=>cS P ops (listed.setIfInBounds i true) j oj a' w' K:=yy (fun u w' hk=>hk.1 (by rw[wj u,qM])) eO
   have done:cS P ops listed j oj a w (fun a' w'=>cS P ops (listed.setIfInBounds j true) i oi a' w' K)->cS P ops listed j oj a w (gR P ops (listed.setIfInBounds j true) i oi K) :=
    yy (fun u w' hk=>⟨fun _=>hk,fun hw=>(by rw[wi u,rF]at hw;cases hw)⟩)
   refine done ?_;clear done eO h
   cases iK:cls P oi.op with
   | pure =>
    rw[xg iK]at oh;obtain⟨v,hv,hk⟩:=oh;refine yy (fun u w' hk=>?_) (qgc gQ lN qO tf hk)
    rw[xg iK,ei u];exact⟨v,hv,hk.2⟩
   | read =>
    obtain⟨di,yA,qyi,qyj⟩:=hdi iK;rw[yz iK]at oh;obtain⟨v,hv,hk⟩:=oh
    cases kz:cls P oj.op with
    | pure =>
     rw[xg kz]at hk ⊢;obtain⟨u,hu,hk⟩:=hk;rw[ej v]at hu;refine⟨u,hu,?_⟩;rw[yz iK]
     exact⟨v,by rw[ei u];exact hv,by have aj:=hk;rw[Act.put_comm a v u h2]at aj;exact aj⟩
    | read =>
     rw[yz kz]at hk ⊢;obtain⟨u,hu,hk⟩:=hk;rw[ej v]at hu;refine⟨u,hu,?_⟩;rw[yz iK]
     exact⟨v,by rw[ei u];exact hv,by have aj:=hk;rw[Act.put_comm a v u h2]at aj;exact aj⟩
    | dL =>
     refine yy (fun u w' hk=>?_) (qgc gQ lN qO tf hk);have cu:=hk.1 kz i (qyh iK kz) (by simp[cI]);have xh:∀ d,oi.dst=some d->d∉oi.looksAt ops:=fun d hd=>by rw[yA]at hd;cases hd;exact qyj
     have yB:=cu oi hi (by rw[wanted_put oi a oi.dst v xh];exact rF) di yA;rw[execOp_put oi qN a oi.dst v xh]at yB;have hg:(a.put oi.dst v).tmps.getD di undef=v:=by rw[yA];simp[Act.put,qyi]
     rw[hg]at yB;rw[yz iK,ei u]
     exact⟨v,yB,hk.2⟩
   | dL =>
    cases kz:cls P oj.op with
    | pure =>
     rw[qek iK]at oh;obtain⟨v0,w0,_,hh⟩:=qcG oh;rw[xg kz]at hh;obtain⟨u,hu,_⟩:=hh;rw[ej v0]at hu;rw[xg kz];refine⟨u,hu,?_⟩;refine qej gQ lN qN hjr pQ ?_;rw[qek iK];refine qL (fun v w' hk=>⟨hk.1,?_⟩) oh;have gW:=hk.2;rw[xg kz]at gW;obtain⟨u',hu',w5⟩:=gW;rw[ej v]at hu';have he:=(hu w').symm.trans (hu' w');simp only[Result.ok.injEq,Next.value.injEq,and_true]at he;subst he
     exact w5
    | read=>rw[iK,kz]at gg;simp[gO]at gg
    | dL=>rw[iK,kz]at gg;simp[gO]at gg
def gS (P:Program) (ops:Array Oper) (K:Act->World->Prop):Nat->Array Bool->Act->World->Prop
 | 0,listed,a,w=>Region.ready .any ops listed=[]/\K a w
 | fuel+1,listed,a,w=>(Region.ready .any ops listed=[]->K a w) /\
  ∀ i∈Region.ready .any ops listed,∀ o,ops[i]? = some o->gR P ops listed i o (gS P ops K fuel (listed.setIfInBounds i true)) a w
theorem qeU {ro:Option Nat}{m:Nat}{ops:Array Oper}{K:Act->World->Prop}{Q:Exit->Act->World->Prop}(hQ:∀ a w,K a w->Q .normal a w):∀ (fuel:Nat) (listed:Array Bool) (a:Act) (w:World),
  gS P ops K fuel listed a w->wpAnyIn (fw ro) m P .any ops Q fuel listed a w
 | 0,_,_,_,h=>⟨h.1,hQ _ _ h.2⟩
 | fuel+1,_,_,_,h=>⟨fun h0=>hQ _ _ (h.1 h0),fun i hi=>qcH (by
   obtain⟨_,o,ho,_⟩:=mem_ready.1 hi;unfold lO;rw[ho]
   exact xe (fun u w' hk=>qeU hQ fuel _ _ _ hk) (qso (h.2 i hi o ho)))⟩
structure Bq (P:Program) (ops:Array Oper):Prop where
 aT:∀ (k:Nat) (o:Oper) cs b,ops[k]? = some o->o.op≠.select cs b
 closed:fo ops (Region.before ops)=true
 bl:∀ k i,((Region.before ops).getD k 0).testBit i=true->i<ops.size
 ti:∀ (r:Nat) (or_:Oper) (k:Nat) (ok:Oper),ops[r]? = some or_->e8 P ops r=.read->ops[k]? = some ok->k≠r->pP ops k r=false->BA ops r ok
 dst:∀ (i:Nat) (o:Oper),ops[i]? = some o->cls P o.op=.read->∃ d,o.dst=some d/\d∉o.looksAt ops
theorem qfl {ops:Array Oper}{K:Act->World->Prop}{n:Nat}(H:Bq P ops) (cL:fI n ops=true) {i:Nat}{oi:Oper}(hi:ops[i]? = some oi) :
  ∀ (fuel:Nat) (listed:Array Bool) (a:Act) (w:World),listed.size=ops.size->a.tmps.size=n->Down ops listed ->
   (∀ (j:Nat) (oj:Oper),ops[j]? = some oj->j≠i->listed.getD j true=false->pP ops i j=false->oi.apart ops oj=true/\gO (cls P oi.op) (cls P oj.op)=true) ->
   i∈Region.ready .any ops listed->gR P ops listed i oi (gS P ops K fuel (listed.setIfInBounds i true)) a w->gS P ops K (fuel+1) listed a w:=by
 have fp:∀ o,o∈ops->∀ d,o.dst=some d->d<n:=fun o ho d hd=>by
  have:=Array.all_eq_true_iff_forall_mem.1 cL o ho
  simpa [hd] using this
 intro fuel
 induction fuel with
 | zero =>
  intro listed a w hs ha hd gn hr h;refine⟨fun h=>(by rw[h]at hr;cases hr),fun j hj oj lP=>?_⟩;by_cases kS:j=i
  ·subst kS;rw[hi]at lP;cases lP;exact h
  ·obtain⟨v,w',hk⟩:=qpF h
   have:=ready_mono hj kS
   rw[hk.1]at this;cases this
 | succ fuel ih =>
  intro listed a w hs ha hd gn hr h;refine⟨fun h=>(by rw[h]at hr;cases hr),fun j hj oj lP=>?_⟩;by_cases kS:j=i
  ·subst kS;rw[hi]at lP;cases lP;exact h
  ·obtain⟨iU,oj',qzO,_⟩:=mem_ready.1 hj
   have iv:=(mem_ready.1 hr).1;have yw:pP ops i j=false:=qeT H.closed hd hs iv hj;have qyk:pP ops j i=false:=qeT H.closed hd hs iU hr;obtain⟨lN,gg⟩:=gn j oj lP kS iU yw
   have h1:gR P ops listed i oi (gR P ops (listed.setIfInBounds i true) j oj (gS P ops K fuel ((listed.setIfInBounds i true).setIfInBounds j true))) a w :=
    qc7 (fun u w' hk=>hk.2 j (ready_mono hj kS) oj lP) h
   have cI:i<listed.size:=(xf iv).2;have jR:∀ k,listed.getD k true=false->∀ r,listed.getD r false=true->pP ops k r=false:=by
    intro k hk r j1
    cases hb:pP ops k r with
    | false=>rfl
    | true=>have:=hd r k j1 hb;rw[(xf hk).1]at this;cases this
   have kl:∀ (k:Nat) (ok:Oper),ops[k]? = some ok->listed.getD k true=false->∀ r,listed.getD r false=true->e8 P ops r=.read->BA ops r ok:=by
    intro k ok hk oL r j1 hc or_ mi;have hkr:k≠r:=fun e=>by subst e;rw[(xf oL).1]at j1;cases j1
    exact H.ti r or_ k ok mi hc hk hkr (jR k oL r j1) or_ mi
   have h2:=qwS H.aT hi lP lN gg cI (fun lz xj=>by
     simp only[loose,mem_filter,mem_range,Bool.and_eq_true,beq_iff_eq,Bool.not_eq_true',beq_eq_false_iff_ne]
     exact⟨by rw[<-hs];exact cI,⟨⟨by simp only[e8,hi];exact lz,Ne.symm kS⟩,yw⟩,qyk⟩)
    (kl i oi hi iv) (kl j oj lP iU) (fun hc=>by
     obtain⟨d,ee,jI⟩:=H.dst i oi hi hc
     exact⟨d,ee,by rw[ha];exact fp oi (Array.mem_of_getElem? hi) d ee,jI⟩) h1
   refine qc7 (fun u w' hk=>?_) h2;rw[Array.setIfInBounds_comm _ _ (Ne.symm kS)]at hk;refine ih (listed.setIfInBounds j true) _ w' (by simpa using hs) (by rw[size_put];exact ha) (qfG H.closed hd hj H.bl) (fun k ok br wR oL hkb=>gn k ok br wR ?_ hkb) (ready_mono hr (Ne.symm kS)) hk;by_cases nT:j=k
   ·subst nT;exact iU
   ·rw[getD_set_ne true nT]at oL;exact oL
theorem qc8 {ops:Array Oper}{K:Fr->World->Prop}{tail:List Item}{ρ:Fr}{w:World}:∀ (l:List Nat),opsD P ops K (l.map Item.chk++tail) ρ w ->
  (∀ r∈l,∀ o,ops[r]? = some o->(match o.guard with
     | none=>∀ d,o.dst=some d->ReadV P o ρ w (ρ d)
     | some g=>eo ops ρ g=true->∀ d,o.dst=some d->ReadV P o ρ w (ρ d)))/\opsD P ops K tail ρ w
 | [],h=>⟨by simp,h⟩
 | r::l,h=>by
  simp only[map_cons,cons_append,opsD]at h;obtain⟨h1,h2⟩:=qc8 l h.2;refine⟨fun r' j1 o ho=>?_,h2⟩;rcases mem_cons.1 j1 with rfl|j1
  ·have:=h.1
   simp only[ho]at this;exact this
  ·exact h1 r' j1 o ho
theorem qfm {ops:Array Oper}{r:Nat}{a:Act}{w:World}(h:∀ o,ops[r]? = some o->(match o.guard with
     | none=>∀ d,o.dst=some d->ReadV P o (fr a) w (fr a d)
     | some g=>eo ops (fr a) g=true->∀ d,o.dst=some d->ReadV P o (fr a) w (fr a d))):Still P ops r a w:=by
 intro o ho hw d hd;have:=h o ho
 cases hg:o.guard with
 | none =>
  simp only[hg]at this;have:=this d hd
  unfold ReadV at this;rw[nu]at this;exact this
 | some g =>
  simp only[hg]at this;rw[qbm hg]at hw;have:=this hw d hd;unfold ReadV at this;rw[nu]at this;exact this
theorem qsp {ops:Array Oper}:∀ {l:List Nat}{i:Nat},js P ops (i::l)=true->∀ j∈l,oI P ops i j=true:=by
 intro l i h j hj;simp only[js,Bool.and_eq_true]at h;exact all_eq_true.1 h.1 j hj
theorem qgd {ops:Array Oper}{K:Fr->World->Prop}{n:Nat}(H:Bq P ops) (cL:fI n ops=true) :
  ∀ (rest dn:List Nat) (listed:Array Bool) (a:Act) (w:World),(∀ j,j<ops.size->j∈dn\/j∈rest)->(∀ j∈rest,j∉dn/\j<ops.size)->(∀ j∈dn,j<ops.size)->rest.Nodup->listed.size=ops.size->(∀ j,j<ops.size->∀ d,listed.getD j d=decide (j∈dn)) ->
   Down ops listed->fH ops dn rest=true->js P ops rest=true->a.tmps.size=n->a.defers=[]->opsD P ops K (dC P ops rest) (fr a) w->gS P ops (Ok n K) rest.length listed a w:=by
 have fp:∀ o,o∈ops->∀ d,o.dst=some d->d<n:=fun o ho d hd=>by
  have:=Array.all_eq_true_iff_forall_mem.1 cL o ho
  simpa [hd] using this
 intro rest
 induction rest with
 | nil =>
  intro dn listed a w vr _ _ _ hs hl _ _ _ ha hdf h;refine⟨?_,ha,hdf,h⟩;rcases hr:Region.ready .any ops listed with _|⟨x,xs⟩
  ·rfl
  ·have hx:x∈Region.ready .any ops listed:=by rw[hr];exact mem_cons_self
   obtain⟨mC,ox,hox,_⟩:=mem_ready.1 hx;have ku:=(Array.getElem?_eq_some_iff.1 hox).1;rw[hl x ku]at mC;have:=(vr x ku).resolve_right (by simp)
   simp[this]at mC
 | cons i rest ih =>
  intro dn listed a w vr tj jZ fe hs hl tk hra o6 ha hdf h;obtain⟨qyl,cI⟩:=tj i (by simp);obtain⟨oi,hi⟩:∃ oi,ops[i]? = some oi:=⟨ops[i],by simp[cI]⟩
  simp only[fH,hi,Bool.and_eq_true]at hra;have lQ:i∈Region.ready .any ops listed:=by
   refine mem_ready.2 ⟨by rw[hl i cI];simpa using qyl,oi,hi,fun e he hb=>?_⟩;have:=Array.all_eq_true_iff_forall_mem.1 hra.1 e he;simp only[hb,Bool.not_true,Bool.false_or,contains_iff_mem]at this;rw[hl _ (jZ _ this)];simpa using this
  have iv:listed.getD i true=false:=(mem_ready.1 lQ).1;have gn:∀ (j:Nat) (oj:Oper),ops[j]? = some oj->j≠i->listed.getD j true=false->pP ops i j=false->oi.apart ops oj=true/\gO (cls P oi.op) (cls P oj.op)=true:=by
   intro j oj hj kS iU hb;have cJ:=(Array.getElem?_eq_some_iff.1 hj).1;rw[hl j cJ]at iU;have hjr:j∈rest:=by
    rcases vr j cJ with h'|h'
    ·simp[h']at iU
    ·rcases mem_cons.1 h' with h'|h'
     ·exact absurd h' kS
     ·exact h'
   have:=qsp o6 j hjr;simp only[oI,hb,Bool.false_or,hi,hj,Bool.and_eq_true]at this;exact this
  have jR:∀ r,listed.getD r false=true->pP ops i r=false:=by
   intro r j1
   cases hb:pP ops i r with
   | false=>rfl
   | true=>have:=tk r i j1 hb;rw[(xf iv).1]at this;cases this
  have kl:∀ r,listed.getD r false=true->e8 P ops r=.read->BA ops r oi:=by
   intro r j1 hc or_ mi;have hir:i≠r:=fun e=>by subst e;rw[(xf iv).1]at j1;cases j1
   exact H.ti r or_ i oi mi hc hi hir (jR r j1) or_ mi
  have cO:∀ v,fr (a.put oi.dst v)=fh (fr a) oi.dst v:=fun v=>te fun t ht=>by rw[ha];exact fp oi (Array.mem_of_getElem? hi) t ht
  refine qfl H cL hi rest.length listed a w hs ha tk gn lQ ?_
  
  have fE:gR P ops listed i oi (fun a' w'=>a'.tmps.size=n/\a'.defers=[]/\opsD P ops K (dC P ops rest) (fr a') w') a w:=by
   simp only[dC,flatMap_cons,cons_append,opsD,hi]at h
   have bS:∀ v w',opsD P ops K (dC P ops rest) (fh (fr a) oi.dst v) w'->(a.put oi.dst v).tmps.size=n/\(a.put oi.dst v).defers=[]/\opsD P ops K (dC P ops rest) (fr (a.put oi.dst v)) w' :=
    fun v w' hk=>⟨by rw[size_put,ha],by rw[xd,hdf],by rw[cO];exact hk⟩
   have bW:opV P oi (fr a) w (opsW P ops (opsD P ops K ((match e8 P ops i with|.dL=>(loose P ops i).map Item.chk|_=>[])++dC P ops rest)) [])->cS P ops listed i oi a w fun a' w'=>a'.tmps.size=n/\a'.defers=[]/\opsD P ops K (dC P ops rest) (fr a') w':=by
    intro hv;have yC:e8 P ops i=cls P oi.op:=by simp[e8,hi]
    rw[yC]at hv;unfold opV at hv
    cases hc:cls P oi.op with
    | pure =>
     simp only[hc]at hv;rw[xg hc];obtain⟨v,jA,hk⟩:=hv;unfold PureV at jA;rw[nu]at jA
     exact⟨v,jA,bS _ _ hk⟩
    | read =>
     simp only[hc]at hv;rw[yz hc];obtain⟨v,jA,hk⟩:=hv;unfold ReadV at jA;rw[nu]at jA
     exact⟨v,jA,bS _ _ hk⟩
    | dL =>
     simp only[hc]at hv;rw[qek hc];unfold opW at hv;rw[nu]at hv;refine qL (fun v w' hk=>?_) hv;obtain⟨gh,gW⟩:=qc8 (loose P ops i) hk;refine⟨fun r hr mh=>?_,bS _ _ gW⟩;refine(qei v (kl r mh (qcr hr).1) (fun or_ cs b ho=>H.aT r or_ cs b ho)).1 (qfm fun o ho=>?_);rw[cO];exact gh r hr o ho
   simp only[opsW]at h
   cases hg:oi.guard with
   | none =>
    simp only[hg]at h;refine⟨fun _=>bW h,fun hw=>?_⟩
    simp[Region.wanted,hg]at hw
   | some g =>
    simp only[hg]at h;unfold gR;rw[qbm hg];refine⟨fun hw=>bW (h.1 hw),fun hw=>bS _ _ ?_⟩;have:=h.2 hw;have yC:e8 P ops i=cls P oi.op:=by simp[e8,hi]
    rw[yC]at this
    cases hc:cls P oi.op with
    | dL=>simp only[hc]at this;exact(qc8 (loose P ops i) this).2
    | pure=>simp only[hc]at this;exact this
    | read=>simp only[hc]at this;exact this
  refine qc7 (fun u w' hk=>?_) fE;refine ih (i::dn) _ _ w' (fun j hj=>?_) (fun j hj=>⟨?_,(tj j (by simp[hj])).2⟩) (fun j hj=>?_) (nodup_cons.1 fe).2 (by simpa using hs) (fun j hj d=>?_) (qfG H.closed tk lQ H.bl) hra.2 (by simp only[js,Bool.and_eq_true]at o6;exact o6.2) hk.1 hk.2.1 hk.2.2
  ·rcases vr j hj with h'|h'
   ·left;simp[h']
   ·rcases mem_cons.1 h' with h'|h'
    ·left;simp[h']
    ·right;exact h'
  ·intro hm
   rcases mem_cons.1 hm with h'|h'
   ·subst h';exact(nodup_cons.1 fe).1 hj
   ·exact(tj j (by simp[hj])).1 h'
  ·rcases mem_cons.1 hj with rfl|h'
   ·exact cI
   ·exact jZ j h'
  ·by_cases ie:i=j
   ·subst ie
    have:i<listed.size:=by rw[hs];exact cI
    simp[this]
   ·rw[getD_set_ne d ie,hl j hj d]
    simp[Ne.symm ie]
theorem qpH {ops:Array Oper}{is:List Item}(h:lI P ops is=true):Bq P ops:=by
 simp only[lI,Bool.and_eq_true,decide_eq_true_eq]at h;obtain⟨⟨⟨⟨⟨⟨⟨⟨⟨⟨⟨⟨h1,h2⟩,h3⟩,h4⟩,h5⟩,h6⟩,h7⟩,h8⟩,h9⟩,h10⟩,h11⟩,h12⟩,h13⟩:=h;refine⟨Region.noSelect_spec h2,h3,fun k i hb=>?_,fun r or_ k ok hr hc hk hkr hb or' tl => ?_,fun i o ho hc=>?_⟩
 ·rcases Nat.lt_or_ge k ops.size with hk|hk
  ·have:=of_decide_eq_true (all_eq_true.1 h11 k (mem_range.2 hk))
   rcases Nat.lt_or_ge i ops.size with hi|hi
   ·exact hi
   ·have:=testBit_lt_two_pow (Nat.lt_of_lt_of_le this (Nat.pow_le_pow_right om hi))
    rw[this]at hb;cases hb
  ·have:(Region.before ops).getD k 0=0:=by
    have:(Region.before ops).size<=k:=by omega
    simp[Array.getElem?_eq_none this]
   rw[this]at hb;simp at hb
 ·have iI:=(Array.getElem?_eq_some_iff.1 hr).1
  have aK:=(Array.getElem?_eq_some_iff.1 hk).1;have h1:=all_eq_true.1 h9 r (mem_range.2 iI);simp only[hc,beq_self_eq_true,Bool.not_true,Bool.false_or]at h1;have h2:=all_eq_true.1 h1 k (mem_range.2 aK);rw[hr]at tl;cases tl;have yD:(k == r)=false:=by simpa using hkr
  simp only[nw,yD,hb,Bool.false_or,hr,hk]at h2;refine⟨fun d hd=>?_,fun d hd=>?_⟩<;>simp[hd]at h2
  ·exact h2.1
  ·exact h2.2
 ·have:=Array.all_eq_true_iff_forall_mem.1 h10 o (Array.mem_of_getElem? ho)
  simp only[hc,beq_self_eq_true,Bool.not_true,Bool.false_or]at this;split at this
  ·rename_i d hd;exact⟨d,hd,by simpa using this⟩
  ·cases this
theorem qlp {ops:Array Oper}(h:oJ P ops=true):Bq P ops:=by
 simp only[oJ,Bool.and_eq_true,decide_eq_true_eq]at h;obtain⟨⟨⟨⟨⟨h2,h3⟩,h9⟩,h10⟩,h11⟩,h12⟩:=h;refine⟨Region.noSelect_spec h2,h3,fun k i hb=>?_,fun r or_ k ok hr hc hk hkr hb or' tl => ?_,fun i o ho hc=>?_⟩
 ·rcases Nat.lt_or_ge k ops.size with hk|hk
  ·have:=of_decide_eq_true (all_eq_true.1 h11 k (mem_range.2 hk))
   rcases Nat.lt_or_ge i ops.size with hi|hi
   ·exact hi
   ·have:=testBit_lt_two_pow (Nat.lt_of_lt_of_le this (Nat.pow_le_pow_right om hi))
    rw[this]at hb;cases hb
  ·have:(Region.before ops).getD k 0=0:=by
    have:(Region.before ops).size<=k:=by omega
    simp[Array.getElem?_eq_none this]
   rw[this]at hb;simp at hb
 ·have iI:=(Array.getElem?_eq_some_iff.1 hr).1
  have aK:=(Array.getElem?_eq_some_iff.1 hk).1;have h1:=all_eq_true.1 h9 r (mem_range.2 iI);simp only[hc,beq_self_eq_true,Bool.not_true,Bool.false_or]at h1;have h2:=all_eq_true.1 h1 k (mem_range.2 aK);rw[hr]at tl;cases tl;have yD:(k == r)=false:=by simpa using hkr
  simp only[nw,yD,hb,Bool.false_or,hr,hk]at h2;refine⟨fun d hd=>?_,fun d hd=>?_⟩<;>simp[hd]at h2
  ·exact h2.1
  ·exact h2.2
 ·have:=Array.all_eq_true_iff_forall_mem.1 h10 o (Array.mem_of_getElem? ho)
  simp only[hc,beq_self_eq_true,Bool.not_true,Bool.false_or]at this;split at this
  ·rename_i d hd;exact⟨d,hd,by simpa using this⟩
  ·cases this
theorem qhi {ro:Option Nat}{m:Nat}{id:Nat}{ops:Array Oper}{is:List Item}{K:Fr->World->Prop}{n:Nat}{a:Act}{w:World}{Q:Exit->Act->World->Prop}(hm:P.follows .mixedOrders=true) (hQ:∀ a w,Ok n K a w->Q .normal a w)
  (cL:fI n ops=true) (hp:lI P ops is=true) (hs:a.tmps.size=n) (hd:a.defers=[]) (h:opsD P ops K is (fr a) { w with drawn:=w.drawn+1 }):(Code.region id ops true).wpIn (fw ro) m P Q a w:=by
 have H:=qpH hp;simp only[lI,Bool.and_eq_true,decide_eq_true_eq]at hp;obtain⟨⟨⟨⟨⟨⟨⟨⟨⟨⟨⟨⟨h1,h2⟩,h3⟩,h4⟩,h5⟩,h6⟩,h7⟩,h8⟩,h9⟩,h10⟩,h11⟩,h12⟩,h13⟩:=hp;refine wpIn_region_any hm (qeU (K:=Ok n K) hQ _ _ _ _ ?_);rw[h1]at h;have hb:∀ i∈dP is,i<ops.size:=fun i hi=>of_decide_eq_true (all_eq_true.1 h5 i hi)
 have:=qgd H cL (dP is) [] (Array.replicate ops.size false) a _ (fun j hj=>.inr (by simpa using all_eq_true.1 h13 j (mem_range.2 hj))) (fun j hj=>⟨by simp,hb j hj⟩) (by simp) h6 (by simp) (fun j hj d=>by simp[hj])
  (fun j i hj _=>by
   rcases Nat.lt_or_ge j ops.size with hk|hk
   ·simp[hk]at hj
   ·simp[hk]at hj) h7 h8 hs hd h
 rw[h4]at this;exact this
theorem qel {ops:Array Oper}{N:Fr->World->Prop}{n:Nat}(H:Bq P ops) (cL:fI n ops=true) {i:Nat}{oi:Oper}(hi:ops[i]? = some oi) {listed:Array Bool}{a:Act}{w:World}(iv:listed.getD i true=false) (tk:Down ops listed)
  (ha:a.tmps.size=n) (hdf:a.defers=[]) (h:opsD P ops N (dC P ops [i]) (fr a) w):gR P ops listed i oi (fun a' w'=>a'.tmps.size=n/\a'.defers=[]/\N (fr a') w') a w:=by
 have fp:∀ o,o∈ops->∀ d,o.dst=some d->d<n:=fun o ho d hd=>by
  have:=Array.all_eq_true_iff_forall_mem.1 cL o ho
  simpa [hd] using this
 have jR:∀ r,listed.getD r false=true->pP ops i r=false:=by
  intro r j1
  cases hb:pP ops i r with
  | false=>rfl
  | true=>have:=tk r i j1 hb;rw[(xf iv).1]at this;cases this
 have kl:∀ r,listed.getD r false=true->e8 P ops r=.read->BA ops r oi:=by
  intro r j1 hc or_ mi;have hir:i≠r:=fun e=>by subst e;rw[(xf iv).1]at j1;cases j1
  exact H.ti r or_ i oi mi hc hi hir (jR r j1) or_ mi
 have cO:∀ v,fr (a.put oi.dst v)=fh (fr a) oi.dst v:=fun v=>te fun t ht=>by rw[ha];exact fp oi (Array.mem_of_getElem? hi) t ht
 simp only[dC,flatMap_cons,flatMap_nil,append_nil,opsD,hi]at h
 have bS:∀ v w',N (fh (fr a) oi.dst v) w'->(a.put oi.dst v).tmps.size=n/\(a.put oi.dst v).defers=[]/\N (fr (a.put oi.dst v)) w' :=
  fun v w' hk=>⟨by rw[size_put,ha],by rw[xd,hdf],by rw[cO];exact hk⟩
 have bW:opV P oi (fr a) w (opsW P ops (opsD P ops N (match e8 P ops i with|.dL=>(loose P ops i).map Item.chk|_=>[])) [])->cS P ops listed i oi a w fun a' w'=>a'.tmps.size=n/\a'.defers=[]/\N (fr a') w':=by
  intro hv;have yC:e8 P ops i=cls P oi.op:=by simp[e8,hi]
  rw[yC]at hv;unfold opV at hv
  cases hc:cls P oi.op with
  | pure =>
   simp only[hc]at hv;rw[xg hc];obtain⟨v,jA,hk⟩:=hv;unfold PureV at jA;rw[nu]at jA
   exact⟨v,jA,bS _ _ hk⟩
  | read =>
   simp only[hc]at hv;rw[yz hc];obtain⟨v,jA,hk⟩:=hv;unfold ReadV at jA;rw[nu]at jA
   exact⟨v,jA,bS _ _ hk⟩
  | dL =>
   simp only[hc]at hv;rw[qek hc];unfold opW at hv;rw[nu]at hv;refine qL (fun v w' hk=>?_) hv;obtain⟨gh,gW⟩:=qc8 (tail:=[]) (loose P ops i) (by rw[append_nil];exact hk);refine⟨fun r hr mh=>?_,bS _ _ gW⟩;refine(qei v (kl r mh (qcr hr).1) (fun or_ cs b ho=>H.aT r or_ cs b ho)).1 (qfm fun o ho=>?_);rw[cO];exact gh r hr o ho
 simp only[opsW]at h
 cases hg:oi.guard with
 | none =>
  simp only[hg]at h;refine⟨fun _=>bW h,fun hw=>?_⟩
  simp[Region.wanted,hg]at hw
 | some g =>
  simp only[hg]at h;unfold gR;rw[qbm hg];refine⟨fun hw=>bW (h.1 hw),fun hw=>bS _ _ ?_⟩;have:=h.2 hw;have yC:e8 P ops i=cls P oi.op:=by simp[e8,hi]
  rw[yC]at this
  cases hc:cls P oi.op with
  | dL=>simp only[hc]at this;exact(qc8 (tail:=[]) (loose P ops i) (by rw[append_nil];exact this)).2
  | pure=>simp only[hc]at this;exact this
  | read=>simp only[hc]at this;exact this
structure Dn (ops:Array Oper) (n:Nat) (dn:List Nat) (listed:Array Bool) (a:Act):Prop where
 size:listed.size=ops.size
 at_:∀ j,j<ops.size->∀ d,listed.getD j d=decide (j∈dn)
 down:Down ops listed
 lt:∀ j∈dn,j<ops.size
 tmps:a.tmps.size=n
 defers:a.defers=[]
theorem Dn.ready {ops:Array Oper}{n:Nat}{dn:List Nat}{listed:Array Bool}{a:Act}(S:Dn ops n dn listed a) {i:Nat}:i∈Region.ready .any ops listed↔(i∉dn/\ki ops dn i=true):=by
 rw[mem_ready];constructor
 ·rintro⟨h1,o,ho,h2⟩
  have cI:=(Array.getElem?_eq_some_iff.1 ho).1;rw[S.at_ i cI]at h1;refine⟨by simpa using h1,?_⟩;simp only[ki,ho];refine Array.all_eq_true_iff_forall_mem.2 fun e he=>?_
  cases hb:Region.binds .any e with
  | false=>rfl
  | true =>
   have h3:=h2 e he hb;rcases Nat.lt_or_ge e.on ops.size with hl|hl
   ·rw[S.at_ _ hl]at h3
    simpa using h3
   ·have:listed.size<=e.on:=by rw[S.size];exact hl
    simp[this]at h3
 ·rintro⟨h1,h2⟩
  unfold ki at h2;split at h2
  ·rename_i o ho
   have cI:=(Array.getElem?_eq_some_iff.1 ho).1;refine⟨by rw[S.at_ i cI];simpa using h1,o,ho,fun e he hb=>?_⟩;have:=Array.all_eq_true_iff_forall_mem.1 h2 e he;simp only[hb,Bool.not_true,Bool.false_or,contains_iff_mem]at this;rw[S.at_ _ (S.lt _ this)];simpa using this
  ·cases h2
theorem Dn.next {ops:Array Oper}{n:Nat}{dn:List Nat}{listed:Array Bool}{a a':Act}(H:Bq P ops) (S:Dn ops n dn listed a) {i:Nat}(cI:i<ops.size) (hr:i∈Region.ready .any ops listed) (ha:a'.tmps.size=n) (hd:a'.defers=[]):Dn ops n (i::dn) (listed.setIfInBounds i true) a':=by
 refine⟨by simpa using S.size,fun j hj d=>?_,qfG H.closed S.down hr H.bl,fun j hj=>?_,ha,hd⟩
 ·by_cases ie:i=j
  ·subst ie
   have:i<listed.size:=by rw[S.size];exact cI
   simp[this]
  ·rw[getD_set_ne d ie,S.at_ j hj d]
   simp[Ne.symm ie]
 ·rcases mem_cons.1 hj with rfl|h'
  ·exact cI
  ·exact S.lt j h'
def xk:PT->Prop
 | .alt ..|.stop=>True
 | _=>False
theorem qds {ops:Array Oper}{K:Fr->World->Prop}{n:Nat}(H:Bq P ops) (cL:fI n ops=true):∀ (T:PT) (dn seen:List Nat) (fuel:Nat) (listed:Array Bool) (a:Act) (w:World),gm P ops dn seen T=true->Dn ops n dn listed a->fuel+dn.length=ops.size->gP P ops K T (fr a) w ->
  (seen=[]->gS P ops (Ok n K) fuel listed a w)/\(xk T->∀ i∈Region.ready .any ops listed,i∉seen->∀ o,ops[i]? = some o->∃ f,fuel=f+1/\gR P ops listed i o (gS P ops (Ok n K) f (listed.setIfInBounds i true)) a w)
 | .stop,dn,seen,fuel,listed,a,w,ht,S,_,_=>by
  simp only[gm,Bool.and_eq_true,Bool.not_eq_true']at ht;refine⟨fun h=>by simp[h]at ht,fun _ i hi hns o ho=>?_⟩;have cI:=(Array.getElem?_eq_some_iff.1 ho).1;have h1:=all_eq_true.1 ht.2 i (mem_range.2 cI);obtain⟨h2,h3⟩:=S.ready.1 hi
  simp[h2,hns,h3]at h1
 | .lin is,dn,seen,fuel,listed,a,w,ht,S,hf,h=>by
  simp only[gm,Bool.and_eq_true,decide_eq_true_eq]at ht;obtain⟨⟨⟨⟨⟨⟨⟨t1,t2⟩,t3⟩,t4⟩,t5⟩,t6⟩,t7⟩,t8⟩:=ht;refine⟨fun _=>?_,fun h=>h.elim⟩;simp only[gP]at h;rw[t2]at h;have bZ:∀ j∈dP is,j<ops.size/\j∉dn:=fun j hj=>by
   have:=all_eq_true.1 t4 j hj
   simpa using this
  have:=qgd H cL (dP is) dn listed a w (fun j hj=>by
    have:=all_eq_true.1 t8 j (mem_range.2 hj)
    simpa using this) (fun j hj=>⟨(bZ j hj).2,(bZ j hj).1⟩) S.lt t5 S.size S.at_ S.down t6 t7 S.tmps S.defers h
  have e:fuel=(dP is).length:=by omega
  rw[e];exact this
 | .step i is t,dn,seen,fuel,listed,a,w,ht,S,hf,h=>by
  simp only[gm,Bool.and_eq_true,decide_eq_true_eq,Bool.not_eq_true']at ht;obtain⟨⟨⟨⟨⟨⟨t1,t2⟩,t3⟩,t4⟩,t5⟩,t6⟩,t7⟩:=ht;refine⟨fun _=>?_,fun h=>h.elim⟩;obtain⟨f,rfl⟩:∃ f,fuel=f+1:=⟨fuel-1,by omega⟩
  have hr:i∈Region.ready .any ops listed:=S.ready.2 ⟨by simpa using t4,t5⟩;obtain⟨iv,oi,hi,_⟩:=mem_ready.1 hr;have cI:=(Array.getElem?_eq_some_iff.1 hi).1;simp only[gP]at h;rw[t2]at h;refine qfl H cL hi f listed a w S.size S.tmps S.down (fun j oj hj kS iU hb=>?_) hr ?_
  ·have cJ:=(Array.getElem?_eq_some_iff.1 hj).1
   rw[S.at_ j cJ]at iU;have:=all_eq_true.1 t6 j (mem_range.2 cJ);have hjd:dn.contains j=false:=by simpa using iU
   have kT:(j == i)=false:=by simpa using kS
   simp only[hjd,kT,Bool.false_or,oI,hb,hi,hj,Bool.and_eq_true]at this;exact this
  ·refine qc7 (fun u w' hk=>?_) (qel H cL hi iv S.down S.tmps S.defers h)
   exact(qds H cL t (i::dn) [] f _ _ w' t7 (S.next H cI hr hk.1 hk.2.1) (by simp only[length_cons];omega) hk.2.2).1 rfl
 | .alt i is t m,dn,seen,fuel,listed,a,w,ht,S,hf,h=>by
  simp only[gm,Bool.and_eq_true,decide_eq_true_eq,Bool.not_eq_true']at ht;obtain⟨⟨⟨⟨⟨t2,t3⟩,t4⟩,t5⟩,t7⟩,t8⟩:=ht;have hr:i∈Region.ready .any ops listed:=S.ready.2 ⟨by simpa using t4,t5⟩;obtain⟨iv,oi,hi,_⟩:=mem_ready.1 hr;have cI:=(Array.getElem?_eq_some_iff.1 hi).1;simp only[gP]at h;rw[t2]at h;have hmA:xk m:=by
   cases m with
   | lin is=>simp[gm]at t8
   | step i is t=>simp[gm]at t8
   | _=>trivial
  have bZ:∀ j∈Region.ready .any ops listed,j∉seen->∀ o,ops[j]? = some o->∃ f,fuel=f+1/\gR P ops listed j o (gS P ops (Ok n K) f (listed.setIfInBounds j true)) a w:=by
   intro j hj hjs o ho;by_cases kS:j=i
   ·subst kS
    rw[hi]at ho;cases ho;obtain⟨f,rfl⟩:∃ f,fuel=f+1:=⟨fuel-1,by omega⟩
    refine⟨f,rfl,qc7 (fun u w' hk=>?_) (qel H cL hi iv S.down S.tmps S.defers h.1)⟩;exact(qds H cL t (j::dn) [] f _ _ w' t7 (S.next H cI hr hk.1 hk.2.1) (by simp only[length_cons];omega) hk.2.2).1 rfl
   ·exact(qds H cL m dn (i::seen) fuel listed a w t8 S hf h.2).2 hmA j hj (fun hm=>by
     rcases mem_cons.1 hm with h'|h'
     ·exact kS h'
     ·exact hjs h') o ho
  refine⟨fun hs=>?_,fun _=>bZ⟩;subst hs;obtain⟨f,rfl⟩:∃ f,fuel=f+1:=⟨fuel-1,by omega⟩
  refine⟨fun h0=>(by rw[h0]at hr;cases hr),fun j hj o ho=>?_⟩;obtain⟨f',hf',hc⟩:=bZ j hj (by simp) o ho;cases hf';exact hc
theorem qhj {ro:Option Nat}{m:Nat}{id:Nat}{ops:Array Oper}{T:PT}{K:Fr->World->Prop}{n:Nat}{a:Act}{w:World}{Q:Exit->Act->World->Prop}(hm:P.follows .mixedOrders=true) (hQ:∀ a w,Ok n K a w->Q .normal a w)
  (cL:fI n ops=true) (hb:oJ P ops=true) (ht:gm P ops [] [] T=true) (hs:a.tmps.size=n) (hd:a.defers=[]) (h:gP P ops K T (fr a) { w with drawn:=w.drawn+1 }):(Code.region id ops true).wpIn (fw ro) m P Q a w:=by
 have H:=qlp hb;refine wpIn_region_any hm (qeU (K:=Ok n K) hQ _ _ _ _ ?_);refine(qds H cL T [] [] ops.size _ a _ ht ⟨by simp,fun j hj d=>by simp[hj],fun j i hj _=>?_,by simp,hs,hd⟩ (by simp) h).1 rfl;rcases Nat.lt_or_ge j ops.size with hk|hk
 ·simp[hk]at hj
 ·simp[hk]at hj
theorem qmI {p:Nat->Prop}:∀ m,p m->∃ k,p k/\∀ j,p j->k<=j:=by
 intro m
 induction m using Nat.strongRecOn with
 | _ m ih =>
  intro hm;by_cases h:∃ j,j<m/\p j
  ·obtain⟨j,hj,hpj⟩:=h;exact ih j hj hpj
  ·exact⟨m,hm,fun j hj=>Nat.le_of_not_lt fun bD=>h ⟨j,bD,hj⟩⟩
open Classical in
noncomputable def least (p:Nat->Prop):Nat:=if h:∃ k,p k/\∀ j,p j->k<=j then h.choose else 0
theorem qh7 {p:Nat->Prop}{m:Nat}(hm:p m):p (least p)/\∀ j,p j->least p<=j:=by
 have h:=qmI m hm;unfold least;rw[dif_pos h];exact h.choose_spec
theorem tm {ro:Option Nat}{m:Nat}{n:Nat}(hm:P.follows .mixedOrders=true):∀ (c:Code),fits n c=true->∀ (Q:Exit->Fr->World->Prop) (a:Act) (w:World),a.tmps.size=n->a.defers=[]->vc P c Q (fr a) w ->
  c.wpIn (fw ro) m P (DI n Q) a w
 | .skip,_,_,_,_,hs,hd,h=>wpIn_skip ⟨hs,hd,h⟩
 | .label _,_,_,_,_,hs,hd,h=>wpIn_label ⟨hs,hd,h⟩
 | .exit _,_,_,_,_,hs,hd,h=>wpIn_exit ⟨hs,hd,h⟩
 | .ret,_,_,_,_,hs,hd,h=>wpIn_ret ⟨hs,hd,h⟩
 | .seq x y,hf,Q,a,w,hs,hd,h=>by
  simp only[fits,Bool.and_eq_true]at hf;refine wpIn_seq (wpIn_mono (tm hm x hf.1 _ a w hs hd h) fun e a' w' hq=>?_);obtain⟨ig,nx,hq⟩:=hq
  cases e with
  | normal=>exact tm hm y hf.2 Q a' w' ig nx hq
  | _=>exact⟨ig,nx,hq⟩
 | .cond c x y,hf,Q,a,w,hs,hd,h=>by
  simp only[fits,Bool.and_eq_true]at hf;obtain⟨t,ht,h1,h2⟩:=h;rw[nu]at ht
  exact wpIn_cond_split ht (fun ht=>tm hm x hf.1 Q a w hs hd (h1 ht)) (fun ht=>tm hm y hf.2 Q a w hs hd (h2 ht))
 | .block id c,hf,Q,a,w,hs,hd,h=>by
  refine wpIn_block (wpIn_mono (tm hm c hf _ a w hs hd h) fun e a' w' hq=>?_);obtain⟨ig,nx,hq⟩:=hq
  cases e with
  | exit i =>
   simp only[Blk]at hq;simp only[Exit.inBlock];split
   ·rename_i hi;rw[if_pos hi]at hq;exact⟨ig,nx,hq⟩
   ·rename_i hi;rw[if_neg hi]at hq;exact⟨ig,nx,hq⟩
  | _=>exact⟨ig,nx,hq⟩
 | .loop c,hf,Q,a,w,hs,hd,h=>by
  obtain⟨I,h0,hr⟩:=h;refine wpIn_loop (fun a w=>a.tmps.size=n/\a.defers=[]/\∃ m,I m (fr a) w) (fun a w=>least fun m=>I m (fr a) w) ⟨hs,hd,h0⟩ fun a w ⟨hs,hd,m0,uP⟩=>?_;have hI:=(qh7 (p:=fun m=>I m (fr a) w) uP).1;refine wpIn_mono (tm hm c hf _ a w hs hd (hr _ _ _ hI)) fun e a' w' hq=>?_;obtain⟨ig,nx,hq⟩:=hq
  cases e with
  | normal =>
   obtain⟨m',bD,hI'⟩:=hq
   exact⟨⟨ig,nx,m',hI'⟩,Nat.lt_of_le_of_lt ((qh7 (p:=fun m=>I m (fr a') w') hI').2 m' hI') bD⟩
  | _=>exact⟨ig,nx,hq⟩
 | .region id ops false,hf,Q,a,w,hs,hd,h=>qhh (fun a w h=>h) hf hs hd h
 | .region id ops true,hf,Q,a,w,hs,hd,h=>by
  rcases h with h|⟨is,hp,h⟩|⟨T,hb,ht,h⟩
  case inr.inl=>exact qhi hm (fun a w h=>h) hf hp hs hd h
  case inr.inr=>exact qhj hm (fun a w h=>h) hf hb ht hs hd h
  refine wpIn_region_any hm (qeS (K:=Ok n (Q .normal)) (fun a w h=>h) _ _ _ _ ?_);have:=qlo h.1 hf ops.toList 0 (Array.replicate ops.size false) a _ (by simp) (by simp) ⟨by simp,fun j hj d=>by simp[hj]⟩ hs hd h.2
  simpa using this
 | .rangeFunc ..,_,_,_,_,_,_,h=>h.elim
 | .scope _,_,_,_,_,_,_,h=>h.elim
 | .goto _,_,_,_,_,_,_,h=>h.elim
 | .refuse _,_,_,_,_,_,_,h=>h.elim
def rj (args:List Value):Fr:=fun t=>(args[t]?).getD undef
def jD (P:Program) (fn:Func) (R:Value->World->Prop) (e:Exit) (ρ:Fr) (w:World):Prop :=
 match e with
 | .normal|.ret=>∃ v,(∀ a:Act,fr a=ρ->(results fn a.tmps).run P w=.ok v w)/\R v w
 | _=>False
theorem qlq {f:FuncId}{fn:Func}{c:Code}{args:List Value}{w:World}{R:Ending->World->Prop}(hm:P.follows .mixedOrders=true)
  (hf:P.funcs[f]? = some fn) (hb:fn.body=some c) (cL:fits fn.ntmps c=true) (hn:args.length<=fn.ntmps)
  (h:vc P c (jD P fn fun v w'=>R (.returned v) w') (rj args) w):Calls P f args.toArray w R:=by
 refine(callsIn_wide (n:=0)).1 (callsIn_of_wp hf hb trivial ?_);have kA:fr { tmps:=args.toArray++Array.replicate (fn.ntmps-args.toArray.size) undef,defers:=[] }=rj args:=by
  funext t
  simp only[fr,rj];rcases Nat.lt_or_ge t args.length with ht|ht
  ·simp[Array.getElem?_append_left,ht]
  ·simp[Array.getElem?_append_right,ht]
   rcases Nat.lt_or_ge (t-args.length) (fn.ntmps-args.length) with h1|h1
   ·simp[h1]
   ·simp[h1]
 rw[<-kA]at h;refine wpIn_mono (tm (ro:=none) hm c cL _ _ w (by simp;omega) rfl h) fun e a' w' hq=>?_;obtain⟨_,hd,hq⟩:=hq
 cases e with
 | normal=>obtain⟨v,hv,hR⟩:=hq;exact⟨hd,v,hv a' rfl,hR⟩
 | ret=>obtain⟨v,hv,hR⟩:=hq;exact⟨hd,v,hv a' rfl,hR⟩
 | _=>exact hq.elim
end
def rl:List Nat->Nat->Nat|a::b::l,k=>bif Nat.beq k a then b else rl l k|_,_=>0
end
section
open Go.RowKit (Below)
abbrev PH:=Nat->Option Obj
abbrev HP:=PH->Prop
def Cd (h1 h2:PH):Prop:=∀ b,h1 b=none\/h2 b=none
def Sub (h1 h:PH):Prop:=∀ b o,h1 b=some o->h b=some o
def Ap:List HP->PH->Prop
 | [],_=>True
 | A::Γ,h=>∃ h1 h2,Cd h1 h2/\Sub h1 h/\Sub h2 h/\A h1/\Ap Γ h2
def l9 (h1 h2:PH):PH:=fun b=>match h1 b with|some o=>some o|none=>h2 b
def kh (h:PH) (b:Nat) (o:Obj):PH:=fun b'=>if b'=b then some o else h b'
theorem Cd.symm {h1 h2:PH}(h:Cd h1 h2):Cd h2 h1:=fun b=>(h b).symm
theorem Cd.sub {h1 h2 h3:PH}(h:Cd h1 h2) (hs:Sub h3 h2):Cd h1 h3:=fun b=>by
 rcases h b with h'|h'
 ·exact .inl h'
 ·right;cases h3b:h3 b with
  | none=>rfl
  | some o=>rw[hs b o h3b]at h';cases h'
theorem Sub.trans {a b c:PH}(h:Sub a b) (k:Sub b c):Sub a c:=fun x o hx=>k x o (h x o hx)
theorem Sub.refl (h:PH):Sub h h:=fun _ _ h=>h
theorem Ap.sub {Γ:List HP}{h h':PH}(hs:Sub h h') (hh:Ap Γ h):Ap Γ h':=by
 cases Γ with
 | nil=>trivial
 | cons A Γ=>obtain⟨h1,h2,d,s1,s2,ha,hg⟩:=hh;exact⟨h1,h2,d,s1.trans hs,s2.trans hs,ha,hg⟩
theorem Ap.swap {A B:HP}{Γ:List HP}{h:PH}(hh:Ap (A::B::Γ) h):Ap (B::A::Γ) h:=by
 obtain⟨h1,h2,d,s1,s2,ha,h3,h4,d2,s3,s4,hb,hg⟩:=hh;refine⟨h3,l9 h1 h4,fun b=>?_,s3.trans s2,fun b o eY => ?_,hb,h1,h4,d.sub s4,fun b o eY=>by simp[l9,eY],fun b o eY => ?_,ha,hg⟩
 ·rcases d b with hn|hn
  ·rcases d2 b with hm|hm
   ·exact .inl hm
   ·right;simp[l9,hn,hm]
  ·left;cases h3b:h3 b with
   | none=>rfl
   | some o=>rw[s3 b o h3b]at hn;cases hn
 ·simp only[l9]at eY
  split at eY
  ·rename_i o' lM;cases eY;exact s1 b _ lM
  ·exact s2 b o (s4 b o eY)
 ·simp only[l9]
  rcases d b with hn|hn
  ·rw[hn];exact eY
  ·rw[s4 b o eY]at hn;cases hn
theorem Ap.tail {A:HP}{Γ:List HP}{h:PH}(hh:Ap (A::Γ) h):Ap Γ h:=by
 obtain⟨h1,h2,d,s1,s2,ha,hg⟩:=hh;exact hg.sub s2
theorem Ap.fz {A A':HP}{Γ Γ':List HP}{h:PH}(ha:∀ h,A h->A' h) (hg:∀ h,Ap Γ h->Ap Γ' h) (hh:Ap (A::Γ) h):Ap (A'::Γ') h:=by
 obtain⟨h1,h2,d,s1,s2,a,g⟩:=hh;exact⟨h1,h2,d,s1,s2,ha _ a,hg _ g⟩
theorem Ap.focus {Γ:List HP}:∀ (i:Nat) {A:HP}{h:PH},Γ[i]? = some A->Ap Γ h->Ap (A::Γ.eraseIdx i) h:=by
 induction Γ with
 | nil=>intro i A h hi;simp at hi
 | cons B Γ ih =>
  intro i A h hi hh
  cases i with
  | zero=>simp only[getElem?_cons_zero,Option.some.injEq]at hi;subst hi;exact hh
  | succ i =>
   simp only[getElem?_cons_succ]at hi;exact(Ap.fz (fun _ h=>h) (fun _ h=>ih i hi h) hh).swap
theorem Ap.back {Γ:List HP}:∀ (i:Nat) {A A':HP}{h:PH},Γ[i]? = some A->Ap (A'::Γ.eraseIdx i) h->Ap (Γ.set i A') h:=by
 induction Γ with
 | nil=>intro i A A' h hi;simp at hi
 | cons B Γ ih =>
  intro i A A' h hi hh
  cases i with
  | zero=>exact hh
  | succ i =>
   simp only[getElem?_cons_succ]at hi;exact Ap.fz (fun _ h=>h) (fun _ h=>ih i hi h) (Ap.swap hh)
theorem Ap.write {A A':HP}{Γ:List HP}{h:PH}{b:Nat}{o':Obj}(hh:Ap (A::Γ) h) (hw:∀ h1,Sub h1 h->A h1->(∃ o,h1 b=some o)/\A' (kh h1 b o')):Ap (A'::Γ) (kh h b o'):=by
 obtain⟨h1,h2,d,s1,s2,a,g⟩:=hh;obtain⟨⟨o,ho⟩,ha'⟩:=hw h1 s1 a;have o0:h2 b=none:=(d b).resolve_left (by rw[ho];simp);refine⟨kh h1 b o',h2,fun x=>?_,fun x y hx=>?_,fun x y hx=>?_,ha',g⟩
 ·by_cases lp:x=b
  ·subst lp;exact .inr o0
  ·simpa [kh,lp] using d x
 ·simp only[kh]at hx ⊢
  split
  ·rename_i lp;rw[if_pos lp]at hx;exact hx
  ·rename_i lp;rw[if_neg lp]at hx;exact s1 x y hx
 ·have lp:x≠b:=fun e=>by subst e;rw[o0]at hx;cases hx
  simp only[kh,if_neg lp];exact s2 x y hx
theorem Ap.new {A:HP}{Γ:List HP}{h:PH}{b:Nat}{o:Obj}(hb:h b=none) (hh:Ap Γ h) (ha:A (fun x=>if x=b then some o else none)):Ap (A::Γ) (kh h b o):=by
 refine⟨_,h,fun x=>?_,fun x y hx=>?_,fun x y hx=>?_,ha,hh⟩
 ·by_cases lp:x=b
  ·subst lp;exact .inr hb
  ·left;simp[lp]
 ·by_cases lp:x=b
  ·simp only[lp,if_true]at hx;simpa [kh,lp] using hx
  ·simp[lp]at hx
 ·have lp:x≠b:=fun e=>by subst e;rw[hb]at hx;cases hx
  simp only[kh,if_neg lp];exact hx
def dw (w0 w:World):PH:=fun b=>if b<w0.heap.size then none else w.heap[b]?
structure Sat (w0 w:World) (Γ:List HP):Prop where
 below:Below w0.heap.size w0 w
 sat:Ap Γ (dw w0 w)
theorem Sat.start (w:World):Sat w w []:=⟨Below.refl _ _,trivial⟩
theorem Sat.drew {w0 w:World}{Γ:List HP}(h:Sat w0 w Γ):Sat w0 { w with drawn:=w.drawn+1 } Γ:=⟨h.below.trans ⟨rfl,rfl,rfl,Nat.le_refl _,fun _ _=>rfl⟩,h.sat⟩
theorem Sat.tail {w0 w:World}{A:HP}{Γ:List HP}(h:Sat w0 w (A::Γ)):Sat w0 w Γ:=⟨h.below,h.sat.tail⟩
theorem Sat.swap {w0 w:World}{A B:HP}{Γ:List HP}(h:Sat w0 w (A::B::Γ)):Sat w0 w (B::A::Γ):=⟨h.below,h.sat.swap⟩
theorem Sat.focus {w0 w:World}{Γ:List HP}(i:Nat) {A:HP}(hi:Γ[i]? = some A) (h:Sat w0 w Γ):Sat w0 w (A::Γ.eraseIdx i):=⟨h.below,h.sat.focus i hi⟩
theorem Sat.back {w0 w:World}{Γ:List HP}(i:Nat) {A A':HP}(hi:Γ[i]? = some A) (h:Sat w0 w (A'::Γ.eraseIdx i)):Sat w0 w (Γ.set i A'):=⟨h.below,h.sat.back i hi⟩
theorem Sat.mono {w0 w:World}{A A':HP}{Γ:List HP}(ha:∀ h,A h->A' h) (h:Sat w0 w (A::Γ)):Sat w0 w (A'::Γ):=⟨h.below,h.sat.fz ha fun _ h=>h⟩
theorem Sat.jQ {w0 w:World}{A:HP}{Γ Γ':List HP}(hg:∀ h,Ap Γ h->Ap Γ' h) (h:Sat w0 w (A::Γ)):Sat w0 w (A::Γ'):=⟨h.below,h.sat.fz (fun _ h=>h) hg⟩
theorem Sat.call {w0 w w':World}{Γ Δ:List HP}(h:Sat w0 w Γ) (k:Sat w w' Δ):Sat w0 w' (Δ++Γ):=by
 have eM:w0.heap.size<=w.heap.size:=h.below.size;refine⟨h.below.trans (k.below.mono eM),?_⟩;have key:∀ (Δ:List HP) (g:PH),Sub g (dw w w')->Ap Δ g->Ap (Δ++Γ) (l9 g (dw w0 w)):=by
  intro Δ
  induction Δ with
  | nil =>
   intro g hg _;refine h.sat.sub fun b o hb=>?_;simp only[l9]
   cases yI:g b with
   | none=>exact hb
   | some o' =>
    have:=hg b o' yI;simp only[dw]at this hb;split at this
    ·cases this
    ·split at hb
     ·cases hb
     ·rename_i h1 h2
      rw[Array.getElem?_eq_none om]at hb;cases hb
  | cons A Δ ih =>
   intro g hg ⟨h1,h2,d,s1,s2,ha,hr⟩;refine⟨h1,l9 h2 (dw w0 w),fun b=>?_,fun b o hb=>?_,fun b o hb=>?_,ha,ih h2 (s2.trans hg) hr⟩
   ·cases h1b:h1 b with
    | none=>exact .inl rfl
    | some o =>
     right;have h2b:h2 b=none:=(d b).resolve_left (by rw[h1b];simp);have:=hg b o (s1 b o h1b);simp only[l9,h2b,dw]at this ⊢;split at this
     ·cases this
     ·split
      ·rfl
      ·exact Array.getElem?_eq_none om
   ·simp only[l9];rw[s1 b o hb]
   ·simp only[l9]at hb ⊢
    split at hb
    ·rename_i o' lM;rw[s2 b o' lM];exact hb
    ·cases yI:g b with
     | none=>exact hb
     | some o' =>
      have:=hg b o' yI;simp only[dw]at this hb;split at this
      ·cases this
      ·split at hb
       ·cases hb
       ·rw[Array.getElem?_eq_none om]at hb;cases hb
 refine(key Δ (dw w w') (Sub.refl _) k.sat).sub fun b o hb=>?_;simp only[l9,dw]at hb ⊢;by_cases h1:b<w.heap.size
 ·simp only[h1,if_true]at hb
  split at hb
  ·cases hb
  ·rename_i h2;rw[if_neg h2,k.below.block b h1];exact hb
 ·simp only[h1,if_false]at hb
  have h2:¬b<w0.heap.size:=by omega
  rw[if_neg h2];split at hb
  ·rename_i o' lM;rw[lM];exact hb
  ·rename_i hn;rw[if_neg h2,Array.getElem?_eq_none om]at hb;cases hb
theorem Sat.bz {w0 w w':World}{Γ:List HP}(h:Sat w0 w Γ) (k:Sat w w' []):Sat w0 w' Γ:=h.call k
theorem Sat.jC {w0 w w':World}{A:HP}{Γ:List HP}(h:Sat w0 w Γ) (k:Sat w w' [A]):Sat w0 w' (A::Γ):=h.call k
theorem Sat.call2 {w0 w w':World}{A B:HP}{Γ:List HP}(h:Sat w0 w Γ) (k:Sat w w' [A,B]):Sat w0 w' (A::B::Γ):=h.call k
def dq (w:World) (b:Nat) (o:Obj):World:={ w with heap:=w.heap.setIfInBounds b o }
theorem Sat.put {w0 w:World}{A A':HP}{Γ:List HP}{b:Nat}{o':Obj}(h:Sat w0 w (A::Γ))
  (hw:∀ h1,Sub h1 (dw w0 w)->A h1->(∃ o,h1 b=some o)/\A' (kh h1 b o')):Sat w0 (dq w b o') (A'::Γ):=by
 obtain⟨h1,_,_,s1,_,a,_⟩:=id h.sat;obtain⟨⟨o,ho⟩,_⟩:=hw h1 s1 a;have fZ:=s1 b o ho;simp only[dw]at fZ;split at fZ
 ·cases fZ
 ·rename_i hb
  have iH:b<w.heap.size:=(Array.getElem?_eq_some_iff.1 fZ).1;refine⟨h.below.trans ⟨rfl,rfl,rfl,by simp[dq],fun k hk=>?_⟩,(h.sat.write hw).sub fun x y hx=>?_⟩
  ·simp only[dq];rw[Array.getElem?_setIfInBounds_ne om]
  ·simp only[kh,dw]at hx ⊢
   split at hx
   ·rename_i lp;subst lp;rw[if_neg hb];simpa [dq,iH] using hx
   ·rename_i lp
    split
    ·rename_i h2;rw[if_pos h2]at hx;exact hx
    ·rename_i h2;rw[if_neg h2]at hx;simp only[dq];rw[Array.getElem?_setIfInBounds_ne (Ne.symm lp)];exact hx
def fG (w:World) (o:Obj):World:={ w with heap:=w.heap.push o }
theorem Sat.push {w0 w:World}{A:HP}{Γ:List HP}{o:Obj}(h:Sat w0 w Γ) (ha:A (fun x=>if x=w.heap.size then some o else none)):Sat w0 (fG w o) (A::Γ):=by
 have eM:=h.below.size;refine⟨h.below.trans ⟨rfl,rfl,rfl,by simp[fG],fun k hk=>?_⟩,?_⟩
 ·simp only[fG];rw[Array.getElem?_push,if_neg om]
 ·refine(Ap.new (b:=w.heap.size) (o:=o) ?_ h.sat ha).sub fun x y hx=>?_
  ·simp only[dw];split
   ·rfl
   ·simp
  ·simp only[kh,dw]at hx ⊢
   split at hx
   ·rename_i lp;subst lp;rw[if_neg om];simp only[fG];rw[Array.getElem?_push,if_pos rfl];exact hx
   ·rename_i lp
    split
    ·rename_i h2;rw[if_pos h2]at hx;exact hx
    ·rename_i h2;rw[if_neg h2]at hx;simp only[fG];rw[Array.getElem?_push,if_neg om];exact hx
theorem Sat.at {w0 w:World}{Γ:List HP}(h:Sat w0 w Γ) (i:Nat) {A:HP}(hi:Γ[i]? = some A):∃ h1,(∀ b o,h1 b=some o->w.heap[b]? = some o/\w0.heap.size<=b)/\A h1:=by
 obtain⟨h1,_,_,s1,_,a,_⟩:=(h.focus i hi).sat;refine⟨h1,fun b o hb=>?_,a⟩;have:=s1 b o hb;simp only[dw]at this;split at this
 ·cases this
 ·exact⟨this,by omega⟩
def Ad (p:Addr) (t:TypeId) (cells:List Value):HP:=fun h=>p.off=0/\p.spot=none/\h p.block=some (.cells cells.toArray t (0,0))
def bo:Nat:=9223372036854775807
def Own (s:Value) (e:TypeId) (sz:Nat) (vs:List Value):HP:=fun h =>
 (s=.slice none 0 0/\vs=[]) \/
 ∃ b off n cap pre post,s=.slice (some ⟨b,off,none⟩) n cap/\pre.length=off/\vs.length=n*sz/\n<=cap/\n<=bo/\(cap-n)*sz<=post.length/\h b=some (.cells (pre++vs++post).toArray e (0,0))
def CK (w:World) (s:Value) (sz:Nat) (vs:List Value):Prop :=
 ∃ a n cap,s=.slice a n cap/\vs.length=n*sz/\(n<=cap/\n<=bo)/\∀ i v,vs[i]? = some v->∃ p,a=some p/\p.spot=none/\w.cell? ⟨p.block,p.off+i,none⟩=some v
def tF (s:Value) (k:Nat):Addr:=match s with|.slice (some p) _ _=>⟨p.block,p.off+k,none⟩|_=>⟨0,0,none⟩
def cW (s:Value):Nat:=match s with|.slice _ n _=>n|_=>0
theorem cell_of_heap {w:World}{b:Nat}{cs:List Value}{t:TypeId}{f:Nat × Nat}(h:w.heap[b]? = some (.cells cs.toArray t f)) (k:Nat):w.cell? ⟨b,k,none⟩=cs[k]? := by
 simp[World.cell?,h]
theorem frozen_of_heap {w:World}{b:Nat}{cs:Array Value}{t:TypeId}(h:w.heap[b]? = some (.cells cs t (0,0))) (k:Nat):w.frozen? ⟨b,k,none⟩=false:=by
 simp[World.frozen?,h]
theorem CK.below {w0 w:World}{s:Value}{sz:Nat}{vs:List Value}(h:CK w0 s sz vs) (hb:Below w0.heap.size w0 w):CK w s sz vs:=by
 obtain⟨a,n,cap,hs,hl,eZ,hc⟩:=h;refine⟨a,n,cap,hs,hl,eZ,fun i v hv=>?_⟩;obtain⟨p,hp,iE,eS⟩:=hc i v hv;refine⟨p,hp,iE,?_⟩;have bD:p.block<w0.heap.size:=by
  rcases Nat.lt_or_ge p.block w0.heap.size with h|h
  ·exact h
  ·simp[World.cell?,Array.getElem?_eq_none h]at eS
 rw[hb.cell (p:=⟨p.block,p.off+i,none⟩) bD];exact eS
theorem CK.at {w0 w:World}{Γ:List HP}{s:Value}{sz:Nat}{vs:List Value}(h:CK w0 s sz vs) (hw:Sat w0 w Γ):CK w s sz vs:=h.below hw.below
theorem Sat.rsl {w0 w:World}{Γ:List HP}(h:Sat w0 w Γ) (i:Nat) {s:Value}{e:TypeId}{sz:Nat}{vs:List Value}(hi:Γ[i]? = some (Own s e sz vs)):CK w s sz vs:=by
 obtain⟨h1,hs,a⟩:=h.at i hi;rcases a with ⟨rfl,rfl⟩|⟨b,off,n,cap,pre,post,rfl,aN,hlen,kg,eZ,_,hb⟩
 ·exact⟨none,0,0,rfl,by simp,⟨zero_le _,zero_le _⟩,by simp⟩
 ·refine⟨_,n,cap,rfl,hlen,⟨kg,eZ⟩,fun i v hv=>⟨_,rfl,rfl,?_⟩⟩
  change w.cell? ⟨b,off+i,none⟩=some v;rw[cell_of_heap (hs b _ hb).1];have eO:=(List.getElem?_eq_some_iff.1 hv).1;rw[append_assoc,getElem?_append_right om,getElem?_append_left om];rw[show off+i-pre.length=i from by omega];exact hv
theorem CK.cell {w:World}{s:Value}{sz:Nat}{vs:List Value}(h:CK w s sz vs) {k:Nat}{v:Value}(hv:vs[k]? = some v):w.cell? (tF s k)=some v:=by
 obtain⟨a,n,cap,rfl,_,_,hc⟩:=h;obtain⟨p,rfl,_,eS⟩:=hc k v hv;exact eS
theorem CK.len {w:World}{s:Value}{sz:Nat}{vs:List Value}(h:CK w s sz vs):vs.length=cW s*sz/\cW s<=bo:=by
 obtain⟨a,n,cap,rfl,hl,hb,_⟩:=h;exact⟨hl,hb.2⟩
end
section
def Kept (w w':World):Prop:=w'.heap.size=w.heap.size/\∀ k:Nat,(∀ cs t f,w.heap[k]? ≠ some (Obj.cells cs t f))->w'.heap[k]? = w.heap[k]?
theorem qku {w:World}{b:Nat}{cs:Array Value}{t:TypeId}{f:Nat × Nat}{o:Obj}(h:w.heap[b]? = some (.cells cs t f)):Kept w (dq w b o) :=
 ⟨by simp[dq],fun k hk=>by
  have cY:b≠k:=fun e=>by subst e;exact hk _ _ _ h
  simp only[dq];rw[Array.getElem?_setIfInBounds_ne cY]⟩
theorem Kept.trans {a b c:World}(h:Kept a b) (k:Kept b c):Kept a c:=⟨k.1.trans h.1,fun i hi=>by
 have:=h.2 i hi
 rw[<-this];exact k.2 i (by rw[this];exact hi)⟩
open Go.RowKit (Below)
def sliceB (P:Program) (t e sz by_:Nat):Bool:=(match P.underlying t with|some (.slice e')=>e' == e|_=>false) && (match P.info? e with|some i=>i.size == sz && i.bytes == by_|none=>false)
class Ah (P:Program) (t:Nat) (e sz by_:outParam Nat):Prop where
 ok:sliceB P t e sz by_=true
def qz (P:Program) (t:Nat):Bool:=match P.underlying t,P.info? t with|some (.struct _),_|some (.array ..),_=>false|some _,some i=>i.size == 1|_,_=>false
class An (P:Program) (t:Nat):Prop where
 ok:qz P t=true
def qxm (P:Program) (t n:Nat):Bool:=(match P.underlying t with|some (.struct _)|some (.array ..)=>true|_=>false) && (match P.info? t with|some i=>i.size == n|none=>false)
class AH (P:Program) (t:Nat) (n:outParam Nat):Prop where
 ok:qxm P t n=true
class Ai (P:Program) (t:Nat) (zs:outParam (List Value)):Prop where
 ok:((P.info? t).bind (·.zero)).map (·.cells.toList)=some zs
def tS (P:Program) (t f off ft:Nat):Bool:=match P.underlying t with|some (.struct fs)=>(match fs[f]? with|some x=>x.offset == off && x.type == ft && (match P.info? x.type with|some i => !(i.size == 0)|none=>false)|none=>false)|_=>false
class Ag (P:Program) (t f:Nat) (off ft:outParam Nat):Prop where
 ok:tS P t f off ft=true
def tT (P:Program) (t:Nat):Bool:=match P.underlying t with|some (.interface _)|none=>false|some _=>true
class AE (P:Program) (t:Nat):Prop where
 ok:tT P t=true
class Bs (P:Program) (t:Nat):Prop where
 ok:(match P.underlying t with|some (.interface _)=>true|_=>false)=true
section
variable {P:Program}
theorem Ah.eU {t e sz by_:Nat}(h:Ah P t e sz by_):P.underlying t=some (.slice e):=by
 have h:=h.ok;simp only[sliceB,Bool.and_eq_true]at h;have h1:=h.1;split at h1
 ·rename_i e' he;rw[he];simp at h1;rw[h1]
 ·cases h1
theorem Ah.info {t e sz by_:Nat}(h:Ah P t e sz by_):∃ i,P.info? e=some i/\i.size=sz/\i.bytes=by_:=by
 have h:=h.ok;simp only[sliceB,Bool.and_eq_true]at h;have h2:=h.2;split at h2
 ·rename_i i hi;simp at h2;exact⟨i,hi,h2.1,h2.2⟩
 ·cases h2
theorem Ah.size {t e sz by_:Nat}(h:Ah P t e sz by_) (w:World):(sizeOf e).run P w=.ok sz w:=by
 obtain⟨i,hi,hs,_⟩:=h.info;simp[sizeOf,typeInfo,hi,hs]
theorem An.plain {t:Nat}(h:An P t):(∀ w,(isAgg t).run P w=.ok false w)/\∀ w,(sizeOf t).run P w=.ok 1 w:=by
 have h:=h.ok;simp only[qz]at h;split at h
 ·cases h
 ·cases h
 ·rename_i d i h1 h2 hd hi
  refine⟨fun w=>?_,fun w=>?_⟩
  ·simp only[isAgg,Sem.run_bind,run_underlying hd,Result.andThen_ok]
   cases d<;>first|rfl|(exfalso;simp_all)
  ·simp at h;simp[sizeOf,typeInfo,hi,h]
 ·cases h
theorem AH.agg {t n:Nat}(h:AH P t n):(∀ w,(isAgg t).run P w=.ok true w)/\∀ w,(sizeOf t).run P w=.ok n w:=by
 have h:=h.ok;simp only[qxm,Bool.and_eq_true]at h;obtain⟨h1,h2⟩:=h;split at h2
 ·rename_i i hi
  simp at h2;refine⟨fun w=>?_,fun w=>by simp[sizeOf,typeInfo,hi,h2]⟩;split at h1
  ·rename_i fs hd;simp[isAgg,run_underlying hd]
  ·rename_i a b hd;simp[isAgg,run_underlying hd]
  ·cases h1
 ·cases h2
theorem Ai.zero {t:Nat}{zs:List Value}(h:Ai P t zs):∃ v,v.cells=zs.toArray/\∀ w,(zeroValue t).run P w=.ok v w:=by
 have h:=h.ok
 cases hi:P.info? t with
 | none=>simp[hi]at h
 | some i =>
  simp only[hi,Option.bind_some]at h
  cases hz:i.zero with
  | none=>simp[hz]at h
  | some v =>
   simp only[hz,Option.map_some,Option.some.injEq]at h;exact⟨v,by rw[<-h],fun w=>by simp[zeroValue,typeInfo,hi,hz]⟩
theorem Ag.place {t f off ft:Nat}(h:Ag P t f off ft):∃ fs pX,P.underlying t=some (.struct fs)/\fs[f]? = some pX/\pX.offset=off/\pX.type=ft/\∀ (a:Addr) w,(fieldPlace a pX).run P w=.ok (a.add off) w:=by
 have h:=h.ok;simp only[tS]at h;split at h
 ·rename_i fs hd
  split at h
  ·rename_i x hx
   simp only[Bool.and_eq_true,beq_iff_eq]at h;refine⟨fs,x,hd,hx,h.1.1,h.1.2,fun a w=>?_⟩;have h2:=h.2;split at h2
   ·rename_i i hi
    simp at h2;simp[fieldPlace,sizeOf,typeInfo,hi,h2,h.1.1]
   ·cases h2
  ·cases h
 ·cases h
theorem AE.eU {t:Nat}(h:AE P t):∃ d,P.underlying t=some d/\∀ ms,d≠.interface ms:=by
 have h:=h.ok;simp only[tT]at h;split at h
 ·cases h
 ·cases h
 ·rename_i d hn hd;exact⟨d,hd,fun ms e=>hn ms e⟩
theorem Bs.eU {t:Nat}(h:Bs P t):P.underlying t=some (.interface (P.methodsAt t)):=by
 have h:=h.ok;split at h
 ·rename_i ms hd;simp[Program.methodsAt,hd]
 ·cases h
theorem vt {n:Int}(h0 : -9223372036854775808<=n) (h1:n<=9223372036854775807):IntKind.i64.wrap n=n:=by rw[IntKind.wrap_i64];omega
section
variable {ops:Array Oper}{K:Fr->World->Prop}{r:List Oper}{ρ:Fr}{w:World}{d:Nat}{ty:TypeId}{pos:String}{af:Array Edge}{g:Option (Nat × Bool)}{dst:Option Nat}
theorem zL (h:K ρ w):opsW P ops K [] ρ w:=h
theorem eD {op:Op}{v:Value}(hc:cls P op=.pure) (hv:PureV P ⟨some d,op,ty,pos,af,none⟩ ρ v) (h:opsW P ops K r (dD ρ d v) w):opsW P ops K (⟨some d,op,ty,pos,af,none⟩::r) ρ w:=by
 simp only[opsW,opV,hc];exact⟨v,hv,h⟩
theorem sq {op:Op}{v:Value}(hc:cls P op=.read) (hv:ReadV P ⟨some d,op,ty,pos,af,none⟩ ρ w v) (h:opsW P ops K r (dD ρ d v) w):opsW P ops K (⟨some d,op,ty,pos,af,none⟩::r) ρ w:=by
 simp only[opsW,opV,hc];exact⟨v,hv,h⟩
theorem jr {op:Op}(hc:cls P op=.dL) (h:opW P ⟨dst,op,ty,pos,af,none⟩ ρ w fun v w'=>opsW P ops K r (fh ρ dst v) w'):opsW P ops K (⟨dst,op,ty,pos,af,none⟩::r) ρ w:=by
 simp only[opsW,opV,hc];exact h
def gv (c:Bool) (v:Value):Value:=bif c then v else undef
theorem aS {a b:Bool}(h:(a && b)=true):a=true:=(Bool.and_eq_true _ _ ▸ h).1
theorem aQ {c:Bool}{v:Value}(h:c=true):gv c v=v:=by rw[h];rfl
def Gd (v:Value) (want c:Bool):Prop:=asks v want=c
theorem qlN (b want:Bool):Gd (.bool b) want (b == want):=rfl
theorem CP (c b want:Bool):Gd (gv c (.bool b)) want (c && (b == want)):=by cases c<;>rfl
theorem qgI {op:Op}{j:Nat}{want c:Bool}{t:Nat}{v:Value}(hc:cls P op=.pure) (hj:gj ops j=some t) (hg:Gd (ρ t) want c)
  (hv:c=true->PureV P ⟨some d,op,ty,pos,af,none⟩ ρ v) (h:opsW P ops K r (dD ρ d (gv c v)) w):opsW P ops K (⟨some d,op,ty,pos,af,some (j,want)⟩::r) ρ w:=by
 simp only[opsW,opV,hc,eo,hj];unfold Gd at hg;rw[hg];refine⟨fun h1=>⟨v,hv h1,?_⟩,fun h1=>?_⟩
 ·rw[h1]at h;exact h
 ·rw[h1]at h;exact h
theorem qgJ {op:Op}{j:Nat}{want c:Bool}{t:Nat}{v:Value}(hc:cls P op=.read) (hj:gj ops j=some t) (hg:Gd (ρ t) want c)
  (hv:c=true->ReadV P ⟨some d,op,ty,pos,af,none⟩ ρ w v) (h:opsW P ops K r (dD ρ d (gv c v)) w):opsW P ops K (⟨some d,op,ty,pos,af,some (j,want)⟩::r) ρ w:=by
 simp only[opsW,opV,hc,eo,hj];unfold Gd at hg;rw[hg];refine⟨fun h1=>⟨v,hv h1,?_⟩,fun h1=>?_⟩
 ·rw[h1]at h;exact h
 ·rw[h1]at h;exact h
theorem qkv {op:Op}{j:Nat}{want:Bool}{t:Nat}(hj:gj ops j=some t) (hg:asks (ρ t) want=true)
  (h1:opsW P ops K (⟨dst,op,ty,pos,af,none⟩::r) ρ w):opsW P ops K (⟨dst,op,ty,pos,af,some (j,want)⟩::r) ρ w:=by
 simp only[opsW,eo,hj]at h1 ⊢;rw[hg];exact⟨fun _=>h1,fun h=>by cases h⟩
theorem qkw {op:Op}{j:Nat}{want:Bool}{t:Nat}(hj:gj ops j=some t) (hg:asks (ρ t) want=false)
  (h1:opsW P ops K r (fh ρ dst undef) w):opsW P ops K (⟨dst,op,ty,pos,af,some (j,want)⟩::r) ρ w:=by
 simp only[opsW,eo,hj];rw[hg];exact⟨fun h=>(by cases h),fun _=>h1⟩
variable {x y z:Operand}{t t':TypeId}
theorem qqP {v:Value}(hx:aG ρ x=v):PureV P ⟨dst,.move x,ty,pos,af,g⟩ ρ v:=fun w=>by simp[execOp,hx]
theorem qgK {v:Value}(hx:aG ρ x=v):PureV P ⟨dst,.assign x,ty,pos,af,g⟩ ρ v:=fun w=>by simp[execOp,hx]
theorem qqQ {b:Bool}{u v:Value}(hz:aG ρ z=.bool b) (hx:aG ρ x=u) (hy:aG ρ y=v):PureV P ⟨dst,.pick z x y,ty,pos,af,g⟩ ρ (bif b then u else v):=fun w=>by
 cases b<;>simp[execOp,hx,hy,hz,asBool]
theorem wy {b b':Bool}(hz:aG ρ z=.bool b) (hx:aG ρ x=.bool true) (hy:aG ρ y=gv (b == false) (.bool b')):PureV P ⟨dst,.pick z x y,ty,pos,af,g⟩ ρ (.bool (b || b')):=fun w=>by
 cases b<;>simp[execOp,hx,hy,hz,asBool,gv]
theorem qua {b b':Bool}(hz:aG ρ z=.bool b) (hx:aG ρ x=gv (b == true) (.bool b')) (hy:aG ρ y=.bool false):PureV P ⟨dst,.pick z x y,ty,pos,af,g⟩ ρ (.bool (b && b')):=fun w=>by
 cases b<;>simp[execOp,hx,hy,hz,asBool,gv]
theorem qwd {c b b':Bool}(hg:c=true) (hz:aG ρ z=gv c (.bool b)) (hx:aG ρ x=.bool true) (hy:aG ρ y=gv (c && (b == false)) (.bool b')):PureV P ⟨dst,.pick z x y,ty,pos,af,g⟩ ρ (.bool (b || b')):=fun w=>by
 subst hg;cases b<;>simp[execOp,hx,hy,hz,asBool,gv]
theorem qvw {c b b':Bool}(hg:c=true) (hz:aG ρ z=gv c (.bool b)) (hx:aG ρ x=gv (c && (b == true)) (.bool b')) (hy:aG ρ y=.bool false):PureV P ⟨dst,.pick z x y,ty,pos,af,g⟩ ρ (.bool (b && b')):=fun w=>by
 subst hg;cases b<;>simp[execOp,hx,hy,hz,asBool,gv]
variable {k:IntKind}{a b:Int}
theorem qub (hx:aG ρ x=.int k a) (hy:aG ρ y=.int k b):PureV P ⟨dst,.binOp .lss t x y t',ty,pos,af,g⟩ ρ (.bool (decide (a<b))):=fun w=>by simp[execOp,eqGuard,binOp,Op.intCmp,hx,hy]
theorem quc (hx:aG ρ x=.int k a) (hy:aG ρ y=.int k b):PureV P ⟨dst,.binOp .leq t x y t',ty,pos,af,g⟩ ρ (.bool (decide (a<=b))):=fun w=>by simp[execOp,eqGuard,binOp,Op.intCmp,hx,hy]
theorem qud (hx:aG ρ x=.int k a) (hy:aG ρ y=.int k b):PureV P ⟨dst,.binOp .gtr t x y t',ty,pos,af,g⟩ ρ (.bool (decide (b<a))):=fun w=>by simp[execOp,eqGuard,binOp,Op.intCmp,hx,hy]
theorem que (hx:aG ρ x=.int k a) (hy:aG ρ y=.int k b):PureV P ⟨dst,.binOp .geq t x y t',ty,pos,af,g⟩ ρ (.bool (decide (b<=a))):=fun w=>by simp[execOp,eqGuard,binOp,Op.intCmp,hx,hy]
theorem quf (hx:aG ρ x=.int k a) (hy:aG ρ y=.int k b):PureV P ⟨dst,.binOp .eql t x y t',ty,pos,af,g⟩ ρ (.bool (decide (a=b))):=fun w=>by simp[execOp,eqGuard,binOp,Op.intCmp,hx,hy];rfl
theorem qug (hx:aG ρ x=.int k a) (hy:aG ρ y=.int k b):PureV P ⟨dst,.binOp .neq t x y t',ty,pos,af,g⟩ ρ (.bool (!decide (a=b))):=fun w=>by simp[execOp,eqGuard,binOp,Op.intCmp,hx,hy];rfl
theorem quh (hx:aG ρ x=.int .i64 a) (hy:aG ρ y=.int .i64 b) (h0 : -9223372036854775808<=a+b) (h1:a+b<=9223372036854775807):PureV P ⟨dst,.binOp .add t x y t',ty,pos,af,g⟩ ρ (.int .i64 (a+b)):=fun w=>by simp[execOp,eqGuard,binOp,Op.intArith,hx,hy,vt h0 h1]
theorem qui (hx:aG ρ x=.int .i64 a) (hy:aG ρ y=.int .i64 b) (h0 : -9223372036854775808<=a-b) (h1:a-b<=9223372036854775807):PureV P ⟨dst,.binOp .sub t x y t',ty,pos,af,g⟩ ρ (.int .i64 (a-b)):=fun w=>by simp[execOp,eqGuard,binOp,Op.intArith,hx,hy,vt h0 h1]
theorem quj (hx:aG ρ x=.int .i64 a) (hy:aG ρ y=.int .i64 b) (h0 : -9223372036854775808<=a*b) (h1:a*b<=9223372036854775807):PureV P ⟨dst,.binOp .mul t x y t',ty,pos,af,g⟩ ρ (.int .i64 (a*b)):=fun w=>by simp[execOp,eqGuard,binOp,Op.intArith,hx,hy,vt h0 h1]
theorem quk {b:Bool}(hx:aG ρ x=.bool b):PureV P ⟨dst,.unOp .not t x,ty,pos,af,g⟩ ρ (.bool !b):=fun w=>by simp[execOp,Op.unary,hx]
theorem qul (hx:aG ρ x=.int .i64 a) (h0 : -9223372036854775808<=0-a) (h1:0-a<=9223372036854775807):PureV P ⟨dst,.unOp .neg t x,ty,pos,af,g⟩ ρ (.int .i64 (0-a)):=fun w=>by
 have:=vt h0 h1;simp only[execOp,Op.unary,hx,Op.intArith,Sem.run_bind,Sem.run_pure,Result.andThen_ok,this]
theorem qhW {u:TypeId}{v:Value} [T:Bs P t] (hx:aG ρ x=.iface u v) (hy:aG ρ y=.nilIface):PureV P ⟨dst,.binOp .neq t x y t',ty,pos,af,g⟩ ρ (.bool true):=fun w=>by simp[execOp,eqGuard,hx,hy,run_neq_held_nil w t u v T.eU]
theorem qhX {u:TypeId}{v:Value} [T:Bs P t] (hx:aG ρ x=.iface u v) (hy:aG ρ y=.nilIface):PureV P ⟨dst,.binOp .eql t x y t',ty,pos,af,g⟩ ρ (.bool false):=fun w=>by simp[execOp,eqGuard,hx,hy,run_eql_held_nil w t u v T.eU]
theorem qkx [T:Bs P t] (hx:aG ρ x=.nilIface):PureV P ⟨dst,.binOp .neq t x (.const .nilIface) t',ty,pos,af,g⟩ ρ (.bool false):=fun w=>by
 have h1:=run_neq_nil_nil w t T.eU;simp only[execOp,eqGuard,hx];cases x<;>simp[aG,h1]
theorem qky [T:Bs P t] (hx:aG ρ x=.nilIface):PureV P ⟨dst,.binOp .eql t x (.const .nilIface) t',ty,pos,af,g⟩ ρ (.bool true):=fun w=>by
 have h1:=run_eql_nil_nil w t T.eU;simp only[execOp,eqGuard,hx];cases x<;>simp[aG,h1]
theorem qnm {v:Value} [T:AE P t] (hx:aG ρ x=v):PureV P ⟨dst,.makeInterface t x,ty,pos,af,g⟩ ρ (.iface t v):=fun w=>by
 obtain⟨dd,hd,hn⟩:=T.eU;simp only[execOp,Instr.makeInterface,Sem.run_bind,run_underlying hd,Result.andThen_ok,hx];cases dd<;>first|rfl|exact absurd rfl (hn _)
theorem qhY {vs:Array Value}{i:Nat}{v:Value}(hx:aG ρ x=.tuple vs) (hi:vs[i]? = some v):PureV P ⟨dst,.extract x i,ty,pos,af,g⟩ ρ v:=fun w=>by simp[execOp,Instr.extract,hx,hi]
theorem qdd {f off ft:Nat}{p:Addr} [T:Ag P t f off ft] (hx:aG ρ x=.pointer (some p)):PureV P ⟨dst,.fieldAddr t x f,ty,pos,af,g⟩ ρ (.pointer (some (p.add off))):=fun w=>by
 obtain⟨fs,pX,hd,hf,ho,_,hp⟩:=T.place;simp[execOp,Instr.fieldAt,Instr.sureAddr,hx,run_underlying hd,hf,hp]
theorem qnn {f off ft:Nat}{cs:Array Value}{v:Value} [T:Ag P t f off ft] [C:An P ft] (hx:aG ρ x=.agg cs) (hv:cs[off]? = some v):PureV P ⟨dst,.field t x f,ty,pos,af,g⟩ ρ v:=fun w=>by
 obtain⟨fs,pX,hd,hf,ho,hft,_⟩:=T.place;simp[execOp,Instr.field,hx,run_underlying hd,hf,part,asAgg,hft,C.plain.1,ho,hv]
theorem qgL {p:Addr}(hx:aG ρ x=.pointer (some p)):PureV P ⟨dst,.nilCheck x,ty,pos,af,g⟩ ρ (.pointer (some p)):=fun w=>by simp[execOp,hx]
theorem qfv {u:TypeId}{v:Value}(hx:aG ρ x=.iface u v):PureV P ⟨dst,.nilCheck x,ty,pos,af,g⟩ ρ (.iface u v):=fun w=>by simp[execOp,hx]
end
class CH (Γ:List HP) (A:HP) (put:HP->List HP):Prop where
 ok:∃ i,Γ[i]? = some A/\∀ A',put A'=Γ.set i A'
theorem CH.here {A:HP}{Γ:List HP}:CH (A::Γ) A (fun A'=>A'::Γ):=⟨0,rfl,fun _=>rfl⟩
theorem CH.there {A B:HP}{Γ:List HP}{put:HP->List HP}(h:CH Γ A put):CH (B::Γ) A (fun A'=>B::put A'):=by
 obtain⟨i,hi,hp⟩:=h.ok;exact⟨i+1,by simpa using hi,fun A'=>by rw[hp A'];rfl⟩
class AQ (Γ:List HP) (p:Addr) (t:outParam TypeId) (cells:outParam (List Value)) (put:outParam (HP->List HP)):Prop where
 j3:CH Γ (Ad p t cells) put
instance (priority:=high) box_here {p:Addr}{t:TypeId}{cells:List Value}{Γ:List HP}:AQ (Ad p t cells::Γ) p t cells (fun A'=>A'::Γ):=⟨CH.here⟩
instance qwl {B:HP}{p:Addr}{t:TypeId}{cells:List Value}{Γ:List HP}{put:HP->List HP} [h:AQ Γ p t cells put]:AQ (B::Γ) p t cells (fun A'=>B::put A'):=⟨h.j3.there⟩
attribute [irreducible] gv
structure Ty (α:Type) where
 sz:Nat
 enc:α->List Value
 ok:∀ x,(enc x).length=sz
 dflt:α
def aa:Ty Int:=⟨1,fun n=>[.int .i64 n],fun _=>rfl,0⟩
def ah:Ty Bool:=⟨1,fun b=>[.bool b],fun _=>rfl,false⟩
def al:Ty Value:=⟨1,fun v=>[v],fun _=>rfl,undef⟩
theorem Ty.len {α:Type}(T:Ty α) (xs:List α):(xs.flatMap T.enc).length=xs.length*T.sz:=by
 induction xs with
 | nil=>simp
 | cons x xs ih=>simp[flatMap_cons,T.ok,ih,Nat.add_mul];omega
theorem Ty.get {α:Type}(T:Ty α):∀ (xs:List α) (i k:Nat),i<xs.length->k<T.sz->(xs.flatMap T.enc)[i*T.sz+k]? = (T.enc (xs.getD i T.dflt))[k]?
 | [],i,k,h,_=>by simp at h
 | x::xs,0,k,_,hk=>by
  rw[flatMap_cons,Nat.zero_mul,Nat.zero_add,getElem?_append_left (by rw[T.ok];exact hk)];rfl
 | x::xs,i+1,k,h,hk=>by
  have hl:=T.ok x;rw[flatMap_cons,getElem?_append_right (by rw[hl,Nat.add_mul];omega),hl,show (i+1)*T.sz+k-T.sz=i*T.sz+k from by rw[Nat.add_mul];omega];simp only[length_cons]at h;rw[Ty.get T xs i k om hk];rfl
theorem Ty.set {α:Type}(T:Ty α):∀ (xs:List α) (i k:Nat) (v:Value) (x':α),i<xs.length->k<T.sz->T.enc x'=(T.enc (xs.getD i T.dflt)).set k v ->
  (xs.flatMap T.enc).set (i*T.sz+k) v=(xs.set i x').flatMap T.enc
 | [],i,k,v,x',h,_,_=>by simp at h
 | x::xs,0,k,v,x',_,hk,he=>by
  simp only[getD_cons_zero]at he
  rw[flatMap_cons,Nat.zero_mul,Nat.zero_add,set_append_left _ _ (by rw[T.ok];exact hk),set_cons_zero,flatMap_cons,he]
 | x::xs,i+1,k,v,x',h,hk,he=>by
  have hl:=T.ok x;simp only[length_cons]at h
  rw[flatMap_cons,set_append_right _ _ (by rw[hl,Nat.add_mul];omega),hl,show (i+1)*T.sz+k-T.sz=i*T.sz+k from by rw[Nat.add_mul];omega,set_cons_succ,flatMap_cons,
   Ty.set T xs i k v x' om hk (by simpa using he)]
def RS {α:Type}(T:Ty α) (w:World) (s:Value) (xs:List α):Prop:=CK w s T.sz (xs.flatMap T.enc)/\xs.length=cW s
def OS {α:Type}(T:Ty α) (e:TypeId) (s:Value) (xs:List α):HP:=fun h=>Own s e T.sz (xs.flatMap T.enc) h/\xs.length=cW s
class AT (Γ:List HP) (s:Value) (α:outParam Type) (T:outParam (Ty α)) (e:outParam TypeId) (xs:outParam (List α)) (put:outParam (HP->List HP)):Prop where
 j3:CH Γ (OS T e s xs) put
instance (priority:=high) own_here {α:Type}{T:Ty α}{s:Value}{e:TypeId}{xs:List α}{Γ:List HP}:AT (OS T e s xs::Γ) s α T e xs (fun A'=>A'::Γ):=⟨CH.here⟩
instance qwm {B:HP}{α:Type}{T:Ty α}{s:Value}{e:TypeId}{xs:List α}{Γ:List HP}{put:HP->List HP} [h:AT Γ s α T e xs put]:AT (B::Γ) s α T e xs (fun A'=>B::put A'):=⟨h.j3.there⟩
def eX {α:Type}(T:Ty α) (s:Value) (i:Nat):Addr:=tF s (i*T.sz)
theorem RS.at {α:Type}{T:Ty α}{w0 w:World}{Γ:List HP}{s:Value}{xs:List α}(h:RS T w0 s xs) (hw:Sat w0 w Γ):RS T w s xs:=⟨h.1.at hw,h.2⟩
theorem RS.bo {α:Type}{T:Ty α}{w:World}{s:Value}{xs:List α}(h:RS T w s xs):xs.length<=9223372036854775807:=by have:=h.1.len.2;rw[h.2];exact this
theorem Sat.rs {α:Type}{T:Ty α}{w0 w:World}{Γ:List HP}(h:Sat w0 w Γ) (i:Nat) {s:Value}{e:TypeId}{xs:List α}(hi:Γ[i]? = some (OS T e s xs)):RS T w s xs:=by
 have h':=(h.focus i hi).mono (A':=Own s e T.sz (xs.flatMap T.enc)) fun _ hh=>hh.1;obtain⟨h1,_,a⟩:=h.at i hi;exact⟨h'.rsl 0 rfl,a.2⟩
theorem aM {α:Type}{T:Ty α}{w0 w:World}{Γ:List HP}{s:Value}{e:TypeId}{xs:List α}{put:HP->List HP} [h:AT Γ s α T e xs put] (hw:Sat w0 w Γ):RS T w s xs:=by
 obtain⟨i,hi,_⟩:=h.j3.ok;exact hw.rs i hi
theorem Sat.nil {α:Type}{T:Ty α}{w0 w:World}{Γ:List HP}{e:TypeId}(h:Sat w0 w Γ):Sat w0 w (OS T e (.slice none 0 0) []::Γ) :=
 ⟨h.below,fun _=>none,dw w0 w,fun _=>.inl rfl,fun _ _ hb=>(by cases hb),Sub.refl _,⟨.inl ⟨rfl,rfl⟩,rfl⟩,h.sat⟩
theorem RS.nil {α:Type}{T:Ty α}{w:World}:RS T w (.slice none 0 0) []:=⟨⟨none,0,0,rfl,by simp,⟨zero_le _,zero_le _⟩,by simp⟩,rfl⟩
theorem RS.shape {α:Type}{T:Ty α}{w:World}{s:Value}{xs:List α}(h:RS T w s xs):∃ a cap,s=.slice a xs.length cap:=by
 obtain⟨⟨a,n,cap,rfl,_⟩,hl⟩:=h;exact⟨a,cap,by rw[hl];rfl⟩
theorem RS.some {α:Type}{T:Ty α}(hT:0<T.sz) {w:World}{s:Value}{xs:List α}(h:RS T w s xs) (hp:0<xs.length):∃ p cap,s=.slice (some p) xs.length cap/\p.spot=none:=by
 obtain⟨⟨a,n,cap,rfl,_,_,hc⟩,hl⟩:=h;have h0:0<(xs.flatMap T.enc).length:=by rw[T.len];exact Nat.mul_pos hp hT
 obtain⟨p,rfl,iE,_⟩:=hc 0 _ (getElem?_eq_getElem h0);exact⟨p,cap,by rw[hl];rfl,iE⟩
section
variable {ops:Array Oper}{K:Fr->World->Prop}{r:List Oper}{ρ:Fr}{w w0:World}{d:Nat}{ty:TypeId}{pos:String}{af:Array Edge}{g:Option (Nat × Bool)}{dst:Option Nat}{x y z:Operand}{t t':TypeId}{Γ:List HP}
variable {α:Type}{T:Ty α}{s:Value}{xs:List α}
theorem qum {e sz by_:Nat} [S:Ah P t e sz by_] (hx:aG ρ x=s) (h:RS T w s xs):PureV P ⟨dst,.call { callee:=.builtin .len,args:=#[x],argTypes:=#[t] },ty,pos,af,g⟩ ρ (.int .i64 xs.length):=fun w=>by
 obtain⟨a,cap,hs⟩:=h.shape;simp[execOp,resolve,invoke,builtin,Builtin.len_,hx,run_underlying S.eU,hs,goInt]
theorem qja {e sz by_:Nat}{k:IntKind}{j:Int} [S:Ah P t e sz by_] (hx:aG ρ x=s) (hy:aG ρ y=.int k j) (h:RS T w s xs) (hz:sz=T.sz) (hT:0<T.sz) (h0:0<=j) (h1:j<xs.length) :
  PureV P ⟨dst,.indexAddr t x y,ty,pos,af,g⟩ ρ (.pointer (some (eX T s j.toNat))):=fun w=>by
 subst hz;obtain⟨p,cap,hs,iE⟩:=h.some hT om;have ga:∀ n,p.add n=⟨p.block,p.off+n,none⟩:=fun n=>by
  unfold Addr.add;split
  ·rename_i hn;subst hn;cases p;simp_all
  ·rfl
 simp[execOp,Instr.indexAt,hx,hy,asIntOf,run_underlying S.eU,hs,h0,h1,S.size,eX,tF,ga]
theorem qkz {e sz by_:Nat}{k:IntKind}{j:Nat} [S:Ah P t e sz by_] (hx:aG ρ x=s) (hy:aG ρ y=.int k j) (h:RS T w s xs) (hz:sz=T.sz) (hT:0<T.sz) (h1:j<xs.length) :
  PureV P ⟨dst,.indexAddr t x y,ty,pos,af,g⟩ ρ (.pointer (some (eX T s j))):=by
 have:=qja (P:=P) (t:=t) (w:=w) (dst:=dst) (ty:=ty) (pos:=pos) (af:=af) (g:=g) hx hy h hz hT (Int.natCast_nonneg j) om
 simpa using this
theorem sF {p:Addr}{v:Value} [C:An P t] (hx:aG ρ x=.pointer (some p)) (hv:w.cell? p=some v):ReadV P ⟨dst,.load t x,ty,pos,af,g⟩ ρ w v:=by
 simp[ReadV,execOp,Instr.loadAt,Instr.sureAddr,hx,loadVar,C.plain.1,hv]
theorem qjb {p:Addr}{n:Nat}{vs:List Value} [A:AH P t n] (hx:aG ρ x=.pointer (some p)) (hn:vs.length=n) (hv:∀ j v,vs[j]? = some v->w.cell? (p.add j)=some v):ReadV P ⟨dst,.load t x,ty,pos,af,g⟩ ρ w (.agg vs.toArray):=by
 subst hn;have:=run_loadCells_list (P:=P) (w:=w) p vs hv;simp[ReadV,execOp,Instr.loadAt,Instr.sureAddr,hx,loadVar,A.agg.1,A.agg.2,this]
theorem qgM (h:RS T w s xs) {i k:Nat}{v:Value}(hi:i<xs.length) (hk:k<T.sz) (hv:(T.enc (xs.getD i T.dflt))[k]? = some v):w.cell? ((eX T s i).add k)=some v:=by
 have h1:=h.1.cell (k:=i*T.sz+k) (v:=v) (by rw[T.get xs i k hi hk];exact hv);obtain⟨p,cap,hs,_⟩:=h.some om om;subst hs;unfold eX tF Addr.add at *
 split
 ·rename_i h0;subst h0;simpa using h1
 ·simpa [Nat.add_assoc] using h1
theorem qop (h:RS T w s xs) {i:Nat}{v:Value}(hi:i<xs.length) (hv:T.enc (xs.getD i T.dflt)=[v]):w.cell? (eX T s i)=some v:=by
 have eM:T.sz=1:=by rw[<-T.ok (xs.getD i T.dflt),hv];rfl
 have:=qgM h hi (k:=0) om (v:=v) (by rw[hv];rfl)
 simpa [Addr.add] using this
theorem zG {i:Nat}{v:Value} [C:An P t] (hx:aG ρ x=.pointer (some (eX T s i))) (h:RS T w s xs) (hi:i<xs.length) (hv:T.enc (xs.getD i T.dflt)=[v]):ReadV P ⟨dst,.load t x,ty,pos,af,g⟩ ρ w v :=
 sF hx (qop h hi hv)
theorem zH {i k:Nat}{v:Value} [C:An P t] (hx:aG ρ x=.pointer (some ((eX T s i).add k))) (h:RS T w s xs) (hi:i<xs.length) (hk:k<T.sz) (hv:(T.enc (xs.getD i T.dflt))[k]? = some v):ReadV P ⟨dst,.load t x,ty,pos,af,g⟩ ρ w v :=
 sF hx (qgM h hi hk hv)
theorem zI {i n:Nat} [A:AH P t n] (hx:aG ρ x=.pointer (some (eX T s i))) (h:RS T w s xs) (hi:i<xs.length) (hn:n=T.sz):ReadV P ⟨dst,.load t x,ty,pos,af,g⟩ ρ w (.agg (T.enc (xs.getD i T.dflt)).toArray) :=
 qjb hx (by rw[T.ok,hn]) fun j v hv=>qgM h hi (by rw[<-T.ok (xs.getD i T.dflt)];exact(List.getElem?_eq_some_iff.1 hv).1) hv
theorem jw {i k:Nat}{p:Addr}{bt:TypeId}{cells:List Value}{v:Value}(hw:Sat w0 w Γ) (hi:Γ[i]? = some (Ad p bt cells)) (hv:cells[k]? = some v):w.cell? (p.add k)=some v:=by
 obtain⟨h1,hs,ho,iE,hb⟩:=hw.at i hi;have:=cell_of_heap (hs _ _ hb).1 k;obtain⟨pb,po,psp⟩:=p;simp only at ho iE;subst ho iE;unfold Addr.add;split
 ·rename_i h0;subst h0;rw[this];exact hv
 ·simp only[Nat.zero_add];rw[this];exact hv
theorem zV {i:Nat}{p:Addr}{bt:TypeId}{cells:List Value}{v:Value}(hw:Sat w0 w Γ) (hi:Γ[i]? = some (Ad p bt cells)) (hv:cells[0]? = some v):w.cell? p=some v:=by
 have:=jw hw hi (k:=0) hv
 simpa [Addr.add] using this
theorem qkA {k:Nat}{p:Addr}{bt:TypeId}{cells:List Value}{v:Value}{put:HP->List HP} [C:An P t] (hx:aG ρ x=.pointer (some (p.add k))) (hw:Sat w0 w Γ) (B:AQ Γ p bt cells put) (hv:cells[k]? = some v):ReadV P ⟨dst,.load t x,ty,pos,af,g⟩ ρ w v:=by
 obtain⟨i,hi,_⟩:=B.j3.ok;exact sF hx (jw hw hi hv)
theorem qgN {p:Addr}{bt:TypeId}{cells:List Value}{v:Value}{put:HP->List HP} [C:An P t] (hx:aG ρ x=.pointer (some p)) (hw:Sat w0 w Γ) (B:AQ Γ p bt cells put) (hv:cells[0]? = some v):ReadV P ⟨dst,.load t x,ty,pos,af,g⟩ ρ w v:=by
 obtain⟨i,hi,_⟩:=B.j3.ok;exact sF hx (zV hw hi hv)
theorem qde {n:Nat}{p:Addr}{bt:TypeId}{cells:List Value}{put:HP->List HP} [A:AH P t n] (hx:aG ρ x=.pointer (some p)) (hw:Sat w0 w Γ) (B:AQ Γ p bt cells put) (hn:cells.length=n):ReadV P ⟨dst,.load t x,ty,pos,af,g⟩ ρ w (.agg cells.toArray):=by
 obtain⟨i,hi,_⟩:=B.j3.ok;exact qjb hx hn fun _ _ hv=>jw hw hi hv
theorem uB {b:Nat}{bt:TypeId}:∀ (vs:List Value) (off i:Nat) (cs:List Value) (w:World),(∀ v∈vs,v.oneCell'=true)->off+i+vs.length<=cs.length->w.heap[b]? = some (.cells cs.toArray bt (0,0)) ->
  (storeCells ⟨b,off,none⟩ vs i).run P w=.ok () (dq w b (.cells (cs.take (off+i)++vs++cs.drop (off+i+vs.length)).toArray bt (0,0)))
 | [],off,i,cs,w,_,_,hb=>by
  have:(dq w b (.cells (cs.take (off+i)++[]++cs.drop (off+i+0)).toArray bt (0,0)))=w:=by
   simp only[dq,append_nil,Nat.add_zero,take_append_drop];cases w;simp only[World.mk.injEq,and_true];apply Array.ext_getElem?;intro k;simp only at hb;by_cases hk:b=k
   ·subst hk;rw[Array.getElem?_setIfInBounds_self_of_lt (Array.getElem?_eq_some_iff.1 hb).1];exact hb.symm
   ·rw[Array.getElem?_setIfInBounds_ne hk]
  simp only[storeCells,Sem.run_pure,length_nil,this]
 | v::vs,off,i,cs,w,hv,hl,hb=>by
  have ga:(⟨b,off,none⟩:Addr).add i=⟨b,off+i,none⟩:=by unfold Addr.add;split<;>simp_all
  simp only[length_cons]at hl;have hc:w.cell? ⟨b,off+i,none⟩=some cs[off+i]:=by rw[cell_of_heap hb];exact getElem?_eq_getElem om
  have fN:w.setCell ⟨b,off+i,none⟩ v=dq w b (.cells (cs.set (off+i) v).toArray bt (0,0)):=by
   simp only[World.setCell,dq];congr 1;apply Array.ext_getElem?;intro k;have iH:=(Array.getElem?_eq_some_iff.1 hb).1;by_cases hk:b=k
   ·subst hk;rw[Array.getElem?_modify,if_pos rfl,hb,Array.getElem?_setIfInBounds_self_of_lt iH];simp
   ·rw[Array.getElem?_modify,if_neg hk,Array.getElem?_setIfInBounds_ne hk]
  simp only[storeCells,Sem.run_bind,ga,run_store P w _ v .plain (hv v (by simp)),hc,frozen_of_heap hb,Bool.false_eq_true,if_false,Result.andThen_ok,fN];have iH:=(Array.getElem?_eq_some_iff.1 hb).1;rw[uB (bt:=bt) vs off (i+1) (cs.set (off+i) v) _ (fun u hu=>hv u (by simp[hu])) (by simp;omega) (by simp[dq,iH])];congr 1;simp only[dq,Array.setIfInBounds_setIfInBounds];congr 4;have h1:(cs.set (off+i) v).take (off+(i+1))=cs.take (off+i)++[v]:=by
   rw[show off+(i+1)=off+i+1 from by omega,take_succ_eq_append_getElem (by simp;omega),take_set_of_le om];simp
  have h2:(cs.set (off+i) v).drop (off+(i+1)+vs.length)=cs.drop (off+i+(vs.length+1)):=by
   rw[drop_set_of_lt om];congr 1;omega
  rw[h1,h2];simp
theorem zk {p:Addr}{v:Value}{K:Value->World->Prop}(hx:aG ρ x=.pointer (some p)) (hy:aG ρ y=v) (eM:∀ w,(sizeOf t).run P w=.ok v.cells.size w) {w':World}(hr:(storeCells p v.cells.toList).run P w=.ok () w') (h:K undef w') :
  opW P ⟨none,.store t x y,ty,pos,af,none⟩ ρ w K:=by
 simp only[opW,execOp,hx,hy,Instr.storeAt,Instr.sureAddr,Sem.run_bind,Sem.run_pure,Result.andThen_ok,storeVar,eM,ne_eq,not_true,if_false,hr,bC];exact h
theorem qno {k:Nat}{p:Addr}{bt:TypeId}{cells:List Value}{v:Value}{put:HP->List HP} [C:An P t] (hx:aG ρ x=.pointer (some (p.add k))) (hy:aG ρ y=v) (hv:v.oneCell'=true) (hw:Sat w0 w Γ) (B:AQ Γ p bt cells put) (hk:k<cells.length)
  (h:∀ w',Sat w0 w' (put (Ad p bt (cells.set k v)))->opsW P ops K r ρ w'):opsW P ops K (⟨none,.store t x y,ty,pos,af,none⟩::r) ρ w:=by
 refine jr rfl ?_;obtain⟨i,hi,cO⟩:=B.j3.ok;simp only[cO]at h;obtain⟨h1,hs,ho,iE,hb⟩:=hw.at i hi;obtain⟨pb,po,psp⟩:=p;simp only at ho iE hb;subst ho iE;have ga:(⟨pb,0,none⟩:Addr).add k=⟨pb,k,none⟩:=by unfold Addr.add;split<;>simp_all
 rw[ga]at hx;have hc:v.cells=#[v]:=by cases v<;>first|rfl|(simp[Value.oneCell']at hv)
 refine zk hx hy (fun w=>by rw[hc];exact C.plain.2 w) (w':=dq w pb (.cells (cells.set k v).toArray bt (0,0))) ?_ ?_
 ·rw[hc]
  have:=uB (P:=P) (b:=pb) [v] k 0 cells w (by simpa using hv) (by simp;omega) (hs _ _ hb).1;rw[show #[v].toList=[v] from rfl,this];congr 4;simp only[Nat.add_zero,length_cons,length_nil,Nat.zero_add];rw[set_eq_take_append_cons_drop];simp[hk]
 ·refine h _ ((Sat.put (hw.focus i hi) fun h1 _ ⟨_,_,hb⟩=>⟨⟨_,hb⟩,rfl,rfl,by simp[kh]⟩).back i hi)
theorem qqR {k:Nat}{p:Addr}{bt:TypeId}{cells:List Value}{v:Value}{put:HP->List HP} [C:An P t] (hx:aG ρ x=.pointer (some (p.add k))) (hy:aG ρ y=v) (hv:v.oneCell'=true) (hw:Sat w0 w Γ) (B:AQ Γ p bt cells put) (hk:k<cells.length)
  (h:∀ w',Sat w0 w' (put (Ad p bt (cells.set k v)))->Kept w w'->opsW P ops K r ρ w'):opsW P ops K (⟨none,.store t x y,ty,pos,af,none⟩::r) ρ w:=by
 refine jr rfl ?_;obtain⟨i,hi,cO⟩:=B.j3.ok;simp only[cO]at h;obtain⟨h1,hs,ho,iE,hb⟩:=hw.at i hi;obtain⟨pb,po,psp⟩:=p;simp only at ho iE hb;subst ho iE;have ga:(⟨pb,0,none⟩:Addr).add k=⟨pb,k,none⟩:=by unfold Addr.add;split<;>simp_all
 rw[ga]at hx;have hc:v.cells=#[v]:=by cases v<;>first|rfl|(simp[Value.oneCell']at hv)
 refine zk hx hy (fun w=>by rw[hc];exact C.plain.2 w) (w':=dq w pb (.cells (cells.set k v).toArray bt (0,0))) ?_ ?_
 ·rw[hc]
  have:=uB (P:=P) (b:=pb) [v] k 0 cells w (by simpa using hv) (by simp;omega) (hs _ _ hb).1;rw[show #[v].toList=[v] from rfl,this];congr 4;simp only[Nat.add_zero,length_cons,length_nil,Nat.zero_add];rw[set_eq_take_append_cons_drop];simp[hk]
 ·refine h _ ((Sat.put (hw.focus i hi) fun h1 _ ⟨_,_,hb⟩=>⟨⟨_,hb⟩,rfl,rfl,by simp[kh]⟩).back i hi) (qku (hs _ _ hb).1)
theorem qvx {p:Addr}{bt:TypeId}{cells:List Value}{v:Value}{put:HP->List HP} [C:An P t] (hx:aG ρ x=.pointer (some p)) (hy:aG ρ y=v) (hv:v.oneCell'=true) (hw:Sat w0 w Γ) (B:AQ Γ p bt cells put) (hk:0<cells.length)
  (h:∀ w',Sat w0 w' (put (Ad p bt (cells.set 0 v)))->opsW P ops K r ρ w'):opsW P ops K (⟨none,.store t x y,ty,pos,af,none⟩::r) ρ w :=
 qno (k:=0) (by simpa [Addr.add] using hx) hy hv hw B hk h
theorem gZ {n:Nat}{p:Addr}{bt:TypeId}{cells vs:List Value}{put:HP->List HP} [A:AH P t n] (hx:aG ρ x=.pointer (some p)) (hy:aG ρ y=.agg vs.toArray) (hw:Sat w0 w Γ) (B:AQ Γ p bt cells put) (hn:vs.length=n) (hl:cells.length=n) (hv:vs.all Value.oneCell'=true)
  (h:∀ w',Sat w0 w' (put (Ad p bt vs))->opsW P ops K r ρ w'):opsW P ops K (⟨none,.store t x y,ty,pos,af,none⟩::r) ρ w:=by
 refine jr rfl ?_;obtain⟨i,hi,cO⟩:=B.j3.ok;simp only[cO]at h;obtain⟨h1,hs,ho,iE,hb⟩:=hw.at i hi;obtain⟨pb,po,psp⟩:=p;simp only at ho iE hb;subst ho iE;refine zk hx hy (fun w=>by rw[A.agg.2];simp[Value.cells,hn]) (w':=dq w pb (.cells vs.toArray bt (0,0))) ?_ ?_
 ·have:=uB (P:=P) (b:=pb) vs 0 0 cells w (by simpa using hv) (by simp;omega) (hs _ _ hb).1
  simp only[Value.cells];rw[this];congr 4;simp only[Nat.add_zero,Nat.zero_add,take_zero,nil_append];rw[drop_eq_nil_of_le om,append_nil]
 ·exact h _ ((Sat.put (hw.focus i hi) fun h1 _ ⟨_,_,hb⟩=>⟨⟨_,hb⟩,rfl,rfl,by simp[kh]⟩).back i hi)
theorem qtd {zs:List Value} [Z:Ai P t zs] (hw:Sat w0 w Γ) (h:∀ p w',Sat w0 w' (Ad p t zs::Γ)->opsW P ops K r (dD ρ d (.pointer (some p))) w'):opsW P ops K (⟨some d,.alloc t,ty,pos,af,none⟩::r) ρ w:=by
 refine jr rfl ?_;obtain⟨v,hv,hz⟩:=Z.zero;simp only[opW,execOp,Instr.alloc,Sem.run_bind,hz,Result.andThen_ok,newVar,newRow,run_newObj,Sem.run_pure,bC,hv];exact h ⟨w.heap.size,0,none⟩ _ (hw.push (o:=.cells zs.toArray t) ⟨rfl,rfl,by simp⟩)
theorem qkB {v:Value}(hx:aG ρ x=v) (hw:Sat w0 w Γ) (h:∀ p w',Sat w0 w' (Ad p t v.cells.toList::Γ)->opsW P ops K r (dD ρ d (.pointer (some p))) w'):opsW P ops K (⟨some d,.box t x,ty,pos,af,none⟩::r) ρ w:=by
 refine jr rfl ?_;simp only[opW,execOp,Instr.box,Sem.run_bind,Result.andThen_ok,newVar,newRow,run_newObj,Sem.run_pure,bC,hx];exact h ⟨w.heap.size,0,none⟩ _ (hw.push (o:=.cells v.cells t) ⟨rfl,rfl,by simp⟩)
theorem qlO {i j k:Nat}{e:TypeId}{v:Value}{x':α}(hv:v.oneCell'=true) (hw:Sat w0 w Γ) (hi:Γ[i]? = some (OS T e s xs)) (hj:j<xs.length) (hk:k<T.sz) (he:T.enc x'=(T.enc (xs.getD j T.dflt)).set k v) :
  ∃ w',(storeCells ((eX T s j).add k) [v]).run P w=.ok () w'/\Sat w0 w' (Γ.set i (OS T e s (xs.set j x')))/\Kept w w':=by
 obtain⟨h1,hs,ho,hl⟩:=hw.at i hi;have hlen:=T.len xs;rcases ho with ⟨rfl,ew⟩|⟨b,off,n,cap,pre,post,rfl,aN,eW,kg,eZ,iP,hb⟩
 ·simp only[cW]at hl;omega
 ·have zj:j*T.sz+k<(xs.flatMap T.enc).length:=by
   rw[hlen];have:(j+1)*T.sz<=xs.length*T.sz:=mul_le_mul_right _ hj;rw[Nat.add_mul]at this;omega
  have ga:(eX T (.slice (some ⟨b,off,none⟩) n cap) j).add k=⟨b,off+(j*T.sz+k),none⟩:=by
   unfold eX tF Addr.add;split
   ·rename_i h0;subst h0;simp
   ·simp[Nat.add_assoc]
  rw[ga];have fZ:((pre++xs.flatMap T.enc++post).take (off+(j*T.sz+k)+0)++[v]++(pre++xs.flatMap T.enc++post).drop (off+(j*T.sz+k)+0+1))=pre++(xs.set j x').flatMap T.enc++post:=by
   rw[<-T.set xs j k v x' hj hk he];have h2:(pre++xs.flatMap T.enc++post).set (off+(j*T.sz+k)) v=pre++(xs.flatMap T.enc).set (j*T.sz+k) v++post:=by
    rw[append_assoc,set_append_right _ _ om,set_append_left _ _ om,show off+(j*T.sz+k)-pre.length=j*T.sz+k from by omega,append_assoc]
   rw[<-h2,set_eq_take_append_cons_drop,if_pos (by simp only[length_append];omega)];simp
  refine⟨dq w b (.cells (pre++(xs.set j x').flatMap T.enc++post).toArray e (0,0)),?_,?_,qku (hs b _ hb).1⟩
  ·rw[uB (b:=b) (bt:=e) [v] _ 0 _ w (by simpa using hv) (by simp only[length_append,length_cons,length_nil];omega) (hs b _ hb).1]
   rw[<-fZ];rfl
  ·have kD:=T.len (xs.set j x')
   refine(Sat.put (hw.focus i hi) fun g hg ⟨lM,rS⟩=>?_).back i hi;rcases lM with ⟨hn,_⟩|⟨b',off',n',cap',pre',post',ig,mK,rC,rD,mL,rE,eY⟩
   ·cases hn
   ·cases ig
    refine⟨⟨_,eY⟩,.inr ⟨b,off,n,cap,pre,post,rfl,aN,by rw[kD,length_set,<-hlen,eW],kg,eZ,iP,by simp[kh]⟩,by rw[length_set];exact hl⟩
theorem qvy {j:Nat}{e:TypeId}{v:Value}{x':α}{put:HP->List HP} [C:An P t] (hx:aG ρ x=.pointer (some (eX T s j))) (hy:aG ρ y=v) (hv:v.oneCell'=true) (hw:Sat w0 w Γ) (O:AT Γ s α T e xs put) (hj:j<xs.length) (he:T.enc x'=[v])
  (h:∀ w',Sat w0 w' (put (OS T e s (xs.set j x')))->opsW P ops K r ρ w'):opsW P ops K (⟨none,.store t x y,ty,pos,af,none⟩::r) ρ w:=by
 refine jr rfl ?_;obtain⟨i,hi,cO⟩:=O.j3.ok;simp only[cO]at h;have eM:T.sz=1:=by rw[<-T.ok x',he];rfl
 have hc:v.cells=#[v]:=by cases v<;>first|rfl|(simp[Value.oneCell']at hv)
 have h1:T.enc x'=(T.enc (xs.getD j T.dflt)).set 0 v:=by
  rw[he];have:=T.ok (xs.getD j T.dflt);rw[eM]at this
  match h2:T.enc (xs.getD j T.dflt),this with
  | [u],_=>rfl
 obtain⟨w',hr,hs,rY⟩:=qlO (P:=P) (k:=0) hv hw hi hj om h1;exact zk hx hy (fun w=>by rw[hc];exact C.plain.2 w) (by rw[hc];simpa [Addr.add] using hr) (h _ hs)
theorem qte {j:Nat}{e:TypeId}{v:Value}{x':α}{put:HP->List HP} [C:An P t] (hx:aG ρ x=.pointer (some (eX T s j))) (hy:aG ρ y=v) (hv:v.oneCell'=true) (hw:Sat w0 w Γ) (O:AT Γ s α T e xs put) (hj:j<xs.length) (he:T.enc x'=[v])
  (h:∀ w',Sat w0 w' (put (OS T e s (xs.set j x')))->Kept w w'->opsW P ops K r ρ w'):opsW P ops K (⟨none,.store t x y,ty,pos,af,none⟩::r) ρ w:=by
 refine jr rfl ?_;obtain⟨i,hi,cO⟩:=O.j3.ok;simp only[cO]at h;have eM:T.sz=1:=by rw[<-T.ok x',he];rfl
 have hc:v.cells=#[v]:=by cases v<;>first|rfl|(simp[Value.oneCell']at hv)
 have h1:T.enc x'=(T.enc (xs.getD j T.dflt)).set 0 v:=by
  rw[he];have:=T.ok (xs.getD j T.dflt);rw[eM]at this
  match h2:T.enc (xs.getD j T.dflt),this with
  | [u],_=>rfl
 obtain⟨w',hr,hs,rY⟩:=qlO (P:=P) (k:=0) hv hw hi hj om h1;exact zk hx hy (fun w=>by rw[hc];exact C.plain.2 w) (by rw[hc];simpa [Addr.add] using hr) (h _ hs rY)
theorem qkC {j k:Nat}{e:TypeId}{v:Value}{x':α}{put:HP->List HP} [C:An P t] (hx:aG ρ x=.pointer (some ((eX T s j).add k))) (hy:aG ρ y=v) (hv:v.oneCell'=true) (hw:Sat w0 w Γ) (O:AT Γ s α T e xs put) (hj:j<xs.length) (hk:k<T.sz) (he:T.enc x'=(T.enc (xs.getD j T.dflt)).set k v)
  (h:∀ w',Sat w0 w' (put (OS T e s (xs.set j x')))->opsW P ops K r ρ w'):opsW P ops K (⟨none,.store t x y,ty,pos,af,none⟩::r) ρ w:=by
 refine jr rfl ?_;obtain⟨i,hi,cO⟩:=O.j3.ok;simp only[cO]at h;have hc:v.cells=#[v]:=by cases v<;>first|rfl|(simp[Value.oneCell']at hv)
 obtain⟨w',hr,hs,rY⟩:=qlO (P:=P) hv hw hi hj hk he;exact zk hx hy (fun w=>by rw[hc];exact C.plain.2 w) (by rw[hc];exact hr) (h _ hs)
end
end
end
section
open Go.RowKit (Below)
section
variable {P:Program}{Q:Exit->Fr->World->Prop}{ρ:Fr}{w w0:World}{Γ:List HP}
theorem rU {a b:Code}(h:vc P a (Thn (vc P b Q) Q) ρ w):vc P (.seq a b) Q ρ w:=h
theorem qir (h:Q .normal ρ w):vc P .skip Q ρ w:=h
theorem qis {i:Nat}(h:Q (.exit i) ρ w):vc P (.exit i) Q ρ w:=h
theorem qmK (h:Q .ret ρ w):vc P .ret Q ρ w:=h
theorem zM {i:Nat}{c:Code}(h:vc P c (Blk i Q) ρ w):vc P (.block i c) Q ρ w:=h
theorem quY {c:Operand}{x y:Code}{t:Bool}(hc:aG ρ c=.bool t) (h1:t=true->vc P x Q ρ w) (h0:t=false->vc P y Q ρ w):vc P (.cond c x y) Q ρ w:=⟨t,hc,h1,h0⟩
theorem qsw {c:Operand}{x y:Code}(hc:aG ρ c=.bool true) (h1:vc P x Q ρ w):vc P (.cond c x y) Q ρ w:=⟨true,hc,fun _=>h1,fun h=>by cases h⟩
theorem qsx {c:Operand}{x y:Code}(hc:aG ρ c=.bool false) (h1:vc P y Q ρ w):vc P (.cond c x y) Q ρ w:=⟨false,hc,fun h=>(by cases h),fun _=>h1⟩
theorem qu {i:Nat}{l:List Oper}(h:opsW P l.toArray (Q .normal) l ρ w):vc P (.region i l.toArray false) Q ρ w:=h
theorem quZ {i:Nat}{l:List Oper}(hw:Sat w0 w Γ) (hc:my P l.toArray=true) (h:∀ w',Sat w0 w' Γ->opsW P l.toArray (Q .normal) l ρ w'):vc P (.region i l.toArray true) Q ρ w :=
 .inl ⟨hc,h _ hw.drew⟩
def pl:List Nat->List Item->List Item
 | [],l=>l
 | n::a,l=>.op n::pl a l
def PT.s:List Nat->PT->PT
 | [],t=>t
 | n::a,t=>.step n [.op n] (PT.s a t)
def PT.c (n:Nat) (l:List Nat) (t:PT):PT:=.step n (.op n::l.map .chk) t
def PT.d (n:Nat) (l:List Nat) (t m:PT):PT:=.alt n (.op n::l.map .chk) t m
theorem fP {i:Nat}{l:List Oper}(is:List Item) (hw:Sat w0 w Γ) (hc:lI P l.toArray is=true) (h:∀ w',Sat w0 w' Γ->opsD P l.toArray (Q .normal) is ρ w'):vc P (.region i l.toArray true) Q ρ w :=
 .inr (.inl ⟨is,hc,h _ hw.drew⟩)
theorem qeV {i:Nat}{l:List Oper}(T:PT) (hw:Sat w0 w Γ) (hb:oJ P l.toArray=true) (hc:gm P l.toArray [] [] T=true) (h:∀ w',Sat w0 w' Γ->gP P l.toArray (Q .normal) T ρ w'):vc P (.region i l.toArray true) Q ρ w :=
 .inr (.inr ⟨T,hb,hc,h _ hw.drew⟩)
theorem qfI {ops:Array Oper}{K:Fr->World->Prop}{is:List Item}(h:opsD P ops K is ρ w):gP P ops K (.lin is) ρ w:=h
theorem qeo {ops:Array Oper}{K:Fr->World->Prop}{i:Nat}{is:List Item}{t:PT}(h:opsD P ops (gP P ops K t) is ρ w):gP P ops K (.step i is t) ρ w:=h
theorem jz {ops:Array Oper}{K:Fr->World->Prop}{i:Nat}{is:List Item}{t m:PT}(h:opsD P ops (gP P ops K t) is ρ w) (hm:gP P ops K m ρ w):gP P ops K (.alt i is t m) ρ w:=⟨h,hm⟩
theorem pU {ops:Array Oper}{K:Fr->World->Prop}:gP P ops K .stop ρ w:=trivial
theorem qep {ops:Array Oper}{K:Fr->World->Prop}(h:K ρ w):opsD P ops K [] ρ w:=h
theorem xN {l:List Oper}{K:Fr->World->Prop}{i:Nat}{r:List Item}{o:Oper}(h:opsW P l.toArray (opsD P l.toArray K r) [o] ρ w) (ho:l[i]? = some o:=by exact rfl):opsD P l.toArray K (.op i::r) ρ w:=by
 have:(l.toArray)[i]? = some o:=by simpa using ho
 simp only[opsD,this];exact h
theorem qsy {l:List Oper}{K:Fr->World->Prop}{i:Nat}{r:List Item}{d:Nat}{op:Op}{ty:TypeId}{pos:String}{af:Array Edge}{v:Value}(ho:l[i]? = some ⟨some d,op,ty,pos,af,none⟩) (hv:ReadV P ⟨some d,op,ty,pos,af,none⟩ ρ w v) (he:ρ d=v) (h:opsD P l.toArray K r ρ w):opsD P l.toArray K (.chk i::r) ρ w:=by
 have:(l.toArray)[i]? = some ⟨some d,op,ty,pos,af,none⟩:=by simpa using ho
 simp only[opsD,this];refine⟨fun d' hd=>?_,h⟩;cases hd;rw[he];exact hv
theorem qgg {l:List Oper}{K:Fr->World->Prop}{i:Nat}{r:List Item}{d:Nat}{op:Op}{ty:TypeId}{pos:String}{af:Array Edge}{v:Value}{j:Nat}{want:Bool}(ho:l[i]? = some ⟨some d,op,ty,pos,af,some (j,want)⟩)
  (hv:eo l.toArray ρ (j,want)=true->ReadV P ⟨some d,op,ty,pos,af,none⟩ ρ w v/\ρ d=v) (h:opsD P l.toArray K r ρ w):opsD P l.toArray K (.chk i::r) ρ w:=by
 have:(l.toArray)[i]? = some ⟨some d,op,ty,pos,af,some (j,want)⟩:=by simpa using ho
 simp only[opsD,this];refine⟨fun hg d' hd=>?_,h⟩;cases hd;obtain⟨h1,h2⟩:=hv hg;rw[h2];exact h1
theorem zK {N:Fr->World->Prop}(h:N ρ w):Thn N Q .normal ρ w:=h
theorem qfJ {N:Fr->World->Prop}{i:Nat}(h:Q (.exit i) ρ w):Thn N Q (.exit i) ρ w:=h
theorem qit {N:Fr->World->Prop}(h:Q .ret ρ w):Thn N Q .ret ρ w:=h
theorem qdv {i:Nat}(h:Q .normal ρ w):Blk i Q .normal ρ w:=h
theorem qiu {i:Nat}(h:Q .ret ρ w):Blk i Q .ret ρ w:=h
theorem qfK {i:Nat}(h:Q .normal ρ w):Blk i Q (.exit i) ρ w:=by simp only[Blk,if_true];exact h
theorem qlr {i j:Nat}(cY:Nat.beq i j=false) (h:Q (.exit i) ρ w):Blk j Q (.exit i) ρ w:=by
 have:i≠j:=fun e=>by subst e;simp at cY
 simp only[Blk,if_neg this];exact h
def el:List Nat->Nat->Bool
 | a::b::l,t=>(ble a t && ble t b) || el l t
 | _,_=>false
def elr (a b:Nat):List Nat->Bool
 | c::d::l=>(ble c a && ble b d) || elr a b l
 | _=>false
def els:List Nat->List Nat->Bool
 | a::b::l,W=>elr a b W && els l W
 | _,_=>true
theorem qtU {a b t:Nat}(h1:ble a t=true) (h2:ble t b=true):∀ {W:List Nat},elr a b W=true->el W t=true
 | [],h=>by cases h
 | [_],h=>by cases h
 | c::d::l,h=>by
  simp only[elr,Bool.or_eq_true,Bool.and_eq_true]at h;simp only[el,Bool.or_eq_true,Bool.and_eq_true];rcases h with ⟨x,y⟩|h
  ·exact .inl ⟨ble_eq_true_of_le (Nat.le_trans (le_of_ble_eq_true x) (le_of_ble_eq_true h1)),ble_eq_true_of_le (Nat.le_trans (le_of_ble_eq_true h2) (le_of_ble_eq_true y))⟩
  ·exact .inr (qtU h1 h2 h)
theorem qtV {t:Nat}{W:List Nat}:∀ {V:List Nat},els V W=true->el V t=true->el W t=true
 | [],_,h=>by cases h
 | [_],_,h=>by cases h
 | a::b::l,hs,h=>by
  simp only[els,Bool.and_eq_true]at hs;simp only[el,Bool.or_eq_true,Bool.and_eq_true]at h;rcases h with ⟨x,y⟩|h
  ·exact qtU x y hs.1
  ·exact qtV hs.2 h
def mix (W:List Nat) (σ ρ:Fr):Fr:=fun t=>bif el W t then σ t else ρ t
def nB (ρ:Fr):List (Nat × Value)->Fr
 | []=>ρ
 | (d,v)::l=>dD (nB ρ l) d v
def AY (W:List Nat) (ρ ρ0:Fr):Prop:=∀ t,el W t=false->ρ t=ρ0 t
def Holds (ρ:Fr):List (Nat × Value)->Prop
 | []=>True
 | (d,v)::l=>ρ d=v/\Holds ρ l
theorem qhC {W:List Nat}:AY W ρ ρ:=fun _ _=>rfl
theorem qjX {W:List Nat}{ρ0:Fr}{d:Nat}{v:Value}(hd:el W d=true) (h:AY W ρ ρ0):AY W (dD ρ d v) ρ0:=by
 intro t ht;have:Nat.beq t d=false:=by
  cases hb:Nat.beq t d with
  | false=>rfl
  | true=>have:=eq_of_beq_eq_true hb;subst this;rw[hd]at ht;cases ht
 simp only[dD,this,cond_false];exact h t ht
theorem qpK {W W':List Nat}{σ ρ0:Fr}(hs:els W' W=true) (h:AY W ρ ρ0):AY W (mix W' σ ρ) ρ0:=by
 intro t ht;have:el W' t=false:=by
  cases hb:el W' t with
  | false=>rfl
  | true=>rw[qtV hs hb]at ht;cases ht
 simp only[mix,this,cond_false];exact h t ht
theorem qhD {W:List Nat}{ρ0:Fr}:∀ {l:List (Nat × Value)},l.all (fun p=>el W p.1)=true->AY W ρ ρ0->AY W (nB ρ l) ρ0
 | [],_,h=>h
 | (d,v)::l,hs,h=>by
  simp only[all_cons,Bool.and_eq_true]at hs;exact qjX hs.1 (qhD hs.2 h)
theorem qmL {W:List Nat}{ρ0:Fr}:∀ {l:List (Nat × Value)},Holds ρ l->AY W ρ ρ0->l.all (fun p=>el W p.1)=true->nB (mix W ρ ρ0) l=ρ:=by
 intro l hl ha hs;have h0:mix W ρ ρ0=ρ:=by
  funext t
  simp only[mix]
  cases hb:el W t with
  | true=>rfl
  | false=>exact(ha t hb).symm
 rw[h0];clear hs h0 ha
 induction l with
 | nil=>rfl
 | cons p l ih =>
  obtain⟨d,v⟩:=p;simp only[nB,ih hl.2]
  funext t
  simp only[dD]
  cases hb:Nat.beq t d with
  | false=>rfl
  | true=>have:=eq_of_beq_eq_true hb;subst this;exact hl.1.symm
theorem cd {c:Code}(W:List Nat) {G:Type}(V:G->List (Nat × Value)) (J:G->World->Prop) (μ:G->Nat) (g0:G)
  (hV:∀ g,(V g).all (fun p=>el W p.1)=true) (h0:Holds ρ (V g0)) (hj:J g0 w)
  (hr:∀ σ g w,J g w->vc P c (Thn (fun ρ' w'=>∃ g',Holds ρ' (V g')/\AY W ρ' ρ/\J g' w'/\μ g'<μ g) Q) (nB (mix W σ ρ) (V g)) w):vc P (.loop c) Q ρ w:=by
 refine⟨fun m ρ' w'=>∃ g,μ g=m/\Holds ρ' (V g)/\AY W ρ' ρ/\J g w',⟨μ g0,g0,rfl,h0,qhC,hj⟩,?_⟩;rintro m ρ' w' ⟨g,rfl,hh,ha,hj⟩;have:=hr ρ' g w' hj;rw[qmL hh ha (hV g)]at this;refine gT this fun e ρ2 w2 hq=>?_
 cases e with
 | normal=>obtain⟨g',h1,h2,h3,h4⟩:=hq;exact⟨μ g',h4,g',rfl,h1,h2,h3⟩
 | _=>exact hq
where
 gT:∀ {c:Code}{Q Q':Exit->Fr->World->Prop}{ρ:Fr}{w:World},vc P c Q ρ w->(∀ e ρ w,Q e ρ w->Q' e ρ w)->vc P c Q' ρ w:=by
  intro c;have yK:∀ (ops:Array Oper) (l:List Oper) {K K':Fr->World->Prop},(∀ ρ w,K ρ w->K' ρ w)->∀ {ρ:Fr}{w:World},opsW P ops K l ρ w->opsW P ops K' l ρ w:=by
   intro ops l K K' hk
   induction l with
   | nil=>intro ρ w h;exact hk _ _ h
   | cons o r ih =>
    intro ρ w h;have hv:∀ {ρ w},opV P o ρ w (opsW P ops K r)->opV P o ρ w (opsW P ops K' r):=by
     intro ρ w h;unfold opV at *
     split at h
     ·obtain⟨v,h1,h2⟩:=h;exact⟨v,h1,ih h2⟩
     ·obtain⟨v,h1,h2⟩:=h;exact⟨v,h1,ih h2⟩
     ·exact qL (fun v w' hh=>ih hh) h
    simp only[opsW]at h ⊢;split
    ·rename_i hg;simp only[hg]at h;exact hv h
    ·rename_i g hg;simp only[hg]at h;exact⟨fun h1=>hv (h.1 h1),fun h1=>ih (h.2 h1)⟩
  induction c with
  | skip=>intro Q Q' ρ w h hq;exact hq _ _ _ h
  | label l=>intro Q Q' ρ w h hq;exact hq _ _ _ h
  | exit i=>intro Q Q' ρ w h hq;exact hq _ _ _ h
  | ret=>intro Q Q' ρ w h hq;exact hq _ _ _ h
  | seq a b iha ihb =>
   intro Q Q' ρ w h hq;refine iha (Q:=Thn (vc P b Q) Q) h fun e ρ w he=>?_
   cases e with
   | normal=>exact ihb he hq
   | _=>exact hq _ _ _ he
  | cond c x y ihx ihy =>
   intro Q Q' ρ w h hq;obtain⟨t,ht,h1,h0⟩:=h
   exact⟨t,ht,fun h=>ihx (h1 h) hq,fun h=>ihy (h0 h) hq⟩
  | block i c ih =>
   intro Q Q' ρ w h hq;refine ih (Q:=Blk i Q) h fun e ρ w he=>?_
   cases e with
   | exit j =>
    simp only[Blk]at he ⊢;split
    ·rename_i hj;rw[if_pos hj]at he;exact hq _ _ _ he
    ·rename_i hj;rw[if_neg hj]at he;exact hq _ _ _ he
   | _=>exact hq _ _ _ he
  | loop c ih =>
   intro Q Q' ρ w h hq;obtain⟨I,hm,hr⟩:=h;refine⟨I,hm,fun m ρ w hI=>ih (hr m ρ w hI) fun e ρ w he=>?_⟩
   cases e with
   | normal=>exact he
   | _=>exact hq _ _ _ he
  | region i ops draw =>
   intro Q Q' ρ w h hq
   cases draw with
   | false=>exact yK ops _ (fun ρ w h=>hq _ _ _ h) h
   | true =>
    have hD:∀ (is:List Item) {K K':Fr->World->Prop},(∀ ρ w,K ρ w->K' ρ w)->∀ {ρ:Fr}{w:World},opsD P ops K is ρ w->opsD P ops K' is ρ w:=by
     intro is K K' hk
     induction is with
     | nil=>intro ρ w h;exact hk _ _ h
     | cons x r ih =>
      intro ρ w h
      cases x with
      | op i =>
       simp only[opsD]at h ⊢;split
       ·rename_i o ho;rw[ho]at h;exact yK ops _ (fun ρ w h=>ih h) h
       ·rename_i ho;rw[ho]at h;exact h
      | chk i=>simp only[opsD]at h ⊢;exact⟨h.1,ih h.2⟩
    have hT:∀ (T:PT) {ρ:Fr}{w:World},gP P ops (Q .normal) T ρ w->gP P ops (Q' .normal) T ρ w:=by
     intro T
     induction T with
     | lin is=>intro ρ w h;exact hD is (fun ρ w h=>hq _ _ _ h) h
     | step i is t ih=>intro ρ w h;exact hD is (fun ρ w h=>ih h) h
     | alt i is t m ih ihm=>intro ρ w h;exact⟨hD is (fun ρ w h=>ih h) h.1,ihm h.2⟩
     | stop=>intro ρ w _;trivial
    rcases h with h|⟨is,hp,h⟩|⟨T,hb,ht,h⟩
    ·exact .inl ⟨h.1,yK ops _ (fun ρ w h=>hq _ _ _ h) h.2⟩
    ·exact .inr (.inl ⟨is,hp,hD is (fun ρ w h=>hq _ _ _ h) h⟩)
    ·exact .inr (.inr ⟨T,hb,ht,hT T h⟩)
  | _=>intro Q Q' ρ w h hq;exact h.elim
theorem gT {c:Code}{Q Q':Exit->Fr->World->Prop}{ρ:Fr}{w:World}(h:vc P c Q ρ w) (hq:∀ e ρ w,Q e ρ w->Q' e ρ w):vc P c Q' ρ w:=cd.gT h hq
theorem dj {c:Code}(W:List Nat) {G H:Type}(V:G->H->List (Nat × Value)) (J:G->H->World->Prop) (μ:G->H->Nat) (g0:G) (tr:H)
  (hV:∀ g h,(V g h).all (fun p=>el W p.1)=true) (h0:Holds ρ (V g0 tr)) (hj:J g0 tr w)
  (hr:∀ σ g h w,J g h w->vc P c (Thn (fun ρ' w'=>∃ g' h',Holds ρ' (V g' h')/\AY W ρ' ρ/\J g' h' w'/\μ g' h'<μ g h) Q) (nB (mix W σ ρ) (V g h)) w):vc P (.loop c) Q ρ w:=by
 refine cd W (G:=G × H) (fun x=>V x.1 x.2) (fun x=>J x.1 x.2) (fun x=>μ x.1 x.2) (g0,tr) (fun x=>hV _ _) h0 hj fun σ x w hx=>gT (hr σ x.1 x.2 w hx) fun e ρ w he=>?_
 cases e with
 | normal=>obtain⟨g',h',he⟩:=he;exact⟨(g',h'),he⟩
 | _=>exact he
theorem mB {c:Code}(W:List Nat) {G H I:Type}(V:G->H->I->List (Nat × Value)) (J:G->H->I->World->Prop) (μ:G->H->I->Nat) (g0:G) (tr:H) (i0:I)
  (hV:∀ g h i,(V g h i).all (fun p=>el W p.1)=true) (h0:Holds ρ (V g0 tr i0)) (hj:J g0 tr i0 w)
  (hr:∀ σ g h i w,J g h i w->vc P c (Thn (fun ρ' w'=>∃ g' h' i',Holds ρ' (V g' h' i')/\AY W ρ' ρ/\J g' h' i' w'/\μ g' h' i'<μ g h i) Q) (nB (mix W σ ρ) (V g h i)) w):vc P (.loop c) Q ρ w:=by
 refine cd W (G:=G × H × I) (fun x=>V x.1 x.2.1 x.2.2) (fun x=>J x.1 x.2.1 x.2.2) (fun x=>μ x.1 x.2.1 x.2.2) (g0,tr,i0) (fun x=>hV _ _ _) h0 hj fun σ x w hx=>gT (hr σ x.1 x.2.1 x.2.2 w hx) fun e ρ w he=>?_
 cases e with
 | normal=>obtain⟨g',h',i',he⟩:=he;exact⟨(g',h',i'),he⟩
 | _=>exact he
theorem qiv {c:Code}(W:List Nat) {G H I M:Type}(V:G->H->I->M->List (Nat × Value)) (J:G->H->I->M->World->Prop) (μ:G->H->I->M->Nat) (g0:G) (tr:H) (i0:I) (m0:M)
  (hV:∀ g h i m,(V g h i m).all (fun p=>el W p.1)=true) (h0:Holds ρ (V g0 tr i0 m0)) (hj:J g0 tr i0 m0 w)
  (hr:∀ σ g h i m w,J g h i m w->vc P c (Thn (fun ρ' w'=>∃ g' h' i' m',Holds ρ' (V g' h' i' m')/\AY W ρ' ρ/\J g' h' i' m' w'/\μ g' h' i' m'<μ g h i m) Q) (nB (mix W σ ρ) (V g h i m)) w):vc P (.loop c) Q ρ w:=by
 refine cd W (G:=G × H × I × M) (fun x=>V x.1 x.2.1 x.2.2.1 x.2.2.2) (fun x=>J x.1 x.2.1 x.2.2.1 x.2.2.2) (fun x=>μ x.1 x.2.1 x.2.2.1 x.2.2.2) (g0,tr,i0,m0) (fun x=>hV _ _ _ _) h0 hj fun σ x w hx=>gT (hr σ x.1 x.2.1 x.2.2.1 x.2.2.2 w hx) fun e ρ w he=>?_
 cases e with
 | normal=>obtain⟨g',h',i',m',he⟩:=he;exact⟨(g',h',i',m'),he⟩
 | _=>exact he
theorem rp {c:Code}{N:Fr->World->Prop}(W:List Nat) {G:Type}(V:G->List (Nat × Value)) (J:G->World->Prop) (hV:∀ g,(V g).all (fun p=>el W p.1)=true)
  (h1:vc P c (Thn (fun ρ' w'=>∃ g,Holds ρ' (V g)/\AY W ρ' ρ/\J g w') Q) ρ w) (h2:∀ σ g w,J g w->N (nB (mix W σ ρ) (V g)) w):vc P c (Thn N Q) ρ w:=by
 refine gT h1 fun e ρ' w' he=>?_
 cases e with
 | normal =>
  obtain⟨g,hh,ha,hj⟩:=he;have:=h2 ρ' g w' hj;rw[qmL hh ha (hV g)]at this
  exact this
 | _=>exact he
theorem qsz {f:FuncId}{fn:Func}{c:Code}(hf:P.funcs[f]? = some fn) (hn:(fn.name == "runtime.NumGoroutine") = false) (hb : fn.body = some c) (args : Array Value) (w : World) : (callFunc f args).run P w = .ok (.enter f args) w := by
 exact Go.MuLone.run_callFunc_enter hf hn hb args w
def xp (P:Program) (f:Nat):Bool:=match P.funcs[f]? with|some fn => !(fn.name == "runtime.NumGoroutine") && fn.body.isSome | none => false
class Ae (P:Program) (f:Nat):Prop where
 ok:xp P f=true
theorem Ae.run {f:Nat}(h:Ae P f) (args:Array Value) (w:World):(callFunc f args).run P w=.ok (.enter f args) w:=by
 have h:=h.ok;simp only[xp]at h;split at h
 ·rename_i fn hf
  simp only[Bool.and_eq_true,Bool.not_eq_true',Option.isSome_iff_exists]at h;obtain⟨hn,c,hb⟩:=h;exact qsz hf hn hb args w
 ·cases h
section
variable {ops:Array Oper}{K:Fr->World->Prop}{r:List Oper}{d:Nat}{ty:TypeId}{pos:String}{af:Array Edge}
theorem aJ {f:Nat}{xs:List Operand}{ts:Array TypeId}{vs:List Value}{R:Ending->World->Prop} [C:Ae P f] (hx:xs.map (aG ρ)=vs) (hc:Calls P f vs.toArray w R)
  (h:∀ e w',R e w'->∃ v,e=.returned v/\opsW P ops K r (dD ρ d v) w'):opsW P ops K (⟨some d,.call { callee:=.value (.func f),args:=xs.toArray,argTypes:=ts },ty,pos,af,none⟩::r) ρ w:=by
 refine jr rfl ?_;have hr:(execOp (aG ρ) ⟨some d,.call { callee:=.value (.func f),args:=xs.toArray,argTypes:=ts },ty,pos,af,none⟩).run P w=.ok (.enter f vs.toArray) w:=by
  simp only[execOp,resolve,Deferred.ofValue,aG,Sem.run_bind,Sem.run_pure,Result.andThen_ok,invoke];have:#[]++Array.map (aG ρ) xs.toArray++#[]=vs.toArray:=by simp[hx]
  rw[this,C.run]
 simp only[opW,hr,bC];refine Calls.mono hc fun e w' hR=>?_;obtain⟨v,rfl,hk⟩:=h e w' hR;exact hk
theorem xq {f:Nat}{x:Operand}{xs:List Operand}{ts:Array TypeId}{vs cs:List Value}{R:Ending->World->Prop}{dst:Option Nat} [C:Ae P f] (hf:aG ρ x=.func (.func f) #[] cs.toArray) (hx:xs.map (aG ρ)=vs) (hc:Calls P f (vs++cs).toArray w R)
  (h:∀ e w',R e w'->∃ v,e=.returned v/\opsW P ops K r (fh ρ dst v) w'):opsW P ops K (⟨dst,.call { callee:=.value x,args:=xs.toArray,argTypes:=ts },ty,pos,af,none⟩::r) ρ w:=by
 refine jr rfl ?_;have hr:(execOp (aG ρ) ⟨dst,.call { callee:=.value x,args:=xs.toArray,argTypes:=ts },ty,pos,af,none⟩).run P w=.ok (.enter f (vs++cs).toArray) w:=by
  simp only[execOp,resolve,Sem.run_bind,hf,Deferred.ofValue,Sem.run_pure,Result.andThen_ok,invoke];have:#[]++Array.map (aG ρ) xs.toArray++cs.toArray=(vs++cs).toArray:=by simp[hx]
  rw[this,C.run]
 simp only[opW,hr,bC];refine Calls.mono hc fun e w' hR=>?_;obtain⟨v,rfl,hk⟩:=h e w' hR;exact hk
end
theorem aW {fn:Func}{R:Value->World->Prop}{s:Nat}{v:Value}(hr:fn.results=#[.tmp s]) (hv:ρ s=v) (h:R v w):jD P fn R .ret ρ w :=
 ⟨v,fun a ha=>by
  have h1:a.tmps.getD s undef=v:=by rw[<-hv,<-ha];rfl
  simp only[results,hr,mapM_toArray,mapM_cons,mapM_nil,h1,bind_pure_comp,map_pure]
  rfl,h⟩
theorem dz {fn:Func}{R:Value->World->Prop}{s s':Nat}{v v':Value}(hr:fn.results=#[.tmp s,.tmp s']) (hv:ρ s=v) (iD:ρ s'=v') (h:R (.tuple #[v,v']) w):jD P fn R .ret ρ w :=
 ⟨.tuple #[v,v'],fun a ha=>by
  have h1:a.tmps.getD s undef=v:=by rw[<-hv,<-ha];rfl
  have h2:a.tmps.getD s' undef=v':=by rw[<-iD,<-ha];rfl
  simp only[results,hr,mapM_toArray,mapM_cons,mapM_nil,h1,h2,bind_pure_comp,map_pure]
  rfl,h⟩
theorem qiw {fn:Func}{R:Value->World->Prop}(hr:fn.results=#[]) (h:R (.tuple #[]) w):jD P fn R .ret ρ w :=
 ⟨.tuple #[],fun a ha=>by simp[results,hr],h⟩
theorem o7 {fn:Func}{R:Value->World->Prop}(hr:fn.results=#[]) (h:R (.tuple #[]) w):jD P fn R .normal ρ w:=qiw (P:=P) hr h
end
def xz (P:Program) (t:Nat):Bool:=match P.underlying t with|some .bool=>true|_=>false
class Ct (P:Program) (t:Nat):Prop where
 ok:xz P t=true
section
variable {P:Program}
theorem Ct.eU {t:Nat}(h:Ct P t):P.underlying t=some .bool:=by
 have h:=h.ok;unfold xz at h;split at h
 ·assumption
 ·cases h
section
variable {ops:Array Oper}{K:Fr->World->Prop}{r:List Oper}{ρ:Fr}{w w0:World}{d:Nat}{ty:TypeId}{pos:String}{af:Array Edge}{g:Option (Nat × Bool)}{dst:Option Nat}{x y z:Operand}{t t':TypeId}{Γ:List HP}
theorem qqd {a b:Bool} [B:Ct P t] (hx:aG ρ x=.bool a) (hy:aG ρ y=.bool b):PureV P ⟨dst,.binOp .eql t x y t',ty,pos,af,g⟩ ρ (.bool (a == b)):=fun w=>by
 simp[execOp,eqGuard,hx,hy,run_eql_bool w t a b B.eU]
theorem qqe {a b:Bool} [B:Ct P t] (hx:aG ρ x=.bool a) (hy:aG ρ y=.bool b):PureV P ⟨dst,.binOp .neq t x y t',ty,pos,af,g⟩ ρ (.bool (!(a == b))):=fun w=>by
 simp[execOp,eqGuard,hx,hy,run_neq_bool w t a b B.eU]
theorem qgt {v:Value} [Q:AE P t] (hx:aG ρ x=.iface t v):PureV P ⟨dst,.typeAssert x t' t true,ty,pos,af,g⟩ ρ (.tuple #[v,.bool true]):=fun w=>by
 obtain⟨dd,hd,hn⟩:=Q.eU;simp only[execOp,Instr.typeAssert,Sem.run_bind,run_underlying hd,Result.andThen_ok,hx];cases dd<;>first|exact absurd rfl (hn _)|simp
theorem qj8 {v:Value} [Q:AE P t] (hx:aG ρ x=.iface t v):PureV P ⟨dst,.typeAssert x t' t false,ty,pos,af,g⟩ ρ v:=fun w=>by
 obtain⟨dd,hd,hn⟩:=Q.eU;simp only[execOp,Instr.typeAssert,Sem.run_bind,run_underlying hd,Result.andThen_ok,hx];cases dd<;>first|exact absurd rfl (hn _)|simp
theorem qgu {f:FuncId}{xs:List Operand}{vs:List Value}(hx:xs.map (aG ρ)=vs):PureV P ⟨dst,.makeFunc (.func f) #[] xs.toArray,ty,pos,af,g⟩ ρ (.func (.func f) #[] vs.toArray):=fun w=>by
 simp[execOp,Instr.makeFunc,<-hx]
theorem qt4 {k:IntKind}{a b:Int}(hx:aG ρ x=.int k a) (hy:aG ρ y=.int k b) {ts:Array TypeId}:PureV P ⟨dst,.call { callee:=.builtin .min,args:=#[x,y],argTypes:=ts },ty,pos,af,g⟩ ρ (.int k (if b<a then b else a)):=fun w=>by
 simp[execOp,resolve,invoke,builtin,hx,hy,run_min_int2]
theorem qt5 {k:IntKind}{a b:Int}(hx:aG ρ x=.int k a) (hy:aG ρ y=.int k b) {ts:Array TypeId}:PureV P ⟨dst,.call { callee:=.builtin .max,args:=#[x,y],argTypes:=ts },ty,pos,af,g⟩ ρ (.int k (if b>a then b else a)):=fun w=>by
 simp[execOp,resolve,invoke,builtin,hx,hy,run_max_int2]
theorem qiQ {parts:List (Nat × Operand)}{vs:List (Nat × Value)}{v:Value}(hp:(parts.map fun p=>(p.1,aG ρ p.2))=vs) (hv:∀ w,(Instr.build t vs.toArray).run P w=.ok v w) (h:opsW P ops K r (dD ρ d v) w) :
  opsW P ops K (⟨some d,.build t parts.toArray,ty,pos,af,none⟩::r) ρ w:=by
 refine jr rfl ?_;have:(Array.map (fun x:Nat × Operand=>match x with|(i,x)=>(i,aG ρ x)) parts.toArray)=vs.toArray:=by rw[<-hp];simp
 simp only[opW,execOp,this,Sem.run_bind,hv,Result.andThen_ok,Sem.run_pure,bC];exact h
end
def q7 (P:Program) (t:Nat):Option (List (Nat × Nat)):=match P.underlying t with|some (.struct fs)=>fs.toList.mapM (fun f=>(P.info? f.type).map fun i=>(f.offset,i.size))|_=>none
class Al (P:Program) (t:Nat) (places:outParam (List (Nat × Nat))):Prop where
 ok:q7 P t=some places
def nE (P:Program) (t:Nat) (vs:List (Nat × Value)):Option (Array Value) :=
 match P.underlying t,(P.info? t).bind (·.zero) with
 | some (.struct fs),some z=>(match fs.toList.mapM (fun f=>(P.info? f.type).map fun i=>(f.offset,i.size)) with
   | some places=>Instr.fill (places[·]?) z.cells vs
   | none=>none)
 | _,_=>none
theorem qgv {fs:List Field}{places:List (Nat × Nat)}(h:fs.mapM (fun f=>(P.info? f.type).map fun i=>(f.offset,i.size))=some places) (w:World) :
  (fs.mapM (fun f=>do pure (f.offset,<-sizeOf f.type):Field->Sem (Nat × Nat))).run P w=.ok places w:=by
 induction fs generalizing places with
 | nil=>simp at h;subst h;rfl
 | cons f fs ih =>
  simp only[mapM_cons]at h ⊢
  cases hi:P.info? f.type with
  | none=>simp[hi]at h
  | some i =>
   simp only[hi,Option.map_some,Option.bind_eq_bind,Option.bind_some]at h
   cases hr:fs.mapM (fun f=>(P.info? f.type).map fun i=>(f.offset,i.size)) with
   | none=>simp[hr]at h
   | some ps =>
    simp only[hr,Option.bind_some,Option.pure_def,Option.some.injEq]at h;subst h;have hs:(sizeOf f.type).run P w=.ok i.size w:=by simp[sizeOf,typeInfo,hi]
    simp only[Sem.run_bind,hs,Result.andThen_ok,Sem.run_pure,ih hr]
theorem qsQ {t:Nat}{vs:List (Nat × Value)}{cs:Array Value}(h:nE P t vs=some cs) (w:World):(Instr.build t vs.toArray).run P w=.ok (.agg cs) w:=by
 unfold nE at h;split at h
 ·rename_i fs z hd hz
  split at h
  ·rename_i places hp
   cases hi:P.info? t with
   | none=>simp[hi]at hz
   | some i =>
    simp only[hi,Option.bind_some]at hz;have h1:=qgv (P:=P) hp w;have h2:(fs.mapM (fun f=>do pure (f.offset,<-sizeOf f.type):Field->Sem (Nat × Nat))).run P w=.ok places.toArray w:=by
     rw[<-Array.toArray_toList (xs:=fs),mapM_toArray];simp only[Sem.run_map,h1,Result.andThen_ok]
    simp only[Instr.build,Sem.run_bind,zeroValue,typeInfo,run_program,Result.andThen_ok,hi,Sem.run_pure,hz,run_underlying hd,h2];have h3:(fun x:Nat=>(places.toArray)[x]?)=(fun x:Nat=>places[x]?):=by funext x;simp
    rw[h3,h];rfl
  ·cases h
 ·cases h
theorem qj9 {t:Nat}{places:List (Nat × Nat)}{zs:List Value}{vs:List (Nat × Value)}{cs:Array Value}(S:Al P t places) (Z:Ai P t zs) (h:Instr.fill (places[·]?) zs.toArray vs=some cs):nE P t vs=some cs:=by
 have hp:=S.ok;have hz:=Z.ok;unfold q7 at hp;split at hp
 ·rename_i fs hd
  cases hi:(P.info? t).bind (·.zero) with
  | none=>simp[hi]at hz
  | some z =>
   simp only[hi,Option.map_some,Option.some.injEq]at hz;have hzc:z.cells=zs.toArray:=by rw[<-hz]
   simp only[nE,hd,hi,hp,hzc];exact h
 ·cases hp
section
variable {ops:Array Oper}{K:Fr->World->Prop}{r:List Oper}{ρ:Fr}{w w0:World}{d:Nat}{ty:TypeId}{pos:String}{af:Array Edge}{x y z:Operand}{t t':TypeId}{Γ:List HP}{α:Type}
theorem qka {parts:List (Nat × Operand)}{vs:List (Nat × Value)}{cs:Array Value}{places:List (Nat × Nat)}{zs:List Value} [S:Al P t places] [Z:Ai P t zs] (hp:(parts.map fun p=>(p.1,aG ρ p.2))=vs) (hf:Instr.fill (places[·]?) zs.toArray vs=some cs)
  (h:opsW P ops K r (dD ρ d (.agg cs)) w):opsW P ops K (⟨some d,.build t parts.toArray,ty,pos,af,none⟩::r) ρ w :=
 qiQ hp (qsQ (qj9 S Z hf)) h
theorem w6 {T:Ty α}{e:TypeId}{xs:List α}{cells:Array Value}{n cap:Nat}(hc:cells.toList=xs.flatMap T.enc++replicate 0 undef) (hn:xs.length=n) (hb:n<=bo) (kR:cap=n) (hw:Sat w0 w Γ) :
  Sat w0 (fG w (.cells cells e)) (OS T e (.slice (some ⟨w.heap.size,0,none⟩) n cap) xs::Γ):=by
 refine hw.push ⟨.inr ⟨w.heap.size,0,n,cap,[],[],rfl,rfl,by rw[T.len,hn],by omega,hb,by simp[kR],?_⟩,hn⟩;simp at hc;simp[<-hc]
theorem qgw:∀ (vs:List Value) (k off:Nat) (cs:List Value),off+k+vs.length<=cs.length ->
  (vs.zipIdx k).foldl (fun (cs:Array Value) (x:Value × Nat)=>cs.setIfInBounds (off+x.2) x.1) cs.toArray=(cs.take (off+k)++vs++cs.drop (off+k+vs.length)).toArray
 | [],k,off,cs,_=>by simp
 | v::vs,k,off,cs,h=>by
  simp only[length_cons]at h;rw[zipIdx_cons,foldl_cons];have e:(cs.toArray.setIfInBounds (off+k) v)=(cs.set (off+k) v).toArray:=by simp
  simp only;rw[e,qgw vs (k+1) off _ (by simp;omega)];congr 1;rw[show off+(k+1)=off+k+1 from by omega,take_succ_eq_append_getElem (by simp;omega),take_set_of_le om,drop_set_of_lt om];simp;congr 1;omega
theorem qgx {place:Nat->Option (Nat × Nat)}{i off size:Nat}{v:Value}{cs:List Value}{rest:List (Nat × Value)}(hp:place i=some (off,size)) (hs:v.cells.size=size) (ho:off+size<=cs.length) :
  Instr.fill place cs.toArray ((i,v)::rest)=Instr.fill place (cs.take off++v.cells.toList++cs.drop (off+size)).toArray rest:=by
 have h1:¬(v.cells.size≠size || off+v.cells.size>cs.toArray.size)=true:=by simp[hs];omega
 rw[Instr.fill,hp];simp only;rw[if_neg h1];congr 1;have:=qgw v.cells.toList 0 off cs (by simp[hs];omega);rw[<-Array.foldl_toList];simp only[Array.toList_zipIdx];simp only[Nat.add_zero,Array.length_toList,hs]at this;exact this
theorem qfP {sz:Nat}:∀ (vs:List Value) (k:Nat) (dn rest:List Value),(∀ v∈vs,v.cells.size=sz)->dn.length=k*sz->rest.length=vs.length*sz ->
  Instr.fill (fun i=>some (i*sz,sz)) (dn++rest).toArray ((vs.zipIdx k).map fun x=>(x.2,x.1))=some (dn++vs.flatMap (·.cells.toList)).toArray
 | [],k,dn,rest,_,_,hr=>by
  simp at hr;subst hr;simp[Instr.fill]
 | v::vs,k,dn,rest,hv,hd,hr=>by
  have eM:=hv v (by simp);simp only[length_cons,Nat.add_mul,Nat.one_mul]at hr;rw[zipIdx_cons,map_cons,qgx (off:=k*sz) (size:=sz) rfl eM (by simp;omega)];have h1:(dn++rest).take (k*sz)=dn:=by rw[<-hd];simp
  have h2:(dn++rest).drop (k*sz+sz)=rest.drop sz:=by rw[<-hd,drop_append];simp
  rw[h1,h2,qfP vs (k+1) (dn++v.cells.toList) (rest.drop sz) (fun u hu=>hv u (by simp[hu])) (by simp[hd,eM,Nat.add_mul]) (by simp;omega)];simp[flatMap_cons]
theorem qa6 {T:Ty α}(xs:List α) (vs:List Value) {e sz by_ len:Nat}{parts:List (Nat × Operand)}{zs:List Value} [S:Ah P t e sz by_] [Z:Ai P e zs] (hp:(parts.map fun p=>(p.1,aG ρ p.2))=(vs.zipIdx 0).map fun x=>(x.2,x.1))
  (hx:vs.flatMap (·.cells.toList)=xs.flatMap T.enc) (iu:vs.all (fun v=>v.cells.size == sz)=true) (hlen:vs.length=len) (ku:xs.length=len) (sr:len*sz<=16777216) (ij:0<len*sz) (eZ:len<=16777216) (hw:Sat w0 w Γ)
  (h:∀ s w',Sat w0 w' (OS T e s xs::Γ)->opsW P ops K r (dD ρ d s) w'):opsW P ops K (⟨some d,.buildSlice t len parts.toArray,ty,pos,af,none⟩::r) ρ w:=by
 refine jr rfl ?_;obtain⟨zv,rA,ns⟩:=Z.zero;have:(Array.map (fun x:Nat × Operand=>match x with|(i,x)=>(i,aG ρ x)) parts.toArray)=((vs.zipIdx 0).map fun x=>(x.2,x.1)).toArray:=by rw[<-hp];simp
 have h0:¬(len*sz=0):=by omega
 have h1:¬(len*sz>2 ^ 24):=by omega
 have hf:Instr.fill (fun i=>some (i*sz,sz)) ((Array.range (len*sz)).map (zs.toArray[· % zs.toArray.size]!)) ((vs.zipIdx 0).map fun x=>(x.2,x.1))=some (xs.flatMap T.enc).toArray:=by
  have:=qfP (sz:=sz) vs 0 [] ((Array.range (len*sz)).map (zs.toArray[· % zs.toArray.size]!)).toList (fun v hv=>by simpa using all_eq_true.1 iu v hv) (by simp) (by simp[hlen]);rw[hx]at this;simp only[nil_append,Array.toArray_toList]at this;exact this
 simp only[opW,execOp,this,Instr.buildSlice,Sem.run_bind,run_underlying S.eU,Result.andThen_ok,S.size,h1,if_false,h0,Sem.run_pure,ns,rA];rw[hf];simp only[Sem.run_bind,newRow,run_newObj,Result.andThen_ok,Sem.run_pure,bC];exact h _ _ (w6 (e:=e) (by simp) ku (by unfold bo;omega) rfl hw)
theorem jh (T:Ty α) {x1:α}{e sz by_:Nat}{v:Value}{zs:List Value} [S:Ah P t e sz by_] [Z:Ai P e zs] (hp:aG ρ x=v) (hx:v.cells.toList=T.enc x1) (iu:sz=T.sz) (sr:sz<=16777216) (ij:0<sz) (hw:Sat w0 w Γ)
  (h:∀ s w',Sat w0 w' (OS T e s [x1]::Γ)->opsW P ops K r (dD ρ d s) w'):opsW P ops K (⟨some d,.buildSlice t 1 #[(0,x)],ty,pos,af,none⟩::r) ρ w:=by
 have hs:v.cells.size=sz:=by
  have:=T.ok x1;rw[<-hx,<-iu]at this
  simpa using this
 exact qa6 (parts:=[(0,x)]) [x1] [v] (by simp[hp]) (by simp[hx]) (by simp[hs]) rfl rfl om om om hw h
def ja (zs:List Value) (l:List (Nat × Value)):List Value:=l.foldl (fun cs p=>cs.set p.1 p.2) zs
def jB (places:List (Nat × Nat)) (n:Nat):Bool:=decide (places=(List.range n).map fun i=>(i,1))
theorem qkb {places:List (Nat × Nat)}{n:Nat}(ho:jB places n=true):∀ (l:List (Nat × Value)) (cs:List Value),cs.length=n->l.all (fun p=>decide (p.1<n) && p.2.oneCell')=true->Instr.fill (places[·]?) cs.toArray l=some (ja cs l).toArray
 | [],cs,_,_=>by simp[Instr.fill,ja]
 | (i,v)::l,cs,hc,hl=>by
  simp only[all_cons,Bool.and_eq_true,decide_eq_true_eq]at hl;have hv:v.cells=#[v]:=by
   have:=hl.1.2;cases v<;>first|rfl|(simp[Value.oneCell']at this)
  have hp:places[i]? = some (i,1):=by
   have:=of_decide_eq_true ho;rw[this];simp[hl.1.1]
  rw[qgx hp (by rw[hv];rfl) om,hv];have e:cs.take i++#[v].toList++cs.drop (i+1)=cs.set i v:=by
   rw[set_eq_take_append_cons_drop,if_pos om];simp
  rw[e,qkb ho l (cs.set i v) (by simpa using hc) hl.2];rfl
theorem iN {parts:List (Nat × Operand)}{vs:List (Nat × Value)}{places:List (Nat × Nat)}{zs:List Value} [S:Al P t places] [Z:Ai P t zs] (hp:(parts.map fun p=>(p.1,aG ρ p.2))=vs) (ho:jB places zs.length=true) (hv:vs.all (fun p=>decide (p.1<zs.length) && p.2.oneCell')=true)
  (h:opsW P ops K r (dD ρ d (.agg (ja zs vs).toArray)) w):opsW P ops K (⟨some d,.build t parts.toArray,ty,pos,af,none⟩::r) ρ w :=
 qka hp (qkb ho vs zs rfl hv) h
theorem qgy {i1:Nat}{x1:Operand}{v1:Value}{places:List (Nat × Nat)}{zs:List Value} [S:Al P t places] [Z:Ai P t zs] (h1:aG ρ x1=v1) (ho:jB places zs.length=true) (hv:[(i1,v1)].all (fun p=>decide (p.1<zs.length) && p.2.oneCell')=true)
  (h:opsW P ops K r (dD ρ d (.agg (ja zs [(i1,v1)]).toArray)) w):opsW P ops K (⟨some d,.build t #[(i1,x1)],ty,pos,af,none⟩::r) ρ w:=iN (parts:=[(i1,x1)]) (by simp[h1]) ho hv h
theorem wA {i1 i2:Nat}{x1 x2:Operand}{v1 v2:Value}{places:List (Nat × Nat)}{zs:List Value} [S:Al P t places] [Z:Ai P t zs] (h1:aG ρ x1=v1) (h2:aG ρ x2=v2) (ho:jB places zs.length=true) (hv:[(i1,v1),(i2,v2)].all (fun p=>decide (p.1<zs.length) && p.2.oneCell')=true)
  (h:opsW P ops K r (dD ρ d (.agg (ja zs [(i1,v1),(i2,v2)]).toArray)) w):opsW P ops K (⟨some d,.build t #[(i1,x1),(i2,x2)],ty,pos,af,none⟩::r) ρ w:=iN (parts:=[(i1,x1),(i2,x2)]) (by simp[h1,h2]) ho hv h
theorem xM {i1 i2 i3:Nat}{x1 x2 x3:Operand}{v1 v2 v3:Value}{places:List (Nat × Nat)}{zs:List Value} [S:Al P t places] [Z:Ai P t zs] (h1:aG ρ x1=v1) (h2:aG ρ x2=v2) (h3:aG ρ x3=v3) (ho:jB places zs.length=true) (hv:[(i1,v1),(i2,v2),(i3,v3)].all (fun p=>decide (p.1<zs.length) && p.2.oneCell')=true)
  (h:opsW P ops K r (dD ρ d (.agg (ja zs [(i1,v1),(i2,v2),(i3,v3)]).toArray)) w):opsW P ops K (⟨some d,.build t #[(i1,x1),(i2,x2),(i3,x3)],ty,pos,af,none⟩::r) ρ w:=iN (parts:=[(i1,x1),(i2,x2),(i3,x3)]) (by simp[h1,h2,h3]) ho hv h
theorem qqf {i1 i2 i3 i4:Nat}{x1 x2 x3 x4:Operand}{v1 v2 v3 v4:Value}{places:List (Nat × Nat)}{zs:List Value} [S:Al P t places] [Z:Ai P t zs] (h1:aG ρ x1=v1) (h2:aG ρ x2=v2) (h3:aG ρ x3=v3) (h4:aG ρ x4=v4) (ho:jB places zs.length=true) (hv:[(i1,v1),(i2,v2),(i3,v3),(i4,v4)].all (fun p=>decide (p.1<zs.length) && p.2.oneCell')=true)
  (h:opsW P ops K r (dD ρ d (.agg (ja zs [(i1,v1),(i2,v2),(i3,v3),(i4,v4)]).toArray)) w):opsW P ops K (⟨some d,.build t #[(i1,x1),(i2,x2),(i3,x3),(i4,x4)],ty,pos,af,none⟩::r) ρ w:=iN (parts:=[(i1,x1),(i2,x2),(i3,x3),(i4,x4)]) (by simp[h1,h2,h3,h4]) ho hv h
theorem qgz {T:Ty α}{z:α}{zs:List Value}(hz:T.enc z=zs) (n:Nat):((Array.range (n*T.sz)).map (zs.toArray[· % zs.toArray.size]!)).toList=(replicate n z).flatMap T.enc:=by
 have hl:zs.length=T.sz:=by rw[<-hz];exact T.ok z
 apply ext_getElem?;intro i;by_cases hi:i<n*T.sz
 ·have ij:0<T.sz:=by
   rcases eq_zero_or_pos T.sz with h|h
   ·rw[h]at hi;simp at hi
   ·exact h
  have hq:i / T.sz<n:=(div_lt_iff_lt_mul ij).2 hi;have tK:i % T.sz<T.sz:=mod_lt _ ij;have iF:i=i / T.sz*T.sz+i % T.sz:=by rw[Nat.mul_comm];exact(div_add_mod i T.sz).symm
  have h1:=T.get (replicate n z) (i / T.sz) (i % T.sz) (by simpa using hq) tK;rw[<-iF]at h1;rw[h1];have h2:(replicate n z).getD (i / T.sz) T.dflt=z:=by simp[List.getD,hq]
  rw[h2,hz];have bD:i % zs.length<zs.length:=by rw[hl];exact tK
  simp[hi,hl,tK]
 ·rw[getElem?_eq_none (by simp;omega),getElem?_eq_none (by rw[T.len];simp;omega)]
theorem zJ (T:Ty α) (z:α) {e sz by_:Nat}{n:Int}{zs:List Value} [S:Ah P t e sz by_] [Z:Ai P e zs] (hx:aG ρ x=.int .i64 n) (hy:aG ρ y=.int .i64 n) (eM:sz=T.sz) (hz:T.enc z=zs) (h0:0<=n) (hb:by_*n<=281474976710656) (hn:n<=281474976710656) (hw:Sat w0 w Γ)
  (h:∀ s w',Sat w0 w' (OS T e s (replicate n.toNat z)::Γ)->opsW P ops K r (dD ρ d s) w'):opsW P ops K (⟨some d,.makeSlice t x y,ty,pos,af,none⟩::r) ρ w:=by
 refine jr rfl ?_;subst eM;obtain⟨zv,rA,ns⟩:=Z.zero;obtain⟨i,hi,hs,vk⟩:=S.info;have hwr:IntKind.i64.wrap n=n:=vt om om;have h1:¬(n<0):=by omega
 have h2:¬(281474976710656<(by_:Int)*n):=by omega
 have tn:((n<0 || (i.bytes:Int)*n>2 ^ 48) || n<0 || n>n)=false:=by simp[vk];omega
 simp only[opW,execOp,hx,hy,Instr.makeSlice,Sem.run_bind,run_underlying S.eU,Result.andThen_ok,asInt,asIntOf,Sem.run_pure,typeInfo,run_program,hi,hwr,tn,Bool.false_eq_true,if_false,run_askRoom,S.size];have lR:∀ (z0:Array Value),(n.toNat*T.sz=0\/z0=zs.toArray)->((Array.range (n.toNat*T.sz)).map (z0[· % z0.size]!)).toList=(replicate n.toNat z).flatMap T.enc:=by
  intro z0 h;rcases h with h|h
  ·rw[h]
   have:((replicate n.toNat z).flatMap T.enc).length=0:=by rw[T.len];simpa using h
   rw[eq_nil_of_length_eq_zero this];simp
  ·rw[h];exact qgz hz n.toNat
 by_cases ml:n.toNat*T.sz=0
 ·simp only[ml,if_true,Sem.run_pure,Result.andThen_ok,newRow,Sem.run_bind,run_newObj,bC]
  have:=lR #[] (.inl ml);rw[ml]at this;exact h _ _ (w6 (T:=T) (e:=e) (by rw[this];simp) (by simp) (by unfold bo;omega) rfl hw)
 ·simp only[ml,if_false,Sem.run_bind,ns,Sem.run_pure,Result.andThen_ok,newRow,run_newObj,bC,rA]
  exact h _ _ (w6 (T:=T) (e:=e) (by rw[lR _ (.inr rfl)];simp) (by simp) (by unfold bo;omega) rfl hw)
end
end
section
variable {P:Program}
@[irreducible] def cU (ss:List Value) (i:Nat):Value:=ss.getD i undef
theorem ng (ss:List Value) (i:Nat):cU ss i=ss.getD i undef:=by unfold cU;rfl
theorem qem {i:Nat}{ρ:Fr}{w:World}{ty:TypeId}{pos:String}{af:Array Edge}{g:Option (Nat × Bool)}{dst:Option Nat}{x:Operand}{t:TypeId}{s:Value}{xs:List Value} [C:An P t] (hx:aG ρ x=.pointer (some (eX al s i))) (h:RS al w s xs) (hi:i<xs.length):ReadV P ⟨dst,.load t x,ty,pos,af,g⟩ ρ w (cU xs i) :=
 zG hx h hi (by rw[ng];rfl)
def ssub (s:Value) (sz lo hi:Nat):Value:=match s with
 | .slice a _ cap=>.slice (if cap=lo then a else a.map (·.add (lo*sz))) (hi-lo) (cap-lo)
 | v=>v
def cut {α:Type}(xs:List α) (lo hi:Nat):List α:=(xs.take hi).drop lo
theorem xR {α:Type}{xs:List α}{lo hi:Nat}(h:hi<=xs.length):(cut xs lo hi).length=hi-lo:=by simp[cut];omega
theorem Ty.drop {α:Type}(T:Ty α):∀ (xs:List α) (k:Nat),(xs.flatMap T.enc).drop (k*T.sz)=(xs.drop k).flatMap T.enc
 | xs,0=>by simp
 | [],k+1=>by simp
 | x::xs,k+1=>by
  have h:=T.ok x;have ih:=T.drop xs k;rw[drop_succ_cons,flatMap_cons,<-ih,drop_append,drop_eq_nil_of_le (by rw[h,Nat.add_mul];omega),h];simp only[nil_append];congr 1;rw[Nat.add_mul];omega
theorem Ty.take {α:Type}(T:Ty α):∀ (xs:List α) (k:Nat),(xs.flatMap T.enc).take (k*T.sz)=(xs.take k).flatMap T.enc
 | xs,0=>by simp
 | [],k+1=>by simp
 | x::xs,k+1=>by
  have h:=T.ok x;have ih:=T.take xs k;rw[take_succ_cons,flatMap_cons,flatMap_cons,<-ih,take_append,take_of_length_le (by rw[h,Nat.add_mul];omega),h];congr 2;rw[Nat.add_mul];omega
theorem Ty.cut {α:Type}(T:Ty α) (xs:List α) (lo hi:Nat):Sl.cut (xs.flatMap T.enc) (lo*T.sz) (hi*T.sz)=(Sl.cut xs lo hi).flatMap T.enc:=by
 simp only[Sl.cut,T.take,T.drop]
theorem w8 {b off k:Nat}:(⟨b,off,none⟩:Addr).add k=⟨b,off+k,none⟩:=by unfold Addr.add;split<;>simp_all
theorem qen {p:Addr}(h:p.spot=none) (k:Nat):p.add k=⟨p.block,p.off+k,none⟩:=by
 obtain⟨b,off,sp⟩:=p;simp only at h;subst h;exact w8
theorem qss {s:Value}{e:TypeId}{sz:Nat}{vs:List Value}{h:PH}{lo hi:Nat}(ho:Own s e sz vs h) (h1:lo<=hi) (h2:hi<=cW s):Own (ssub s sz lo hi) e sz (cut vs (lo*sz) (hi*sz)) h:=by
 rcases ho with ⟨rfl,rfl⟩|⟨b,off,n,cap,pre,post,rfl,aN,hlen,kg,eZ,s6,hb⟩
 ·simp only[cW]at h2
  have:lo=0:=by omega
  have:hi=0:=by omega
  subst lo hi;left;simp[ssub,cut]
 ·simp only[cW]at h2
  right;have pD:lo*sz<=hi*sz:=mul_le_mul_right _ h1;have j6:hi*sz<=n*sz:=mul_le_mul_right _ h2;have eN:(cut vs (lo*sz) (hi*sz)).length=(hi-lo)*sz:=by rw[xR om,Nat.sub_mul]
  have iF:vs=vs.take (lo*sz)++cut vs (lo*sz) (hi*sz)++vs.drop (hi*sz):=by
   have e1:vs.take (lo*sz)=(vs.take (hi*sz)).take (lo*sz):=by rw[take_take];congr 1;omega
   rw[e1];simp only[cut,take_append_drop]
  by_cases hc:cap=lo
  ·subst hc
   have:hi=cap:=by omega
   subst this;refine⟨b,off,0,0,pre,vs++post,by simp[ssub],aN,by rw[eN];simp,Nat.le_refl _,zero_le _,by simp,?_⟩;have uK:cut vs (hi*sz) (hi*sz)=[]:=by apply eq_nil_of_length_eq_zero;rw[eN];simp
   rw[hb,uK];simp
  ·refine⟨b,off+lo*sz,hi-lo,cap-lo,pre++vs.take (lo*sz),vs.drop (hi*sz)++post,by simp[ssub,hc,w8],by simp[aN];omega,eN,by omega,by omega,?_,?_⟩
   ·simp only[length_append,length_drop,hlen]
    have:(cap-lo-(hi-lo))*sz=(n-hi)*sz+(cap-n)*sz:=by rw[<-Nat.add_mul];congr 1;omega
    have h3:(n-hi)*sz=n*sz-hi*sz:=Nat.sub_mul _ _ _;omega
   ·rw[hb]
    congr 3
    conv=>lhs;rw[iF]
    simp
theorem quX {α:Type}{T:Ty α}{e:TypeId}{s:Value}{xs:List α}{h:PH}{lo hi:Nat}(ho:OS T e s xs h) (h1:lo<=hi) (h2:hi<=xs.length):OS T e (ssub s T.sz lo hi) (cut xs lo hi) h:=by
 have hl:=ho.2;refine⟨by rw[<-T.cut];exact qss ho.1 h1 om,?_⟩;rw[xR h2];have:=ho.1;rcases this with ⟨rfl,_⟩|⟨b,off,n,cap,pre,post,rfl,_⟩
 ·simp only[cW]at hl;simp[ssub,cW]
 ·simp[ssub,cW]
theorem wE {α:Type}{T:Ty α}{w:World}{s:Value}{xs:List α}{lo hi:Nat}(ho:RS T w s xs) (h1:lo<=hi) (h2:hi<=xs.length):RS T w (ssub s T.sz lo hi) (cut xs lo hi):=by
 obtain⟨⟨a,n,cap,rfl,hlen,⟨kg,eZ⟩,hc⟩,hl⟩:=ho;simp only[cW]at hl;subst hl;have eN:=xR (lo:=lo) h2;refine⟨⟨_,hi-lo,cap-lo,rfl,by rw[T.len,eN],⟨by omega,by omega⟩,fun i v hv=>?_⟩,eN⟩;rw[<-T.cut]at hv;have cI:=(List.getElem?_eq_some_iff.1 hv).1;have qx6:(cut (xs.flatMap T.enc) (lo*T.sz) (hi*T.sz)).length=hi*T.sz-lo*T.sz:=xR (by rw[T.len];exact mul_le_mul_right _ h2);have iD:(xs.flatMap T.enc)[lo*T.sz+i]? = some v:=by
  simp only[cut,getElem?_drop]at hv;rw[getElem?_take]at hv;split at hv
  ·exact hv
  ·cases hv
 obtain⟨p,rfl,iE,eS⟩:=hc _ _ iD;by_cases qwX:cap=lo
 ·subst qwX
  have:hi*T.sz<=cap*T.sz:=mul_le_mul_right _ om;omega
 ·refine⟨p.add (lo*T.sz),by simp[qwX],by rw[qen iE],?_⟩
  rw[qen iE];simp only[];rw[Nat.add_assoc];exact eS
theorem Sat.sub {w0 w:World}{Γ:List HP}{α:Type}{T:Ty α}{s:Value}{e:TypeId}{xs:List α}{put:HP->List HP}(hw:Sat w0 w Γ) (O:AT Γ s α T e xs put) (lo hi:Nat) (h1:lo<=hi) (h2:hi<=xs.length):Sat w0 w (put (OS T e (ssub s T.sz lo hi) (cut xs lo hi))):=by
 obtain⟨i,eO,hp⟩:=O.j3.ok;rw[hp];exact Sat.back i eO ((hw.focus i eO).mono fun h ho=>quX ho h1 h2)
section
variable {ops:Array Oper}{K:Fr->World->Prop}{r:List Oper}{ρ:Fr}{w w0:World}{d:Nat}{ty:TypeId}{pos:String}{af:Array Edge}{g:Option (Nat × Bool)}{dst:Option Nat}{x y z:Operand}{t t':TypeId}{Γ:List HP}
variable {α:Type}{T:Ty α}{s:Value}{xs:List α}
theorem qhA {e sz by_:Nat}{k:IntKind}{j:Int} [S:Ah P t e sz by_] (hx:aG ρ x=s) (hy:aG ρ y=.int k j) (h:RS T w s xs) (hz:sz=T.sz) (h0:0<=j) (h1:j<=xs.length) :
  PureV P ⟨dst,.slice t x none (some y) none,ty,pos,af,g⟩ ρ (ssub s T.sz 0 j.toNat):=fun w=>by
 subst hz;obtain⟨⟨a,n,cap,rfl,_,⟨kg,_⟩,_⟩,hl⟩:=h;simp only[cW]at hl;have hj:j<=cap:=by omega
 simp[execOp,Instr.sliceAt,Instr.slice,Instr.sliceBounds,Instr.sliceBound,asIntOf,hx,hy,run_underlying S.eU,h0,hj,S.size,ssub]
theorem qfn {e sz by_:Nat}{k:IntKind}{j:Int} [S:Ah P t e sz by_] (hx:aG ρ x=s) (hy:aG ρ y=.int k j) (h:RS T w s xs) (hz:sz=T.sz) (h0:0<=j) (h1:j<=xs.length) :
  PureV P ⟨dst,.slice t x (some y) none none,ty,pos,af,g⟩ ρ (ssub s T.sz j.toNat xs.length):=fun w=>by
 subst hz;obtain⟨⟨a,n,cap,rfl,_,⟨kg,_⟩,_⟩,hl⟩:=h;simp only[cW]at hl;have hj:j<=n:=by omega
 simp[execOp,Instr.sliceAt,Instr.slice,Instr.sliceBounds,Instr.sliceBound,asIntOf,hx,hy,run_underlying S.eU,h0,hj,S.size,ssub,hl]
theorem qfo {e sz by_:Nat}{k k':IntKind}{i j:Int} [S:Ah P t e sz by_] (hx:aG ρ x=s) (hy:aG ρ y=.int k i) (rA:aG ρ z=.int k' j) (h:RS T w s xs) (hz:sz=T.sz) (h0:0<=i) (ie:i<=j) (h1:j<=xs.length) :
  PureV P ⟨dst,.slice t x (some y) (some z) none,ty,pos,af,g⟩ ρ (ssub s T.sz i.toNat j.toNat):=fun w=>by
 subst hz;obtain⟨⟨a,n,cap,rfl,_,⟨kg,_⟩,_⟩,hl⟩:=h;simp only[cW]at hl;have hj:j<=cap:=by omega
 have qU:0<=j:=by omega
 have hi:i<=max j 0:=by omega
 simp[execOp,Instr.sliceAt,Instr.slice,Instr.sliceBounds,Instr.sliceBound,asIntOf,hx,hy,rA,run_underlying S.eU,h0,hj,qU,hi,S.size,ssub]
theorem qge {e sz by_:Nat} [S:Ah P t e sz by_] (hx:aG ρ x=s) (h:RS T w s xs) (hz:sz=T.sz) :
  PureV P ⟨dst,.slice t x none none none,ty,pos,af,g⟩ ρ (ssub s T.sz 0 xs.length):=fun w=>by
 subst hz;obtain⟨⟨a,n,cap,rfl,_,⟨kg,_⟩,_⟩,hl⟩:=h;simp only[cW]at hl;simp[execOp,Instr.sliceAt,Instr.slice,Instr.sliceBounds,Instr.sliceBound,hx,run_underlying S.eU,S.size,ssub,hl]
theorem qbY {s:Value}{sz:Nat}{vs:List Value}{n:Nat}(h:CK w s sz vs) (hn:cW s=n) (w':World) (dA:w'.heap=w.heap):(Builtin.firstCells sz n s).run P w'=.ok vs.toArray w':=by
 obtain⟨a,n',cap,rfl,hlen,_,hc⟩:=h;simp only[cW]at hn;subst hn
 cases a with
 | none =>
  have:vs=[]:=by
   apply eq_nil_iff_length_eq_zero.2;rcases eq_zero_or_pos vs.length with h|h
   ·exact h
   ·obtain⟨p,hp,_⟩:=hc 0 _ (getElem?_eq_getElem h);cases hp
  subst this
  simp[Builtin.firstCells]
 | some p =>
  refine run_firstCells_some (P:=P) w' sz n' p n' cap vs hlen fun j v hv=>?_;obtain⟨p',hp',iE,eS⟩:=hc j v hv;cases hp';rw[qen iE]
  simpa [World.cell?,dA] using eS
theorem Sat.renew {A':HP}{i:Nat}{A:HP}{o:Obj}(hw:Sat w0 w Γ) (hi:Γ[i]? = some A) (ha:A' (fun x=>if x=w.heap.size then some o else none)):Sat w0 (fG w o) (Γ.set i A'):=by
 have h1:=(hw.push ha).focus (i+1) (A:=A) (by simpa using hi);exact Sat.back i hi h1.tail
theorem rT {e sz by_:Nat}{s2:Value}{ys:List α}{zs:List Value}{put:HP->List HP} [S:Ah P t e sz by_] [Z:Ai P e zs] (O:AT Γ s α T e xs put) (hx:aG ρ x=s) (hy:aG ρ y=s2) (h2:RS T w s2 ys) (eM:sz=T.sz) (uJ:zs.length=sz)
  (hone:∀ x∈ys,∀ v∈T.enc x,v.oneCell'=true) (hb:(xs.length+ys.length)*by_<=140737488355328) (hl:xs.length+ys.length<=bo) (hw:Sat w0 w Γ)
  (h:∀ s' w',Sat w0 w' (put (OS T e s' (xs++ys)))->opsW P ops K r (dD ρ d s') w'):opsW P ops K (⟨some d,.call { callee:=.builtin .append,args:=#[x,y],argTypes:=#[t,t] },ty,pos,af,none⟩::r) ρ w:=by
 refine jr rfl ?_;subst eM;obtain⟨i,hi,hp⟩:=O.j3.ok;simp only[hp]at h;obtain⟨inf,sZ,hs,vk⟩:=S.info;obtain⟨zv,vl,ns⟩:=Z.zero;have h1:=hw.rs i hi;obtain⟨ph,hph,lK⟩:=hw.at i hi;obtain⟨a2,cap2,dW⟩:=h2.shape;have iT:∀ w':World,w'.heap=w.heap->(Builtin.firstCells T.sz ys.length s2).run P w'=.ok (ys.flatMap T.enc).toArray w':=fun w' dA=>qbY h2.1 h2.2.symm w' dA;have lL:∀ w':World,w'.heap=w.heap->(Builtin.firstCells T.sz xs.length s).run P w'=.ok (xs.flatMap T.enc).toArray w':=fun w' dA=>qbY h1.1 h1.2.symm w' dA
 have kC:∀ (a:Option Addr) (cap:Nat),s=.slice a xs.length cap->cap<xs.length+ys.length ->
   (execOp (aG ρ) ⟨some d,.call { callee:=.builtin .append,args:=#[x,y],argTypes:=#[t,t] },ty,pos,af,none⟩).run P w =
   .ok (.value (.slice (some ⟨w.heap.size,0,none⟩) (xs.length+ys.length) (grownCap w (xs.length+ys.length) cap e))) (fG w.drew (.cells ((xs.flatMap T.enc).toArray++(ys.flatMap T.enc).toArray++Builtin.zeroCells zs.toArray (grownCap w (xs.length+ys.length) cap e-(xs.length+ys.length))) e)):=by
  intro a cap sd kR;have hn:¬(xs.length+ys.length<=cap):=by omega
  have pO:¬(9223372036854775807<((xs.length:Int)+(ys.length:Int))):=by unfold bo at hl;omega
  have cL:=growslice_fits (bytes:=by_) kR hb;have s5:¬(281474976710656<Builtin.nextslicecap (xs.length+ys.length) cap*by_):=by omega
  have hq:(Question.appendCap (xs.length+ys.length) cap e).forced=false:=rfl;rw[sd]at lL;rw[dW]at iT;simp[execOp,resolve,invoke,builtin,Builtin.append_,hx,hy,sd,dW,run_underlying S.eU,S.size,typeInfo,sZ,vk,Builtin.lenOf,hn,pO,s5,hq,lL,iT,ns,vl,grownCap];rw[lL w.drew rfl];simp only[Result.andThen_ok];rw[iT w.drew rfl];have oF:∀ (X Y:List Value) (Z:Array Value),X.toArray++(Y.toArray++Z)=(X++Y).toArray++Z:=fun X Y Z=>by apply Array.ext';simp only[Array.toList_append,append_assoc]
  simp only[newRow,Sem.run_bind,run_newObj,Result.andThen_ok,Sem.run_pure];rw[oF];rfl
 simp only[opW];rcases lK with ⟨lK,hlen⟩;have fZ:∀ cap,cap<xs.length+ys.length->Sat w0 (fG w.drew (.cells ((xs.flatMap T.enc).toArray++(ys.flatMap T.enc).toArray++Builtin.zeroCells zs.toArray (grownCap w (xs.length+ys.length) cap e-(xs.length+ys.length))) e)) (Γ.set i (OS T e (.slice (some ⟨w.heap.size,0,none⟩) (xs.length+ys.length) (grownCap w (xs.length+ys.length) cap e)) (xs++ys))):=by
  intro cap kR;have uS:=grownCap_ge w (xs.length+ys.length) cap e;refine Sat.renew (w:=w.drew) hw.drew hi ⟨.inr ⟨w.heap.size,0,_,_,[],(Builtin.zeroCells zs.toArray (grownCap w (xs.length+ys.length) cap e-(xs.length+ys.length))).toList,rfl,rfl,by rw[T.len];simp,uS,hl,?_,?_⟩,by simp[cW]⟩
  ·simp[size_zeroCells,uJ]
  ·simp
 rcases lK with ⟨rfl,ew⟩|⟨b,off,n,cap,pre,post,rfl,aN,kD,kg,eZ,s6,eY⟩
 ·simp only[cW]at hlen
  by_cases vm:ys.length=0
  ·have sU:=eq_nil_of_length_eq_zero vm
   subst sU;have hr:(execOp (aG ρ) ⟨some d,.call { callee:=.builtin .append,args:=#[x,y],argTypes:=#[t,t] },ty,pos,af,none⟩).run P w=.ok (.value (.slice none 0 0)) w:=by
    have eI:=iT w rfl;rw[dW]at eI;simp only[length_nil]at eI;simp[execOp,resolve,invoke,builtin,Builtin.append_,hx,hy,dW,run_underlying S.eU,S.size,Builtin.lenOf,eI]
   rw[hr];refine h _ _ ?_;have:xs=[]:=eq_nil_of_length_eq_zero hlen;subst this;simp only[append_nil];rw[show Γ.set i (OS T e (.slice none 0 0) [])=Γ from ?_]
   ·exact hw
   ·apply ext_getElem?
    intro k;rw[getElem?_set];split
    ·rename_i hk;subst hk;split
     ·rw[hi]
     ·rename_i hk;rw[getElem?_eq_none om]
    ·rfl
  ·rw[kC none 0 (by rw[hlen]) om]
   exact h _ _ (fZ 0 om)
 ·simp only[cW]at hlen
  subst hlen;by_cases kE:xs.length+ys.length<=cap
  ·have eI:=iT w rfl
   rw[dW]at eI;have oG:(xs.flatMap T.enc).length=xs.length*T.sz:=T.len xs;have s7:(ys.flatMap T.enc).length=ys.length*T.sz:=T.len ys;have hm:xs.length*T.sz+ys.length*T.sz<=xs.length*T.sz+(cap-xs.length)*T.sz:=by
    have:ys.length*T.sz<=(cap-xs.length)*T.sz:=mul_le_mul_right _ om;omega
   have cu:=uB (P:=P) (bt:=e) (ys.flatMap T.enc) (off+xs.length*T.sz) 0 (pre++xs.flatMap T.enc++post) w (by
    intro v hv;obtain⟨x',mZ,iD⟩:=mem_flatMap.1 hv
    exact hone x' mZ v iD) (by simp only[length_append,oG,s7];omega) (hph _ _ eY).1
   have hr:(execOp (aG ρ) ⟨some d,.call { callee:=.builtin .append,args:=#[x,y],argTypes:=#[t,t] },ty,pos,af,none⟩).run P w=.ok (.value (.slice (some ⟨b,off,none⟩) (xs.length+ys.length) cap)) (dq w b (.cells ((pre++xs.flatMap T.enc++post).take (off+xs.length*T.sz+0)++ys.flatMap T.enc++(pre++xs.flatMap T.enc++post).drop (off+xs.length*T.sz+0+(ys.flatMap T.enc).length)).toArray e (0,0))):=by
    simp only[execOp,resolve,invoke,builtin,Builtin.append_,hx,hy,dW,Sem.run_bind,Sem.run_pure,Result.andThen_ok,map_toArray,map_cons,map_nil,run_underlying S.eU,S.size,Builtin.lenOf];simp[eI,kE,w8,run_underlying S.eU,Builtin.lenOf,S.size];rw[cu];simp
   rw[hr];have s8:(pre++xs.flatMap T.enc++post).take (off+xs.length*T.sz+0)=pre++xs.flatMap T.enc:=by
    rw[take_append_of_le_length (by simp only[length_append,oG];omega)];exact take_of_length_le (by simp only[length_append,oG];omega)
   have vn:(pre++xs.flatMap T.enc++post).drop (off+xs.length*T.sz+0+(ys.flatMap T.enc).length)=post.drop (ys.length*T.sz):=by
    rw[drop_append,drop_eq_nil_of_le (by simp only[length_append,oG,s7];omega)];simp only[nil_append,length_append,oG,s7];congr 1;omega
   rw[s8,vn];refine h _ _ (Sat.back i hi (Sat.put (hw.focus i hi) fun h1 kM hA=>?_));rcases hA with ⟨hA,_⟩;rcases hA with ⟨hc,_⟩|⟨b1,off1,n1,cap1,pre1,post1,jy,w9,s9,qwL,xc,ta,rV⟩
   ·cases hc
   ·cases jy
    refine⟨⟨_,rV⟩,.inr ⟨b,off,xs.length+ys.length,cap,pre,post.drop (ys.length*T.sz),rfl,aN,by rw[T.len,length_append],kE,hl,?_,?_⟩,by simp[cW]⟩
    ·simp only[length_drop]
     have:(cap-(xs.length+ys.length))*T.sz=(cap-xs.length)*T.sz-ys.length*T.sz:=by rw[<-Nat.sub_mul];congr 1;omega
     omega
    ·simp[kh]
  ·rw[kC _ cap rfl om]
   exact h _ _ (fZ cap om)
end
theorem RS.one {α:Type}{T:Ty α}{w:World}{s:Value}{xs:List α}(h:RS T w s xs):s.oneCell'=true:=by
 obtain⟨a,cap,rfl⟩:=h.shape;rfl
class Bn {α:Type}(T:Ty α):Prop where
 ok:∀ (x:α) (v:Value),v∈T.enc x->v.oneCell'=true
instance:Bn aa:=⟨fun _ v hv=>by rw[mem_singleton.1 hv];rfl⟩
instance:Bn ah:=⟨fun _ v hv=>by rw[mem_singleton.1 hv];rfl⟩
theorem CH.app {A:HP}{Δ Γ:List HP}{put:HP->List HP}(h:CH Γ A put):CH (Δ++Γ) A (fun A'=>Δ++put A'):=by
 obtain⟨i,hi,hp⟩:=h.ok;refine⟨Δ.length+i,by rw[getElem?_append_right om];simpa using hi,fun A' => ?_⟩;rw[hp,set_append_right _ _ om];simp
instance qxR {Δ:List HP}{p:Addr}{t:TypeId}{cells:List Value}{Γ:List HP}{put:HP->List HP} [h:AQ Γ p t cells put]:AQ (Δ++Γ) p t cells (fun A'=>Δ++put A'):=⟨h.j3.app⟩
instance qxS {Δ:List HP}{α:Type}{T:Ty α}{s:Value}{e:TypeId}{xs:List α}{Γ:List HP}{put:HP->List HP} [h:AT Γ s α T e xs put]:AT (Δ++Γ) s α T e xs (fun A'=>Δ++put A'):=⟨h.j3.app⟩
def Ab {α:Type}(T:Ty α) (e:TypeId) (ss:List Value) (xss:List (List α)):HP:=fun h=>ss.length=xss.length/\Ap (zipWith (OS T e) ss xss) h
theorem Ap.app {Γ:List HP}:∀ (Δ:List HP) {h1 h2 h:PH},Cd h1 h2->Sub h1 h->Sub h2 h->Ap Δ h1->Ap Γ h2->Ap (Δ++Γ) h:=by
 intro Δ
 induction Δ with
 | nil=>intro h1 h2 h _ _ s2 _ hg;exact hg.sub s2
 | cons A Δ ih =>
  intro h1 h2 h d s1 s2 hd hg;obtain⟨g1,g2,dg,t1,t2,ha,hr⟩:=hd;refine⟨g1,l9 g2 h2,fun b=>?_,t1.trans s1,fun b o hb=>?_,ha,ih (h1:=g2) (h2:=h2) (d.symm.sub t2).symm (fun b o hb=>by simp[l9,hb]) (fun b o hb=>?_) hr hg⟩
  ·cases pS:g1 b with
   | none=>exact .inl rfl
   | some o =>
    right;have:g2 b=none:=(dg b).resolve_left (by rw[pS];simp);have h2n:h2 b=none:=(d b).resolve_left (by rw[t1 b o pS];simp);simp[l9,this,h2n]
  ·simp only[l9]at hb
   split at hb
   ·rename_i o' lM;cases hb;exact s1 b _ (t2 b _ lM)
   ·exact s2 b o hb
  ·simp only[l9]
   have:g2 b=none:=by
    rcases d b with h|h
    ·cases mn:g2 b with
     | none=>rfl
     | some o'=>rw[t2 b o' mn]at h;cases h
    ·rw[hb]at h;cases h
   rw[this];exact hb
theorem Ap.split {Γ:List HP}:∀ (Δ:List HP) {h:PH},Ap (Δ++Γ) h->∃ h1 h2,Cd h1 h2/\Sub h1 h/\Sub h2 h/\Ap Δ h1/\Ap Γ h2:=by
 intro Δ
 induction Δ with
 | nil=>intro h hh;exact⟨fun _=>none,h,fun _=>.inl rfl,fun _ _ hb=>(by simp at hb),Sub.refl _,trivial,hh⟩
 | cons A Δ ih =>
  intro h hh;obtain⟨g1,g2,dg,t1,t2,ha,hr⟩:=hh;obtain⟨k1,k2,dk,u1,u2,hd,hg⟩:=ih hr;refine⟨l9 g1 k1,k2,fun b=>?_,fun b o hb=>?_,u2.trans t2,⟨g1,k1,dg.sub u1,fun b o hb=>by simp[l9,hb],fun b o hb=>?_,ha,hd⟩,hg⟩
  ·rcases dk b with h|h
   ·rcases dg b with h'|h'
    ·left;simp[l9,h',h]
    ·right;cases hk:k2 b with
     | none=>rfl
     | some o=>rw[u2 b o hk]at h';cases h'
   ·exact .inr h
  ·simp only[l9]at hb
   split at hb
   ·rename_i o' lM;cases hb;exact t1 b _ lM
   ·exact t2 b o (u1 b o hb)
  ·simp only[l9]
   rcases dg b with h|h
   ·rw[h];exact hb
   ·rw[u1 b o hb]at h;cases h
variable {w w0:World}{Γ:List HP}{α:Type}{T:Ty α}{e:TypeId}{ss:List Value}{xss:List (List α)}
theorem Sat.flat (h:Sat w0 w (Ab T e ss xss::Γ)):ss.length=xss.length/\Sat w0 w (zipWith (OS T e) ss xss++Γ):=by
 obtain⟨h1,h2,d,s1,s2,⟨hl,ha⟩,hg⟩:=h.sat;exact⟨hl,h.below,Ap.app _ d s1 s2 ha hg⟩
theorem Sat.nA (hl:ss.length=xss.length) (h:Sat w0 w (zipWith (OS T e) ss xss++Γ)):Sat w0 w (Ab T e ss xss::Γ):=by
 obtain⟨h1,h2,d,s1,s2,ha,hg⟩:=h.sat.split;exact⟨h.below,h1,h2,d,s1,s2,⟨hl,ha⟩,hg⟩
theorem Sat.mF (h:Sat w0 w Γ):Sat w0 w (Ab T e [] []::Γ):=Sat.nA rfl h
theorem Sat.fb {i:Nat}(hi:i<xss.length) (h:Sat w0 w (Ab T e ss xss::Γ)):Sat w0 w (OS T e (cU ss i) (xss.getD i [])::((zipWith (OS T e) ss xss).eraseIdx i++Γ)):=by
 obtain⟨hl,h⟩:=h.flat
 have:=h.focus i (A:=OS T e (cU ss i) (xss.getD i [])) (by
  rw[getElem?_append_left (by simp;omega)]
  simp[ng,getElem?_zipWith,List.getD,getElem?_eq_getElem (show i<ss.length by omega),getElem?_eq_getElem hi])
 rwa[eraseIdx_append_of_lt_length (by simp;omega)]at this
theorem Sat.lS {i:Nat}{s':Value}{xs':List α}(hi:i<xss.length) (hl:ss.length=xss.length) (h:Sat w0 w (OS T e s' xs'::((zipWith (OS T e) ss xss).eraseIdx i++Γ))):Sat w0 w (Ab T e (ss.set i s') (xss.set i xs')::Γ):=by
 refine Sat.nA (by simp[hl]) ?_;have h1:i<(zipWith (OS T e) ss xss++Γ).length:=by simp;omega
 rw[<-eraseIdx_append_of_lt_length (by simp;omega)]at h;have h2:=Sat.back i (getElem?_eq_getElem h1) h;rw[set_append_left _ _ (by simp;omega)]at h2;have:zipWith (OS T e) (ss.set i s') (xss.set i xs')=(zipWith (OS T e) ss xss).set i (OS T e s' xs'):=by
  apply ext_getElem?;intro k;by_cases hk:i=k
  ·subst hk
   rw[getElem?_zipWith,getElem?_set_self om,getElem?_set_self om,getElem?_set_self (by simp;omega)]
  ·rw[getElem?_zipWith,getElem?_set_ne hk,getElem?_set_ne hk,getElem?_set_ne hk,getElem?_zipWith]
 rw[this];exact h2
theorem Sat.only {A:HP}(h:Sat w0 w (A::Γ)):Sat w0 w [A]:=h.jQ fun _ _=>trivial
theorem Sat.comm {Δ:List HP}(h:Sat w0 w (Δ++Γ)):Sat w0 w (Γ++Δ):=by
 obtain⟨h1,h2,d,s1,s2,ha,hg⟩:=h.sat.split;exact⟨h.below,Ap.app _ d.symm s2 s1 hg ha⟩
theorem Sat.bw (h:Sat w0 w (Ab T e ss xss::Γ)):ss.length=xss.length:=h.flat.1
theorem Sat.row {i:Nat}(hi:i<xss.length) (h:Sat w0 w (Ab T e ss xss::Γ)):RS T w (cU ss i) (xss.getD i []):=(h.fb hi).rs 0 rfl
theorem Sat.gH {s':Value}{xs':List α}(h:Sat w0 w (OS T e s' xs'::Ab T e ss xss::Γ)):Sat w0 w (Ab T e (ss++[s']) (xss++[xs'])::Γ):=by
 obtain⟨hl,h1⟩:=(Sat.swap h).flat;refine Sat.nA (by simp[hl]) ?_;rw[zipWith_append hl]
 simpa using h1
theorem Sat.fu (h:Sat w0 w Γ):∀ n,Sat w0 w (Ab T e (replicate n (.slice none 0 0)) (replicate n [])::Γ)
 | 0=>h.mF
 | n+1=>by
  rw[replicate_succ',replicate_succ'];exact(Sat.nil (T:=T) (e:=e) (Sat.fu h n)).gH
end
theorem qst {ss:List Value}{i:Nat}(h:i<ss.length):ss.set i (cU ss i)=ss:=by
 apply ext_getElem (by simp);intro k h1 h2;rw[getElem_set];split
 ·rename_i e;subst e;simp[ng,List.getD,h]
 ·rfl
theorem Sat.pT {w0 w:World}{Γ:List HP}{α:Type}{T:Ty α}{e:TypeId}{ss:List Value}{xss:List (List α)}{i:Nat}{s':Value}{xs':List α}(hi:i<xss.length) (h:Sat w0 w (OS T e s' xs'::Ab T e ss xss::Γ)):Sat w0 w (Ab T e (ss.set i s') (xss.set i xs')::Γ):=by
 have hl:=h.swap.bw;have h1:=(h.swap.fb hi).tail;have h2:=h1.focus ((zipWith (OS T e) ss xss).eraseIdx i).length (A:=OS T e s' xs') (by rw[getElem?_append_right (Nat.le_refl _)];simp);refine Sat.lS hi hl ?_;rw[eraseIdx_append_of_length_le (Nat.le_refl _)]at h2
 simpa using h2
theorem Sat.jS {w0 w:World}{Γ:List HP}{α:Type}{T:Ty α}{e:TypeId}{ss:List Value}{xss:List (List α)}{i:Nat}{xs':List α}(hi:i<xss.length) (hl:ss.length=xss.length) (h:Sat w0 w (OS T e (cU ss i) xs'::((zipWith (OS T e) ss xss).eraseIdx i++Γ))):Sat w0 w (Ab T e ss (xss.set i xs')::Γ):=by
 have:=Sat.lS hi hl h
 rwa[qst om]at this
attribute [irreducible] ssub
end
section
def xy (P:Program) (t:Nat) (name:String) (f:Nat) (ptr:Bool) (elem:Nat):Bool :=
 (match P.underlying t with|some (.pointer e)=>e == elem|_=>false) &&
 match P.info? t with
 | some i=>(match i.methods.find? (·.name == name) with
   | some m=>m.path.isEmpty && (match m.func with|some (g,q)=>g == f && q == ptr|none=>false)
   | none=>false)
 | none=>false
class AI (P:Program) (t:Nat) (name:String) (f:outParam Nat) (ptr:outParam Bool) (elem:outParam Nat):Prop where
 ok:xy P t name f ptr elem=true
section
variable {P:Program}
theorem AI.rows {t f elem:Nat}{name:String}{ptr:Bool}(h:AI P t name f ptr elem):P.underlying t=some (.pointer elem)/\∃ i m,P.info? t=some i/\i.methods.find? (·.name == name)=some m/\m.path.toList=[]/\m.path.isEmpty=true/\m.func=some (f,ptr):=by
 have h:=h.ok;simp only[xy,Bool.and_eq_true]at h;obtain⟨h1,h2⟩:=h;refine⟨?_,?_⟩
 ·split at h1
  ·rename_i e he;rw[he];simp at h1;rw[h1]
  ·cases h1
 ·split at h2
  ·rename_i i hi
   split at h2
   ·rename_i m hm
    simp only[Bool.and_eq_true]at h2;obtain⟨h3,h4⟩:=h2;split at h4
    ·rename_i g q hg
     simp at h4;refine⟨i,m,hi,hm,?_,h3,by rw[hg,h4.1,h4.2]⟩
     simpa using h3
    ·cases h4
   ·cases h2
  ·cases h2
theorem qgq {t f elem:Nat}{name:String}(M:AI P t name f true elem) (fuel:Nat) (p:Addr) (w:World):(method (fuel+1) t (.pointer (some p)) name).run P w=.ok (f,.pointer (some p)) w:=by
 obtain⟨hu,i,m,hi,hm,hp,he,hf⟩:=M.rows;simp only[method,Sem.run_bind,run_typeInfo w hi,Result.andThen_ok,hm,hp,follow,Sem.run_pure,hf,receiverAt,run_underlying hu,Place.get]
theorem qlC {t f elem:Nat}{name:String}(M:AI P t name f false elem) [C:An P elem] (fuel:Nat) {p:Addr}{v:Value}{w:World}(hv:w.cell? p=some v):(method (fuel+1) t (.pointer (some p)) name).run P w=.ok (f,v) w:=by
 obtain⟨hu,i,m,hi,hm,hp,he,hf⟩:=M.rows;have hs:∀ (a b:String),Builtin.ssaWrapNilChk_ #[t] t #[.pointer (some p),strVal a,strVal b]=pure (.pointer (some p)):=fun _ _=>rfl;have hl:(loadVar elem p).run P w=.ok v w:=by
  simp only[loadVar,Sem.run_bind,C.plain.1,Result.andThen_ok,Bool.false_eq_true,if_false];simp[hv]
 simp only[method,Sem.run_bind,run_typeInfo w hi,Result.andThen_ok,hm,hp,follow,Sem.run_pure,hf,receiverAt,run_underlying hu,Place.get,he,if_true,hs,asAddr,hl]
variable {ops:Array Oper}{K:Fr->World->Prop}{r:List Oper}{ρ:Fr}{w w0:World}{Γ:List HP}{d:Option Nat}{ty:TypeId}{pos:String}{af:Array Edge}{x:Operand}
theorem qgr (P:Program):∃ m,P.types.size+Made.depth=m+1:=⟨P.types.size+(Made.depth-1),by rw[Nat.add_assoc];congr 1⟩
theorem qdy {t f elem:Nat}{name:String}{p:Addr}{xs:List Operand}{ts:Array TypeId}{vs:List Value}{R:Ending->World->Prop} [M:AI P t name f true elem] [C:Ae P f] (hr:aG ρ x=.iface t (.pointer (some p))) (hx:xs.map (aG ρ)=vs) (hc:Calls P f (.pointer (some p)::vs).toArray w R)
  (h:∀ e w',R e w'->∃ v,e=.returned v/\opsW P ops K r (fh ρ d v) w'):opsW P ops K (⟨d,.call { callee:=.invoke x name,args:=xs.toArray,argTypes:=ts },ty,pos,af,none⟩::r) ρ w:=by
 refine jr rfl ?_;obtain⟨m,hm⟩:=qgr P;have hr:(execOp (aG ρ) ⟨d,.call { callee:=.invoke x name,args:=xs.toArray,argTypes:=ts },ty,pos,af,none⟩).run P w=.ok (.enter f (.pointer (some p)::vs).toArray) w:=by
  have e:(#[aG ρ x]++Array.map (aG ρ) xs.toArray)=(.iface t (.pointer (some p))::vs).toArray:=by simp[hr,hx]
  simp only[execOp,resolve,Sem.run_bind,Sem.run_pure,Result.andThen_ok,invoke,e];simp only[getElem?_toArray,getElem?_cons_zero,callMethod,Sem.run_bind,run_program,Result.andThen_ok,hm,qgq M,C.run];congr 2;simp
 simp only[opW,hr,bC];refine Calls.mono hc fun e w' hR=>?_;obtain⟨v,rfl,hk⟩:=h e w' hR;exact hk
theorem ln {t f elem:Nat}{name:String}{p:Addr}{u:Value}{xs:List Operand}{ts:Array TypeId}{vs:List Value}{R:Ending->World->Prop} [M:AI P t name f false elem] [C:Ae P f] [E:An P elem] (hr:aG ρ x=.iface t (.pointer (some p))) (hx:xs.map (aG ρ)=vs) (hu:w.cell? p=some u) (hc:Calls P f (u::vs).toArray w R)
  (h:∀ e w',R e w'->∃ v,e=.returned v/\opsW P ops K r (fh ρ d v) w'):opsW P ops K (⟨d,.call { callee:=.invoke x name,args:=xs.toArray,argTypes:=ts },ty,pos,af,none⟩::r) ρ w:=by
 refine jr rfl ?_;obtain⟨m,hm⟩:=qgr P;have hr:(execOp (aG ρ) ⟨d,.call { callee:=.invoke x name,args:=xs.toArray,argTypes:=ts },ty,pos,af,none⟩).run P w=.ok (.enter f (u::vs).toArray) w:=by
  have e:(#[aG ρ x]++Array.map (aG ρ) xs.toArray)=(.iface t (.pointer (some p))::vs).toArray:=by simp[hr,hx]
  simp only[execOp,resolve,Sem.run_bind,Sem.run_pure,Result.andThen_ok,invoke,e];simp only[getElem?_toArray,getElem?_cons_zero,callMethod,Sem.run_bind,run_program,Result.andThen_ok,hm,qlC M m hu,C.run];congr 2;simp
 simp only[opW,hr,bC];refine Calls.mono hc fun e w' hR=>?_;obtain⟨v,rfl,hk⟩:=h e w' hR;exact hk
theorem Sat.fx {p:Addr}{bt:TypeId}{cells:List Value}{v:Value}{put:HP->List HP}(hw:Sat w0 w Γ) (B:AQ Γ p bt cells put) (hv:cells[0]? = some v):w.cell? p=some v:=by
 obtain⟨i,hi,_⟩:=B.j3.ok;exact zV hw hi hv
theorem xO {α:Type}(T:Ty α) {t e sz by_:Nat}{d:Nat} [S:Ah P t e sz by_] (hw:Sat w0 w Γ) (h:∀ s w',Sat w0 w' (OS T e s []::Γ)->opsW P ops K r (dD ρ d s) w'):opsW P ops K (⟨some d,.buildSlice t 0 #[],ty,pos,af,none⟩::r) ρ w:=by
 refine jr rfl ?_;simp only[opW,execOp,Instr.buildSlice,Sem.run_bind,run_underlying S.eU,Result.andThen_ok,S.size,Sem.run_pure,Nat.zero_mul,not_lt_zero,if_false,if_true,gt_iff_lt,map_toArray,map_nil,Instr.fill];simp only[Sem.run_bind,newRow,run_newObj,Result.andThen_ok,Sem.run_pure,bC];exact h _ _ (w6 (e:=e) (xs:=([]:List α)) (by simp) rfl (by unfold bo;omega) rfl hw)
@[irreducible] def az {α:Type}(T:Ty α) (xs:List α) (i:Nat):α:=xs.getD i T.dflt
theorem n0 {α:Type}(T:Ty α) (xs:List α) (i:Nat):az T xs i=xs.getD i T.dflt:=by unfold az;rfl
class BN {α:Type}(T:Ty α):Prop where
 ok:True
theorem qb0 {α:Type}{T:Ty α}{i n:Nat}{s:Value}{xs:List α}{ty:TypeId}{pos:String}{af:Array Edge}{g:Option (Nat × Bool)}{dst:Option Nat}{t:TypeId} [A:AH P t n] (hx:aG ρ x=.pointer (some (eX T s i))) (h:RS T w s xs) (hi:i<xs.length) (hn:n=T.sz) (_O:BN T):ReadV P ⟨dst,.load t x,ty,pos,af,g⟩ ρ w (.agg (T.enc (az T xs i)).toArray):=by
 rw[n0];exact zI hx h hi hn
theorem qbp {α:Type}{T:Ty α}{i k:Nat}{v:Value}{s:Value}{xs:List α}{ty:TypeId}{pos:String}{af:Array Edge}{g:Option (Nat × Bool)}{dst:Option Nat}{t:TypeId} [C:An P t] (hx:aG ρ x=.pointer (some ((eX T s i).add k))) (h:RS T w s xs) (hi:i<xs.length) (hk:k<T.sz) (_O:BN T) (hv:(T.enc (az T xs i))[k]? = some v):ReadV P ⟨dst,.load t x,ty,pos,af,g⟩ ρ w v:=by
 rw[n0]at hv;exact zH hx h hi hk hv
theorem RS.dc {α:Type}{T:Ty α}{w:World}{s:Value}{xs:List α}(h:RS T w s xs):s.cells.toList=[s]:=by
 obtain⟨a,cap,rfl⟩:=h.shape;rfl
class CB (P:Program) (t:Nat):Prop where
 ok:(match P.underlying t with|some .string=>true|_=>false)=true
theorem CB.eU {t:Nat}(h:CB P t):P.underlying t=some .string:=by
 have h:=h.ok;split at h
 ·rename_i he;exact he
 ·cases h
@[irreducible] def uO (b:ByteArray) (i:Nat):Int:=(((b[i]?).getD 0).toNat:Int)
theorem qv4 (b:ByteArray) (i:Nat):uO b i=(((b[i]?).getD 0).toNat:Int):=by unfold uO;rfl
theorem qqc {t:TypeId}{ty:TypeId}{pos:String}{af:Array Edge}{g:Option (Nat × Bool)}{dst:Option Nat}{b:ByteArray} [S:CB P t] (hx:aG ρ x=.string b):PureV P ⟨dst,.call { callee:=.builtin .len,args:=#[x],argTypes:=#[t] },ty,pos,af,g⟩ ρ (.int .i64 b.size):=fun w=>by
 simp[execOp,resolve,invoke,builtin,Builtin.len_,hx,run_underlying S.eU,goInt]
theorem qj7 {t:TypeId}{ty:TypeId}{pos:String}{af:Array Edge}{g:Option (Nat × Bool)}{dst:Option Nat}{y:Operand}{b:ByteArray}{j:Nat} [S:CB P t] (hx:aG ρ x=.string b) (hy:aG ρ y=.int .i64 j) (hj:j<b.size):PureV P ⟨dst,.index t x y,ty,pos,af,g⟩ ρ (.int .u8 (uO b j)):=fun w=>by
 have hg:b[j]? = some b[j]:=by simp[hj]
 simp[execOp,Instr.index,hx,hy,asIntOf,run_underlying S.eU,qv4,hg]
variable {dst:Option Nat}{t t':TypeId}{g:Option (Nat × Bool)}{y:Operand}{a b:Int}
theorem qvg (hb:0<b) (h0 : -9223372036854775807<=a) (h1:a<=9223372036854775807) : -9223372036854775808<=a.tdiv b/\a.tdiv b<=9223372036854775807:=by
 have h:=Int.natAbs_tdiv_le_natAbs a b;omega
theorem qt2 (hx:aG ρ x=.int .i64 a) (hy:aG ρ y=.int .i64 b) (hb:0<b) (h0 : -9223372036854775807<=a) (h1:a<=9223372036854775807):PureV P ⟨dst,.binOp .quo t x y t',ty,pos,af,g⟩ ρ (.int .i64 (a.tdiv b)):=fun w=>by
 have eY:b≠0:=by omega
 have:=qvg hb h0 h1;simp[execOp,eqGuard,binOp,Op.intDiv,hx,hy,eY,vt this.1 this.2]
theorem qt3 (hx:aG ρ x=.int .i64 a) (hy:aG ρ y=.int .i64 b) (hb:0<b):PureV P ⟨dst,.binOp .rem t x y t',ty,pos,af,g⟩ ρ (.int .i64 (a.tmod b)):=fun w=>by
 have eY:b≠0:=by omega
 simp[execOp,eqGuard,binOp,Op.intDiv,hx,hy,eY]
end
section
variable {w0 w:World}{Γ Δ:List HP}
class Cq (Γ:List HP) (A:HP) (Γ':outParam (List HP)):Prop where
 ok:∃ i,Γ[i]? = some A/\Γ'=Γ.eraseIdx i
instance (priority:=high) pick_here {A:HP}{Γ:List HP}:Cq (A::Γ) A Γ:=⟨0,rfl,rfl⟩
instance yt {A B:HP}{Γ Γ':List HP} [h:Cq Γ A Γ']:Cq (B::Γ) A (B::Γ'):=by
 obtain⟨i,h1,h2⟩:=h.ok;exact⟨i+1,by simpa using h1,by simp[h2]⟩
class C8 (Γ Δ:List HP):Prop where
 ok:∀ h,Ap Γ h->Ap Δ h
instance qxP {Γ:List HP}:C8 Γ []:=⟨fun _ _=>trivial⟩
instance qwN {A:HP}{Γ Γ' Δ:List HP} [p:Cq Γ A Γ'] [s:C8 Γ' Δ]:C8 Γ (A::Δ):=⟨fun h hh=>by
 obtain⟨i,h1,h2⟩:=p.ok;obtain⟨g1,g2,d,s1,s2,a,g⟩:=hh.focus i h1;rw[<-h2]at g
 exact⟨g1,g2,d,s1,s2,a,s.ok g2 g⟩⟩
theorem Sat.aT [s:C8 Γ Δ] (h:Sat w0 w Γ):Sat w0 w Δ:=⟨h.below,s.ok _ h.sat⟩
def Aj (φ:World->Prop):HP:=fun h=>∀ w:World,(∀ b o,h b=some o->w.heap[b]? = some o)->φ w
theorem Sat.rd {φ:World->Prop}(hφ:∀ w0 w,Sat w0 w Δ->φ w) (h:Sat w0 w (Δ++Γ)):Sat w0 w (Aj φ::Γ):=by
 obtain⟨h1,h2,d,s1,s2,a,g⟩:=Ap.split Δ h.sat;refine⟨h.below,h1,h2,d,s1,s2,fun w' dA=>hφ { w' with heap:=#[] } w' ⟨⟨rfl,rfl,rfl,zero_le _,fun k hk=>absurd hk (not_lt_zero _)⟩,a.sub fun b o hb=>?_⟩,g⟩;simp only[dw];rw[if_neg (by simp)];exact dA b o hb
theorem Sat.dM {φ:World->Prop}(h:Sat w0 w Γ) (i:Nat) (hi:Γ[i]? = some (Aj φ)):φ w:=by
 obtain⟨h1,hs,a⟩:=h.at i hi;exact a w fun b o hb=>(hs b o hb).1
theorem Sat.rd2 {φ ψ χ:World->Prop}(hc:∀ w,φ w->ψ w->χ w) (h:Sat w0 w (Aj φ::Aj ψ::Γ)):Sat w0 w (Aj χ::Γ) :=
 Sat.rd (Δ:=[Aj φ,Aj ψ]) (fun _ w hw=>hc w (hw.dM 0 rfl) (hw.dM 1 rfl)) h
theorem Sat.nX {φ:World->Prop}(hφ:∀ w,φ w) (h:Sat w0 w Γ):Sat w0 w (Aj φ::Γ):=Sat.rd (Δ:=[]) (fun _ w _=>hφ w) h
def AD (w:World) (p:Addr) (cells:List Value):Prop:=∀ j v,cells[j]? = some v->w.cell? (p.add j)=some v
theorem qdr {p:Addr}{v:Value}(h:w0.cell? p=some v) (hw:Sat w0 w Γ):w.cell? p=some v:=by
 have bD:p.block<w0.heap.size:=by
  rcases Nat.lt_or_ge p.block w0.heap.size with h'|h'
  ·exact h'
  ·simp[World.cell?,Array.getElem?_eq_none h']at h
 rw[hw.below.cell bD];exact h
theorem AD.at {p:Addr}{cells:List Value}(h:AD w0 p cells) (hw:Sat w0 w Γ):AD w p cells:=fun j v hv=>qdr (h j v hv) hw
theorem Sat.mR {p:Addr}{t:TypeId}{cells:List Value}(hw:Sat w0 w Γ) (i:Nat) (hi:Γ[i]? = some (Ad p t cells)):AD w p cells:=fun _ _ hv=>jw hw hi hv
theorem mM {p:Addr}{t:TypeId}{cells:List Value}{put:HP->List HP} [B:AQ Γ p t cells put] (hw:Sat w0 w Γ):AD w p cells:=by
 obtain⟨i,hi,_⟩:=B.j3.ok;exact hw.mR i hi
theorem qpB (p:Addr) (a b:Nat):(p.add a).add b=p.add (a+b):=by
 unfold Addr.add;by_cases ha:a=0
 ·subst ha;simp
 ·by_cases hb:b=0
  ·subst hb;simp
  ·simp[ha,hb,Nat.add_assoc]
variable {P:Program}{ρ:Fr}{ty:TypeId}{pos:String}{af:Array Edge}{g:Option (Nat × Bool)}{dst:Option Nat}{x y:Operand}{t t':TypeId}
theorem qga {k:Nat}{p:Addr}{cells:List Value}{v:Value} [C:An P t] (hx:aG ρ x=.pointer (some (p.add k))) (h:AD w p cells) (hv:cells[k]? = some v):ReadV P ⟨dst,.load t x,ty,pos,af,g⟩ ρ w v:=sF hx (h _ _ hv)
theorem qeg {p:Addr}{cells:List Value}{v:Value} [C:An P t] (hx:aG ρ x=.pointer (some p)) (h:AD w p cells) (hv:cells[0]? = some v):ReadV P ⟨dst,.load t x,ty,pos,af,g⟩ ρ w v :=
 sF hx (by have:=h _ _ hv;simpa [Addr.add] using this)
theorem qcq {n:Nat}{p:Addr}{cells:List Value} [A:AH P t n] (hx:aG ρ x=.pointer (some p)) (h:AD w p cells) (hn:cells.length=n):ReadV P ⟨dst,.load t x,ty,pos,af,g⟩ ρ w (.agg cells.toArray) :=
 qjb hx hn h
theorem qeh {f off ft a:Nat}{p:Addr} [T:Ag P t f off ft] (hx:aG ρ x=.pointer (some (p.add a))):PureV P ⟨dst,.fieldAddr t x f,ty,pos,af,g⟩ ρ (.pointer (some (p.add (a+off)))):=by
 have:=qdd (P:=P) (t:=t) (f:=f) (ρ:=ρ) (dst:=dst) (ty:=ty) (pos:=pos) (af:=af) (g:=g) hx
 rwa[qpB]at this
class BS (P:Program) (t:Nat):Prop where
 ok:(match P.underlying t with|some (.pointer _)=>true|_=>false)=true
theorem BS.eU (h:BS P t):P.underlying t=some (.pointer (P.pointee t)):=by
 have h:=h.ok;split at h
 ·rename_i e he;rw[he];simp[Program.pointee,he]
 ·cases h
theorem qhx {a:Option Addr} [T:BS P t] (hx:aG ρ x=.pointer a):PureV P ⟨dst,.binOp .eql t x (.const (.pointer none)) t',ty,pos,af,g⟩ ρ (.bool a.isNone):=fun w=>by
 have h1:=run_eql_pointer_nil w t a T.eU;simp only[execOp,eqGuard,hx];cases x<;>simp[aG,h1]
theorem qhy {a:Option Addr} [T:BS P t] (hx:aG ρ x=.pointer a):PureV P ⟨dst,.binOp .neq t x (.const (.pointer none)) t',ty,pos,af,g⟩ ρ (.bool (!a.isNone)):=fun w=>by
 have h1:=run_neq_pointer_nil w t a T.eU;simp only[execOp,eqGuard,hx];cases x<;>simp[aG,h1]
def td (places:List (Nat × Nat)) (cs:List Value):List (Nat × List Value)->List Value
 | []=>cs
 | (i,l)::r=>td places (match places[i]? with|some (off,size)=>cs.take off++l++cs.drop (off+size)|none=>cs) r
def vq (places:List (Nat × Nat)) (n:Nat):List (Nat × List Value)->Bool
 | []=>true
 | (i,l)::r=>(match places[i]? with|some (off,size)=>l.length == size && ble (off+size) n|none=>false) && vq places n r
theorem qmG {places:List (Nat × Nat)}{n:Nat}:∀ (vs:List (Nat × Value)) (cs:List Value),cs.length=n->vq places n (vs.map fun p=>(p.1,p.2.cells.toList))=true ->
  Instr.fill (places[·]?) cs.toArray vs=some (td places cs (vs.map fun p=>(p.1,p.2.cells.toList))).toArray
 | [],cs,_,_=>by simp[Instr.fill,td]
 | (i,v)::vs,cs,hc,hb=>by
  simp only[map_cons,vq,Bool.and_eq_true]at hb;obtain⟨h1,h2⟩:=hb
  cases hp:places[i]? with
  | none=>simp[hp]at h1
  | some q =>
   obtain⟨off,size⟩:=q;simp only[hp,Bool.and_eq_true,beq_iff_eq,ble_eq]at h1;obtain⟨h3,h4⟩:=h1;rw[qgx hp (by simpa using h3) om,qmG vs _ (by simp at h3;simp[h3];omega) h2];simp only[map_cons,td,hp]
variable {ops:Array Oper}{K:Fr->World->Prop}{r:List Oper}{d:Nat}
theorem qc4 {parts:List (Nat × Operand)}{vs:List (Nat × Value)}{ls:List (Nat × List Value)}{places:List (Nat × Nat)}{zs:List Value} [S:Al P t places] [Z:Ai P t zs] (hp:(parts.map fun p=>(p.1,aG ρ p.2))=vs)
  (hc:(vs.map fun p=>(p.1,p.2.cells.toList))=ls) (hb:vq places zs.length ls=true) (h:opsW P ops K r (dD ρ d (.agg (td places zs ls).toArray)) w):opsW P ops K (⟨some d,.build t parts.toArray,ty,pos,af,none⟩::r) ρ w:=by
 subst hc;exact qka hp (qmG vs zs rfl hb) h
theorem qiq {v:Value}(h:v.oneCell'=true):v.cells.toList=[v]:=by
 cases v<;>first|rfl|(simp[Value.oneCell']at h)
theorem xP {vs:List Value}(hx:aG ρ x=.agg vs.toArray) (hw:Sat w0 w Γ) (h:∀ p w',Sat w0 w' (Ad p t vs::Γ)->opsW P ops K r (dD ρ d (.pointer (some p))) w'):opsW P ops K (⟨some d,.box t x,ty,pos,af,none⟩::r) ρ w :=
 qkB hx hw fun p w' hs=>h p w' (by simpa [Value.cells] using hs)
end
section
variable {P:Program}{ops:Array Oper}{K:Fr->World->Prop}{r:List Oper}{ρ:Fr}{w w0:World}{d:Nat}{ty:TypeId}{pos:String}{af:Array Edge}{dst:Option Nat}{x y:Operand}{t:TypeId}{Γ:List HP}{op:Op}{v:Value}
theorem xL (h:opsW P ops K r (dD ρ d v) w)
  (hc:cls P op=.pure:=by exact rfl)
  (hv:PureV P ⟨some d,op,ty,pos,af,none⟩ ρ v:=by
   first
    | (apply qqP;(conv=>lhs;whnf))
    | (apply qgK;(conv=>lhs;whnf))
    | ((first|apply qub|apply que|apply qud|apply quc)<;>exact rfl)
    | (apply quf<;>exact rfl)
    | (apply qug<;>exact rfl)
    | ((first|apply quh|apply qui);exact rfl;exact rfl;omega;omega)
    | (apply quj;exact rfl;exact rfl;(first|omega|assumption);(first|omega|assumption))
    | (apply qt2;exact rfl;exact rfl;omega;omega;omega)
    | (apply qt3;exact rfl;exact rfl;omega)
    | (apply quk;exact rfl)
    | (apply qeh;exact rfl)
    | (apply qdd;exact rfl)
    | (apply qum;(conv=>lhs;whnf);(first|exact RS.at (by assumption) hw|exact aM hw|assumption))
    | (apply qqc;exact rfl)
    | (apply qj7;exact rfl;exact rfl;omega)
    | (apply qkz;(conv=>lhs;whnf);exact rfl;(first|exact RS.at (by assumption) hw|exact aM hw|assumption);exact rfl;exact zero_lt_succ _;omega)
    | (apply qja;(conv=>lhs;whnf);exact rfl;(first|exact RS.at (by assumption) hw|exact aM hw|assumption);exact rfl;exact zero_lt_succ _;omega;omega)
    | (apply qhY<;>exact rfl)
    | (apply qnm;(conv=>lhs;whnf))
    | (apply qkx;exact rfl)
    | (apply qhx;exact rfl)
    | (apply qhy;exact rfl)
    | (apply qky;exact rfl)
    | (apply qhW<;>exact rfl)
    | (apply qhX<;>exact rfl)
    | (apply wy<;>exact rfl)
    | (apply qua<;>exact rfl)
    | (apply qgL;exact rfl)
    | (apply qfv;exact rfl)
    | (apply qgt;exact rfl)
    | (apply qj8;exact rfl)
    | (apply qqd<;>exact rfl)
    | (apply qqe<;>exact rfl)
    | (apply qgu;exact rfl)
    | ((first|apply qt4|apply qt5)<;>exact rfl)
    | (apply qul;exact rfl;omega;omega)
    | (apply qnn<;>exact rfl)
    | (apply qqQ;exact rfl;(conv=>lhs;whnf);(conv=>lhs;whnf))
    | (apply qhA;(conv=>lhs;whnf);exact rfl;(first|exact RS.at (by assumption) hw|exact aM hw|assumption);exact rfl;omega;omega)
    | (apply qfn;(conv=>lhs;whnf);exact rfl;(first|exact RS.at (by assumption) hw|exact aM hw|assumption);exact rfl;omega;omega)
    | (apply qfo;(conv=>lhs;whnf);exact rfl;exact rfl;(first|exact RS.at (by assumption) hw|exact aM hw|assumption);exact rfl;omega;omega;omega)
    | (apply qge;(conv=>lhs;whnf);(first|exact RS.at (by assumption) hw|exact aM hw|assumption);exact rfl)):opsW P ops K (⟨some d,op,ty,pos,af,none⟩::r) ρ w:=eD hc hv h
theorem zF (h:opsW P ops K r (dD ρ d v) w)
  (hc:cls P op=.read:=by exact rfl)
  (hv:ReadV P ⟨some d,op,ty,pos,af,none⟩ ρ w v:=by
   first
    | (apply qkA;exact rfl;exact hw;infer_instance;exact rfl)
    | (apply qgN;exact rfl;exact hw;infer_instance;exact rfl)
    | (apply qem;exact rfl;(first|exact RS.at (by assumption) hw|exact aM hw|assumption);omega)
    | (apply qbp;exact rfl;(first|exact RS.at (by assumption) hw|exact aM hw|assumption);omega;exact Nat.lt_of_sub_pos (zero_lt_succ _);infer_instance;exact rfl)
    | (apply qb0;exact rfl;(first|exact RS.at (by assumption) hw|exact aM hw|assumption);omega;exact rfl;infer_instance)
    | (apply zG;exact rfl;(first|exact RS.at (by assumption) hw|exact aM hw|assumption);omega;exact rfl)
    | (apply zH;exact rfl;(first|exact RS.at (by assumption) hw|exact aM hw|assumption);omega;exact Nat.lt_of_sub_pos (zero_lt_succ _);exact rfl)
    | (apply zI;exact rfl;(first|exact RS.at (by assumption) hw|exact aM hw|assumption);omega;exact rfl)
    | (apply qde;exact rfl;exact hw;infer_instance;exact rfl)
    | (apply qga;exact rfl;exact AD.at (by assumption) hw;exact rfl)
    | (apply qeg;exact rfl;exact AD.at (by assumption) hw;exact rfl)
    | (apply qcq;exact rfl;exact AD.at (by assumption) hw;exact rfl)):opsW P ops K (⟨some d,op,ty,pos,af,none⟩::r) ρ w:=sq hc hv h
theorem qq {j:Nat}{want:Bool}{s:Nat}(h:opsW P ops K (⟨dst,op,ty,pos,af,none⟩::r) ρ w) (hj:gj ops j=some s:=by exact rfl) (hg:asks (ρ s) want=true:=by exact rfl):opsW P ops K (⟨dst,op,ty,pos,af,some (j,want)⟩::r) ρ w:=qkv hj hg h
theorem qt {j:Nat}{want:Bool}{s:Nat}(h:opsW P ops K r (fh ρ dst undef) w) (hj:gj ops j=some s:=by exact rfl) (hg:asks (ρ s) want=false:=by exact rfl):opsW P ops K (⟨dst,op,ty,pos,af,some (j,want)⟩::r) ρ w:=qkw hj hg h
theorem qfz {j:Nat}{want c:Bool}{s:Nat}(h:opsW P ops K r (dD ρ d (gv c v)) w)
  (hc:cls P op=.pure:=by exact rfl) (hj:gj ops j=some s:=by exact rfl) (hg:Gd (ρ s) want c:=by first|exact qlN _ _|exact CP _ _ _)
  (hv:c=true->PureV P ⟨some d,op,ty,pos,af,none⟩ ρ v:=by
   intro hg;have hq:=hg
   (try simp only[beq_iff_eq,Bool.and_eq_true,Bool.or_eq_true,decide_eq_true_eq,decide_eq_false_iff_not,Bool.not_eq_true,Bool.not_eq_false,Bool.not_eq_eq_eq_not,Bool.not_true,Bool.not_false,Bool.and_eq_false_iff,Bool.or_eq_false_iff,bne_iff_ne,ne_eq,Int.not_lt,Int.not_le,Nat.not_lt,Nat.not_le]at hq)
   first
    | (apply qwd hg<;>exact rfl)
    | (apply qvw hg<;>exact rfl)
    | (apply qqP;(first|exact aQ hg|exact aQ (aS hg)|(conv=>lhs;whnf)))
    | (apply qgK;(first|exact aQ hg|exact aQ (aS hg)|(conv=>lhs;whnf)))
    | ((first|apply qub|apply que|apply qud|apply quc)<;>(first|exact rfl|exact aQ hg|exact aQ (aS hg)))
    | (apply quf<;>(first|exact rfl|exact aQ hg|exact aQ (aS hg)))
    | (apply qug<;>(first|exact rfl|exact aQ hg|exact aQ (aS hg)))
    | ((first|apply quh|apply qui);(first|exact rfl|exact aQ hg|exact aQ (aS hg));(first|exact rfl|exact aQ hg|exact aQ (aS hg));omega;omega)
    | (apply quj;(first|exact rfl|exact aQ hg|exact aQ (aS hg));(first|exact rfl|exact aQ hg|exact aQ (aS hg));(first|omega|assumption);(first|omega|assumption))
    | (apply qt2;(first|exact rfl|exact aQ hg|exact aQ (aS hg));(first|exact rfl|exact aQ hg|exact aQ (aS hg));omega;omega;omega)
    | (apply qt3;(first|exact rfl|exact aQ hg|exact aQ (aS hg));(first|exact rfl|exact aQ hg|exact aQ (aS hg));omega)
    | (apply quk;(first|exact rfl|exact aQ hg|exact aQ (aS hg)))
    | (apply qeh;(first|exact rfl|exact aQ hg|exact aQ (aS hg)))
    | (apply qdd;(first|exact rfl|exact aQ hg|exact aQ (aS hg)))
    | (apply qum;(first|exact aQ hg|exact aQ (aS hg)|(conv=>lhs;whnf));(first|exact RS.at (by assumption) hw|exact aM hw|assumption))
    | (apply qqc;(first|exact rfl|exact aQ hg|exact aQ (aS hg)))
    | (apply qj7;(first|exact rfl|exact aQ hg|exact aQ (aS hg));(first|exact rfl|exact aQ hg|exact aQ (aS hg));omega)
    | (apply qkz;(first|exact aQ hg|exact aQ (aS hg)|(conv=>lhs;whnf));(first|exact rfl|exact aQ hg|exact aQ (aS hg));(first|exact RS.at (by assumption) hw|exact aM hw|assumption);(first|exact rfl|exact aQ hg|exact aQ (aS hg));exact zero_lt_succ _;omega)
    | (apply qja;(first|exact aQ hg|exact aQ (aS hg)|(conv=>lhs;whnf));(first|exact rfl|exact aQ hg|exact aQ (aS hg));(first|exact RS.at (by assumption) hw|exact aM hw|assumption);(first|exact rfl|exact aQ hg|exact aQ (aS hg));exact zero_lt_succ _;omega;omega)
    | (apply qhY<;>(first|exact rfl|exact aQ hg|exact aQ (aS hg)))
    | (apply qnm;(first|exact aQ hg|exact aQ (aS hg)|(conv=>lhs;whnf)))
    | (apply qkx;(first|exact rfl|exact aQ hg|exact aQ (aS hg)))
    | (apply qhx;(first|exact rfl|exact aQ hg|exact aQ (aS hg)))
    | (apply qhy;(first|exact rfl|exact aQ hg|exact aQ (aS hg)))
    | (apply qky;(first|exact rfl|exact aQ hg|exact aQ (aS hg)))
    | (apply qhW<;>(first|exact rfl|exact aQ hg|exact aQ (aS hg)))
    | (apply qhX<;>(first|exact rfl|exact aQ hg|exact aQ (aS hg)))
    | (apply wy<;>(first|exact rfl|exact aQ hg|exact aQ (aS hg)))
    | (apply qua<;>(first|exact rfl|exact aQ hg|exact aQ (aS hg)))
    | (apply qgL;(first|exact rfl|exact aQ hg|exact aQ (aS hg)))
    | (apply qfv;(first|exact rfl|exact aQ hg|exact aQ (aS hg)))
    | (apply qgt;(first|exact rfl|exact aQ hg|exact aQ (aS hg)))
    | (apply qj8;(first|exact rfl|exact aQ hg|exact aQ (aS hg)))
    | (apply qqd<;>(first|exact rfl|exact aQ hg|exact aQ (aS hg)))
    | (apply qqe<;>(first|exact rfl|exact aQ hg|exact aQ (aS hg)))
    | (apply qgu;(first|exact rfl|exact aQ hg|exact aQ (aS hg)))
    | ((first|apply qt4|apply qt5)<;>(first|exact rfl|exact aQ hg|exact aQ (aS hg)))
    | (apply qul;(first|exact rfl|exact aQ hg|exact aQ (aS hg));omega;omega)
    | (apply qnn<;>(first|exact rfl|exact aQ hg|exact aQ (aS hg)))
    | (apply qqQ;(first|exact rfl|exact aQ hg|exact aQ (aS hg));(first|exact aQ hg|exact aQ (aS hg)|(conv=>lhs;whnf));(first|exact aQ hg|exact aQ (aS hg)|(conv=>lhs;whnf)))
    | (apply qhA;(first|exact aQ hg|exact aQ (aS hg)|(conv=>lhs;whnf));(first|exact rfl|exact aQ hg|exact aQ (aS hg));(first|exact RS.at (by assumption) hw|exact aM hw|assumption);(first|exact rfl|exact aQ hg|exact aQ (aS hg));omega;omega)
    | (apply qfn;(first|exact aQ hg|exact aQ (aS hg)|(conv=>lhs;whnf));(first|exact rfl|exact aQ hg|exact aQ (aS hg));(first|exact RS.at (by assumption) hw|exact aM hw|assumption);(first|exact rfl|exact aQ hg|exact aQ (aS hg));omega;omega)
    | (apply qfo;(first|exact aQ hg|exact aQ (aS hg)|(conv=>lhs;whnf));(first|exact rfl|exact aQ hg|exact aQ (aS hg));(first|exact rfl|exact aQ hg|exact aQ (aS hg));(first|exact RS.at (by assumption) hw|exact aM hw|assumption);(first|exact rfl|exact aQ hg|exact aQ (aS hg));omega;omega;omega)
    | (apply qge;(first|exact aQ hg|exact aQ (aS hg)|(conv=>lhs;whnf));(first|exact RS.at (by assumption) hw|exact aM hw|assumption);(first|exact rfl|exact aQ hg|exact aQ (aS hg)))):opsW P ops K (⟨some d,op,ty,pos,af,some (j,want)⟩::r) ρ w:=qgI hc hj hg hv h
theorem qfA {j:Nat}{want c:Bool}{s:Nat}(h:opsW P ops K r (dD ρ d (gv c v)) w)
  (hc:cls P op=.read:=by exact rfl) (hj:gj ops j=some s:=by exact rfl) (hg:Gd (ρ s) want c:=by first|exact qlN _ _|exact CP _ _ _)
  (hv:c=true->ReadV P ⟨some d,op,ty,pos,af,none⟩ ρ w v:=by
   intro hg;have hq:=hg
   (try simp only[beq_iff_eq,Bool.and_eq_true,Bool.or_eq_true,decide_eq_true_eq,decide_eq_false_iff_not,Bool.not_eq_true,Bool.not_eq_false,Bool.not_eq_eq_eq_not,Bool.not_true,Bool.not_false,Bool.and_eq_false_iff,Bool.or_eq_false_iff,bne_iff_ne,ne_eq,Int.not_lt,Int.not_le,Nat.not_lt,Nat.not_le]at hq)
   first
    | (apply qkA;(first|exact rfl|exact aQ hg|exact aQ (aS hg));exact hw;infer_instance;(first|exact rfl|exact aQ hg|exact aQ (aS hg)))
    | (apply qgN;(first|exact rfl|exact aQ hg|exact aQ (aS hg));exact hw;infer_instance;(first|exact rfl|exact aQ hg|exact aQ (aS hg)))
    | (apply qem;(first|exact rfl|exact aQ hg|exact aQ (aS hg));(first|exact RS.at (by assumption) hw|exact aM hw|assumption);omega)
    | (apply qbp;(first|exact rfl|exact aQ hg|exact aQ (aS hg));(first|exact RS.at (by assumption) hw|exact aM hw|assumption);omega;exact Nat.lt_of_sub_pos (zero_lt_succ _);infer_instance;(first|exact rfl|exact aQ hg|exact aQ (aS hg)))
    | (apply qb0;(first|exact rfl|exact aQ hg|exact aQ (aS hg));(first|exact RS.at (by assumption) hw|exact aM hw|assumption);omega;(first|exact rfl|exact aQ hg|exact aQ (aS hg));infer_instance)
    | (apply zG;(first|exact rfl|exact aQ hg|exact aQ (aS hg));(first|exact RS.at (by assumption) hw|exact aM hw|assumption);omega;(first|exact rfl|exact aQ hg|exact aQ (aS hg)))
    | (apply zH;(first|exact rfl|exact aQ hg|exact aQ (aS hg));(first|exact RS.at (by assumption) hw|exact aM hw|assumption);omega;exact Nat.lt_of_sub_pos (zero_lt_succ _);(first|exact rfl|exact aQ hg|exact aQ (aS hg)))
    | (apply zI;(first|exact rfl|exact aQ hg|exact aQ (aS hg));(first|exact RS.at (by assumption) hw|exact aM hw|assumption);omega;(first|exact rfl|exact aQ hg|exact aQ (aS hg)))
    | (apply qde;(first|exact rfl|exact aQ hg|exact aQ (aS hg));exact hw;infer_instance;(first|exact rfl|exact aQ hg|exact aQ (aS hg)))
    | (apply qga;(first|exact rfl|exact aQ hg|exact aQ (aS hg));exact AD.at (by assumption) hw;(first|exact rfl|exact aQ hg|exact aQ (aS hg)))
    | (apply qeg;(first|exact rfl|exact aQ hg|exact aQ (aS hg));exact AD.at (by assumption) hw;(first|exact rfl|exact aQ hg|exact aQ (aS hg)))
    | (apply qcq;(first|exact rfl|exact aQ hg|exact aQ (aS hg));exact AD.at (by assumption) hw;(first|exact rfl|exact aQ hg|exact aQ (aS hg)))):opsW P ops K (⟨some d,op,ty,pos,af,some (j,want)⟩::r) ρ w:=qgJ hc hj hg hv h
theorem rh (v:Value):gv (false == false) v=v:=aQ rfl
theorem ri (v:Value):gv (true == true) v=v:=aQ rfl
theorem qo3 {j:Nat}{want b:Bool}{s:Nat}(h1:b=true->opsW P ops K (⟨dst,op,ty,pos,af,some (j,want)⟩::r) ρ w) (h0:b=false->opsW P ops K (⟨dst,op,ty,pos,af,some (j,want)⟩::r) ρ w) (_hj:gj ops j=some s:=by exact rfl) (_hs:ρ s=.bool b:=by exact rfl):opsW P ops K (⟨dst,op,ty,pos,af,some (j,want)⟩::r) ρ w:=by
 cases hb:b with
 | true=>exact h1 hb
 | false=>exact h0 hb
theorem qfB {zs:List Value} [Z:Ai P t zs] (h:∀ p w',Sat w0 w' (Ad p t zs::Γ)->opsW P ops K r (dD ρ d (.pointer (some p))) w') (hw:Sat w0 w Γ:=by exact hw):opsW P ops K (⟨some d,.alloc t,ty,pos,af,none⟩::r) ρ w:=qtd hw h
theorem wz (h:∀ p w',Sat w0 w' (Ad p t v.cells.toList::Γ)->opsW P ops K r (dD ρ d (.pointer (some p))) w') (hx:aG ρ x=v:=by (conv=>lhs;whnf)) (hw:Sat w0 w Γ:=by exact hw):opsW P ops K (⟨some d,.box t x,ty,pos,af,none⟩::r) ρ w:=qkB hx hw h
theorem qfX {n:Nat}{p:Addr}{bt:TypeId}{cells vs:List Value}{put:HP->List HP} [A:AH P t n] (h:∀ w',Sat w0 w' (put (Ad p bt vs))->opsW P ops K r ρ w')
  (hx:aG ρ x=.pointer (some p):=by exact rfl) (hy:aG ρ y=.agg vs.toArray:=by exact rfl) (hw:Sat w0 w Γ:=by exact hw) (B:AQ Γ p bt cells put:=by infer_instance) (hn:vs.length=n:=by exact rfl) (hl:cells.length=n:=by exact rfl) (hv:vs.all Value.oneCell'=true:=by first|exact rfl|assumption):opsW P ops K (⟨none,.store t x y,ty,pos,af,none⟩::r) ρ w:=gZ hx hy hw B hn hl hv h
theorem qjx {α:Type}{T:Ty α}{s:Value}{xs:List α}{j:Nat}{e:TypeId}{x':α}{put:HP->List HP} [C:An P t] (h:∀ w',Sat w0 w' (put (OS T e s (xs.set j x')))->opsW P ops K r ρ w')
  (hx:aG ρ x=.pointer (some (eX T s j)):=by exact rfl) (hy:aG ρ y=v:=by (conv=>lhs;whnf)) (hv:v.oneCell'=true:=by first|exact rfl|exact RS.one (aM hw)|exact RS.one (by assumption)) (hw:Sat w0 w Γ:=by exact hw) (O:AT Γ s α T e xs put:=by infer_instance) (hj:j<xs.length:=by omega) (he:T.enc x'=[v]:=by exact rfl):opsW P ops K (⟨none,.store t x y,ty,pos,af,none⟩::r) ρ w:=qvy hx hy hv hw O hj he h
theorem qjy {p:Addr}{bt:TypeId}{cells:List Value}{put:HP->List HP} [C:An P t] (h:∀ w',Sat w0 w' (put (Ad p bt (cells.set 0 v)))->opsW P ops K r ρ w')
  (hx:aG ρ x=.pointer (some p):=by exact rfl) (hy:aG ρ y=v:=by (conv=>lhs;whnf)) (hv:v.oneCell'=true:=by first|exact rfl|exact RS.one (aM hw)|exact RS.one (by assumption)) (hw:Sat w0 w Γ:=by exact hw) (B:AQ Γ p bt cells put:=by infer_instance) (hk:0<cells.length:=by exact zero_lt_succ _):opsW P ops K (⟨none,.store t x y,ty,pos,af,none⟩::r) ρ w:=qvx hx hy hv hw B hk h
theorem qmk {k:Nat}{p:Addr}{bt:TypeId}{cells:List Value}{put:HP->List HP} [C:An P t] (h:∀ w',Sat w0 w' (put (Ad p bt (cells.set k v)))->opsW P ops K r ρ w')
  (hx:aG ρ x=.pointer (some (p.add k)):=by exact rfl) (hy:aG ρ y=v:=by (conv=>lhs;whnf)) (hv:v.oneCell'=true:=by first|exact rfl|exact RS.one (aM hw)|exact RS.one (by assumption)) (hw:Sat w0 w Γ:=by exact hw) (B:AQ Γ p bt cells put:=by infer_instance) (hk:k<cells.length:=by exact Nat.lt_of_sub_pos (zero_lt_succ _)):opsW P ops K (⟨none,.store t x y,ty,pos,af,none⟩::r) ρ w:=qno hx hy hv hw B hk h
theorem qr2 {e sz by_:Nat}{n:Int}{zs:List Value} [S:Ah P t e sz by_] [Z:Ai P e zs] (h:∀ s w',Sat w0 w' (OS aa e s (replicate n.toNat 0)::Γ)->opsW P ops K r (dD ρ d s) w')
  (hx:aG ρ x=.int .i64 n:=by exact rfl) (hy:aG ρ y=.int .i64 n:=by exact rfl) (eM:sz=aa.sz:=by exact rfl) (hz:aa.enc 0=zs:=by exact rfl) (h0:0<=n:=by omega) (hb:by_*n<=281474976710656:=by omega) (hn:n<=281474976710656:=by omega) (hw:Sat w0 w Γ:=by exact hw):opsW P ops K (⟨some d,.makeSlice t x y,ty,pos,af,none⟩::r) ρ w:=zJ aa 0 hx hy eM hz h0 hb hn hw h
theorem qr3 {e sz by_:Nat}{n:Int}{zs:List Value} [S:Ah P t e sz by_] [Z:Ai P e zs] (h:∀ s w',Sat w0 w' (OS ah e s (replicate n.toNat false)::Γ)->opsW P ops K r (dD ρ d s) w')
  (hx:aG ρ x=.int .i64 n:=by exact rfl) (hy:aG ρ y=.int .i64 n:=by exact rfl) (eM:sz=ah.sz:=by exact rfl) (hz:ah.enc false=zs:=by exact rfl) (h0:0<=n:=by omega) (hb:by_*n<=281474976710656:=by omega) (hn:n<=281474976710656:=by omega) (hw:Sat w0 w Γ:=by exact hw):opsW P ops K (⟨some d,.makeSlice t x y,ty,pos,af,none⟩::r) ρ w:=zJ ah false hx hy eM hz h0 hb hn hw h
theorem qr4 {e sz by_:Nat}{n:Int}{zs:List Value} [S:Ah P t e sz by_] [Z:Ai P e zs] (h:∀ s w',Sat w0 w' (OS al e s (replicate n.toNat (.slice none 0 0))::Γ)->opsW P ops K r (dD ρ d s) w')
  (hx:aG ρ x=.int .i64 n:=by exact rfl) (hy:aG ρ y=.int .i64 n:=by exact rfl) (eM:sz=al.sz:=by exact rfl) (hz:al.enc (.slice none 0 0)=zs:=by exact rfl) (h0:0<=n:=by omega) (hb:by_*n<=281474976710656:=by omega) (hn:n<=281474976710656:=by omega) (hw:Sat w0 w Γ:=by exact hw):opsW P ops K (⟨some d,.makeSlice t x y,ty,pos,af,none⟩::r) ρ w:=zJ al (.slice none 0 0) hx hy eM hz h0 hb hn hw h
theorem qd9 {i1:Nat}{x1:Operand}{v1:Value}{places:List (Nat × Nat)}{zs:List Value} [S:Al P t places] [Z:Ai P t zs] (h:opsW P ops K r (dD ρ d (.agg (ja zs [(i1,v1)]).toArray)) w) (h1:aG ρ x1=v1:=by (conv=>lhs;whnf)) (ho:jB places zs.length=true:=by exact rfl) (hv:[(i1,v1)].all (fun p=>decide (p.1<zs.length) && p.2.oneCell')=true:=by exact rfl):opsW P ops K (⟨some d,.build t #[(i1,x1)],ty,pos,af,none⟩::r) ρ w:=qgy h1 ho hv h
theorem qea {i1 i2:Nat}{x1 x2:Operand}{v1 v2:Value}{places:List (Nat × Nat)}{zs:List Value} [S:Al P t places] [Z:Ai P t zs] (h:opsW P ops K r (dD ρ d (.agg (ja zs [(i1,v1),(i2,v2)]).toArray)) w) (h1:aG ρ x1=v1:=by (conv=>lhs;whnf)) (h2:aG ρ x2=v2:=by (conv=>lhs;whnf)) (ho:jB places zs.length=true:=by exact rfl) (hv:[(i1,v1),(i2,v2)].all (fun p=>decide (p.1<zs.length) && p.2.oneCell')=true:=by exact rfl):opsW P ops K (⟨some d,.build t #[(i1,x1),(i2,x2)],ty,pos,af,none⟩::r) ρ w:=wA h1 h2 ho hv h
theorem qeb {i1 i2 i3:Nat}{x1 x2 x3:Operand}{v1 v2 v3:Value}{places:List (Nat × Nat)}{zs:List Value} [S:Al P t places] [Z:Ai P t zs] (h:opsW P ops K r (dD ρ d (.agg (ja zs [(i1,v1),(i2,v2),(i3,v3)]).toArray)) w) (h1:aG ρ x1=v1:=by (conv=>lhs;whnf)) (h2:aG ρ x2=v2:=by (conv=>lhs;whnf)) (h3:aG ρ x3=v3:=by (conv=>lhs;whnf)) (ho:jB places zs.length=true:=by exact rfl) (hv:[(i1,v1),(i2,v2),(i3,v3)].all (fun p=>decide (p.1<zs.length) && p.2.oneCell')=true:=by exact rfl):opsW P ops K (⟨some d,.build t #[(i1,x1),(i2,x2),(i3,x3)],ty,pos,af,none⟩::r) ρ w:=xM h1 h2 h3 ho hv h
theorem quz {e sz by_:Nat}{n:Int}{zs:List Value} [S:Ah P t e sz by_] [Z:Ai P e zs] (h:∀ s w',Sat w0 w' (OS aa e s [n]::Γ)->opsW P ops K r (dD ρ d s) w')
  (hx:aG ρ x=.int .i64 n:=by exact rfl) (eM:sz=aa.sz:=by exact rfl) (sr:sz<=16777216:=by exact le_of_ble_eq_true rfl) (hp:0<sz:=by exact zero_lt_succ _) (hw:Sat w0 w Γ:=by exact hw):opsW P ops K (⟨some d,.buildSlice t 1 #[(0,x)],ty,pos,af,none⟩::r) ρ w:=jh aa hx rfl eM sr hp hw h
theorem quA {e sz by_:Nat}{zs:List Value} [S:Ah P t e sz by_] [Z:Ai P e zs] (h:∀ s w',Sat w0 w' (OS al e s [v]::Γ)->opsW P ops K r (dD ρ d s) w')
  (hx:aG ρ x=v:=by (conv=>lhs;whnf)) (hc:v.cells.toList=[v]:=by first|exact rfl|exact RS.dc (aM hw)|exact RS.dc (by assumption)) (eM:sz=al.sz:=by exact rfl) (sr:sz<=16777216:=by exact le_of_ble_eq_true rfl) (hp:0<sz:=by exact zero_lt_succ _) (hw:Sat w0 w Γ:=by exact hw):opsW P ops K (⟨some d,.buildSlice t 1 #[(0,x)],ty,pos,af,none⟩::r) ρ w:=jh al hx hc eM sr hp hw h
theorem qjz {α:Type}{T:Ty α}{s s2:Value}{xs ys:List α}{e sz by_:Nat}{zs:List Value}{put:HP->List HP} [S:Ah P t e sz by_] [Z:Ai P e zs] (h:∀ s' w',Sat w0 w' (put (OS T e s' (xs++ys)))->opsW P ops K r (dD ρ d s') w')
  (hx:aG ρ x=s:=by (conv=>lhs;whnf)) (hy:aG ρ y=s2:=by (conv=>lhs;whnf)) (hw:Sat w0 w Γ:=by exact hw) (O:AT Γ s α T e xs put:=by infer_instance) (h2:RS T w s2 ys:=by (first|exact RS.at (by assumption) hw|exact aM hw|assumption))
  (eM:sz=T.sz:=by exact rfl) (uJ:zs.length=sz:=by exact rfl) (hone:∀ x∈ys,∀ v∈T.enc x,v.oneCell'=true:=by first|exact fun x _ v hv=>Bn.ok x v hv|(intro x hx v hv;rw[mem_singleton.1 hx]at hv;rw[mem_singleton.1 hv];first|exact rfl|exact RS.one (aM hw)|exact RS.one (by assumption))) (hb:(xs.length+ys.length)*by_<=140737488355328:=by first|omega|(simp only[length_append,length_cons,length_nil,length_replicate]at *;omega)) (hl:xs.length+ys.length<=bo:=by first|(unfold bo;omega)|(unfold bo;simp only[length_append,length_cons,length_nil,length_replicate]at *;omega)) :
  opsW P ops K (⟨some d,.call { callee:=.builtin .append,args:=#[x,y],argTypes:=#[t,t] },ty,pos,af,none⟩::r) ρ w:=rT O hx hy h2 eM uJ hone hb hl hw h
theorem qjA {l:List Oper}{i:Nat}{is:List Item}(h:opsD P l.toArray K is ρ w) (ho:l[i]? = some ⟨some d,op,ty,pos,af,none⟩:=by exact rfl)
  (hv:ReadV P ⟨some d,op,ty,pos,af,none⟩ ρ w v:=by
   first
    | (apply qkA;exact rfl;exact hw;infer_instance;exact rfl)
    | (apply qgN;exact rfl;exact hw;infer_instance;exact rfl)
    | (apply qem;exact rfl;(first|exact RS.at (by assumption) hw|exact aM hw|assumption);omega)
    | (apply qbp;exact rfl;(first|exact RS.at (by assumption) hw|exact aM hw|assumption);omega;exact Nat.lt_of_sub_pos (zero_lt_succ _);infer_instance;exact rfl)
    | (apply qb0;exact rfl;(first|exact RS.at (by assumption) hw|exact aM hw|assumption);omega;exact rfl;infer_instance)
    | (apply zG;exact rfl;(first|exact RS.at (by assumption) hw|exact aM hw|assumption);omega;exact rfl)
    | (apply zH;exact rfl;(first|exact RS.at (by assumption) hw|exact aM hw|assumption);omega;exact Nat.lt_of_sub_pos (zero_lt_succ _);exact rfl)
    | (apply zI;exact rfl;(first|exact RS.at (by assumption) hw|exact aM hw|assumption);omega;exact rfl)
    | (apply qde;exact rfl;exact hw;infer_instance;exact rfl)
    | (apply qga;exact rfl;exact AD.at (by assumption) hw;exact rfl)
    | (apply qeg;exact rfl;exact AD.at (by assumption) hw;exact rfl)
    | (apply qcq;exact rfl;exact AD.at (by assumption) hw;exact rfl)) (he:ρ d=v:=by exact rfl):opsD P l.toArray K (.chk i::is) ρ w:=qsy ho hv he h
theorem qie {l:List Oper}{i:Nat}{is:List Item}{j:Nat}{want c:Bool}{s:Nat}(h:opsD P l.toArray K is ρ w) (ho:l[i]? = some ⟨some d,op,ty,pos,af,some (j,want)⟩:=by exact rfl) (hj:gj l.toArray j=some s:=by exact rfl) (hg:Gd (ρ s) want c:=by first|exact qlN _ _|exact CP _ _ _) (he:ρ d=gv c v:=by exact rfl)
  (hv:c=true->ReadV P ⟨some d,op,ty,pos,af,none⟩ ρ w v:=by
   intro hg;have hq:=hg
   (try simp only[beq_iff_eq,Bool.and_eq_true,Bool.or_eq_true,decide_eq_true_eq,decide_eq_false_iff_not,Bool.not_eq_true,Bool.not_eq_false,Bool.not_eq_eq_eq_not,Bool.not_true,Bool.not_false,Bool.and_eq_false_iff,Bool.or_eq_false_iff,bne_iff_ne,ne_eq,Int.not_lt,Int.not_le,Nat.not_lt,Nat.not_le]at hq)
   first
    | (apply qkA;(first|exact rfl|exact aQ hg|exact aQ (aS hg));exact hw;infer_instance;(first|exact rfl|exact aQ hg|exact aQ (aS hg)))
    | (apply qgN;(first|exact rfl|exact aQ hg|exact aQ (aS hg));exact hw;infer_instance;(first|exact rfl|exact aQ hg|exact aQ (aS hg)))
    | (apply qem;(first|exact rfl|exact aQ hg|exact aQ (aS hg));(first|exact RS.at (by assumption) hw|exact aM hw|assumption);omega)
    | (apply qbp;(first|exact rfl|exact aQ hg|exact aQ (aS hg));(first|exact RS.at (by assumption) hw|exact aM hw|assumption);omega;exact Nat.lt_of_sub_pos (zero_lt_succ _);infer_instance;(first|exact rfl|exact aQ hg|exact aQ (aS hg)))
    | (apply qb0;(first|exact rfl|exact aQ hg|exact aQ (aS hg));(first|exact RS.at (by assumption) hw|exact aM hw|assumption);omega;(first|exact rfl|exact aQ hg|exact aQ (aS hg));infer_instance)
    | (apply zG;(first|exact rfl|exact aQ hg|exact aQ (aS hg));(first|exact RS.at (by assumption) hw|exact aM hw|assumption);omega;(first|exact rfl|exact aQ hg|exact aQ (aS hg)))
    | (apply zH;(first|exact rfl|exact aQ hg|exact aQ (aS hg));(first|exact RS.at (by assumption) hw|exact aM hw|assumption);omega;exact Nat.lt_of_sub_pos (zero_lt_succ _);(first|exact rfl|exact aQ hg|exact aQ (aS hg)))
    | (apply zI;(first|exact rfl|exact aQ hg|exact aQ (aS hg));(first|exact RS.at (by assumption) hw|exact aM hw|assumption);omega;(first|exact rfl|exact aQ hg|exact aQ (aS hg)))
    | (apply qde;(first|exact rfl|exact aQ hg|exact aQ (aS hg));exact hw;infer_instance;(first|exact rfl|exact aQ hg|exact aQ (aS hg)))
    | (apply qga;(first|exact rfl|exact aQ hg|exact aQ (aS hg));exact AD.at (by assumption) hw;(first|exact rfl|exact aQ hg|exact aQ (aS hg)))
    | (apply qeg;(first|exact rfl|exact aQ hg|exact aQ (aS hg));exact AD.at (by assumption) hw;(first|exact rfl|exact aQ hg|exact aQ (aS hg)))
    | (apply qcq;(first|exact rfl|exact aQ hg|exact aQ (aS hg));exact AD.at (by assumption) hw;(first|exact rfl|exact aQ hg|exact aQ (aS hg)))):opsD P l.toArray K (.chk i::is) ρ w:=by
 refine qgg (v:=v) ho (fun hq=>?_) h;have hc:c=true:=by
  simp only[eo,hj]at hq;rw[<-hq];exact hg.symm
 exact⟨hv hc,by rw[he,hc];exact aQ rfl⟩
theorem qfC {l:List Oper}{i:Nat}{is:List Item}{j:Nat}{want:Bool}(h:opsD P l.toArray K is ρ w) (ho:l[i]? = some ⟨some d,op,ty,pos,af,some (j,want)⟩:=by exact rfl)
  (hv:ReadV P ⟨some d,op,ty,pos,af,none⟩ ρ w v:=by
   first
    | (apply qkA;exact rfl;exact hw;infer_instance;exact rfl)
    | (apply qgN;exact rfl;exact hw;infer_instance;exact rfl)
    | (apply qem;exact rfl;(first|exact RS.at (by assumption) hw|exact aM hw|assumption);omega)
    | (apply qbp;exact rfl;(first|exact RS.at (by assumption) hw|exact aM hw|assumption);omega;exact Nat.lt_of_sub_pos (zero_lt_succ _);infer_instance;exact rfl)
    | (apply qb0;exact rfl;(first|exact RS.at (by assumption) hw|exact aM hw|assumption);omega;exact rfl;infer_instance)
    | (apply zG;exact rfl;(first|exact RS.at (by assumption) hw|exact aM hw|assumption);omega;exact rfl)
    | (apply zH;exact rfl;(first|exact RS.at (by assumption) hw|exact aM hw|assumption);omega;exact Nat.lt_of_sub_pos (zero_lt_succ _);exact rfl)
    | (apply zI;exact rfl;(first|exact RS.at (by assumption) hw|exact aM hw|assumption);omega;exact rfl)
    | (apply qde;exact rfl;exact hw;infer_instance;exact rfl)
    | (apply qga;exact rfl;exact AD.at (by assumption) hw;exact rfl)
    | (apply qeg;exact rfl;exact AD.at (by assumption) hw;exact rfl)
    | (apply qcq;exact rfl;exact AD.at (by assumption) hw;exact rfl)) (he:ρ d=v:=by exact rfl):opsD P l.toArray K (.chk i::is) ρ w:=qgg ho (fun _=>⟨hv,he⟩) h
theorem qec {l:List Oper}{i:Nat}{is:List Item}{j:Nat}{want:Bool}{s:Nat}(h:opsD P l.toArray K is ρ w) (ho:l[i]? = some ⟨some d,op,ty,pos,af,some (j,want)⟩:=by exact rfl) (hj:gj l.toArray j=some s:=by exact rfl) (hg:asks (ρ s) want=false:=by exact rfl):opsD P l.toArray K (.chk i::is) ρ w:=by
 refine qgg (v:=.bool false) ho (fun hq=>?_) h;simp only[eo,hj]at hq;rw[hg]at hq;cases hq
theorem nK {Q:Exit->Fr->World->Prop}{i:Nat}{l:List Oper}(h:∀ w',Sat w0 w' Γ->opsW P l.toArray (Q .normal) l ρ w') (hw:Sat w0 w Γ:=by exact hw) (hc:my P l.toArray=true:=by decide +kernel):vc P (.region i l.toArray true) Q ρ w:=quZ hw hc h
theorem qdo {Q:Exit->Fr->World->Prop}{i j:Nat}(h:Q (.exit i) ρ w) (cY:Nat.beq i j=false:=by exact rfl):Blk j Q (.exit i) ρ w:=qlr cY h
theorem ai {Q:Exit->Fr->World->Prop}{c:Operand}{x y:Code}{b:Bool}{p q:Prop}(h1:p->vc P x Q ρ w) (h0:q->vc P y Q ρ w) (hc:aG ρ c=.bool b:=by exact rfl)
  (hp:b=true->p:=by
   intro hq
   (try simp only[beq_iff_eq,Bool.and_eq_true,Bool.or_eq_true,decide_eq_true_eq,decide_eq_false_iff_not,Bool.not_eq_true,Bool.not_eq_false,Bool.not_eq_eq_eq_not,Bool.not_true,Bool.not_false,Bool.and_eq_false_iff,Bool.or_eq_false_iff,bne_iff_ne,ne_eq,Int.not_lt,Int.not_le,Nat.not_lt,Nat.not_le]at hq)
   exact hq)
  (hn:b=false->q:=by
   intro hq
   (try simp only[beq_iff_eq,Bool.and_eq_true,Bool.or_eq_true,decide_eq_true_eq,decide_eq_false_iff_not,Bool.not_eq_true,Bool.not_eq_false,Bool.not_eq_eq_eq_not,Bool.not_true,Bool.not_false,Bool.and_eq_false_iff,Bool.or_eq_false_iff,bne_iff_ne,ne_eq,Int.not_lt,Int.not_le,Nat.not_lt,Nat.not_le]at hq)
   exact hq):vc P (.cond c x y) Q ρ w:=quY hc (fun h=>h1 (hp h)) (fun h=>h0 (hn h))
theorem qml {Q:Exit->Fr->World->Prop}{c:Operand}{a b:Code}(h:vc P a Q ρ w) (hc:aG ρ c=.bool true:=by exact rfl):vc P (.cond c a b) Q ρ w:=qsw hc h
theorem qmm {Q:Exit->Fr->World->Prop}{c:Operand}{a b:Code}(h:vc P b Q ρ w) (hc:aG ρ c=.bool false:=by exact rfl):vc P (.cond c a b) Q ρ w:=qsx hc h
structure AU (p:Prop):Prop where
 out:p
theorem bV {G G':Prop}(h:G') (hs:AU G'->G:=by intro da;(first|refine rU ?_|refine zK ?_|refine qu ?_|refine zL ?_|refine xL ?_|refine zF ?_|refine zM ?_|refine qdv ?_|refine qir ?_|refine qis ?_|refine qmK ?_|refine qfJ ?_|refine qit ?_|refine qiu ?_|refine qfK ?_|refine qdo ?_|refine qml ?_|refine qmm ?_|refine xN ?_|refine qep ?_|refine qjA ?_|refine qec ?_|refine qfC ?_|refine qie ?_|refine qfI ?_|refine qeo ?_|refine qq ?_|refine qt ?_|refine qfz ?_|refine qfA ?_|refine qd9 ?_|refine qea ?_|refine qeb ?_);(repeat (first|refine rU ?_|refine zK ?_|refine qu ?_|refine zL ?_|refine xL ?_|refine zF ?_|refine zM ?_|refine qdv ?_|refine qir ?_|refine qis ?_|refine qmK ?_|refine qfJ ?_|refine qit ?_|refine qiu ?_|refine qfK ?_|refine qdo ?_|refine qml ?_|refine qmm ?_|refine xN ?_|refine qep ?_|refine qjA ?_|refine qec ?_|refine qfC ?_|refine qie ?_|refine qfI ?_|refine qeo ?_|refine qq ?_|refine qt ?_|refine qfz ?_|refine qfA ?_|refine qd9 ?_|refine qea ?_|refine qeb ?_));exact da.out):G:=hs ⟨h⟩
theorem qo4 {G G':Prop}(h:G') (hs:AU G'->G:=by intro da;(first|refine rU ?_|refine zK ?_|refine qu ?_|refine zL ?_|refine xL ?_|refine zF ?_|refine zM ?_|refine qdv ?_|refine qir ?_|refine qis ?_|refine qmK ?_|refine qfJ ?_|refine qit ?_|refine qiu ?_|refine qfK ?_|refine qdo ?_|refine xN ?_|refine qep ?_|refine qjA ?_|refine qec ?_|refine qfC ?_|refine qie ?_|refine qfI ?_|refine qeo ?_|refine qq ?_|refine qt ?_|refine qfz ?_|refine qfA ?_|refine qd9 ?_|refine qea ?_|refine qeb ?_);(repeat (first|refine rU ?_|refine zK ?_|refine qu ?_|refine zL ?_|refine xL ?_|refine zF ?_|refine zM ?_|refine qdv ?_|refine qir ?_|refine qis ?_|refine qmK ?_|refine qfJ ?_|refine qit ?_|refine qiu ?_|refine qfK ?_|refine qdo ?_|refine xN ?_|refine qep ?_|refine qjA ?_|refine qec ?_|refine qfC ?_|refine qie ?_|refine qfI ?_|refine qeo ?_|refine qq ?_|refine qt ?_|refine qfz ?_|refine qfA ?_|refine qd9 ?_|refine qea ?_|refine qeb ?_));exact da.out):G:=hs ⟨h⟩
theorem dK {G G':Prop}(h:G') (hs:AU G'->G:=by intro da;(first|refine qfB ?_|refine wz ?_);exact da.out):G:=hs ⟨h⟩
theorem nL {G G':Prop}(h:G') (hs:AU G'->G:=by intro da;(first|refine qfX ?_|refine qjx ?_|refine qjy ?_|refine qmk ?_|refine nK ?_);exact da.out):G:=hs ⟨h⟩
theorem fL {G G':Prop}(h:G') (hs:AU G'->G:=by intro da;(first|refine qfX ?_|refine qjx ?_|refine qjy ?_|refine qmk ?_);exact da.out):G:=hs ⟨h⟩
theorem qr5 {G G':Prop}(h:G') (hs:AU G'->G:=by intro da;(first|refine nK ?_);exact da.out):G:=hs ⟨h⟩
theorem cB {G G':Prop}(h:G') (hs:AU G'->G:=by intro da;(first|refine qr2 ?_|refine qr3 ?_|refine qr4 ?_|refine quz ?_|refine quA ?_|refine qjz ?_);exact da.out):G:=hs ⟨h⟩
end
theorem me {G G':Prop}(h:G') (hs:AU G'->G:=by intro da;(repeat refine qo4 ?_);exact da.out):G:=hs ⟨h⟩
theorem ab {G G':Prop}(h:G') (hs:AU G'->G:=by intro da;(repeat refine bV ?_);exact da.out):G:=hs ⟨h⟩
theorem cK {G G':Prop}(h:G') (hs:AU G'->G:=by intro da;(repeat (first|refine bV ?_|(refine dK ?_;(try clear hw);intro p w hw)|(refine fL ?_;(try clear hw);intro w hw)|(refine cB ?_;(try clear hw);intro s w hw)));revert p w;exact da.out):G:=hs ⟨h⟩
theorem db {G G':Prop}(h:G') (hs:AU G'->G:=by intro da;(repeat (first|refine bV ?_|(refine dK ?_;(try clear hw);intro p w hw)|(refine nL ?_;(try clear hw);intro w hw)|(refine cB ?_;(try clear hw);intro s w hw)));revert p w;exact da.out):G:=hs ⟨h⟩
theorem fy {G G':Prop}(h:G') (hs:AU G'->G:=by intro da;(repeat (first|refine bV ?_|(refine dK ?_;(try clear hw);intro p w hw)|(refine fL ?_;(try clear hw);intro w hw)|(refine cB ?_;(try clear hw);intro s w hw)));revert w;exact da.out):G:=hs ⟨h⟩
theorem fi {G G':Prop}(h:G') (hs:AU G'->G:=by intro da;(repeat (first|refine bV ?_|(refine dK ?_;(try clear hw);intro p w hw)|(refine nL ?_;(try clear hw);intro w hw)|(refine cB ?_;(try clear hw);intro s w hw)));revert w;exact da.out):G:=hs ⟨h⟩
theorem nV {G G':Prop}(h:G') (hs:AU G'->G:=by intro da;(repeat (first|refine bV ?_|(refine dK ?_;(try clear hw);intro p w hw)|(refine fL ?_;(try clear hw);intro w hw)|(refine cB ?_;(try clear hw);intro s w hw)));revert s w;exact da.out):G:=hs ⟨h⟩
theorem kq {G G':Prop}(h:G') (hs:AU G'->G:=by intro da;(repeat (first|refine bV ?_|(refine dK ?_;(try clear hw);intro p w hw)|(refine nL ?_;(try clear hw);intro w hw)|(refine cB ?_;(try clear hw);intro s w hw)));revert s w;exact da.out):G:=hs ⟨h⟩
theorem gm8 {G G':Prop}(h:G') (hs:AU G'->G:=by intro da;(repeat (first|refine bV ?_|(refine dK ?_;(try clear hw);intro p w hw)|(refine qr5 ?_;(try clear hw);intro w hw)|(refine cB ?_;(try clear hw);intro s w hw)));revert p w;exact da.out):G:=hs ⟨h⟩
theorem gm9 {G G':Prop}(h:G') (hs:AU G'->G:=by intro da;(repeat (first|refine qo4 ?_|(refine dK ?_;(try clear hw);intro p w hw)|(refine nL ?_;(try clear hw);intro w hw)|(refine cB ?_;(try clear hw);intro s w hw)));revert p w;exact da.out):G:=hs ⟨h⟩
theorem qx0 {G G':Prop}(h:G') (hs:AU G'->G:=by intro da;(repeat (first|refine bV ?_|(refine dK ?_;(try clear hw);intro p w hw)|(refine cB ?_;(try clear hw);intro s w hw)));revert p w;exact da.out):G:=hs ⟨h⟩
theorem mf {G G':Prop}(h:G') (hs:AU G'->G:=by intro da;rintro _ w' ⟨rfl,aj⟩;replace hw:=hw.bz aj;clear aj;refine⟨_,rfl,?_⟩;revert w';exact da.out):G:=hs ⟨h⟩
theorem mz {G G':Prop}(h:G') (hs:AU G'->G:=by intro da;replace hw:=hw.call aj;refine⟨_,rfl,?_⟩;revert hw;exact da.out):G:=hs ⟨h⟩
theorem aC {G G':Prop}(h:G') (hs:AU G'->G:=by intro da;replace hw:=hw.bz aj;refine⟨_,rfl,?_⟩;revert hw;exact da.out):G:=hs ⟨h⟩
theorem aA {G G':Prop}(h:G') (hs:AU G'->G:=by intro da;replace hw:=hw.jC aj;refine⟨_,rfl,?_⟩;revert hw;exact da.out):G:=hs ⟨h⟩
theorem lu {G G':Prop}(h:G') (hs:AU G'->G:=by intro da;replace hw:=hw.call2 aj;refine⟨_,rfl,?_⟩;revert hw;exact da.out):G:=hs ⟨h⟩
theorem bn {P:Program}{f:FuncId}{fn:Func}{c:Code}{args:List Value}{w:World}{R:Ending->World->Prop}(hm:P.follows .mixedOrders=true) (hf:P.funcs[f]? = some fn) (h:vc P c (jD P fn fun v w'=>R (.returned v) w') (rj args) w) (hb:fn.body=some c:=by exact rfl) (cL:fits fn.ntmps c=true:=by kernel_rfl) (hn:args.length<=fn.ntmps:=by exact le_of_ble_eq_true rfl):Calls P f args.toArray w R:=qlq hm hf hb cL hn h
theorem aH {W:List Nat}{ρ ρ':Fr}(h:AY W ρ' ρ:=by repeat (first|exact qhC|(apply qjX rfl)|(apply qpK rfl)|(apply qhD rfl))):AY W ρ' ρ:=h
end
end Go.Sl
