/- Several texts. -/
import Derived.OrdersIn
import Derived.KernelRfl
import Derived.Below
import Derived.Laws.Sem
import Derived.Laws.Cells
import Derived.Laws.Small
import Derived.Laws.Slices
import Derived.Laws.World
import Derived.Laws.BitsLemmas
import Derived.WideLaws
import Derived.ChangeKeysEq
import Derived.Conc.MuLone
import Derived.Laws.AppendOwn
import Derived.Laws.Pointers
set_option linter.unusedSimpArgs false
set_option linter.unusedVariables false
set_option linter.defProp false
set_option maxRecDepth 8000
set_option maxHeartbeats 16000000
open List Nat
namespace Go.Sl
variable {i sz by_ n f m ft lo hi:Nat}{G G' G1 G2:Prop}{p:Addr}{zs vs:List Value}{bt:TypeId}{l:List Oper}{D F:Oper}{R:Ending->World->Prop}{x1 x2 x3:Operand}{v1 u s':Value}{cs:Array Value}{ts:Array TypeId}{w':World}{W_:List Nat}{K':Act->World->Prop}{b':Bool}{φ:World->Prop}{H:Type}
section
def U {P:Prop}(h:P:=by omega):P:=h
def dc {P:Prop}(h:P:=by decide):P:=h
def sm {P:Prop}(h:P:=by simp):P:=h
def kr {P:Prop}(h:P:=by kernel_rfl):P:=h
abbrev az:=@trivial
abbrev aM:=@if_neg
abbrev ba:=@if_pos
abbrev bC:=@zero_le
abbrev cP:=@Nat.le_refl
abbrev dB:=@decide_eq_false
abbrev dH:=@decide_eq_true
abbrev eo:=@not_lt_zero
abbrev fg:=@zero_lt_succ
abbrev fk:=@append_assoc
abbrev fm:=@Result.andThen_ok
abbrev fo:=@all_cons
abbrev fB:=@all_nil
abbrev fG:=@Sem.run_bind
abbrev fP:=@le_of_ble_eq_true
abbrev fU:=@mem_singleton
abbrev ga:=@getElem_of_mem
abbrev gj:=@append_nil
abbrev gT:=@mem_cons
abbrev gU:=@Sem.run_pure
abbrev io:=@take_of_length_le
abbrev iq:=@Int.le_refl
abbrev iG:=@mem_map
abbrev iU:=@length_set
abbrev jd:=@not_mem_nil
abbrev jC:=@length_take
abbrev jB:=@ext_getElem
abbrev jV:=@decide_eq_true_eq
abbrev jU:=@Int.toNat_natCast
abbrev jW:=@Int.toNat_of_nonneg
abbrev ku:=@mem_cons_self
abbrev kK:=@mem_append
abbrev lA:=@length_map
abbrev lP:=@getElem?_append_right
abbrev lO:=@set_cons_zero
abbrev lN:=@range_succ
abbrev lQ:=@nil_append
abbrev mp:=@length_replicate
abbrev mu:=@getElem?_append_left
abbrev mw:=@Array.getElem?_eq_some_iff
abbrev mK:=@take_length
abbrev mL:=@getElem?_eq_getElem
abbrev mY:=@set_cons_succ
abbrev nt:=@mem_cons_of_mem
abbrev ow:=@getD_eq_getElem?_getD
abbrev oG:=@drop_eq_nil_of_le
abbrev oE:=@Classical.byContradiction
abbrev pz:=@Bool.not_true
abbrev pB:=@Nat.lt_or_ge
abbrev pA:=@flatMap_cons
abbrev pW:=@Nat.sub_self
abbrev pQ:=@or_false
abbrev pV:=@map_cons
abbrev qD:=@eq_nil_of_length_eq_zero
abbrev qG:=@map_append
abbrev rN:=@Nat.le_trans
abbrev rL:=@decide_eq_false_iff_not
abbrev rZ:=@mem_of_mem_take
abbrev r5:=@Bool.not_false
abbrev r8:=@Nat.add_mul
abbrev sL:=@Bool.or_eq_true
abbrev sM:=@Act.put_comm
abbrev tL:=@Bool.not_eq_true
abbrev tM:=@Int.not_lt
abbrev tI:=@getElem_range
abbrev tN:=@mem_flatMap
abbrev tW:=@beq_iff_eq
abbrev tS:=@getElem_set
abbrev uR:=@cons_append
abbrev uJ:=@Int.le_trans
abbrev uL:=@map_nil
abbrev uO:=@getElem?_set_ne
abbrev uS:=@Bool.false_or
abbrev u9:=@pairwise_iff_getElem
abbrev vj:=@Array.getElem?_eq_none
abbrev uZ:=@congrArg
abbrev vh:=@getElem?_map
abbrev vk:=@Option.map_some
abbrev u0:=@foldl_append
abbrev wh:=@Calls.mono
abbrev wg:=@eq_zero_or_pos
abbrev vX:=@Int.mul_nonneg
abbrev vZ:=@Bool.eq_false_iff
abbrev wm:=@mul_le_mul_right
abbrev wn:=@Classical.not_not
abbrev wo:=@Array.getElem?_setIfInBounds_ne
abbrev w9:=@Int.mul_le_mul
abbrev wW:=@nodup_cons
abbrev wT:=@mem_filter
abbrev wV:=@length_filter_le
abbrev xc:=@Nat.mul_le_mul
abbrev w7:=@length_singleton
abbrev xd:=@drop_eq_getElem_cons
abbrev xe:=@foldl_cons
abbrev xQ:=@set_append_right
abbrev xT:=@Nat.zero_add
abbrev xS:=@getElem?_eq_none
abbrev xU:=@Array.getElem?_modify
abbrev xV:=@Array.all_eq_true_iff_forall_mem
abbrev yh:=@Nat.lt_of_sub_pos
abbrev yi:=@Nat.not_lt
abbrev yj:=@getElem?_take
abbrev yk:=@beq_self_eq_true
abbrev x8:=@Nat.one_mul
abbrev ya:=@flatMap_append
abbrev x5:=@of_decide_eq_true
abbrev yl:=@Array.ext_getElem?
abbrev ym:=@List.getElem?_eq_some_iff
abbrev yn:=@take_zero
abbrev zF:=@Int.mul_le_mul_of_nonneg_right
abbrev zG:=@Bool.or_eq_false_iff
abbrev zH:=@Int.not_le
abbrev zB:=@pairwise_map
abbrev zq:=@getElem_mem
abbrev zI:=@Iff.rfl
abbrev zA:=@Nat.pow_le_pow_right
abbrev zD:=@Option.some.inj
abbrev z6:=@succ_mul
abbrev Ae:=@Bool.not_eq_false
abbrev Af:=@Bool.not_eq_eq_eq_not
abbrev Ag:=@Bool.and_eq_false_iff
abbrev Ah:=@Nat.not_le
abbrev Ai:=@Nat.add_zero
abbrev Aj:=@Bool.not_eq_true'
abbrev z7:=@Decidable.not_not
abbrev Ak:=@take_append_drop
abbrev Al:=@ext_getElem?
abbrev Am:=@drop_append
abbrev An:=@Option.bind_some
abbrev Ao:=@Array.mem_of_getElem?
abbrev Ap:=@mapM_cons
abbrev Bd:=@mem_iff_getElem
abbrev Bo:=@Int.tdiv_eq_ediv_of_dvd
abbrev Bp:=@Int.gcd_dvd_right
abbrev Bk:=@replicate_zero
abbrev Bc:=@map_congr_left
abbrev Bq:=@length_drop
abbrev Bb:=@map_map
abbrev Br:=@Option.some.injEq
abbrev Bj:=@pairwise_lt_range
abbrev Be:=@nodup_nil
abbrev Bs:=@take_append_of_le_length
abbrev Bt:=@Nat.add_assoc
abbrev Bg:=@Nat.lt_of_le_of_lt
abbrev Bu:=@getElem?_zipWith
abbrev Cz:=@replicate_succ
abbrev CF:=@filter_append
abbrev CG:=@Array.getElem?_setIfInBounds_self_of_lt
abbrev Cr:=@Nat.lt_of_lt_of_le
abbrev Cu:=@flatMap_nil
abbrev CH:=@getElem?_set_self
abbrev CI:=@replicate_succ'
abbrev CJ:=@mapM_toArray
abbrev D7:=@pairwise_append
abbrev DC:=@Int.natCast_add
abbrev D8:=@Int.natCast_mul
abbrev D9:=@getElem?_set
abbrev DG:=@Pairwise.imp_of_mem
abbrev Ea:=@Bool.false_eq_true
abbrev DY:=@nodup_append
abbrev Eb:=@Oper.apart_spec
abbrev Ec:=@testBit_lt_two_pow
abbrev DZ:=@mod_lt
abbrev Ed:=@size_toArray
abbrev Ee:=@mapM_nil
abbrev Ef:=@pairwise_cons
abbrev Eg:=@eq_of_testBit_eq
abbrev DW:=@getElem_set_self
abbrev D0:=@Int.natCast_nonneg
abbrev Eh:=@Array.getElem?_eq_getElem
abbrev Ei:=@Bool.false_and
abbrev Ej:=@Bool.true_and
abbrev Ek:=@getElem?_toArray
abbrev DE:=@and_le_left
abbrev Fy:=@filter_cons
abbrev Fz:=@succ_pos
abbrev FA:=@Int.gcd_dvd_left
abbrev FB:=@Int.ediv_le_self
abbrev Fm:=@getElem_take
abbrev E7:=@Array.length_toList
abbrev FC:=@Int.add_comm
abbrev E8:=@length_range
abbrev Fi:=@Nat.le_of_not_lt
abbrev FD:=@Array.getElem?_append_left
abbrev FE:=@map_toArray
abbrev FF:=@Nat.sub_mul
abbrev FG:=@take_append
abbrev FH:=@Bool.cond_true
abbrev FJ:=@Bool.cond_false
abbrev FK:=@getElem?_cons_zero
abbrev FL:=@drop_zero
abbrev FM:=@set_eq_take_append_cons_drop
abbrev FN:=@Classical.choose_spec
abbrev Ii:=@Int.mul_le_mul_of_nonneg_left
abbrev Ij:=@Int.gcd_pos_of_ne_zero_right
abbrev Ik:=@Int.natAbs_ediv_le_natAbs
abbrev Il:=@Int.le_ediv_of_mul_le
abbrev Im:=@Int.le_of_dvd
abbrev Io:=@take_set_of_le
abbrev Ip:=@filter_congr
abbrev Iq:=@getElem?_drop
abbrev Ir:=@Nat.zero_mul
abbrev HE:=@Prod.ext
abbrev HT:=@mod_eq_of_lt
abbrev Is:=@filterMap_cons
abbrev It:=@filterMap_nil
abbrev HQ:=@Int.add_mul
abbrev Iu:=@Bool.and_true
abbrev Iv:=@and_true
abbrev Iw:=@Array.toArray_toList
abbrev Ix:=@Array.ext'
abbrev Iy:=@Nat.add_comm
abbrev Iz:=@Nat.mul_comm
abbrev IA:=@Int.tdiv_eq_ediv_of_nonneg
abbrev IB:=@pairwise_flatMap
abbrev IC:=@nodup_iff_pairwise_ne
abbrev H4:=@getElem?_append
abbrev ID:=@Bool.true_or
abbrev IE:=@Nat.sub_eq_zero_of_le
abbrev Ib:=@drop_length
abbrev IF:=@take_add_one
abbrev L0:=@length_eraseIdx_of_lt
abbrev L1:=@Nat.sub_zero
abbrev K5:=@Array.extract_size
abbrev L5:=@dropLast_concat_getLast
abbrev L6:=@mem_append_left
abbrev LN:=@mem_append_right
abbrev L7:=@getElem?_range
abbrev L8:=@filter_cons_of_pos
abbrev L9:=@filter_cons_of_neg
abbrev KG:=@perm_append_comm
abbrev La:=@length_pos_iff
abbrev Ma:=@mem_of_mem_drop
abbrev Mb:=@Nat.add_sub_cancel_left
abbrev Mc:=@filterMap_append
abbrev Md:=@take_succ_cons
abbrev Me:=@Array.getElem?_append_right
abbrev Mf:=@Array.toList_append
abbrev Mg:=@eq_of_beq_eq_true
abbrev Mh:=@Region.noSelect_spec
abbrev Mi:=@Array.getElem?_mapIdx
abbrev Mj:=@set_append_left
abbrev Mk:=@mem_erase_of_ne
abbrev Ml:=@Int.mul_pos
abbrev Mm:=@Nat.lt_of_not_le
abbrev Lr:=@Array.getD_eq_getD_getElem?
abbrev Mn:=@Bool.or_false
abbrev Mo:=@Array.getElem?_push
abbrev Mp:=@lt_succ_self
abbrev Mq:=@Option.bind_eq_bind
abbrev Mr:=@Option.pure_def
abbrev Ms:=@BitVec.toNat_and
abbrev Mt:=@Int.le_antisymm
abbrev Mu:=@getElem?_replicate
abbrev Mv:=@ByteArray.size_append
abbrev QG:=@Array.getElem_toList
abbrev RU:=@Int.add_mul_ediv_right
abbrev RV:=@Int.ediv_eq_zero_of_lt
abbrev RW:=@Array.setIfInBounds_comm
abbrev Rx:=@Nat.div_lt_of_lt_mul
abbrev RX:=@getElem!_eq_getElem?_getD
abbrev RY:=@eraseIdx_append_of_lt_length
abbrev RZ:=@Int.tmod_eq_emod_of_nonneg
abbrev R0:=@Int.emod_lt_of_pos
abbrev R2:=@Int.le_ediv_iff_mul_le
abbrev R3:=@testBit_two_pow_mul_add
abbrev R4:=@testBit_two_pow_sub_succ
abbrev R5:=@countP_eq_length_filter
abbrev R6:=@take_succ_eq_append_getElem
abbrev Rv:=@Nat.pos_of_ne_zero
abbrev QX:=@Array.size_replicate
abbrev R7:=@Int.eq_ofNat_of_zero_le
abbrev R8:=@Int.gcd_natCast_natCast
abbrev R9:=@Array.getElem?_toList
abbrev J:=List Int
@[match_pattern] abbrev nS:Value:=.slice none 0 0
@[match_pattern] abbrev E (n:Int):Value:=.int .i64 n
def À {α:Sort _}(a:α):∃ b,b=a:=⟨a,rfl⟩
abbrev Fr:=Nat->Value
def fQ (ρ:Fr)(d:Nat)(v:Value):Fr:=fun t=>bif Nat.beq t d then v else ρ t
def jq (ρ:Fr)(d:Option Nat)(v:Value):Fr:=match d with|some d=>fQ ρ d v|none=>ρ
def bh (ρ:Fr):Operand->Value
 | .tmp t=>ρ t
 | .const v=>v
 | .global g=>.pointer (some ⟨g,0,none⟩)
 | .func f=>.func (.func f) #[] #[]
def fr (a:Act):Fr:=fun t=>a.tmps.getD t undef
def sJ (a:Act):bh (fr a)=a.eval:=by
 funext x;cases x<;>rfl
inductive Mw where
 | pure|eu|fS
 deriving DecidableEq
def B0 (P:Program)(t:TypeId):Bool:=match P.underlying t with|some (.int _)=>true|_=>false
def eP (P:Program):Op->Mw
 | .move _|.assign _|.pick ..|.binOp ..|.unOp ..|.extract ..|.fieldAddr ..|.field ..|.indexAddr ..|.index ..|.slice ..|.makeInterface ..|.makeFunc ..|.nilCheck _|.typeAssert ..=>.pure
 | .convert s d _=>if B0 P s && B0 P d then .pure else .fS
 | .call { callee:=.builtin .len,argTypes,.. }=>(match (argTypes[0]?).bind P.underlying with|some (.map ..)|some (.chan ..)=>.eu|_=>.pure)
 | .call { callee:=.builtin .min,.. }|.call { callee:=.builtin .max,.. }|.call { callee:=.builtin .cap,.. }=>.pure
 | .load ..|.lookup ..=>.eu
 | _=>.fS
def PureV (P:Program)(o:Oper)(ρ:Fr)(v:Value):Prop:=∀ w,(execOp (bh ρ) o).run P w=.ok (.value v) w
def ReadV (P:Program)(o:Oper)(ρ:Fr)(w:World)(v:Value):Prop:=(execOp (bh ρ) o).run P w=.ok (.value v) w
def cJ (P:Program)(K:Value->World->Prop):Result Next->Prop
 | .ok (.value v) w=>K v w
 | .ok .skip w=>K undef w
 | .ok (.enter f args) w=>Calls P f args w fun
   | .returned v,w'=>K v w'
   | _,_=>False
 | .ok (.round l f tmps assign body) w=>RoundIn Fence.wide 0 P l f tmps assign body w fun
   | .returned v,w'=>K v w'
   | _,_=>False
 | _=>False
def opW (P:Program)(o:Oper)(ρ:Fr)(w:World)(K:Value->World->Prop):Prop:=cJ P K ((execOp (bh ρ) o).run P w)
def opV (P:Program)(o:Oper)(ρ:Fr)(w:World)(K:Fr->World->Prop):Prop :=
 match eP P o.op with
 | .pure=>∃ v,PureV P o ρ v/\K (jq ρ o.dst v) w
 | .eu=>∃ v,ReadV P o ρ w v/\K (jq ρ o.dst v) w
 | .fS=>opW P o ρ w fun v w'=>K (jq ρ o.dst v) w'
def ud (v:Value)(want:Bool):Bool:=match v with|.bool b=>b == want|_=>false
def kE (M:Array Oper)(j:Nat):Option Nat:=(M[j]?).bind (·.dst)
def ik (M:Array Oper)(ρ:Fr)(g:Nat × Bool):Bool:=match kE M g.1 with|some t=>ud (ρ t) g.2|none=>false
def opsW (P:Program)(M:Array Oper)(K:Fr->World->Prop):List Oper->Fr->World->Prop
 | [],ρ,w=>K ρ w
 | o::r,ρ,w =>
  match o.guard with
  | none=>opV P o ρ w (opsW P M K r)
  | some g=>(ik M ρ g=true->opV P o ρ w (opsW P M K r))/\(ik M ρ g=false->opsW P M K r (jq ρ o.dst undef) w)
def Thn (next:Fr->World->Prop)(Q:Exit->Fr->World->Prop):Exit->Fr->World->Prop
 | .normal,ρ,w=>next ρ w
 | e,ρ,w=>Q e ρ w
def Blk (id:Nat)(Q:Exit->Fr->World->Prop):Exit->Fr->World->Prop
 | .exit i,ρ,w=>if i=id then Q .normal ρ w else Q (.exit i) ρ w
 | e,ρ,w=>Q e ρ w
def lc (P:Program)(a b:Op):Bool :=
 match eP P a,eP P b with
 | .pure,_|_,.pure=>true
 | .eu,.eu=>true
 | _,_=>false
def uH (P:Program)(M:Array Oper)(c:Array Nat)(i j:Nat):Bool :=
 (c.getD j 0).testBit i || match M[i]?,M[j]? with
  | some D,some F=>D.apart M F && lc P D.op F.op
  | _,_=>true
def jw (M:Array Oper)(c:Array Nat):Bool :=
 (List.range M.size).all fun j=>(List.range M.size).all fun i => !(c.getD j 0).testBit i ||
  match M[j]? with
  | some F=>F.after.any fun e=>Region.binds .any e && (e.on == i || (c.getD e.on 0).testBit i)
  | none=>false
def sA (P:Program)(M:Array Oper):Bool :=
 let c:=Region.before M
 Region.noSelect M && jw M c && (List.range M.size).all (fun j=>(List.range j).all fun i=>uH P M c i j) &&
 (List.range M.size).all fun j=>match M[j]? with
  | some F=>F.after.all (fun e => !Region.binds .any e || decide (e.on<j)) && decide (c.getD j 0<2 ^ M.size) && decide (c.size<=M.size)
  | none=>true
inductive cV where
 | op (i:Nat)
 | cY (i:Nat)
 deriving DecidableEq
section
variable (P:Program) (M:Array Oper)
def iY (i:Nat):Mw:=match M[i]? with|some o=>eP P o.op|none=>.pure
def vl (i j:Nat):Bool:=((Region.before M).getD j 0).testBit i
def je (j:Nat):List Nat:=(List.range M.size).filter fun i=>iY P M i == .eu && !(i == j) && !vl M i j && !vl M j i
def fT (c:List Nat):List cV:=c.flatMap fun i=>cV.op i::(match iY P M i with|.fS=>(je P M i).map cV.cY|_=>[])
def gu:List cV->List Nat
 | []=>[]
 | .op i::r=>i::gu r
 | .cY _::r=>gu r
def lg (a b:Mw):Bool:=match a,b with|.pure,_|_,.pure=>true|.eu,.eu|.eu,.fS=>true|_,_=>false
def uw (i j:Nat):Bool:=vl M i j || match M[i]?,M[j]? with|some D,some F=>D.apart M F && lg (eP P D.op) (eP P F.op)|_,_=>false
def nr:List Nat->Bool
 | []=>true
 | i::r=>r.all (fun j=>uw P M i j) && nr r
def jT:List Nat->List Nat->Bool
 | _,[]=>true
 | done,i::r=>(match M[i]? with|some o=>o.after.all fun e => !Region.binds .any e || done.contains e.on|none=>false) && jT (i::done) r
def tl (r k:Nat):Bool:=k == r || vl M k r || match M[r]?,M[k]? with
 | some c,some ok=>(match ok.dst with|some d => !(c.looksAt M).contains d && c.dst != some d|none=>true)
 | _,_=>true
def ri (is:List cV):Bool :=
 decide (is=fT P M (gu is)) && Region.noSelect M && jw M (Region.before M) &&
 decide ((gu is).length=M.size) && (gu is).all (fun i=>decide (i<M.size)) && decide ((gu is).Nodup) &&
 jT M [] (gu is) && nr P M (gu is) &&
 (List.range M.size).all (fun r => !(iY P M r == .eu) || (List.range M.size).all fun k=>tl M r k) &&
 M.all (fun o => !(eP P o.op == .eu) || (match o.dst with|some d => !(o.looksAt M).contains d|none=>false)) &&
 (List.range M.size).all (fun j=>decide ((Region.before M).getD j 0<2 ^ M.size)) && decide ((Region.before M).size<=M.size) && (List.range M.size).all fun j=>(gu is).contains j
end
def opsD (P:Program)(M:Array Oper)(K:Fr->World->Prop):List cV->Fr->World->Prop
 | [],ρ,w=>K ρ w
 | .op i::r,ρ,w=>(match M[i]? with|some o=>opsW P M (opsD P M K r) [o] ρ w|none=>False)
 | .cY i::r,ρ,w=>(match M[i]? with
   | some o=>(match o.guard with
     | none=>∀ d,o.dst=some d->ReadV P o ρ w (ρ d)
     | some g=>ik M ρ g=true->∀ d,o.dst=some d->ReadV P o ρ w (ρ d))
   | none=>False)/\opsD P M K r ρ w
inductive PT where
 | jz (is:List cV)
 | step (i:Nat) (is:List cV) (t:PT)
 | CK (i:Nat) (is:List cV) (t:PT) (more:PT)
 | stop
def kT (P:Program)(M:Array Oper)(K:Fr->World->Prop):PT->Fr->World->Prop
 | .jz is,ρ,w=>opsD P M K is ρ w
 | .step _ is t,ρ,w=>opsD P M (kT P M K t) is ρ w
 | .CK _ is t m,ρ,w=>opsD P M (kT P M K t) is ρ w/\kT P M K m ρ w
 | .stop,_,_=>True
def ux (P:Program)(M:Array Oper):Bool :=
 Region.noSelect M && jw M (Region.before M) &&
 (List.range M.size).all (fun r => !(iY P M r == .eu) || (List.range M.size).all fun k=>tl M r k) &&
 M.all (fun o => !(eP P o.op == .eu) || (match o.dst with|some d => !(o.looksAt M).contains d|none=>false)) &&
 (List.range M.size).all (fun j=>decide ((Region.before M).getD j 0<2 ^ M.size)) && decide ((Region.before M).size<=M.size)
def o6 (M:Array Oper)(c:List Nat)(i:Nat):Bool:=match M[i]? with|some o=>o.after.all fun e => !Region.binds .any e || c.contains e.on|none=>false
def kF (P:Program)(M:Array Oper):List Nat->List Nat->PT->Bool
 | c,seen,.jz is=>seen.isEmpty && decide (is=fT P M (gu is)) && decide ((gu is).length+c.length=M.size) && (gu is).all (fun i=>decide (i<M.size) && !c.contains i) && decide ((gu is).Nodup) && jT M c (gu is) && nr P M (gu is) && (List.range M.size).all fun j=>c.contains j || (gu is).contains j
 | c,seen,.step i is t=>seen.isEmpty && decide (is=fT P M [i]) && decide (c.length<M.size) && !c.contains i && o6 M c i && (List.range M.size).all (fun j=>c.contains j || j == i || uw P M i j) && kF P M (i::c) [] t
 | c,seen,.CK i is t m=>decide (is=fT P M [i]) && decide (c.length<M.size) && !c.contains i && o6 M c i && kF P M (i::c) [] t && kF P M c (i::seen) m
 | c,seen,.stop => !seen.isEmpty && (List.range M.size).all fun j=>c.contains j || seen.contains j || !o6 M c j
def vc (P:Program):Code->(Exit->Fr->World->Prop)->Fr->World->Prop
 | .skip,Q,ρ,w=>Q .normal ρ w
 | .label _,Q,ρ,w=>Q .normal ρ w
 | .seq a b,Q,ρ,w=>vc P a (Thn (vc P b Q) Q) ρ w
 | .cond c x y,Q,ρ,w=>∃ t,bh ρ c=.bool t/\(t=true->vc P x Q ρ w)/\(t=false->vc P y Q ρ w)
 | .block id c,Q,ρ,w=>vc P c (Blk id Q) ρ w
 | .loop c,Q,ρ,w=>∃ (q:Nat->Fr->World->Prop),(∃ m,q m ρ w)/\∀ m ρ w,q m ρ w->vc P c (Thn (fun C w'=>∃ S,S<m/\q S C w') Q) ρ w
 | .exit id,Q,ρ,w=>Q (.exit id) ρ w
 | .ret,Q,ρ,w=>Q .ret ρ w
 | .region _ M false,Q,ρ,w=>opsW P M (Q .normal) M.toList ρ w
 | .region _ M true,Q,ρ,w=>(sA P M=true/\opsW P M (Q .normal) M.toList ρ { w with drawn:=w.drawn+1 })\/(∃ is,ri P M is=true/\opsD P M (Q .normal) is ρ { w with drawn:=w.drawn+1 })\/∃ T,ux P M=true/\kF P M [] [] T=true/\kT P M (Q .normal) T ρ { w with drawn:=w.drawn+1 }
 | _,_,_,_=>False
def jR (n:Nat)(M:Array Oper):Bool:=M.all fun o=>match o.dst with|some d=>decide (d<n)|none=>true
def oR (n:Nat):Code->Bool
 | .seq a b=>oR n a && oR n b
 | .cond _ x y=>oR n x && oR n y
 | .block _ c=>oR n c
 | .loop c=>oR n c
 | .region _ M _=>jR n M
 | _=>true
def yb {a:Act}{d:Option Nat}{v:Value}(h:∀ t,d=some t->t<a.tmps.size):fr (a.put d v)=jq (fr a) d v:=by
 cases d with
 | none=>rfl
 | some d =>
  funext t
  have q:=h d rfl;simp only[fr,Act.put,jq,fQ];by_cases c:t=d
  ·subst c;simp[q]
  have:Nat.beq t d=false:=by cases C:Nat.beq t d with|false=>rfl|true=>exact absurd (Mg C) c
  rw[this];simp[wo (Ne.symm c)]
def fN (a:Act)(d:Option Nat)(v:Value):(a.put d v).tmps.size=a.tmps.size:=by cases d<;>simp[Act.put]
def Bi (a:Act)(d:Option Nat)(v:Value):(a.put d v).defers=a.defers:=by cases d<;>rfl
def FO {M:Array Oper}{a:Act}{o:Oper}{g:Nat × Bool}(I:o.guard=some g) :
  Region.wanted o (yielded M a.tmps)=ik M (fr a) g:=by
 obtain⟨j,want⟩:=g;simp only[Region.wanted,I,ik,kE,yielded,fr,ud]
 cases (M[j]?).bind (·.dst) with
 | none=>simp
 | some t =>
  simp only[An]
  cases c:a.tmps[t]? with
  | none=>simp[c,undef]
  | some v=>simp[c];cases v<;>simp
section
variable {P:Program}
def Ok (n:Nat)(K:Fr->World->Prop)(a:Act)(w:World):Prop:=a.tmps.size=n/\a.defers=[]/\K (fr a) w
def ß (n:Nat)(Q:Exit->Fr->World->Prop)(e:Exit)(a:Act)(w:World):Prop:=a.tmps.size=n/\a.defers=[]/\Q e (fr a) w
def wq {K K':Value->World->Prop}(h:∀ v w,K v w->K' v w){r:Result Next}(c:cJ P K r):cJ P K' r:=by
 unfold cJ at *
 split at c
 ·exact h _ _ c
 ·exact h _ _ c
 ·exact wh c fun e w' he=>by cases e<;>first|exact h _ _ he|exact he
 ·exact RoundIn.mono c fun e w' he=>by cases e<;>first|exact h _ _ he|exact he
 exact c.elim
def fw (ro:Option Nat):Fence:={ Fence.wide with round:=ro }
def à {ro:Option Nat}{f:FuncId}{args:Array Value}{w:World}(h:Calls P f args w R):CallsIn (fw ro) m P f args w R:=(callsIn_wide (n:=m)).2 h
def á {ro:Option Nat}{l:Nat}{f:FuncId}{tmps:Array Value}{assign body:Code}{w:World}(h:RoundIn Fence.wide 0 P l f tmps assign body w R):RoundIn (fw ro) m P l f tmps assign body w R :=
 ⟨h.1,fun c cs _=>h.2 c cs (room_wide _)⟩
def â {o:Oper}{ρ:Fr}{w:World}{K:Value->World->Prop}(h:opW P o ρ w K):∀ c,o.op≠.defer c:=by
 intro c q;unfold opW execOp at h;simp only[q]at h;simp only[fG]at h;generalize (resolve (bh ρ) c o.type).run P w=r at h;cases r<;>exact h
def ã {ro:Option Nat}{o:Oper}{a:Act}{w:World}{K:Value->World->Prop}{Q:Exit->Act->World->Prop}(h:opW P o (fr a) w K):o.wpIn (fw ro) m P a w (fun C w'=>∃ v,C=a.put o.dst v/\K v w') Q:=by
 refine⟨fun _ _=>trivial,?_⟩;rw[Oper.semAt_eq _ _ _ (â h)];unfold opW at h;rw[sJ]at h;generalize (execOp a.eval o).run P w=r at *
 unfold cJ at h;split at h
 ·exact⟨_,rfl,h⟩
 ·exact⟨_,rfl,h⟩
 ·refine⟨fun q=>absurd q (by simp[fw,Fence.wide]),CallsIn.mono (à h) fun e w' he=>?_⟩
  cases e with
  | returned v=>exact⟨_,rfl,he⟩
  | panicked c=>exact he.elim
  | outgrown=>exact he.elim
 ·refine⟨fun q=>absurd q (by simp[fw,Fence.wide]),RoundIn.mono (á h) fun e w' he=>?_⟩
  cases e with
  | returned v=>exact⟨_,rfl,he⟩
  | panicked c=>exact he.elim
  | outgrown=>exact he.elim
 exact h.elim
def ix (P:Program)(o:Oper)(a:Act)(w:World)(K:Act->World->Prop):Prop :=
 match eP P o.op with
 | .pure=>∃ v,(∀ w,(execOp a.eval o).run P w=.ok (.value v) w)/\K (a.put o.dst v) w
 | .eu=>∃ v,(execOp a.eval o).run P w=.ok (.value v) w/\K (a.put o.dst v) w
 | .fS=>cJ P (fun v w'=>K (a.put o.dst v) w') ((execOp a.eval o).run P w)
def r9 (P:Program)(M:Array Oper)(o:Oper)(K:Act->World->Prop)(a:Act)(w:World):Prop :=
 (Region.wanted o (yielded M a.tmps)=true->ix P o a w K)/\(Region.wanted o (yielded M a.tmps)=false->K (a.put o.dst undef) w)
def FP {o:Oper}{a:Act}{w:World}{K:Act->World->Prop}(h:∀ u w',K (a.put o.dst u) w'->K' (a.put o.dst u) w')(c:ix P o a w K):ix P o a w K':=by
 unfold ix at *
 split at c
 ·obtain⟨v,h1,q⟩:=c;exact⟨v,h1,h _ _ q⟩
 ·obtain⟨v,h1,q⟩:=c;exact⟨v,h1,h _ _ q⟩
 exact wq (fun v w'=>h v w') c
def Bv {M:Array Oper}{o:Oper}{a:Act}{w:World}{K:Act->World->Prop}(h:∀ u w',K (a.put o.dst u) w'->K' (a.put o.dst u) w')(c:r9 P M o K a w):r9 P M o K' a w :=
 ⟨fun Y=>FP h (c.1 Y),fun Y=>h _ _ (c.2 Y)⟩
def IG {K:Value->World->Prop}{r:Result Next}(h:cJ P K r):∃ v w',K v w':=by
 unfold cJ at h;split at h
 ·exact⟨_,_,h⟩
 ·exact⟨_,_,h⟩
 ·obtain⟨e,w',C,q,_⟩:=h []
  cases e with
  | returned v=>exact⟨_,_,q⟩
  | panicked c=>exact q.elim
  | outgrown=>exact q.elim
 ·obtain⟨e,w',q,_⟩:=h.2 default [] (room_wide _)
  cases e with
  | returned v=>exact⟨_,_,q⟩
  | panicked c=>exact q.elim
  | outgrown=>exact q.elim
 exact h.elim
def ä {o:Oper}{a:Act}{w:World}{K:Act->World->Prop}(h:ix P o a w K):∃ v w',K (a.put o.dst v) w':=by
 unfold ix at h;split at h
 ·obtain⟨v,_,c⟩:=h;exact⟨_,_,c⟩
 ·obtain⟨v,_,c⟩:=h;exact⟨_,_,c⟩
 exact IG h
def å {M:Array Oper}{o:Oper}{a:Act}{w:World}{K:Act->World->Prop}(h:r9 P M o K a w):∃ v w',K (a.put o.dst v) w':=by
 cases Y:Region.wanted o (yielded M a.tmps) with
 | true=>exact ä (h.1 Y)
 | false=>exact⟨_,_,h.2 Y⟩
def Sa {M:Array Oper}{v:Value}(q:D.apart M F=true)(C:∀ cs b,F.op≠.select cs b){K:Act->World->Prop}{a:Act}{w:World}(h:ix P F (a.put D.dst v) w K):ix P F a w fun V w'=>K (V.put D.dst v) w':=by
 obtain⟨h1,S,h3⟩:=Eb q;unfold ix at *
 rw[execOp_put F C a D.dst v h1]at h;split
 ·rename_i c;simp only[c]at h
  obtain⟨u,hu,hk⟩:=h;exact⟨u,hu,(by have aw:=hk;rw[sM a v u S]at aw;exact aw)⟩
 ·rename_i c;simp only[c]at h
  obtain⟨u,hu,hk⟩:=h;exact⟨u,hu,(by have aw:=hk;rw[sM a v u S]at aw;exact aw)⟩
 rename_i c;simp only[c]at h;exact wq (fun u w' hk=>(by have aw:=hk;rw[sM a v u S]at aw;exact aw)) h
def æ {M:Array Oper}{v:Value}(c:D.apart M F=true)(q:∀ cs b,F.op≠.select cs b){K:Act->World->Prop}{a:Act}{w:World}(h:r9 P M F K (a.put D.dst v) w):r9 P M F (fun C w'=>K (C.put D.dst v) w') a w:=by
 obtain⟨h1,S,V⟩:=Eb c;unfold r9 at *
 rw[wanted_put F a D.dst v h1]at h;exact⟨fun Y=>Sa c q (h.1 Y),fun Y=>(by have aw:=h.2 Y;rw[sM a v undef S]at aw;exact aw)⟩
def ç {M:Array Oper}(j':D.apart M F=true)(H':lc P D.op F.op=true)(R':∀ cs b,D.op≠.select cs b)(J':∀ cs b,F.op≠.select cs b){K:Act->World->Prop}{a:Act}{w:World}(h:r9 P M D (r9 P M F K) a w):r9 P M F (r9 P M D K) a w:=by
 obtain⟨h1,h2,h3⟩:=Eb j';have wi:∀ u,Region.wanted D (yielded M (a.put F.dst u).tmps)=Region.wanted D (yielded M a.tmps):=fun u=>wanted_put D a F.dst u h3;have wj:∀ u,Region.wanted F (yielded M (a.put D.dst u).tmps)=Region.wanted F (yielded M a.tmps):=fun u=>wanted_put F a D.dst u h1;have ei:∀ u,execOp (a.put F.dst u).eval D=execOp a.eval D:=fun u=>execOp_put D R' a F.dst u h3;have ej:∀ u,execOp (a.put D.dst u).eval F=execOp a.eval F:=fun u=>execOp_put F J' a D.dst u h1
 cases S:Region.wanted D (yielded M a.tmps) with
 | false =>
  refine Bv (fun u w' hk=>?_) (æ j' J' (h.2 S))
  exact⟨fun Y=>(by rw[wi u,S]at Y;cases Y),fun _=>hk⟩
 | true =>
  have hi:=h.1 S
  cases V:Region.wanted F (yielded M a.tmps) with
  | false =>
   refine⟨fun Y=>(by rw[V]at Y;cases Y),fun _=>⟨fun _=>?_,fun Y=>(by rw[wi,S]at Y;cases Y)⟩⟩;have c:ix P D a w fun a' w'=>K (a'.put F.dst undef) w':=FP (fun u w' hk=>hk.2 (by rw[wj u,V])) hi;unfold ix at c ⊢;rw[ei];split
   ·rename_i q;simp only[q]at c;obtain⟨v,hv,hk⟩:=c;exact⟨v,hv,(by have aw:=hk;rw[sM a v undef h2]at aw;exact aw)⟩
   ·rename_i q;simp only[q]at c;obtain⟨v,hv,hk⟩:=c;exact⟨v,hv,(by have aw:=hk;rw[sM a v undef h2]at aw;exact aw)⟩
   rename_i q;simp only[q]at c;exact wq (fun v w' hk=>(by have aw:=hk;rw[sM a v undef h2]at aw;exact aw)) c
  | true =>
   refine⟨fun _=>?_,fun Y=>(by rw[V]at Y;cases Y)⟩;have c:ix P D a w fun a' w'=>ix P F a' w' K:=FP (fun u w' hk=>hk.1 (by rw[wj u,V])) hi;have done:ix P F a w (fun a' w'=>ix P D a' w' K)->ix P F a w (r9 P M D K):=FP (fun u w' hk=>⟨fun _=>hk,fun Y=>(by rw[wi u,S]at Y;cases Y)⟩);refine done ?_;clear hi h done
   cases q:eP P D.op with
   | pure =>
    unfold ix at c;simp only[q]at c;obtain⟨v,hv,hk⟩:=c;refine FP (fun u w' hk=>?_) (Sa j' J' (K:=K) (v:=v) hk)
    unfold ix;simp only[q];rw[ei u];exact⟨v,hv,hk⟩
   | eu =>
    cases C:eP P F.op with
    | pure =>
     unfold ix at c ⊢;simp only[q,C]at c ⊢;obtain⟨v,hv,u,hu,hk⟩:=c;rw[ej v]at hu
     exact⟨u,hu,v,by rw[ei u];exact hv,(by have aw:=hk;rw[sM a v u h2]at aw;exact aw)⟩
    | eu =>
     unfold ix at c ⊢;simp only[q,C]at c ⊢;obtain⟨v,hv,u,hu,hk⟩:=c;rw[ej v]at hu
     exact⟨u,hu,v,by rw[ei u];exact hv,(by have aw:=hk;rw[sM a v u h2]at aw;exact aw)⟩
    | fS=>simp[lc,q,C]at H'
   | fS =>
    cases C:eP P F.op with
    | pure =>
     unfold ix at c ⊢;simp only[q,C]at c ⊢;obtain⟨v0,w0,u,hu,_⟩:=IG c;rw[ej v0]at hu;refine⟨u,hu,?_⟩;rw[ei u];refine wq (fun v w' hk=>?_) c;obtain⟨u',P',hk⟩:=hk;rw[ej v]at P';have he:=(hu w').symm.trans (P' w');simp only[Result.ok.injEq,Next.value.injEq,Iv]at he;subst he
     rw[<-sM a v u h2];exact hk
    | eu=>simp[lc,q,C]at H'
    | fS=>simp[lc,q,C]at H'
def qS (P:Program)(M:Array Oper)(i:Nat)(K:Act->World->Prop)(a:Act)(w:World):Prop :=
 match M[i]? with
 | none=>K a w
 | some o=>r9 P M o K a w
def o7 (P:Program)(M:Array Oper)(K:Act->World->Prop):Nat->Array Bool->Act->World->Prop
 | 0,listed,a,w=>Region.ready .any M listed=[]/\K a w
 | fuel+1,listed,a,w=>(Region.ready .any M listed=[]->K a w) /\
  ∀ i∈Region.ready .any M listed,qS P M i (o7 P M K fuel (listed.setIfInBounds i true)) a w
def IH {M:Array Oper}{K:Act->World->Prop}{Q:Exit->Act->World->Prop}{a:Act}{w:World}{ro:Option Nat}(h:qS P M i K a w):wpOpIn (fw ro) m P M Q i K a w:=by
 unfold qS at h;unfold wpOpIn;split
 ·rename_i c;simp only[c]at h;exact h
 rename_i o c;simp only[c]at h;split
 ·rename_i Y
  have hv:=h.1 Y;have q:opW P o (fr a) w fun v w'=>K (a.put o.dst v) w':=by
   unfold opW;rw[sJ];unfold ix at hv;split at hv
   ·obtain⟨v,hv,hk⟩:=hv;rw[hv w];exact hk
   ·obtain⟨v,hv,hk⟩:=hv;rw[hv];exact hk
   exact hv
  exact Oper.wpIn_mono (fun C w' ⟨v,e,hk⟩=>by subst e;exact hk) (ã q)
 rename_i Y;exact⟨fun _ _=>trivial,h.2 (by simpa using Y)⟩
def Mx {ro:Option Nat}{m:Nat}{M:Array Oper}{K:Act->World->Prop}{Q:Exit->Act->World->Prop}(c:∀ a w,K a w->Q .normal a w):∀ (fuel:Nat) (listed:Array Bool) (a:Act) (w:World),
  o7 P M K fuel listed a w->wpAnyIn (fw ro) m P .any M Q fuel listed a w
 | 0,_,_,_,h=>⟨h.1,c _ _ h.2⟩
 | fuel+1,_,_,_,h=>⟨fun C=>c _ _ (h.1 C),fun i hi=>IH (by
   have:=h.2 i hi;unfold qS at this ⊢;split
   ·rename_i q;simp only[q]at this;exact Mx c fuel _ _ _ this
   rename_i o q;simp only[q]at this;exact Bv (fun u w' hk=>Mx c fuel _ _ _ hk) this)⟩
def s8 (M:Array Oper)(listed:Array Bool):Prop:=∀ j i,listed.getD j false=true->((Region.before M).getD j 0).testBit i=true->listed.getD i false=true
def My {M:Array Oper}(S:jw M (Region.before M)=true){j:Nat}(C:M[j]? = some F)(hi:i<M.size)(V:((Region.before M).getD j 0).testBit i=true) :
  ∃ e∈F.after,Region.binds .any e=true/\(e.on=i\/((Region.before M).getD e.on 0).testBit i=true):=by
 have q:j<M.size:=(mw.1 C).1;have h1:=all_eq_true.1 (all_eq_true.1 S j (mem_range.2 q)) i (mem_range.2 hi);simp only[V,pz,uS,C]at h1;obtain⟨e,he,c⟩:=Array.any_eq_true'.1 h1;simp only[Bool.and_eq_true,sL,tW]at c;exact⟨e,he,c.1,c.2⟩
def Bw {listed:Array Bool}(h:listed.getD i true=false):listed.getD i false=false/\i<listed.size:=by
 rcases pB i listed.size with c|c
 ·simp[c]at h ⊢;exact h
 simp[vj c]at h
def Mz {M:Array Oper}(hc:jw M (Region.before M)=true){listed:Array Bool}(hd:s8 M listed)(hs:listed.size=M.size){j:Nat}(hi:listed.getD i true=false)(hj:j∈Region.ready .any M listed):((Region.before M).getD j 0).testBit i=false:=by
 obtain⟨_,F,V,C⟩:=mem_ready.1 hj
 cases hb:((Region.before M).getD j 0).testBit i with
 | false=>rfl
 | true =>
  obtain⟨S,j'⟩:=Bw hi;obtain⟨e,he,c,q⟩:=My hc V U hb;have hl:=C e he c;rcases q with rfl|q
  ·rw[S]at hl;cases hl
  have:=hd _ _ hl q;rw[S]at this;cases this
def II {M:Array Oper}(hc:jw M (Region.before M)=true){listed:Array Bool}(hd:s8 M listed){j:Nat}(hj:j∈Region.ready .any M listed)
  (V:∀ k i,((Region.before M).getD k 0).testBit i=true->i<M.size):s8 M (listed.setIfInBounds j true):=by
 obtain⟨_,F,j',C⟩:=mem_ready.1 hj;intro k i hk hb;by_cases S:j=k
 ·subst S
  obtain⟨e,he,c,q⟩:=My hc j' (V _ _ hb) hb;have hl:=C e he c;rcases q with rfl|q
  ·exact getD_set_true hl
  exact getD_set_true (hd _ _ hl q)
 rw[getD_set_ne false S]at hk;exact getD_set_true (hd _ _ hk hb)
def è {M:Array Oper}{K:Act->World->Prop}(hc:jw M (Region.before M)=true)(J':∀ k i,((Region.before M).getD k 0).testBit i=true->i<M.size)(S:∀ (j:Nat) (o:Oper) cs b,M[j]? = some o->o.op≠.select cs b)(hi:M[i]? = some D) :
  ∀ (fuel:Nat) (listed:Array Bool) (a:Act) (w:World),listed.size=M.size->s8 M listed ->
   (∀ j F,M[j]? = some F->j≠i->listed.getD j true=false->((Region.before M).getD j 0).testBit i=false->D.apart M F=true/\lc P D.op F.op=true) ->
   i∈Region.ready .any M listed->r9 P M D (o7 P M K fuel (listed.setIfInBounds i true)) a w->o7 P M K (fuel+1) listed a w:=by
 intro fuel
 induction fuel with
 | zero =>
  intro listed a w hs hd q hr H;refine⟨fun h=>(by rw[h]at hr;cases hr),fun j hj=>?_⟩;by_cases c:j=i
  ·subst c;unfold qS;rw[hi];exact H
  obtain⟨v,w',hk⟩:=å H;have:=ready_mono hj c
  rw[hk.1]at this;cases this
 | succ fuel ih =>
  intro listed a w hs hd q hr H;refine⟨fun h=>(by rw[h]at hr;cases hr),fun j hj=>?_⟩;by_cases c:j=i
  ·subst c;unfold qS;rw[hi];exact H
  obtain⟨V,F,C,_⟩:=mem_ready.1 hj;have P':=(mem_ready.1 hr).1;have R':=Mz hc hd hs P' hj;obtain⟨T',V'⟩:=q j F C c V R'
  have h1:r9 P M D (r9 P M F (o7 P M K fuel ((listed.setIfInBounds i true).setIfInBounds j true))) a w :=
   Bv (fun u w' hk=>by have:=hk.2 j (ready_mono hj c);unfold qS at this;rw[C]at this;exact this) H
  have h2:=ç T' V' (fun cs b=>S i D cs b hi) (fun cs b=>S j F cs b C) h1;unfold qS;rw[C];refine Bv (fun u w' hk=>?_) h2;rw[RW _ _ (Ne.symm c)]at hk;refine ih (listed.setIfInBounds j true) _ w' (by simpa using hs) (II hc hd hj J') (fun k ok bX _a j' _b=>q k ok bX _a ?_ _b) (ready_mono hr (Ne.symm c)) hk;by_cases H':j=k
  ·subst H';exact V
  rw[getD_set_ne true H']at j';exact j'
def Du (M:Array Oper)(k:Nat)(listed:Array Bool):Prop:=listed.size=M.size/\∀ j,j<M.size->∀ d,listed.getD j d=decide (j<k)
def é {M:Array Oper}(hc:jw M (Region.before M)=true)(S:∀ j F,M[j]? = some F->∀ e∈F.after,Region.binds .any e=true->e.on<j) :
  ∀ j i,i<M.size->j<M.size->((Region.before M).getD j 0).testBit i=true->i<j:=by
 intro j
 induction j using Nat.strongRecOn with
 | _ j ih =>
  intro i hi hj hb;obtain⟨F,C⟩:∃ F,M[j]? = some F:=⟨M[j],by simp[hj]⟩
  obtain⟨e,he,c,q⟩:=My hc C hi hb;have V:=S j F C e he c;rcases q with rfl|q
  ·exact V
  exact Nat.lt_trans (ih e.on V i hi U q) V
def Sb {M:Array Oper}{o:Oper}{r:List Oper}{K:Fr->World->Prop}{a:Act}{w:World}(C:∀ d,o.dst=some d->d<n)(hs:a.tmps.size=n)(hd:a.defers=[])(h:opsW P M K (o::r) (fr a) w):r9 P M o (fun q w'=>q.tmps.size=n/\q.defers=[]/\opsW P M K r (fr q) w') a w:=by
 have S:∀ v,fr (a.put o.dst v)=jq (fr a) o.dst v:=fun v=>yb fun t ht=>by rw[hs];exact C t ht
 have c:∀ v w',opsW P M K r (jq (fr a) o.dst v) w'->(a.put o.dst v).tmps.size=n/\(a.put o.dst v).defers=[]/\opsW P M K r (fr (a.put o.dst v)) w' :=
  fun v w' hk=>⟨by rw[fN,hs],by rw[Bi,hd],by rw[S];exact hk⟩
 have V:opV P o (fr a) w (opsW P M K r)->ix P o a w fun q w'=>q.tmps.size=n/\q.defers=[]/\opsW P M K r (fr q) w':=by
  intro h;unfold opV at h;unfold ix;split at h
  ·obtain⟨v,hv,hk⟩:=h
   unfold PureV at hv;rw[sJ]at hv;exact⟨v,hv,c _ _ hk⟩
  ·obtain⟨v,hv,hk⟩:=h
   unfold ReadV at hv;rw[sJ]at hv;exact⟨v,hv,c _ _ hk⟩
  unfold opW at h;rw[sJ]at h;exact wq (fun v w' hk=>c _ _ hk) h
 simp only[opsW]at h
 cases I:o.guard with
 | none =>
  simp only[I]at h;refine⟨fun _=>V h,fun Y=>?_⟩
  simp[Region.wanted,I]at Y
 | some g =>
  simp only[I]at h;unfold r9;rw[FO I];exact⟨fun Y=>V (h.1 Y),fun Y=>c _ _ (h.2 Y)⟩
def ê {M:Array Oper}{K:Fr->World->Prop}(_f:sA P M=true)(_c:jR n M=true)
  :
  ∀ (l:List Oper) (k:Nat) (listed:Array Bool) (a:Act) (w:World),(∀ j,l[j]? = M[k+j]?)->k+l.length=M.size->Du M k listed ->
   a.tmps.size=n->a.defers=[]->opsW P M K l (fr a) w->o7 P M (Ok n K) l.length listed a w:=by
 have H':=_f;simp only[sA,Bool.and_eq_true]at H';obtain⟨⟨⟨_d,hc⟩,R'⟩,T'⟩:=H';have J':∀ j F,M[j]? = some F->∀ e∈F.after,Region.binds .any e=true->e.on<j:=by
  intro j F q e he c;have h1:=all_eq_true.1 T' j (mem_range.2 (mw.1 q).1);simp only[q,Bool.and_eq_true]at h1;have C:=xV.1 h1.1.1 e he
  simpa [c] using C
 have _e:∀ k i,((Region.before M).getD k 0).testBit i=true->i<M.size:=by
  intro k i c;rcases pB k M.size with hk|hk
  ·have h1:=all_eq_true.1 T' k (mem_range.2 hk)
   have bX:M[k]? = some M[k]:=by simp[hk]
   simp only[bX,Bool.and_eq_true,jV]at h1;rcases pB i M.size with hi|hi
   ·exact hi
   have:=Ec (Cr h1.1.2 (zA U hi));rw[this]at c;cases c
  rcases wg M.size with V|V
  ·have:M=#[]:=by simpa using V
   subst this;simp[Region.before]at c
  have h1:=all_eq_true.1 T' 0 (mem_range.2 V);have bX:M[0]? = some M[0]:=by simp[V]
  simp only[bX,Bool.and_eq_true,jV]at h1;have:(Region.before M).getD k 0=0:=by
   have:(Region.before M).size<=k:=U;simp[vj this]
  rw[this]at c;simp at c
 intro l
 induction l with
 | nil =>
  intro k listed a w hl hk C hs hd h;refine⟨?_,hs,hd,h⟩;rcases hr:Region.ready .any M listed with _|⟨x,xs⟩
  ·rfl
  have hx:x∈Region.ready .any M listed:=by rw[hr];exact ku
  obtain⟨S,ox,P',_⟩:=mem_ready.1 hx;have j':=(mw.1 P').1;rw[C.2 x j']at S;simp only[length_nil,Ai]at hk
  simp[hk,j']at S
 | cons o r ih =>
  intro k listed a w hl hk C hs hd h;simp only[length_cons]at hk;have V:M[k]? = some o:=by simpa using (hl 0).symm
  have _g:k<M.size:=U;have _h:∀ d,o.dst=some d->d<n:=by
   intro d S;have:=xV.1 _c o (Ao V)
   simpa [S] using this
  have j':k∈Region.ready .any M listed:=by
   refine mem_ready.2 ⟨by rw[C.2 k _g];simp,o,V,fun e he c=>?_⟩;have:=J' k o V e he c;rw[C.2 e.on U];simpa using this
  have V':s8 M listed:=by
   intro j i q c;have P':=_e _ _ c;have S:j<M.size:=by
    rcases pB j listed.size with h'|h'
    ·rw[C.1]at h';exact h'
    simp[vj h']at q
   have _a:=é hc J' j i P' S c;rw[C.2 j S]at q;rw[C.2 i P'];simp at q ⊢;omega
  have _a:∀ j F,M[j]? = some F->j≠k->listed.getD j true=false->((Region.before M).getD j 0).testBit k=false->o.apart M F=true/\lc P o.op F.op=true:=by
   intro j F q _b P' c;have S:=(mw.1 q).1;rw[C.2 j S]at P';have _i:k<j:=by simp at P';omega
   have h1:=all_eq_true.1 (all_eq_true.1 R' j (mem_range.2 S)) k (mem_range.2 _i);simp only[uH,c,uS,V,q,Bool.and_eq_true]at h1;exact h1
  refine è hc _e (Mh _d) V r.length listed a w C.1 V' _a j' ?_;refine Bv (fun u w' aw => ?_) (Sb _h hs hd h);refine ih (k+1) _ _ _ (fun j=>by have:=hl (j+1);simpa [Bt,Iy 1 j] using this) U ⟨by simpa using C.1,fun j q d=>?_⟩ aw.1 aw.2.1 aw.2.2;by_cases _b:k=j
  ·subst _b
   have:k<listed.size:=by rw[C.1];exact q
   simp[this]
  rw[getD_set_ne d _b,C.2 j q d];by_cases c:j<k
  ·simp[c];omega
  have:¬j<k+1:=U;simp[c,this]
def ë {ro:Option Nat}{id:Nat}{M:Array Oper}{K:Fr->World->Prop}{a:Act}{w:World}{Q:Exit->Act->World->Prop}(hQ:∀ a w,Ok n K a w->Q .normal a w)(c:jR n M=true)(q:a.tmps.size=n)(C:a.defers=[])(h:opsW P M K M.toList (fr a) w):(Code.region id M false).wpIn (fw ro) m P Q a w:=by
 refine wpIn_region ?_
 have key:∀ (l:List Oper) (k:Nat) (a:Act) (w:World),(∀ j,l[j]? = M[k+j]?)->k+l.length=M.size->a.tmps.size=n->a.defers=[]->opsW P M K l (fr a) w ->
   wpOpsIn (fw ro) m P M Q ((range' k l.length)) a w:=by
  intro l
  induction l with
  | nil=>intro k a w _ _ q C h;exact hQ _ _ ⟨q,C,h⟩
  | cons o r ih =>
   intro k a w hl hk q C h;have h0:M[k]? = some o:=by simpa using (hl 0).symm
   have S:∀ d,o.dst=some d->d<n:=by
    intro d V;have:=xV.1 c o (Ao h0)
    simpa [V] using this
   simp only[length_cons,range'_succ];rw[wpOpsIn_cons];refine IH ?_;unfold qS;rw[h0];refine Bv (fun u w' aw => ?_) (Sb S q C h);simp only[length_cons]at hk;exact ih (k+1) _ _ (fun j=>by have:=hl (j+1);simpa [Bt,Iy 1 j] using this) U aw.1 aw.2.1 aw.2.2
 have:=key M.toList 0 a w sm sm q C h
 simpa [range_eq_range'] using this
def rj (P:Program)(M:Array Oper)(i:Nat)(a:Act)(w:World):Prop :=
 ∀ D,M[i]? = some D->Region.wanted D (yielded M a.tmps)=true->∀ d,D.dst=some d->(execOp a.eval D).run P w=.ok (.value (a.tmps.getD d undef)) w
def eR (P:Program)(M:Array Oper)(listed:Array Bool)(j:Nat)(o:Oper)(a:Act)(w:World)(K:Act->World->Prop):Prop :=
 match eP P o.op with
 | .pure=>∃ v,(∀ w,(execOp a.eval o).run P w=.ok (.value v) w)/\K (a.put o.dst v) w
 | .eu=>∃ v,(execOp a.eval o).run P w=.ok (.value v) w/\K (a.put o.dst v) w
 | .fS=>cJ P (fun v w'=>(∀ r∈je P M j,listed.getD r false=true->rj P M r a w')/\K (a.put o.dst v) w') ((execOp a.eval o).run P w)
def kU (P:Program)(M:Array Oper)(listed:Array Bool)(j:Nat)(o:Oper)(K:Act->World->Prop)(a:Act)(w:World):Prop :=
 (Region.wanted o (yielded M a.tmps)=true->eR P M listed j o a w K)/\(Region.wanted o (yielded M a.tmps)=false->K (a.put o.dst undef) w)
def CL {M:Array Oper}{listed:Array Bool}{j:Nat}{o:Oper}{a:Act}{w:World}{K:Act->World->Prop}(h:∀ u w',K (a.put o.dst u) w'->K' (a.put o.dst u) w')(c:eR P M listed j o a w K):eR P M listed j o a w K':=by
 unfold eR at *
 split at c
 ·obtain⟨v,h1,q⟩:=c;exact⟨v,h1,h _ _ q⟩
 ·obtain⟨v,h1,q⟩:=c;exact⟨v,h1,h _ _ q⟩
 exact wq (fun v w' hk=>⟨hk.1,h v w' hk.2⟩) c
def FQ {M:Array Oper}{listed:Array Bool}{j:Nat}{o:Oper}{a:Act}{w:World}{K:Act->World->Prop}(h:∀ u w',K (a.put o.dst u) w'->K' (a.put o.dst u) w')(c:kU P M listed j o K a w):kU P M listed j o K' a w :=
 ⟨fun Y=>CL h (c.1 Y),fun Y=>h _ _ (c.2 Y)⟩
def ì {M:Array Oper}{listed:Array Bool}{j:Nat}{o:Oper}{a:Act}{w:World}{K:Act->World->Prop}(h:eR P M listed j o a w K):∃ v w',K (a.put o.dst v) w':=by
 unfold eR at h;split at h
 ·obtain⟨v,_,c⟩:=h;exact⟨_,_,c⟩
 ·obtain⟨v,_,c⟩:=h;exact⟨_,_,c⟩
 obtain⟨v,w',_,c⟩:=IG h;exact⟨_,_,c⟩
def í {M:Array Oper}{listed:Array Bool}{j:Nat}{o:Oper}{a:Act}{w:World}{K:Act->World->Prop}(h:kU P M listed j o K a w):∃ v w',K (a.put o.dst v) w':=by
 cases Y:Region.wanted o (yielded M a.tmps) with
 | true=>exact ì (h.1 Y)
 | false=>exact⟨_,_,h.2 Y⟩
def î {M:Array Oper}{listed:Array Bool}{j:Nat}{o:Oper}{a:Act}{w:World}{K:Act->World->Prop}(h:eR P M listed j o a w K):ix P o a w K:=by
 unfold eR at h;unfold ix;split
 ·rename_i c;simp only[c]at h;exact h
 ·rename_i c;simp only[c]at h;exact h
 rename_i c;simp only[c]at h;exact wq (fun v w' hk=>hk.2) h
def ï {M:Array Oper}{listed:Array Bool}{j:Nat}{o:Oper}{a:Act}{w:World}{K:Act->World->Prop}(h:kU P M listed j o K a w):r9 P M o K a w:=⟨fun Y=>î (h.1 Y),h.2⟩
def nU (M:Array Oper)(r:Nat)(o:Oper):Prop:=∀ c,M[r]? = some c->(∀ d,o.dst=some d->d∉c.looksAt M)/\∀ d,o.dst=some d->c.dst≠some d
def IJ {M:Array Oper}{r:Nat}{o:Oper}{a:Act}{w:World}(v:Value)(hs:nU M r o)(C:∀ c cs b,M[r]? = some c->c.op≠.select cs b):rj P M r (a.put o.dst v) w↔rj P M r a w:=by
 unfold rj;constructor
 ·intro h c q Y d V
  obtain⟨h1,h2⟩:=hs c q;have:=h c q (by rw[wanted_put c a o.dst v h1];exact Y) d V;rw[execOp_put c (fun cs b=>C c cs b q) a o.dst v h1]at this;have I:(a.put o.dst v).tmps.getD d undef=a.tmps.getD d undef:=by
   cases ho:o.dst with
   | none=>rfl
   | some d' =>
    have S:d'≠d:=fun e=>h2 d' ho (e ▸ V);simp[Act.put,wo S]
  rw[I]at this;exact this
 intro h c q Y d V;obtain⟨h1,h2⟩:=hs c q;rw[wanted_put c a o.dst v h1]at Y;have:=h c q Y d V;rw[execOp_put c (fun cs b=>C c cs b q) a o.dst v h1];have I:(a.put o.dst v).tmps.getD d undef=a.tmps.getD d undef:=by
  cases ho:o.dst with
  | none=>rfl
  | some d' =>
   have S:d'≠d:=fun e=>h2 d' ho (e ▸ V);simp[Act.put,wo S]
 rw[I];exact this
def FR {M:Array Oper}{r j:Nat}(h:r∈je P M j):iY P M r=.eu/\r≠j:=by
 simp only[je,wT,Bool.and_eq_true,tW,Aj,beq_eq_false_iff_ne]at h;exact⟨h.2.1.1.1,h.2.1.1.2⟩
def MA {M:Array Oper}{listed:Array Bool}{j:Nat}{v:Value}(c:∀ (k:Nat) (o:Oper) cs b,M[k]? = some o->o.op≠.select cs b)(q:D.apart M F=true)(C:∀ cs b,F.op≠.select cs b){K:Act->World->Prop}{a:Act}{w:World}(S:∀ r,listed.getD r false=true->iY P M r=.eu->nU M r D)(h:eR P M (listed.setIfInBounds i true) j F (a.put D.dst v) w K):eR P M listed j F a w fun a' w'=>(eP P F.op=.fS->∀ r∈je P M j,(listed.setIfInBounds i true).getD r false=true->rj P M r (a.put D.dst v) w')/\K (a'.put D.dst v) w':=by
 obtain⟨h1,V,h3⟩:=Eb q;unfold eR at *
 rw[execOp_put F C a D.dst v h1]at h
 cases hc:eP P F.op with
 | pure =>
  simp only[hc]at h ⊢;obtain⟨u,hu,hk⟩:=h
  exact⟨u,hu,fun e=>(by cases e),by have aw:=hk;rw[sM a v u V]at aw;exact aw⟩
 | eu =>
  simp only[hc]at h ⊢;obtain⟨u,hu,hk⟩:=h
  exact⟨u,hu,fun e=>(by cases e),by have aw:=hk;rw[sM a v u V]at aw;exact aw⟩
 | fS =>
  simp only[hc]at h ⊢;refine wq (fun u w' hk=>⟨fun r hr hl=>?_,fun _=>hk.1,by have aw:=hk.2;rw[sM a v u V]at aw;exact aw⟩) h;exact(IJ v (S r hl (FR hr).1) (fun j' cs b ho=>c r j' cs b ho)).1 (hk.1 r hr (getD_set_true hl))
def Sc {M:Array Oper}{listed:Array Bool}{j:Nat}(c:∀ (k:Nat) (o:Oper) cs b,M[k]? = some o->o.op≠.select cs b)(C:D.apart M F=true)(S:∀ cs b,D.op≠.select cs b)(V:eP P D.op=.fS->j∉je P M i){K:Act->World->Prop}{a:Act}{w:World}(j':∀ r,listed.getD r false=true->iY P M r=.eu->nU M r F)(h:eR P M listed i D a w fun a' w'=>K (a'.put F.dst u) w'):eR P M (listed.setIfInBounds j true) i D (a.put F.dst u) w K:=by
 obtain⟨h1,h2,h3⟩:=Eb C;unfold eR at *
 rw[execOp_put D S a F.dst u h3]
 cases q:eP P D.op with
 | pure =>
  simp only[q]at h ⊢;obtain⟨v,hv,hk⟩:=h
  exact⟨v,hv,by have aw:=hk;rw[sM a v u h2]at aw;exact aw⟩
 | eu =>
  simp only[q]at h ⊢;obtain⟨v,hv,hk⟩:=h
  exact⟨v,hv,by have aw:=hk;rw[sM a v u h2]at aw;exact aw⟩
 | fS =>
  simp only[q]at h ⊢;refine wq (fun v w' hk=>⟨fun r hr hl=>?_,by have aw:=hk.2;rw[sM a v u h2]at aw;exact aw⟩) h;have H':r≠j:=fun e=>V q (e ▸ hr);rw[getD_set_ne false (Ne.symm H')]at hl;exact(IJ u (j' r hl (FR hr).1) (fun J' cs b ho=>c r J' cs b ho)).2 (hk.1 r hr hl)
section
variable {M:Array Oper}{listed:Array Bool}{j:Nat}{o:Oper}{a:Act}{w:World}{K:Act->World->Prop}
def Bx (c:eP P o.op=.pure):eR P M listed j o a w K=∃ v,(∀ w,(execOp a.eval o).run P w=.ok (.value v) w)/\K (a.put o.dst v) w:=by unfold eR;rw[c]
def CM (c:eP P o.op=.eu):eR P M listed j o a w K=∃ v,(execOp a.eval o).run P w=.ok (.value v) w/\K (a.put o.dst v) w:=by unfold eR;rw[c]
def IK (c:eP P o.op=.fS):eR P M listed j o a w K=cJ P (fun v w'=>(∀ r∈je P M j,listed.getD r false=true->rj P M r a w')/\K (a.put o.dst v) w') ((execOp a.eval o).run P w):=by unfold eR;rw[c]
end
def Ha {M:Array Oper}{listed:Array Bool}{j:Nat}(q:∀ (k:Nat) (o:Oper) cs b,M[k]? = some o->o.op≠.select cs b)(hi:M[i]? = some D)(hj:M[j]? = some F)(P':D.apart M F=true)(R':lg (eP P D.op) (eP P F.op)=true)(_i:i<listed.size)(_d:eP P D.op=.eu->eP P F.op=.fS->i∈je P M j)(_b:∀ r,listed.getD r false=true->iY P M r=.eu->nU M r D)(_e:∀ r,listed.getD r false=true->iY P M r=.eu->nU M r F){K:Act->World->Prop}{a:Act}{w:World}(_j:eP P D.op=.eu->∃ d,D.dst=some d/\d<a.tmps.size/\d∉D.looksAt M)(h:kU P M listed i D (kU P M (listed.setIfInBounds i true) j F K) a w):kU P M listed j F (kU P M (listed.setIfInBounds j true) i D K) a w:=by
 obtain⟨h1,h2,h3⟩:=Eb P';have S:=fun cs b=>q i D cs b hi;have V:=fun cs b=>q j F cs b hj;have wi:∀ u,Region.wanted D (yielded M (a.put F.dst u).tmps)=Region.wanted D (yielded M a.tmps):=fun u=>wanted_put D a F.dst u h3;have wj:∀ u,Region.wanted F (yielded M (a.put D.dst u).tmps)=Region.wanted F (yielded M a.tmps):=fun u=>wanted_put F a D.dst u h1;have ei:∀ u,execOp (a.put F.dst u).eval D=execOp a.eval D:=fun u=>execOp_put D S a F.dst u h3;have ej:∀ u,execOp (a.put D.dst u).eval F=execOp a.eval F:=fun u=>execOp_put F V a D.dst u h1;have _f:eP P D.op=.fS->j∉je P M i:=fun hc hm=>by
  have:=(FR hm).1;simp only[iY,hj]at this;rw[hc,this]at R';simp[lg]at R'
 cases H':Region.wanted D (yielded M a.tmps) with
 | false =>
  have c:=h.2 H'
  cases j':Region.wanted F (yielded M a.tmps) with
  | false =>
   refine⟨fun Y=>(by rw[j']at Y;cases Y),fun _=>⟨fun Y=>(by rw[wi,H']at Y;cases Y),fun _=>?_⟩⟩;have:=c.2 (by rw[wj,j'])
   rw[sM a undef undef h2]at this;exact this
  | true =>
   refine⟨fun _=>?_,fun Y=>(by rw[j']at Y;cases Y)⟩;have:=MA q P' V _b (c.1 (by rw[wj,j']))
   exact CL (fun u w' hk=>⟨fun Y=>(by rw[wi,H']at Y;cases Y),fun _=>hk.2⟩) this
 | true =>
  have _c:=h.1 H'
  cases j':Region.wanted F (yielded M a.tmps) with
  | false =>
   refine⟨fun Y=>(by rw[j']at Y;cases Y),fun _=>⟨fun _=>?_,fun Y=>(by rw[wi,H']at Y;cases Y)⟩⟩
   exact Sc q P' S _f _e (CL (fun u w' hk=>hk.2 (by rw[wj u,j'])) _c)
  | true =>
   refine⟨fun _=>?_,fun Y=>(by rw[j']at Y;cases Y)⟩;have J':eR P M listed i D a w fun a' w'=>eR P M (listed.setIfInBounds i true) j F a' w' K:=CL (fun u w' hk=>hk.1 (by rw[wj u,j'])) _c
   have done:eR P M listed j F a w (fun a' w'=>eR P M (listed.setIfInBounds j true) i D a' w' K)->eR P M listed j F a w (kU P M (listed.setIfInBounds j true) i D K) :=
    CL (fun u w' hk=>⟨fun _=>hk,fun Y=>(by rw[wi u,H']at Y;cases Y)⟩)
   refine done ?_;clear done _c h
   cases c:eP P D.op with
   | pure =>
    rw[Bx c]at J';obtain⟨v,hv,hk⟩:=J';refine CL (fun u w' hk=>?_) (MA q P' V _b hk)
    rw[Bx c,ei u];exact⟨v,hv,hk.2⟩
   | eu =>
    obtain⟨di,T',_g,_h⟩:=_j c;rw[CM c]at J';obtain⟨v,hv,hk⟩:=J'
    cases C:eP P F.op with
    | pure =>
     rw[Bx C]at hk ⊢;obtain⟨u,hu,hk⟩:=hk;rw[ej v]at hu;refine⟨u,hu,?_⟩;rw[CM c]
     exact⟨v,by rw[ei u];exact hv,by have aw:=hk;rw[sM a v u h2]at aw;exact aw⟩
    | eu =>
     rw[CM C]at hk ⊢;obtain⟨u,hu,hk⟩:=hk;rw[ej v]at hu;refine⟨u,hu,?_⟩;rw[CM c]
     exact⟨v,by rw[ei u];exact hv,by have aw:=hk;rw[sM a v u h2]at aw;exact aw⟩
    | fS =>
     refine CL (fun u w' hk=>?_) (MA q P' V _b hk);have _k:=hk.1 C i (_d c C) (by simp[_i]);have V':∀ d,D.dst=some d->d∉D.looksAt M:=fun d hd=>by rw[T']at hd;cases hd;exact _h
     have _a:=_k D hi (by rw[wanted_put D a D.dst v V'];exact H') di T';rw[execOp_put D S a D.dst v V']at _a;have I:(a.put D.dst v).tmps.getD di undef=v:=by rw[T'];simp[Act.put,_g]
     rw[I]at _a;rw[CM c,ei u]
     exact⟨v,_a,hk.2⟩
   | fS =>
    cases C:eP P F.op with
    | pure =>
     rw[IK c]at J';obtain⟨v0,w0,_,hh⟩:=IG J';rw[Bx C]at hh;obtain⟨u,hu,_⟩:=hh;rw[ej v0]at hu;rw[Bx C];refine⟨u,hu,?_⟩;refine Sc q P' S _f _e ?_;rw[IK c];refine wq (fun v w' hk=>⟨hk.1,?_⟩) J';have T':=hk.2;rw[Bx C]at T';obtain⟨u',V',_a⟩:=T';rw[ej v]at V';have he:=(hu w').symm.trans (V' w');simp only[Result.ok.injEq,Next.value.injEq,Iv]at he;subst he
     exact _a
    | eu=>rw[c,C]at R';simp[lg]at R'
    | fS=>rw[c,C]at R';simp[lg]at R'
def kZ (P:Program)(M:Array Oper)(K:Act->World->Prop):Nat->Array Bool->Act->World->Prop
 | 0,listed,a,w=>Region.ready .any M listed=[]/\K a w
 | fuel+1,listed,a,w=>(Region.ready .any M listed=[]->K a w) /\
  ∀ i∈Region.ready .any M listed,∀ o,M[i]? = some o->kU P M listed i o (kZ P M K fuel (listed.setIfInBounds i true)) a w
def MB {ro:Option Nat}{m:Nat}{M:Array Oper}{K:Act->World->Prop}{Q:Exit->Act->World->Prop}(c:∀ a w,K a w->Q .normal a w):∀ (fuel:Nat) (listed:Array Bool) (a:Act) (w:World),
  kZ P M K fuel listed a w->wpAnyIn (fw ro) m P .any M Q fuel listed a w
 | 0,_,_,_,h=>⟨h.1,c _ _ h.2⟩
 | fuel+1,_,_,_,h=>⟨fun C=>c _ _ (h.1 C),fun i hi=>IH (by
   obtain⟨_,o,q,_⟩:=mem_ready.1 hi;unfold qS;rw[q]
   exact Bv (fun u w' hk=>MB c fuel _ _ _ hk) (ï (h.2 i hi o q)))⟩
structure ns (P:Program) (M:Array Oper):Prop where
 bj:∀ (k:Nat) (o:Oper) cs b,M[k]? = some o->o.op≠.select cs b
 rB:jw M (Region.before M)=true
 bl:∀ k i,((Region.before M).getD k 0).testBit i=true->i<M.size
 yO:∀ (r:Nat) (or_:Oper) (k:Nat) (ok:Oper),M[r]? = some or_->iY P M r=.eu->M[k]? = some ok->k≠r->vl M k r=false->nU M r ok
 dst:∀ (i:Nat) (o:Oper),M[i]? = some o->eP P o.op=.eu->∃ d,o.dst=some d/\d∉o.looksAt M
def Sd {M:Array Oper}{K:Act->World->Prop}(H:ns P M)(P':jR n M=true)(hi:M[i]? = some D) :
  ∀ (fuel:Nat) (listed:Array Bool) (a:Act) (w:World),listed.size=M.size->a.tmps.size=n->s8 M listed ->
   (∀ (j:Nat) (F:Oper),M[j]? = some F->j≠i->listed.getD j true=false->vl M i j=false->D.apart M F=true/\lg (eP P D.op) (eP P F.op)=true) ->
   i∈Region.ready .any M listed->kU P M listed i D (kZ P M K fuel (listed.setIfInBounds i true)) a w->kZ P M K (fuel+1) listed a w:=by
 have R':∀ o,o∈M->∀ d,o.dst=some d->d<n:=fun o ho d hd=>by
  have:=xV.1 P' o ho
  simpa [hd] using this
 intro fuel
 induction fuel with
 | zero =>
  intro listed a w hs ha hd S hr h;refine⟨fun h=>(by rw[h]at hr;cases hr),fun j hj F c=>?_⟩;by_cases q:j=i
  ·subst q;rw[hi]at c;cases c;exact h
  obtain⟨v,w',hk⟩:=í h;have:=ready_mono hj q
  rw[hk.1]at this;cases this
 | succ fuel ih =>
  intro listed a w hs ha hd S hr h;refine⟨fun h=>(by rw[h]at hr;cases hr),fun j hj F c=>?_⟩;by_cases q:j=i
  ·subst q;rw[hi]at c;cases c;exact h
  obtain⟨V,_i,_h,_⟩:=mem_ready.1 hj;have J':=(mem_ready.1 hr).1;have T':vl M i j=false:=Mz H.rB hd hs J' hj;have V':vl M j i=false:=Mz H.rB hd hs V hr;obtain⟨_e,_f⟩:=S j F c q V T'
  have h1:kU P M listed i D (kU P M (listed.setIfInBounds i true) j F (kZ P M K fuel ((listed.setIfInBounds i true).setIfInBounds j true))) a w :=
   FQ (fun u w' hk=>hk.2 j (ready_mono hj q) F c) h
  have _a:i<listed.size:=(Bw J').2;have _b:∀ k,listed.getD k true=false->∀ r,listed.getD r false=true->vl M k r=false:=by
   intro k hk r H'
   cases C:vl M k r with
   | false=>rfl
   | true=>have:=hd r k H' C;rw[(Bw hk).1]at this;cases this
  have j':∀ (k:Nat) (ok:Oper),M[k]? = some ok->listed.getD k true=false->∀ r,listed.getD r false=true->iY P M r=.eu->nU M r ok:=by
   intro k ok hk C r H' hc _c _d;have _g:k≠r:=fun e=>by subst e;rw[(Bw C).1]at H';cases H'
   exact H.yO r _c k ok _d hc hk _g (_b k C r H') _c _d
  have h2:=Ha H.bj hi c _e _f _a (fun _c _j=>by
    simp only[je,wT,mem_range,Bool.and_eq_true,tW,Aj,beq_eq_false_iff_ne]
    exact⟨by rw[<-hs];exact _a,⟨⟨by simp only[iY,hi];exact _c,Ne.symm q⟩,T'⟩,V'⟩)
   (j' i D hi J') (j' j F c V) (fun hc=>by
    obtain⟨d,H',_d⟩:=H.dst i D hi hc
    exact⟨d,H',by rw[ha];exact R' D (Ao hi) d H',_d⟩) h1
  refine FQ (fun u w' hk=>?_) h2;rw[RW _ _ (Ne.symm q)]at hk;refine ih (listed.setIfInBounds j true) _ w' (by simpa using hs) (by rw[fN];exact ha) (II H.rB hd hj H.bl) (fun k ok bX _d C _g=>S k ok bX _d ?_ _g) (ready_mono hr (Ne.symm q)) hk;by_cases H':j=k
  ·subst H';exact V
  rw[getD_set_ne true H']at C;exact C
def FS {M:Array Oper}{K:Fr->World->Prop}{tail:List cV}{ρ:Fr}{w:World}:∀ (l:List Nat),opsD P M K (l.map cV.cY++tail) ρ w ->
  (∀ r∈l,∀ o,M[r]? = some o->(match o.guard with
     | none=>∀ d,o.dst=some d->ReadV P o ρ w (ρ d)
     | some g=>ik M ρ g=true->∀ d,o.dst=some d->ReadV P o ρ w (ρ d)))/\opsD P M K tail ρ w
 | [],h=>⟨sm,h⟩
 | r::l,h=>by
  simp only[pV,uR,opsD]at h;obtain⟨h1,C⟩:=FS l h.2;refine⟨fun S c o q=>?_,C⟩;rcases gT.1 c with rfl|c
  ·have:=h.1
   simp only[q]at this;exact this
  exact h1 S c o q
def Se {M:Array Oper}{r:Nat}{a:Act}{w:World}(h:∀ o,M[r]? = some o->(match o.guard with
     | none=>∀ d,o.dst=some d->ReadV P o (fr a) w (fr a d)
     | some g=>ik M (fr a) g=true->∀ d,o.dst=some d->ReadV P o (fr a) w (fr a d))):rj P M r a w:=by
 intro o q Y d c;have:=h o q
 cases I:o.guard with
 | none =>
  simp only[I]at this;have:=this d c
  unfold ReadV at this;rw[sJ]at this;exact this
 | some g =>
  simp only[I]at this;rw[FO I]at Y;have:=this Y d c;unfold ReadV at this;rw[sJ]at this;exact this
def ð {M:Array Oper}:∀ {l:List Nat}{i:Nat},nr P M (i::l)=true->∀ j∈l,uw P M i j=true:=by
 intro l i h j c;simp only[nr,Bool.and_eq_true]at h;exact all_eq_true.1 h.1 j c
def Sf {M:Array Oper}{K:Fr->World->Prop}(H:ns P M)(R':jR n M=true) :
  ∀ (rest dn:List Nat) (listed:Array Bool) (a:Act) (w:World),(∀ j,j<M.size->j∈dn\/j∈rest)->(∀ j∈rest,j∉dn/\j<M.size)->(∀ j∈dn,j<M.size)->rest.Nodup->listed.size=M.size->(∀ j,j<M.size->∀ d,listed.getD j d=decide (j∈dn)) ->
   s8 M listed->jT M dn rest=true->nr P M rest=true->a.tmps.size=n->a.defers=[]->opsD P M K (fT P M rest) (fr a) w->kZ P M (Ok n K) rest.length listed a w:=by
 have _g:∀ o,o∈M->∀ d,o.dst=some d->d<n:=fun o ho d hd=>by
  have:=xV.1 R' o ho
  simpa [hd] using this
 intro rest
 induction rest with
 | nil =>
  intro dn listed a w j' _ _ _ hs hl _ _ _ ha V' h;refine⟨?_,ha,V',h⟩;rcases hr:Region.ready .any M listed with _|⟨x,xs⟩
  ·rfl
  have hx:x∈Region.ready .any M listed:=by rw[hr];exact ku
  obtain⟨c,S,C,_⟩:=mem_ready.1 hx;have q:=(mw.1 C).1;rw[hl x q]at c;have:=(j' x q).resolve_right sm
  simp[this]at c
 | cons i rest ih =>
  intro dn listed a w j' S _h _i hs hl _a _b _c ha V' h;obtain⟨_j,H'⟩:=S i sm;obtain⟨D,hi⟩:∃ D,M[i]? = some D:=⟨M[i],by simp[H']⟩
  simp only[jT,hi,Bool.and_eq_true]at _b;have q:i∈Region.ready .any M listed:=by
   refine mem_ready.2 ⟨by rw[hl i H'];simpa using _j,D,hi,fun e he V=>?_⟩;have:=xV.1 _b.1 e he;simp only[V,pz,uS,contains_iff_mem]at this;rw[hl _ (_h _ this)];simpa using this
  have _k:listed.getD i true=false:=(mem_ready.1 q).1;have _d:∀ (j:Nat) (F:Oper),M[j]? = some F->j≠i->listed.getD j true=false->vl M i j=false->D.apart M F=true/\lg (eP P D.op) (eP P F.op)=true:=by
   intro j F hj P' C V;have J':=(mw.1 hj).1;rw[hl j J']at C;have T':j∈rest:=by
    rcases j' j J' with c|c
    ·simp[c]at C
    rcases gT.1 c with c|c
    ·exact absurd c P'
    exact c
   have:=ð _c j T';simp only[uw,V,uS,hi,hj,Bool.and_eq_true]at this;exact this
  have _l:∀ r,listed.getD r false=true->vl M i r=false:=by
   intro r C
   cases V:vl M i r with
   | false=>rfl
   | true=>have:=_a r i C V;rw[(Bw _k).1]at this;cases this
  have J':∀ r,listed.getD r false=true->iY P M r=.eu->nU M r D:=by
   intro r C hc P' V;have T':i≠r:=fun e=>by subst e;rw[(Bw _k).1]at C;cases C
   exact H.yO r P' i D V hc hi T' (_l r C) P' V
  have T':∀ v,fr (a.put D.dst v)=jq (fr a) D.dst v:=fun v=>yb fun t ht=>by rw[ha];exact _g D (Ao hi) t ht
  refine Sd H R' hi rest.length listed a w hs ha _a _d q ?_
  
  have _e:kU P M listed i D (fun a' w'=>a'.tmps.size=n/\a'.defers=[]/\opsD P M K (fT P M rest) (fr a') w') a w:=by
   simp only[fT,pA,uR,opsD,hi]at h
   have C:∀ v w',opsD P M K (fT P M rest) (jq (fr a) D.dst v) w'->(a.put D.dst v).tmps.size=n/\(a.put D.dst v).defers=[]/\opsD P M K (fT P M rest) (fr (a.put D.dst v)) w' :=
    fun v w' hk=>⟨by rw[fN,ha],by rw[Bi,V'],by rw[T'];exact hk⟩
   have _m:opV P D (fr a) w (opsW P M (opsD P M K ((match iY P M i with|.fS=>(je P M i).map cV.cY|_=>[])++fT P M rest)) [])->eR P M listed i D a w fun a' w'=>a'.tmps.size=n/\a'.defers=[]/\opsD P M K (fT P M rest) (fr a') w':=by
    intro hv;have _f:iY P M i=eP P D.op:=by simp[iY,hi]
    rw[_f]at hv;unfold opV at hv
    cases hc:eP P D.op with
    | pure =>
     simp only[hc]at hv;rw[Bx hc];obtain⟨v,V,hk⟩:=hv;unfold PureV at V;rw[sJ]at V
     exact⟨v,V,C _ _ hk⟩
    | eu =>
     simp only[hc]at hv;rw[CM hc];obtain⟨v,V,hk⟩:=hv;unfold ReadV at V;rw[sJ]at V
     exact⟨v,V,C _ _ hk⟩
    | fS =>
     simp only[hc]at hv;rw[IK hc];unfold opW at hv;rw[sJ]at hv;refine wq (fun v w' hk=>?_) hv;obtain⟨V,_n⟩:=FS (je P M i) hk;refine⟨fun r hr _o=>?_,C _ _ _n⟩;refine(IJ v (J' r _o (FR hr).1) (fun P' cs b ho=>H.bj r P' cs b ho)).1 (Se fun o ho=>?_);rw[T'];exact V r hr o ho
   simp only[opsW]at h
   cases I:D.guard with
   | none =>
    simp only[I]at h;refine⟨fun _=>_m h,fun Y=>?_⟩
    simp[Region.wanted,I]at Y
   | some g =>
    simp only[I]at h;unfold kU;rw[FO I];refine⟨fun Y=>_m (h.1 Y),fun Y=>C _ _ ?_⟩;have:=h.2 Y;have _f:iY P M i=eP P D.op:=by simp[iY,hi]
    rw[_f]at this
    cases hc:eP P D.op with
    | fS=>simp only[hc]at this;exact(FS (je P M i) this).2
    | pure=>simp only[hc]at this;exact this
    | eu=>simp only[hc]at this;exact this
  refine FQ (fun u w' hk=>?_) _e;refine ih (i::dn) _ _ w' (fun j hj=>?_) (fun j hj=>⟨?_,(S j (by simp[hj])).2⟩) (fun j hj=>?_) (wW.1 _i).2 (by simpa using hs) (fun j hj d=>?_) (II H.rB _a q H.bl) _b.2 (by simp only[nr,Bool.and_eq_true]at _c;exact _c.2) hk.1 hk.2.1 hk.2.2
  ·rcases j' j hj with c|c
   ·left;simp[c]
   rcases gT.1 c with c|c
   ·left;simp[c]
   right;exact c
  ·intro hm
   rcases gT.1 hm with c|c
   ·subst c;exact(wW.1 _i).1 hj
   exact(S j (by simp[hj])).1 c
  ·rcases gT.1 hj with rfl|c
   ·exact H'
   exact _h j c
  by_cases c:i=j
  ·subst c
   have:i<listed.size:=by rw[hs];exact H'
   simp[this]
  rw[getD_set_ne d c,hl j hj d];simp[Ne.symm c]
def ñ {M:Array Oper}{is:List cV}(h:ri P M is=true):ns P M:=by
 simp only[ri,Bool.and_eq_true,jV]at h;obtain⟨⟨⟨⟨⟨⟨⟨⟨⟨⟨⟨⟨h1,q⟩,h3⟩,h4⟩,h5⟩,h6⟩,h7⟩,h8⟩,h9⟩,j'⟩,H'⟩,T'⟩,V'⟩:=h;refine⟨Mh q,h3,fun k i C=>?_,fun r _a k ok hr hc hk J' C or' c => ?_,fun i o ho hc=>?_⟩
 ·rcases pB k M.size with hk|hk
  ·have:=x5 (all_eq_true.1 H' k (mem_range.2 hk))
   rcases pB i M.size with hi|hi
   ·exact hi
   have:=Ec (Cr this (zA U hi));rw[this]at C;cases C
  have:(Region.before M).getD k 0=0:=by
   have:(Region.before M).size<=k:=U;simp[vj this]
  rw[this]at C;simp at C
 ·have P':=(mw.1 hr).1
  have R':=(mw.1 hk).1;have h1:=all_eq_true.1 h9 r (mem_range.2 P');simp only[hc,yk,pz,uS]at h1;have q:=all_eq_true.1 h1 k (mem_range.2 R');rw[hr]at c;cases c;have S:(k == r)=false:=by simpa using J'
  simp only[tl,S,C,uS,hr,hk]at q;refine⟨fun d V=>?_,fun d V=>?_⟩<;>simp[V]at q
  ·exact q.1
  exact q.2
 have:=xV.1 j' o (Ao ho);simp only[hc,yk,pz,uS]at this;split at this
 ·rename_i d V;exact⟨d,V,by simpa using this⟩
 cases this
def ò {M:Array Oper}(h:ux P M=true):ns P M:=by
 simp only[ux,Bool.and_eq_true,jV]at h;obtain⟨⟨⟨⟨⟨q,h3⟩,h9⟩,j'⟩,H'⟩,T'⟩:=h;refine⟨Mh q,h3,fun k i C=>?_,fun r V' k ok hr hc hk J' C or' c => ?_,fun i o ho hc=>?_⟩
 ·rcases pB k M.size with hk|hk
  ·have:=x5 (all_eq_true.1 H' k (mem_range.2 hk))
   rcases pB i M.size with hi|hi
   ·exact hi
   have:=Ec (Cr this (zA U hi));rw[this]at C;cases C
  have:(Region.before M).getD k 0=0:=by
   have:(Region.before M).size<=k:=U;simp[vj this]
  rw[this]at C;simp at C
 ·have P':=(mw.1 hr).1
  have R':=(mw.1 hk).1;have h1:=all_eq_true.1 h9 r (mem_range.2 P');simp only[hc,yk,pz,uS]at h1;have q:=all_eq_true.1 h1 k (mem_range.2 R');rw[hr]at c;cases c;have S:(k == r)=false:=by simpa using J'
  simp only[tl,S,C,uS,hr,hk]at q;refine⟨fun d V=>?_,fun d V=>?_⟩<;>simp[V]at q
  ·exact q.1
  exact q.2
 have:=xV.1 j' o (Ao ho);simp only[hc,yk,pz,uS]at this;split at this
 ·rename_i d V;exact⟨d,V,by simpa using this⟩
 cases this
def ó {ro:Option Nat}{id:Nat}{M:Array Oper}{is:List cV}{K:Fr->World->Prop}{a:Act}{w:World}{Q:Exit->Act->World->Prop}(hm:P.follows .mixedOrders=true)(V:∀ a w,Ok n K a w->Q .normal a w)(q:jR n M=true)(C:ri P M is=true)(hs:a.tmps.size=n)(hd:a.defers=[])(h:opsD P M K is (fr a) { w with drawn:=w.drawn+1 }):(Code.region id M true).wpIn (fw ro) m P Q a w:=by
 have H:=ñ C;simp only[ri,Bool.and_eq_true,jV]at C;obtain⟨⟨⟨⟨⟨⟨⟨⟨⟨⟨⟨⟨h1,h2⟩,h3⟩,h4⟩,h5⟩,h6⟩,h7⟩,h8⟩,h9⟩,j'⟩,H'⟩,J'⟩,S⟩:=C;refine wpIn_region_any hm (MB (K:=Ok n K) V _ _ _ _ ?_);rw[h1]at h;have hb:∀ i∈gu is,i<M.size:=fun i hi=>x5 (all_eq_true.1 h5 i hi)
 have:=Sf H q (gu is) [] (Array.replicate M.size false) a _ (fun j c=>.inr (by simpa using all_eq_true.1 S j (mem_range.2 c))) (fun j c=>⟨sm,hb j c⟩) sm h6 sm (fun j c d=>by simp[c])
  (fun j i c _=>by
   rcases pB j M.size with hk|hk
   ·simp[hk]at c
   simp[hk]at c) h7 h8 hs hd h
 rw[h4]at this;exact this
def Sg {M:Array Oper}{N:Fr->World->Prop}(H:ns P M)(J':jR n M=true)(hi:M[i]? = some D){listed:Array Bool}{a:Act}{w:World}(P':listed.getD i true=false)(_a:s8 M listed)(ha:a.tmps.size=n)(_b:a.defers=[])(h:opsD P M N (fT P M [i]) (fr a) w):kU P M listed i D (fun a' w'=>a'.tmps.size=n/\a'.defers=[]/\N (fr a') w') a w:=by
 have R':∀ o,o∈M->∀ d,o.dst=some d->d<n:=fun o ho d hd=>by
  have:=xV.1 J' o ho
  simpa [hd] using this
 have T':∀ r,listed.getD r false=true->vl M i r=false:=by
  intro r c
  cases q:vl M i r with
  | false=>rfl
  | true=>have:=_a r i c q;rw[(Bw P').1]at this;cases this
 have S:∀ r,listed.getD r false=true->iY P M r=.eu->nU M r D:=by
  intro r c C V q;have j':i≠r:=fun e=>by subst e;rw[(Bw P').1]at c;cases c
  exact H.yO r V i D q C hi j' (T' r c) V q
 have j':∀ v,fr (a.put D.dst v)=jq (fr a) D.dst v:=fun v=>yb fun t ht=>by rw[ha];exact R' D (Ao hi) t ht
 simp only[fT,pA,Cu,gj,opsD,hi]at h
 have c:∀ v w',N (jq (fr a) D.dst v) w'->(a.put D.dst v).tmps.size=n/\(a.put D.dst v).defers=[]/\N (fr (a.put D.dst v)) w' :=
  fun v w' hk=>⟨by rw[fN,ha],by rw[Bi,_b],by rw[j'];exact hk⟩
 have V':opV P D (fr a) w (opsW P M (opsD P M N (match iY P M i with|.fS=>(je P M i).map cV.cY|_=>[])) [])->eR P M listed i D a w fun a' w'=>a'.tmps.size=n/\a'.defers=[]/\N (fr a') w':=by
  intro hv;have H':iY P M i=eP P D.op:=by simp[iY,hi]
  rw[H']at hv;unfold opV at hv
  cases C:eP P D.op with
  | pure =>
   simp only[C]at hv;rw[Bx C];obtain⟨v,q,hk⟩:=hv;unfold PureV at q;rw[sJ]at q
   exact⟨v,q,c _ _ hk⟩
  | eu =>
   simp only[C]at hv;rw[CM C];obtain⟨v,q,hk⟩:=hv;unfold ReadV at q;rw[sJ]at q
   exact⟨v,q,c _ _ hk⟩
  | fS =>
   simp only[C]at hv;rw[IK C];unfold opW at hv;rw[sJ]at hv;refine wq (fun v w' hk=>?_) hv;obtain⟨q,_c⟩:=FS (tail:=[]) (je P M i) (by rw[gj];exact hk);refine⟨fun r hr _d=>?_,c _ _ _c⟩;refine(IJ v (S r _d (FR hr).1) (fun V cs b ho=>H.bj r V cs b ho)).1 (Se fun o ho=>?_);rw[j'];exact q r hr o ho
 simp only[opsW]at h
 cases I:D.guard with
 | none =>
  simp only[I]at h;refine⟨fun _=>V' h,fun Y=>?_⟩
  simp[Region.wanted,I]at Y
 | some g =>
  simp only[I]at h;unfold kU;rw[FO I];refine⟨fun Y=>V' (h.1 Y),fun Y=>c _ _ ?_⟩;have:=h.2 Y;have H':iY P M i=eP P D.op:=by simp[iY,hi]
  rw[H']at this
  cases C:eP P D.op with
  | fS=>simp only[C]at this;exact(FS (tail:=[]) (je P M i) (by rw[gj];exact this)).2
  | pure=>simp only[C]at this;exact this
  | eu=>simp only[C]at this;exact this
structure El (M:Array Oper) (n:Nat) (dn:List Nat) (listed:Array Bool) (a:Act):Prop where
 size:listed.size=M.size
 eI:∀ j,j<M.size->∀ d,listed.getD j d=decide (j∈dn)
 down:s8 M listed
 lt:∀ j∈dn,j<M.size
 tmps:a.tmps.size=n
 defers:a.defers=[]
def El.ready {M:Array Oper}{n:Nat}{V:List Nat}{listed:Array Bool}{a:Act}(S:El M n V listed a){i:Nat}:i∈Region.ready .any M listed↔(i∉V/\o6 M V i=true):=by
 rw[mem_ready];constructor
 ·rintro⟨h1,o,C,q⟩
  have c:=(mw.1 C).1;rw[S.eI i c]at h1;refine⟨by simpa using h1,?_⟩;simp only[o6,C];refine xV.2 fun e he=>?_
  cases hb:Region.binds .any e with
  | false=>rfl
  | true =>
   have h3:=q e he hb;rcases pB e.on M.size with hl|hl
   ·rw[S.eI _ hl]at h3
    simpa using h3
   have:listed.size<=e.on:=by rw[S.size];exact hl
   simp[this]at h3
 rintro⟨h1,q⟩;unfold o6 at q;split at q
 ·rename_i o C
  have c:=(mw.1 C).1;refine⟨by rw[S.eI i c];simpa using h1,o,C,fun e he hb=>?_⟩;have:=xV.1 q e he;simp only[hb,pz,uS,contains_iff_mem]at this;rw[S.eI _ (S.lt _ this)];simpa using this
 cases q
def El.next {M:Array Oper}{dn:List Nat}{listed:Array Bool}{a C:Act}(H:ns P M)(S:El M n dn listed a)(q:i<M.size)(hr:i∈Region.ready .any M listed)(ha:C.tmps.size=n)(hd:C.defers=[]):El M n (i::dn) (listed.setIfInBounds i true) C:=by
 refine⟨by simpa using S.size,fun j V d=>?_,II H.rB S.down hr H.bl,fun j V=>?_,ha,hd⟩
 ·by_cases c:i=j
  ·subst c
   have:i<listed.size:=by rw[S.size];exact q
   simp[this]
  rw[getD_set_ne d c,S.eI j V d];simp[Ne.symm c]
 rcases gT.1 V with rfl|c
 ·exact q
 exact S.lt j c
def B1:PT->Prop
 | .CK ..|.stop=>True
 | _=>False
def IL {M:Array Oper}{K:Fr->World->Prop}{n:Nat}(H:ns P M)(c:jR n M=true):∀ (T:PT) (C seen:List Nat) (fuel:Nat) (listed:Array Bool) (a:Act) (w:World),kF P M C seen T=true->El M n C listed a->fuel+C.length=M.size->kT P M K T (fr a) w ->
  (seen=[]->kZ P M (Ok n K) fuel listed a w)/\(B1 T->∀ i∈Region.ready .any M listed,i∉seen->∀ o,M[i]? = some o->∃ f,fuel=f+1/\kU P M listed i o (kZ P M (Ok n K) f (listed.setIfInBounds i true)) a w)
 | .stop,C,seen,fuel,listed,a,w,ht,S,_,_=>by
  simp only[kF,Bool.and_eq_true,Aj]at ht;refine⟨fun h=>by simp[h]at ht,fun _ i hi q o ho=>?_⟩;have j':=(mw.1 ho).1;have h1:=all_eq_true.1 ht.2 i (mem_range.2 j');obtain⟨V,h3⟩:=S.ready.1 hi
  simp[V,q,h3]at h1
 | .jz is,C,seen,fuel,listed,a,w,ht,S,hf,h=>by
  simp only[kF,Bool.and_eq_true,jV]at ht;obtain⟨⟨⟨⟨⟨⟨⟨t1,t2⟩,t3⟩,t4⟩,t5⟩,t6⟩,t7⟩,t8⟩:=ht;refine⟨fun _=>?_,fun h=>h.elim⟩;simp only[kT]at h;rw[t2]at h;have q:∀ j∈gu is,j<M.size/\j∉C:=fun j V=>by
   have:=all_eq_true.1 t4 j V
   simpa using this
  have:=Sf H c (gu is) C listed a w (fun j V=>by
    have:=all_eq_true.1 t8 j (mem_range.2 V)
    simpa using this) (fun j V=>⟨(q j V).2,(q j V).1⟩) S.lt t5 S.size S.eI S.down t6 t7 S.tmps S.defers h
  have e:fuel=(gu is).length:=U
  rw[e];exact this
 | .step i is t,C,seen,fuel,listed,a,w,ht,S,hf,h=>by
  simp only[kF,Bool.and_eq_true,jV,Aj]at ht;obtain⟨⟨⟨⟨⟨⟨t1,t2⟩,t3⟩,t4⟩,t5⟩,t6⟩,t7⟩:=ht;refine⟨fun _=>?_,fun h=>h.elim⟩;obtain⟨f,rfl⟩:∃ f,fuel=f+1:=⟨fuel-1,U⟩
  have hr:i∈Region.ready .any M listed:=S.ready.2 ⟨by simpa using t4,t5⟩;obtain⟨P',D,hi,_⟩:=mem_ready.1 hr;have j':=(mw.1 hi).1;simp only[kT]at h;rw[t2]at h;refine Sd H c hi f listed a w S.size S.tmps S.down (fun j F V H' J' hb=>?_) hr ?_
  ·have R':=(mw.1 V).1
   rw[S.eI j R']at J';have:=all_eq_true.1 t6 j (mem_range.2 R');have T':C.contains j=false:=by simpa using J'
   have V':(j == i)=false:=by simpa using H'
   simp only[T',V',uS,uw,hb,hi,V,Bool.and_eq_true]at this;exact this
  refine FQ (fun u w' hk=>?_) (Sg H c hi P' S.down S.tmps S.defers h)
  exact(IL H c t (i::C) [] f _ _ w' t7 (S.next H j' hr hk.1 hk.2.1) (by simp only[length_cons];omega) hk.2.2).1 rfl
 | .CK i is t m,C,seen,fuel,listed,a,w,ht,S,hf,h=>by
  simp only[kF,Bool.and_eq_true,jV,Aj]at ht;obtain⟨⟨⟨⟨⟨t2,t3⟩,t4⟩,t5⟩,t7⟩,t8⟩:=ht;have hr:i∈Region.ready .any M listed:=S.ready.2 ⟨by simpa using t4,t5⟩;obtain⟨P',D,hi,_⟩:=mem_ready.1 hr;have j':=(mw.1 hi).1;simp only[kT]at h;rw[t2]at h;have J':B1 m:=by
   cases m with
   | jz is=>simp[kF]at t8
   | step i is t=>simp[kF]at t8
   | _=>trivial
  have q:∀ j∈Region.ready .any M listed,j∉seen->∀ o,M[j]? = some o->∃ f,fuel=f+1/\kU P M listed j o (kZ P M (Ok n K) f (listed.setIfInBounds j true)) a w:=by
   intro j V R' o ho;by_cases H':j=i
   ·subst H'
    rw[hi]at ho;cases ho;obtain⟨f,rfl⟩:∃ f,fuel=f+1:=⟨fuel-1,U⟩
    refine⟨f,rfl,FQ (fun u w' hk=>?_) (Sg H c hi P' S.down S.tmps S.defers h.1)⟩;exact(IL H c t (j::C) [] f _ _ w' t7 (S.next H j' hr hk.1 hk.2.1) (by simp only[length_cons];omega) hk.2.2).1 rfl
   exact(IL H c m C (i::seen) fuel listed a w t8 S hf h.2).2 J' j V (fun hm=>by
    rcases gT.1 hm with h'|h'
    ·exact H' h'
    exact R' h') o ho
  refine⟨fun hs=>?_,fun _=>q⟩;subst hs;obtain⟨f,rfl⟩:∃ f,fuel=f+1:=⟨fuel-1,U⟩
  refine⟨fun h0=>(by rw[h0]at hr;cases hr),fun j V o ho=>?_⟩;obtain⟨f',H',hc⟩:=q j V sm o ho;cases H';exact hc
def ô {ro:Option Nat}{id:Nat}{M:Array Oper}{T:PT}{K:Fr->World->Prop}{a:Act}{w:World}{Q:Exit->Act->World->Prop}(hm:P.follows .mixedOrders=true)(C:∀ a w,Ok n K a w->Q .normal a w)(c:jR n M=true)(S:ux P M=true)(V:kF P M [] [] T=true)(hs:a.tmps.size=n)(hd:a.defers=[])(h:kT P M K T (fr a) { w with drawn:=w.drawn+1 }):(Code.region id M true).wpIn (fw ro) m P Q a w:=by
 have H:=ò S;refine wpIn_region_any hm (MB (K:=Ok n K) C _ _ _ _ ?_);refine(IL H c T [] [] M.size _ a _ V ⟨sm,fun j q d=>by simp[q],fun j i q _=>?_,sm,hs,hd⟩ sm h).1 rfl;rcases pB j M.size with hk|hk
 ·simp[hk]at q
 simp[hk]at q
def Sh {p:Nat->Prop}:∀ m,p m->∃ k,p k/\∀ j,p j->k<=j:=by
 intro m
 induction m using Nat.strongRecOn with
 | _ m C =>
  intro hm;by_cases h:∃ j,j<m/\p j
  ·obtain⟨j,c,q⟩:=h;exact C j c q
  exact⟨m,hm,fun j c=>Fi fun q=>h ⟨j,q,c⟩⟩
open Classical in
noncomputable def cM (p:Nat->Prop):Nat:=if h:∃ k,p k/\∀ j,p j->k<=j then h.choose else 0
def Si {p:Nat->Prop}(hm:p m):p (cM p)/\∀ j,p j->cM p<=j:=by
 have h:=Sh m hm;unfold cM;rw[dif_pos h];exact h.choose_spec
def yc {ro:Option Nat}{m:Nat}{n:Nat}(hm:P.follows .mixedOrders=true):∀ (c:Code),oR n c=true->∀ (Q:Exit->Fr->World->Prop) (a:Act) (w:World),a.tmps.size=n->a.defers=[]->vc P c Q (fr a) w ->
  c.wpIn (fw ro) m P (ß n Q) a w
 | .skip,_,_,_,_,q,C,h=>wpIn_skip ⟨q,C,h⟩
 | .label _,_,_,_,_,q,C,h=>wpIn_label ⟨q,C,h⟩
 | .exit _,_,_,_,_,q,C,h=>wpIn_exit ⟨q,C,h⟩
 | .ret,_,_,_,_,q,C,h=>wpIn_ret ⟨q,C,h⟩
 | .seq x y,hf,Q,a,w,q,C,h=>by
  simp only[oR,Bool.and_eq_true]at hf;refine wpIn_seq (wpIn_mono (yc hm x hf.1 _ a w q C h) fun e a' w' hq=>?_);obtain⟨S,V,hq⟩:=hq
  cases e with
  | normal=>exact yc hm y hf.2 Q a' w' S V hq
  | _=>exact⟨S,V,hq⟩
 | .cond c x y,hf,Q,a,w,q,C,h=>by
  simp only[oR,Bool.and_eq_true]at hf;obtain⟨t,ht,h1,h2⟩:=h;rw[sJ]at ht
  exact wpIn_cond_split ht (fun ht=>yc hm x hf.1 Q a w q C (h1 ht)) (fun ht=>yc hm y hf.2 Q a w q C (h2 ht))
 | .block id c,hf,Q,a,w,q,C,h=>by
  refine wpIn_block (wpIn_mono (yc hm c hf _ a w q C h) fun e a' w' hq=>?_);obtain⟨S,V,hq⟩:=hq
  cases e with
  | exit i =>
   simp only[Blk]at hq;simp only[Exit.inBlock];split
   ·rename_i hi;rw[ba hi]at hq;exact⟨S,V,hq⟩
   rename_i hi;rw[aM hi]at hq;exact⟨S,V,hq⟩
  | _=>exact⟨S,V,hq⟩
 | .loop c,hf,Q,a,w,q,C,h=>by
  obtain⟨I',h0,hr⟩:=h;refine wpIn_loop (fun a w=>a.tmps.size=n/\a.defers=[]/\∃ m,I' m (fr a) w) (fun a w=>cM fun m=>I' m (fr a) w) ⟨q,C,h0⟩ fun a w ⟨q,C,m0,H'⟩=>?_;have hI:=(Si (p:=fun m=>I' m (fr a) w) H').1;refine wpIn_mono (yc hm c hf _ a w q C (hr _ _ _ hI)) fun e a' w' hq=>?_;obtain⟨S,V,hq⟩:=hq
  cases e with
  | normal =>
   obtain⟨m',J',j'⟩:=hq
   exact⟨⟨S,V,m',j'⟩,Bg ((Si (p:=fun m=>I' m (fr a') w') j').2 m' j') J'⟩
  | _=>exact⟨S,V,hq⟩
 | .region id M false,hf,Q,a,w,q,C,h=>ë (fun a w h=>h) hf q C h
 | .region id M true,hf,Q,a,w,q,C,h=>by
  rcases h with h|⟨is,S,h⟩|⟨T,V,ht,h⟩
  case inr.inl=>exact ó hm (fun a w h=>h) hf S q C h
  case inr.inr=>exact ô hm (fun a w h=>h) hf V ht q C h
  refine wpIn_region_any hm (Mx (K:=Ok n (Q .normal)) (fun a w h=>h) _ _ _ _ ?_);have:=ê h.1 hf M.toList 0 (Array.replicate M.size false) a _ sm sm ⟨sm,fun j hj d=>by simp[hj]⟩ q C h.2
  simpa using this
 | .rangeFunc ..,_,_,_,_,_,_,h=>h.elim
 | .scope _,_,_,_,_,_,_,h=>h.elim
 | .goto _,_,_,_,_,_,_,h=>h.elim
 | .refuse _,_,_,_,_,_,_,h=>h.elim
def xw (args:List Value):Fr:=fun t=>(args[t]?).getD undef
def mR (P:Program)(fn:Func)(R:Value->World->Prop)(e:Exit)(ρ:Fr)(w:World):Prop :=
 match e with
 | .normal|.ret=>∃ v,(∀ a:Act,fr a=ρ->(results fn a.tmps).run P w=.ok v w)/\R v w
 | _=>False
def õ {f:FuncId}{fn:Func}{c:Code}{args:List Value}{w:World}(hm:P.follows .mixedOrders=true)(hf:P.funcs[f]? = some fn)(hb:fn.body=some c)(q:oR fn.ntmps c=true)(hn:args.length<=fn.ntmps)(h:vc P c (mR P fn fun v w'=>R (.returned v) w') (xw args) w):Calls P f args.toArray w R:=by
 refine(callsIn_wide (n:=0)).1 (callsIn_of_wp hf hb trivial ?_);have C:fr { tmps:=args.toArray++Array.replicate (fn.ntmps-args.toArray.size) undef,defers:=[] }=xw args:=by
  funext t
  simp only[fr,xw];rcases pB t args.length with S|S
  ·simp[FD,S]
  simp[Me,S];rcases pB (t-args.length) (fn.ntmps-args.length) with h1|h1
  ·simp[h1]
  simp[h1]
 rw[<-C]at h;refine wpIn_mono (yc (ro:=none) hm c q _ _ w (by simp;omega) rfl h) fun e V w' hq=>?_;obtain⟨_,hd,hq⟩:=hq
 cases e with
 | normal=>obtain⟨v,hv,S⟩:=hq;exact⟨hd,v,hv V rfl,S⟩
 | ret=>obtain⟨v,hv,S⟩:=hq;exact⟨hd,v,hv V rfl,S⟩
 | _=>exact hq.elim
end
def rl:List Nat->Nat->Nat|a::b::l,k=>bif Nat.beq k a then b else rl l k|_,_=>0
end
variable {is:List cV}{N:Fr->World->Prop}{ρ0:Fr}
section
open Go.RowKit (Below)
abbrev PH:=Nat->Option Obj
abbrev HP:=PH->Prop
def s9 (h1 h2:PH):Prop:=∀ b,h1 b=none\/h2 b=none
def rO (h1 h:PH):Prop:=∀ b o,h1 b=some o->h b=some o
def cB:List HP->PH->Prop
 | [],_=>True
 | A::Γ,h=>∃ h1 c,s9 h1 c/\rO h1 h/\rO c h/\A h1/\cB Γ c
def rH (h1 h2:PH):PH:=fun b=>match h1 b with|some o=>some o|none=>h2 b
def oC (h:PH)(b:Nat)(o:Obj):PH:=fun b'=>if b'=b then some o else h b'
def s9.symm {h1 h2:PH}(h:s9 h1 h2):s9 h2 h1:=fun b=>(h b).symm
def s9.sub {h1 h2 q:PH}(h:s9 h1 h2)(S:rO q h2):s9 h1 q:=fun b=>by
 rcases h b with c|c
 ·exact .inl c
 right;cases C:q b with
 | none=>rfl
 | some o=>rw[S b o C]at c;cases c
def rO.trans {a b c:PH}(h:rO a b)(k:rO b c):rO a c:=fun x o hx=>k x o (h x o hx)
def rO.refl (h:PH):rO h h:=fun _ _ h=>h
def cB.sub {Γ:List HP}{h c:PH}(q:rO h c)(C:cB Γ h):cB Γ c:=by
 cases Γ with
 | nil=>trivial
 | cons A Γ=>obtain⟨h1,S,d,s1,s2,V,I⟩:=C;exact⟨h1,S,d,s1.trans q,s2.trans q,V,I⟩
def cB.swap {A B:HP}{Γ:List HP}{h:PH}(hh:cB (A::B::Γ) h):cB (B::A::Γ) h:=by
 obtain⟨h1,h2,d,s1,s2,ha,V,h4,d2,s3,C,hb,I⟩:=hh;refine⟨V,rH h1 h4,fun b=>?_,s3.trans s2,fun b o c => ?_,hb,h1,h4,d.sub C,fun b o c=>by simp[rH,c],fun b o c => ?_,ha,I⟩
 ·rcases d b with q|q
  ·rcases d2 b with hm|hm
   ·exact .inl hm
   right;simp[rH,q,hm]
  left;cases S:V b with
  | none=>rfl
  | some o=>rw[s3 b o S]at q;cases q
 ·simp only[rH]at c
  split at c
  ·rename_i o' S;cases c;exact s1 b _ S
  exact s2 b o (C b o c)
 simp only[rH];rcases d b with q|q
 ·rw[q];exact c
 rw[C b o c]at q;cases q
def cB.tail {A:HP}{Γ:List HP}{h:PH}(c:cB (A::Γ) h):cB Γ h:=by
 obtain⟨h1,q,d,s1,s2,C,I⟩:=c;exact I.sub s2
def cB.jE {A A':HP}{Γ c:List HP}{h:PH}(q:∀ h,A h->A' h)(I:∀ h,cB Γ h->cB c h)(C:cB (A::Γ) h):cB (A'::c) h:=by
 obtain⟨h1,S,d,s1,s2,a,g⟩:=C;exact⟨h1,S,d,s1,s2,q _ a,I _ g⟩
def cB.bN {Γ:List HP}:∀ (i:Nat) {A:HP}{h:PH},Γ[i]? = some A->cB Γ h->cB (A::Γ.eraseIdx i) h:=by
 induction Γ with
 | nil=>intro i A h hi;simp at hi
 | cons B Γ q =>
  intro i A h hi c
  cases i with
  | zero=>simp only[FK,Br]at hi;subst hi;exact c
  | succ i =>
   simp only[getElem?_cons_succ]at hi;exact(cB.jE (fun _ h=>h) (fun _ h=>q i hi h) c).swap
def cB.iD {Γ:List HP}:∀ (i:Nat) {A A':HP}{h:PH},Γ[i]? = some A->cB (A'::Γ.eraseIdx i) h->cB (Γ.set i A') h:=by
 induction Γ with
 | nil=>intro i A A' h hi;simp at hi
 | cons B Γ q =>
  intro i A A' h hi c
  cases i with
  | zero=>exact c
  | succ i =>
   simp only[getElem?_cons_succ]at hi;exact cB.jE (fun _ h=>h) (fun _ h=>q i hi h) (cB.swap c)
def cB.write {A A':HP}{Γ:List HP}{h:PH}{b:Nat}{o':Obj}(V:cB (A::Γ) h)(Y:∀ h1,rO h1 h->A h1->(∃ o,h1 b=some o)/\A' (oC h1 b o')):cB (A'::Γ) (oC h b o'):=by
 obtain⟨h1,S,d,s1,s2,a,g⟩:=V;obtain⟨⟨o,ho⟩,C⟩:=Y h1 s1 a;have q:S b=none:=(d b).resolve_left (by rw[ho];simp);refine⟨oC h1 b o',S,fun x=>?_,fun x y hx=>?_,fun x y hx=>?_,C,g⟩
 ·by_cases c:x=b
  ·subst c;exact .inr q
  simpa [oC,c] using d x
 ·simp only[oC]at hx ⊢
  split
  ·rename_i c;rw[ba c]at hx;exact hx
  rename_i c;rw[aM c]at hx;exact s1 x y hx
 have c:x≠b:=fun e=>by subst e;rw[q]at hx;cases hx
 simp only[oC,aM c];exact s2 x y hx
def cB.new {A:HP}{Γ:List HP}{h:PH}{b:Nat}{o:Obj}(q:h b=none)(C:cB Γ h)(S:A (fun x=>if x=b then some o else none)):cB (A::Γ) (oC h b o):=by
 refine⟨_,h,fun x=>?_,fun x y hx=>?_,fun x y hx=>?_,S,C⟩
 ·by_cases c:x=b
  ·subst c;exact .inr q
  left;simp[c]
 ·by_cases c:x=b
  ·simp only[c,if_true]at hx;simpa [oC,c] using hx
  simp[c]at hx
 have c:x≠b:=fun e=>by subst e;rw[q]at hx;cases hx
 simp only[oC,aM c];exact hx
def fI (w0 w:World):PH:=fun b=>if b<w0.heap.size then none else w.heap[b]?
structure Z (w0 w:World) (Γ:List HP):Prop where
 below:Below w0.heap.size w0 w
 kP:cB Γ (fI w0 w)
def Z.start (w:World):Z w w []:=⟨Below.refl _ _,az⟩
def Z.drew {w0 w:World}{Γ:List HP}(h:Z w0 w Γ):Z w0 { w with drawn:=w.drawn+1 } Γ:=⟨h.below.trans ⟨rfl,rfl,rfl,cP _,fun _ _=>rfl⟩,h.kP⟩
def Z.tail {w0 w:World}{A:HP}{Γ:List HP}(h:Z w0 w (A::Γ)):Z w0 w Γ:=⟨h.below,h.kP.tail⟩
def Z.swap {w0 w:World}{A B:HP}{Γ:List HP}(h:Z w0 w (A::B::Γ)):Z w0 w (B::A::Γ):=⟨h.below,h.kP.swap⟩
def Z.bN {w0 w:World}{Γ:List HP}(i:Nat){A:HP}(hi:Γ[i]? = some A)(h:Z w0 w Γ):Z w0 w (A::Γ.eraseIdx i):=⟨h.below,h.kP.bN i hi⟩
def Z.iD {w0 w:World}{Γ:List HP}(i:Nat){A A':HP}(hi:Γ[i]? = some A)(h:Z w0 w (A'::Γ.eraseIdx i)):Z w0 w (Γ.set i A'):=⟨h.below,h.kP.iD i hi⟩
def Z.mono {w0 w:World}{A A':HP}{Γ:List HP}(c:∀ h,A h->A' h)(h:Z w0 w (A::Γ)):Z w0 w (A'::Γ):=⟨h.below,h.kP.jE c fun _ h=>h⟩
def Z.ou {w0 w:World}{A:HP}{Γ c:List HP}(I:∀ h,cB Γ h->cB c h)(h:Z w0 w (A::Γ)):Z w0 w (A::c):=⟨h.below,h.kP.jE (fun _ h=>h) I⟩
def Z.call {w0 w:World}{Γ Δ:List HP}(h:Z w0 w Γ)(k:Z w w' Δ):Z w0 w' (Δ++Γ):=by
 have j':w0.heap.size<=w.heap.size:=h.below.size;refine⟨h.below.trans (k.below.mono j'),?_⟩;have key:∀ (Δ:List HP) (g:PH),rO g (fI w w')->cB Δ g->cB (Δ++Γ) (rH g (fI w0 w)):=by
  intro Δ
  induction Δ with
  | nil =>
   intro g I _;refine h.kP.sub fun b o c=>?_;simp only[rH]
   cases C:g b with
   | none=>exact c
   | some V =>
    have:=I b V C;simp only[fI]at this c;split at this
    ·cases this
    split at c
    ·cases c
    rename_i h1 q
    rw[vj U]at c;cases c
  | cons A Δ ih =>
   intro g I ⟨h1,q,d,s1,s2,ha,hr⟩;refine⟨h1,rH q (fI w0 w),fun b=>?_,fun b o c=>?_,fun b o c=>?_,ha,ih q (s2.trans I) hr⟩
   ·cases S:h1 b with
    | none=>exact .inl rfl
    | some o =>
     right;have H':q b=none:=(d b).resolve_left (by rw[S];simp);have:=I b o (s1 b o S);simp only[rH,H',fI]at this ⊢;split at this
     ·cases this
     split
     ·rfl
     exact vj U
   ·simp only[rH];rw[s1 b o c]
   simp only[rH]at c ⊢;split at c
   ·rename_i V S;rw[s2 b V S];exact c
   cases C:g b with
   | none=>exact c
   | some V =>
    have:=I b V C;simp only[fI]at this c;split at this
    ·cases this
    split at c
    ·cases c
    rw[vj U]at c;cases c
 refine(key Δ (fI w w') (rO.refl _) k.kP).sub fun b o c=>?_;simp only[rH,fI]at c ⊢;by_cases h1:b<w.heap.size
 ·simp only[h1,if_true]at c
  split at c
  ·cases c
  rename_i q;rw[aM q,k.below.block b h1];exact c
 simp only[h1,if_false]at c;have q:¬b<w0.heap.size:=U;rw[aM q];split at c
 ·rename_i V S;rw[S];exact c
 rename_i C;rw[aM q,vj U]at c;cases c
def Z.cH {w0 w:World}{Γ:List HP}(h:Z w0 w Γ)(k:Z w w' []):Z w0 w' Γ:=h.call k
def Z.pI {w0 w:World}{A:HP}{Γ:List HP}(h:Z w0 w Γ)(k:Z w w' [A]):Z w0 w' (A::Γ):=h.call k
def Z.wz {w0 w:World}{A B:HP}{Γ:List HP}(h:Z w0 w Γ)(k:Z w w' [A,B]):Z w0 w' (A::B::Γ):=h.call k
def fq (w:World)(b:Nat)(o:Obj):World:={ w with heap:=w.heap.setIfInBounds b o }
def Z.put {w0 w:World}{A A':HP}{Γ:List HP}{b:Nat}{o':Obj}(h:Z w0 w (A::Γ))
  (Y:∀ h1,rO h1 (fI w0 w)->A h1->(∃ o,h1 b=some o)/\A' (oC h1 b o')):Z w0 (fq w b o') (A'::Γ):=by
 obtain⟨h1,_,_,s1,_,a,_⟩:=id h.kP;obtain⟨⟨o,V⟩,_⟩:=Y h1 s1 a;have c:=s1 b o V;simp only[fI]at c;split at c
 ·cases c
 rename_i hb;have C:b<w.heap.size:=(mw.1 c).1;refine⟨h.below.trans ⟨rfl,rfl,rfl,by simp[fq],fun k hk=>?_⟩,(h.kP.write Y).sub fun x y hx=>?_⟩
 ·simp only[fq];rw[wo U]
 simp only[oC,fI]at hx ⊢;split at hx
 ·rename_i q;subst q;rw[aM hb];simpa [fq,C] using hx
 rename_i q;split
 ·rename_i S;rw[ba S]at hx;exact hx
 rename_i S;rw[aM S]at hx;simp only[fq];rw[wo (Ne.symm q)];exact hx
def jO (w:World)(o:Obj):World:={ w with heap:=w.heap.push o }
def Z.push {w0 w:World}{A:HP}{Γ:List HP}{o:Obj}(h:Z w0 w Γ)(C:A (fun x=>if x=w.heap.size then some o else none)):Z w0 (jO w o) (A::Γ):=by
 have S:=h.below.size;refine⟨h.below.trans ⟨rfl,rfl,rfl,by simp[jO],fun k hk=>?_⟩,?_⟩
 ·simp only[jO];rw[Mo,aM U]
 refine(cB.new (b:=w.heap.size) (o:=o) ?_ h.kP C).sub fun x y hx=>?_
 ·simp only[fI];split
  ·rfl
  simp
 simp only[oC,fI]at hx ⊢;split at hx
 ·rename_i c;subst c;rw[aM U];simp only[jO];rw[Mo,ba rfl];exact hx
 rename_i c;split
 ·rename_i q;rw[ba q]at hx;exact hx
 rename_i q;rw[aM q]at hx;simp only[jO];rw[Mo,aM U];exact hx
def Z.at {w0 w:World}{Γ:List HP}(h:Z w0 w Γ)(i:Nat){A:HP}(hi:Γ[i]? = some A):∃ h1,(∀ b o,h1 b=some o->w.heap[b]? = some o/\w0.heap.size<=b)/\A h1:=by
 obtain⟨h1,_,_,s1,_,a,_⟩:=(h.bN i hi).kP;refine⟨h1,fun b o c=>?_,a⟩;have:=s1 b o c;simp only[fI]at this;split at this
 ·cases this
 exact⟨this,U⟩
def am (p:Addr)(t:TypeId)(cells:List Value):HP:=fun h=>p.off=0/\p.spot=none/\h p.block=some (.cells cells.toArray t (0,0))
def cn:Nat:=9223372036854775807
def Own (s:Value)(e:TypeId)(sz:Nat)(vs:List Value):HP:=fun h =>
 (s=nS/\vs=[]) \/
 ∃ b off n cap pre post,s=.slice (some ⟨b,off,none⟩) n cap/\pre.length=off/\vs.length=n*sz/\n<=cap/\n<=cn/\(cap-n)*sz<=post.length/\h b=some (.cells (pre++vs++post).toArray e (0,0))
def xf (w:World)(s:Value)(sz:Nat)(vs:List Value):Prop :=
 ∃ a n cap,s=.slice a n cap/\vs.length=n*sz/\(n<=cap/\n<=cn)/\∀ i v,vs[i]? = some v->∃ p,a=some p/\p.spot=none/\w.cell? ⟨p.block,p.off+i,none⟩=some v
def yA (s:Value)(k:Nat):Addr:=match s with|.slice (some p) _ _=>⟨p.block,p.off+k,none⟩|_=>⟨0,0,none⟩
def eZ (s:Value):Nat:=match s with|.slice _ n _=>n|_=>0
def eH {w:World}{b:Nat}{cs:List Value}{t:TypeId}{f:Nat × Nat}(h:w.heap[b]? = some (.cells cs.toArray t f))(k:Nat):w.cell? ⟨b,k,none⟩=cs[k]? := by
 simp[World.cell?,h]
def fO {w:World}{b:Nat}{t:TypeId}(h:w.heap[b]? = some (.cells cs t (0,0)))(k:Nat):w.frozen? ⟨b,k,none⟩=false:=by
 simp[World.frozen?,h]
def xf.below {w0 w:World}{s:Value}(h:xf w0 s sz vs)(V:Below w0.heap.size w0 w):xf w s sz vs:=by
 obtain⟨a,n,cap,hs,hl,q,hc⟩:=h;refine⟨a,n,cap,hs,hl,q,fun i v hv=>?_⟩;obtain⟨p,hp,C,c⟩:=hc i v hv;refine⟨p,hp,C,?_⟩;have S:p.block<w0.heap.size:=by
  rcases pB p.block w0.heap.size with h|h
  ·exact h
  simp[World.cell?,vj h]at c
 rw[V.cell (p:=⟨p.block,p.off+i,none⟩) S];exact c
def xf.at {w0 w:World}{Γ:List HP}{s:Value}(h:xf w0 s sz vs)(Y:Z w0 w Γ):xf w s sz vs:=h.below Y.below
def Z.ö {w0 w:World}{Γ:List HP}(h:Z w0 w Γ)(i:Nat){s:Value}{e:TypeId}(hi:Γ[i]? = some (Own s e sz vs)):xf w s sz vs:=by
 obtain⟨h1,S,a⟩:=h.at i hi;rcases a with ⟨rfl,rfl⟩|⟨b,off,n,cap,pre,post,rfl,C,hlen,q,c,_,V⟩
 ·exact⟨none,0,0,rfl,sm,⟨bC _,bC _⟩,sm⟩
 refine⟨_,n,cap,rfl,hlen,⟨q,c⟩,fun i v hv=>⟨_,rfl,rfl,?_⟩⟩;change w.cell? ⟨b,off+i,none⟩=some v;rw[eH (S b _ V).1];have j':=(ym.1 hv).1;rw[fk,lP U,mu U];rw[show off+i-pre.length=i from by omega];exact hv
def xf.cell {w:World}{s:Value}(h:xf w s sz vs){k:Nat}{v:Value}(hv:vs[k]? = some v):w.cell? (yA s k)=some v:=by
 obtain⟨a,n,cap,rfl,_,_,q⟩:=h;obtain⟨p,rfl,_,c⟩:=q k v hv;exact c
def xf.len {w:World}{s:Value}(h:xf w s sz vs):vs.length=eZ s*sz/\eZ s<=cn:=by
 obtain⟨a,n,cap,rfl,c,q,_⟩:=h;exact⟨c,q.2⟩
end
variable {A A' B:HP}{h:PH}
section
def qj (w w':World):Prop:=w'.heap.size=w.heap.size/\∀ k:Nat,(∀ cs t f,w.heap[k]? ≠ some (Obj.cells cs t f))->w'.heap[k]? = w.heap[k]?
def Sj {w:World}{b:Nat}{t:TypeId}{f:Nat × Nat}{o:Obj}(h:w.heap[b]? = some (.cells cs t f)):qj w (fq w b o) :=
 ⟨by simp[fq],fun k hk=>by
  have c:b≠k:=fun e=>by subst e;exact hk _ _ _ h
  simp only[fq];rw[wo c]⟩
def qj.trans {a b c:World}(h:qj a b)(k:qj b c):qj a c:=⟨k.1.trans h.1,fun i hi=>by
 have:=h.2 i hi
 rw[<-this];exact k.2 i (by rw[this];exact hi)⟩
open Go.RowKit (Below)
def sliceB (P:Program)(t e sz by_:Nat):Bool:=(match P.underlying t with|some (.slice c)=>c == e|_=>false) && (match P.info? e with|some i=>i.size == sz && i.bytes == by_|none=>false)
class bw (P:Program) (t:Nat) (e sz by_:outParam Nat):Prop where
 ok:sliceB P t e sz by_=true
def wB (P:Program)(t:Nat):Bool:=match P.underlying t,P.info? t with|some (.struct _),_|some (.array ..),_=>false|some _,some i=>i.size == 1|_,_=>false
class cA (P:Program) (t:Nat):Prop where
 ok:wB P t=true
def GR (P:Program)(t n:Nat):Bool:=(match P.underlying t with|some (.struct _)|some (.array ..)=>true|_=>false) && (match P.info? t with|some i=>i.size == n|none=>false)
class fi (P:Program) (t:Nat) (n:outParam Nat):Prop where
 ok:GR P t n=true
class bD (P:Program) (t:Nat) (zs:outParam (List Value)):Prop where
 ok:((P.info? t).bind (·.zero)).map (·.cells.toList)=some zs
def zb (P:Program)(t f off ft:Nat):Bool:=match P.underlying t with|some (.struct c)=>(match c[f]? with|some x=>x.offset == off && x.type == ft && (match P.info? x.type with|some i => !(i.size == 0)|none=>false)|none=>false)|_=>false
class aS (P:Program) (t f:Nat) (off ft:outParam Nat):Prop where
 ok:zb P t f off ft=true
def zd (P:Program)(t:Nat):Bool:=match P.underlying t with|some (.interface _)|none=>false|some _=>true
class fy (P:Program) (t:Nat):Prop where
 ok:zd P t=true
class mf (P:Program) (t:Nat):Prop where
 ok:(match P.underlying t with|some (.interface _)=>true|_=>false)=true
section
variable {P:Program}
def bw.iI {t e:Nat}(h:bw P t e sz by_):P.underlying t=some (.slice e):=by
 have h:=h.ok;simp only[sliceB,Bool.and_eq_true]at h;have h1:=h.1;split at h1
 ·rename_i c he;rw[he];simp at h1;rw[h1]
 cases h1
def bw.vH {t e:Nat}(h:bw P t e sz by_):∃ i,P.info? e=some i/\i.size=sz/\i.bytes=by_:=by
 have h:=h.ok;simp only[sliceB,Bool.and_eq_true]at h;have c:=h.2;split at c
 ·rename_i i hi;simp at c;exact⟨i,hi,c.1,c.2⟩
 cases c
def bw.size {t e:Nat}(h:bw P t e sz by_)(w:World):(sizeOf e).run P w=.ok sz w:=by
 obtain⟨i,hi,c,_⟩:=h.vH;simp[sizeOf,typeInfo,hi,c]
def cA.plain {t:Nat}(h:cA P t):(∀ w,(isAgg t).run P w=.ok false w)/\∀ w,(sizeOf t).run P w=.ok 1 w:=by
 have h:=h.ok;simp only[wB]at h;split at h
 ·cases h
 ·cases h
 ·rename_i d i h1 q c hi
  refine⟨fun w=>?_,fun w=>?_⟩
  ·simp only[isAgg,fG,run_underlying c,fm]
   cases d<;>first|rfl|(exfalso;simp_all)
  simp at h;simp[sizeOf,typeInfo,hi,h]
 cases h
def fi.agg {t:Nat}(h:fi P t n):(∀ w,(isAgg t).run P w=.ok true w)/\∀ w,(sizeOf t).run P w=.ok n w:=by
 have h:=h.ok;simp only[GR,Bool.and_eq_true]at h;obtain⟨h1,c⟩:=h;split at c
 ·rename_i i hi
  simp at c;refine⟨fun w=>?_,fun w=>by simp[sizeOf,typeInfo,hi,c]⟩;split at h1
  ·rename_i C q;simp[isAgg,run_underlying q]
  ·rename_i a b q;simp[isAgg,run_underlying q]
  cases h1
 cases c
def bD.zero {t:Nat}{zs:List Value}(h:bD P t zs):∃ v,v.cells=zs.toArray/\∀ w,(zeroValue t).run P w=.ok v w:=by
 have h:=h.ok
 cases hi:P.info? t with
 | none=>simp[hi]at h
 | some i =>
  simp only[hi,An]at h
  cases c:i.zero with
  | none=>simp[c]at h
  | some v =>
   simp only[c,vk,Br]at h;exact⟨v,by rw[<-h],fun w=>by simp[zeroValue,typeInfo,hi,c]⟩
def aS.pJ {t off:Nat}(h:aS P t f off ft):∃ fs c,P.underlying t=some (.struct fs)/\fs[f]? = some c/\c.offset=off/\c.type=ft/\∀ (a:Addr) w,(fieldPlace a c).run P w=.ok (a.add off) w:=by
 have h:=h.ok;simp only[zb]at h;split at h
 ·rename_i fs C
  split at h
  ·rename_i x hx
   simp only[Bool.and_eq_true,tW]at h;refine⟨fs,x,C,hx,h.1.1,h.1.2,fun a w=>?_⟩;have q:=h.2;split at q
   ·rename_i i hi
    simp at q;simp[fieldPlace,sizeOf,typeInfo,hi,q,h.1.1]
   cases q
  cases h
 cases h
def fy.iI {t:Nat}(h:fy P t):∃ d,P.underlying t=some d/\∀ ms,d≠.interface ms:=by
 have h:=h.ok;simp only[zd]at h;split at h
 ·cases h
 ·cases h
 rename_i d c q;exact⟨d,q,fun ms e=>c ms e⟩
def mf.iI {t:Nat}(h:mf P t):P.underlying t=some (.interface (P.methodsAt t)):=by
 have h:=h.ok;split at h
 ·rename_i ms c;simp[Program.methodsAt,c]
 cases h
def Aq {n:Int}(c : -9223372036854775808<=n)(h1:n<=9223372036854775807):IntKind.i64.wrap n=n:=by rw[IntKind.wrap_i64];omega
section
variable {M:Array Oper}{K:Fr->World->Prop}{r:List Oper}{ρ:Fr}{w:World}{d:Nat}{ty:TypeId}{pos:String}{af:Array Edge}{g:Option (Nat × Bool)}{dst:Option Nat}
def Bn (h:K ρ w):opsW P M K [] ρ w:=h
def fR {op:Op}{v:Value}(c:eP P op=.pure)(hv:PureV P ⟨some d,op,ty,pos,af,none⟩ ρ v)(h:opsW P M K r (fQ ρ d v) w):opsW P M K (⟨some d,op,ty,pos,af,none⟩::r) ρ w:=by
 simp only[opsW,opV,c];exact⟨v,hv,h⟩
def r7 {op:Op}{v:Value}(c:eP P op=.eu)(hv:ReadV P ⟨some d,op,ty,pos,af,none⟩ ρ w v)(h:opsW P M K r (fQ ρ d v) w):opsW P M K (⟨some d,op,ty,pos,af,none⟩::r) ρ w:=by
 simp only[opsW,opV,c];exact⟨v,hv,h⟩
def mj {op:Op}(c:eP P op=.fS)(h:opW P ⟨dst,op,ty,pos,af,none⟩ ρ w fun v w'=>opsW P M K r (jq ρ dst v) w'):opsW P M K (⟨dst,op,ty,pos,af,none⟩::r) ρ w:=by
 simp only[opsW,opV,c];exact h
def gv (c:Bool)(v:Value):Value:=bif c then v else undef
def bL {a b:Bool}(h:(a && b)=true):a=true:=(Bool.and_eq_true _ _ ▸ h).1
def bJ {c:Bool}{v:Value}(h:c=true):gv c v=v:=by rw[h];rfl
def Gd (v:Value)(want c:Bool):Prop:=ud v want=c
def MC (b want:Bool):Gd (.bool b) want (b == want):=rfl
def yP (c b want:Bool):Gd (gv c (.bool b)) want (c && (b == want)):=by cases c<;>rfl
def ø {op:Op}{j:Nat}{want c:Bool}{t:Nat}{v:Value}(q:eP P op=.pure)(C:kE M j=some t)(I:Gd (ρ t) want c)
  (hv:c=true->PureV P ⟨some d,op,ty,pos,af,none⟩ ρ v)(h:opsW P M K r (fQ ρ d (gv c v)) w):opsW P M K (⟨some d,op,ty,pos,af,some (j,want)⟩::r) ρ w:=by
 simp only[opsW,opV,q,ik,C];unfold Gd at I;rw[I];refine⟨fun h1=>⟨v,hv h1,?_⟩,fun h1=>?_⟩
 ·rw[h1]at h;exact h
 rw[h1]at h;exact h
def ù {op:Op}{j:Nat}{want c:Bool}{t:Nat}{v:Value}(q:eP P op=.eu)(C:kE M j=some t)(I:Gd (ρ t) want c)
  (hv:c=true->ReadV P ⟨some d,op,ty,pos,af,none⟩ ρ w v)(h:opsW P M K r (fQ ρ d (gv c v)) w):opsW P M K (⟨some d,op,ty,pos,af,some (j,want)⟩::r) ρ w:=by
 simp only[opsW,opV,q,ik,C];unfold Gd at I;rw[I];refine⟨fun h1=>⟨v,hv h1,?_⟩,fun h1=>?_⟩
 ·rw[h1]at h;exact h
 rw[h1]at h;exact h
def ú {op:Op}{j:Nat}{want:Bool}{t:Nat}(c:kE M j=some t)(I:ud (ρ t) want=true)
  (h1:opsW P M K (⟨dst,op,ty,pos,af,none⟩::r) ρ w):opsW P M K (⟨dst,op,ty,pos,af,some (j,want)⟩::r) ρ w:=by
 simp only[opsW,ik,c]at h1 ⊢;rw[I];exact⟨fun _=>h1,fun h=>by cases h⟩
def û {op:Op}{j:Nat}{want:Bool}{t:Nat}(c:kE M j=some t)(I:ud (ρ t) want=false)
  (h1:opsW P M K r (jq ρ dst undef) w):opsW P M K (⟨dst,op,ty,pos,af,some (j,want)⟩::r) ρ w:=by
 simp only[opsW,ik,c];rw[I];exact⟨fun h=>(by cases h),fun _=>h1⟩
variable {x y z:Operand}{t t':TypeId}
def Sk {v:Value}(hx:bh ρ x=v):PureV P ⟨dst,.move x,ty,pos,af,g⟩ ρ v:=fun w=>by simp[execOp,hx]
def MD {v:Value}(hx:bh ρ x=v):PureV P ⟨dst,.assign x,ty,pos,af,g⟩ ρ v:=fun w=>by simp[execOp,hx]
def Sm {b:Bool}{v:Value}(c:bh ρ z=.bool b)(hx:bh ρ x=u)(q:bh ρ y=v):PureV P ⟨dst,.pick z x y,ty,pos,af,g⟩ ρ (bif b then u else v):=fun w=>by
 cases b<;>simp[execOp,hx,q,c,asBool]
def B2 {b:Bool}(c:bh ρ z=.bool b)(hx:bh ρ x=.bool true)(q:bh ρ y=gv (b == false) (.bool b')):PureV P ⟨dst,.pick z x y,ty,pos,af,g⟩ ρ (.bool (b || b')):=fun w=>by
 cases b<;>simp[execOp,hx,q,c,asBool,gv]
def Sp {b:Bool}(c:bh ρ z=.bool b)(hx:bh ρ x=gv (b == true) (.bool b'))(q:bh ρ y=.bool false):PureV P ⟨dst,.pick z x y,ty,pos,af,g⟩ ρ (.bool (b && b')):=fun w=>by
 cases b<;>simp[execOp,hx,q,c,asBool,gv]
def ü {c b:Bool}(I:c=true)(q:bh ρ z=gv c (.bool b))(hx:bh ρ x=.bool true)(C:bh ρ y=gv (c && (b == false)) (.bool b')):PureV P ⟨dst,.pick z x y,ty,pos,af,g⟩ ρ (.bool (b || b')):=fun w=>by
 subst I;cases b<;>simp[execOp,hx,C,q,asBool,gv]
def ý {c b:Bool}(I:c=true)(q:bh ρ z=gv c (.bool b))(hx:bh ρ x=gv (c && (b == true)) (.bool b'))(C:bh ρ y=.bool false):PureV P ⟨dst,.pick z x y,ty,pos,af,g⟩ ρ (.bool (b && b')):=fun w=>by
 subst I;cases b<;>simp[execOp,hx,C,q,asBool,gv]
variable {k:IntKind}{a b:Int}
def Sq (hx:bh ρ x=.int k a)(c:bh ρ y=.int k b):PureV P ⟨dst,.binOp .lss t x y t',ty,pos,af,g⟩ ρ (.bool (decide (a<b))):=fun w=>by simp[execOp,eqGuard,binOp,Op.intCmp,hx,c]
def Sr (hx:bh ρ x=.int k a)(c:bh ρ y=.int k b):PureV P ⟨dst,.binOp .leq t x y t',ty,pos,af,g⟩ ρ (.bool (decide (a<=b))):=fun w=>by simp[execOp,eqGuard,binOp,Op.intCmp,hx,c]
def Ss (hx:bh ρ x=.int k a)(c:bh ρ y=.int k b):PureV P ⟨dst,.binOp .gtr t x y t',ty,pos,af,g⟩ ρ (.bool (decide (b<a))):=fun w=>by simp[execOp,eqGuard,binOp,Op.intCmp,hx,c]
def St (hx:bh ρ x=.int k a)(c:bh ρ y=.int k b):PureV P ⟨dst,.binOp .geq t x y t',ty,pos,af,g⟩ ρ (.bool (decide (b<=a))):=fun w=>by simp[execOp,eqGuard,binOp,Op.intCmp,hx,c]
def Su (hx:bh ρ x=.int k a)(c:bh ρ y=.int k b):PureV P ⟨dst,.binOp .eql t x y t',ty,pos,af,g⟩ ρ (.bool (decide (a=b))):=fun w=>by simp[execOp,eqGuard,binOp,Op.intCmp,hx,c];rfl
def Sv (hx:bh ρ x=.int k a)(c:bh ρ y=.int k b):PureV P ⟨dst,.binOp .neq t x y t',ty,pos,af,g⟩ ρ (.bool (!decide (a=b))):=fun w=>by simp[execOp,eqGuard,binOp,Op.intCmp,hx,c];rfl
def Sw (hx:bh ρ x=E a)(c:bh ρ y=E b)(q : -9223372036854775808<=a+b)(h1:a+b<=9223372036854775807):PureV P ⟨dst,.binOp .add t x y t',ty,pos,af,g⟩ ρ (E (a+b)):=fun w=>by simp[execOp,eqGuard,binOp,Op.intArith,hx,c,Aq q h1]
def Sx (hx:bh ρ x=E a)(c:bh ρ y=E b)(q : -9223372036854775808<=a-b)(h1:a-b<=9223372036854775807):PureV P ⟨dst,.binOp .sub t x y t',ty,pos,af,g⟩ ρ (E (a-b)):=fun w=>by simp[execOp,eqGuard,binOp,Op.intArith,hx,c,Aq q h1]
def Sy (hx:bh ρ x=E a)(c:bh ρ y=E b)(q : -9223372036854775808<=a*b)(h1:a*b<=9223372036854775807):PureV P ⟨dst,.binOp .mul t x y t',ty,pos,af,g⟩ ρ (E (a*b)):=fun w=>by simp[execOp,eqGuard,binOp,Op.intArith,hx,c,Aq q h1]
def Sz {b:Bool}(hx:bh ρ x=.bool b):PureV P ⟨dst,.unOp .not t x,ty,pos,af,g⟩ ρ (.bool !b):=fun w=>by simp[execOp,Op.unary,hx]
def SA (hx:bh ρ x=E a)(c : -9223372036854775808<=0-a)(h1:0-a<=9223372036854775807):PureV P ⟨dst,.unOp .neg t x,ty,pos,af,g⟩ ρ (E (0-a)):=fun w=>by
 have:=Aq c h1;simp only[execOp,Op.unary,hx,Op.intArith,fG,gU,fm,this]
def SB {u:TypeId}{v:Value}[T:mf P t](hx:bh ρ x=.iface u v)(c:bh ρ y=.nilIface):PureV P ⟨dst,.binOp .neq t x y t',ty,pos,af,g⟩ ρ (.bool true):=fun w=>by simp[execOp,eqGuard,hx,c,run_neq_held_nil w t u v T.iI]
def SC {u:TypeId}{v:Value}[T:mf P t](hx:bh ρ x=.iface u v)(c:bh ρ y=.nilIface):PureV P ⟨dst,.binOp .eql t x y t',ty,pos,af,g⟩ ρ (.bool false):=fun w=>by simp[execOp,eqGuard,hx,c,run_eql_held_nil w t u v T.iI]
def SD [T:mf P t](hx:bh ρ x=.nilIface):PureV P ⟨dst,.binOp .neq t x (.const .nilIface) t',ty,pos,af,g⟩ ρ (.bool false):=fun w=>by
 have h1:=run_neq_nil_nil w t T.iI;simp only[execOp,eqGuard,hx];cases x<;>simp[bh,h1]
def SE [T:mf P t](hx:bh ρ x=.nilIface):PureV P ⟨dst,.binOp .eql t x (.const .nilIface) t',ty,pos,af,g⟩ ρ (.bool true):=fun w=>by
 have h1:=run_eql_nil_nil w t T.iI;simp only[execOp,eqGuard,hx];cases x<;>simp[bh,h1]
def SF {v:Value}[T:fy P t](hx:bh ρ x=v):PureV P ⟨dst,.makeInterface t x,ty,pos,af,g⟩ ρ (.iface t v):=fun w=>by
 obtain⟨c,q,C⟩:=T.iI;simp only[execOp,Instr.makeInterface,fG,run_underlying q,fm,hx];cases c<;>first|rfl|exact absurd rfl (C _)
def SG {vs:Array Value}{v:Value}(hx:bh ρ x=.tuple vs)(hi:vs[i]? = some v):PureV P ⟨dst,.extract x i,ty,pos,af,g⟩ ρ v:=fun w=>by simp[execOp,Instr.extract,hx,hi]
def ME {off:Nat}[T:aS P t f off ft](hx:bh ρ x=.pointer (some p)):PureV P ⟨dst,.fieldAddr t x f,ty,pos,af,g⟩ ρ (.pointer (some (p.add off))):=fun w=>by
 obtain⟨V,c,q,C,ho,_,S⟩:=T.pJ;simp[execOp,Instr.fieldAt,Instr.sureAddr,hx,run_underlying q,C,S]
def SH {off:Nat}{v:Value}[T:aS P t f off ft][C:cA P ft](hx:bh ρ x=.agg cs)(hv:cs[off]? = some v):PureV P ⟨dst,.field t x f,ty,pos,af,g⟩ ρ v:=fun w=>by
 obtain⟨fs,q,S,V,ho,c,_⟩:=T.pJ;simp[execOp,Instr.field,hx,run_underlying S,V,part,asAgg,c,C.plain.1,ho,hv]
def SJ (hx:bh ρ x=.pointer (some p)):PureV P ⟨dst,.nilCheck x,ty,pos,af,g⟩ ρ (.pointer (some p)):=fun w=>by simp[execOp,hx]
def SK {u:TypeId}{v:Value}(hx:bh ρ x=.iface u v):PureV P ⟨dst,.nilCheck x,ty,pos,af,g⟩ ρ (.iface u v):=fun w=>by simp[execOp,hx]
end
class wr (Γ:List HP) (A:HP) (put:HP->List HP):Prop where
 ok:∃ i,Γ[i]? = some A/\∀ A',put A'=Γ.set i A'
theorem wr.C8 {Γ:List HP}:wr (A::Γ) A (fun A'=>A'::Γ):=⟨0,rfl,fun _=>rfl⟩
theorem wr.yQ {Γ:List HP}{put:HP->List HP}(h:wr Γ A put):wr (B::Γ) A (fun A'=>B::put A'):=by
 obtain⟨i,hi,c⟩:=h.ok;exact⟨i+1,by simpa using hi,fun A'=>by rw[c A'];rfl⟩
class iC (Γ:List HP) (p:Addr) (t:outParam TypeId) (cells:outParam (List Value)) (put:outParam (HP->List HP)):Prop where
 nB:wr Γ (am p t cells) put
instance (priority:=high) box_here {p:Addr}{t:TypeId}{cells:List Value}{Γ:List HP}:iC (am p t cells::Γ) p t cells (fun A'=>A'::Γ):=⟨wr.C8⟩
instance EN {B:HP}{p:Addr}{t:TypeId}{cells:List Value}{Γ:List HP}{put:HP->List HP} [h:iC Γ p t cells put]:iC (B::Γ) p t cells (fun A'=>B::put A'):=⟨h.nB.yQ⟩
attribute [irreducible] gv
structure Ty (α:Type) where
 sz:Nat
 enc:α->List Value
 ok:∀ x,(enc x).length=sz
 dflt:α
def W:Ty Int:=⟨1,fun n=>[E n],fun _=>rfl,0⟩
def ah:Ty Bool:=⟨1,fun b=>[.bool b],fun _=>rfl,false⟩
def aA:Ty Value:=⟨1,fun v=>[v],fun _=>rfl,undef⟩
def Ty.len {α:Type}(T:Ty α)(xs:List α):(xs.flatMap T.enc).length=xs.length*T.sz:=by
 induction xs with
 | nil=>simp
 | cons x xs c=>simp[pA,T.ok,c,r8];omega
def Ty.get {α:Type}(T:Ty α):∀ (xs:List α) (i k:Nat),i<xs.length->k<T.sz->(xs.flatMap T.enc)[i*T.sz+k]? = (T.enc (xs.getD i T.dflt))[k]?
 | [],i,k,h,_=>by simp at h
 | x::xs,0,k,_,hk=>by
  rw[pA,Ir,xT,mu (by rw[T.ok];exact hk)];rfl
 | x::xs,i+1,k,h,hk=>by
  have c:=T.ok x;rw[pA,lP (by rw[c,r8];omega),c,show (i+1)*T.sz+k-T.sz=i*T.sz+k from by rw[r8];omega];simp only[length_cons]at h;rw[Ty.get T xs i k U hk];rfl
def Ty.set {α:Type}(T:Ty α):∀ (xs:List α) (i k:Nat) (v:Value) (x':α),i<xs.length->k<T.sz->T.enc x'=(T.enc (xs.getD i T.dflt)).set k v ->
  (xs.flatMap T.enc).set (i*T.sz+k) v=(xs.set i x').flatMap T.enc
 | [],i,k,v,x',h,_,_=>by simp at h
 | x::xs,0,k,v,x',_,hk,he=>by
  simp only[getD_cons_zero]at he
  rw[pA,Ir,xT,Mj _ _ (by rw[T.ok];exact hk),lO,pA,he]
 | x::xs,i+1,k,v,x',h,hk,he=>by
  have c:=T.ok x;simp only[length_cons]at h
  rw[pA,xQ _ _ (by rw[c,r8];omega),c,show (i+1)*T.sz+k-T.sz=i*T.sz+k from by rw[r8];omega,mY,pA,
   Ty.set T xs i k v x' U hk (by simpa using he)]
def RS {α:Type}(T:Ty α)(w:World)(s:Value)(xs:List α):Prop:=xf w s T.sz (xs.flatMap T.enc)/\xs.length=eZ s
def X {α:Type}(T:Ty α)(e:TypeId)(s:Value)(xs:List α):HP:=fun h=>Own s e T.sz (xs.flatMap T.enc) h/\xs.length=eZ s
class iP (Γ:List HP) (s:Value) (α:outParam Type) (T:outParam (Ty α)) (e:outParam TypeId) (xs:outParam (List α)) (put:outParam (HP->List HP)):Prop where
 nB:wr Γ (X T e s xs) put
instance (priority:=high) own_here {α:Type}{T:Ty α}{s:Value}{e:TypeId}{xs:List α}{Γ:List HP}:iP (X T e s xs::Γ) s α T e xs (fun A'=>A'::Γ):=⟨wr.C8⟩
instance EO {B:HP}{α:Type}{T:Ty α}{s:Value}{e:TypeId}{xs:List α}{Γ:List HP}{put:HP->List HP} [h:iP Γ s α T e xs put]:iP (B::Γ) s α T e xs (fun A'=>B::put A'):=⟨h.nB.yQ⟩
def iZ {α:Type}(T:Ty α)(s:Value)(i:Nat):Addr:=yA s (i*T.sz)
def RS.at {α:Type}{T:Ty α}{w0 w:World}{Γ:List HP}{s:Value}{xs:List α}(h:RS T w0 s xs)(Y:Z w0 w Γ):RS T w s xs:=⟨h.1.at Y,h.2⟩
def RS.cn {α:Type}{T:Ty α}{w:World}{s:Value}{xs:List α}(h:RS T w s xs):xs.length<=9223372036854775807:=by have:=h.1.len.2;rw[h.2];exact this
def Z.rs {α:Type}{T:Ty α}{w0 w:World}{Γ:List HP}(h:Z w0 w Γ)(i:Nat){s:Value}{e:TypeId}{xs:List α}(hi:Γ[i]? = some (X T e s xs)):RS T w s xs:=by
 have c:=(h.bN i hi).mono (A':=Own s e T.sz (xs.flatMap T.enc)) fun _ q=>q.1;obtain⟨h1,_,a⟩:=h.at i hi;exact⟨c.ö 0 rfl,a.2⟩
def bB {α:Type}{T:Ty α}{w0 w:World}{Γ:List HP}{s:Value}{e:TypeId}{xs:List α}{put:HP->List HP}[h:iP Γ s α T e xs put](Y:Z w0 w Γ):RS T w s xs:=by
 obtain⟨i,hi,_⟩:=h.nB.ok;exact Y.rs i hi
def Z.nil {α:Type}{T:Ty α}{w0 w:World}{Γ:List HP}{e:TypeId}(h:Z w0 w Γ):Z w0 w (X T e (nS) []::Γ) :=
 ⟨h.below,fun _=>none,fI w0 w,fun _=>.inl rfl,fun _ _ c=>(by cases c),rO.refl _,⟨.inl ⟨rfl,rfl⟩,rfl⟩,h.kP⟩
def RS.nil {α:Type}{T:Ty α}{w:World}:RS T w (nS) []:=⟨⟨none,0,0,rfl,sm,⟨bC _,bC _⟩,sm⟩,rfl⟩
def RS.shape {α:Type}{T:Ty α}{w:World}{s:Value}{xs:List α}(h:RS T w s xs):∃ a cap,s=.slice a xs.length cap:=by
 obtain⟨⟨a,n,cap,rfl,_⟩,c⟩:=h;exact⟨a,cap,by rw[c];rfl⟩
def RS.some {α:Type}{T:Ty α}(q:0<T.sz){w:World}{s:Value}{xs:List α}(h:RS T w s xs)(C:0<xs.length):∃ p cap,s=.slice (some p) xs.length cap/\p.spot=none:=by
 obtain⟨⟨a,n,cap,rfl,_,_,S⟩,V⟩:=h;have h0:0<(xs.flatMap T.enc).length:=by rw[T.len];exact Nat.mul_pos C q
 obtain⟨p,rfl,c,_⟩:=S 0 _ (mL h0);exact⟨p,cap,by rw[V];rfl,c⟩
section
variable {M:Array Oper}{K:Fr->World->Prop}{r:List Oper}{ρ:Fr}{w w0:World}{d:Nat}{ty:TypeId}{pos:String}{af:Array Edge}{g:Option (Nat × Bool)}{dst:Option Nat}{x y z:Operand}{t t':TypeId}{Γ:List HP}
variable {α:Type}{T:Ty α}{s:Value}{xs:List α}
def SL {e:Nat}[S:bw P t e sz by_](hx:bh ρ x=s)(h:RS T w s xs):PureV P ⟨dst,.call { callee:=.builtin .len,args:=#[x],argTypes:=#[t] },ty,pos,af,g⟩ ρ (E xs.length):=fun w=>by
 obtain⟨a,cap,c⟩:=h.shape;simp[execOp,resolve,invoke,builtin,Builtin.len_,hx,run_underlying S.iI,c,goInt]
def MF {e:Nat}{k:IntKind}{j:Int}[S:bw P t e sz by_](hx:bh ρ x=s)(q:bh ρ y=.int k j)(h:RS T w s xs)(C:sz=T.sz)(V:0<T.sz)(h0:0<=j)(h1:j<xs.length) :
  PureV P ⟨dst,.indexAddr t x y,ty,pos,af,g⟩ ρ (.pointer (some (iZ T s j.toNat))):=fun w=>by
 subst C;obtain⟨p,cap,hs,j'⟩:=h.some V U;have c:∀ n,p.add n=⟨p.block,p.off+n,none⟩:=fun n=>by
  unfold Addr.add;split
  ·rename_i hn;subst hn;cases p;simp_all
  rfl
 simp[execOp,Instr.indexAt,hx,q,asIntOf,run_underlying S.iI,hs,h0,h1,S.size,iZ,yA,c]
def SM {e:Nat}{k:IntKind}{j:Nat}[S:bw P t e sz by_](hx:bh ρ x=s)(c:bh ρ y=.int k j)(h:RS T w s xs)(q:sz=T.sz)(C:0<T.sz)(h1:j<xs.length) :
  PureV P ⟨dst,.indexAddr t x y,ty,pos,af,g⟩ ρ (.pointer (some (iZ T s j))):=by
 have:=MF (P:=P) (t:=t) (w:=w) (dst:=dst) (ty:=ty) (pos:=pos) (af:=af) (g:=g) hx c h q C (D0 j) U
 simpa using this
def yd {v:Value}[C:cA P t](hx:bh ρ x=.pointer (some p))(hv:w.cell? p=some v):ReadV P ⟨dst,.load t x,ty,pos,af,g⟩ ρ w v:=by
 simp[ReadV,execOp,Instr.loadAt,Instr.sureAddr,hx,loadVar,C.plain.1,hv]
def IM [A:fi P t n](hx:bh ρ x=.pointer (some p))(c:vs.length=n)(hv:∀ j v,vs[j]? = some v->w.cell? (p.add j)=some v):ReadV P ⟨dst,.load t x,ty,pos,af,g⟩ ρ w (.agg vs.toArray):=by
 subst c;have:=run_loadCells_list (P:=P) (w:=w) p vs hv;simp[ReadV,execOp,Instr.loadAt,Instr.sureAddr,hx,loadVar,A.agg.1,A.agg.2,this]
def MG (h:RS T w s xs){k:Nat}{v:Value}(hi:i<xs.length)(hk:k<T.sz)(hv:(T.enc (xs.getD i T.dflt))[k]? = some v):w.cell? ((iZ T s i).add k)=some v:=by
 have h1:=h.1.cell (k:=i*T.sz+k) (v:=v) (by rw[T.get xs i k hi hk];exact hv);obtain⟨p,cap,c,_⟩:=h.some U U;subst c;unfold iZ yA Addr.add at *
 split
 ·rename_i q;subst q;simpa using h1
 simpa [Bt] using h1
def þ (h:RS T w s xs){v:Value}(hi:i<xs.length)(hv:T.enc (xs.getD i T.dflt)=[v]):w.cell? (iZ T s i)=some v:=by
 have c:T.sz=1:=by rw[<-T.ok (xs.getD i T.dflt),hv];rfl
 have:=MG h hi (k:=0) U (v:=v) (by rw[hv];rfl)
 simpa [Addr.add] using this
def Em {v:Value}[C:cA P t](hx:bh ρ x=.pointer (some (iZ T s i)))(h:RS T w s xs)(hi:i<xs.length)(hv:T.enc (xs.getD i T.dflt)=[v]):ReadV P ⟨dst,.load t x,ty,pos,af,g⟩ ρ w v :=
 yd hx (þ h hi hv)
def En {k:Nat}{v:Value}[C:cA P t](hx:bh ρ x=.pointer (some ((iZ T s i).add k)))(h:RS T w s xs)(hi:i<xs.length)(hk:k<T.sz)(hv:(T.enc (xs.getD i T.dflt))[k]? = some v):ReadV P ⟨dst,.load t x,ty,pos,af,g⟩ ρ w v :=
 yd hx (MG h hi hk hv)
def Eo [A:fi P t n](hx:bh ρ x=.pointer (some (iZ T s i)))(h:RS T w s xs)(hi:i<xs.length)(c:n=T.sz):ReadV P ⟨dst,.load t x,ty,pos,af,g⟩ ρ w (.agg (T.enc (xs.getD i T.dflt)).toArray) :=
 IM hx (by rw[T.ok,c]) fun j v hv=>MG h hi (by rw[<-T.ok (xs.getD i T.dflt)];exact(ym.1 hv).1) hv
def nw {k:Nat}{cells:List Value}{v:Value}(Y:Z w0 w Γ)(hi:Γ[i]? = some (am p bt cells))(hv:cells[k]? = some v):w.cell? (p.add k)=some v:=by
 obtain⟨h1,C,q,c,S⟩:=Y.at i hi;have:=eH (C _ _ S).1 k;obtain⟨pb,po,V⟩:=p;simp only at q c;subst q c;unfold Addr.add;split
 ·rename_i h0;subst h0;rw[this];exact hv
 simp only[xT];rw[this];exact hv
def DP {cells:List Value}{v:Value}(Y:Z w0 w Γ)(hi:Γ[i]? = some (am p bt cells))(hv:cells[0]? = some v):w.cell? p=some v:=by
 have:=nw Y hi (k:=0) hv
 simpa [Addr.add] using this
def FT {k:Nat}{cells:List Value}{v:Value}{put:HP->List HP}[C:cA P t](hx:bh ρ x=.pointer (some (p.add k)))(Y:Z w0 w Γ)(B:iC Γ p bt cells put)(hv:cells[k]? = some v):ReadV P ⟨dst,.load t x,ty,pos,af,g⟩ ρ w v:=by
 obtain⟨i,hi,_⟩:=B.nB.ok;exact yd hx (nw Y hi hv)
def FU {cells:List Value}{v:Value}{put:HP->List HP}[C:cA P t](hx:bh ρ x=.pointer (some p))(Y:Z w0 w Γ)(B:iC Γ p bt cells put)(hv:cells[0]? = some v):ReadV P ⟨dst,.load t x,ty,pos,af,g⟩ ρ w v:=by
 obtain⟨i,hi,_⟩:=B.nB.ok;exact yd hx (DP Y hi hv)
def FV {cells:List Value}{put:HP->List HP}[A:fi P t n](hx:bh ρ x=.pointer (some p))(Y:Z w0 w Γ)(B:iC Γ p bt cells put)(c:cells.length=n):ReadV P ⟨dst,.load t x,ty,pos,af,g⟩ ρ w (.agg cells.toArray):=by
 obtain⟨i,hi,_⟩:=B.nB.ok;exact IM hx c fun _ _ hv=>nw Y hi hv
def yo {b:Nat}{bt:TypeId}:∀ (vs:List Value) (off i:Nat) (cs:List Value) (w:World),(∀ v∈vs,v.oneCell'=true)->off+i+vs.length<=cs.length->w.heap[b]? = some (.cells cs.toArray bt (0,0)) ->
  (storeCells ⟨b,off,none⟩ vs i).run P w=.ok () (fq w b (.cells (cs.take (off+i)++vs++cs.drop (off+i+vs.length)).toArray bt (0,0)))
 | [],off,i,cs,w,_,_,c=>by
  have:(fq w b (.cells (cs.take (off+i)++[]++cs.drop (off+i+0)).toArray bt (0,0)))=w:=by
   simp only[fq,gj,Ai,Ak];cases w;simp only[World.mk.injEq,Iv];apply yl;intro k;simp only at c;by_cases hk:b=k
   ·subst hk;rw[CG (mw.1 c).1];exact c.symm
   rw[wo hk]
  simp only[storeCells,gU,length_nil,this]
 | v::vs,off,i,cs,w,hv,V,c=>by
  have C:(⟨b,off,none⟩:Addr).add i=⟨b,off+i,none⟩:=by unfold Addr.add;split<;>simp_all
  simp only[length_cons]at V;have hc:w.cell? ⟨b,off+i,none⟩=some cs[off+i]:=by rw[eH c];exact mL U
  have S:w.setCell ⟨b,off+i,none⟩ v=fq w b (.cells (cs.set (off+i) v).toArray bt (0,0)):=by
   simp only[World.setCell,fq];congr 1;apply yl;intro k;have q:=(mw.1 c).1;by_cases hk:b=k
   ·subst hk;rw[xU,ba rfl,c,CG q];simp
   rw[xU,aM hk,wo hk]
  simp only[storeCells,fG,C,run_store P w _ v .plain (hv v sm),hc,fO c,Ea,if_false,fm,S];have q:=(mw.1 c).1;rw[yo (bt:=bt) vs off (i+1) (cs.set (off+i) v) _ (fun u hu=>hv u (by simp[hu])) (by simp;omega) (by simp[fq,q])];congr 1;simp only[fq,Array.setIfInBounds_setIfInBounds];congr 4;have h1:(cs.set (off+i) v).take (off+(i+1))=cs.take (off+i)++[v]:=by
   rw[show off+(i+1)=off+i+1 from by omega,R6 (by simp;omega),Io U];simp
  have h2:(cs.set (off+i) v).drop (off+(i+1)+vs.length)=cs.drop (off+i+(vs.length+1)):=by
   rw[drop_set_of_lt U];congr 1;omega
  rw[h1,h2];simp
def By {v:Value}{K:Value->World->Prop}(hx:bh ρ x=.pointer (some p))(q:bh ρ y=v)(c:∀ w,(sizeOf t).run P w=.ok v.cells.size w)(C:(storeCells p v.cells.toList).run P w=.ok () w')(h:K undef w') :
  opW P ⟨none,.store t x y,ty,pos,af,none⟩ ρ w K:=by
 simp only[opW,execOp,hx,q,Instr.storeAt,Instr.sureAddr,fG,gU,fm,storeVar,c,ne_eq,not_true,if_false,C,cJ];exact h
def H3 {k:Nat}{cells:List Value}{v:Value}{put:HP->List HP}[C:cA P t](hx:bh ρ x=.pointer (some (p.add k)))(hy:bh ρ y=v)(hv:v.oneCell'=true)(Y:Z w0 w Γ)(B:iC Γ p bt cells put)(hk:k<cells.length)(h:∀ w',Z w0 w' (put (am p bt (cells.set k v)))->opsW P M K r ρ w'):opsW P M K (⟨none,.store t x y,ty,pos,af,none⟩::r) ρ w:=by
 refine mj rfl ?_;obtain⟨i,hi,c⟩:=B.nB.ok;simp only[c]at h;obtain⟨h1,hs,ho,q,V⟩:=Y.at i hi;obtain⟨pb,po,j'⟩:=p;simp only at ho q V;subst ho q;have S:(⟨pb,0,none⟩:Addr).add k=⟨pb,k,none⟩:=by unfold Addr.add;split<;>simp_all
 rw[S]at hx;have hc:v.cells=#[v]:=by cases v<;>first|rfl|(simp[Value.oneCell']at hv)
 refine By hx hy (fun w=>by rw[hc];exact C.plain.2 w) (w':=fq w pb (.cells (cells.set k v).toArray bt (0,0))) ?_ ?_
 ·rw[hc]
  have:=yo (P:=P) (b:=pb) [v] k 0 cells w (by simpa using hv) (by simp;omega) (hs _ _ V).1;rw[show #[v].toList=[v] from rfl,this];congr 4;simp only[Ai,length_cons,length_nil,xT];rw[FM];simp[hk]
 refine h _ ((Z.put (Y.bN i hi) fun h1 _ ⟨_,_,V⟩=>⟨⟨_,V⟩,rfl,rfl,by simp[oC]⟩).iD i hi)
def Q3 {k:Nat}{cells:List Value}{v:Value}{put:HP->List HP}[C:cA P t](hx:bh ρ x=.pointer (some (p.add k)))(hy:bh ρ y=v)(hv:v.oneCell'=true)(Y:Z w0 w Γ)(B:iC Γ p bt cells put)(hk:k<cells.length)(h:∀ w',Z w0 w' (put (am p bt (cells.set k v)))->qj w w'->opsW P M K r ρ w'):opsW P M K (⟨none,.store t x y,ty,pos,af,none⟩::r) ρ w:=by
 refine mj rfl ?_;obtain⟨i,hi,c⟩:=B.nB.ok;simp only[c]at h;obtain⟨h1,hs,ho,q,S⟩:=Y.at i hi;obtain⟨pb,po,j'⟩:=p;simp only at ho q S;subst ho q;have V:(⟨pb,0,none⟩:Addr).add k=⟨pb,k,none⟩:=by unfold Addr.add;split<;>simp_all
 rw[V]at hx;have hc:v.cells=#[v]:=by cases v<;>first|rfl|(simp[Value.oneCell']at hv)
 refine By hx hy (fun w=>by rw[hc];exact C.plain.2 w) (w':=fq w pb (.cells (cells.set k v).toArray bt (0,0))) ?_ ?_
 ·rw[hc]
  have:=yo (P:=P) (b:=pb) [v] k 0 cells w (by simpa using hv) (by simp;omega) (hs _ _ S).1;rw[show #[v].toList=[v] from rfl,this];congr 4;simp only[Ai,length_cons,length_nil,xT];rw[FM];simp[hk]
 refine h _ ((Z.put (Y.bN i hi) fun h1 _ ⟨_,_,S⟩=>⟨⟨_,S⟩,rfl,rfl,by simp[oC]⟩).iD i hi) (Sj (hs _ _ S).1)
def ÿ {cells:List Value}{v:Value}{put:HP->List HP}[C:cA P t](hx:bh ρ x=.pointer (some p))(c:bh ρ y=v)(hv:v.oneCell'=true)(Y:Z w0 w Γ)(B:iC Γ p bt cells put)(hk:0<cells.length)(h:∀ w',Z w0 w' (put (am p bt (cells.set 0 v)))->opsW P M K r ρ w'):opsW P M K (⟨none,.store t x y,ty,pos,af,none⟩::r) ρ w :=
 H3 (k:=0) (by simpa [Addr.add] using hx) c hv Y B hk h
def lm {cells:List Value}{put:HP->List HP}[A:fi P t n](hx:bh ρ x=.pointer (some p))(hy:bh ρ y=.agg vs.toArray)(Y:Z w0 w Γ)(B:iC Γ p bt cells put)(hn:vs.length=n)(hl:cells.length=n)(hv:vs.all Value.oneCell'=true)(h:∀ w',Z w0 w' (put (am p bt vs))->opsW P M K r ρ w'):opsW P M K (⟨none,.store t x y,ty,pos,af,none⟩::r) ρ w:=by
 refine mj rfl ?_;obtain⟨i,hi,c⟩:=B.nB.ok;simp only[c]at h;obtain⟨h1,hs,S,q,C⟩:=Y.at i hi;obtain⟨V,po,j'⟩:=p;simp only at S q C;subst S q;refine By hx hy (fun w=>by rw[A.agg.2];simp[Value.cells,hn]) (w':=fq w V (.cells vs.toArray bt (0,0))) ?_ ?_
 ·have:=yo (P:=P) (b:=V) vs 0 0 cells w (by simpa using hv) (by simp;omega) (hs _ _ C).1
  simp only[Value.cells];rw[this];congr 4;simp only[Ai,xT,yn,lQ];rw[oG U,gj]
 exact h _ ((Z.put (Y.bN i hi) fun h1 _ ⟨_,_,C⟩=>⟨⟨_,C⟩,rfl,rfl,by simp[oC]⟩).iD i hi)
def Ā [Z':bD P t zs](Y:Z w0 w Γ)(h:∀ p w',Z w0 w' (am p t zs::Γ)->opsW P M K r (fQ ρ d (.pointer (some p))) w'):opsW P M K (⟨some d,.alloc t,ty,pos,af,none⟩::r) ρ w:=by
 refine mj rfl ?_;obtain⟨v,hv,c⟩:=Z'.zero;simp only[opW,execOp,Instr.alloc,fG,c,fm,newVar,newRow,run_newObj,gU,cJ,hv];exact h ⟨w.heap.size,0,none⟩ _ (Y.push (o:=.cells zs.toArray t) ⟨rfl,rfl,sm⟩)
def SN {v:Value}(hx:bh ρ x=v)(Y:Z w0 w Γ)(h:∀ p w',Z w0 w' (am p t v.cells.toList::Γ)->opsW P M K r (fQ ρ d (.pointer (some p))) w'):opsW P M K (⟨some d,.box t x,ty,pos,af,none⟩::r) ρ w:=by
 refine mj rfl ?_;simp only[opW,execOp,Instr.box,fG,fm,newVar,newRow,run_newObj,gU,cJ,hx];exact h ⟨w.heap.size,0,none⟩ _ (Y.push (o:=.cells v.cells t) ⟨rfl,rfl,sm⟩)
def MH {j k:Nat}{e:TypeId}{v:Value}{x':α}(hv:v.oneCell'=true)(Y:Z w0 w Γ)(hi:Γ[i]? = some (X T e s xs))(hj:j<xs.length)(hk:k<T.sz)(he:T.enc x'=(T.enc (xs.getD j T.dflt)).set k v) :
  ∃ w',(storeCells ((iZ T s j).add k) [v]).run P w=.ok () w'/\Z w0 w' (Γ.set i (X T e s (xs.set j x')))/\qj w w':=by
 obtain⟨h1,hs,ho,hl⟩:=Y.at i hi;have hlen:=T.len xs;rcases ho with ⟨rfl,_c⟩|⟨b,off,n,cap,pre,post,rfl,q,j',H',C,J',hb⟩
 ·simp only[eZ]at hl;omega
 have _d:j*T.sz+k<(xs.flatMap T.enc).length:=by
  rw[hlen];have:(j+1)*T.sz<=xs.length*T.sz:=wm _ hj;rw[r8]at this;omega
 have S:(iZ T (.slice (some ⟨b,off,none⟩) n cap) j).add k=⟨b,off+(j*T.sz+k),none⟩:=by
  unfold iZ yA Addr.add;split
  ·rename_i c;subst c;simp
  simp[Bt]
 rw[S];have V:((pre++xs.flatMap T.enc++post).take (off+(j*T.sz+k)+0)++[v]++(pre++xs.flatMap T.enc++post).drop (off+(j*T.sz+k)+0+1))=pre++(xs.set j x').flatMap T.enc++post:=by
  rw[<-T.set xs j k v x' hj hk he];have c:(pre++xs.flatMap T.enc++post).set (off+(j*T.sz+k)) v=pre++(xs.flatMap T.enc).set (j*T.sz+k) v++post:=by
   rw[fk,xQ _ _ U,Mj _ _ U,show off+(j*T.sz+k)-pre.length=j*T.sz+k from by omega,fk]
  rw[<-c,FM,ba (by simp only[length_append];omega)];simp
 refine⟨fq w b (.cells (pre++(xs.set j x').flatMap T.enc++post).toArray e (0,0)),?_,?_,Sj (hs b _ hb).1⟩
 ·rw[yo (b:=b) (bt:=e) [v] _ 0 _ w (by simpa using hv) (by simp only[length_append,length_cons,length_nil];omega) (hs b _ hb).1]
  rw[<-V];rfl
 have c:=T.len (xs.set j x');refine(Z.put (Y.bN i hi) fun g I ⟨P',_k⟩=>?_).iD i hi;rcases P' with ⟨hn,_⟩|⟨b',_e,n',_f,_g,R',T',V',_h,_i,_a,_j,_b⟩
 ·cases hn
 cases T';refine⟨⟨_,_b⟩,.inr ⟨b,off,n,cap,pre,post,rfl,q,by rw[c,iU,<-hlen,j'],H',C,J',by simp[oC]⟩,by rw[iU];exact hl⟩
def ā {j:Nat}{e:TypeId}{v:Value}{x':α}{put:HP->List HP}[C:cA P t](hx:bh ρ x=.pointer (some (iZ T s j)))(V:bh ρ y=v)(hv:v.oneCell'=true)(Y:Z w0 w Γ)(O':iP Γ s α T e xs put)(hj:j<xs.length)(he:T.enc x'=[v])
  (h:∀ w',Z w0 w' (put (X T e s (xs.set j x')))->opsW P M K r ρ w'):opsW P M K (⟨none,.store t x y,ty,pos,af,none⟩::r) ρ w:=by
 refine mj rfl ?_;obtain⟨i,hi,c⟩:=O'.nB.ok;simp only[c]at h;have q:T.sz=1:=by rw[<-T.ok x',he];rfl
 have S:v.cells=#[v]:=by cases v<;>first|rfl|(simp[Value.oneCell']at hv)
 have h1:T.enc x'=(T.enc (xs.getD j T.dflt)).set 0 v:=by
  rw[he];have:=T.ok (xs.getD j T.dflt);rw[q]at this
  match h2:T.enc (xs.getD j T.dflt),this with
  | [u],_=>rfl
 obtain⟨w',hr,hs,j'⟩:=MH (P:=P) (k:=0) hv Y hi hj U h1;exact By hx V (fun w=>by rw[S];exact C.plain.2 w) (by rw[S];simpa [Addr.add] using hr) (h _ hs)
def Ñ {j:Nat}{e:TypeId}{v:Value}{x':α}{put:HP->List HP}[C:cA P t](hx:bh ρ x=.pointer (some (iZ T s j)))(hy:bh ρ y=v)(hv:v.oneCell'=true)(Y:Z w0 w Γ)(O':iP Γ s α T e xs put)(hj:j<xs.length)(he:T.enc x'=[v])
  (h:∀ w',Z w0 w' (put (X T e s (xs.set j x')))->qj w w'->opsW P M K r ρ w'):opsW P M K (⟨none,.store t x y,ty,pos,af,none⟩::r) ρ w:=by
 refine mj rfl ?_;obtain⟨i,hi,c⟩:=O'.nB.ok;simp only[c]at h;have q:T.sz=1:=by rw[<-T.ok x',he];rfl
 have V:v.cells=#[v]:=by cases v<;>first|rfl|(simp[Value.oneCell']at hv)
 have h1:T.enc x'=(T.enc (xs.getD j T.dflt)).set 0 v:=by
  rw[he];have:=T.ok (xs.getD j T.dflt);rw[q]at this
  match S:T.enc (xs.getD j T.dflt),this with
  | [u],_=>rfl
 obtain⟨w',hr,hs,S⟩:=MH (P:=P) (k:=0) hv Y hi hj U h1;exact By hx hy (fun w=>by rw[V];exact C.plain.2 w) (by rw[V];simpa [Addr.add] using hr) (h _ hs S)
def YS {j k:Nat}{e:TypeId}{v:Value}{x':α}{put:HP->List HP}[C:cA P t](hx:bh ρ x=.pointer (some ((iZ T s j).add k)))(S:bh ρ y=v)(hv:v.oneCell'=true)(Y:Z w0 w Γ)(V:iP Γ s α T e xs put)(hj:j<xs.length)(hk:k<T.sz)(he:T.enc x'=(T.enc (xs.getD j T.dflt)).set k v)
  (h:∀ w',Z w0 w' (put (X T e s (xs.set j x')))->opsW P M K r ρ w'):opsW P M K (⟨none,.store t x y,ty,pos,af,none⟩::r) ρ w:=by
 refine mj rfl ?_;obtain⟨i,hi,c⟩:=V.nB.ok;simp only[c]at h;have q:v.cells=#[v]:=by cases v<;>first|rfl|(simp[Value.oneCell']at hv)
 obtain⟨w',hr,hs,j'⟩:=MH (P:=P) hv Y hi hj hk he;exact By hx S (fun w=>by rw[q];exact C.plain.2 w) (by rw[q];exact hr) (h _ hs)
end
end
end
section
open Go.RowKit (Below)
section
variable {P:Program}{Q:Exit->Fr->World->Prop}{ρ:Fr}{w w0:World}{Γ:List HP}
def w6 {a b:Code}(h:vc P a (Thn (vc P b Q) Q) ρ w):vc P (.seq a b) Q ρ w:=h
def IN (h:Q .normal ρ w):vc P .skip Q ρ w:=h
def IP (h:Q (.exit i) ρ w):vc P (.exit i) Q ρ w:=h
def IQ (h:Q .ret ρ w):vc P .ret Q ρ w:=h
def DL {c:Code}(h:vc P c (Blk i Q) ρ w):vc P (.block i c) Q ρ w:=h
def Ă {c:Operand}{x y:Code}{t:Bool}(q:bh ρ c=.bool t)(h1:t=true->vc P x Q ρ w)(C:t=false->vc P y Q ρ w):vc P (.cond c x y) Q ρ w:=⟨t,q,h1,C⟩
def ă {c:Operand}{x y:Code}(q:bh ρ c=.bool true)(h1:vc P x Q ρ w):vc P (.cond c x y) Q ρ w:=⟨true,q,fun _=>h1,fun h=>by cases h⟩
def Ą {c:Operand}{x y:Code}(q:bh ρ c=.bool false)(h1:vc P y Q ρ w):vc P (.cond c x y) Q ρ w:=⟨false,q,fun h=>(by cases h),fun _=>h1⟩
def ve (h:opsW P l.toArray (Q .normal) l ρ w):vc P (.region i l.toArray false) Q ρ w:=h
def ą (Y:Z w0 w Γ)(c:sA P l.toArray=true)(h:∀ w',Z w0 w' Γ->opsW P l.toArray (Q .normal) l ρ w'):vc P (.region i l.toArray true) Q ρ w :=
 .inl ⟨c,h _ Y.drew⟩
def pl:List Nat->List cV->List cV
 | [],l=>l
 | n::a,l=>.op n::pl a l
def PT.s:List Nat->PT->PT
 | [],t=>t
 | n::a,t=>.step n [.op n] (PT.s a t)
def PT.c (n:Nat)(l:List Nat)(t:PT):PT:=.step n (.op n::l.map .cY) t
def PT.d (n:Nat)(l:List Nat)(t m:PT):PT:=.CK n (.op n::l.map .cY) t m
def gi (is:List cV)(Y:Z w0 w Γ)(c:ri P l.toArray is=true)(h:∀ w',Z w0 w' Γ->opsD P l.toArray (Q .normal) is ρ w'):vc P (.region i l.toArray true) Q ρ w :=
 .inr (.inl ⟨is,c,h _ Y.drew⟩)
def u7 (T:PT)(Y:Z w0 w Γ)(c:ux P l.toArray=true)(q:kF P l.toArray [] [] T=true)(h:∀ w',Z w0 w' Γ->kT P l.toArray (Q .normal) T ρ w'):vc P (.region i l.toArray true) Q ρ w :=
 .inr (.inr ⟨T,c,q,h _ Y.drew⟩)
def IS {M:Array Oper}{K:Fr->World->Prop}(h:opsD P M K is ρ w):kT P M K (.jz is) ρ w:=h
def IT {M:Array Oper}{K:Fr->World->Prop}{t:PT}(h:opsD P M (kT P M K t) is ρ w):kT P M K (.step i is t) ρ w:=h
def jl {M:Array Oper}{K:Fr->World->Prop}{t m:PT}(h:opsD P M (kT P M K t) is ρ w)(hm:kT P M K m ρ w):kT P M K (.CK i is t m) ρ w:=⟨h,hm⟩
def pP {M:Array Oper}{K:Fr->World->Prop}:kT P M K .stop ρ w:=trivial
def FW {M:Array Oper}{K:Fr->World->Prop}(h:K ρ w):opsD P M K [] ρ w:=h
def Bz {K:Fr->World->Prop}{r:List cV}{o:Oper}(h:opsW P l.toArray (opsD P l.toArray K r) [o] ρ w)(c:l[i]? = some o:=by exact rfl):opsD P l.toArray K (.op i::r) ρ w:=by
 have:(l.toArray)[i]? = some o:=by simpa using c
 simp only[opsD,this];exact h
def MJ {K:Fr->World->Prop}{r:List cV}{d:Nat}{op:Op}{ty:TypeId}{pos:String}{af:Array Edge}{v:Value}(c:l[i]? = some ⟨some d,op,ty,pos,af,none⟩)(hv:ReadV P ⟨some d,op,ty,pos,af,none⟩ ρ w v)(he:ρ d=v)(h:opsD P l.toArray K r ρ w):opsD P l.toArray K (.cY i::r) ρ w:=by
 have:(l.toArray)[i]? = some ⟨some d,op,ty,pos,af,none⟩:=by simpa using c
 simp only[opsD,this];refine⟨fun C q=>?_,h⟩;cases q;rw[he];exact hv
def MK {K:Fr->World->Prop}{r:List cV}{d:Nat}{op:Op}{ty:TypeId}{pos:String}{af:Array Edge}{v:Value}{j:Nat}{want:Bool}(c:l[i]? = some ⟨some d,op,ty,pos,af,some (j,want)⟩)(hv:ik l.toArray ρ (j,want)=true->ReadV P ⟨some d,op,ty,pos,af,none⟩ ρ w v/\ρ d=v)(h:opsD P l.toArray K r ρ w):opsD P l.toArray K (.cY i::r) ρ w:=by
 have:(l.toArray)[i]? = some ⟨some d,op,ty,pos,af,some (j,want)⟩:=by simpa using c
 simp only[opsD,this];refine⟨fun I S q=>?_,h⟩;cases q;obtain⟨h1,C⟩:=hv I;rw[C];exact h1
def D6 (h:N ρ w):Thn N Q .normal ρ w:=h
def IU (h:Q (.exit i) ρ w):Thn N Q (.exit i) ρ w:=h
def IV (h:Q .ret ρ w):Thn N Q .ret ρ w:=h
def IW (h:Q .normal ρ w):Blk i Q .normal ρ w:=h
def IX (h:Q .ret ρ w):Blk i Q .ret ρ w:=h
def IY (h:Q .normal ρ w):Blk i Q (.exit i) ρ w:=by simp only[Blk,if_true];exact h
def Ć {j:Nat}(c:Nat.beq i j=false)(h:Q (.exit i) ρ w):Blk j Q (.exit i) ρ w:=by
 have:i≠j:=fun e=>by subst e;simp at c
 simp only[Blk,aM this];exact h
def el:List Nat->Nat->Bool
 | a::b::l,t=>(ble a t && ble t b) || el l t
 | _,_=>false
def IZ (a b:Nat):List Nat->Bool
 | c::d::l=>(ble c a && ble b d) || IZ a b l
 | _=>false
def I0:List Nat->List Nat->Bool
 | a::b::l,W_=>IZ a b W_ && I0 l W_
 | _,_=>true
def SO {a b t:Nat}(h1:ble a t=true)(h2:ble t b=true):∀ {W_:List Nat},IZ a b W_=true->el W_ t=true
 | [],h=>by cases h
 | [_],h=>by cases h
 | c::d::l,h=>by
  simp only[IZ,sL,Bool.and_eq_true]at h;simp only[el,sL,Bool.and_eq_true];rcases h with ⟨x,y⟩|h
  ·exact .inl ⟨ble_eq_true_of_le (rN (fP x) (fP h1)),ble_eq_true_of_le (rN (fP h2) (fP y))⟩
  exact .inr (SO h1 h2 h)
def SP {t:Nat}{W_:List Nat}:∀ {V:List Nat},I0 V W_=true->el V t=true->el W_ t=true
 | [],_,h=>by cases h
 | [_],_,h=>by cases h
 | a::b::l,c,h=>by
  simp only[I0,Bool.and_eq_true]at c;simp only[el,sL,Bool.and_eq_true]at h;rcases h with ⟨x,y⟩|h
  ·exact SO x y c.1
  exact SP c.2 h
def mN (W_:List Nat)(c ρ:Fr):Fr:=fun t=>bif el W_ t then c t else ρ t
def ta (ρ:Fr):List (Nat × Value)->Fr
 | []=>ρ
 | (d,v)::l=>fQ (ta ρ l) d v
def jf (W_:List Nat)(ρ ρ0:Fr):Prop:=∀ t,el W_ t=false->ρ t=ρ0 t
def Holds (ρ:Fr):List (Nat × Value)->Prop
 | []=>True
 | (d,v)::l=>ρ d=v/\Holds ρ l
def SQ:jf W_ ρ ρ:=fun _ _=>rfl
def SR {d:Nat}{v:Value}(q:el W_ d=true)(h:jf W_ ρ ρ0):jf W_ (fQ ρ d v) ρ0:=by
 intro t c;have:Nat.beq t d=false:=by
  cases C:Nat.beq t d with
  | false=>rfl
  | true=>have:=Mg C;subst this;rw[q]at c;cases c
 simp only[fQ,this,cond_false];exact h t c
def ć {c:List Nat}{C:Fr}(S:I0 c W_=true)(h:jf W_ ρ ρ0):jf W_ (mN c C ρ) ρ0:=by
 intro t q;have:el c t=false:=by
  cases V:el c t with
  | false=>rfl
  | true=>rw[SP S V]at q;cases q
 simp only[mN,this,cond_false];exact h t q
def SS {W_:List Nat}{ρ0:Fr}:∀ {l:List (Nat × Value)},l.all (fun p=>el W_ p.1)=true->jf W_ ρ ρ0->jf W_ (ta ρ l) ρ0
 | [],_,h=>h
 | (d,v)::l,c,h=>by
  simp only[fo,Bool.and_eq_true]at c;exact SR c.1 (SS c.2 h)
def SU:∀ {l:List (Nat × Value)},Holds ρ l->jf W_ ρ ρ0->l.all (fun p=>el W_ p.1)=true->ta (mN W_ ρ ρ0) l=ρ:=by
 intro l q C V;have S:mN W_ ρ ρ0=ρ:=by
  funext t
  simp only[mN]
  cases c:el W_ t with
  | true=>rfl
  | false=>exact(C t c).symm
 rw[S];clear V S C
 induction l with
 | nil=>rfl
 | cons p l ih =>
  obtain⟨d,v⟩:=p;simp only[ta,ih q.2]
  funext t
  simp only[fQ]
  cases c:Nat.beq t d with
  | false=>rfl
  | true=>have:=Mg c;subst this;exact q.1.symm
def de {c:Code}(W_:List Nat){G:Type}(V:G->List (Nat × Value))(q:G->World->Prop)(μ:G->Nat)(g0:G)
  (hV:∀ g,(V g).all (fun p=>el W_ p.1)=true)(h0:Holds ρ (V g0))(hj:q g0 w)
  (hr:∀ σ g w,q g w->vc P c (Thn (fun C w'=>∃ S,Holds C (V S)/\jf W_ C ρ/\q S w'/\μ S<μ g) Q) (ta (mN W_ σ ρ) (V g)) w):vc P (.loop c) Q ρ w:=by
 refine⟨fun m C w'=>∃ g,μ g=m/\Holds C (V g)/\jf W_ C ρ/\q g w',⟨μ g0,g0,rfl,h0,SQ,hj⟩,?_⟩;rintro m C w' ⟨g,rfl,hh,ha,hj⟩;have:=hr C g w' hj;rw[SU hh ha (hV g)]at this;refine lh this fun e j' w2 hq=>?_
 cases e with
 | normal=>obtain⟨S,h1,h2,h3,h4⟩:=hq;exact⟨μ S,h4,S,rfl,h1,h2,h3⟩
 | _=>exact hq
where
 lh:∀ {c:Code}{Q S:Exit->Fr->World->Prop}{ρ:Fr}{w:World},vc P c Q ρ w->(∀ e ρ w,Q e ρ w->S e ρ w)->vc P c S ρ w:=by
  intro c;have j':∀ (M:Array Oper) (l:List Oper) {K K':Fr->World->Prop},(∀ ρ w,K ρ w->K' ρ w)->∀ {ρ:Fr}{w:World},opsW P M K l ρ w->opsW P M K' l ρ w:=by
   intro M l K K' hk
   induction l with
   | nil=>intro ρ w h;exact hk _ _ h
   | cons o r C =>
    intro ρ w h;have hv:∀ {ρ w},opV P o ρ w (opsW P M K r)->opV P o ρ w (opsW P M K' r):=by
     intro ρ w h;unfold opV at *
     split at h
     ·obtain⟨v,h1,h2⟩:=h;exact⟨v,h1,C h2⟩
     ·obtain⟨v,h1,h2⟩:=h;exact⟨v,h1,C h2⟩
     exact wq (fun v w' hh=>C hh) h
    simp only[opsW]at h ⊢;split
    ·rename_i I;simp only[I]at h;exact hv h
    rename_i g I;simp only[I]at h;exact⟨fun h1=>hv (h.1 h1),fun h1=>C (h.2 h1)⟩
  induction c with
  | skip=>intro Q S ρ w h hq;exact hq _ _ _ h
  | label l=>intro Q S ρ w h hq;exact hq _ _ _ h
  | exit i=>intro Q S ρ w h hq;exact hq _ _ _ h
  | ret=>intro Q S ρ w h hq;exact hq _ _ _ h
  | seq a b H' J' =>
   intro Q S ρ w h hq;refine H' (Q:=Thn (vc P b Q) Q) h fun e ρ w he=>?_
   cases e with
   | normal=>exact J' he hq
   | _=>exact hq _ _ _ he
  | cond c x y P' R' =>
   intro Q S ρ w h hq;obtain⟨t,ht,h1,h0⟩:=h
   exact⟨t,ht,fun h=>P' (h1 h) hq,fun h=>R' (h0 h) hq⟩
  | block i c C =>
   intro Q S ρ w h hq;refine C (Q:=Blk i Q) h fun e ρ w he=>?_
   cases e with
   | exit j =>
    simp only[Blk]at he ⊢;split
    ·rename_i hj;rw[ba hj]at he;exact hq _ _ _ he
    rename_i hj;rw[aM hj]at he;exact hq _ _ _ he
   | _=>exact hq _ _ _ he
  | loop c C =>
   intro Q S ρ w h hq;obtain⟨I',hm,hr⟩:=h;refine⟨I',hm,fun m ρ w hI=>C (hr m ρ w hI) fun e ρ w he=>?_⟩
   cases e with
   | normal=>exact he
   | _=>exact hq _ _ _ he
  | region i M draw =>
   intro Q S ρ w h hq
   cases draw with
   | false=>exact j' M _ (fun ρ w h=>hq _ _ _ h) h
   | true =>
    have hD:∀ (is:List cV) {K K':Fr->World->Prop},(∀ ρ w,K ρ w->K' ρ w)->∀ {ρ:Fr}{w:World},opsD P M K is ρ w->opsD P M K' is ρ w:=by
     intro is K K' hk
     induction is with
     | nil=>intro ρ w h;exact hk _ _ h
     | cons x r C =>
      intro ρ w h
      cases x with
      | op i =>
       simp only[opsD]at h ⊢;split
       ·rename_i o ho;rw[ho]at h;exact j' M _ (fun ρ w h=>C h) h
       rename_i ho;rw[ho]at h;exact h
      | cY i=>simp only[opsD]at h ⊢;exact⟨h.1,C h.2⟩
    have hT:∀ (T:PT) {ρ:Fr}{w:World},kT P M (Q .normal) T ρ w->kT P M (S .normal) T ρ w:=by
     intro T
     induction T with
     | jz is=>intro ρ w h;exact hD is (fun ρ w h=>hq _ _ _ h) h
     | step i is t C=>intro ρ w h;exact hD is (fun ρ w h=>C h) h
     | CK i is t m C T'=>intro ρ w h;exact⟨hD is (fun ρ w h=>C h) h.1,T' h.2⟩
     | stop=>intro ρ w _;trivial
    rcases h with h|⟨is,hp,h⟩|⟨T,hb,ht,h⟩
    ·exact .inl ⟨h.1,j' M _ (fun ρ w h=>hq _ _ _ h) h.2⟩
    ·exact .inr (.inl ⟨is,hp,hD is (fun ρ w h=>hq _ _ _ h) h⟩)
    exact .inr (.inr ⟨T,hb,ht,hT T h⟩)
  | _=>intro Q S ρ w h hq;exact h.elim
def lh {c:Code}{Q q:Exit->Fr->World->Prop}{ρ:Fr}{w:World}(h:vc P c Q ρ w)(hq:∀ e ρ w,Q e ρ w->q e ρ w):vc P c q ρ w:=de.lh h hq
def dP {c:Code}(W_:List Nat){G:Type}(V:G->H->List (Nat × Value))(q:G->H->World->Prop)(μ:G->H->Nat)(g0:G)(C:H)(hV:∀ g h,(V g h).all (fun p=>el W_ p.1)=true)(h0:Holds ρ (V g0 C))(hj:q g0 C w)(hr:∀ σ g h w,q g h w->vc P c (Thn (fun S w'=>∃ g' h',Holds S (V g' h')/\jf W_ S ρ/\q g' h' w'/\μ g' h'<μ g h) Q) (ta (mN W_ σ ρ) (V g h)) w):vc P (.loop c) Q ρ w:=by
 refine de W_ (G:=G × H) (fun x=>V x.1 x.2) (fun x=>q x.1 x.2) (fun x=>μ x.1 x.2) (g0,C) (fun x=>hV _ _) h0 hj fun σ x w hx=>lh (hr σ x.1 x.2 w hx) fun e ρ w he=>?_
 cases e with
 | normal=>obtain⟨g',h',he⟩:=he;exact⟨(g',h'),he⟩
 | _=>exact he
def pu {c:Code}(W_:List Nat){G I':Type}(V:G->H->I'->List (Nat × Value))(q:G->H->I'->World->Prop)(μ:G->H->I'->Nat)(g0:G)(C:H)(i0:I')(hV:∀ g h i,(V g h i).all (fun p=>el W_ p.1)=true)(h0:Holds ρ (V g0 C i0))(hj:q g0 C i0 w)(hr:∀ σ g h i w,q g h i w->vc P c (Thn (fun S w'=>∃ g' h' i',Holds S (V g' h' i')/\jf W_ S ρ/\q g' h' i' w'/\μ g' h' i'<μ g h i) Q) (ta (mN W_ σ ρ) (V g h i)) w):vc P (.loop c) Q ρ w:=by
 refine de W_ (G:=G × H × I') (fun x=>V x.1 x.2.1 x.2.2) (fun x=>q x.1 x.2.1 x.2.2) (fun x=>μ x.1 x.2.1 x.2.2) (g0,C,i0) (fun x=>hV _ _ _) h0 hj fun σ x w hx=>lh (hr σ x.1 x.2.1 x.2.2 w hx) fun e ρ w he=>?_
 cases e with
 | normal=>obtain⟨g',h',i',he⟩:=he;exact⟨(g',h',i'),he⟩
 | _=>exact he
def zw {c:Code}(W_:List Nat){G I' M':Type}(V:G->H->I'->M'->List (Nat × Value))(q:G->H->I'->M'->World->Prop)(μ:G->H->I'->M'->Nat)(g0:G)(C:H)(i0:I')(m0:M')(hV:∀ g h i m,(V g h i m).all (fun p=>el W_ p.1)=true)(h0:Holds ρ (V g0 C i0 m0))(hj:q g0 C i0 m0 w)(hr:∀ σ g h i m w,q g h i m w->vc P c (Thn (fun S w'=>∃ g' h' i' m',Holds S (V g' h' i' m')/\jf W_ S ρ/\q g' h' i' m' w'/\μ g' h' i' m'<μ g h i m) Q) (ta (mN W_ σ ρ) (V g h i m)) w):vc P (.loop c) Q ρ w:=by
 refine de W_ (G:=G × H × I' × M') (fun x=>V x.1 x.2.1 x.2.2.1 x.2.2.2) (fun x=>q x.1 x.2.1 x.2.2.1 x.2.2.2) (fun x=>μ x.1 x.2.1 x.2.2.1 x.2.2.2) (g0,C,i0,m0) (fun x=>hV _ _ _ _) h0 hj fun σ x w hx=>lh (hr σ x.1 x.2.1 x.2.2.1 x.2.2.2 w hx) fun e ρ w he=>?_
 cases e with
 | normal=>obtain⟨g',h',i',m',he⟩:=he;exact⟨(g',h',i',m'),he⟩
 | _=>exact he
def rJ {c:Code}(W_:List Nat){G:Type}(V:G->List (Nat × Value))(q:G->World->Prop)(S:∀ g,(V g).all (fun p=>el W_ p.1)=true)(h1:vc P c (Thn (fun C w'=>∃ g,Holds C (V g)/\jf W_ C ρ/\q g w') Q) ρ w)(h2:∀ σ g w,q g w->N (ta (mN W_ σ ρ) (V g)) w):vc P c (Thn N Q) ρ w:=by
 refine lh h1 fun e C w' he=>?_
 cases e with
 | normal =>
  obtain⟨g,hh,ha,hj⟩:=he;have:=h2 C g w' hj;rw[SU hh ha (S g)]at this
  exact this
 | _=>exact he
def Ĉ {f:FuncId}{fn:Func}{c:Code}(q:P.funcs[f]? = some fn)(C:(fn.name == "runtime.NumGoroutine") = false)(S : fn.body = some c)(args : Array Value)(w : World) : (callFunc f args).run P w = .ok (.enter f args) w := by
 exact Go.MuLone.run_callFunc_enter q C S args w
def B3 (P:Program)(f:Nat):Bool:=match P.funcs[f]? with|some fn => !(fn.name == "runtime.NumGoroutine") && fn.body.isSome | none => false
class au (P:Program) (f:Nat):Prop where
 ok:B3 P f=true
def au.run {f:Nat}(h:au P f)(args:Array Value)(w:World):(callFunc f args).run P w=.ok (.enter f args) w:=by
 have h:=h.ok;simp only[B3]at h;split at h
 ·rename_i fn q
  simp only[Bool.and_eq_true,Aj,Option.isSome_iff_exists]at h;obtain⟨C,c,S⟩:=h;exact Ĉ q C S args w
 cases h
section
variable {M:Array Oper}{K:Fr->World->Prop}{r:List Oper}{d:Nat}{ty:TypeId}{pos:String}{af:Array Edge}
def aR {xs:List Operand}[C:au P f](hx:xs.map (bh ρ)=vs)(c:Calls P f vs.toArray w R)(h:∀ e w',R e w'->∃ v,e=.returned v/\opsW P M K r (fQ ρ d v) w'):opsW P M K (⟨some d,.call { callee:=.value (.func f),args:=xs.toArray,argTypes:=ts },ty,pos,af,none⟩::r) ρ w:=by
 refine mj rfl ?_;have q:(execOp (bh ρ) ⟨some d,.call { callee:=.value (.func f),args:=xs.toArray,argTypes:=ts },ty,pos,af,none⟩).run P w=.ok (.enter f vs.toArray) w:=by
  simp only[execOp,resolve,Deferred.ofValue,bh,fG,gU,fm,invoke];have:#[]++Array.map (bh ρ) xs.toArray++#[]=vs.toArray:=by simp[hx]
  rw[this,C.run]
 simp only[opW,q,cJ];refine wh c fun e w' S=>?_;obtain⟨v,rfl,hk⟩:=h e w' S;exact hk
def xK {x:Operand}{xs:List Operand}{cs:List Value}{dst:Option Nat}[C:au P f](c:bh ρ x=.func (.func f) #[] cs.toArray)(hx:xs.map (bh ρ)=vs)(q:Calls P f (vs++cs).toArray w R)(h:∀ e w',R e w'->∃ v,e=.returned v/\opsW P M K r (jq ρ dst v) w'):opsW P M K (⟨dst,.call { callee:=.value x,args:=xs.toArray,argTypes:=ts },ty,pos,af,none⟩::r) ρ w:=by
 refine mj rfl ?_;have S:(execOp (bh ρ) ⟨dst,.call { callee:=.value x,args:=xs.toArray,argTypes:=ts },ty,pos,af,none⟩).run P w=.ok (.enter f (vs++cs).toArray) w:=by
  simp only[execOp,resolve,fG,c,Deferred.ofValue,gU,fm,invoke];have:#[]++Array.map (bh ρ) xs.toArray++cs.toArray=(vs++cs).toArray:=by simp[hx]
  rw[this,C.run]
 simp only[opW,S,cJ];refine wh q fun e w' V=>?_;obtain⟨v,rfl,hk⟩:=h e w' V;exact hk
end
def bo {fn:Func}{R:Value->World->Prop}{s:Nat}{v:Value}(c:fn.results=#[.tmp s])(hv:ρ s=v)(h:R v w):mR P fn R .ret ρ w :=
 ⟨v,fun a q=>by
  have h1:a.tmps.getD s undef=v:=by rw[<-hv,<-q];rfl
  simp only[results,c,CJ,Ap,Ee,h1,bind_pure_comp,map_pure]
  rfl,h⟩
def dw {fn:Func}{R:Value->World->Prop}{s s':Nat}{v v':Value}(C:fn.results=#[.tmp s,.tmp s'])(hv:ρ s=v)(c:ρ s'=v')(h:R (.tuple #[v,v']) w):mR P fn R .ret ρ w :=
 ⟨.tuple #[v,v'],fun a q=>by
  have h1:a.tmps.getD s undef=v:=by rw[<-hv,<-q];rfl
  have S:a.tmps.getD s' undef=v':=by rw[<-c,<-q];rfl
  simp only[results,C,CJ,Ap,Ee,h1,S,bind_pure_comp,map_pure]
  rfl,h⟩
def LU {fn:Func}{R:Value->World->Prop}(c:fn.results=#[])(h:R (.tuple #[]) w):mR P fn R .ret ρ w :=
 ⟨.tuple #[],fun a q=>by simp[results,c],h⟩
def uK {fn:Func}{R:Value->World->Prop}(c:fn.results=#[])(h:R (.tuple #[]) w):mR P fn R .normal ρ w:=LU (P:=P) c h
end
def B4 (P:Program)(t:Nat):Bool:=match P.underlying t with|some .bool=>true|_=>false
class uy (P:Program) (t:Nat):Prop where
 ok:B4 P t=true
section
variable {P:Program}
def uy.iI {t:Nat}(h:uy P t):P.underlying t=some .bool:=by
 have h:=h.ok;unfold B4 at h;split at h
 ·assumption
 cases h
section
variable {M:Array Oper}{K:Fr->World->Prop}{r:List Oper}{ρ:Fr}{w w0:World}{d:Nat}{ty:TypeId}{pos:String}{af:Array Edge}{g:Option (Nat × Bool)}{dst:Option Nat}{x y z:Operand}{t t':TypeId}{Γ:List HP}
def SV {a b:Bool}[B:uy P t](hx:bh ρ x=.bool a)(c:bh ρ y=.bool b):PureV P ⟨dst,.binOp .eql t x y t',ty,pos,af,g⟩ ρ (.bool (a == b)):=fun w=>by
 simp[execOp,eqGuard,hx,c,run_eql_bool w t a b B.iI]
def SX {a b:Bool}[B:uy P t](hx:bh ρ x=.bool a)(c:bh ρ y=.bool b):PureV P ⟨dst,.binOp .neq t x y t',ty,pos,af,g⟩ ρ (.bool (!(a == b))):=fun w=>by
 simp[execOp,eqGuard,hx,c,run_neq_bool w t a b B.iI]
def SY {v:Value}[Q:fy P t](hx:bh ρ x=.iface t v):PureV P ⟨dst,.typeAssert x t' t true,ty,pos,af,g⟩ ρ (.tuple #[v,.bool true]):=fun w=>by
 obtain⟨c,q,C⟩:=Q.iI;simp only[execOp,Instr.typeAssert,fG,run_underlying q,fm,hx];cases c<;>first|exact absurd rfl (C _)|simp
def SZ {v:Value}[Q:fy P t](hx:bh ρ x=.iface t v):PureV P ⟨dst,.typeAssert x t' t false,ty,pos,af,g⟩ ρ v:=fun w=>by
 obtain⟨c,q,C⟩:=Q.iI;simp only[execOp,Instr.typeAssert,fG,run_underlying q,fm,hx];cases c<;>first|exact absurd rfl (C _)|simp
def S0 {f:FuncId}{xs:List Operand}(hx:xs.map (bh ρ)=vs):PureV P ⟨dst,.makeFunc (.func f) #[] xs.toArray,ty,pos,af,g⟩ ρ (.func (.func f) #[] vs.toArray):=fun w=>by
 simp[execOp,Instr.makeFunc,<-hx]
def S4 {k:IntKind}{a b:Int}(hx:bh ρ x=.int k a)(c:bh ρ y=.int k b):PureV P ⟨dst,.call { callee:=.builtin .min,args:=#[x,y],argTypes:=ts },ty,pos,af,g⟩ ρ (.int k (if b<a then b else a)):=fun w=>by
 simp[execOp,resolve,invoke,builtin,hx,c,run_min_int2]
def S5 {k:IntKind}{a b:Int}(hx:bh ρ x=.int k a)(c:bh ρ y=.int k b):PureV P ⟨dst,.call { callee:=.builtin .max,args:=#[x,y],argTypes:=ts },ty,pos,af,g⟩ ρ (.int k (if b>a then b else a)):=fun w=>by
 simp[execOp,resolve,invoke,builtin,hx,c,run_max_int2]
def S6 {parts:List (Nat × Operand)}{vs:List (Nat × Value)}{v:Value}(c:(parts.map fun p=>(p.1,bh ρ p.2))=vs)(hv:∀ w,(Instr.build t vs.toArray).run P w=.ok v w)(h:opsW P M K r (fQ ρ d v) w) :
  opsW P M K (⟨some d,.build t parts.toArray,ty,pos,af,none⟩::r) ρ w:=by
 refine mj rfl ?_;have:(Array.map (fun x:Nat × Operand=>match x with|(i,x)=>(i,bh ρ x)) parts.toArray)=vs.toArray:=by rw[<-c];simp
 simp only[opW,execOp,this,fG,hv,fm,gU,cJ];exact h
end
def wO (P:Program)(t:Nat):Option (List (Nat × Nat)):=match P.underlying t with|some (.struct c)=>c.toList.mapM (fun f=>(P.info? f.type).map fun i=>(f.offset,i.size))|_=>none
class bM (P:Program) (t:Nat) (places:outParam (List (Nat × Nat))):Prop where
 ok:wO P t=some places
def tm (P:Program)(t:Nat)(vs:List (Nat × Value)):Option (Array Value) :=
 match P.underlying t,(P.info? t).bind (·.zero) with
 | some (.struct c),some z=>(match c.toList.mapM (fun f=>(P.info? f.type).map fun i=>(f.offset,i.size)) with
   | some places=>Instr.fill (places[·]?) z.cells vs
   | none=>none)
 | _,_=>none
def ĉ {fs:List Field}{places:List (Nat × Nat)}(h:fs.mapM (fun f=>(P.info? f.type).map fun i=>(f.offset,i.size))=some places)(w:World) :
  (fs.mapM (fun f=>do pure (f.offset,<-sizeOf f.type):Field->Sem (Nat × Nat))).run P w=.ok places w:=by
 induction fs generalizing places with
 | nil=>simp at h;subst h;rfl
 | cons f fs q =>
  simp only[Ap]at h ⊢
  cases hi:P.info? f.type with
  | none=>simp[hi]at h
  | some i =>
   simp only[hi,vk,Mq,An]at h
   cases c:fs.mapM (fun f=>(P.info? f.type).map fun i=>(f.offset,i.size)) with
   | none=>simp[c]at h
   | some S =>
    simp only[c,An,Mr,Br]at h;subst h;have C:(sizeOf f.type).run P w=.ok i.size w:=by simp[sizeOf,typeInfo,hi]
    simp only[fG,C,fm,gU,q c]
def Ċ {t:Nat}{vs:List (Nat × Value)}(h:tm P t vs=some cs)(w:World):(Instr.build t vs.toArray).run P w=.ok (.agg cs) w:=by
 unfold tm at h;split at h
 ·rename_i q z C c
  split at h
  ·rename_i places S
   cases hi:P.info? t with
   | none=>simp[hi]at c
   | some i =>
    simp only[hi,An]at c;have h1:=ĉ (P:=P) S w;have V:(q.mapM (fun f=>do pure (f.offset,<-sizeOf f.type):Field->Sem (Nat × Nat))).run P w=.ok places.toArray w:=by
     rw[<-Iw (xs:=q),CJ];simp only[Sem.run_map,h1,fm]
    simp only[Instr.build,fG,zeroValue,typeInfo,run_program,fm,hi,gU,c,run_underlying C,V];have h3:(fun x:Nat=>(places.toArray)[x]?)=(fun x:Nat=>places[x]?):=by funext x;simp
    rw[h3,h];rfl
  cases h
 cases h
def ċ {t:Nat}{places:List (Nat × Nat)}{vs:List (Nat × Value)}(S:bM P t places)(V:bD P t zs)(h:Instr.fill (places[·]?) zs.toArray vs=some cs):tm P t vs=some cs:=by
 have c:=S.ok;have q:=V.ok;unfold wO at c;split at c
 ·rename_i fs hd
  cases hi:(P.info? t).bind (·.zero) with
  | none=>simp[hi]at q
  | some z =>
   simp only[hi,vk,Br]at q;have C:z.cells=zs.toArray:=by rw[<-q]
   simp only[tm,hd,hi,c,C];exact h
 cases c
section
variable {M:Array Oper}{K:Fr->World->Prop}{r:List Oper}{ρ:Fr}{w w0:World}{d:Nat}{ty:TypeId}{pos:String}{af:Array Edge}{x y z:Operand}{t t':TypeId}{Γ:List HP}{α:Type}
def S7 {parts:List (Nat × Operand)}{vs:List (Nat × Value)}{places:List (Nat × Nat)}[S:bM P t places][Z':bD P t zs](c:(parts.map fun p=>(p.1,bh ρ p.2))=vs)(q:Instr.fill (places[·]?) zs.toArray vs=some cs)(h:opsW P M K r (fQ ρ d (.agg cs)) w):opsW P M K (⟨some d,.build t parts.toArray,ty,pos,af,none⟩::r) ρ w :=
 S6 c (Ċ (ċ S Z' q)) h
def BA {T:Ty α}{e:TypeId}{xs:List α}{cells:Array Value}{cap:Nat}(q:cells.toList=xs.flatMap T.enc++replicate 0 undef)(C:xs.length=n)(S:n<=cn)(c:cap=n)(Y:Z w0 w Γ) :
  Z w0 (jO w (.cells cells e)) (X T e (.slice (some ⟨w.heap.size,0,none⟩) n cap) xs::Γ):=by
 refine Y.push ⟨.inr ⟨w.heap.size,0,n,cap,[],[],rfl,rfl,by rw[T.len,C],U,S,by simp[c],?_⟩,C⟩;simp at q;simp[<-q]
def S8:∀ (vs:List Value) (k off:Nat) (cs:List Value),off+k+vs.length<=cs.length ->
  (vs.zipIdx k).foldl (fun (cs:Array Value) (x:Value × Nat)=>cs.setIfInBounds (off+x.2) x.1) cs.toArray=(cs.take (off+k)++vs++cs.drop (off+k+vs.length)).toArray
 | [],k,off,cs,_=>sm
 | v::vs,k,off,cs,h=>by
  simp only[length_cons]at h;rw[zipIdx_cons,xe];have e:(cs.toArray.setIfInBounds (off+k) v)=(cs.set (off+k) v).toArray:=sm;simp only;rw[e,S8 vs (k+1) off _ (by simp;omega)];congr 1;rw[show off+(k+1)=off+k+1 from by omega,R6 (by simp;omega),Io U,drop_set_of_lt U];simp;congr 1;omega
def ML {pJ:Nat->Option (Nat × Nat)}{off size:Nat}{v:Value}{cs:List Value}{rest:List (Nat × Value)}(q:pJ i=some (off,size))(c:v.cells.size=size)(C:off+size<=cs.length) :
  Instr.fill pJ cs.toArray ((i,v)::rest)=Instr.fill pJ (cs.take off++v.cells.toList++cs.drop (off+size)).toArray rest:=by
 have h1:¬(v.cells.size≠size || off+v.cells.size>cs.toArray.size)=true:=by simp[c];omega
 rw[Instr.fill,q];simp only;rw[aM h1];congr 1;have:=S8 v.cells.toList 0 off cs (by simp[c];omega);rw[<-Array.foldl_toList];simp only[Array.toList_zipIdx];simp only[Ai,E7,c]at this;exact this
def I1 {sz:Nat}:∀ (vs:List Value) (k:Nat) (c rest:List Value),(∀ v∈vs,v.cells.size=sz)->c.length=k*sz->rest.length=vs.length*sz ->
  Instr.fill (fun i=>some (i*sz,sz)) (c++rest).toArray ((vs.zipIdx k).map fun x=>(x.2,x.1))=some (c++vs.flatMap (·.cells.toList)).toArray
 | [],k,c,rest,_,_,C=>by
  simp at C;subst C;simp[Instr.fill]
 | v::vs,k,c,rest,hv,S,C=>by
  have q:=hv v sm;simp only[length_cons,r8,x8]at C;rw[zipIdx_cons,pV,ML (off:=k*sz) (size:=sz) rfl q (by simp;omega)];have h1:(c++rest).take (k*sz)=c:=by rw[<-S];simp
  have V:(c++rest).drop (k*sz+sz)=rest.drop sz:=by rw[<-S,Am];simp
  rw[h1,V,I1 vs (k+1) (c++v.cells.toList) (rest.drop sz) (fun u hu=>hv u (by simp[hu])) (by simp[S,q,r8]) (by simp;omega)];simp[pA]
def D3 {T:Ty α}(xs:List α)(vs:List Value){e len:Nat}{parts:List (Nat × Operand)}[S:bw P t e sz by_][Z':bD P e zs](hp:(parts.map fun p=>(p.1,bh ρ p.2))=(vs.zipIdx 0).map fun x=>(x.2,x.1))(hx:vs.flatMap (·.cells.toList)=xs.flatMap T.enc)(c:vs.all (fun v=>v.cells.size == sz)=true)(hlen:vs.length=len)(q:xs.length=len)(J':len*sz<=16777216)(j':0<len*sz)(H':len<=16777216)(Y:Z w0 w Γ)(h:∀ s w',Z w0 w' (X T e s xs::Γ)->opsW P M K r (fQ ρ d s) w'):opsW P M K (⟨some d,.buildSlice t len parts.toArray,ty,pos,af,none⟩::r) ρ w:=by
 refine mj rfl ?_;obtain⟨zv,C,V⟩:=Z'.zero;have:(Array.map (fun x:Nat × Operand=>match x with|(i,x)=>(i,bh ρ x)) parts.toArray)=((vs.zipIdx 0).map fun x=>(x.2,x.1)).toArray:=by rw[<-hp];simp
 have h0:¬(len*sz=0):=U;have h1:¬(len*sz>2 ^ 24):=U;have hf:Instr.fill (fun i=>some (i*sz,sz)) ((Array.range (len*sz)).map (zs.toArray[· % zs.toArray.size]!)) ((vs.zipIdx 0).map fun x=>(x.2,x.1))=some (xs.flatMap T.enc).toArray:=by
  have:=I1 (sz:=sz) vs 0 [] ((Array.range (len*sz)).map (zs.toArray[· % zs.toArray.size]!)).toList (fun v hv=>by simpa using all_eq_true.1 c v hv) sm (by simp[hlen]);rw[hx]at this;simp only[lQ,Iw]at this;exact this
 simp only[opW,execOp,this,Instr.buildSlice,fG,run_underlying S.iI,fm,S.size,h1,if_false,h0,gU,V,C];rw[hf];simp only[fG,newRow,run_newObj,fm,gU,cJ];exact h _ _ (BA (e:=e) sm q (by unfold cn;omega) rfl Y)
def jA (T:Ty α){x1:α}{e:Nat}{v:Value}[S:bw P t e sz by_][Z':bD P e zs](C:bh ρ x=v)(hx:v.cells.toList=T.enc x1)(c:sz=T.sz)(V:sz<=16777216)(q:0<sz)(Y:Z w0 w Γ)(h:∀ s w',Z w0 w' (X T e s [x1]::Γ)->opsW P M K r (fQ ρ d s) w'):opsW P M K (⟨some d,.buildSlice t 1 #[(0,x)],ty,pos,af,none⟩::r) ρ w:=by
 have hs:v.cells.size=sz:=by
  have:=T.ok x1;rw[<-hx,<-c]at this
  simpa using this
 exact D3 (parts:=[(0,x)]) [x1] [v] (by simp[C]) (by simp[hx]) (by simp[hs]) rfl rfl U U U Y h
def mS (zs:List Value)(l:List (Nat × Value)):List Value:=l.foldl (fun cs p=>cs.set p.1 p.2) zs
def nV (places:List (Nat × Nat))(n:Nat):Bool:=decide (places=(List.range n).map fun i=>(i,1))
def S9 {places:List (Nat × Nat)}{n:Nat}(q:nV places n=true):∀ (l:List (Nat × Value)) (cs:List Value),cs.length=n->l.all (fun p=>decide (p.1<n) && p.2.oneCell')=true->Instr.fill (places[·]?) cs.toArray l=some (mS cs l).toArray
 | [],cs,_,_=>by simp[Instr.fill,mS]
 | (i,v)::l,cs,C,c=>by
  simp only[fo,Bool.and_eq_true,jV]at c;have hv:v.cells=#[v]:=by
   have:=c.1.2;cases v<;>first|rfl|(simp[Value.oneCell']at this)
  have S:places[i]? = some (i,1):=by
   have:=x5 q;rw[this];simp[c.1.1]
  rw[ML S (by rw[hv];rfl) U,hv];have e:cs.take i++#[v].toList++cs.drop (i+1)=cs.set i v:=by
   rw[FM,ba U];simp
  rw[e,S9 q l (cs.set i v) (by simpa using C) c.2];rfl
def mq {parts:List (Nat × Operand)}{vs:List (Nat × Value)}{places:List (Nat × Nat)}[S:bM P t places][Z':bD P t zs](c:(parts.map fun p=>(p.1,bh ρ p.2))=vs)(q:nV places zs.length=true)(hv:vs.all (fun p=>decide (p.1<zs.length) && p.2.oneCell')=true)(h:opsW P M K r (fQ ρ d (.agg (mS zs vs).toArray)) w):opsW P M K (⟨some d,.build t parts.toArray,ty,pos,af,none⟩::r) ρ w :=
 S7 c (S9 q vs zs rfl hv) h
def K8 {i1:Nat}{places:List (Nat × Nat)}[S:bM P t places][Z':bD P t zs](h1:bh ρ x1=v1)(c:nV places zs.length=true)(hv:[(i1,v1)].all (fun p=>decide (p.1<zs.length) && p.2.oneCell')=true)(h:opsW P M K r (fQ ρ d (.agg (mS zs [(i1,v1)]).toArray)) w):opsW P M K (⟨some d,.build t #[(i1,x1)],ty,pos,af,none⟩::r) ρ w:=mq (parts:=[(i1,x1)]) (by simp[h1]) c hv h
def zr {i1 i2:Nat}{v2:Value}{places:List (Nat × Nat)}[S:bM P t places][Z':bD P t zs](h1:bh ρ x1=v1)(h2:bh ρ x2=v2)(c:nV places zs.length=true)(hv:[(i1,v1),(i2,v2)].all (fun p=>decide (p.1<zs.length) && p.2.oneCell')=true)(h:opsW P M K r (fQ ρ d (.agg (mS zs [(i1,v1),(i2,v2)]).toArray)) w):opsW P M K (⟨some d,.build t #[(i1,x1),(i2,x2)],ty,pos,af,none⟩::r) ρ w:=mq (parts:=[(i1,x1),(i2,x2)]) (by simp[h1,h2]) c hv h
def Cy {i1 i2 i3:Nat}{v2 v3:Value}{places:List (Nat × Nat)}[S:bM P t places][Z':bD P t zs](h1:bh ρ x1=v1)(h2:bh ρ x2=v2)(c:bh ρ x3=v3)(q:nV places zs.length=true)(hv:[(i1,v1),(i2,v2),(i3,v3)].all (fun p=>decide (p.1<zs.length) && p.2.oneCell')=true)(h:opsW P M K r (fQ ρ d (.agg (mS zs [(i1,v1),(i2,v2),(i3,v3)]).toArray)) w):opsW P M K (⟨some d,.build t #[(i1,x1),(i2,x2),(i3,x3)],ty,pos,af,none⟩::r) ρ w:=mq (parts:=[(i1,x1),(i2,x2),(i3,x3)]) (by simp[h1,h2,c]) q hv h
def Č {i1 i2 i3 i4:Nat}{c:Operand}{v2 v3 v4:Value}{places:List (Nat × Nat)}[S:bM P t places][Z':bD P t zs](h1:bh ρ x1=v1)(h2:bh ρ x2=v2)(q:bh ρ x3=v3)(C:bh ρ c=v4)(V:nV places zs.length=true)(hv:[(i1,v1),(i2,v2),(i3,v3),(i4,v4)].all (fun p=>decide (p.1<zs.length) && p.2.oneCell')=true)(h:opsW P M K r (fQ ρ d (.agg (mS zs [(i1,v1),(i2,v2),(i3,v3),(i4,v4)]).toArray)) w):opsW P M K (⟨some d,.build t #[(i1,x1),(i2,x2),(i3,x3),(i4,c)],ty,pos,af,none⟩::r) ρ w:=mq (parts:=[(i1,x1),(i2,x2),(i3,x3),(i4,c)]) (by simp[h1,h2,q,C]) V hv h
def MM {T:Ty α}{z:α}(S:T.enc z=zs)(n:Nat):((Array.range (n*T.sz)).map (zs.toArray[· % zs.toArray.size]!)).toList=(replicate n z).flatMap T.enc:=by
 have V:zs.length=T.sz:=by rw[<-S];exact T.ok z
 apply Al;intro i;by_cases hi:i<n*T.sz
 ·have C:0<T.sz:=by
   rcases wg T.sz with h|h
   ·rw[h]at hi;simp at hi
   exact h
  have hq:i / T.sz<n:=(div_lt_iff_lt_mul C).2 hi;have c:i % T.sz<T.sz:=DZ _ C;have q:i=i / T.sz*T.sz+i % T.sz:=by rw[Iz];exact(div_add_mod i T.sz).symm
  have h1:=T.get (replicate n z) (i / T.sz) (i % T.sz) (by simpa using hq) c;rw[<-q]at h1;rw[h1];have h2:(replicate n z).getD (i / T.sz) T.dflt=z:=by simp[List.getD,hq]
  rw[h2,S];have j':i % zs.length<zs.length:=by rw[V];exact c
  simp[hi,V,c]
 rw[xS (by simp;omega),xS (by rw[T.len];simp;omega)]
def Ct (T:Ty α)(z:α){e:Nat}{n:Int}[S:bw P t e sz by_][Z':bD P e zs](hx:bh ρ x=E n)(hy:bh ρ y=E n)(V:sz=T.sz)(hz:T.enc z=zs)(h0:0<=n)(hb:by_*n<=281474976710656)(hn:n<=281474976710656)(Y:Z w0 w Γ)(h:∀ s w',Z w0 w' (X T e s (replicate n.toNat z)::Γ)->opsW P M K r (fQ ρ d s) w'):opsW P M K (⟨some d,.makeSlice t x y,ty,pos,af,none⟩::r) ρ w:=by
 refine mj rfl ?_;subst V;obtain⟨zv,j',H'⟩:=Z'.zero;obtain⟨i,hi,hs,J'⟩:=S.vH;have P':IntKind.i64.wrap n=n:=Aq U U;have h1:¬(n<0):=U;have h2:¬(281474976710656<(by_:Int)*n):=U;have C:((n<0 || (i.bytes:Int)*n>2 ^ 48) || n<0 || n>n)=false:=by simp[J'];omega
 simp only[opW,execOp,hx,hy,Instr.makeSlice,fG,run_underlying S.iI,fm,asInt,asIntOf,gU,typeInfo,run_program,hi,P',C,Ea,if_false,run_askRoom,S.size];have c:∀ (z0:Array Value),(n.toNat*T.sz=0\/z0=zs.toArray)->((Array.range (n.toNat*T.sz)).map (z0[· % z0.size]!)).toList=(replicate n.toNat z).flatMap T.enc:=by
  intro z0 h;rcases h with h|h
  ·rw[h]
   have:((replicate n.toNat z).flatMap T.enc).length=0:=by rw[T.len];simpa using h
   rw[qD this];simp
  rw[h];exact MM hz n.toNat
 by_cases q:n.toNat*T.sz=0
 ·simp only[q,if_true,gU,fm,newRow,fG,run_newObj,cJ]
  have:=c #[] (.inl q);rw[q]at this;exact h _ _ (BA (T:=T) (e:=e) (by rw[this];simp) sm (by unfold cn;omega) rfl Y)
 simp only[q,if_false,fG,H',gU,fm,newRow,run_newObj,cJ,j'];exact h _ _ (BA (T:=T) (e:=e) (by rw[c _ (.inr rfl)];simp) sm (by unfold cn;omega) rfl Y)
end
end
section
variable {P:Program}
@[irreducible] def cL (ss:List Value)(i:Nat):Value:=ss.getD i undef
def qL (ss:List Value)(i:Nat):cL ss i=ss.getD i undef:=by unfold cL;rfl
def Ep {ρ:Fr}{w:World}{ty:TypeId}{pos:String}{af:Array Edge}{g:Option (Nat × Bool)}{dst:Option Nat}{x:Operand}{t:TypeId}{s:Value}{xs:List Value}[C:cA P t](hx:bh ρ x=.pointer (some (iZ aA s i)))(h:RS aA w s xs)(hi:i<xs.length):ReadV P ⟨dst,.load t x,ty,pos,af,g⟩ ρ w (cL xs i) :=
 Em hx h hi (by rw[qL];rfl)
def ssub (s:Value)(sz lo hi:Nat):Value:=match s with
 | .slice a _ cap=>.slice (if cap=lo then a else a.map (·.add (lo*sz))) (hi-lo) (cap-lo)
 | v=>v
def cut {α:Type}(xs:List α)(lo hi:Nat):List α:=(xs.take hi).drop lo
def Ar {α:Type}{xs:List α}(h:hi<=xs.length):(cut xs lo hi).length=hi-lo:=by simp[cut];omega
def Ty.drop {α:Type}(T:Ty α):∀ (xs:List α) (k:Nat),(xs.flatMap T.enc).drop (k*T.sz)=(xs.drop k).flatMap T.enc
 | xs,0=>sm
 | [],k+1=>sm
 | x::xs,k+1=>by
  have h:=T.ok x;have c:=T.drop xs k;rw[drop_succ_cons,pA,<-c,Am,oG (by rw[h,r8];omega),h];simp only[lQ];congr 1;rw[r8];omega
def Ty.take {α:Type}(T:Ty α):∀ (xs:List α) (k:Nat),(xs.flatMap T.enc).take (k*T.sz)=(xs.take k).flatMap T.enc
 | xs,0=>sm
 | [],k+1=>sm
 | x::xs,k+1=>by
  have h:=T.ok x;have c:=T.take xs k;rw[Md,pA,pA,<-c,FG,io (by rw[h,r8];omega),h];congr 2;rw[r8];omega
def Ty.cut {α:Type}(T:Ty α)(xs:List α)(lo hi:Nat):Sl.cut (xs.flatMap T.enc) (lo*T.sz) (hi*T.sz)=(Sl.cut xs lo hi).flatMap T.enc:=by
 simp only[Sl.cut,T.take,T.drop]
def Ac {b off k:Nat}:(⟨b,off,none⟩:Addr).add k=⟨b,off+k,none⟩:=by unfold Addr.add;split<;>simp_all
def I2 (h:p.spot=none)(k:Nat):p.add k=⟨p.block,p.off+k,none⟩:=by
 obtain⟨b,off,sp⟩:=p;simp only at h;subst h;exact Ac
def č {s:Value}{e:TypeId}(ho:Own s e sz vs h)(h1:lo<=hi)(h2:hi<=eZ s):Own (ssub s sz lo hi) e sz (cut vs (lo*sz) (hi*sz)) h:=by
 rcases ho with ⟨rfl,rfl⟩|⟨b,off,n,cap,pre,post,rfl,q,hlen,H',j',S,hb⟩
 ·simp only[eZ]at h2
  have:lo=0:=U;have:hi=0:=U;subst lo hi;left;simp[ssub,cut]
 simp only[eZ]at h2;right;have J':lo*sz<=hi*sz:=wm _ h1;have P':hi*sz<=n*sz:=wm _ h2;have C:(cut vs (lo*sz) (hi*sz)).length=(hi-lo)*sz:=by rw[Ar U,FF]
 have c:vs=vs.take (lo*sz)++cut vs (lo*sz) (hi*sz)++vs.drop (hi*sz):=by
  have V:vs.take (lo*sz)=(vs.take (hi*sz)).take (lo*sz):=by rw[take_take];congr 1;omega
  rw[V];simp only[cut,Ak]
 by_cases hc:cap=lo
 ·subst hc
  have:hi=cap:=U;subst this;refine⟨b,off,0,0,pre,vs++post,by simp[ssub],q,by rw[C];simp,cP _,bC _,sm,?_⟩;have V:cut vs (hi*sz) (hi*sz)=[]:=by apply qD;rw[C];simp
  rw[hb,V];simp
 refine⟨b,off+lo*sz,hi-lo,cap-lo,pre++vs.take (lo*sz),vs.drop (hi*sz)++post,by simp[ssub,hc,Ac],by simp[q];omega,C,U,U,?_,?_⟩
 ·simp only[length_append,Bq,hlen]
  have:(cap-lo-(hi-lo))*sz=(n-hi)*sz+(cap-n)*sz:=by rw[<-r8];congr 1;omega
  have V:(n-hi)*sz=n*sz-hi*sz:=FF _ _ _;omega
 rw[hb];congr 3
 conv=>lhs;rw[c]
 simp
def Ď {α:Type}{T:Ty α}{e:TypeId}{s:Value}{xs:List α}(c:X T e s xs h)(h1:lo<=hi)(h2:hi<=xs.length):X T e (ssub s T.sz lo hi) (cut xs lo hi) h:=by
 have q:=c.2;refine⟨by rw[<-T.cut];exact č c.1 h1 U,?_⟩;rw[Ar h2];have:=c.1;rcases this with ⟨rfl,_⟩|⟨b,off,n,cap,pre,post,rfl,_⟩
 ·simp only[eZ]at q;simp[ssub,eZ]
 simp[ssub,eZ]
def zJ {α:Type}{T:Ty α}{w:World}{s:Value}{xs:List α}(ho:RS T w s xs)(h1:lo<=hi)(h2:hi<=xs.length):RS T w (ssub s T.sz lo hi) (cut xs lo hi):=by
 obtain⟨⟨a,n,cap,rfl,hlen,⟨J',j'⟩,hc⟩,hl⟩:=ho;simp only[eZ]at hl;subst hl;have C:=Ar (lo:=lo) h2;refine⟨⟨_,hi-lo,cap-lo,rfl,by rw[T.len,C],⟨U,U⟩,fun i v hv=>?_⟩,C⟩;rw[<-T.cut]at hv;have P':=(ym.1 hv).1;have H':(cut (xs.flatMap T.enc) (lo*T.sz) (hi*T.sz)).length=hi*T.sz-lo*T.sz:=Ar (by rw[T.len];exact wm _ h2);have V:(xs.flatMap T.enc)[lo*T.sz+i]? = some v:=by
  simp only[cut,Iq]at hv;rw[yj]at hv;split at hv
  ·exact hv
  cases hv
 obtain⟨p,rfl,S,q⟩:=hc _ _ V;by_cases c:cap=lo
 ·subst c
  have:hi*T.sz<=cap*T.sz:=wm _ U;omega
 refine⟨p.add (lo*T.sz),by simp[c],by rw[I2 S],?_⟩;rw[I2 S];simp only[];rw[Bt];exact q
def Z.sub {w0 w:World}{Γ:List HP}{α:Type}{T:Ty α}{s:Value}{e:TypeId}{xs:List α}{put:HP->List HP}(Y:Z w0 w Γ)(q:iP Γ s α T e xs put)(lo hi:Nat)(h1:lo<=hi)(h2:hi<=xs.length):Z w0 w (put (X T e (ssub s T.sz lo hi) (cut xs lo hi))):=by
 obtain⟨i,c,C⟩:=q.nB.ok;rw[C];exact Z.iD i c ((Y.bN i c).mono fun h S=>Ď S h1 h2)
section
variable {M:Array Oper}{K:Fr->World->Prop}{r:List Oper}{ρ:Fr}{w w0:World}{d:Nat}{ty:TypeId}{pos:String}{af:Array Edge}{g:Option (Nat × Bool)}{dst:Option Nat}{x y z:Operand}{t t':TypeId}{Γ:List HP}
variable {α:Type}{T:Ty α}{s:Value}{xs:List α}
def Ta {e:Nat}{k:IntKind}{j:Int}[S:bw P t e sz by_](hx:bh ρ x=s)(c:bh ρ y=.int k j)(h:RS T w s xs)(q:sz=T.sz)(C:0<=j)(h1:j<=xs.length) :
  PureV P ⟨dst,.slice t x none (some y) none,ty,pos,af,g⟩ ρ (ssub s T.sz 0 j.toNat):=fun w=>by
 subst q;obtain⟨⟨a,n,cap,rfl,_,⟨V,_⟩,_⟩,hl⟩:=h;simp only[eZ]at hl;have hj:j<=cap:=U;simp[execOp,Instr.sliceAt,Instr.slice,Instr.sliceBounds,Instr.sliceBound,asIntOf,hx,c,run_underlying S.iI,C,hj,S.size,ssub]
def Tb {e:Nat}{k:IntKind}{j:Int}[S:bw P t e sz by_](hx:bh ρ x=s)(q:bh ρ y=.int k j)(h:RS T w s xs)(C:sz=T.sz)(V:0<=j)(h1:j<=xs.length) :
  PureV P ⟨dst,.slice t x (some y) none none,ty,pos,af,g⟩ ρ (ssub s T.sz j.toNat xs.length):=fun w=>by
 subst C;obtain⟨⟨a,n,cap,rfl,_,⟨j',_⟩,_⟩,c⟩:=h;simp only[eZ]at c;have hj:j<=n:=U;simp[execOp,Instr.sliceAt,Instr.slice,Instr.sliceBounds,Instr.sliceBound,asIntOf,hx,q,run_underlying S.iI,V,hj,S.size,ssub,c]
def Tc {e:Nat}{k C:IntKind}{i j:Int}[S:bw P t e sz by_](hx:bh ρ x=s)(V:bh ρ y=.int k i)(c:bh ρ z=.int C j)(h:RS T w s xs)(hz:sz=T.sz)(h0:0<=i)(j':i<=j)(h1:j<=xs.length) :
  PureV P ⟨dst,.slice t x (some y) (some z) none,ty,pos,af,g⟩ ρ (ssub s T.sz i.toNat j.toNat):=fun w=>by
 subst hz;obtain⟨⟨a,n,cap,rfl,_,⟨H',_⟩,_⟩,hl⟩:=h;simp only[eZ]at hl;have hj:j<=cap:=U;have q:0<=j:=U;have hi:i<=max j 0:=U;simp[execOp,Instr.sliceAt,Instr.slice,Instr.sliceBounds,Instr.sliceBound,asIntOf,hx,V,c,run_underlying S.iI,h0,hj,q,hi,S.size,ssub]
def Td {e:Nat}[S:bw P t e sz by_](hx:bh ρ x=s)(h:RS T w s xs)(q:sz=T.sz) :
  PureV P ⟨dst,.slice t x none none none,ty,pos,af,g⟩ ρ (ssub s T.sz 0 xs.length):=fun w=>by
 subst q;obtain⟨⟨a,n,cap,rfl,_,⟨C,_⟩,_⟩,c⟩:=h;simp only[eZ]at c;simp[execOp,Instr.sliceAt,Instr.slice,Instr.sliceBounds,Instr.sliceBound,hx,run_underlying S.iI,S.size,ssub,c]
def FX {s:Value}(h:xf w s sz vs)(V:eZ s=n)(w':World)(q:w'.heap=w.heap):(Builtin.firstCells sz n s).run P w'=.ok vs.toArray w':=by
 obtain⟨a,n',cap,rfl,hlen,_,hc⟩:=h;simp only[eZ]at V;subst V
 cases a with
 | none =>
  have:vs=[]:=by
   apply eq_nil_iff_length_eq_zero.2;rcases wg vs.length with h|h
   ·exact h
   obtain⟨p,c,_⟩:=hc 0 _ (mL h);cases c
  subst this
  simp[Builtin.firstCells]
 | some p =>
  refine run_firstCells_some (P:=P) w' sz n' p n' cap vs hlen fun j v hv=>?_;obtain⟨p',C,S,c⟩:=hc j v hv;cases C;rw[I2 S]
  simpa [World.cell?,q] using c
def Z.yR {o:Obj}(Y:Z w0 w Γ)(hi:Γ[i]? = some A)(c:A' (fun x=>if x=w.heap.size then some o else none)):Z w0 (jO w o) (Γ.set i A'):=by
 have h1:=(Y.push c).bN (i+1) (A:=A) (by simpa using hi);exact Z.iD i hi h1.tail
def sF {e:Nat}{s2:Value}{ys:List α}{put:HP->List HP}[S:bw P t e sz by_][Z':bD P e zs](O':iP Γ s α T e xs put)(hx:bh ρ x=s)(hy:bh ρ y=s2)(h2:RS T w s2 ys)(_d:sz=T.sz)(_e:zs.length=sz)(hone:∀ x∈ys,∀ v∈T.enc x,v.oneCell'=true)(hb:(xs.length+ys.length)*by_<=140737488355328)(hl:xs.length+ys.length<=cn)(Y:Z w0 w Γ)(h:∀ s' w',Z w0 w' (put (X T e s' (xs++ys)))->opsW P M K r (fQ ρ d s') w'):opsW P M K (⟨some d,.call { callee:=.builtin .append,args:=#[x,y],argTypes:=#[t,t] },ty,pos,af,none⟩::r) ρ w:=by
 refine mj rfl ?_;subst _d;obtain⟨i,hi,hp⟩:=O'.nB.ok;simp only[hp]at h;obtain⟨bZ,_a,hs,_f⟩:=S.vH;obtain⟨zv,_g,_h⟩:=Z'.zero;have h1:=Y.rs i hi;obtain⟨ph,_i,V⟩:=Y.at i hi;obtain⟨a2,_v,C⟩:=h2.shape;have q:∀ w':World,w'.heap=w.heap->(Builtin.firstCells T.sz ys.length s2).run P w'=.ok (ys.flatMap T.enc).toArray w':=fun w' T'=>FX h2.1 h2.2.symm w' T';have j':∀ w':World,w'.heap=w.heap->(Builtin.firstCells T.sz xs.length s).run P w'=.ok (xs.flatMap T.enc).toArray w':=fun w' T'=>FX h1.1 h1.2.symm w' T'
 have H':∀ (a:Option Addr) (cap:Nat),s=.slice a xs.length cap->cap<xs.length+ys.length ->
   (execOp (bh ρ) ⟨some d,.call { callee:=.builtin .append,args:=#[x,y],argTypes:=#[t,t] },ty,pos,af,none⟩).run P w =
   .ok (.value (.slice (some ⟨w.heap.size,0,none⟩) (xs.length+ys.length) (grownCap w (xs.length+ys.length) cap e))) (jO w.drew (.cells ((xs.flatMap T.enc).toArray++(ys.flatMap T.enc).toArray++Builtin.zeroCells zs.toArray (grownCap w (xs.length+ys.length) cap e-(xs.length+ys.length))) e)):=by
  intro a cap P' c;have hn:¬(xs.length+ys.length<=cap):=U;have R':¬(9223372036854775807<((xs.length:Int)+(ys.length:Int))):=by unfold cn at hl;omega
  have _b:=growslice_fits (bytes:=by_) c hb;have V':¬(281474976710656<Builtin.nextslicecap (xs.length+ys.length) cap*by_):=U;have hq:(Question.appendCap (xs.length+ys.length) cap e).forced=false:=rfl;rw[P']at j';rw[C]at q;simp[execOp,resolve,invoke,builtin,Builtin.append_,hx,hy,P',C,run_underlying S.iI,S.size,typeInfo,_a,_f,Builtin.lenOf,hn,R',V',hq,j',q,_h,_g,grownCap];rw[j' w.drew rfl];simp only[fm];rw[q w.drew rfl];have J':∀ (X' Y':List Value) (Z':Array Value),X'.toArray++(Y'.toArray++Z')=(X'++Y').toArray++Z':=fun X' Y' Z'=>by apply Ix;simp only[Mf,fk]
  simp only[newRow,fG,run_newObj,fm,gU];rw[J'];rfl
 simp only[opW];rcases V with ⟨V,hlen⟩;have R':∀ cap,cap<xs.length+ys.length->Z w0 (jO w.drew (.cells ((xs.flatMap T.enc).toArray++(ys.flatMap T.enc).toArray++Builtin.zeroCells zs.toArray (grownCap w (xs.length+ys.length) cap e-(xs.length+ys.length))) e)) (Γ.set i (X T e (.slice (some ⟨w.heap.size,0,none⟩) (xs.length+ys.length) (grownCap w (xs.length+ys.length) cap e)) (xs++ys))):=by
  intro cap c;have J':=grownCap_ge w (xs.length+ys.length) cap e;refine Z.yR (w:=w.drew) Y.drew hi ⟨.inr ⟨w.heap.size,0,_,_,[],(Builtin.zeroCells zs.toArray (grownCap w (xs.length+ys.length) cap e-(xs.length+ys.length))).toList,rfl,rfl,by rw[T.len];simp,J',hl,?_,?_⟩,by simp[eZ]⟩
  ·simp[size_zeroCells,_e]
  simp
 rcases V with ⟨rfl,_w⟩|⟨b,off,n,cap,pre,post,rfl,_b,_j,_D,_x,_k,_l⟩
 ·simp only[eZ]at hlen
  by_cases J':ys.length=0
  ·have P':=qD J'
   subst P';have hr:(execOp (bh ρ) ⟨some d,.call { callee:=.builtin .append,args:=#[x,y],argTypes:=#[t,t] },ty,pos,af,none⟩).run P w=.ok (.value (nS)) w:=by
    have c:=q w rfl;rw[C]at c;simp only[length_nil]at c;simp[execOp,resolve,invoke,builtin,Builtin.append_,hx,hy,C,run_underlying S.iI,S.size,Builtin.lenOf,c]
   rw[hr];refine h _ _ ?_;have:xs=[]:=qD hlen;subst this;simp only[gj];rw[show Γ.set i (X T e (nS) [])=Γ from ?_]
   ·exact Y
   apply Al;intro k;rw[D9];split
   ·rename_i hk;subst hk;split
    ·rw[hi]
    rename_i hk;rw[xS U]
   rfl
  rw[H' none 0 (by rw[hlen]) U];exact h _ _ (R' 0 U)
 simp only[eZ]at hlen;subst hlen;by_cases J':xs.length+ys.length<=cap
 ·have c:=q w rfl
  rw[C]at c;have P':(xs.flatMap T.enc).length=xs.length*T.sz:=T.len xs;have V':(ys.flatMap T.enc).length=ys.length*T.sz:=T.len ys;have hm:xs.length*T.sz+ys.length*T.sz<=xs.length*T.sz+(cap-xs.length)*T.sz:=by
   have:ys.length*T.sz<=(cap-xs.length)*T.sz:=wm _ U;omega
  have _m:=yo (P:=P) (bt:=e) (ys.flatMap T.enc) (off+xs.length*T.sz) 0 (pre++xs.flatMap T.enc++post) w (by
   intro v hv;obtain⟨x',_c,_n⟩:=tN.1 hv
   exact hone x' _c v _n) (by simp only[length_append,P',V'];omega) (_i _ _ _l).1
  have hr:(execOp (bh ρ) ⟨some d,.call { callee:=.builtin .append,args:=#[x,y],argTypes:=#[t,t] },ty,pos,af,none⟩).run P w=.ok (.value (.slice (some ⟨b,off,none⟩) (xs.length+ys.length) cap)) (fq w b (.cells ((pre++xs.flatMap T.enc++post).take (off+xs.length*T.sz+0)++ys.flatMap T.enc++(pre++xs.flatMap T.enc++post).drop (off+xs.length*T.sz+0+(ys.flatMap T.enc).length)).toArray e (0,0))):=by
   simp only[execOp,resolve,invoke,builtin,Builtin.append_,hx,hy,C,fG,gU,fm,FE,pV,uL,run_underlying S.iI,S.size,Builtin.lenOf];simp[c,J',Ac,run_underlying S.iI,Builtin.lenOf,S.size];rw[_m];simp
  rw[hr];have _n:(pre++xs.flatMap T.enc++post).take (off+xs.length*T.sz+0)=pre++xs.flatMap T.enc:=by
   rw[Bs (by simp only[length_append,P'];omega)];exact io (by simp only[length_append,P'];omega)
  have _o:(pre++xs.flatMap T.enc++post).drop (off+xs.length*T.sz+0+(ys.flatMap T.enc).length)=post.drop (ys.length*T.sz):=by
   rw[Am,oG (by simp only[length_append,P',V'];omega)];simp only[lQ,length_append,P',V'];congr 1;omega
  rw[_n,_o];refine h _ _ (Z.iD i hi (Z.put (Y.bN i hi) fun h1 _y hA=>?_));rcases hA with ⟨hA,_⟩;rcases hA with ⟨hc,_⟩|⟨b1,_z,n1,_A,_B,_p,_q,_r,_s,_C,_t,_c,_u⟩
  ·cases hc
  cases _q;refine⟨⟨_,_u⟩,.inr ⟨b,off,xs.length+ys.length,cap,pre,post.drop (ys.length*T.sz),rfl,_b,by rw[T.len,length_append],J',hl,?_,?_⟩,by simp[eZ]⟩
  ·simp only[Bq]
   have:(cap-(xs.length+ys.length))*T.sz=(cap-xs.length)*T.sz-ys.length*T.sz:=by rw[<-FF];congr 1;omega
   omega
  simp[oC]
 rw[H' _ cap rfl U];exact h _ _ (R' cap U)
end
def RS.one {α:Type}{T:Ty α}{w:World}{s:Value}{xs:List α}(h:RS T w s xs):s.oneCell'=true:=by
 obtain⟨a,cap,rfl⟩:=h.shape;rfl
class lU {α:Type}(T:Ty α):Prop where
 ok:∀ (x:α) (v:Value),v∈T.enc x->v.oneCell'=true
instance:lU W:=⟨fun _ v hv=>by rw[fU.1 hv];rfl⟩
instance:lU ah:=⟨fun _ v hv=>by rw[fU.1 hv];rfl⟩
theorem wr.Cp {Δ Γ:List HP}{put:HP->List HP}(h:wr Γ A put):wr (Δ++Γ) A (fun A'=>Δ++put A'):=by
 obtain⟨i,hi,c⟩:=h.ok;refine⟨Δ.length+i,by rw[lP U];simpa using hi,fun A' => ?_⟩;rw[c,xQ _ _ U];simp
instance Kj {Δ:List HP}{p:Addr}{t:TypeId}{cells:List Value}{Γ:List HP}{put:HP->List HP} [h:iC Γ p t cells put]:iC (Δ++Γ) p t cells (fun A'=>Δ++put A'):=⟨h.nB.Cp⟩
instance Kk {Δ:List HP}{α:Type}{T:Ty α}{s:Value}{e:TypeId}{xs:List α}{Γ:List HP}{put:HP->List HP} [h:iP Γ s α T e xs put]:iP (Δ++Γ) s α T e xs (fun A'=>Δ++put A'):=⟨h.nB.Cp⟩
def ai {α:Type}(T:Ty α)(e:TypeId)(ss:List Value)(L:List (List α)):HP:=fun h=>ss.length=L.length/\cB (zipWith (X T e) ss L) h
def cB.Cp {Γ:List HP}:∀ (Δ:List HP) {h1 h2 h:PH},s9 h1 h2->rO h1 h->rO h2 h->cB Δ h1->cB Γ h2->cB (Δ++Γ) h:=by
 intro Δ
 induction Δ with
 | nil=>intro h1 h2 h _ _ s2 _ I;exact I.sub s2
 | cons A Δ S =>
  intro h1 h2 h d s1 s2 V I;obtain⟨g1,g2,dg,t1,t2,ha,hr⟩:=V;refine⟨g1,rH g2 h2,fun b=>?_,t1.trans s1,fun b o c=>?_,ha,S (h1:=g2) (h2:=h2) (d.symm.sub t2).symm (fun b o c=>by simp[rH,c]) (fun b o c=>?_) hr I⟩
  ·cases q:g1 b with
   | none=>exact .inl rfl
   | some o =>
    right;have:g2 b=none:=(dg b).resolve_left (by rw[q];simp);have C:h2 b=none:=(d b).resolve_left (by rw[t1 b o q];simp);simp[rH,this,C]
  ·simp only[rH]at c
   split at c
   ·rename_i C q;cases c;exact s1 b _ (t2 b _ q)
   exact s2 b o c
  simp only[rH];have:g2 b=none:=by
   rcases d b with h|h
   ·cases q:g2 b with
    | none=>rfl
    | some C=>rw[t2 b C q]at h;cases h
   rw[c]at h;cases h
  rw[this];exact c
def cB.split {Γ:List HP}:∀ (Δ:List HP) {h:PH},cB (Δ++Γ) h->∃ h1 h2,s9 h1 h2/\rO h1 h/\rO h2 h/\cB Δ h1/\cB Γ h2:=by
 intro Δ
 induction Δ with
 | nil=>intro h C;exact⟨fun _=>none,h,fun _=>.inl rfl,fun _ _ c=>(by simp at c),rO.refl _,az,C⟩
 | cons A Δ ih =>
  intro h C;obtain⟨g1,g2,dg,t1,t2,ha,hr⟩:=C;obtain⟨V,k2,dk,S,u2,hd,I⟩:=ih hr;refine⟨rH g1 V,k2,fun b=>?_,fun b o c=>?_,u2.trans t2,⟨g1,V,dg.sub S,fun b o c=>by simp[rH,c],fun b o c=>?_,ha,hd⟩,I⟩
  ·rcases dk b with h|h
   ·rcases dg b with q|q
    ·left;simp[rH,q,h]
    right;cases hk:k2 b with
    | none=>rfl
    | some o=>rw[u2 b o hk]at q;cases q
   exact .inr h
  ·simp only[rH]at c
   split at c
   ·rename_i o' q;cases c;exact t1 b _ q
   exact t2 b o (S b o c)
  simp only[rH];rcases dg b with h|h
  ·rw[h];exact c
  rw[S b o c]at h;cases h
variable {w w0:World}{Γ:List HP}{α:Type}{T:Ty α}{e:TypeId}{ss:List Value}{L:List (List α)}
def Z.vI (h:Z w0 w (ai T e ss L::Γ)):ss.length=L.length/\Z w0 w (zipWith (X T e) ss L++Γ):=by
 obtain⟨h1,C,d,s1,s2,⟨c,q⟩,I⟩:=h.kP;exact⟨c,h.below,cB.Cp _ d s1 s2 q I⟩
def Z.o8 (c:ss.length=L.length)(h:Z w0 w (zipWith (X T e) ss L++Γ)):Z w0 w (ai T e ss L::Γ):=by
 obtain⟨h1,q,d,s1,s2,C,I⟩:=h.kP.split;exact⟨h.below,h1,q,d,s1,s2,⟨c,C⟩,I⟩
def Z.pH (h:Z w0 w Γ):Z w0 w (ai T e [] []::Γ):=Z.o8 rfl h
def Z.ja (hi:i<L.length)(h:Z w0 w (ai T e ss L::Γ)):Z w0 w (X T e (cL ss i) (L.getD i [])::((zipWith (X T e) ss L).eraseIdx i++Γ)):=by
 obtain⟨c,h⟩:=h.vI
 have:=h.bN i (A:=X T e (cL ss i) (L.getD i [])) (by
  rw[mu (by simp;omega)]
  simp[qL,Bu,List.getD,mL (show i<ss.length by omega),mL hi])
 rwa[RY (by simp;omega)]at this
def Z.re {c:List α}(hi:i<L.length)(C:ss.length=L.length)(h:Z w0 w (X T e s' c::((zipWith (X T e) ss L).eraseIdx i++Γ))):Z w0 w (ai T e (ss.set i s') (L.set i c)::Γ):=by
 refine Z.o8 (by simp[C]) ?_;have h1:i<(zipWith (X T e) ss L++Γ).length:=by simp;omega
 rw[<-RY (by simp;omega)]at h;have q:=Z.iD i (mL h1) h;rw[Mj _ _ (by simp;omega)]at q;have:zipWith (X T e) (ss.set i s') (L.set i c)=(zipWith (X T e) ss L).set i (X T e s' c):=by
  apply Al;intro k;by_cases hk:i=k
  ·subst hk
   rw[Bu,CH U,CH U,CH (by simp;omega)]
  rw[Bu,uO hk,uO hk,uO hk,Bu]
 rw[this];exact q
def Z.only (h:Z w0 w (A::Γ)):Z w0 w [A]:=h.ou fun _ _=>trivial
def Z.comm {Δ:List HP}(h:Z w0 w (Δ++Γ)):Z w0 w (Γ++Δ):=by
 obtain⟨h1,q,d,s1,s2,c,I⟩:=h.kP.split;exact⟨h.below,cB.Cp _ d.symm s2 s1 I c⟩
def Z.bU (h:Z w0 w (ai T e ss L::Γ)):ss.length=L.length:=h.vI.1
def Z.row (hi:i<L.length)(h:Z w0 w (ai T e ss L::Γ)):RS T w (cL ss i) (L.getD i []):=(h.ja hi).rs 0 rfl
def Z.jv {c:List α}(h:Z w0 w (X T e s' c::ai T e ss L::Γ)):Z w0 w (ai T e (ss++[s']) (L++[c])::Γ):=by
 obtain⟨q,h1⟩:=(Z.swap h).vI;refine Z.o8 (by simp[q]) ?_;rw[zipWith_append q]
 simpa using h1
def Z.iJ (h:Z w0 w Γ):∀ n,Z w0 w (ai T e (replicate n (nS)) (replicate n [])::Γ)
 | 0=>h.pH
 | n+1=>by
  rw[CI,CI];exact(Z.nil (T:=T) (e:=e) (Z.iJ h n)).jv
end
def ď {ss:List Value}(h:i<ss.length):ss.set i (cL ss i)=ss:=by
 apply jB sm;intro k h1 c;rw[tS];split
 ·rename_i e;subst e;simp[qL,List.getD,h]
 rfl
def Z.tn {w0 w:World}{Γ:List HP}{α:Type}{T:Ty α}{e:TypeId}{ss:List Value}{L:List (List α)}{c:List α}(hi:i<L.length)(h:Z w0 w (X T e s' c::ai T e ss L::Γ)):Z w0 w (ai T e (ss.set i s') (L.set i c)::Γ):=by
 have C:=h.swap.bU;have h1:=(h.swap.ja hi).tail;have q:=h1.bN ((zipWith (X T e) ss L).eraseIdx i).length (A:=X T e s' c) (by rw[lP (cP _)];simp);refine Z.re hi C ?_;rw[eraseIdx_append_of_length_le (cP _)]at q
 simpa using q
def Z.oh {w0 w:World}{Γ:List HP}{α:Type}{T:Ty α}{e:TypeId}{ss:List Value}{L:List (List α)}{c:List α}(hi:i<L.length)(q:ss.length=L.length)(h:Z w0 w (X T e (cL ss i) c::((zipWith (X T e) ss L).eraseIdx i++Γ))):Z w0 w (ai T e ss (L.set i c)::Γ):=by
 have:=Z.re hi q h
 rwa[ď U]at this
attribute [irreducible] ssub
end
section
def B5 (P:Program)(t:Nat)(name:String)(f:Nat)(ptr:Bool)(elem:Nat):Bool :=
 (match P.underlying t with|some (.pointer e)=>e == elem|_=>false) &&
 match P.info? t with
 | some i=>(match i.methods.find? (·.name == name) with
   | some m=>m.path.isEmpty && (match m.func with|some (g,q)=>g == f && q == ptr|none=>false)
   | none=>false)
 | none=>false
class gy (P:Program) (t:Nat) (name:String) (f:outParam Nat) (ptr:outParam Bool) (elem:outParam Nat):Prop where
 ok:B5 P t name f ptr elem=true
section
variable {P:Program}
def gy.rows {t elem:Nat}{name:String}{ptr:Bool}(h:gy P t name f ptr elem):P.underlying t=some (.pointer elem)/\∃ i m,P.info? t=some i/\i.methods.find? (·.name == name)=some m/\m.path.toList=[]/\m.path.isEmpty=true/\m.func=some (f,ptr):=by
 have h:=h.ok;simp only[B5,Bool.and_eq_true]at h;obtain⟨h1,c⟩:=h;refine⟨?_,?_⟩
 ·split at h1
  ·rename_i e he;rw[he];simp at h1;rw[h1]
  cases h1
 split at c
 ·rename_i i hi
  split at c
  ·rename_i m hm
   simp only[Bool.and_eq_true]at c;obtain⟨S,C⟩:=c;split at C
   ·rename_i g q I
    simp at C;refine⟨i,m,hi,hm,?_,S,by rw[I,C.1,C.2]⟩
    simpa using S
   cases C
  cases c
 cases c
def Te {t elem:Nat}{name:String}(M':gy P t name f true elem)(fuel:Nat)(p:Addr)(w:World):(method (fuel+1) t (.pointer (some p)) name).run P w=.ok (f,.pointer (some p)) w:=by
 obtain⟨hu,i,m,hi,hm,c,he,q⟩:=M'.rows;simp only[method,fG,run_typeInfo w hi,fm,hm,c,follow,gU,q,receiverAt,run_underlying hu,Place.get]
def Đ {t elem:Nat}{name:String}(M':gy P t name f false elem)[C:cA P elem](fuel:Nat){v:Value}{w:World}(hv:w.cell? p=some v):(method (fuel+1) t (.pointer (some p)) name).run P w=.ok (f,v) w:=by
 obtain⟨hu,i,m,hi,hm,c,he,q⟩:=M'.rows;have S:∀ (a b:String),Builtin.ssaWrapNilChk_ #[t] t #[.pointer (some p),strVal a,strVal b]=pure (.pointer (some p)):=fun _ _=>rfl;have V:(loadVar elem p).run P w=.ok v w:=by
  simp only[loadVar,fG,C.plain.1,fm,Ea,if_false];simp[hv]
 simp only[method,fG,run_typeInfo w hi,fm,hm,c,follow,gU,q,receiverAt,run_underlying hu,Place.get,he,if_true,S,asAddr,V]
variable {M:Array Oper}{K:Fr->World->Prop}{r:List Oper}{ρ:Fr}{w w0:World}{Γ:List HP}{d:Option Nat}{ty:TypeId}{pos:String}{af:Array Edge}{x:Operand}
def I3 (P:Program):∃ m,P.types.size+Made.depth=m+1:=⟨P.types.size+(Made.depth-1),by rw[Bt];congr 1⟩
def HK {t elem:Nat}{name:String}{xs:List Operand}[M':gy P t name f true elem][C:au P f](c:bh ρ x=.iface t (.pointer (some p)))(hx:xs.map (bh ρ)=vs)(q:Calls P f (.pointer (some p)::vs).toArray w R)(h:∀ e w',R e w'->∃ v,e=.returned v/\opsW P M K r (jq ρ d v) w'):opsW P M K (⟨d,.call { callee:=.invoke x name,args:=xs.toArray,argTypes:=ts },ty,pos,af,none⟩::r) ρ w:=by
 refine mj rfl ?_;obtain⟨m,hm⟩:=I3 P;have c:(execOp (bh ρ) ⟨d,.call { callee:=.invoke x name,args:=xs.toArray,argTypes:=ts },ty,pos,af,none⟩).run P w=.ok (.enter f (.pointer (some p)::vs).toArray) w:=by
  have e:(#[bh ρ x]++Array.map (bh ρ) xs.toArray)=(.iface t (.pointer (some p))::vs).toArray:=by simp[c,hx]
  simp only[execOp,resolve,fG,gU,fm,invoke,e];simp only[Ek,FK,callMethod,fG,run_program,fm,hm,Te M',C.run];congr 2;simp
 simp only[opW,c,cJ];refine wh q fun e w' S=>?_;obtain⟨v,rfl,hk⟩:=h e w' S;exact hk
def qC {t elem:Nat}{name:String}{xs:List Operand}[M':gy P t name f false elem][C:au P f][E_:cA P elem](c:bh ρ x=.iface t (.pointer (some p)))(hx:xs.map (bh ρ)=vs)(hu:w.cell? p=some u)(q:Calls P f (u::vs).toArray w R)(h:∀ e w',R e w'->∃ v,e=.returned v/\opsW P M K r (jq ρ d v) w'):opsW P M K (⟨d,.call { callee:=.invoke x name,args:=xs.toArray,argTypes:=ts },ty,pos,af,none⟩::r) ρ w:=by
 refine mj rfl ?_;obtain⟨m,hm⟩:=I3 P;have c:(execOp (bh ρ) ⟨d,.call { callee:=.invoke x name,args:=xs.toArray,argTypes:=ts },ty,pos,af,none⟩).run P w=.ok (.enter f (u::vs).toArray) w:=by
  have e:(#[bh ρ x]++Array.map (bh ρ) xs.toArray)=(.iface t (.pointer (some p))::vs).toArray:=by simp[c,hx]
  simp only[execOp,resolve,fG,gU,fm,invoke,e];simp only[Ek,FK,callMethod,fG,run_program,fm,hm,Đ M' m hu,C.run];congr 2;simp
 simp only[opW,c,cJ];refine wh q fun e w' S=>?_;obtain⟨v,rfl,hk⟩:=h e w' S;exact hk
def Z.jn {cells:List Value}{v:Value}{put:HP->List HP}(Y:Z w0 w Γ)(B:iC Γ p bt cells put)(hv:cells[0]? = some v):w.cell? p=some v:=by
 obtain⟨i,hi,_⟩:=B.nB.ok;exact DP Y hi hv
def zU {α:Type}(T:Ty α){t e:Nat}{d:Nat}[S:bw P t e sz by_](Y:Z w0 w Γ)(h:∀ s w',Z w0 w' (X T e s []::Γ)->opsW P M K r (fQ ρ d s) w'):opsW P M K (⟨some d,.buildSlice t 0 #[],ty,pos,af,none⟩::r) ρ w:=by
 refine mj rfl ?_;simp only[opW,execOp,Instr.buildSlice,fG,run_underlying S.iI,fm,S.size,gU,Ir,eo,if_false,if_true,gt_iff_lt,FE,uL,Instr.fill];simp only[fG,newRow,run_newObj,fm,gU,cJ];exact h _ _ (BA (e:=e) (xs:=([]:List α)) sm rfl (by unfold cn;omega) rfl Y)
@[irreducible] def aB {α:Type}(T:Ty α)(xs:List α)(i:Nat):α:=xs.getD i T.dflt
def oz {α:Type}(T:Ty α)(xs:List α)(i:Nat):aB T xs i=xs.getD i T.dflt:=by unfold aB;rfl
class nR {α:Type}(T:Ty α):Prop where
 ok:True
def FY {α:Type}{T:Ty α}{s:Value}{xs:List α}{ty:TypeId}{pos:String}{af:Array Edge}{g:Option (Nat × Bool)}{dst:Option Nat}{t:TypeId}[A:fi P t n](hx:bh ρ x=.pointer (some (iZ T s i)))(h:RS T w s xs)(hi:i<xs.length)(c:n=T.sz)(q:nR T):ReadV P ⟨dst,.load t x,ty,pos,af,g⟩ ρ w (.agg (T.enc (aB T xs i)).toArray):=by
 rw[oz];exact Eo hx h hi c
def FZ {α:Type}{T:Ty α}{k:Nat}{v:Value}{s:Value}{xs:List α}{ty:TypeId}{pos:String}{af:Array Edge}{g:Option (Nat × Bool)}{dst:Option Nat}{t:TypeId}[C:cA P t](hx:bh ρ x=.pointer (some ((iZ T s i).add k)))(h:RS T w s xs)(hi:i<xs.length)(hk:k<T.sz)(c:nR T)(hv:(T.enc (aB T xs i))[k]? = some v):ReadV P ⟨dst,.load t x,ty,pos,af,g⟩ ρ w v:=by
 rw[oz]at hv;exact En hx h hi hk hv
def RS.fu {α:Type}{T:Ty α}{w:World}{s:Value}{xs:List α}(h:RS T w s xs):s.cells.toList=[s]:=by
 obtain⟨a,cap,rfl⟩:=h.shape;rfl
class vJ (P:Program) (t:Nat):Prop where
 ok:(match P.underlying t with|some .string=>true|_=>false)=true
def vJ.iI {t:Nat}(h:vJ P t):P.underlying t=some .string:=by
 have h:=h.ok;split at h
 ·rename_i he;exact he
 cases h
@[irreducible] def As (b:ByteArray)(i:Nat):Int:=(((b[i]?).getD 0).toNat:Int)
def đ (b:ByteArray)(i:Nat):As b i=(((b[i]?).getD 0).toNat:Int):=by unfold As;rfl
def Tf {t:TypeId}{ty:TypeId}{pos:String}{af:Array Edge}{g:Option (Nat × Bool)}{dst:Option Nat}{b:ByteArray}[S:vJ P t](hx:bh ρ x=.string b):PureV P ⟨dst,.call { callee:=.builtin .len,args:=#[x],argTypes:=#[t] },ty,pos,af,g⟩ ρ (E b.size):=fun w=>by
 simp[execOp,resolve,invoke,builtin,Builtin.len_,hx,run_underlying S.iI,goInt]
def Tg {t:TypeId}{ty:TypeId}{pos:String}{af:Array Edge}{g:Option (Nat × Bool)}{dst:Option Nat}{y:Operand}{b:ByteArray}{j:Nat}[S:vJ P t](hx:bh ρ x=.string b)(c:bh ρ y=E j)(q:j<b.size):PureV P ⟨dst,.index t x y,ty,pos,af,g⟩ ρ (.int .u8 (As b j)):=fun w=>by
 have I:b[j]? = some b[j]:=by simp[q]
 simp[execOp,Instr.index,hx,c,asIntOf,run_underlying S.iI,đ,I]
variable {dst:Option Nat}{t t':TypeId}{g:Option (Nat × Bool)}{y:Operand}{a b:Int}
def Ē (c:0<b)(q : -9223372036854775807<=a)(h1:a<=9223372036854775807) : -9223372036854775808<=a.tdiv b/\a.tdiv b<=9223372036854775807:=by
 have h:=Int.natAbs_tdiv_le_natAbs a b;omega
def Th (hx:bh ρ x=E a)(q:bh ρ y=E b)(C:0<b)(S : -9223372036854775807<=a)(h1:a<=9223372036854775807):PureV P ⟨dst,.binOp .quo t x y t',ty,pos,af,g⟩ ρ (E (a.tdiv b)):=fun w=>by
 have c:b≠0:=U;have:=Ē C S h1;simp[execOp,eqGuard,binOp,Op.intDiv,hx,q,c,Aq this.1 this.2]
def Ti (hx:bh ρ x=E a)(q:bh ρ y=E b)(C:0<b):PureV P ⟨dst,.binOp .rem t x y t',ty,pos,af,g⟩ ρ (E (a.tmod b)):=fun w=>by
 have c:b≠0:=U;simp[execOp,eqGuard,binOp,Op.intDiv,hx,q,c]
end
section
variable {w0 w:World}{Γ Δ:List HP}
def kR (Δ:List HP):HP:=cB Δ
def Z.AP (h:Z w0 w (Δ++Γ)):Z w0 w (kR Δ::Γ):=by
 obtain⟨h1,c,d,s1,s2,a,g⟩:=cB.split Δ h.kP;exact⟨h.below,h1,c,d,s1,s2,a,g⟩
def Z.tq (h:Z w0 w (kR Δ::Γ)):Z w0 w (Δ++Γ):=by
 obtain⟨h1,c,d,s1,s2,a,g⟩:=h.kP;exact⟨h.below,cB.Cp Δ d s1 s2 a g⟩
class uz (Γ:List HP) (A:HP) (Γ':outParam (List HP)):Prop where
 ok:∃ i,Γ[i]? = some A/\Γ'=Γ.eraseIdx i
instance (priority:=high) pick_here {A:HP}{Γ:List HP}:uz (A::Γ) A Γ:=⟨0,rfl,rfl⟩
instance Dz {A B:HP}{Γ c:List HP} [h:uz Γ A c]:uz (B::Γ) A (B::c):=by
 obtain⟨i,h1,q⟩:=h.ok;exact⟨i+1,by simpa using h1,by simp[q]⟩
class AQ (Γ Δ:List HP):Prop where
 ok:∀ h,cB Γ h->cB Δ h
instance Kl {Γ:List HP}:AQ Γ []:=⟨fun _ _=>trivial⟩
instance Hq {A:HP}{Γ c Δ:List HP} [p:uz Γ A c] [s:AQ c Δ]:AQ Γ (A::Δ):=⟨fun h q=>by
 obtain⟨i,h1,C⟩:=p.ok;obtain⟨g1,g2,d,s1,s2,a,g⟩:=q.bN i h1;rw[<-C]at g
 exact⟨g1,g2,d,s1,s2,a,s.ok g2 g⟩⟩
def Z.bj [s:AQ Γ Δ](h:Z w0 w Γ):Z w0 w Δ:=⟨h.below,s.ok _ h.kP⟩
def bA (φ:World->Prop):HP:=fun h=>∀ w:World,(∀ b o,h b=some o->w.heap[b]? = some o)->φ w
def Z.rd (c:∀ w0 w,Z w0 w Δ->φ w)(h:Z w0 w (Δ++Γ)):Z w0 w (bA φ::Γ):=by
 obtain⟨h1,C,d,s1,s2,a,g⟩:=cB.split Δ h.kP;refine⟨h.below,h1,C,d,s1,s2,fun w' q=>c { w' with heap:=#[] } w' ⟨⟨rfl,rfl,rfl,bC _,fun k hk=>absurd hk (eo _)⟩,a.sub fun b o S=>?_⟩,g⟩;simp only[fI];rw[aM sm];exact q b o S
def Z.dQ (h:Z w0 w Γ)(i:Nat)(hi:Γ[i]? = some (bA φ)):φ w:=by
 obtain⟨h1,c,a⟩:=h.at i hi;exact a w fun b o q=>(c b o q).1
def Z.DQ {c χ:World->Prop}(q:∀ w,φ w->c w->χ w)(h:Z w0 w (bA φ::bA c::Γ)):Z w0 w (bA χ::Γ) :=
 Z.rd (Δ:=[bA φ,bA c]) (fun _ w Y=>q w (Y.dQ 0 rfl) (Y.dQ 1 rfl)) h
def Z.r6 (c:∀ w,φ w)(h:Z w0 w Γ):Z w0 w (bA φ::Γ):=Z.rd (Δ:=[]) (fun _ w _=>c w) h
def eJ (w:World)(p:Addr)(cells:List Value):Prop:=∀ j v,cells[j]? = some v->w.cell? (p.add j)=some v
def HZ {v:Value}(h:w0.cell? p=some v)(Y:Z w0 w Γ):w.cell? p=some v:=by
 have c:p.block<w0.heap.size:=by
  rcases pB p.block w0.heap.size with q|q
  ·exact q
  simp[World.cell?,vj q]at h
 rw[Y.below.cell c];exact h
def eJ.at {cells:List Value}(h:eJ w0 p cells)(Y:Z w0 w Γ):eJ w p cells:=fun j v hv=>HZ (h j v hv) Y
def Z.dA {t:TypeId}{cells:List Value}(Y:Z w0 w Γ)(i:Nat)(hi:Γ[i]? = some (am p t cells)):eJ w p cells:=fun _ _ hv=>nw Y hi hv
def rk {t:TypeId}{cells:List Value}{put:HP->List HP}[B:iC Γ p t cells put](Y:Z w0 w Γ):eJ w p cells:=by
 obtain⟨i,hi,_⟩:=B.nB.ok;exact Y.dA i hi
def Tj (p:Addr)(a b:Nat):(p.add a).add b=p.add (a+b):=by
 unfold Addr.add;by_cases c:a=0
 ·subst c;simp
 by_cases q:b=0
 ·subst q;simp
 simp[c,q,Bt]
variable {P:Program}{ρ:Fr}{ty:TypeId}{pos:String}{af:Array Edge}{g:Option (Nat × Bool)}{dst:Option Nat}{x y:Operand}{t t':TypeId}
def F0 {k:Nat}{cells:List Value}{v:Value}[C:cA P t](hx:bh ρ x=.pointer (some (p.add k)))(h:eJ w p cells)(hv:cells[k]? = some v):ReadV P ⟨dst,.load t x,ty,pos,af,g⟩ ρ w v:=yd hx (h _ _ hv)
def F1 {cells:List Value}{v:Value}[C:cA P t](hx:bh ρ x=.pointer (some p))(h:eJ w p cells)(hv:cells[0]? = some v):ReadV P ⟨dst,.load t x,ty,pos,af,g⟩ ρ w v :=
 yd hx (by have:=h _ _ hv;simpa [Addr.add] using this)
def F3 {cells:List Value}[A:fi P t n](hx:bh ρ x=.pointer (some p))(h:eJ w p cells)(c:cells.length=n):ReadV P ⟨dst,.load t x,ty,pos,af,g⟩ ρ w (.agg cells.toArray) :=
 IM hx c h
def zC {k:Nat}{cells:List Value}[A:fi P t n](hx:bh ρ x=.pointer (some (p.add k)))(h:eJ w p cells)(q:vs.length=n)(hv:vs=(cells.drop k).take n):ReadV P ⟨dst,.load t x,ty,pos,af,g⟩ ρ w (.agg vs.toArray) :=
 IM hx q fun j v c=>by
  rw[Tj];refine h _ _ ?_;rw[hv,yj,Iq]at c;split at c
  ·exact c
  cases c
def Tk {off a:Nat}[T:aS P t f off ft](hx:bh ρ x=.pointer (some (p.add a))):PureV P ⟨dst,.fieldAddr t x f,ty,pos,af,g⟩ ρ (.pointer (some (p.add (a+off)))):=by
 have:=ME (P:=P) (t:=t) (f:=f) (ρ:=ρ) (dst:=dst) (ty:=ty) (pos:=pos) (af:=af) (g:=g) hx
 rwa[Tj]at this
class oT (P:Program) (t:Nat):Prop where
 ok:(match P.underlying t with|some (.pointer _)=>true|_=>false)=true
def oT.iI (h:oT P t):P.underlying t=some (.pointer (P.pointee t)):=by
 have h:=h.ok;split at h
 ·rename_i e he;rw[he];simp[Program.pointee,he]
 cases h
def Tl {a:Option Addr}[T:oT P t](hx:bh ρ x=.pointer a):PureV P ⟨dst,.binOp .eql t x (.const (.pointer none)) t',ty,pos,af,g⟩ ρ (.bool a.isNone):=fun w=>by
 have h1:=run_eql_pointer_nil w t a T.iI;simp only[execOp,eqGuard,hx];cases x<;>simp[bh,h1]
def Tm {a:Option Addr}[T:oT P t](hx:bh ρ x=.pointer a):PureV P ⟨dst,.binOp .neq t x (.const (.pointer none)) t',ty,pos,af,g⟩ ρ (.bool (!a.isNone)):=fun w=>by
 have h1:=run_neq_pointer_nil w t a T.iI;simp only[execOp,eqGuard,hx];cases x<;>simp[bh,h1]
def yB (places:List (Nat × Nat))(cs:List Value):List (Nat × List Value)->List Value
 | []=>cs
 | (i,l)::r=>yB places (match places[i]? with|some (off,size)=>cs.take off++l++cs.drop (off+size)|none=>cs) r
def AT (places:List (Nat × Nat))(n:Nat):List (Nat × List Value)->Bool
 | []=>true
 | (i,l)::r=>(match places[i]? with|some (off,size)=>l.length == size && ble (off+size) n|none=>false) && AT places n r
def Tn {places:List (Nat × Nat)}{n:Nat}:∀ (vs:List (Nat × Value)) (cs:List Value),cs.length=n->AT places n (vs.map fun p=>(p.1,p.2.cells.toList))=true ->
  Instr.fill (places[·]?) cs.toArray vs=some (yB places cs (vs.map fun p=>(p.1,p.2.cells.toList))).toArray
 | [],cs,_,_=>by simp[Instr.fill,yB]
 | (i,v)::vs,cs,hc,S=>by
  simp only[pV,AT,Bool.and_eq_true]at S;obtain⟨h1,V⟩:=S
  cases c:places[i]? with
  | none=>simp[c]at h1
  | some q =>
   obtain⟨off,size⟩:=q;simp only[c,Bool.and_eq_true,tW,ble_eq]at h1;obtain⟨C,h4⟩:=h1;rw[ML c (by simpa using C) U,Tn vs _ (by simp at C;simp[C];omega) V];simp only[pV,yB,c]
variable {M:Array Oper}{K:Fr->World->Prop}{r:List Oper}{d:Nat}
def mX {parts:List (Nat × Operand)}{vs:List (Nat × Value)}{ls:List (Nat × List Value)}{places:List (Nat × Nat)}[S:bM P t places][Z':bD P t zs](c:(parts.map fun p=>(p.1,bh ρ p.2))=vs)(q:(vs.map fun p=>(p.1,p.2.cells.toList))=ls)(C:AT places zs.length ls=true)(h:opsW P M K r (fQ ρ d (.agg (yB places zs ls).toArray)) w):opsW P M K (⟨some d,.build t parts.toArray,ty,pos,af,none⟩::r) ρ w:=by
 subst q;exact S7 c (Tn vs zs rfl C) h
def BB {v:Value}(h:v.oneCell'=true):v.cells.toList=[v]:=by
 cases v<;>first|rfl|(simp[Value.oneCell']at h)
def zx (hx:bh ρ x=.agg vs.toArray)(Y:Z w0 w Γ)(h:∀ p w',Z w0 w' (am p t vs::Γ)->opsW P M K r (fQ ρ d (.pointer (some p))) w'):opsW P M K (⟨some d,.box t x,ty,pos,af,none⟩::r) ρ w :=
 SN hx Y fun p w' c=>h p w' (by simpa [Value.cells] using c)
end
section
variable {P:Program}{M:Array Oper}{K:Fr->World->Prop}{r:List Oper}{ρ:Fr}{w w0:World}{d:Nat}{ty:TypeId}{pos:String}{af:Array Edge}{dst:Option Nat}{x y:Operand}{t:TypeId}{Γ:List HP}{op:Op}{v:Value}
def Cw (h:opsW P M K r (fQ ρ d v) w)
  (c:eP P op=.pure:=by exact rfl)
  (hv:PureV P ⟨some d,op,ty,pos,af,none⟩ ρ v:=by
   first
    | (apply Sk;(conv=>lhs;whnf))
    | (apply MD;(conv=>lhs;whnf))
    | ((first|apply Sq|apply St|apply Ss|apply Sr)<;>exact rfl)
    | (apply Su<;>exact rfl)
    | (apply Sv<;>exact rfl)
    | ((first|apply Sw|apply Sx);exact rfl;exact rfl;omega;omega)
    | (apply Sy;exact rfl;exact rfl;(first|omega|assumption);(first|omega|assumption))
    | (apply Th;exact rfl;exact rfl;omega;omega;omega)
    | (apply Ti;exact rfl;exact rfl;omega)
    | (apply Sz;exact rfl)
    | (apply Tk;exact rfl)
    | (apply ME;exact rfl)
    | (apply SL;(conv=>lhs;whnf);(first|exact RS.at (by assumption) Y|exact bB Y|assumption))
    | (apply Tf;exact rfl)
    | (apply Tg;exact rfl;exact rfl;omega)
    | (apply SM;(conv=>lhs;whnf);exact rfl;(first|exact RS.at (by assumption) Y|exact bB Y|assumption);exact rfl;exact fg _;omega)
    | (apply MF;(conv=>lhs;whnf);exact rfl;(first|exact RS.at (by assumption) Y|exact bB Y|assumption);exact rfl;exact fg _;omega;omega)
    | (apply SG<;>exact rfl)
    | (apply SF;(conv=>lhs;whnf))
    | (apply SD;exact rfl)
    | (apply Tl;exact rfl)
    | (apply Tm;exact rfl)
    | (apply SE;exact rfl)
    | (apply SB<;>exact rfl)
    | (apply SC<;>exact rfl)
    | (apply B2<;>exact rfl)
    | (apply Sp<;>exact rfl)
    | (apply SJ;exact rfl)
    | (apply SK;exact rfl)
    | (apply SY;exact rfl)
    | (apply SZ;exact rfl)
    | (apply SV<;>exact rfl)
    | (apply SX<;>exact rfl)
    | (apply S0;exact rfl)
    | ((first|apply S4|apply S5)<;>exact rfl)
    | (apply SA;exact rfl;omega;omega)
    | (apply SH<;>exact rfl)
    | (apply Sm;exact rfl;(conv=>lhs;whnf);(conv=>lhs;whnf))
    | (apply Ta;(conv=>lhs;whnf);exact rfl;(first|exact RS.at (by assumption) Y|exact bB Y|assumption);exact rfl;omega;omega)
    | (apply Tb;(conv=>lhs;whnf);exact rfl;(first|exact RS.at (by assumption) Y|exact bB Y|assumption);exact rfl;omega;omega)
    | (apply Tc;(conv=>lhs;whnf);exact rfl;exact rfl;(first|exact RS.at (by assumption) Y|exact bB Y|assumption);exact rfl;omega;omega;omega)
    | (apply Td;(conv=>lhs;whnf);(first|exact RS.at (by assumption) Y|exact bB Y|assumption);exact rfl)):opsW P M K (⟨some d,op,ty,pos,af,none⟩::r) ρ w:=fR c hv h
def DM (h:opsW P M K r (fQ ρ d v) w)
  (c:eP P op=.eu:=by exact rfl)
  (hv:ReadV P ⟨some d,op,ty,pos,af,none⟩ ρ w v:=by
   first
    | (apply FT;exact rfl;exact Y;infer_instance;exact rfl)
    | (apply FU;exact rfl;exact Y;infer_instance;exact rfl)
    | (apply Ep;exact rfl;(first|exact RS.at (by assumption) Y|exact bB Y|assumption);omega)
    | (apply FZ;exact rfl;(first|exact RS.at (by assumption) Y|exact bB Y|assumption);omega;exact yh (fg _);infer_instance;exact rfl)
    | (apply FY;exact rfl;(first|exact RS.at (by assumption) Y|exact bB Y|assumption);omega;exact rfl;infer_instance)
    | (apply Em;exact rfl;(first|exact RS.at (by assumption) Y|exact bB Y|assumption);omega;exact rfl)
    | (apply En;exact rfl;(first|exact RS.at (by assumption) Y|exact bB Y|assumption);omega;exact yh (fg _);exact rfl)
    | (apply Eo;exact rfl;(first|exact RS.at (by assumption) Y|exact bB Y|assumption);omega;exact rfl)
    | (apply FV;exact rfl;exact Y;infer_instance;exact rfl)
    | (apply F0;exact rfl;exact eJ.at (by assumption) Y;exact rfl)
    | (apply F1;exact rfl;exact eJ.at (by assumption) Y;exact rfl)
    | (apply F3;exact rfl;exact eJ.at (by assumption) Y;exact rfl)):opsW P M K (⟨some d,op,ty,pos,af,none⟩::r) ρ w:=r7 c hv h
def wC {j:Nat}{want:Bool}{s:Nat}(h:opsW P M K (⟨dst,op,ty,pos,af,none⟩::r) ρ w)(c:kE M j=some s:=by exact rfl)(I:ud (ρ s) want=true:=by exact rfl):opsW P M K (⟨dst,op,ty,pos,af,some (j,want)⟩::r) ρ w:=ú c I h
def wD {j:Nat}{want:Bool}{s:Nat}(h:opsW P M K r (jq ρ dst undef) w)(c:kE M j=some s:=by exact rfl)(I:ud (ρ s) want=false:=by exact rfl):opsW P M K (⟨dst,op,ty,pos,af,some (j,want)⟩::r) ρ w:=û c I h
def I4 {j:Nat}{want c:Bool}{s:Nat}(h:opsW P M K r (fQ ρ d (gv c v)) w)
  (q:eP P op=.pure:=by exact rfl)(C:kE M j=some s:=by exact rfl)(I:Gd (ρ s) want c:=by first|exact MC _ _|exact yP _ _ _)
  (hv:c=true->PureV P ⟨some d,op,ty,pos,af,none⟩ ρ v:=by
   intro I;have hq:=I
   (try simp only[tW,Bool.and_eq_true,sL,jV,rL,tL,Ae,Af,pz,r5,Ag,zG,bne_iff_ne,ne_eq,tM,zH,yi,Ah]at hq)
   first
    | (apply ü I<;>exact rfl)
    | (apply ý I<;>exact rfl)
    | (apply Sk;(first|exact bJ I|exact bJ (bL I)|(conv=>lhs;whnf)))
    | (apply MD;(first|exact bJ I|exact bJ (bL I)|(conv=>lhs;whnf)))
    | ((first|apply Sq|apply St|apply Ss|apply Sr)<;>(first|exact rfl|exact bJ I|exact bJ (bL I)))
    | (apply Su<;>(first|exact rfl|exact bJ I|exact bJ (bL I)))
    | (apply Sv<;>(first|exact rfl|exact bJ I|exact bJ (bL I)))
    | ((first|apply Sw|apply Sx);(first|exact rfl|exact bJ I|exact bJ (bL I));(first|exact rfl|exact bJ I|exact bJ (bL I));omega;omega)
    | (apply Sy;(first|exact rfl|exact bJ I|exact bJ (bL I));(first|exact rfl|exact bJ I|exact bJ (bL I));(first|omega|assumption);(first|omega|assumption))
    | (apply Th;(first|exact rfl|exact bJ I|exact bJ (bL I));(first|exact rfl|exact bJ I|exact bJ (bL I));omega;omega;omega)
    | (apply Ti;(first|exact rfl|exact bJ I|exact bJ (bL I));(first|exact rfl|exact bJ I|exact bJ (bL I));omega)
    | (apply Sz;(first|exact rfl|exact bJ I|exact bJ (bL I)))
    | (apply Tk;(first|exact rfl|exact bJ I|exact bJ (bL I)))
    | (apply ME;(first|exact rfl|exact bJ I|exact bJ (bL I)))
    | (apply SL;(first|exact bJ I|exact bJ (bL I)|(conv=>lhs;whnf));(first|exact RS.at (by assumption) Y|exact bB Y|assumption))
    | (apply Tf;(first|exact rfl|exact bJ I|exact bJ (bL I)))
    | (apply Tg;(first|exact rfl|exact bJ I|exact bJ (bL I));(first|exact rfl|exact bJ I|exact bJ (bL I));omega)
    | (apply SM;(first|exact bJ I|exact bJ (bL I)|(conv=>lhs;whnf));(first|exact rfl|exact bJ I|exact bJ (bL I));(first|exact RS.at (by assumption) Y|exact bB Y|assumption);(first|exact rfl|exact bJ I|exact bJ (bL I));exact fg _;omega)
    | (apply MF;(first|exact bJ I|exact bJ (bL I)|(conv=>lhs;whnf));(first|exact rfl|exact bJ I|exact bJ (bL I));(first|exact RS.at (by assumption) Y|exact bB Y|assumption);(first|exact rfl|exact bJ I|exact bJ (bL I));exact fg _;omega;omega)
    | (apply SG<;>(first|exact rfl|exact bJ I|exact bJ (bL I)))
    | (apply SF;(first|exact bJ I|exact bJ (bL I)|(conv=>lhs;whnf)))
    | (apply SD;(first|exact rfl|exact bJ I|exact bJ (bL I)))
    | (apply Tl;(first|exact rfl|exact bJ I|exact bJ (bL I)))
    | (apply Tm;(first|exact rfl|exact bJ I|exact bJ (bL I)))
    | (apply SE;(first|exact rfl|exact bJ I|exact bJ (bL I)))
    | (apply SB<;>(first|exact rfl|exact bJ I|exact bJ (bL I)))
    | (apply SC<;>(first|exact rfl|exact bJ I|exact bJ (bL I)))
    | (apply B2<;>(first|exact rfl|exact bJ I|exact bJ (bL I)))
    | (apply Sp<;>(first|exact rfl|exact bJ I|exact bJ (bL I)))
    | (apply SJ;(first|exact rfl|exact bJ I|exact bJ (bL I)))
    | (apply SK;(first|exact rfl|exact bJ I|exact bJ (bL I)))
    | (apply SY;(first|exact rfl|exact bJ I|exact bJ (bL I)))
    | (apply SZ;(first|exact rfl|exact bJ I|exact bJ (bL I)))
    | (apply SV<;>(first|exact rfl|exact bJ I|exact bJ (bL I)))
    | (apply SX<;>(first|exact rfl|exact bJ I|exact bJ (bL I)))
    | (apply S0;(first|exact rfl|exact bJ I|exact bJ (bL I)))
    | ((first|apply S4|apply S5)<;>(first|exact rfl|exact bJ I|exact bJ (bL I)))
    | (apply SA;(first|exact rfl|exact bJ I|exact bJ (bL I));omega;omega)
    | (apply SH<;>(first|exact rfl|exact bJ I|exact bJ (bL I)))
    | (apply Sm;(first|exact rfl|exact bJ I|exact bJ (bL I));(first|exact bJ I|exact bJ (bL I)|(conv=>lhs;whnf));(first|exact bJ I|exact bJ (bL I)|(conv=>lhs;whnf)))
    | (apply Ta;(first|exact bJ I|exact bJ (bL I)|(conv=>lhs;whnf));(first|exact rfl|exact bJ I|exact bJ (bL I));(first|exact RS.at (by assumption) Y|exact bB Y|assumption);(first|exact rfl|exact bJ I|exact bJ (bL I));omega;omega)
    | (apply Tb;(first|exact bJ I|exact bJ (bL I)|(conv=>lhs;whnf));(first|exact rfl|exact bJ I|exact bJ (bL I));(first|exact RS.at (by assumption) Y|exact bB Y|assumption);(first|exact rfl|exact bJ I|exact bJ (bL I));omega;omega)
    | (apply Tc;(first|exact bJ I|exact bJ (bL I)|(conv=>lhs;whnf));(first|exact rfl|exact bJ I|exact bJ (bL I));(first|exact rfl|exact bJ I|exact bJ (bL I));(first|exact RS.at (by assumption) Y|exact bB Y|assumption);(first|exact rfl|exact bJ I|exact bJ (bL I));omega;omega;omega)
    | (apply Td;(first|exact bJ I|exact bJ (bL I)|(conv=>lhs;whnf));(first|exact RS.at (by assumption) Y|exact bB Y|assumption);(first|exact rfl|exact bJ I|exact bJ (bL I)))):opsW P M K (⟨some d,op,ty,pos,af,some (j,want)⟩::r) ρ w:=ø q C I hv h
def I5 {j:Nat}{want c:Bool}{s:Nat}(h:opsW P M K r (fQ ρ d (gv c v)) w)
  (q:eP P op=.eu:=by exact rfl)(C:kE M j=some s:=by exact rfl)(I:Gd (ρ s) want c:=by first|exact MC _ _|exact yP _ _ _)
  (hv:c=true->ReadV P ⟨some d,op,ty,pos,af,none⟩ ρ w v:=by
   intro I;have hq:=I
   (try simp only[tW,Bool.and_eq_true,sL,jV,rL,tL,Ae,Af,pz,r5,Ag,zG,bne_iff_ne,ne_eq,tM,zH,yi,Ah]at hq)
   first
    | (apply FT;(first|exact rfl|exact bJ I|exact bJ (bL I));exact Y;infer_instance;(first|exact rfl|exact bJ I|exact bJ (bL I)))
    | (apply FU;(first|exact rfl|exact bJ I|exact bJ (bL I));exact Y;infer_instance;(first|exact rfl|exact bJ I|exact bJ (bL I)))
    | (apply Ep;(first|exact rfl|exact bJ I|exact bJ (bL I));(first|exact RS.at (by assumption) Y|exact bB Y|assumption);omega)
    | (apply FZ;(first|exact rfl|exact bJ I|exact bJ (bL I));(first|exact RS.at (by assumption) Y|exact bB Y|assumption);omega;exact yh (fg _);infer_instance;(first|exact rfl|exact bJ I|exact bJ (bL I)))
    | (apply FY;(first|exact rfl|exact bJ I|exact bJ (bL I));(first|exact RS.at (by assumption) Y|exact bB Y|assumption);omega;(first|exact rfl|exact bJ I|exact bJ (bL I));infer_instance)
    | (apply Em;(first|exact rfl|exact bJ I|exact bJ (bL I));(first|exact RS.at (by assumption) Y|exact bB Y|assumption);omega;(first|exact rfl|exact bJ I|exact bJ (bL I)))
    | (apply En;(first|exact rfl|exact bJ I|exact bJ (bL I));(first|exact RS.at (by assumption) Y|exact bB Y|assumption);omega;exact yh (fg _);(first|exact rfl|exact bJ I|exact bJ (bL I)))
    | (apply Eo;(first|exact rfl|exact bJ I|exact bJ (bL I));(first|exact RS.at (by assumption) Y|exact bB Y|assumption);omega;(first|exact rfl|exact bJ I|exact bJ (bL I)))
    | (apply FV;(first|exact rfl|exact bJ I|exact bJ (bL I));exact Y;infer_instance;(first|exact rfl|exact bJ I|exact bJ (bL I)))
    | (apply F0;(first|exact rfl|exact bJ I|exact bJ (bL I));exact eJ.at (by assumption) Y;(first|exact rfl|exact bJ I|exact bJ (bL I)))
    | (apply F1;(first|exact rfl|exact bJ I|exact bJ (bL I));exact eJ.at (by assumption) Y;(first|exact rfl|exact bJ I|exact bJ (bL I)))
    | (apply F3;(first|exact rfl|exact bJ I|exact bJ (bL I));exact eJ.at (by assumption) Y;(first|exact rfl|exact bJ I|exact bJ (bL I)))):opsW P M K (⟨some d,op,ty,pos,af,some (j,want)⟩::r) ρ w:=ù q C I hv h
def xm (v:Value):gv (false == false) v=v:=bJ rfl
def xn (v:Value):gv (true == true) v=v:=bJ rfl
def To {j:Nat}{want b:Bool}{s:Nat}(h1:b=true->opsW P M K (⟨dst,op,ty,pos,af,some (j,want)⟩::r) ρ w)(q:b=false->opsW P M K (⟨dst,op,ty,pos,af,some (j,want)⟩::r) ρ w)(C:kE M j=some s:=by exact rfl)(S:ρ s=.bool b:=by exact rfl):opsW P M K (⟨dst,op,ty,pos,af,some (j,want)⟩::r) ρ w:=by
 cases c:b with
 | true=>exact h1 c
 | false=>exact q c
def H2 [Z':bD P t zs](h:∀ p w',Z w0 w' (am p t zs::Γ)->opsW P M K r (fQ ρ d (.pointer (some p))) w')(Y:Z w0 w Γ:=by exact Y):opsW P M K (⟨some d,.alloc t,ty,pos,af,none⟩::r) ρ w:=Ā Y h
def Bh (h:∀ p w',Z w0 w' (am p t v.cells.toList::Γ)->opsW P M K r (fQ ρ d (.pointer (some p))) w')(hx:bh ρ x=v:=by (conv=>lhs;whnf))(Y:Z w0 w Γ:=by exact Y):opsW P M K (⟨some d,.box t x,ty,pos,af,none⟩::r) ρ w:=SN hx Y h
def Tp {cells:List Value}{put:HP->List HP}[A:fi P t n](h:∀ w',Z w0 w' (put (am p bt vs))->opsW P M K r ρ w')(hx:bh ρ x=.pointer (some p):=by exact rfl)(c:bh ρ y=.agg vs.toArray:=by exact rfl)(Y:Z w0 w Γ:=by exact Y)(B:iC Γ p bt cells put:=by infer_instance)(q:vs.length=n:=by exact rfl)(C:cells.length=n:=by exact rfl)(hv:vs.all Value.oneCell'=true:=by first|exact rfl|assumption):opsW P M K (⟨none,.store t x y,ty,pos,af,none⟩::r) ρ w:=lm hx c Y B q C hv h
def Tq {α:Type}{T:Ty α}{s:Value}{xs:List α}{j:Nat}{e:TypeId}{x':α}{put:HP->List HP}[C:cA P t](h:∀ w',Z w0 w' (put (X T e s (xs.set j x')))->opsW P M K r ρ w')
  (hx:bh ρ x=.pointer (some (iZ T s j)):=by exact rfl)(c:bh ρ y=v:=by (conv=>lhs;whnf))(hv:v.oneCell'=true:=by first|exact rfl|exact RS.one (bB Y)|exact RS.one (by assumption))(Y:Z w0 w Γ:=by exact Y)(q:iP Γ s α T e xs put:=by infer_instance)(S:j<xs.length:=by omega)(he:T.enc x'=[v]:=by exact rfl):opsW P M K (⟨none,.store t x y,ty,pos,af,none⟩::r) ρ w:=ā hx c hv Y q S he h
def Tr {cells:List Value}{put:HP->List HP}[C:cA P t](h:∀ w',Z w0 w' (put (am p bt (cells.set 0 v)))->opsW P M K r ρ w')(hx:bh ρ x=.pointer (some p):=by exact rfl)(c:bh ρ y=v:=by (conv=>lhs;whnf))(hv:v.oneCell'=true:=by first|exact rfl|exact RS.one (bB Y)|exact RS.one (by assumption))(Y:Z w0 w Γ:=by exact Y)(B:iC Γ p bt cells put:=by infer_instance)(hk:0<cells.length:=by exact fg _):opsW P M K (⟨none,.store t x y,ty,pos,af,none⟩::r) ρ w:=ÿ hx c hv Y B hk h
def Ts {k:Nat}{cells:List Value}{put:HP->List HP}[C:cA P t](h:∀ w',Z w0 w' (put (am p bt (cells.set k v)))->opsW P M K r ρ w')(hx:bh ρ x=.pointer (some (p.add k)):=by exact rfl)(c:bh ρ y=v:=by (conv=>lhs;whnf))(hv:v.oneCell'=true:=by first|exact rfl|exact RS.one (bB Y)|exact RS.one (by assumption))(Y:Z w0 w Γ:=by exact Y)(B:iC Γ p bt cells put:=by infer_instance)(hk:k<cells.length:=by exact yh (fg _)):opsW P M K (⟨none,.store t x y,ty,pos,af,none⟩::r) ρ w:=H3 hx c hv Y B hk h
def ē {e:Nat}{n:Int}[S:bw P t e sz by_][Z':bD P e zs](h:∀ s w',Z w0 w' (X W e s (replicate n.toNat 0)::Γ)->opsW P M K r (fQ ρ d s) w')(hx:bh ρ x=E n:=by exact rfl)(q:bh ρ y=E n:=by exact rfl)(c:sz=W.sz:=by exact rfl)(C:W.enc 0=zs:=by exact rfl)(V:0<=n:=by omega)(hb:by_*n<=281474976710656:=by omega)(hn:n<=281474976710656:=by omega)(Y:Z w0 w Γ:=by exact Y):opsW P M K (⟨some d,.makeSlice t x y,ty,pos,af,none⟩::r) ρ w:=Ct W 0 hx q c C V hb hn Y h
def Ĕ {e:Nat}{n:Int}[S:bw P t e sz by_][Z':bD P e zs](h:∀ s w',Z w0 w' (X ah e s (replicate n.toNat false)::Γ)->opsW P M K r (fQ ρ d s) w')(hx:bh ρ x=E n:=by exact rfl)(q:bh ρ y=E n:=by exact rfl)(c:sz=ah.sz:=by exact rfl)(C:ah.enc false=zs:=by exact rfl)(V:0<=n:=by omega)(hb:by_*n<=281474976710656:=by omega)(hn:n<=281474976710656:=by omega)(Y:Z w0 w Γ:=by exact Y):opsW P M K (⟨some d,.makeSlice t x y,ty,pos,af,none⟩::r) ρ w:=Ct ah false hx q c C V hb hn Y h
def ĕ {e:Nat}{n:Int}[S:bw P t e sz by_][Z':bD P e zs](h:∀ s w',Z w0 w' (X aA e s (replicate n.toNat (nS))::Γ)->opsW P M K r (fQ ρ d s) w')(hx:bh ρ x=E n:=by exact rfl)(q:bh ρ y=E n:=by exact rfl)(c:sz=aA.sz:=by exact rfl)(C:aA.enc (nS)=zs:=by exact rfl)(V:0<=n:=by omega)(hb:by_*n<=281474976710656:=by omega)(hn:n<=281474976710656:=by omega)(Y:Z w0 w Γ:=by exact Y):opsW P M K (⟨some d,.makeSlice t x y,ty,pos,af,none⟩::r) ρ w:=Ct aA (nS) hx q c C V hb hn Y h
def I6 {i1:Nat}{places:List (Nat × Nat)}[S:bM P t places][Z':bD P t zs](h:opsW P M K r (fQ ρ d (.agg (mS zs [(i1,v1)]).toArray)) w)(h1:bh ρ x1=v1:=by (conv=>lhs;whnf))(c:nV places zs.length=true:=by exact rfl)(hv:[(i1,v1)].all (fun p=>decide (p.1<zs.length) && p.2.oneCell')=true:=by exact rfl):opsW P M K (⟨some d,.build t #[(i1,x1)],ty,pos,af,none⟩::r) ρ w:=K8 h1 c hv h
def I7 {i1 i2:Nat}{v2:Value}{places:List (Nat × Nat)}[S:bM P t places][Z':bD P t zs](h:opsW P M K r (fQ ρ d (.agg (mS zs [(i1,v1),(i2,v2)]).toArray)) w)(h1:bh ρ x1=v1:=by (conv=>lhs;whnf))(h2:bh ρ x2=v2:=by (conv=>lhs;whnf))(c:nV places zs.length=true:=by exact rfl)(hv:[(i1,v1),(i2,v2)].all (fun p=>decide (p.1<zs.length) && p.2.oneCell')=true:=by exact rfl):opsW P M K (⟨some d,.build t #[(i1,x1),(i2,x2)],ty,pos,af,none⟩::r) ρ w:=zr h1 h2 c hv h
def I8 {i1 i2 i3:Nat}{v2 v3:Value}{places:List (Nat × Nat)}[S:bM P t places][Z':bD P t zs](h:opsW P M K r (fQ ρ d (.agg (mS zs [(i1,v1),(i2,v2),(i3,v3)]).toArray)) w)(h1:bh ρ x1=v1:=by (conv=>lhs;whnf))(h2:bh ρ x2=v2:=by (conv=>lhs;whnf))(c:bh ρ x3=v3:=by (conv=>lhs;whnf))(q:nV places zs.length=true:=by exact rfl)(hv:[(i1,v1),(i2,v2),(i3,v3)].all (fun p=>decide (p.1<zs.length) && p.2.oneCell')=true:=by exact rfl):opsW P M K (⟨some d,.build t #[(i1,x1),(i2,x2),(i3,x3)],ty,pos,af,none⟩::r) ρ w:=Cy h1 h2 c q hv h
def Ė {e:Nat}{n:Int}[S:bw P t e sz by_][Z':bD P e zs](h:∀ s w',Z w0 w' (X W e s [n]::Γ)->opsW P M K r (fQ ρ d s) w')(hx:bh ρ x=E n:=by exact rfl)(c:sz=W.sz:=by exact rfl)(q:sz<=16777216:=by exact fP rfl)(C:0<sz:=by exact fg _)(Y:Z w0 w Γ:=by exact Y):opsW P M K (⟨some d,.buildSlice t 1 #[(0,x)],ty,pos,af,none⟩::r) ρ w:=jA W hx rfl c q C Y h
def ė {e:Nat}[S:bw P t e sz by_][Z':bD P e zs](h:∀ s w',Z w0 w' (X aA e s [v]::Γ)->opsW P M K r (fQ ρ d s) w')(hx:bh ρ x=v:=by (conv=>lhs;whnf))(C:v.cells.toList=[v]:=by first|exact rfl|exact RS.fu (bB Y)|exact RS.fu (by assumption))(c:sz=aA.sz:=by exact rfl)(q:sz<=16777216:=by exact fP rfl)(V:0<sz:=by exact fg _)(Y:Z w0 w Γ:=by exact Y):opsW P M K (⟨some d,.buildSlice t 1 #[(0,x)],ty,pos,af,none⟩::r) ρ w:=jA aA hx C c q V Y h
def Q8 {α:Type}{T:Ty α}{s s2:Value}{xs ys:List α}{e:Nat}{put:HP->List HP}[S:bw P t e sz by_][Z':bD P e zs](h:∀ s' w',Z w0 w' (put (X T e s' (xs++ys)))->opsW P M K r (fQ ρ d s') w')(hx:bh ρ x=s:=by (conv=>lhs;whnf))(C:bh ρ y=s2:=by (conv=>lhs;whnf))(Y:Z w0 w Γ:=by exact Y)(V:iP Γ s α T e xs put:=by infer_instance)(h2:RS T w s2 ys:=by (first|exact RS.at (by assumption) Y|exact bB Y|assumption))(c:sz=T.sz:=by exact rfl)(q:zs.length=sz:=by exact rfl)(hone:∀ x∈ys,∀ v∈T.enc x,v.oneCell'=true:=by first|exact fun x _ v hv=>lU.ok x v hv|(intro x hx v hv;rw[fU.1 hx]at hv;rw[fU.1 hv];first|exact rfl|exact RS.one (bB Y)|exact RS.one (by assumption)))(hb:(xs.length+ys.length)*by_<=140737488355328:=by first|omega|(simp only[length_append,length_cons,length_nil,mp]at *;omega))(hl:xs.length+ys.length<=cn:=by first|(unfold cn;omega)|(unfold cn;simp only[length_append,length_cons,length_nil,mp]at *;omega)) :
  opsW P M K (⟨some d,.call { callee:=.builtin .append,args:=#[x,y],argTypes:=#[t,t] },ty,pos,af,none⟩::r) ρ w:=sF V hx C h2 c q hone hb hl Y h
def F4 (h:opsD P l.toArray K is ρ w)(c:l[i]? = some ⟨some d,op,ty,pos,af,none⟩:=by exact rfl)(hv:ReadV P ⟨some d,op,ty,pos,af,none⟩ ρ w v:=by
   first
    | (apply FT;exact rfl;exact Y;infer_instance;exact rfl)
    | (apply FU;exact rfl;exact Y;infer_instance;exact rfl)
    | (apply Ep;exact rfl;(first|exact RS.at (by assumption) Y|exact bB Y|assumption);omega)
    | (apply FZ;exact rfl;(first|exact RS.at (by assumption) Y|exact bB Y|assumption);omega;exact yh (fg _);infer_instance;exact rfl)
    | (apply FY;exact rfl;(first|exact RS.at (by assumption) Y|exact bB Y|assumption);omega;exact rfl;infer_instance)
    | (apply Em;exact rfl;(first|exact RS.at (by assumption) Y|exact bB Y|assumption);omega;exact rfl)
    | (apply En;exact rfl;(first|exact RS.at (by assumption) Y|exact bB Y|assumption);omega;exact yh (fg _);exact rfl)
    | (apply Eo;exact rfl;(first|exact RS.at (by assumption) Y|exact bB Y|assumption);omega;exact rfl)
    | (apply FV;exact rfl;exact Y;infer_instance;exact rfl)
    | (apply F0;exact rfl;exact eJ.at (by assumption) Y;exact rfl)
    | (apply F1;exact rfl;exact eJ.at (by assumption) Y;exact rfl)
    | (apply F3;exact rfl;exact eJ.at (by assumption) Y;exact rfl))(he:ρ d=v:=by exact rfl):opsD P l.toArray K (.cY i::is) ρ w:=MJ c hv he h
def I9 {j:Nat}{want c:Bool}{s:Nat}(h:opsD P l.toArray K is ρ w)(C:l[i]? = some ⟨some d,op,ty,pos,af,some (j,want)⟩:=by exact rfl)(S:kE l.toArray j=some s:=by exact rfl)(I:Gd (ρ s) want c:=by first|exact MC _ _|exact yP _ _ _)(he:ρ d=gv c v:=by exact rfl)(hv:c=true->ReadV P ⟨some d,op,ty,pos,af,none⟩ ρ w v:=by
   intro I;have hq:=I
   (try simp only[tW,Bool.and_eq_true,sL,jV,rL,tL,Ae,Af,pz,r5,Ag,zG,bne_iff_ne,ne_eq,tM,zH,yi,Ah]at hq)
   first
    | (apply FT;(first|exact rfl|exact bJ I|exact bJ (bL I));exact Y;infer_instance;(first|exact rfl|exact bJ I|exact bJ (bL I)))
    | (apply FU;(first|exact rfl|exact bJ I|exact bJ (bL I));exact Y;infer_instance;(first|exact rfl|exact bJ I|exact bJ (bL I)))
    | (apply Ep;(first|exact rfl|exact bJ I|exact bJ (bL I));(first|exact RS.at (by assumption) Y|exact bB Y|assumption);omega)
    | (apply FZ;(first|exact rfl|exact bJ I|exact bJ (bL I));(first|exact RS.at (by assumption) Y|exact bB Y|assumption);omega;exact yh (fg _);infer_instance;(first|exact rfl|exact bJ I|exact bJ (bL I)))
    | (apply FY;(first|exact rfl|exact bJ I|exact bJ (bL I));(first|exact RS.at (by assumption) Y|exact bB Y|assumption);omega;(first|exact rfl|exact bJ I|exact bJ (bL I));infer_instance)
    | (apply Em;(first|exact rfl|exact bJ I|exact bJ (bL I));(first|exact RS.at (by assumption) Y|exact bB Y|assumption);omega;(first|exact rfl|exact bJ I|exact bJ (bL I)))
    | (apply En;(first|exact rfl|exact bJ I|exact bJ (bL I));(first|exact RS.at (by assumption) Y|exact bB Y|assumption);omega;exact yh (fg _);(first|exact rfl|exact bJ I|exact bJ (bL I)))
    | (apply Eo;(first|exact rfl|exact bJ I|exact bJ (bL I));(first|exact RS.at (by assumption) Y|exact bB Y|assumption);omega;(first|exact rfl|exact bJ I|exact bJ (bL I)))
    | (apply FV;(first|exact rfl|exact bJ I|exact bJ (bL I));exact Y;infer_instance;(first|exact rfl|exact bJ I|exact bJ (bL I)))
    | (apply F0;(first|exact rfl|exact bJ I|exact bJ (bL I));exact eJ.at (by assumption) Y;(first|exact rfl|exact bJ I|exact bJ (bL I)))
    | (apply F1;(first|exact rfl|exact bJ I|exact bJ (bL I));exact eJ.at (by assumption) Y;(first|exact rfl|exact bJ I|exact bJ (bL I)))
    | (apply F3;(first|exact rfl|exact bJ I|exact bJ (bL I));exact eJ.at (by assumption) Y;(first|exact rfl|exact bJ I|exact bJ (bL I)))):opsD P l.toArray K (.cY i::is) ρ w:=by
 refine MK (v:=v) C (fun hq=>?_) h;have q:c=true:=by
  simp only[ik,S]at hq;rw[<-hq];exact I.symm
 exact⟨hv q,by rw[he,q];exact bJ rfl⟩
def Ja {j:Nat}{want:Bool}(h:opsD P l.toArray K is ρ w)(c:l[i]? = some ⟨some d,op,ty,pos,af,some (j,want)⟩:=by exact rfl)(hv:ReadV P ⟨some d,op,ty,pos,af,none⟩ ρ w v:=by
   first
    | (apply FT;exact rfl;exact Y;infer_instance;exact rfl)
    | (apply FU;exact rfl;exact Y;infer_instance;exact rfl)
    | (apply Ep;exact rfl;(first|exact RS.at (by assumption) Y|exact bB Y|assumption);omega)
    | (apply FZ;exact rfl;(first|exact RS.at (by assumption) Y|exact bB Y|assumption);omega;exact yh (fg _);infer_instance;exact rfl)
    | (apply FY;exact rfl;(first|exact RS.at (by assumption) Y|exact bB Y|assumption);omega;exact rfl;infer_instance)
    | (apply Em;exact rfl;(first|exact RS.at (by assumption) Y|exact bB Y|assumption);omega;exact rfl)
    | (apply En;exact rfl;(first|exact RS.at (by assumption) Y|exact bB Y|assumption);omega;exact yh (fg _);exact rfl)
    | (apply Eo;exact rfl;(first|exact RS.at (by assumption) Y|exact bB Y|assumption);omega;exact rfl)
    | (apply FV;exact rfl;exact Y;infer_instance;exact rfl)
    | (apply F0;exact rfl;exact eJ.at (by assumption) Y;exact rfl)
    | (apply F1;exact rfl;exact eJ.at (by assumption) Y;exact rfl)
    | (apply F3;exact rfl;exact eJ.at (by assumption) Y;exact rfl))(he:ρ d=v:=by exact rfl):opsD P l.toArray K (.cY i::is) ρ w:=MK c (fun _=>⟨hv,he⟩) h
def Jb {j:Nat}{want:Bool}{s:Nat}(h:opsD P l.toArray K is ρ w)(c:l[i]? = some ⟨some d,op,ty,pos,af,some (j,want)⟩:=by exact rfl)(q:kE l.toArray j=some s:=by exact rfl)(I:ud (ρ s) want=false:=by exact rfl):opsD P l.toArray K (.cY i::is) ρ w:=by
 refine MK (v:=.bool false) c (fun hq=>?_) h;simp only[ik,q]at hq;rw[I]at hq;cases hq
def qM {Q:Exit->Fr->World->Prop}(h:∀ w',Z w0 w' Γ->opsW P l.toArray (Q .normal) l ρ w')(Y:Z w0 w Γ:=by exact Y)(c:sA P l.toArray=true:=by decide +kernel):vc P (.region i l.toArray true) Q ρ w:=ą Y c h
def Jc {Q:Exit->Fr->World->Prop}{j:Nat}(h:Q (.exit i) ρ w)(c:Nat.beq i j=false:=by exact rfl):Blk j Q (.exit i) ρ w:=Ć c h
def j2 {Q:Exit->Fr->World->Prop}{c:Operand}{x y:Code}{b:Bool}{p q:Prop}(h1:p->vc P x Q ρ w)(C:q->vc P y Q ρ w)(S:bh ρ c=.bool b:=by exact rfl)
  (V:b=true->p:=by
   intro hq
   (try simp only[tW,Bool.and_eq_true,sL,jV,rL,tL,Ae,Af,pz,r5,Ag,zG,bne_iff_ne,ne_eq,tM,zH,yi,Ah]at hq)
   exact hq)
  (hn:b=false->q:=by
   intro hq
   (try simp only[tW,Bool.and_eq_true,sL,jV,rL,tL,Ae,Af,pz,r5,Ag,zG,bne_iff_ne,ne_eq,tM,zH,yi,Ah]at hq)
   exact hq):vc P (.cond c x y) Q ρ w:=Ă S (fun h=>h1 (V h)) (fun h=>C (hn h))
def Tt {Q:Exit->Fr->World->Prop}{c:Operand}{a b:Code}(h:vc P a Q ρ w)(q:bh ρ c=.bool true:=by exact rfl):vc P (.cond c a b) Q ρ w:=ă q h
def Tu {Q:Exit->Fr->World->Prop}{c:Operand}{a b:Code}(h:vc P b Q ρ w)(q:bh ρ c=.bool false:=by exact rfl):vc P (.cond c a b) Q ρ w:=Ą q h
structure eO (p:Prop):Prop where
 out:p
def dS (h:G')(c:eO G'->G:=by intro hgo;(first|refine w6 ?_|refine D6 ?_|refine ve ?_|refine Bn ?_|refine Cw ?_|refine DM ?_|refine DL ?_|refine IW ?_|refine IN ?_|refine IP ?_|refine IQ ?_|refine IU ?_|refine IV ?_|refine IX ?_|refine IY ?_|refine Jc ?_|refine Tt ?_|refine Tu ?_|refine Bz ?_|refine FW ?_|refine F4 ?_|refine Jb ?_|refine Ja ?_|refine I9 ?_|refine IS ?_|refine IT ?_|refine wC ?_|refine wD ?_|refine I4 ?_|refine I5 ?_|refine I6 ?_|refine I7 ?_|refine I8 ?_);(repeat (first|refine w6 ?_|refine D6 ?_|refine ve ?_|refine Bn ?_|refine Cw ?_|refine DM ?_|refine DL ?_|refine IW ?_|refine IN ?_|refine IP ?_|refine IQ ?_|refine IU ?_|refine IV ?_|refine IX ?_|refine IY ?_|refine Jc ?_|refine Tt ?_|refine Tu ?_|refine Bz ?_|refine FW ?_|refine F4 ?_|refine Jb ?_|refine Ja ?_|refine I9 ?_|refine IS ?_|refine IT ?_|refine wC ?_|refine wD ?_|refine I4 ?_|refine I5 ?_|refine I6 ?_|refine I7 ?_|refine I8 ?_));exact hgo.out):G:=c ⟨h⟩
def MN (h:G')(c:eO G'->G:=by intro hgo;(first|refine w6 ?_|refine D6 ?_|refine ve ?_|refine Bn ?_|refine Cw ?_|refine DM ?_|refine DL ?_|refine IW ?_|refine IN ?_|refine IP ?_|refine IQ ?_|refine IU ?_|refine IV ?_|refine IX ?_|refine IY ?_|refine Jc ?_|refine Bz ?_|refine FW ?_|refine F4 ?_|refine Jb ?_|refine Ja ?_|refine I9 ?_|refine IS ?_|refine IT ?_|refine wC ?_|refine wD ?_|refine I4 ?_|refine I5 ?_|refine I6 ?_|refine I7 ?_|refine I8 ?_);(repeat (first|refine w6 ?_|refine D6 ?_|refine ve ?_|refine Bn ?_|refine Cw ?_|refine DM ?_|refine DL ?_|refine IW ?_|refine IN ?_|refine IP ?_|refine IQ ?_|refine IU ?_|refine IV ?_|refine IX ?_|refine IY ?_|refine Jc ?_|refine Bz ?_|refine FW ?_|refine F4 ?_|refine Jb ?_|refine Ja ?_|refine I9 ?_|refine IS ?_|refine IT ?_|refine wC ?_|refine wD ?_|refine I4 ?_|refine I5 ?_|refine I6 ?_|refine I7 ?_|refine I8 ?_));exact hgo.out):G:=c ⟨h⟩
def iT (h:G')(c:eO G'->G:=by intro hgo;(first|refine H2 ?_|refine Bh ?_);exact hgo.out):G:=c ⟨h⟩
def rG (h:G')(c:eO G'->G:=by intro hgo;(first|refine Tp ?_|refine Tq ?_|refine Tr ?_|refine Ts ?_|refine qM ?_);exact hgo.out):G:=c ⟨h⟩
def uP (h:G')(c:eO G'->G:=by intro hgo;(first|refine Tp ?_|refine Tq ?_|refine Tr ?_|refine Ts ?_);exact hgo.out):G:=c ⟨h⟩
def Ę (h:G')(c:eO G'->G:=by intro hgo;(first|refine qM ?_);exact hgo.out):G:=c ⟨h⟩
def gA (h:G')(c:eO G'->G:=by intro hgo;(first|refine ē ?_|refine Ĕ ?_|refine ĕ ?_|refine Ė ?_|refine ė ?_|refine Q8 ?_);exact hgo.out):G:=c ⟨h⟩
end
def rK (h:G')(c:eO G'->G:=by intro hgo;(repeat refine MN ?_);exact hgo.out):G:=c ⟨h⟩
def O (h:G')(c:eO G'->G:=by intro hgo;(repeat refine dS ?_);exact hgo.out):G:=c ⟨h⟩
def dj (h:G')(c:eO G'->G:=by intro hgo;(repeat (first|refine dS ?_|(refine iT ?_;(try clear Y);intro p w Y)|(refine uP ?_;(try clear Y);intro w Y)|(refine gA ?_;(try clear Y);intro s w Y)));revert p w;exact hgo.out):G:=c ⟨h⟩
def ep (h:G')(c:eO G'->G:=by intro hgo;(repeat (first|refine dS ?_|(refine iT ?_;(try clear Y);intro p w Y)|(refine rG ?_;(try clear Y);intro w Y)|(refine gA ?_;(try clear Y);intro s w Y)));revert p w;exact hgo.out):G:=c ⟨h⟩
def jD (h:G')(c:eO G'->G:=by intro hgo;(repeat (first|refine dS ?_|(refine iT ?_;(try clear Y);intro p w Y)|(refine uP ?_;(try clear Y);intro w Y)|(refine gA ?_;(try clear Y);intro s w Y)));revert w;exact hgo.out):G:=c ⟨h⟩
def dD (h:G')(c:eO G'->G:=by intro hgo;(repeat (first|refine dS ?_|(refine iT ?_;(try clear Y);intro p w Y)|(refine rG ?_;(try clear Y);intro w Y)|(refine gA ?_;(try clear Y);intro s w Y)));revert w;exact hgo.out):G:=c ⟨h⟩
def qJ (h:G')(c:eO G'->G:=by intro hgo;(repeat (first|refine dS ?_|(refine iT ?_;(try clear Y);intro p w Y)|(refine uP ?_;(try clear Y);intro w Y)|(refine gA ?_;(try clear Y);intro s w Y)));revert s w;exact hgo.out):G:=c ⟨h⟩
def kO (h:G')(c:eO G'->G:=by intro hgo;(repeat (first|refine dS ?_|(refine iT ?_;(try clear Y);intro p w Y)|(refine rG ?_;(try clear Y);intro w Y)|(refine gA ?_;(try clear Y);intro s w Y)));revert s w;exact hgo.out):G:=c ⟨h⟩
def KS (h:G')(c:eO G'->G:=by intro hgo;(repeat (first|refine dS ?_|(refine iT ?_;(try clear Y);intro p w Y)|(refine Ę ?_;(try clear Y);intro w Y)|(refine gA ?_;(try clear Y);intro s w Y)));revert p w;exact hgo.out):G:=c ⟨h⟩
def Yn (h:G')(c:eO G'->G:=by intro hgo;(repeat (first|refine MN ?_|(refine iT ?_;(try clear Y);intro p w Y)|(refine rG ?_;(try clear Y);intro w Y)|(refine gA ?_;(try clear Y);intro s w Y)));revert p w;exact hgo.out):G:=c ⟨h⟩
def GS (h:G')(c:eO G'->G:=by intro hgo;(repeat (first|refine dS ?_|(refine iT ?_;(try clear Y);intro p w Y)|(refine gA ?_;(try clear Y);intro s w Y)));revert p w;exact hgo.out):G:=c ⟨h⟩
def iw (h:G')(c:eO G'->G:=by intro hgo;rintro _ w' ⟨rfl,aw⟩;replace Y:=Y.cH aw;clear aw;refine⟨_,rfl,?_⟩;(repeat refine dS ?_);revert w';exact hgo.out):G:=c ⟨h⟩
def aC (h1:G1)(h2:G2)(c:eO G1->eO G2->G:=by intro hgo hgi;(repeat refine dS ?_);refine j2 ?_ ?_;rotate_left;exact hgi.out;exact hgo.out):G:=c ⟨h1⟩ ⟨h2⟩
def AN (h:G')(c:eO G'->G:=by intro hgo;rintro _ w' ⟨rfl,aw⟩;replace Y:=Y.cH aw;clear aw;refine⟨_,rfl,?_⟩;(repeat (first|refine dS ?_|(refine iT ?_;(try clear Y);intro p w Y)|(refine uP ?_;(try clear Y);intro w Y)|(refine gA ?_;(try clear Y);intro s w Y)));revert p w;exact hgo.out):G:=c ⟨h⟩
def xu (h:G')(c:eO G'->G:=by intro hgo;rintro _ w' ⟨rfl,aw⟩;replace Y:=Y.cH aw;clear aw;refine⟨_,rfl,?_⟩;(repeat (first|refine dS ?_|(refine iT ?_;(try clear Y);intro p w Y)|(refine uP ?_;(try clear Y);intro w Y)|(refine gA ?_;(try clear Y);intro s w Y)));revert w;exact hgo.out):G:=c ⟨h⟩
def lE (h1:G1)(h2:G2)(c:eO G1->eO G2->G:=by intro hgo hgi;(repeat (first|refine dS ?_|(refine iT ?_;(try clear Y);intro p w Y)|(refine rG ?_;(try clear Y);intro w Y)|(refine gA ?_;(try clear Y);intro s w Y)));refine j2 ?_ ?_;rotate_left;revert p w;exact hgi.out;revert p w;exact hgo.out):G:=c ⟨h1⟩ ⟨h2⟩
def sU (h1:G1)(h2:G2)(c:eO G1->eO G2->G:=by intro hgo hgi;(repeat (first|refine dS ?_|(refine iT ?_;(try clear Y);intro p w Y)|(refine rG ?_;(try clear Y);intro w Y)|(refine gA ?_;(try clear Y);intro s w Y)));refine j2 ?_ ?_;rotate_left;revert w;exact hgi.out;revert w;exact hgo.out):G:=c ⟨h1⟩ ⟨h2⟩
def O4 (h1:G1)(h2:G2)(c:eO G1->eO G2->G:=by intro hgo hgi;(repeat (first|refine MN ?_|(refine iT ?_;(try clear Y);intro p w Y)|(refine rG ?_;(try clear Y);intro w Y)|(refine gA ?_;(try clear Y);intro s w Y)));refine j2 ?_ ?_;rotate_left;revert p w;exact hgi.out;revert p w;exact hgo.out):G:=c ⟨h1⟩ ⟨h2⟩
def B6 (h1:G1)(h2:G2)(c:eO G1->eO G2->G:=by intro hgo hgi;rintro _ w' ⟨rfl,aw⟩;replace Y:=Y.cH aw;clear aw;refine⟨_,rfl,?_⟩;(repeat refine dS ?_);refine j2 ?_ ?_;rotate_left;revert w';exact hgi.out;revert w';exact hgo.out):G:=c ⟨h1⟩ ⟨h2⟩
def GT (h:G')(c:eO G'->G:=by intro hgo;rintro _ w' ⟨rfl,aw⟩;replace Y:=Y.cH aw;clear aw;refine⟨_,rfl,?_⟩;(repeat (first|refine dS ?_|(refine iT ?_;(try clear Y);intro p w Y)|(refine rG ?_;(try clear Y);intro w Y)|(refine gA ?_;(try clear Y);intro s w Y)));revert p w;exact hgo.out):G:=c ⟨h⟩
def gk (h:G')(c:eO G'->G:=by intro hgo;rintro _ w' ⟨rfl,aw⟩;replace Y:=Y.cH aw;clear aw;refine⟨_,rfl,?_⟩;revert w';exact hgo.out):G:=c ⟨h⟩
def rm (h:G')(c:eO G'->G:=by intro hgo;replace Y:=Y.call aw;refine⟨_,rfl,?_⟩;revert Y;exact hgo.out):G:=c ⟨h⟩
def aL (h:G')(c:eO G'->G:=by intro hgo;replace Y:=Y.cH aw;refine⟨_,rfl,?_⟩;revert Y;exact hgo.out):G:=c ⟨h⟩
def aO (h:G')(c:eO G'->G:=by intro hgo;replace Y:=Y.pI aw;refine⟨_,rfl,?_⟩;revert Y;exact hgo.out):G:=c ⟨h⟩
def kl (h:G')(c:eO G'->G:=by intro hgo;replace Y:=Y.wz aw;refine⟨_,rfl,?_⟩;revert Y;exact hgo.out):G:=c ⟨h⟩
def bI {P:Program}{f:FuncId}{fn:Func}{c:Code}{args:List Value}{w:World}(hm:P.follows .mixedOrders=true)(C:P.funcs[f]? = some fn)(h:vc P c (mR P fn fun v w'=>R (.returned v) w') (xw args) w)(S:fn.body=some c:=by exact rfl)(q:oR fn.ntmps c=true:=by kernel_rfl)(V:args.length<=fn.ntmps:=by exact fP rfl):Calls P f args.toArray w R:=õ hm C S q V h
def aX {ρ c:Fr}(h:jf W_ c ρ:=by repeat (first|exact SQ|(apply SR rfl)|(apply ć rfl)|(apply SS rfl))):jf W_ c ρ:=h
end
end Go.Sl
