/- Several texts. -/
import Derived.OrdersIn
import Derived.KernelRfl
import Derived.Below
import Derived.Laws.Sem
import Derived.Laws.Cells
import Derived.Laws.Small
import Derived.Laws.Slices
import Derived.Laws.World
import Derived.Laws.BitsLemmas
import Derived.WideLaws
import Derived.ChangeKeysEq
import Derived.Conc.MuLone
import Derived.Laws.AppendOwn
import Derived.Laws.Pointers
set_option linter.unusedSimpArgs false
set_option linter.unusedVariables false
set_option linter.defProp false
set_option maxRecDepth 8000
set_option maxHeartbeats 16000000
open List Nat
namespace Go.Sl
variable {i sz by_ n f m ft lo hi:Nat}{p:Addr}{G G' G1 G2:Prop}{zs vs:List Value}{bt:TypeId}{l:List Oper}{D F:Oper}{R:Ending->World->Prop}{x1 x2 x3:Operand}{v1 u s':Value}{cs:Array Value}{ts:Array TypeId}{w':World}{W_:List Nat}{K':Act->World->Prop}{b':Bool}{φ:World->Prop}{H:Type}
section
def U {P:Prop}(h:P:=by omega):P:=h
def dc {P:Prop}(h:P:=by decide):P:=h
def sm {P:Prop}(h:P:=by simp):P:=h
def kr {P:Prop}(h:P:=by kernel_rfl):P:=h
abbrev az:=@trivial
abbrev aC:=@if_neg
abbrev aM:=@if_pos
abbrev bu:=@zero_le
abbrev cD:=@Nat.le_refl
abbrev dp:=@mem_singleton
abbrev dr:=@not_lt_zero
abbrev dt:=@Int.le_refl
abbrev dy:=@decide_eq_true
abbrev dU:=@decide_eq_false
abbrev ee:=@mem_cons
abbrev eD:=@all_cons
abbrev eH:=@Result.andThen_ok
abbrev eN:=@all_nil
abbrev eP:=@Sem.run_bind
abbrev fe:=@zero_lt_succ
abbrev fI:=@not_mem_nil
abbrev fJ:=@getElem_of_mem
abbrev fL:=@append_assoc
abbrev fS:=@append_nil
abbrev fY:=@le_of_ble_eq_true
abbrev fZ:=@Sem.run_pure
abbrev gA:=@Int.toNat_of_nonneg
abbrev gz:=@mem_cons_self
abbrev gG:=@mem_append
abbrev gH:=@take_of_length_le
abbrev gQ:=@decide_eq_true_eq
abbrev gY:=@length_set
abbrev iz:=@length_map
abbrev iB:=@ext_getElem
abbrev iD:=@getD_eq_getElem?_getD
abbrev iS:=@mem_map
abbrev iR:=@mem_cons_of_mem
abbrev iX:=@getElem?_append_left
abbrev jd:=@length_take
abbrev jo:=@Int.toNat_natCast
abbrev kn:=@getElem?_append_right
abbrev kL:=@nil_append
abbrev kN:=@getElem?_eq_getElem
abbrev kO:=@flatMap_cons
abbrev kV:=@take_length
abbrev kW:=@Array.getElem?_eq_some_iff
abbrev l5:=@range_succ
abbrev l8:=@map_cons
abbrev mI:=@set_cons_zero
abbrev mM:=@set_cons_succ
abbrev mK:=@getElem_map
abbrev nr:=@Classical.byContradiction
abbrev nu:=@Nat.lt_or_ge
abbrev nH:=@Bool.not_true
abbrev nD:=@length_replicate
abbrev nG:=@Bool.eq_false_iff
abbrev n0:=@eq_nil_of_length_eq_zero
abbrev oh:=@map_append
abbrev pO:=@mem_of_mem_take
abbrev pT:=@Nat.le_trans
abbrev pP:=@or_false
abbrev pS:=@drop_eq_nil_of_le
abbrev qa:=@Bool.or_eq_true
abbrev qA:=@decide_eq_false_iff_not
abbrev qC:=@cons_append
abbrev qy:=@congrArg
abbrev qD:=@Nat.add_mul
abbrev q6:=@Bool.not_false
abbrev qZ:=@getElem_range
abbrev ra:=@Act.put_comm
abbrev rV:=@mem_filter
abbrev r6:=@length_singleton
abbrev r7:=@Nat.sub_self
abbrev rU:=@Int.le_trans
abbrev sj:=@Int.mul_nonneg
abbrev si:=@getElem_set
abbrev sy:=@foldl_cons
abbrev tt:=@Bool.not_eq_true
abbrev tu:=@Int.not_lt
abbrev tr:=@getElem?_map
abbrev ti:=@foldl_append
abbrev tn:=@getElem?_set_ne
abbrev tw:=@Bool.false_or
abbrev tI:=@beq_iff_eq
abbrev tH:=@Array.getElem?_eq_none
abbrev tD:=@map_nil
abbrev tE:=@mem_flatMap
abbrev tJ:=@Option.map_some
abbrev tK:=@Classical.not_not
abbrev tL:=@length_reverse
abbrev uC:=@length_filter_le
abbrev uJ:=@Calls.mono
abbrev uH:=@eq_zero_or_pos
abbrev uL:=@mul_le_mul_right
abbrev uB:=@of_decide_eq_true
abbrev uK:=@getElem?_eq_none
abbrev uM:=@Array.getElem?_setIfInBounds_ne
abbrev vr:=@nodup_cons
abbrev vz:=@getElem?_set
abbrev wg:=@filter_cons
abbrev v8:=@pairwise_iff_getElem
abbrev wh:=@Classical.choose_spec
abbrev wk:=@Array.getElem?_modify
abbrev wm:=@Array.all_eq_true_iff_forall_mem
abbrev wF:=@Nat.lt_of_sub_pos
abbrev wG:=@getElem?_take
abbrev wH:=@beq_self_eq_true
abbrev wI:=@drop_eq_getElem_cons
abbrev wy:=@Nat.one_mul
abbrev wx:=@Option.some.inj
abbrev wA:=@flatMap_append
abbrev wq:=@getElem_mem
abbrev wJ:=@Array.ext_getElem?
abbrev wK:=@take_zero
abbrev xV:=@Int.mul_le_mul_of_nonneg_right
abbrev xW:=@Nat.not_lt
abbrev xN:=@map_congr_left
abbrev xX:=@mem_append_left
abbrev xY:=@Bool.not_eq_true'
abbrev xZ:=@Nat.zero_add
abbrev x6:=@Iff.rfl
abbrev x8:=@List.getElem?_eq_some_iff
abbrev yx:=@Int.mul_le_mul
abbrev yC:=@testBit_two_pow
abbrev yD:=@length_drop
abbrev yE:=@set_append_right
abbrev yq:=@Array.mem_of_getElem?
abbrev yF:=@take_append_drop
abbrev yt:=@Nat.pow_le_pow_right
abbrev yp:=@take_append_of_le_length
abbrev yG:=@drop_append
abbrev yH:=@Option.bind_some
abbrev yI:=@sum_cons
abbrev zO:=@succ_mul
abbrev zX:=@Nat.mul_le_mul
abbrev zY:=@Bool.or_eq_false_iff
abbrev zZ:=@Int.not_le
abbrev z6:=@Nat.add_zero
abbrev zG:=@map_map
abbrev zM:=@Int.add_mul
abbrev z7:=@Option.some.injEq
abbrev zU:=@nodup_append
abbrev zI:=@nodup_nil
abbrev zF:=@Rat.le_refl
abbrev z8:=@ext_getElem?
abbrev Aa:=@Nat.add_assoc
abbrev zN:=@Nat.lt_of_le_of_lt
abbrev Ab:=@mapM_cons
abbrev Ac:=@getElem?_zipWith
abbrev zP:=@getElem?_replicate
abbrev Bm:=@Bool.not_eq_false
abbrev Bn:=@Bool.not_eq_eq_eq_not
abbrev Bo:=@Bool.and_eq_false_iff
abbrev Bp:=@Nat.not_le
abbrev A0:=@mem_iff_getElem
abbrev Bd:=@filter_append
abbrev Bc:=@pairwise_map
abbrev Bq:=@Array.getElem?_setIfInBounds_self_of_lt
abbrev Bb:=@Nat.lt_of_lt_of_le
abbrev Be:=@flatMap_nil
abbrev Br:=@Bool.false_and
abbrev Bs:=@drop_zero
abbrev CA:=@pairwise_append
abbrev Ci:=@Int.natCast_add
abbrev CB:=@replicate_zero
abbrev CC:=@Bool.false_eq_true
abbrev CD:=@Oper.apart_spec
abbrev CE:=@testBit_lt_two_pow
abbrev Cx:=@mod_lt
abbrev CF:=@size_toArray
abbrev CG:=@getElem?_set_self
abbrev CH:=@mapM_toArray
abbrev CI:=@eq_of_testBit_eq
abbrev Cy:=@Int.natCast_nonneg
abbrev CJ:=@Array.getElem?_eq_getElem
abbrev CK:=@Bool.true_and
abbrev CL:=@getElem?_toArray
abbrev Ck:=@and_le_left
abbrev DK:=@length_erase_of_mem
abbrev DL:=@succ_pos
abbrev DM:=@Nat.add_sub_cancel
abbrev DG:=@getElem_take
abbrev DN:=@Int.add_comm
abbrev Dq:=@Int.one_mul
abbrev Dw:=@pairwise_lt_range
abbrev DO:=@Int.max_le
abbrev DP:=@replicate_succ
abbrev DC:=@Nat.le_of_not_lt
abbrev DQ:=@Array.getElem?_append_left
abbrev DR:=@map_toArray
abbrev DS:=@Nat.sub_mul
abbrev DT:=@mapM_nil
abbrev DU:=@take_append
abbrev DV:=@getElem_set_self
abbrev DW:=@countP_cons
abbrev DX:=@Bool.cond_true
abbrev DY:=@Bool.cond_false
abbrev DZ:=@getElem?_cons_zero
abbrev D0:=@lt_succ_self
abbrev D1:=@set_eq_take_append_cons_drop
abbrev GB:=@Int.mul_le_mul_of_nonneg_left
abbrev GC:=@mem_erase_of_ne
abbrev GD:=@length_pos_of_mem
abbrev GE:=@Int.tdiv_eq_ediv_of_dvd
abbrev GF:=@Int.gcd_dvd_right
abbrev GG:=@take_set_of_le
abbrev GH:=@filter_congr
abbrev GI:=@filter_nil
abbrev GJ:=@Nat.zero_mul
abbrev GK:=@Int.tdiv_eq_ediv_of_nonneg
abbrev F8:=@Array.extract_size
abbrev F9:=@Array.length_toList
abbrev GL:=@length_eq_zero_iff
abbrev Gv:=@mem_append_right
abbrev GM:=@foldl_nil
abbrev GN:=@getElem?_range
abbrev F6:=@mod_eq_of_lt
abbrev GO:=@filterMap_cons
abbrev GP:=@filterMap_nil
abbrev GQ:=@Bool.and_true
abbrev GR:=@and_true
abbrev GS:=@Array.toArray_toList
abbrev GT:=@Array.ext'
abbrev GU:=@Nat.add_comm
abbrev GV:=@Nat.mul_comm
abbrev GW:=@replicate_succ'
abbrev GX:=@Int.le_antisymm
abbrev GY:=@testBit_and
abbrev Gm:=@getElem?_append
abbrev GZ:=@Bool.true_or
abbrev G0:=@Nat.sub_eq_zero_of_le
abbrev G3:=@Int.lt_irrefl
abbrev G4:=@take_add_one
abbrev Kd:=@Int.ediv_le_self
abbrev Ke:=@lt_pow_two_of_testBit
abbrev Kf:=@take_succ_eq_append_getElem
abbrev Kg:=@getElem?_drop
abbrev Kh:=@Nat.sub_zero
abbrev Ki:=@Int.natCast_mul
abbrev Kj:=@dropLast_concat_getLast
abbrev I8:=@perm_append_comm
abbrev Ju:=@Pairwise.imp_of_mem
abbrev Jy:=@Nat.two_pow_pos
abbrev Jz:=@length_pos_iff
abbrev Kk:=@mem_of_mem_drop
abbrev Kl:=@Nat.add_sub_cancel_left
abbrev Km:=@filterMap_append
abbrev Kn:=@take_succ_cons
abbrev I0:=@countP_pos_iff
abbrev Jl:=@Int.natCast_one
abbrev Ko:=@Array.getElem?_append_right
abbrev Kp:=@Array.toList_append
abbrev Kq:=@eq_of_beq_eq_true
abbrev Kr:=@Region.noSelect_spec
abbrev Kt:=@Array.getElem?_mapIdx
abbrev Ku:=@set_append_left
abbrev Kv:=@pairwise_cons
abbrev Kw:=@Nat.lt_of_not_le
abbrev JQ:=@Array.getD_eq_getD_getElem?
abbrev Kx:=@Bool.or_false
abbrev Ky:=@Array.getElem?_push
abbrev J7:=@getElem_reverse
abbrev Kz:=@Option.bind_eq_bind
abbrev KA:=@Option.pure_def
abbrev KB:=@BitVec.toNat_and
abbrev KC:=@Bool.eq_iff_iff
abbrev KD:=@ByteArray.size_append
abbrev Pq:=@Int.gcd_pos_of_ne_zero_right
abbrev Pr:=@Int.natAbs_ediv_le_natAbs
abbrev Pt:=@Int.le_ediv_of_mul_le
abbrev Ov:=@Array.getElem_toList
abbrev Pu:=@Int.add_mul_ediv_right
abbrev Pv:=@Int.ediv_eq_zero_of_lt
abbrev Ow:=@testBit_two_pow_sub_one
abbrev Pw:=@Array.setIfInBounds_comm
abbrev Pa:=@Nat.div_lt_of_lt_mul
abbrev Px:=@getElem!_eq_getElem?_getD
abbrev Py:=@eraseIdx_append_of_lt_length
abbrev Pz:=@Int.tmod_eq_emod_of_nonneg
abbrev PA:=@Int.emod_lt_of_pos
abbrev PB:=@testBit_two_pow_mul_add
abbrev PC:=@testBit_two_pow_sub_succ
abbrev PD:=@countP_eq_length_filter
abbrev O9:=@Nat.pos_of_ne_zero
abbrev OM:=@Array.size_replicate
abbrev PE:=@findIdx_lt_length_of_exists
abbrev PF:=@Int.eq_ofNat_of_zero_le
abbrev PG:=@Int.gcd_natCast_natCast
abbrev PI:=@Array.getElem?_toList
abbrev J:=List Int
@[match_pattern] abbrev nS:Value:=.slice none 0 0
@[match_pattern] abbrev E (n:Int):Value:=.int .i64 n
def À {α:Sort _}(a:α):∃ b,b=a:=⟨a,rfl⟩
abbrev Fr:=Nat->Value
def eZ (ρ:Fr)(d:Nat)(v:Value):Fr:=fun t=>bif Nat.beq t d then v else ρ t
def iq (ρ:Fr)(d:Option Nat)(v:Value):Fr:=match d with|some d=>eZ ρ d v|none=>ρ
def aX (ρ:Fr):Operand->Value
 | .tmp t=>ρ t
 | .const v=>v
 | .global g=>.pointer (some ⟨g,0,none⟩)
 | .func f=>.func (.func f) #[] #[]
def fr (a:Act):Fr:=fun t=>a.tmps.getD t undef
def q9 (a:Act):aX (fr a)=a.eval:=by
 funext x;cases x<;>rfl
inductive KE where
 | pure|dC|ff
 deriving DecidableEq
def AF (P:Program)(t:TypeId):Bool:=match P.underlying t with|some (.int _)=>true|_=>false
def dS (P:Program):Op->KE
 | .move _|.assign _|.pick ..|.binOp ..|.unOp ..|.extract ..|.fieldAddr ..|.field ..|.indexAddr ..|.index ..|.slice ..|.makeInterface ..|.makeFunc ..|.nilCheck _|.typeAssert ..=>.pure
 | .convert s d _=>if AF P s && AF P d then .pure else .ff
 | .call { callee:=.builtin .len,argTypes,.. }=>(match (argTypes[0]?).bind P.underlying with|some (.map ..)|some (.chan ..)=>.dC|_=>.pure)
 | .call { callee:=.builtin .min,.. }|.call { callee:=.builtin .max,.. }|.call { callee:=.builtin .cap,.. }=>.pure
 | .load ..|.lookup ..=>.dC
 | _=>.ff
def PureV (P:Program)(o:Oper)(ρ:Fr)(v:Value):Prop:=∀ w,(execOp (aX ρ) o).run P w=.ok (.value v) w
def ReadV (P:Program)(o:Oper)(ρ:Fr)(w:World)(v:Value):Prop:=(execOp (aX ρ) o).run P w=.ok (.value v) w
def cu (P:Program)(K:Value->World->Prop):Result Next->Prop
 | .ok (.value v) w=>K v w
 | .ok .skip w=>K undef w
 | .ok (.enter f args) w=>Calls P f args w fun
   | .returned v,w'=>K v w'
   | _,_=>False
 | .ok (.round l f tmps assign body) w=>RoundIn Fence.wide 0 P l f tmps assign body w fun
   | .returned v,w'=>K v w'
   | _,_=>False
 | _=>False
def opW (P:Program)(o:Oper)(ρ:Fr)(w:World)(K:Value->World->Prop):Prop:=cu P K ((execOp (aX ρ) o).run P w)
def opV (P:Program)(o:Oper)(ρ:Fr)(w:World)(K:Fr->World->Prop):Prop :=
 match dS P o.op with
 | .pure=>∃ v,PureV P o ρ v/\K (iq ρ o.dst v) w
 | .dC=>∃ v,ReadV P o ρ w v/\K (iq ρ o.dst v) w
 | .ff=>opW P o ρ w fun v w'=>K (iq ρ o.dst v) w'
def sF (v:Value)(want:Bool):Bool:=match v with|.bool b=>b == want|_=>false
def jx (M:Array Oper)(j:Nat):Option Nat:=(M[j]?).bind (·.dst)
def gk (M:Array Oper)(ρ:Fr)(g:Nat × Bool):Bool:=match jx M g.1 with|some t=>sF (ρ t) g.2|none=>false
def opsW (P:Program)(M:Array Oper)(K:Fr->World->Prop):List Oper->Fr->World->Prop
 | [],ρ,w=>K ρ w
 | o::r,ρ,w =>
  match o.guard with
  | none=>opV P o ρ w (opsW P M K r)
  | some g=>(gk M ρ g=true->opV P o ρ w (opsW P M K r))/\(gk M ρ g=false->opsW P M K r (iq ρ o.dst undef) w)
def Thn (next:Fr->World->Prop)(Q:Exit->Fr->World->Prop):Exit->Fr->World->Prop
 | .normal,ρ,w=>next ρ w
 | e,ρ,w=>Q e ρ w
def Blk (id:Nat)(Q:Exit->Fr->World->Prop):Exit->Fr->World->Prop
 | .exit i,ρ,w=>if i=id then Q .normal ρ w else Q (.exit i) ρ w
 | e,ρ,w=>Q e ρ w
def j3 (P:Program)(a b:Op):Bool :=
 match dS P a,dS P b with
 | .pure,_|_,.pure=>true
 | .dC,.dC=>true
 | _,_=>false
def tf (P:Program)(M:Array Oper)(c:Array Nat)(i j:Nat):Bool :=
 (c.getD j 0).testBit i || match M[i]?,M[j]? with
  | some D,some F=>D.apart M F && j3 P D.op F.op
  | _,_=>true
def ix (M:Array Oper)(c:Array Nat):Bool :=
 (List.range M.size).all fun j=>(List.range M.size).all fun i => !(c.getD j 0).testBit i ||
  match M[j]? with
  | some F=>F.after.any fun e=>Region.binds .any e && (e.on == i || (c.getD e.on 0).testBit i)
  | none=>false
def qN (P:Program)(M:Array Oper):Bool :=
 let c:=Region.before M
 Region.noSelect M && ix M c && (List.range M.size).all (fun j=>(List.range j).all fun i=>tf P M c i j) &&
 (List.range M.size).all fun j=>match M[j]? with
  | some F=>F.after.all (fun e => !Region.binds .any e || decide (e.on<j)) && decide (c.getD j 0<2 ^ M.size) && decide (c.size<=M.size)
  | none=>true
inductive cF where
 | op (i:Nat)
 | cI (i:Nat)
 deriving DecidableEq
section
variable (P:Program) (M:Array Oper)
def gR (i:Nat):KE:=match M[i]? with|some o=>dS P o.op|none=>.pure
def tM (i j:Nat):Bool:=((Region.before M).getD j 0).testBit i
def ia (j:Nat):List Nat:=(List.range M.size).filter fun i=>gR P M i == .dC && !(i == j) && !tM M i j && !tM M j i
def fc (c:List Nat):List cF:=c.flatMap fun i=>cF.op i::(match gR P M i with|.ff=>(ia P M i).map cF.cI|_=>[])
def fF:List cF->List Nat
 | []=>[]
 | .op i::r=>i::fF r
 | .cI _::r=>fF r
def j4 (a b:KE):Bool:=match a,b with|.pure,_|_,.pure=>true|.dC,.dC|.dC,.ff=>true|_,_=>false
def sX (i j:Nat):Bool:=tM M i j || match M[i]?,M[j]? with|some D,some F=>D.apart M F && j4 (dS P D.op) (dS P F.op)|_,_=>false
def lY:List Nat->Bool
 | []=>true
 | i::r=>r.all (fun j=>sX P M i j) && lY r
def iQ:List Nat->List Nat->Bool
 | _,[]=>true
 | done,i::r=>(match M[i]? with|some o=>o.after.all fun e => !Region.binds .any e || done.contains e.on|none=>false) && iQ (i::done) r
def rJ (r k:Nat):Bool:=k == r || tM M k r || match M[r]?,M[k]? with
 | some c,some ok=>(match ok.dst with|some d => !(c.looksAt M).contains d && c.dst != some d|none=>true)
 | _,_=>true
def pw (is:List cF):Bool :=
 decide (is=fc P M (fF is)) && Region.noSelect M && ix M (Region.before M) &&
 decide ((fF is).length=M.size) && (fF is).all (fun i=>decide (i<M.size)) && decide ((fF is).Nodup) &&
 iQ M [] (fF is) && lY P M (fF is) &&
 (List.range M.size).all (fun r => !(gR P M r == .dC) || (List.range M.size).all fun k=>rJ M r k) &&
 M.all (fun o => !(dS P o.op == .dC) || (match o.dst with|some d => !(o.looksAt M).contains d|none=>false)) &&
 (List.range M.size).all (fun j=>decide ((Region.before M).getD j 0<2 ^ M.size)) && decide ((Region.before M).size<=M.size) && (List.range M.size).all fun j=>(fF is).contains j
end
def opsD (P:Program)(M:Array Oper)(K:Fr->World->Prop):List cF->Fr->World->Prop
 | [],ρ,w=>K ρ w
 | .op i::r,ρ,w=>(match M[i]? with|some o=>opsW P M (opsD P M K r) [o] ρ w|none=>False)
 | .cI i::r,ρ,w=>(match M[i]? with
   | some o=>(match o.guard with
     | none=>∀ d,o.dst=some d->ReadV P o ρ w (ρ d)
     | some g=>gk M ρ g=true->∀ d,o.dst=some d->ReadV P o ρ w (ρ d))
   | none=>False)/\opsD P M K r ρ w
inductive PT where
 | jE (is:List cF)
 | step (i:Nat) (is:List cF) (t:PT)
 | Bt (i:Nat) (is:List cF) (t:PT) (more:PT)
 | stop
def jR (P:Program)(M:Array Oper)(K:Fr->World->Prop):PT->Fr->World->Prop
 | .jE is,ρ,w=>opsD P M K is ρ w
 | .step _ is t,ρ,w=>opsD P M (jR P M K t) is ρ w
 | .Bt _ is t m,ρ,w=>opsD P M (jR P M K t) is ρ w/\jR P M K m ρ w
 | .stop,_,_=>True
def sY (P:Program)(M:Array Oper):Bool :=
 Region.noSelect M && ix M (Region.before M) &&
 (List.range M.size).all (fun r => !(gR P M r == .dC) || (List.range M.size).all fun k=>rJ M r k) &&
 M.all (fun o => !(dS P o.op == .dC) || (match o.dst with|some d => !(o.looksAt M).contains d|none=>false)) &&
 (List.range M.size).all (fun j=>decide ((Region.before M).getD j 0<2 ^ M.size)) && decide ((Region.before M).size<=M.size)
def ni (M:Array Oper)(c:List Nat)(i:Nat):Bool:=match M[i]? with|some o=>o.after.all fun e => !Region.binds .any e || c.contains e.on|none=>false
def jy (P:Program)(M:Array Oper):List Nat->List Nat->PT->Bool
 | c,seen,.jE is=>seen.isEmpty && decide (is=fc P M (fF is)) && decide ((fF is).length+c.length=M.size) && (fF is).all (fun i=>decide (i<M.size) && !c.contains i) && decide ((fF is).Nodup) && iQ M c (fF is) && lY P M (fF is) && (List.range M.size).all fun j=>c.contains j || (fF is).contains j
 | c,seen,.step i is t=>seen.isEmpty && decide (is=fc P M [i]) && decide (c.length<M.size) && !c.contains i && ni M c i && (List.range M.size).all (fun j=>c.contains j || j == i || sX P M i j) && jy P M (i::c) [] t
 | c,seen,.Bt i is t m=>decide (is=fc P M [i]) && decide (c.length<M.size) && !c.contains i && ni M c i && jy P M (i::c) [] t && jy P M c (i::seen) m
 | c,seen,.stop => !seen.isEmpty && (List.range M.size).all fun j=>c.contains j || seen.contains j || !ni M c j
def vc (P:Program):Code->(Exit->Fr->World->Prop)->Fr->World->Prop
 | .skip,Q,ρ,w=>Q .normal ρ w
 | .label _,Q,ρ,w=>Q .normal ρ w
 | .seq a b,Q,ρ,w=>vc P a (Thn (vc P b Q) Q) ρ w
 | .cond c x y,Q,ρ,w=>∃ t,aX ρ c=.bool t/\(t=true->vc P x Q ρ w)/\(t=false->vc P y Q ρ w)
 | .block id c,Q,ρ,w=>vc P c (Blk id Q) ρ w
 | .loop c,Q,ρ,w=>∃ (q:Nat->Fr->World->Prop),(∃ m,q m ρ w)/\∀ m ρ w,q m ρ w->vc P c (Thn (fun C w'=>∃ S,S<m/\q S C w') Q) ρ w
 | .exit id,Q,ρ,w=>Q (.exit id) ρ w
 | .ret,Q,ρ,w=>Q .ret ρ w
 | .region _ M false,Q,ρ,w=>opsW P M (Q .normal) M.toList ρ w
 | .region _ M true,Q,ρ,w=>(qN P M=true/\opsW P M (Q .normal) M.toList ρ { w with drawn:=w.drawn+1 })\/(∃ is,pw P M is=true/\opsD P M (Q .normal) is ρ { w with drawn:=w.drawn+1 })\/∃ T,sY P M=true/\jy P M [] [] T=true/\jR P M (Q .normal) T ρ { w with drawn:=w.drawn+1 }
 | _,_,_,_=>False
def iN (n:Nat)(M:Array Oper):Bool:=M.all fun o=>match o.dst with|some d=>decide (d<n)|none=>true
def mY (n:Nat):Code->Bool
 | .seq a b=>mY n a && mY n b
 | .cond _ x y=>mY n x && mY n y
 | .block _ c=>mY n c
 | .loop c=>mY n c
 | .region _ M _=>iN n M
 | _=>true
def wB {a:Act}{d:Option Nat}{v:Value}(h:∀ t,d=some t->t<a.tmps.size):fr (a.put d v)=iq (fr a) d v:=by
 cases d with
 | none=>rfl
 | some d =>
  funext t
  have q:=h d rfl;simp only[fr,Act.put,iq,eZ];by_cases c:t=d
  ·subst c;simp[q]
  have:Nat.beq t d=false:=by cases C:Nat.beq t d with|false=>rfl|true=>exact absurd (Kq C) c
  rw[this];simp[uM (Ne.symm c)]
def eW (a:Act)(d:Option Nat)(v:Value):(a.put d v).tmps.size=a.tmps.size:=by cases d<;>simp[Act.put]
def zQ (a:Act)(d:Option Nat)(v:Value):(a.put d v).defers=a.defers:=by cases d<;>rfl
def D2 {M:Array Oper}{a:Act}{o:Oper}{g:Nat × Bool}(I:o.guard=some g) :
  Region.wanted o (yielded M a.tmps)=gk M (fr a) g:=by
 obtain⟨j,want⟩:=g;simp only[Region.wanted,I,gk,jx,yielded,fr,sF]
 cases (M[j]?).bind (·.dst) with
 | none=>simp
 | some t =>
  simp only[yH]
  cases c:a.tmps[t]? with
  | none=>simp[c,undef]
  | some v=>simp[c];cases v<;>simp
section
variable {P:Program}
def Ok (n:Nat)(K:Fr->World->Prop)(a:Act)(w:World):Prop:=a.tmps.size=n/\a.defers=[]/\K (fr a) w
def Xw (n:Nat)(Q:Exit->Fr->World->Prop)(e:Exit)(a:Act)(w:World):Prop:=a.tmps.size=n/\a.defers=[]/\Q e (fr a) w
def uN {K K':Value->World->Prop}(h:∀ v w,K v w->K' v w){r:Result Next}(c:cu P K r):cu P K' r:=by
 unfold cu at *
 split at c
 ·exact h _ _ c
 ·exact h _ _ c
 ·exact uJ c fun e w' he=>by cases e<;>first|exact h _ _ he|exact he
 ·exact RoundIn.mono c fun e w' he=>by cases e<;>first|exact h _ _ he|exact he
 exact c.elim
def fw (ro:Option Nat):Fence:={ Fence.wide with round:=ro }
def Xx {ro:Option Nat}{f:FuncId}{args:Array Value}{w:World}(h:Calls P f args w R):CallsIn (fw ro) m P f args w R:=(callsIn_wide (n:=m)).2 h
def Xy {ro:Option Nat}{l:Nat}{f:FuncId}{tmps:Array Value}{assign body:Code}{w:World}(h:RoundIn Fence.wide 0 P l f tmps assign body w R):RoundIn (fw ro) m P l f tmps assign body w R :=
 ⟨h.1,fun c cs _=>h.2 c cs (room_wide _)⟩
def Xz {o:Oper}{ρ:Fr}{w:World}{K:Value->World->Prop}(h:opW P o ρ w K):∀ c,o.op≠.defer c:=by
 intro c q;unfold opW execOp at h;simp only[q]at h;simp only[eP]at h;generalize (resolve (aX ρ) c o.type).run P w=r at h;cases r<;>exact h
def XA {ro:Option Nat}{o:Oper}{a:Act}{w:World}{K:Value->World->Prop}{Q:Exit->Act->World->Prop}(h:opW P o (fr a) w K):o.wpIn (fw ro) m P a w (fun C w'=>∃ v,C=a.put o.dst v/\K v w') Q:=by
 refine⟨fun _ _=>trivial,?_⟩;rw[Oper.semAt_eq _ _ _ (Xz h)];unfold opW at h;rw[q9]at h;generalize (execOp a.eval o).run P w=r at *
 unfold cu at h;split at h
 ·exact⟨_,rfl,h⟩
 ·exact⟨_,rfl,h⟩
 ·refine⟨fun q=>absurd q (by simp[fw,Fence.wide]),CallsIn.mono (Xx h) fun e w' he=>?_⟩
  cases e with
  | returned v=>exact⟨_,rfl,he⟩
  | panicked c=>exact he.elim
  | outgrown=>exact he.elim
 ·refine⟨fun q=>absurd q (by simp[fw,Fence.wide]),RoundIn.mono (Xy h) fun e w' he=>?_⟩
  cases e with
  | returned v=>exact⟨_,rfl,he⟩
  | panicked c=>exact he.elim
  | outgrown=>exact he.elim
 exact h.elim
def gq (P:Program)(o:Oper)(a:Act)(w:World)(K:Act->World->Prop):Prop :=
 match dS P o.op with
 | .pure=>∃ v,(∀ w,(execOp a.eval o).run P w=.ok (.value v) w)/\K (a.put o.dst v) w
 | .dC=>∃ v,(execOp a.eval o).run P w=.ok (.value v) w/\K (a.put o.dst v) w
 | .ff=>cu P (fun v w'=>K (a.put o.dst v) w') ((execOp a.eval o).run P w)
def qE (P:Program)(M:Array Oper)(o:Oper)(K:Act->World->Prop)(a:Act)(w:World):Prop :=
 (Region.wanted o (yielded M a.tmps)=true->gq P o a w K)/\(Region.wanted o (yielded M a.tmps)=false->K (a.put o.dst undef) w)
def D3 {o:Oper}{a:Act}{w:World}{K:Act->World->Prop}(h:∀ u w',K (a.put o.dst u) w'->K' (a.put o.dst u) w')(c:gq P o a w K):gq P o a w K':=by
 unfold gq at *
 split at c
 ·obtain⟨v,h1,q⟩:=c;exact⟨v,h1,h _ _ q⟩
 ·obtain⟨v,h1,q⟩:=c;exact⟨v,h1,h _ _ q⟩
 exact uN (fun v w'=>h v w') c
def Ad {M:Array Oper}{o:Oper}{a:Act}{w:World}{K:Act->World->Prop}(h:∀ u w',K (a.put o.dst u) w'->K' (a.put o.dst u) w')(c:qE P M o K a w):qE P M o K' a w :=
 ⟨fun Y=>D3 h (c.1 Y),fun Y=>h _ _ (c.2 Y)⟩
def G5 {K:Value->World->Prop}{r:Result Next}(h:cu P K r):∃ v w',K v w':=by
 unfold cu at h;split at h
 ·exact⟨_,_,h⟩
 ·exact⟨_,_,h⟩
 ·obtain⟨e,w',C,q,_⟩:=h []
  cases e with
  | returned v=>exact⟨_,_,q⟩
  | panicked c=>exact q.elim
  | outgrown=>exact q.elim
 ·obtain⟨e,w',q,_⟩:=h.2 default [] (room_wide _)
  cases e with
  | returned v=>exact⟨_,_,q⟩
  | panicked c=>exact q.elim
  | outgrown=>exact q.elim
 exact h.elim
def XB {o:Oper}{a:Act}{w:World}{K:Act->World->Prop}(h:gq P o a w K):∃ v w',K (a.put o.dst v) w':=by
 unfold gq at h;split at h
 ·obtain⟨v,_,c⟩:=h;exact⟨_,_,c⟩
 ·obtain⟨v,_,c⟩:=h;exact⟨_,_,c⟩
 exact G5 h
def XC {M:Array Oper}{o:Oper}{a:Act}{w:World}{K:Act->World->Prop}(h:qE P M o K a w):∃ v w',K (a.put o.dst v) w':=by
 cases Y:Region.wanted o (yielded M a.tmps) with
 | true=>exact XB (h.1 Y)
 | false=>exact⟨_,_,h.2 Y⟩
def PJ {M:Array Oper}{v:Value}(q:D.apart M F=true)(C:∀ cs b,F.op≠.select cs b){K:Act->World->Prop}{a:Act}{w:World}(h:gq P F (a.put D.dst v) w K):gq P F a w fun V w'=>K (V.put D.dst v) w':=by
 obtain⟨h1,S,h3⟩:=CD q;unfold gq at *
 rw[execOp_put F C a D.dst v h1]at h;split
 ·rename_i c;simp only[c]at h
  obtain⟨u,hu,hk⟩:=h;exact⟨u,hu,(by have al:=hk;rw[ra a v u S]at al;exact al)⟩
 ·rename_i c;simp only[c]at h
  obtain⟨u,hu,hk⟩:=h;exact⟨u,hu,(by have al:=hk;rw[ra a v u S]at al;exact al)⟩
 rename_i c;simp only[c]at h;exact uN (fun u w' hk=>(by have al:=hk;rw[ra a v u S]at al;exact al)) h
def XD {M:Array Oper}{v:Value}(c:D.apart M F=true)(q:∀ cs b,F.op≠.select cs b){K:Act->World->Prop}{a:Act}{w:World}(h:qE P M F K (a.put D.dst v) w):qE P M F (fun C w'=>K (C.put D.dst v) w') a w:=by
 obtain⟨h1,S,V⟩:=CD c;unfold qE at *
 rw[wanted_put F a D.dst v h1]at h;exact⟨fun Y=>PJ c q (h.1 Y),fun Y=>(by have al:=h.2 Y;rw[ra a v undef S]at al;exact al)⟩
def XE {M:Array Oper}(j':D.apart M F=true)(H':j3 P D.op F.op=true)(R':∀ cs b,D.op≠.select cs b)(J':∀ cs b,F.op≠.select cs b){K:Act->World->Prop}{a:Act}{w:World}(h:qE P M D (qE P M F K) a w):qE P M F (qE P M D K) a w:=by
 obtain⟨h1,h2,h3⟩:=CD j';have wi:∀ u,Region.wanted D (yielded M (a.put F.dst u).tmps)=Region.wanted D (yielded M a.tmps):=fun u=>wanted_put D a F.dst u h3;have wj:∀ u,Region.wanted F (yielded M (a.put D.dst u).tmps)=Region.wanted F (yielded M a.tmps):=fun u=>wanted_put F a D.dst u h1;have ei:∀ u,execOp (a.put F.dst u).eval D=execOp a.eval D:=fun u=>execOp_put D R' a F.dst u h3;have ej:∀ u,execOp (a.put D.dst u).eval F=execOp a.eval F:=fun u=>execOp_put F J' a D.dst u h1
 cases S:Region.wanted D (yielded M a.tmps) with
 | false =>
  refine Ad (fun u w' hk=>?_) (XD j' J' (h.2 S))
  exact⟨fun Y=>(by rw[wi u,S]at Y;cases Y),fun _=>hk⟩
 | true =>
  have hi:=h.1 S
  cases V:Region.wanted F (yielded M a.tmps) with
  | false =>
   refine⟨fun Y=>(by rw[V]at Y;cases Y),fun _=>⟨fun _=>?_,fun Y=>(by rw[wi,S]at Y;cases Y)⟩⟩;have c:gq P D a w fun a' w'=>K (a'.put F.dst undef) w':=D3 (fun u w' hk=>hk.2 (by rw[wj u,V])) hi;unfold gq at c ⊢;rw[ei];split
   ·rename_i q;simp only[q]at c;obtain⟨v,hv,hk⟩:=c;exact⟨v,hv,(by have al:=hk;rw[ra a v undef h2]at al;exact al)⟩
   ·rename_i q;simp only[q]at c;obtain⟨v,hv,hk⟩:=c;exact⟨v,hv,(by have al:=hk;rw[ra a v undef h2]at al;exact al)⟩
   rename_i q;simp only[q]at c;exact uN (fun v w' hk=>(by have al:=hk;rw[ra a v undef h2]at al;exact al)) c
  | true =>
   refine⟨fun _=>?_,fun Y=>(by rw[V]at Y;cases Y)⟩;have c:gq P D a w fun a' w'=>gq P F a' w' K:=D3 (fun u w' hk=>hk.1 (by rw[wj u,V])) hi;have done:gq P F a w (fun a' w'=>gq P D a' w' K)->gq P F a w (qE P M D K):=D3 (fun u w' hk=>⟨fun _=>hk,fun Y=>(by rw[wi u,S]at Y;cases Y)⟩);refine done ?_;clear hi h done
   cases q:dS P D.op with
   | pure =>
    unfold gq at c;simp only[q]at c;obtain⟨v,hv,hk⟩:=c;refine D3 (fun u w' hk=>?_) (PJ j' J' (K:=K) (v:=v) hk)
    unfold gq;simp only[q];rw[ei u];exact⟨v,hv,hk⟩
   | dC =>
    cases C:dS P F.op with
    | pure =>
     unfold gq at c ⊢;simp only[q,C]at c ⊢;obtain⟨v,hv,u,hu,hk⟩:=c;rw[ej v]at hu
     exact⟨u,hu,v,by rw[ei u];exact hv,(by have al:=hk;rw[ra a v u h2]at al;exact al)⟩
    | dC =>
     unfold gq at c ⊢;simp only[q,C]at c ⊢;obtain⟨v,hv,u,hu,hk⟩:=c;rw[ej v]at hu
     exact⟨u,hu,v,by rw[ei u];exact hv,(by have al:=hk;rw[ra a v u h2]at al;exact al)⟩
    | ff=>simp[j3,q,C]at H'
   | ff =>
    cases C:dS P F.op with
    | pure =>
     unfold gq at c ⊢;simp only[q,C]at c ⊢;obtain⟨v0,w0,u,hu,_⟩:=G5 c;rw[ej v0]at hu;refine⟨u,hu,?_⟩;rw[ei u];refine uN (fun v w' hk=>?_) c;obtain⟨u',P',hk⟩:=hk;rw[ej v]at P';have he:=(hu w').symm.trans (P' w');simp only[Result.ok.injEq,Next.value.injEq,GR]at he;subst he
     rw[<-ra a v u h2];exact hk
    | dC=>simp[j3,q,C]at H'
    | ff=>simp[j3,q,C]at H'
def oM (P:Program)(M:Array Oper)(i:Nat)(K:Act->World->Prop)(a:Act)(w:World):Prop :=
 match M[i]? with
 | none=>K a w
 | some o=>qE P M o K a w
def nl (P:Program)(M:Array Oper)(K:Act->World->Prop):Nat->Array Bool->Act->World->Prop
 | 0,listed,a,w=>Region.ready .any M listed=[]/\K a w
 | fuel+1,listed,a,w=>(Region.ready .any M listed=[]->K a w) /\
  ∀ i∈Region.ready .any M listed,oM P M i (nl P M K fuel (listed.setIfInBounds i true)) a w
def G6 {M:Array Oper}{K:Act->World->Prop}{Q:Exit->Act->World->Prop}{a:Act}{w:World}{ro:Option Nat}(h:oM P M i K a w):wpOpIn (fw ro) m P M Q i K a w:=by
 unfold oM at h;unfold wpOpIn;split
 ·rename_i c;simp only[c]at h;exact h
 rename_i o c;simp only[c]at h;split
 ·rename_i Y
  have hv:=h.1 Y;have q:opW P o (fr a) w fun v w'=>K (a.put o.dst v) w':=by
   unfold opW;rw[q9];unfold gq at hv;split at hv
   ·obtain⟨v,hv,hk⟩:=hv;rw[hv w];exact hk
   ·obtain⟨v,hv,hk⟩:=hv;rw[hv];exact hk
   exact hv
  exact Oper.wpIn_mono (fun C w' ⟨v,e,hk⟩=>by subst e;exact hk) (XA q)
 rename_i Y;exact⟨fun _ _=>trivial,h.2 (by simpa using Y)⟩
def KF {ro:Option Nat}{m:Nat}{M:Array Oper}{K:Act->World->Prop}{Q:Exit->Act->World->Prop}(c:∀ a w,K a w->Q .normal a w):∀ (fuel:Nat) (listed:Array Bool) (a:Act) (w:World),
  nl P M K fuel listed a w->wpAnyIn (fw ro) m P .any M Q fuel listed a w
 | 0,_,_,_,h=>⟨h.1,c _ _ h.2⟩
 | fuel+1,_,_,_,h=>⟨fun C=>c _ _ (h.1 C),fun i hi=>G6 (by
   have:=h.2 i hi;unfold oM at this ⊢;split
   ·rename_i q;simp only[q]at this;exact KF c fuel _ _ _ this
   rename_i o q;simp only[q]at this;exact Ad (fun u w' hk=>KF c fuel _ _ _ hk) this)⟩
def rr (M:Array Oper)(listed:Array Bool):Prop:=∀ j i,listed.getD j false=true->((Region.before M).getD j 0).testBit i=true->listed.getD i false=true
def KG {M:Array Oper}(S:ix M (Region.before M)=true){j:Nat}(C:M[j]? = some F)(hi:i<M.size)(V:((Region.before M).getD j 0).testBit i=true) :
  ∃ e∈F.after,Region.binds .any e=true/\(e.on=i\/((Region.before M).getD e.on 0).testBit i=true):=by
 have q:j<M.size:=(kW.1 C).1;have h1:=all_eq_true.1 (all_eq_true.1 S j (mem_range.2 q)) i (mem_range.2 hi);simp only[V,nH,tw,C]at h1;obtain⟨e,he,c⟩:=Array.any_eq_true'.1 h1;simp only[Bool.and_eq_true,qa,tI]at c;exact⟨e,he,c.1,c.2⟩
def Ae {listed:Array Bool}(h:listed.getD i true=false):listed.getD i false=false/\i<listed.size:=by
 rcases nu i listed.size with c|c
 ·simp[c]at h ⊢;exact h
 simp[tH c]at h
def KH {M:Array Oper}(hc:ix M (Region.before M)=true){listed:Array Bool}(hd:rr M listed)(hs:listed.size=M.size){j:Nat}(hi:listed.getD i true=false)(hj:j∈Region.ready .any M listed):((Region.before M).getD j 0).testBit i=false:=by
 obtain⟨_,F,V,C⟩:=mem_ready.1 hj
 cases hb:((Region.before M).getD j 0).testBit i with
 | false=>rfl
 | true =>
  obtain⟨S,j'⟩:=Ae hi;obtain⟨e,he,c,q⟩:=KG hc V U hb;have hl:=C e he c;rcases q with rfl|q
  ·rw[S]at hl;cases hl
  have:=hd _ _ hl q;rw[S]at this;cases this
def G7 {M:Array Oper}(hc:ix M (Region.before M)=true){listed:Array Bool}(hd:rr M listed){j:Nat}(hj:j∈Region.ready .any M listed)
  (V:∀ k i,((Region.before M).getD k 0).testBit i=true->i<M.size):rr M (listed.setIfInBounds j true):=by
 obtain⟨_,F,j',C⟩:=mem_ready.1 hj;intro k i hk hb;by_cases S:j=k
 ·subst S
  obtain⟨e,he,c,q⟩:=KG hc j' (V _ _ hb) hb;have hl:=C e he c;rcases q with rfl|q
  ·exact getD_set_true hl
  exact getD_set_true (hd _ _ hl q)
 rw[getD_set_ne false S]at hk;exact getD_set_true (hd _ _ hk hb)
def XF {M:Array Oper}{K:Act->World->Prop}(hc:ix M (Region.before M)=true)(J':∀ k i,((Region.before M).getD k 0).testBit i=true->i<M.size)(S:∀ (j:Nat) (o:Oper) cs b,M[j]? = some o->o.op≠.select cs b)(hi:M[i]? = some D) :
  ∀ (fuel:Nat) (listed:Array Bool) (a:Act) (w:World),listed.size=M.size->rr M listed ->
   (∀ j F,M[j]? = some F->j≠i->listed.getD j true=false->((Region.before M).getD j 0).testBit i=false->D.apart M F=true/\j3 P D.op F.op=true) ->
   i∈Region.ready .any M listed->qE P M D (nl P M K fuel (listed.setIfInBounds i true)) a w->nl P M K (fuel+1) listed a w:=by
 intro fuel
 induction fuel with
 | zero =>
  intro listed a w hs hd q hr H;refine⟨fun h=>(by rw[h]at hr;cases hr),fun j hj=>?_⟩;by_cases c:j=i
  ·subst c;unfold oM;rw[hi];exact H
  obtain⟨v,w',hk⟩:=XC H;have:=ready_mono hj c
  rw[hk.1]at this;cases this
 | succ fuel ih =>
  intro listed a w hs hd q hr H;refine⟨fun h=>(by rw[h]at hr;cases hr),fun j hj=>?_⟩;by_cases c:j=i
  ·subst c;unfold oM;rw[hi];exact H
  obtain⟨V,F,C,_⟩:=mem_ready.1 hj;have P':=(mem_ready.1 hr).1;have R':=KH hc hd hs P' hj;obtain⟨T',V'⟩:=q j F C c V R'
  have h1:qE P M D (qE P M F (nl P M K fuel ((listed.setIfInBounds i true).setIfInBounds j true))) a w :=
   Ad (fun u w' hk=>by have:=hk.2 j (ready_mono hj c);unfold oM at this;rw[C]at this;exact this) H
  have h2:=XE T' V' (fun cs b=>S i D cs b hi) (fun cs b=>S j F cs b C) h1;unfold oM;rw[C];refine Ad (fun u w' hk=>?_) h2;rw[Pw _ _ (Ne.symm c)]at hk;refine ih (listed.setIfInBounds j true) _ w' (by simpa using hs) (G7 hc hd hj J') (fun k ok bL _a j' _b=>q k ok bL _a ?_ _b) (ready_mono hr (Ne.symm c)) hk;by_cases H':j=k
  ·subst H';exact V
  rw[getD_set_ne true H']at j';exact j'
def B7 (M:Array Oper)(k:Nat)(listed:Array Bool):Prop:=listed.size=M.size/\∀ j,j<M.size->∀ d,listed.getD j d=decide (j<k)
def XG {M:Array Oper}(hc:ix M (Region.before M)=true)(S:∀ j F,M[j]? = some F->∀ e∈F.after,Region.binds .any e=true->e.on<j) :
  ∀ j i,i<M.size->j<M.size->((Region.before M).getD j 0).testBit i=true->i<j:=by
 intro j
 induction j using Nat.strongRecOn with
 | _ j ih =>
  intro i hi hj hb;obtain⟨F,C⟩:∃ F,M[j]? = some F:=⟨M[j],by simp[hj]⟩
  obtain⟨e,he,c,q⟩:=KG hc C hi hb;have V:=S j F C e he c;rcases q with rfl|q
  ·exact V
  exact Nat.lt_trans (ih e.on V i hi U q) V
def PK {M:Array Oper}{o:Oper}{r:List Oper}{K:Fr->World->Prop}{a:Act}{w:World}(C:∀ d,o.dst=some d->d<n)(hs:a.tmps.size=n)(hd:a.defers=[])(h:opsW P M K (o::r) (fr a) w):qE P M o (fun q w'=>q.tmps.size=n/\q.defers=[]/\opsW P M K r (fr q) w') a w:=by
 have S:∀ v,fr (a.put o.dst v)=iq (fr a) o.dst v:=fun v=>wB fun t ht=>by rw[hs];exact C t ht
 have c:∀ v w',opsW P M K r (iq (fr a) o.dst v) w'->(a.put o.dst v).tmps.size=n/\(a.put o.dst v).defers=[]/\opsW P M K r (fr (a.put o.dst v)) w' :=
  fun v w' hk=>⟨by rw[eW,hs],by rw[zQ,hd],by rw[S];exact hk⟩
 have V:opV P o (fr a) w (opsW P M K r)->gq P o a w fun q w'=>q.tmps.size=n/\q.defers=[]/\opsW P M K r (fr q) w':=by
  intro h;unfold opV at h;unfold gq;split at h
  ·obtain⟨v,hv,hk⟩:=h
   unfold PureV at hv;rw[q9]at hv;exact⟨v,hv,c _ _ hk⟩
  ·obtain⟨v,hv,hk⟩:=h
   unfold ReadV at hv;rw[q9]at hv;exact⟨v,hv,c _ _ hk⟩
  unfold opW at h;rw[q9]at h;exact uN (fun v w' hk=>c _ _ hk) h
 simp only[opsW]at h
 cases I:o.guard with
 | none =>
  simp only[I]at h;refine⟨fun _=>V h,fun Y=>?_⟩
  simp[Region.wanted,I]at Y
 | some g =>
  simp only[I]at h;unfold qE;rw[D2 I];exact⟨fun Y=>V (h.1 Y),fun Y=>c _ _ (h.2 Y)⟩
def XH {M:Array Oper}{K:Fr->World->Prop}(_f:qN P M=true)(_c:iN n M=true)
  :
  ∀ (l:List Oper) (k:Nat) (listed:Array Bool) (a:Act) (w:World),(∀ j,l[j]? = M[k+j]?)->k+l.length=M.size->B7 M k listed ->
   a.tmps.size=n->a.defers=[]->opsW P M K l (fr a) w->nl P M (Ok n K) l.length listed a w:=by
 have H':=_f;simp only[qN,Bool.and_eq_true]at H';obtain⟨⟨⟨_d,hc⟩,R'⟩,T'⟩:=H';have J':∀ j F,M[j]? = some F->∀ e∈F.after,Region.binds .any e=true->e.on<j:=by
  intro j F q e he c;have h1:=all_eq_true.1 T' j (mem_range.2 (kW.1 q).1);simp only[q,Bool.and_eq_true]at h1;have C:=wm.1 h1.1.1 e he
  simpa [c] using C
 have _e:∀ k i,((Region.before M).getD k 0).testBit i=true->i<M.size:=by
  intro k i c;rcases nu k M.size with hk|hk
  ·have h1:=all_eq_true.1 T' k (mem_range.2 hk)
   have bL:M[k]? = some M[k]:=by simp[hk]
   simp only[bL,Bool.and_eq_true,gQ]at h1;rcases nu i M.size with hi|hi
   ·exact hi
   have:=CE (Bb h1.1.2 (yt U hi));rw[this]at c;cases c
  rcases uH M.size with V|V
  ·have:M=#[]:=by simpa using V
   subst this;simp[Region.before]at c
  have h1:=all_eq_true.1 T' 0 (mem_range.2 V);have bL:M[0]? = some M[0]:=by simp[V]
  simp only[bL,Bool.and_eq_true,gQ]at h1;have:(Region.before M).getD k 0=0:=by
   have:(Region.before M).size<=k:=U;simp[tH this]
  rw[this]at c;simp at c
 intro l
 induction l with
 | nil =>
  intro k listed a w hl hk C hs hd h;refine⟨?_,hs,hd,h⟩;rcases hr:Region.ready .any M listed with _|⟨x,xs⟩
  ·rfl
  have hx:x∈Region.ready .any M listed:=by rw[hr];exact gz
  obtain⟨S,ox,P',_⟩:=mem_ready.1 hx;have j':=(kW.1 P').1;rw[C.2 x j']at S;simp only[length_nil,z6]at hk
  simp[hk,j']at S
 | cons o r ih =>
  intro k listed a w hl hk C hs hd h;simp only[length_cons]at hk;have V:M[k]? = some o:=by simpa using (hl 0).symm
  have _g:k<M.size:=U;have _h:∀ d,o.dst=some d->d<n:=by
   intro d S;have:=wm.1 _c o (yq V)
   simpa [S] using this
  have j':k∈Region.ready .any M listed:=by
   refine mem_ready.2 ⟨by rw[C.2 k _g];simp,o,V,fun e he c=>?_⟩;have:=J' k o V e he c;rw[C.2 e.on U];simpa using this
  have V':rr M listed:=by
   intro j i q c;have P':=_e _ _ c;have S:j<M.size:=by
    rcases nu j listed.size with h'|h'
    ·rw[C.1]at h';exact h'
    simp[tH h']at q
   have _a:=XG hc J' j i P' S c;rw[C.2 j S]at q;rw[C.2 i P'];simp at q ⊢;omega
  have _a:∀ j F,M[j]? = some F->j≠k->listed.getD j true=false->((Region.before M).getD j 0).testBit k=false->o.apart M F=true/\j3 P o.op F.op=true:=by
   intro j F q _b P' c;have S:=(kW.1 q).1;rw[C.2 j S]at P';have _i:k<j:=by simp at P';omega
   have h1:=all_eq_true.1 (all_eq_true.1 R' j (mem_range.2 S)) k (mem_range.2 _i);simp only[tf,c,tw,V,q,Bool.and_eq_true]at h1;exact h1
  refine XF hc _e (Kr _d) V r.length listed a w C.1 V' _a j' ?_;refine Ad (fun u w' al => ?_) (PK _h hs hd h);refine ih (k+1) _ _ _ (fun j=>by have:=hl (j+1);simpa [Aa,GU 1 j] using this) U ⟨by simpa using C.1,fun j q d=>?_⟩ al.1 al.2.1 al.2.2;by_cases _b:k=j
  ·subst _b
   have:k<listed.size:=by rw[C.1];exact q
   simp[this]
  rw[getD_set_ne d _b,C.2 j q d];by_cases c:j<k
  ·simp[c];omega
  have:¬j<k+1:=U;simp[c,this]
def XI {ro:Option Nat}{id:Nat}{M:Array Oper}{K:Fr->World->Prop}{a:Act}{w:World}{Q:Exit->Act->World->Prop}(hQ:∀ a w,Ok n K a w->Q .normal a w)(c:iN n M=true)(q:a.tmps.size=n)(C:a.defers=[])(h:opsW P M K M.toList (fr a) w):(Code.region id M false).wpIn (fw ro) m P Q a w:=by
 refine wpIn_region ?_
 have key:∀ (l:List Oper) (k:Nat) (a:Act) (w:World),(∀ j,l[j]? = M[k+j]?)->k+l.length=M.size->a.tmps.size=n->a.defers=[]->opsW P M K l (fr a) w ->
   wpOpsIn (fw ro) m P M Q ((range' k l.length)) a w:=by
  intro l
  induction l with
  | nil=>intro k a w _ _ q C h;exact hQ _ _ ⟨q,C,h⟩
  | cons o r ih =>
   intro k a w hl hk q C h;have h0:M[k]? = some o:=by simpa using (hl 0).symm
   have S:∀ d,o.dst=some d->d<n:=by
    intro d V;have:=wm.1 c o (yq h0)
    simpa [V] using this
   simp only[length_cons,range'_succ];rw[wpOpsIn_cons];refine G6 ?_;unfold oM;rw[h0];refine Ad (fun u w' al => ?_) (PK S q C h);simp only[length_cons]at hk;exact ih (k+1) _ _ (fun j=>by have:=hl (j+1);simpa [Aa,GU 1 j] using this) U al.1 al.2.1 al.2.2
 have:=key M.toList 0 a w sm sm q C h
 simpa [range_eq_range'] using this
def pA (P:Program)(M:Array Oper)(i:Nat)(a:Act)(w:World):Prop :=
 ∀ D,M[i]? = some D->Region.wanted D (yielded M a.tmps)=true->∀ d,D.dst=some d->(execOp a.eval D).run P w=.ok (.value (a.tmps.getD d undef)) w
def dZ (P:Program)(M:Array Oper)(listed:Array Bool)(j:Nat)(o:Oper)(a:Act)(w:World)(K:Act->World->Prop):Prop :=
 match dS P o.op with
 | .pure=>∃ v,(∀ w,(execOp a.eval o).run P w=.ok (.value v) w)/\K (a.put o.dst v) w
 | .dC=>∃ v,(execOp a.eval o).run P w=.ok (.value v) w/\K (a.put o.dst v) w
 | .ff=>cu P (fun v w'=>(∀ r∈ia P M j,listed.getD r false=true->pA P M r a w')/\K (a.put o.dst v) w') ((execOp a.eval o).run P w)
def jS (P:Program)(M:Array Oper)(listed:Array Bool)(j:Nat)(o:Oper)(K:Act->World->Prop)(a:Act)(w:World):Prop :=
 (Region.wanted o (yielded M a.tmps)=true->dZ P M listed j o a w K)/\(Region.wanted o (yielded M a.tmps)=false->K (a.put o.dst undef) w)
def Bu {M:Array Oper}{listed:Array Bool}{j:Nat}{o:Oper}{a:Act}{w:World}{K:Act->World->Prop}(h:∀ u w',K (a.put o.dst u) w'->K' (a.put o.dst u) w')(c:dZ P M listed j o a w K):dZ P M listed j o a w K':=by
 unfold dZ at *
 split at c
 ·obtain⟨v,h1,q⟩:=c;exact⟨v,h1,h _ _ q⟩
 ·obtain⟨v,h1,q⟩:=c;exact⟨v,h1,h _ _ q⟩
 exact uN (fun v w' hk=>⟨hk.1,h v w' hk.2⟩) c
def D4 {M:Array Oper}{listed:Array Bool}{j:Nat}{o:Oper}{a:Act}{w:World}{K:Act->World->Prop}(h:∀ u w',K (a.put o.dst u) w'->K' (a.put o.dst u) w')(c:jS P M listed j o K a w):jS P M listed j o K' a w :=
 ⟨fun Y=>Bu h (c.1 Y),fun Y=>h _ _ (c.2 Y)⟩
def XJ {M:Array Oper}{listed:Array Bool}{j:Nat}{o:Oper}{a:Act}{w:World}{K:Act->World->Prop}(h:dZ P M listed j o a w K):∃ v w',K (a.put o.dst v) w':=by
 unfold dZ at h;split at h
 ·obtain⟨v,_,c⟩:=h;exact⟨_,_,c⟩
 ·obtain⟨v,_,c⟩:=h;exact⟨_,_,c⟩
 obtain⟨v,w',_,c⟩:=G5 h;exact⟨_,_,c⟩
def XK {M:Array Oper}{listed:Array Bool}{j:Nat}{o:Oper}{a:Act}{w:World}{K:Act->World->Prop}(h:jS P M listed j o K a w):∃ v w',K (a.put o.dst v) w':=by
 cases Y:Region.wanted o (yielded M a.tmps) with
 | true=>exact XJ (h.1 Y)
 | false=>exact⟨_,_,h.2 Y⟩
def XL {M:Array Oper}{listed:Array Bool}{j:Nat}{o:Oper}{a:Act}{w:World}{K:Act->World->Prop}(h:dZ P M listed j o a w K):gq P o a w K:=by
 unfold dZ at h;unfold gq;split
 ·rename_i c;simp only[c]at h;exact h
 ·rename_i c;simp only[c]at h;exact h
 rename_i c;simp only[c]at h;exact uN (fun v w' hk=>hk.2) h
def XM {M:Array Oper}{listed:Array Bool}{j:Nat}{o:Oper}{a:Act}{w:World}{K:Act->World->Prop}(h:jS P M listed j o K a w):qE P M o K a w:=⟨fun Y=>XL (h.1 Y),h.2⟩
def my (M:Array Oper)(r:Nat)(o:Oper):Prop:=∀ c,M[r]? = some c->(∀ d,o.dst=some d->d∉c.looksAt M)/\∀ d,o.dst=some d->c.dst≠some d
def G8 {M:Array Oper}{r:Nat}{o:Oper}{a:Act}{w:World}(v:Value)(hs:my M r o)(C:∀ c cs b,M[r]? = some c->c.op≠.select cs b):pA P M r (a.put o.dst v) w↔pA P M r a w:=by
 unfold pA;constructor
 ·intro h c q Y d V
  obtain⟨h1,h2⟩:=hs c q;have:=h c q (by rw[wanted_put c a o.dst v h1];exact Y) d V;rw[execOp_put c (fun cs b=>C c cs b q) a o.dst v h1]at this;have I:(a.put o.dst v).tmps.getD d undef=a.tmps.getD d undef:=by
   cases ho:o.dst with
   | none=>rfl
   | some d' =>
    have S:d'≠d:=fun e=>h2 d' ho (e ▸ V);simp[Act.put,uM S]
  rw[I]at this;exact this
 intro h c q Y d V;obtain⟨h1,h2⟩:=hs c q;rw[wanted_put c a o.dst v h1]at Y;have:=h c q Y d V;rw[execOp_put c (fun cs b=>C c cs b q) a o.dst v h1];have I:(a.put o.dst v).tmps.getD d undef=a.tmps.getD d undef:=by
  cases ho:o.dst with
  | none=>rfl
  | some d' =>
   have S:d'≠d:=fun e=>h2 d' ho (e ▸ V);simp[Act.put,uM S]
 rw[I];exact this
def D5 {M:Array Oper}{r j:Nat}(h:r∈ia P M j):gR P M r=.dC/\r≠j:=by
 simp only[ia,rV,Bool.and_eq_true,tI,xY,beq_eq_false_iff_ne]at h;exact⟨h.2.1.1.1,h.2.1.1.2⟩
def KJ {M:Array Oper}{listed:Array Bool}{j:Nat}{v:Value}(c:∀ (k:Nat) (o:Oper) cs b,M[k]? = some o->o.op≠.select cs b)(q:D.apart M F=true)(C:∀ cs b,F.op≠.select cs b){K:Act->World->Prop}{a:Act}{w:World}(S:∀ r,listed.getD r false=true->gR P M r=.dC->my M r D)(h:dZ P M (listed.setIfInBounds i true) j F (a.put D.dst v) w K):dZ P M listed j F a w fun a' w'=>(dS P F.op=.ff->∀ r∈ia P M j,(listed.setIfInBounds i true).getD r false=true->pA P M r (a.put D.dst v) w')/\K (a'.put D.dst v) w':=by
 obtain⟨h1,V,h3⟩:=CD q;unfold dZ at *
 rw[execOp_put F C a D.dst v h1]at h
 cases hc:dS P F.op with
 | pure =>
  simp only[hc]at h ⊢;obtain⟨u,hu,hk⟩:=h
  exact⟨u,hu,fun e=>(by cases e),by have al:=hk;rw[ra a v u V]at al;exact al⟩
 | dC =>
  simp only[hc]at h ⊢;obtain⟨u,hu,hk⟩:=h
  exact⟨u,hu,fun e=>(by cases e),by have al:=hk;rw[ra a v u V]at al;exact al⟩
 | ff =>
  simp only[hc]at h ⊢;refine uN (fun u w' hk=>⟨fun r hr hl=>?_,fun _=>hk.1,by have al:=hk.2;rw[ra a v u V]at al;exact al⟩) h;exact(G8 v (S r hl (D5 hr).1) (fun j' cs b ho=>c r j' cs b ho)).1 (hk.1 r hr (getD_set_true hl))
def PL {M:Array Oper}{listed:Array Bool}{j:Nat}(c:∀ (k:Nat) (o:Oper) cs b,M[k]? = some o->o.op≠.select cs b)(C:D.apart M F=true)(S:∀ cs b,D.op≠.select cs b)(V:dS P D.op=.ff->j∉ia P M i){K:Act->World->Prop}{a:Act}{w:World}(j':∀ r,listed.getD r false=true->gR P M r=.dC->my M r F)(h:dZ P M listed i D a w fun a' w'=>K (a'.put F.dst u) w'):dZ P M (listed.setIfInBounds j true) i D (a.put F.dst u) w K:=by
 obtain⟨h1,h2,h3⟩:=CD C;unfold dZ at *
 rw[execOp_put D S a F.dst u h3]
 cases q:dS P D.op with
 | pure =>
  simp only[q]at h ⊢;obtain⟨v,hv,hk⟩:=h
  exact⟨v,hv,by have al:=hk;rw[ra a v u h2]at al;exact al⟩
 | dC =>
  simp only[q]at h ⊢;obtain⟨v,hv,hk⟩:=h
  exact⟨v,hv,by have al:=hk;rw[ra a v u h2]at al;exact al⟩
 | ff =>
  simp only[q]at h ⊢;refine uN (fun v w' hk=>⟨fun r hr hl=>?_,by have al:=hk.2;rw[ra a v u h2]at al;exact al⟩) h;have H':r≠j:=fun e=>V q (e ▸ hr);rw[getD_set_ne false (Ne.symm H')]at hl;exact(G8 u (j' r hl (D5 hr).1) (fun J' cs b ho=>c r J' cs b ho)).2 (hk.1 r hr hl)
section
variable {M:Array Oper}{listed:Array Bool}{j:Nat}{o:Oper}{a:Act}{w:World}{K:Act->World->Prop}
def Af (c:dS P o.op=.pure):dZ P M listed j o a w K=∃ v,(∀ w,(execOp a.eval o).run P w=.ok (.value v) w)/\K (a.put o.dst v) w:=by unfold dZ;rw[c]
def Bv (c:dS P o.op=.dC):dZ P M listed j o a w K=∃ v,(execOp a.eval o).run P w=.ok (.value v) w/\K (a.put o.dst v) w:=by unfold dZ;rw[c]
def G9 (c:dS P o.op=.ff):dZ P M listed j o a w K=cu P (fun v w'=>(∀ r∈ia P M j,listed.getD r false=true->pA P M r a w')/\K (a.put o.dst v) w') ((execOp a.eval o).run P w):=by unfold dZ;rw[c]
end
def Fl {M:Array Oper}{listed:Array Bool}{j:Nat}(q:∀ (k:Nat) (o:Oper) cs b,M[k]? = some o->o.op≠.select cs b)(hi:M[i]? = some D)(hj:M[j]? = some F)(P':D.apart M F=true)(R':j4 (dS P D.op) (dS P F.op)=true)(_i:i<listed.size)(_d:dS P D.op=.dC->dS P F.op=.ff->i∈ia P M j)(_b:∀ r,listed.getD r false=true->gR P M r=.dC->my M r D)(_e:∀ r,listed.getD r false=true->gR P M r=.dC->my M r F){K:Act->World->Prop}{a:Act}{w:World}(_j:dS P D.op=.dC->∃ d,D.dst=some d/\d<a.tmps.size/\d∉D.looksAt M)(h:jS P M listed i D (jS P M (listed.setIfInBounds i true) j F K) a w):jS P M listed j F (jS P M (listed.setIfInBounds j true) i D K) a w:=by
 obtain⟨h1,h2,h3⟩:=CD P';have S:=fun cs b=>q i D cs b hi;have V:=fun cs b=>q j F cs b hj;have wi:∀ u,Region.wanted D (yielded M (a.put F.dst u).tmps)=Region.wanted D (yielded M a.tmps):=fun u=>wanted_put D a F.dst u h3;have wj:∀ u,Region.wanted F (yielded M (a.put D.dst u).tmps)=Region.wanted F (yielded M a.tmps):=fun u=>wanted_put F a D.dst u h1;have ei:∀ u,execOp (a.put F.dst u).eval D=execOp a.eval D:=fun u=>execOp_put D S a F.dst u h3;have ej:∀ u,execOp (a.put D.dst u).eval F=execOp a.eval F:=fun u=>execOp_put F V a D.dst u h1;have _f:dS P D.op=.ff->j∉ia P M i:=fun hc hm=>by
  have:=(D5 hm).1;simp only[gR,hj]at this;rw[hc,this]at R';simp[j4]at R'
 cases H':Region.wanted D (yielded M a.tmps) with
 | false =>
  have c:=h.2 H'
  cases j':Region.wanted F (yielded M a.tmps) with
  | false =>
   refine⟨fun Y=>(by rw[j']at Y;cases Y),fun _=>⟨fun Y=>(by rw[wi,H']at Y;cases Y),fun _=>?_⟩⟩;have:=c.2 (by rw[wj,j'])
   rw[ra a undef undef h2]at this;exact this
  | true =>
   refine⟨fun _=>?_,fun Y=>(by rw[j']at Y;cases Y)⟩;have:=KJ q P' V _b (c.1 (by rw[wj,j']))
   exact Bu (fun u w' hk=>⟨fun Y=>(by rw[wi,H']at Y;cases Y),fun _=>hk.2⟩) this
 | true =>
  have _c:=h.1 H'
  cases j':Region.wanted F (yielded M a.tmps) with
  | false =>
   refine⟨fun Y=>(by rw[j']at Y;cases Y),fun _=>⟨fun _=>?_,fun Y=>(by rw[wi,H']at Y;cases Y)⟩⟩
   exact PL q P' S _f _e (Bu (fun u w' hk=>hk.2 (by rw[wj u,j'])) _c)
  | true =>
   refine⟨fun _=>?_,fun Y=>(by rw[j']at Y;cases Y)⟩;have J':dZ P M listed i D a w fun a' w'=>dZ P M (listed.setIfInBounds i true) j F a' w' K:=Bu (fun u w' hk=>hk.1 (by rw[wj u,j'])) _c
   have done:dZ P M listed j F a w (fun a' w'=>dZ P M (listed.setIfInBounds j true) i D a' w' K)->dZ P M listed j F a w (jS P M (listed.setIfInBounds j true) i D K) :=
    Bu (fun u w' hk=>⟨fun _=>hk,fun Y=>(by rw[wi u,H']at Y;cases Y)⟩)
   refine done ?_;clear done _c h
   cases c:dS P D.op with
   | pure =>
    rw[Af c]at J';obtain⟨v,hv,hk⟩:=J';refine Bu (fun u w' hk=>?_) (KJ q P' V _b hk)
    rw[Af c,ei u];exact⟨v,hv,hk.2⟩
   | dC =>
    obtain⟨di,T',_g,_h⟩:=_j c;rw[Bv c]at J';obtain⟨v,hv,hk⟩:=J'
    cases C:dS P F.op with
    | pure =>
     rw[Af C]at hk ⊢;obtain⟨u,hu,hk⟩:=hk;rw[ej v]at hu;refine⟨u,hu,?_⟩;rw[Bv c]
     exact⟨v,by rw[ei u];exact hv,by have al:=hk;rw[ra a v u h2]at al;exact al⟩
    | dC =>
     rw[Bv C]at hk ⊢;obtain⟨u,hu,hk⟩:=hk;rw[ej v]at hu;refine⟨u,hu,?_⟩;rw[Bv c]
     exact⟨v,by rw[ei u];exact hv,by have al:=hk;rw[ra a v u h2]at al;exact al⟩
    | ff =>
     refine Bu (fun u w' hk=>?_) (KJ q P' V _b hk);have _k:=hk.1 C i (_d c C) (by simp[_i]);have V':∀ d,D.dst=some d->d∉D.looksAt M:=fun d hd=>by rw[T']at hd;cases hd;exact _h
     have _a:=_k D hi (by rw[wanted_put D a D.dst v V'];exact H') di T';rw[execOp_put D S a D.dst v V']at _a;have I:(a.put D.dst v).tmps.getD di undef=v:=by rw[T'];simp[Act.put,_g]
     rw[I]at _a;rw[Bv c,ei u]
     exact⟨v,_a,hk.2⟩
   | ff =>
    cases C:dS P F.op with
    | pure =>
     rw[G9 c]at J';obtain⟨v0,w0,_,hh⟩:=G5 J';rw[Af C]at hh;obtain⟨u,hu,_⟩:=hh;rw[ej v0]at hu;rw[Af C];refine⟨u,hu,?_⟩;refine PL q P' S _f _e ?_;rw[G9 c];refine uN (fun v w' hk=>⟨hk.1,?_⟩) J';have T':=hk.2;rw[Af C]at T';obtain⟨u',V',_a⟩:=T';rw[ej v]at V';have he:=(hu w').symm.trans (V' w');simp only[Result.ok.injEq,Next.value.injEq,GR]at he;subst he
     exact _a
    | dC=>rw[c,C]at R';simp[j4]at R'
    | ff=>rw[c,C]at R';simp[j4]at R'
def jZ (P:Program)(M:Array Oper)(K:Act->World->Prop):Nat->Array Bool->Act->World->Prop
 | 0,listed,a,w=>Region.ready .any M listed=[]/\K a w
 | fuel+1,listed,a,w=>(Region.ready .any M listed=[]->K a w) /\
  ∀ i∈Region.ready .any M listed,∀ o,M[i]? = some o->jS P M listed i o (jZ P M K fuel (listed.setIfInBounds i true)) a w
def KK {ro:Option Nat}{m:Nat}{M:Array Oper}{K:Act->World->Prop}{Q:Exit->Act->World->Prop}(c:∀ a w,K a w->Q .normal a w):∀ (fuel:Nat) (listed:Array Bool) (a:Act) (w:World),
  jZ P M K fuel listed a w->wpAnyIn (fw ro) m P .any M Q fuel listed a w
 | 0,_,_,_,h=>⟨h.1,c _ _ h.2⟩
 | fuel+1,_,_,_,h=>⟨fun C=>c _ _ (h.1 C),fun i hi=>G6 (by
   obtain⟨_,o,q,_⟩:=mem_ready.1 hi;unfold oM;rw[q]
   exact Ad (fun u w' hk=>KK c fuel _ _ _ hk) (XM (h.2 i hi o q)))⟩
structure lZ (P:Program) (M:Array Oper):Prop where
 aY:∀ (k:Nat) (o:Oper) cs b,M[k]? = some o->o.op≠.select cs b
 pJ:ix M (Region.before M)=true
 bl:∀ k i,((Region.before M).getD k 0).testBit i=true->i<M.size
 xe:∀ (r:Nat) (or_:Oper) (k:Nat) (ok:Oper),M[r]? = some or_->gR P M r=.dC->M[k]? = some ok->k≠r->tM M k r=false->my M r ok
 dst:∀ (i:Nat) (o:Oper),M[i]? = some o->dS P o.op=.dC->∃ d,o.dst=some d/\d∉o.looksAt M
def PM {M:Array Oper}{K:Act->World->Prop}(H:lZ P M)(P':iN n M=true)(hi:M[i]? = some D) :
  ∀ (fuel:Nat) (listed:Array Bool) (a:Act) (w:World),listed.size=M.size->a.tmps.size=n->rr M listed ->
   (∀ (j:Nat) (F:Oper),M[j]? = some F->j≠i->listed.getD j true=false->tM M i j=false->D.apart M F=true/\j4 (dS P D.op) (dS P F.op)=true) ->
   i∈Region.ready .any M listed->jS P M listed i D (jZ P M K fuel (listed.setIfInBounds i true)) a w->jZ P M K (fuel+1) listed a w:=by
 have R':∀ o,o∈M->∀ d,o.dst=some d->d<n:=fun o ho d hd=>by
  have:=wm.1 P' o ho
  simpa [hd] using this
 intro fuel
 induction fuel with
 | zero =>
  intro listed a w hs ha hd S hr h;refine⟨fun h=>(by rw[h]at hr;cases hr),fun j hj F c=>?_⟩;by_cases q:j=i
  ·subst q;rw[hi]at c;cases c;exact h
  obtain⟨v,w',hk⟩:=XK h;have:=ready_mono hj q
  rw[hk.1]at this;cases this
 | succ fuel ih =>
  intro listed a w hs ha hd S hr h;refine⟨fun h=>(by rw[h]at hr;cases hr),fun j hj F c=>?_⟩;by_cases q:j=i
  ·subst q;rw[hi]at c;cases c;exact h
  obtain⟨V,_i,_h,_⟩:=mem_ready.1 hj;have J':=(mem_ready.1 hr).1;have T':tM M i j=false:=KH H.pJ hd hs J' hj;have V':tM M j i=false:=KH H.pJ hd hs V hr;obtain⟨_e,_f⟩:=S j F c q V T'
  have h1:jS P M listed i D (jS P M (listed.setIfInBounds i true) j F (jZ P M K fuel ((listed.setIfInBounds i true).setIfInBounds j true))) a w :=
   D4 (fun u w' hk=>hk.2 j (ready_mono hj q) F c) h
  have _a:i<listed.size:=(Ae J').2;have _b:∀ k,listed.getD k true=false->∀ r,listed.getD r false=true->tM M k r=false:=by
   intro k hk r H'
   cases C:tM M k r with
   | false=>rfl
   | true=>have:=hd r k H' C;rw[(Ae hk).1]at this;cases this
  have j':∀ (k:Nat) (ok:Oper),M[k]? = some ok->listed.getD k true=false->∀ r,listed.getD r false=true->gR P M r=.dC->my M r ok:=by
   intro k ok hk C r H' hc _c _d;have _g:k≠r:=fun e=>by subst e;rw[(Ae C).1]at H';cases H'
   exact H.xe r _c k ok _d hc hk _g (_b k C r H') _c _d
  have h2:=Fl H.aY hi c _e _f _a (fun _c _j=>by
    simp only[ia,rV,mem_range,Bool.and_eq_true,tI,xY,beq_eq_false_iff_ne]
    exact⟨by rw[<-hs];exact _a,⟨⟨by simp only[gR,hi];exact _c,Ne.symm q⟩,T'⟩,V'⟩)
   (j' i D hi J') (j' j F c V) (fun hc=>by
    obtain⟨d,H',_d⟩:=H.dst i D hi hc
    exact⟨d,H',by rw[ha];exact R' D (yq hi) d H',_d⟩) h1
  refine D4 (fun u w' hk=>?_) h2;rw[Pw _ _ (Ne.symm q)]at hk;refine ih (listed.setIfInBounds j true) _ w' (by simpa using hs) (by rw[eW];exact ha) (G7 H.pJ hd hj H.bl) (fun k ok bL _d C _g=>S k ok bL _d ?_ _g) (ready_mono hr (Ne.symm q)) hk;by_cases H':j=k
  ·subst H';exact V
  rw[getD_set_ne true H']at C;exact C
def D6 {M:Array Oper}{K:Fr->World->Prop}{tail:List cF}{ρ:Fr}{w:World}:∀ (l:List Nat),opsD P M K (l.map cF.cI++tail) ρ w ->
  (∀ r∈l,∀ o,M[r]? = some o->(match o.guard with
     | none=>∀ d,o.dst=some d->ReadV P o ρ w (ρ d)
     | some g=>gk M ρ g=true->∀ d,o.dst=some d->ReadV P o ρ w (ρ d)))/\opsD P M K tail ρ w
 | [],h=>⟨sm,h⟩
 | r::l,h=>by
  simp only[l8,qC,opsD]at h;obtain⟨h1,C⟩:=D6 l h.2;refine⟨fun S c o q=>?_,C⟩;rcases ee.1 c with rfl|c
  ·have:=h.1
   simp only[q]at this;exact this
  exact h1 S c o q
def PN {M:Array Oper}{r:Nat}{a:Act}{w:World}(h:∀ o,M[r]? = some o->(match o.guard with
     | none=>∀ d,o.dst=some d->ReadV P o (fr a) w (fr a d)
     | some g=>gk M (fr a) g=true->∀ d,o.dst=some d->ReadV P o (fr a) w (fr a d))):pA P M r a w:=by
 intro o q Y d c;have:=h o q
 cases I:o.guard with
 | none =>
  simp only[I]at this;have:=this d c
  unfold ReadV at this;rw[q9]at this;exact this
 | some g =>
  simp only[I]at this;rw[D2 I]at Y;have:=this Y d c;unfold ReadV at this;rw[q9]at this;exact this
def XN {M:Array Oper}:∀ {l:List Nat}{i:Nat},lY P M (i::l)=true->∀ j∈l,sX P M i j=true:=by
 intro l i h j c;simp only[lY,Bool.and_eq_true]at h;exact all_eq_true.1 h.1 j c
def PO {M:Array Oper}{K:Fr->World->Prop}(H:lZ P M)(R':iN n M=true) :
  ∀ (rest dn:List Nat) (listed:Array Bool) (a:Act) (w:World),(∀ j,j<M.size->j∈dn\/j∈rest)->(∀ j∈rest,j∉dn/\j<M.size)->(∀ j∈dn,j<M.size)->rest.Nodup->listed.size=M.size->(∀ j,j<M.size->∀ d,listed.getD j d=decide (j∈dn)) ->
   rr M listed->iQ M dn rest=true->lY P M rest=true->a.tmps.size=n->a.defers=[]->opsD P M K (fc P M rest) (fr a) w->jZ P M (Ok n K) rest.length listed a w:=by
 have _g:∀ o,o∈M->∀ d,o.dst=some d->d<n:=fun o ho d hd=>by
  have:=wm.1 R' o ho
  simpa [hd] using this
 intro rest
 induction rest with
 | nil =>
  intro dn listed a w j' _ _ _ hs hl _ _ _ ha V' h;refine⟨?_,ha,V',h⟩;rcases hr:Region.ready .any M listed with _|⟨x,xs⟩
  ·rfl
  have hx:x∈Region.ready .any M listed:=by rw[hr];exact gz
  obtain⟨c,S,C,_⟩:=mem_ready.1 hx;have q:=(kW.1 C).1;rw[hl x q]at c;have:=(j' x q).resolve_right sm
  simp[this]at c
 | cons i rest ih =>
  intro dn listed a w j' S _h _i hs hl _a _b _c ha V' h;obtain⟨_j,H'⟩:=S i sm;obtain⟨D,hi⟩:∃ D,M[i]? = some D:=⟨M[i],by simp[H']⟩
  simp only[iQ,hi,Bool.and_eq_true]at _b;have q:i∈Region.ready .any M listed:=by
   refine mem_ready.2 ⟨by rw[hl i H'];simpa using _j,D,hi,fun e he V=>?_⟩;have:=wm.1 _b.1 e he;simp only[V,nH,tw,contains_iff_mem]at this;rw[hl _ (_h _ this)];simpa using this
  have _k:listed.getD i true=false:=(mem_ready.1 q).1;have _d:∀ (j:Nat) (F:Oper),M[j]? = some F->j≠i->listed.getD j true=false->tM M i j=false->D.apart M F=true/\j4 (dS P D.op) (dS P F.op)=true:=by
   intro j F hj P' C V;have J':=(kW.1 hj).1;rw[hl j J']at C;have T':j∈rest:=by
    rcases j' j J' with c|c
    ·simp[c]at C
    rcases ee.1 c with c|c
    ·exact absurd c P'
    exact c
   have:=XN _c j T';simp only[sX,V,tw,hi,hj,Bool.and_eq_true]at this;exact this
  have _l:∀ r,listed.getD r false=true->tM M i r=false:=by
   intro r C
   cases V:tM M i r with
   | false=>rfl
   | true=>have:=_a r i C V;rw[(Ae _k).1]at this;cases this
  have J':∀ r,listed.getD r false=true->gR P M r=.dC->my M r D:=by
   intro r C hc P' V;have T':i≠r:=fun e=>by subst e;rw[(Ae _k).1]at C;cases C
   exact H.xe r P' i D V hc hi T' (_l r C) P' V
  have T':∀ v,fr (a.put D.dst v)=iq (fr a) D.dst v:=fun v=>wB fun t ht=>by rw[ha];exact _g D (yq hi) t ht
  refine PM H R' hi rest.length listed a w hs ha _a _d q ?_
  
  have _e:jS P M listed i D (fun a' w'=>a'.tmps.size=n/\a'.defers=[]/\opsD P M K (fc P M rest) (fr a') w') a w:=by
   simp only[fc,kO,qC,opsD,hi]at h
   have C:∀ v w',opsD P M K (fc P M rest) (iq (fr a) D.dst v) w'->(a.put D.dst v).tmps.size=n/\(a.put D.dst v).defers=[]/\opsD P M K (fc P M rest) (fr (a.put D.dst v)) w' :=
    fun v w' hk=>⟨by rw[eW,ha],by rw[zQ,V'],by rw[T'];exact hk⟩
   have _m:opV P D (fr a) w (opsW P M (opsD P M K ((match gR P M i with|.ff=>(ia P M i).map cF.cI|_=>[])++fc P M rest)) [])->dZ P M listed i D a w fun a' w'=>a'.tmps.size=n/\a'.defers=[]/\opsD P M K (fc P M rest) (fr a') w':=by
    intro hv;have _f:gR P M i=dS P D.op:=by simp[gR,hi]
    rw[_f]at hv;unfold opV at hv
    cases hc:dS P D.op with
    | pure =>
     simp only[hc]at hv;rw[Af hc];obtain⟨v,V,hk⟩:=hv;unfold PureV at V;rw[q9]at V
     exact⟨v,V,C _ _ hk⟩
    | dC =>
     simp only[hc]at hv;rw[Bv hc];obtain⟨v,V,hk⟩:=hv;unfold ReadV at V;rw[q9]at V
     exact⟨v,V,C _ _ hk⟩
    | ff =>
     simp only[hc]at hv;rw[G9 hc];unfold opW at hv;rw[q9]at hv;refine uN (fun v w' hk=>?_) hv;obtain⟨V,_n⟩:=D6 (ia P M i) hk;refine⟨fun r hr _o=>?_,C _ _ _n⟩;refine(G8 v (J' r _o (D5 hr).1) (fun P' cs b ho=>H.aY r P' cs b ho)).1 (PN fun o ho=>?_);rw[T'];exact V r hr o ho
   simp only[opsW]at h
   cases I:D.guard with
   | none =>
    simp only[I]at h;refine⟨fun _=>_m h,fun Y=>?_⟩
    simp[Region.wanted,I]at Y
   | some g =>
    simp only[I]at h;unfold jS;rw[D2 I];refine⟨fun Y=>_m (h.1 Y),fun Y=>C _ _ ?_⟩;have:=h.2 Y;have _f:gR P M i=dS P D.op:=by simp[gR,hi]
    rw[_f]at this
    cases hc:dS P D.op with
    | ff=>simp only[hc]at this;exact(D6 (ia P M i) this).2
    | pure=>simp only[hc]at this;exact this
    | dC=>simp only[hc]at this;exact this
  refine D4 (fun u w' hk=>?_) _e;refine ih (i::dn) _ _ w' (fun j hj=>?_) (fun j hj=>⟨?_,(S j (by simp[hj])).2⟩) (fun j hj=>?_) (vr.1 _i).2 (by simpa using hs) (fun j hj d=>?_) (G7 H.pJ _a q H.bl) _b.2 (by simp only[lY,Bool.and_eq_true]at _c;exact _c.2) hk.1 hk.2.1 hk.2.2
  ·rcases j' j hj with c|c
   ·left;simp[c]
   rcases ee.1 c with c|c
   ·left;simp[c]
   right;exact c
  ·intro hm
   rcases ee.1 hm with c|c
   ·subst c;exact(vr.1 _i).1 hj
   exact(S j (by simp[hj])).1 c
  ·rcases ee.1 hj with rfl|c
   ·exact H'
   exact _h j c
  by_cases c:i=j
  ·subst c
   have:i<listed.size:=by rw[hs];exact H'
   simp[this]
  rw[getD_set_ne d c,hl j hj d];simp[Ne.symm c]
def XO {M:Array Oper}{is:List cF}(h:pw P M is=true):lZ P M:=by
 simp only[pw,Bool.and_eq_true,gQ]at h;obtain⟨⟨⟨⟨⟨⟨⟨⟨⟨⟨⟨⟨h1,q⟩,h3⟩,h4⟩,h5⟩,h6⟩,h7⟩,h8⟩,h9⟩,j'⟩,H'⟩,T'⟩,V'⟩:=h;refine⟨Kr q,h3,fun k i C=>?_,fun r _a k ok hr hc hk J' C or' c => ?_,fun i o ho hc=>?_⟩
 ·rcases nu k M.size with hk|hk
  ·have:=uB (all_eq_true.1 H' k (mem_range.2 hk))
   rcases nu i M.size with hi|hi
   ·exact hi
   have:=CE (Bb this (yt U hi));rw[this]at C;cases C
  have:(Region.before M).getD k 0=0:=by
   have:(Region.before M).size<=k:=U;simp[tH this]
  rw[this]at C;simp at C
 ·have P':=(kW.1 hr).1
  have R':=(kW.1 hk).1;have h1:=all_eq_true.1 h9 r (mem_range.2 P');simp only[hc,wH,nH,tw]at h1;have q:=all_eq_true.1 h1 k (mem_range.2 R');rw[hr]at c;cases c;have S:(k == r)=false:=by simpa using J'
  simp only[rJ,S,C,tw,hr,hk]at q;refine⟨fun d V=>?_,fun d V=>?_⟩<;>simp[V]at q
  ·exact q.1
  exact q.2
 have:=wm.1 j' o (yq ho);simp only[hc,wH,nH,tw]at this;split at this
 ·rename_i d V;exact⟨d,V,by simpa using this⟩
 cases this
def XP {M:Array Oper}(h:sY P M=true):lZ P M:=by
 simp only[sY,Bool.and_eq_true,gQ]at h;obtain⟨⟨⟨⟨⟨q,h3⟩,h9⟩,j'⟩,H'⟩,T'⟩:=h;refine⟨Kr q,h3,fun k i C=>?_,fun r V' k ok hr hc hk J' C or' c => ?_,fun i o ho hc=>?_⟩
 ·rcases nu k M.size with hk|hk
  ·have:=uB (all_eq_true.1 H' k (mem_range.2 hk))
   rcases nu i M.size with hi|hi
   ·exact hi
   have:=CE (Bb this (yt U hi));rw[this]at C;cases C
  have:(Region.before M).getD k 0=0:=by
   have:(Region.before M).size<=k:=U;simp[tH this]
  rw[this]at C;simp at C
 ·have P':=(kW.1 hr).1
  have R':=(kW.1 hk).1;have h1:=all_eq_true.1 h9 r (mem_range.2 P');simp only[hc,wH,nH,tw]at h1;have q:=all_eq_true.1 h1 k (mem_range.2 R');rw[hr]at c;cases c;have S:(k == r)=false:=by simpa using J'
  simp only[rJ,S,C,tw,hr,hk]at q;refine⟨fun d V=>?_,fun d V=>?_⟩<;>simp[V]at q
  ·exact q.1
  exact q.2
 have:=wm.1 j' o (yq ho);simp only[hc,wH,nH,tw]at this;split at this
 ·rename_i d V;exact⟨d,V,by simpa using this⟩
 cases this
def XQ {ro:Option Nat}{id:Nat}{M:Array Oper}{is:List cF}{K:Fr->World->Prop}{a:Act}{w:World}{Q:Exit->Act->World->Prop}(hm:P.follows .mixedOrders=true)(V:∀ a w,Ok n K a w->Q .normal a w)(q:iN n M=true)(C:pw P M is=true)(hs:a.tmps.size=n)(hd:a.defers=[])(h:opsD P M K is (fr a) { w with drawn:=w.drawn+1 }):(Code.region id M true).wpIn (fw ro) m P Q a w:=by
 have H:=XO C;simp only[pw,Bool.and_eq_true,gQ]at C;obtain⟨⟨⟨⟨⟨⟨⟨⟨⟨⟨⟨⟨h1,h2⟩,h3⟩,h4⟩,h5⟩,h6⟩,h7⟩,h8⟩,h9⟩,j'⟩,H'⟩,J'⟩,S⟩:=C;refine wpIn_region_any hm (KK (K:=Ok n K) V _ _ _ _ ?_);rw[h1]at h;have hb:∀ i∈fF is,i<M.size:=fun i hi=>uB (all_eq_true.1 h5 i hi)
 have:=PO H q (fF is) [] (Array.replicate M.size false) a _ (fun j c=>.inr (by simpa using all_eq_true.1 S j (mem_range.2 c))) (fun j c=>⟨sm,hb j c⟩) sm h6 sm (fun j c d=>by simp[c])
  (fun j i c _=>by
   rcases nu j M.size with hk|hk
   ·simp[hk]at c
   simp[hk]at c) h7 h8 hs hd h
 rw[h4]at this;exact this
def PP {M:Array Oper}{N:Fr->World->Prop}(H:lZ P M)(J':iN n M=true)(hi:M[i]? = some D){listed:Array Bool}{a:Act}{w:World}(P':listed.getD i true=false)(_a:rr M listed)(ha:a.tmps.size=n)(_b:a.defers=[])(h:opsD P M N (fc P M [i]) (fr a) w):jS P M listed i D (fun a' w'=>a'.tmps.size=n/\a'.defers=[]/\N (fr a') w') a w:=by
 have R':∀ o,o∈M->∀ d,o.dst=some d->d<n:=fun o ho d hd=>by
  have:=wm.1 J' o ho
  simpa [hd] using this
 have T':∀ r,listed.getD r false=true->tM M i r=false:=by
  intro r c
  cases q:tM M i r with
  | false=>rfl
  | true=>have:=_a r i c q;rw[(Ae P').1]at this;cases this
 have S:∀ r,listed.getD r false=true->gR P M r=.dC->my M r D:=by
  intro r c C V q;have j':i≠r:=fun e=>by subst e;rw[(Ae P').1]at c;cases c
  exact H.xe r V i D q C hi j' (T' r c) V q
 have j':∀ v,fr (a.put D.dst v)=iq (fr a) D.dst v:=fun v=>wB fun t ht=>by rw[ha];exact R' D (yq hi) t ht
 simp only[fc,kO,Be,fS,opsD,hi]at h
 have c:∀ v w',N (iq (fr a) D.dst v) w'->(a.put D.dst v).tmps.size=n/\(a.put D.dst v).defers=[]/\N (fr (a.put D.dst v)) w' :=
  fun v w' hk=>⟨by rw[eW,ha],by rw[zQ,_b],by rw[j'];exact hk⟩
 have V':opV P D (fr a) w (opsW P M (opsD P M N (match gR P M i with|.ff=>(ia P M i).map cF.cI|_=>[])) [])->dZ P M listed i D a w fun a' w'=>a'.tmps.size=n/\a'.defers=[]/\N (fr a') w':=by
  intro hv;have H':gR P M i=dS P D.op:=by simp[gR,hi]
  rw[H']at hv;unfold opV at hv
  cases C:dS P D.op with
  | pure =>
   simp only[C]at hv;rw[Af C];obtain⟨v,q,hk⟩:=hv;unfold PureV at q;rw[q9]at q
   exact⟨v,q,c _ _ hk⟩
  | dC =>
   simp only[C]at hv;rw[Bv C];obtain⟨v,q,hk⟩:=hv;unfold ReadV at q;rw[q9]at q
   exact⟨v,q,c _ _ hk⟩
  | ff =>
   simp only[C]at hv;rw[G9 C];unfold opW at hv;rw[q9]at hv;refine uN (fun v w' hk=>?_) hv;obtain⟨q,_c⟩:=D6 (tail:=[]) (ia P M i) (by rw[fS];exact hk);refine⟨fun r hr _d=>?_,c _ _ _c⟩;refine(G8 v (S r _d (D5 hr).1) (fun V cs b ho=>H.aY r V cs b ho)).1 (PN fun o ho=>?_);rw[j'];exact q r hr o ho
 simp only[opsW]at h
 cases I:D.guard with
 | none =>
  simp only[I]at h;refine⟨fun _=>V' h,fun Y=>?_⟩
  simp[Region.wanted,I]at Y
 | some g =>
  simp only[I]at h;unfold jS;rw[D2 I];refine⟨fun Y=>V' (h.1 Y),fun Y=>c _ _ ?_⟩;have:=h.2 Y;have H':gR P M i=dS P D.op:=by simp[gR,hi]
  rw[H']at this
  cases C:dS P D.op with
  | ff=>simp only[C]at this;exact(D6 (tail:=[]) (ia P M i) (by rw[fS];exact this)).2
  | pure=>simp only[C]at this;exact this
  | dC=>simp only[C]at this;exact this
structure CM (M:Array Oper) (n:Nat) (dn:List Nat) (listed:Array Bool) (a:Act):Prop where
 size:listed.size=M.size
 dJ:∀ j,j<M.size->∀ d,listed.getD j d=decide (j∈dn)
 down:rr M listed
 lt:∀ j∈dn,j<M.size
 tmps:a.tmps.size=n
 defers:a.defers=[]
def CM.ready {M:Array Oper}{n:Nat}{V:List Nat}{listed:Array Bool}{a:Act}(S:CM M n V listed a){i:Nat}:i∈Region.ready .any M listed↔(i∉V/\ni M V i=true):=by
 rw[mem_ready];constructor
 ·rintro⟨h1,o,C,q⟩
  have c:=(kW.1 C).1;rw[S.dJ i c]at h1;refine⟨by simpa using h1,?_⟩;simp only[ni,C];refine wm.2 fun e he=>?_
  cases hb:Region.binds .any e with
  | false=>rfl
  | true =>
   have h3:=q e he hb;rcases nu e.on M.size with hl|hl
   ·rw[S.dJ _ hl]at h3
    simpa using h3
   have:listed.size<=e.on:=by rw[S.size];exact hl
   simp[this]at h3
 rintro⟨h1,q⟩;unfold ni at q;split at q
 ·rename_i o C
  have c:=(kW.1 C).1;refine⟨by rw[S.dJ i c];simpa using h1,o,C,fun e he hb=>?_⟩;have:=wm.1 q e he;simp only[hb,nH,tw,contains_iff_mem]at this;rw[S.dJ _ (S.lt _ this)];simpa using this
 cases q
def CM.next {M:Array Oper}{dn:List Nat}{listed:Array Bool}{a C:Act}(H:lZ P M)(S:CM M n dn listed a)(q:i<M.size)(hr:i∈Region.ready .any M listed)(ha:C.tmps.size=n)(hd:C.defers=[]):CM M n (i::dn) (listed.setIfInBounds i true) C:=by
 refine⟨by simpa using S.size,fun j V d=>?_,G7 H.pJ S.down hr H.bl,fun j V=>?_,ha,hd⟩
 ·by_cases c:i=j
  ·subst c
   have:i<listed.size:=by rw[S.size];exact q
   simp[this]
  rw[getD_set_ne d c,S.dJ j V d];simp[Ne.symm c]
 rcases ee.1 V with rfl|c
 ·exact q
 exact S.lt j c
def AG:PT->Prop
 | .Bt ..|.stop=>True
 | _=>False
def Ha {M:Array Oper}{K:Fr->World->Prop}{n:Nat}(H:lZ P M)(c:iN n M=true):∀ (T:PT) (C seen:List Nat) (fuel:Nat) (listed:Array Bool) (a:Act) (w:World),jy P M C seen T=true->CM M n C listed a->fuel+C.length=M.size->jR P M K T (fr a) w ->
  (seen=[]->jZ P M (Ok n K) fuel listed a w)/\(AG T->∀ i∈Region.ready .any M listed,i∉seen->∀ o,M[i]? = some o->∃ f,fuel=f+1/\jS P M listed i o (jZ P M (Ok n K) f (listed.setIfInBounds i true)) a w)
 | .stop,C,seen,fuel,listed,a,w,ht,S,_,_=>by
  simp only[jy,Bool.and_eq_true,xY]at ht;refine⟨fun h=>by simp[h]at ht,fun _ i hi q o ho=>?_⟩;have j':=(kW.1 ho).1;have h1:=all_eq_true.1 ht.2 i (mem_range.2 j');obtain⟨V,h3⟩:=S.ready.1 hi
  simp[V,q,h3]at h1
 | .jE is,C,seen,fuel,listed,a,w,ht,S,hf,h=>by
  simp only[jy,Bool.and_eq_true,gQ]at ht;obtain⟨⟨⟨⟨⟨⟨⟨t1,t2⟩,t3⟩,t4⟩,t5⟩,t6⟩,t7⟩,t8⟩:=ht;refine⟨fun _=>?_,fun h=>h.elim⟩;simp only[jR]at h;rw[t2]at h;have q:∀ j∈fF is,j<M.size/\j∉C:=fun j V=>by
   have:=all_eq_true.1 t4 j V
   simpa using this
  have:=PO H c (fF is) C listed a w (fun j V=>by
    have:=all_eq_true.1 t8 j (mem_range.2 V)
    simpa using this) (fun j V=>⟨(q j V).2,(q j V).1⟩) S.lt t5 S.size S.dJ S.down t6 t7 S.tmps S.defers h
  have e:fuel=(fF is).length:=U
  rw[e];exact this
 | .step i is t,C,seen,fuel,listed,a,w,ht,S,hf,h=>by
  simp only[jy,Bool.and_eq_true,gQ,xY]at ht;obtain⟨⟨⟨⟨⟨⟨t1,t2⟩,t3⟩,t4⟩,t5⟩,t6⟩,t7⟩:=ht;refine⟨fun _=>?_,fun h=>h.elim⟩;obtain⟨f,rfl⟩:∃ f,fuel=f+1:=⟨fuel-1,U⟩
  have hr:i∈Region.ready .any M listed:=S.ready.2 ⟨by simpa using t4,t5⟩;obtain⟨P',D,hi,_⟩:=mem_ready.1 hr;have j':=(kW.1 hi).1;simp only[jR]at h;rw[t2]at h;refine PM H c hi f listed a w S.size S.tmps S.down (fun j F V H' J' hb=>?_) hr ?_
  ·have R':=(kW.1 V).1
   rw[S.dJ j R']at J';have:=all_eq_true.1 t6 j (mem_range.2 R');have T':C.contains j=false:=by simpa using J'
   have V':(j == i)=false:=by simpa using H'
   simp only[T',V',tw,sX,hb,hi,V,Bool.and_eq_true]at this;exact this
  refine D4 (fun u w' hk=>?_) (PP H c hi P' S.down S.tmps S.defers h)
  exact(Ha H c t (i::C) [] f _ _ w' t7 (S.next H j' hr hk.1 hk.2.1) (by simp only[length_cons];omega) hk.2.2).1 rfl
 | .Bt i is t m,C,seen,fuel,listed,a,w,ht,S,hf,h=>by
  simp only[jy,Bool.and_eq_true,gQ,xY]at ht;obtain⟨⟨⟨⟨⟨t2,t3⟩,t4⟩,t5⟩,t7⟩,t8⟩:=ht;have hr:i∈Region.ready .any M listed:=S.ready.2 ⟨by simpa using t4,t5⟩;obtain⟨P',D,hi,_⟩:=mem_ready.1 hr;have j':=(kW.1 hi).1;simp only[jR]at h;rw[t2]at h;have J':AG m:=by
   cases m with
   | jE is=>simp[jy]at t8
   | step i is t=>simp[jy]at t8
   | _=>trivial
  have q:∀ j∈Region.ready .any M listed,j∉seen->∀ o,M[j]? = some o->∃ f,fuel=f+1/\jS P M listed j o (jZ P M (Ok n K) f (listed.setIfInBounds j true)) a w:=by
   intro j V R' o ho;by_cases H':j=i
   ·subst H'
    rw[hi]at ho;cases ho;obtain⟨f,rfl⟩:∃ f,fuel=f+1:=⟨fuel-1,U⟩
    refine⟨f,rfl,D4 (fun u w' hk=>?_) (PP H c hi P' S.down S.tmps S.defers h.1)⟩;exact(Ha H c t (j::C) [] f _ _ w' t7 (S.next H j' hr hk.1 hk.2.1) (by simp only[length_cons];omega) hk.2.2).1 rfl
   exact(Ha H c m C (i::seen) fuel listed a w t8 S hf h.2).2 J' j V (fun hm=>by
    rcases ee.1 hm with h'|h'
    ·exact H' h'
    exact R' h') o ho
  refine⟨fun hs=>?_,fun _=>q⟩;subst hs;obtain⟨f,rfl⟩:∃ f,fuel=f+1:=⟨fuel-1,U⟩
  refine⟨fun h0=>(by rw[h0]at hr;cases hr),fun j V o ho=>?_⟩;obtain⟨f',H',hc⟩:=q j V sm o ho;cases H';exact hc
def XR {ro:Option Nat}{id:Nat}{M:Array Oper}{T:PT}{K:Fr->World->Prop}{a:Act}{w:World}{Q:Exit->Act->World->Prop}(hm:P.follows .mixedOrders=true)(C:∀ a w,Ok n K a w->Q .normal a w)(c:iN n M=true)(S:sY P M=true)(V:jy P M [] [] T=true)(hs:a.tmps.size=n)(hd:a.defers=[])(h:jR P M K T (fr a) { w with drawn:=w.drawn+1 }):(Code.region id M true).wpIn (fw ro) m P Q a w:=by
 have H:=XP S;refine wpIn_region_any hm (KK (K:=Ok n K) C _ _ _ _ ?_);refine(Ha H c T [] [] M.size _ a _ V ⟨sm,fun j q d=>by simp[q],fun j i q _=>?_,sm,hs,hd⟩ sm h).1 rfl;rcases nu j M.size with hk|hk
 ·simp[hk]at q
 simp[hk]at q
def PQ {p:Nat->Prop}:∀ m,p m->∃ k,p k/\∀ j,p j->k<=j:=by
 intro m
 induction m using Nat.strongRecOn with
 | _ m C =>
  intro hm;by_cases h:∃ j,j<m/\p j
  ·obtain⟨j,c,q⟩:=h;exact C j c q
  exact⟨m,hm,fun j c=>DC fun q=>h ⟨j,q,c⟩⟩
open Classical in
noncomputable def dq (p:Nat->Prop):Nat:=if h:∃ k,p k/\∀ j,p j->k<=j then h.choose else 0
def PR {p:Nat->Prop}(hm:p m):p (dq p)/\∀ j,p j->dq p<=j:=by
 have h:=PQ m hm;unfold dq;rw[dif_pos h];exact h.choose_spec
def wC {ro:Option Nat}{m:Nat}{n:Nat}(hm:P.follows .mixedOrders=true):∀ (c:Code),mY n c=true->∀ (Q:Exit->Fr->World->Prop) (a:Act) (w:World),a.tmps.size=n->a.defers=[]->vc P c Q (fr a) w ->
  c.wpIn (fw ro) m P (Xw n Q) a w
 | .skip,_,_,_,_,q,C,h=>wpIn_skip ⟨q,C,h⟩
 | .label _,_,_,_,_,q,C,h=>wpIn_label ⟨q,C,h⟩
 | .exit _,_,_,_,_,q,C,h=>wpIn_exit ⟨q,C,h⟩
 | .ret,_,_,_,_,q,C,h=>wpIn_ret ⟨q,C,h⟩
 | .seq x y,hf,Q,a,w,q,C,h=>by
  simp only[mY,Bool.and_eq_true]at hf;refine wpIn_seq (wpIn_mono (wC hm x hf.1 _ a w q C h) fun e a' w' hq=>?_);obtain⟨S,V,hq⟩:=hq
  cases e with
  | normal=>exact wC hm y hf.2 Q a' w' S V hq
  | _=>exact⟨S,V,hq⟩
 | .cond c x y,hf,Q,a,w,q,C,h=>by
  simp only[mY,Bool.and_eq_true]at hf;obtain⟨t,ht,h1,h2⟩:=h;rw[q9]at ht
  exact wpIn_cond_split ht (fun ht=>wC hm x hf.1 Q a w q C (h1 ht)) (fun ht=>wC hm y hf.2 Q a w q C (h2 ht))
 | .block id c,hf,Q,a,w,q,C,h=>by
  refine wpIn_block (wpIn_mono (wC hm c hf _ a w q C h) fun e a' w' hq=>?_);obtain⟨S,V,hq⟩:=hq
  cases e with
  | exit i =>
   simp only[Blk]at hq;simp only[Exit.inBlock];split
   ·rename_i hi;rw[aM hi]at hq;exact⟨S,V,hq⟩
   rename_i hi;rw[aC hi]at hq;exact⟨S,V,hq⟩
  | _=>exact⟨S,V,hq⟩
 | .loop c,hf,Q,a,w,q,C,h=>by
  obtain⟨I',h0,hr⟩:=h;refine wpIn_loop (fun a w=>a.tmps.size=n/\a.defers=[]/\∃ m,I' m (fr a) w) (fun a w=>dq fun m=>I' m (fr a) w) ⟨q,C,h0⟩ fun a w ⟨q,C,m0,H'⟩=>?_;have hI:=(PR (p:=fun m=>I' m (fr a) w) H').1;refine wpIn_mono (wC hm c hf _ a w q C (hr _ _ _ hI)) fun e a' w' hq=>?_;obtain⟨S,V,hq⟩:=hq
  cases e with
  | normal =>
   obtain⟨m',J',j'⟩:=hq
   exact⟨⟨S,V,m',j'⟩,zN ((PR (p:=fun m=>I' m (fr a') w') j').2 m' j') J'⟩
  | _=>exact⟨S,V,hq⟩
 | .region id M false,hf,Q,a,w,q,C,h=>XI (fun a w h=>h) hf q C h
 | .region id M true,hf,Q,a,w,q,C,h=>by
  rcases h with h|⟨is,S,h⟩|⟨T,V,ht,h⟩
  case inr.inl=>exact XQ hm (fun a w h=>h) hf S q C h
  case inr.inr=>exact XR hm (fun a w h=>h) hf V ht q C h
  refine wpIn_region_any hm (KF (K:=Ok n (Q .normal)) (fun a w h=>h) _ _ _ _ ?_);have:=XH h.1 hf M.toList 0 (Array.replicate M.size false) a _ sm sm ⟨sm,fun j hj d=>by simp[hj]⟩ q C h.2
  simpa using this
 | .rangeFunc ..,_,_,_,_,_,_,h=>h.elim
 | .scope _,_,_,_,_,_,_,h=>h.elim
 | .goto _,_,_,_,_,_,_,h=>h.elim
 | .refuse _,_,_,_,_,_,_,h=>h.elim
def vN (args:List Value):Fr:=fun t=>(args[t]?).getD undef
def mz (P:Program)(fn:Func)(R:Value->World->Prop)(e:Exit)(ρ:Fr)(w:World):Prop :=
 match e with
 | .normal|.ret=>∃ v,(∀ a:Act,fr a=ρ->(results fn a.tmps).run P w=.ok v w)/\R v w
 | _=>False
def XS {f:FuncId}{fn:Func}{c:Code}{args:List Value}{w:World}(hm:P.follows .mixedOrders=true)(hf:P.funcs[f]? = some fn)(hb:fn.body=some c)(q:mY fn.ntmps c=true)(hn:args.length<=fn.ntmps)(h:vc P c (mz P fn fun v w'=>R (.returned v) w') (vN args) w):Calls P f args.toArray w R:=by
 refine(callsIn_wide (n:=0)).1 (callsIn_of_wp hf hb trivial ?_);have C:fr { tmps:=args.toArray++Array.replicate (fn.ntmps-args.toArray.size) undef,defers:=[] }=vN args:=by
  funext t
  simp only[fr,vN];rcases nu t args.length with S|S
  ·simp[DQ,S]
  simp[Ko,S];rcases nu (t-args.length) (fn.ntmps-args.length) with h1|h1
  ·simp[h1]
  simp[h1]
 rw[<-C]at h;refine wpIn_mono (wC (ro:=none) hm c q _ _ w (by simp;omega) rfl h) fun e V w' hq=>?_;obtain⟨_,hd,hq⟩:=hq
 cases e with
 | normal=>obtain⟨v,hv,S⟩:=hq;exact⟨hd,v,hv V rfl,S⟩
 | ret=>obtain⟨v,hv,S⟩:=hq;exact⟨hd,v,hv V rfl,S⟩
 | _=>exact hq.elim
end
def rl:List Nat->Nat->Nat|a::b::l,k=>bif Nat.beq k a then b else rl l k|_,_=>0
end
variable {is:List cF}{N:Fr->World->Prop}{ρ0:Fr}
section
open Go.RowKit (Below)
abbrev PH:=Nat->Option Obj
abbrev HP:=PH->Prop
def ru (h1 h2:PH):Prop:=∀ b,h1 b=none\/h2 b=none
def qf (h1 h:PH):Prop:=∀ b o,h1 b=some o->h b=some o
def cm:List HP->PH->Prop
 | [],_=>True
 | A::Γ,h=>∃ h1 c,ru h1 c/\qf h1 h/\qf c h/\A h1/\cm Γ c
def pU (h1 h2:PH):PH:=fun b=>match h1 b with|some o=>some o|none=>h2 b
def mO (h:PH)(b:Nat)(o:Obj):PH:=fun b'=>if b'=b then some o else h b'
def ru.symm {h1 h2:PH}(h:ru h1 h2):ru h2 h1:=fun b=>(h b).symm
def ru.sub {h1 h2 q:PH}(h:ru h1 h2)(S:qf q h2):ru h1 q:=fun b=>by
 rcases h b with c|c
 ·exact .inl c
 right;cases C:q b with
 | none=>rfl
 | some o=>rw[S b o C]at c;cases c
def qf.trans {a b c:PH}(h:qf a b)(k:qf b c):qf a c:=fun x o hx=>k x o (h x o hx)
def qf.refl (h:PH):qf h h:=fun _ _ h=>h
def cm.sub {Γ:List HP}{h c:PH}(q:qf h c)(C:cm Γ h):cm Γ c:=by
 cases Γ with
 | nil=>trivial
 | cons A Γ=>obtain⟨h1,S,d,s1,s2,V,I⟩:=C;exact⟨h1,S,d,s1.trans q,s2.trans q,V,I⟩
def cm.swap {A B:HP}{Γ:List HP}{h:PH}(hh:cm (A::B::Γ) h):cm (B::A::Γ) h:=by
 obtain⟨h1,h2,d,s1,s2,ha,V,h4,d2,s3,C,hb,I⟩:=hh;refine⟨V,pU h1 h4,fun b=>?_,s3.trans s2,fun b o c => ?_,hb,h1,h4,d.sub C,fun b o c=>by simp[pU,c],fun b o c => ?_,ha,I⟩
 ·rcases d b with q|q
  ·rcases d2 b with hm|hm
   ·exact .inl hm
   right;simp[pU,q,hm]
  left;cases S:V b with
  | none=>rfl
  | some o=>rw[s3 b o S]at q;cases q
 ·simp only[pU]at c
  split at c
  ·rename_i o' S;cases c;exact s1 b _ S
  exact s2 b o (C b o c)
 simp only[pU];rcases d b with q|q
 ·rw[q];exact c
 rw[C b o c]at q;cases q
def cm.tail {A:HP}{Γ:List HP}{h:PH}(c:cm (A::Γ) h):cm Γ h:=by
 obtain⟨h1,q,d,s1,s2,C,I⟩:=c;exact I.sub s2
def cm.iA {A A':HP}{Γ c:List HP}{h:PH}(q:∀ h,A h->A' h)(I:∀ h,cm Γ h->cm c h)(C:cm (A::Γ) h):cm (A'::c) h:=by
 obtain⟨h1,S,d,s1,s2,a,g⟩:=C;exact⟨h1,S,d,s1,s2,q _ a,I _ g⟩
def cm.bQ {Γ:List HP}:∀ (i:Nat) {A:HP}{h:PH},Γ[i]? = some A->cm Γ h->cm (A::Γ.eraseIdx i) h:=by
 induction Γ with
 | nil=>intro i A h hi;simp at hi
 | cons B Γ q =>
  intro i A h hi c
  cases i with
  | zero=>simp only[DZ,z7]at hi;subst hi;exact c
  | succ i =>
   simp only[getElem?_cons_succ]at hi;exact(cm.iA (fun _ h=>h) (fun _ h=>q i hi h) c).swap
def cm.ir {Γ:List HP}:∀ (i:Nat) {A A':HP}{h:PH},Γ[i]? = some A->cm (A'::Γ.eraseIdx i) h->cm (Γ.set i A') h:=by
 induction Γ with
 | nil=>intro i A A' h hi;simp at hi
 | cons B Γ q =>
  intro i A A' h hi c
  cases i with
  | zero=>exact c
  | succ i =>
   simp only[getElem?_cons_succ]at hi;exact cm.iA (fun _ h=>h) (fun _ h=>q i hi h) (cm.swap c)
def cm.write {A A':HP}{Γ:List HP}{h:PH}{b:Nat}{o':Obj}(V:cm (A::Γ) h)(Y:∀ h1,qf h1 h->A h1->(∃ o,h1 b=some o)/\A' (mO h1 b o')):cm (A'::Γ) (mO h b o'):=by
 obtain⟨h1,S,d,s1,s2,a,g⟩:=V;obtain⟨⟨o,ho⟩,C⟩:=Y h1 s1 a;have q:S b=none:=(d b).resolve_left (by rw[ho];simp);refine⟨mO h1 b o',S,fun x=>?_,fun x y hx=>?_,fun x y hx=>?_,C,g⟩
 ·by_cases c:x=b
  ·subst c;exact .inr q
  simpa [mO,c] using d x
 ·simp only[mO]at hx ⊢
  split
  ·rename_i c;rw[aM c]at hx;exact hx
  rename_i c;rw[aC c]at hx;exact s1 x y hx
 have c:x≠b:=fun e=>by subst e;rw[q]at hx;cases hx
 simp only[mO,aC c];exact s2 x y hx
def cm.new {A:HP}{Γ:List HP}{h:PH}{b:Nat}{o:Obj}(q:h b=none)(C:cm Γ h)(S:A (fun x=>if x=b then some o else none)):cm (A::Γ) (mO h b o):=by
 refine⟨_,h,fun x=>?_,fun x y hx=>?_,fun x y hx=>?_,S,C⟩
 ·by_cases c:x=b
  ·subst c;exact .inr q
  left;simp[c]
 ·by_cases c:x=b
  ·simp only[c,if_true]at hx;simpa [mO,c] using hx
  simp[c]at hx
 have c:x≠b:=fun e=>by subst e;rw[q]at hx;cases hx
 simp only[mO,aC c];exact hx
def eR (w0 w:World):PH:=fun b=>if b<w0.heap.size then none else w.heap[b]?
structure Z (w0 w:World) (Γ:List HP):Prop where
 below:Below w0.heap.size w0 w
 jL:cm Γ (eR w0 w)
def Z.start (w:World):Z w w []:=⟨Below.refl _ _,az⟩
def Z.drew {w0 w:World}{Γ:List HP}(h:Z w0 w Γ):Z w0 { w with drawn:=w.drawn+1 } Γ:=⟨h.below.trans ⟨rfl,rfl,rfl,cD _,fun _ _=>rfl⟩,h.jL⟩
def Z.tail {w0 w:World}{A:HP}{Γ:List HP}(h:Z w0 w (A::Γ)):Z w0 w Γ:=⟨h.below,h.jL.tail⟩
def Z.swap {w0 w:World}{A B:HP}{Γ:List HP}(h:Z w0 w (A::B::Γ)):Z w0 w (B::A::Γ):=⟨h.below,h.jL.swap⟩
def Z.bQ {w0 w:World}{Γ:List HP}(i:Nat){A:HP}(hi:Γ[i]? = some A)(h:Z w0 w Γ):Z w0 w (A::Γ.eraseIdx i):=⟨h.below,h.jL.bQ i hi⟩
def Z.ir {w0 w:World}{Γ:List HP}(i:Nat){A A':HP}(hi:Γ[i]? = some A)(h:Z w0 w (A'::Γ.eraseIdx i)):Z w0 w (Γ.set i A'):=⟨h.below,h.jL.ir i hi⟩
def Z.mono {w0 w:World}{A A':HP}{Γ:List HP}(c:∀ h,A h->A' h)(h:Z w0 w (A::Γ)):Z w0 w (A'::Γ):=⟨h.below,h.jL.iA c fun _ h=>h⟩
def Z.mH {w0 w:World}{A:HP}{Γ c:List HP}(I:∀ h,cm Γ h->cm c h)(h:Z w0 w (A::Γ)):Z w0 w (A::c):=⟨h.below,h.jL.iA (fun _ h=>h) I⟩
def Z.call {w0 w:World}{Γ Δ:List HP}(h:Z w0 w Γ)(k:Z w w' Δ):Z w0 w' (Δ++Γ):=by
 have j':w0.heap.size<=w.heap.size:=h.below.size;refine⟨h.below.trans (k.below.mono j'),?_⟩;have key:∀ (Δ:List HP) (g:PH),qf g (eR w w')->cm Δ g->cm (Δ++Γ) (pU g (eR w0 w)):=by
  intro Δ
  induction Δ with
  | nil =>
   intro g I _;refine h.jL.sub fun b o c=>?_;simp only[pU]
   cases C:g b with
   | none=>exact c
   | some V =>
    have:=I b V C;simp only[eR]at this c;split at this
    ·cases this
    split at c
    ·cases c
    rename_i h1 q
    rw[tH U]at c;cases c
  | cons A Δ ih =>
   intro g I ⟨h1,q,d,s1,s2,ha,hr⟩;refine⟨h1,pU q (eR w0 w),fun b=>?_,fun b o c=>?_,fun b o c=>?_,ha,ih q (s2.trans I) hr⟩
   ·cases S:h1 b with
    | none=>exact .inl rfl
    | some o =>
     right;have H':q b=none:=(d b).resolve_left (by rw[S];simp);have:=I b o (s1 b o S);simp only[pU,H',eR]at this ⊢;split at this
     ·cases this
     split
     ·rfl
     exact tH U
   ·simp only[pU];rw[s1 b o c]
   simp only[pU]at c ⊢;split at c
   ·rename_i V S;rw[s2 b V S];exact c
   cases C:g b with
   | none=>exact c
   | some V =>
    have:=I b V C;simp only[eR]at this c;split at this
    ·cases this
    split at c
    ·cases c
    rw[tH U]at c;cases c
 refine(key Δ (eR w w') (qf.refl _) k.jL).sub fun b o c=>?_;simp only[pU,eR]at c ⊢;by_cases h1:b<w.heap.size
 ·simp only[h1,if_true]at c
  split at c
  ·cases c
  rename_i q;rw[aC q,k.below.block b h1];exact c
 simp only[h1,if_false]at c;have q:¬b<w0.heap.size:=U;rw[aC q];split at c
 ·rename_i V S;rw[S];exact c
 rename_i C;rw[aC q,tH U]at c;cases c
def Z.cy {w0 w:World}{Γ:List HP}(h:Z w0 w Γ)(k:Z w w' []):Z w0 w' Γ:=h.call k
def Z.mu {w0 w:World}{A:HP}{Γ:List HP}(h:Z w0 w Γ)(k:Z w w' [A]):Z w0 w' (A::Γ):=h.call k
def Z.w9 {w0 w:World}{A B:HP}{Γ:List HP}(h:Z w0 w Γ)(k:Z w w' [A,B]):Z w0 w' (A::B::Γ):=h.call k
def eO (w:World)(b:Nat)(o:Obj):World:={ w with heap:=w.heap.setIfInBounds b o }
def Z.put {w0 w:World}{A A':HP}{Γ:List HP}{b:Nat}{o':Obj}(h:Z w0 w (A::Γ))
  (Y:∀ h1,qf h1 (eR w0 w)->A h1->(∃ o,h1 b=some o)/\A' (mO h1 b o')):Z w0 (eO w b o') (A'::Γ):=by
 obtain⟨h1,_,_,s1,_,a,_⟩:=id h.jL;obtain⟨⟨o,V⟩,_⟩:=Y h1 s1 a;have c:=s1 b o V;simp only[eR]at c;split at c
 ·cases c
 rename_i hb;have C:b<w.heap.size:=(kW.1 c).1;refine⟨h.below.trans ⟨rfl,rfl,rfl,by simp[eO],fun k hk=>?_⟩,(h.jL.write Y).sub fun x y hx=>?_⟩
 ·simp only[eO];rw[uM U]
 simp only[mO,eR]at hx ⊢;split at hx
 ·rename_i q;subst q;rw[aC hb];simpa [eO,C] using hx
 rename_i q;split
 ·rename_i S;rw[aM S]at hx;exact hx
 rename_i S;rw[aC S]at hx;simp only[eO];rw[uM (Ne.symm q)];exact hx
def iK (w:World)(o:Obj):World:={ w with heap:=w.heap.push o }
def Z.push {w0 w:World}{A:HP}{Γ:List HP}{o:Obj}(h:Z w0 w Γ)(C:A (fun x=>if x=w.heap.size then some o else none)):Z w0 (iK w o) (A::Γ):=by
 have S:=h.below.size;refine⟨h.below.trans ⟨rfl,rfl,rfl,by simp[iK],fun k hk=>?_⟩,?_⟩
 ·simp only[iK];rw[Ky,aC U]
 refine(cm.new (b:=w.heap.size) (o:=o) ?_ h.jL C).sub fun x y hx=>?_
 ·simp only[eR];split
  ·rfl
  simp
 simp only[mO,eR]at hx ⊢;split at hx
 ·rename_i c;subst c;rw[aC U];simp only[iK];rw[Ky,aM rfl];exact hx
 rename_i c;split
 ·rename_i q;rw[aM q]at hx;exact hx
 rename_i q;rw[aC q]at hx;simp only[iK];rw[Ky,aC U];exact hx
def Z.at {w0 w:World}{Γ:List HP}(h:Z w0 w Γ)(i:Nat){A:HP}(hi:Γ[i]? = some A):∃ h1,(∀ b o,h1 b=some o->w.heap[b]? = some o/\w0.heap.size<=b)/\A h1:=by
 obtain⟨h1,_,_,s1,_,a,_⟩:=(h.bQ i hi).jL;refine⟨h1,fun b o c=>?_,a⟩;have:=s1 b o c;simp only[eR]at this;split at this
 ·cases this
 exact⟨this,U⟩
def ak (p:Addr)(t:TypeId)(cells:List Value):HP:=fun h=>p.off=0/\p.spot=none/\h p.block=some (.cells cells.toArray t (0,0))
def bU:Nat:=9223372036854775807
def Own (s:Value)(e:TypeId)(sz:Nat)(vs:List Value):HP:=fun h =>
 (s=nS/\vs=[]) \/
 ∃ b off n cap pre post,s=.slice (some ⟨b,off,none⟩) n cap/\pre.length=off/\vs.length=n*sz/\n<=cap/\n<=bU/\(cap-n)*sz<=post.length/\h b=some (.cells (pre++vs++post).toArray e (0,0))
def vE (w:World)(s:Value)(sz:Nat)(vs:List Value):Prop :=
 ∃ a n cap,s=.slice a n cap/\vs.length=n*sz/\(n<=cap/\n<=bU)/\∀ i v,vs[i]? = some v->∃ p,a=some p/\p.spot=none/\w.cell? ⟨p.block,p.off+i,none⟩=some v
def wT (s:Value)(k:Nat):Addr:=match s with|.slice (some p) _ _=>⟨p.block,p.off+k,none⟩|_=>⟨0,0,none⟩
def eo (s:Value):Nat:=match s with|.slice _ n _=>n|_=>0
def dH {w:World}{b:Nat}{cs:List Value}{t:TypeId}{f:Nat × Nat}(h:w.heap[b]? = some (.cells cs.toArray t f))(k:Nat):w.cell? ⟨b,k,none⟩=cs[k]? := by
 simp[World.cell?,h]
def eX {w:World}{b:Nat}{t:TypeId}(h:w.heap[b]? = some (.cells cs t (0,0)))(k:Nat):w.frozen? ⟨b,k,none⟩=false:=by
 simp[World.frozen?,h]
def vE.below {w0 w:World}{s:Value}(h:vE w0 s sz vs)(V:Below w0.heap.size w0 w):vE w s sz vs:=by
 obtain⟨a,n,cap,hs,hl,q,hc⟩:=h;refine⟨a,n,cap,hs,hl,q,fun i v hv=>?_⟩;obtain⟨p,hp,C,c⟩:=hc i v hv;refine⟨p,hp,C,?_⟩;have S:p.block<w0.heap.size:=by
  rcases nu p.block w0.heap.size with h|h
  ·exact h
  simp[World.cell?,tH h]at c
 rw[V.cell (p:=⟨p.block,p.off+i,none⟩) S];exact c
def vE.at {w0 w:World}{Γ:List HP}{s:Value}(h:vE w0 s sz vs)(Y:Z w0 w Γ):vE w s sz vs:=h.below Y.below
def Z.XT {w0 w:World}{Γ:List HP}(h:Z w0 w Γ)(i:Nat){s:Value}{e:TypeId}(hi:Γ[i]? = some (Own s e sz vs)):vE w s sz vs:=by
 obtain⟨h1,S,a⟩:=h.at i hi;rcases a with ⟨rfl,rfl⟩|⟨b,off,n,cap,pre,post,rfl,C,hlen,q,c,_,V⟩
 ·exact⟨none,0,0,rfl,sm,⟨bu _,bu _⟩,sm⟩
 refine⟨_,n,cap,rfl,hlen,⟨q,c⟩,fun i v hv=>⟨_,rfl,rfl,?_⟩⟩;change w.cell? ⟨b,off+i,none⟩=some v;rw[dH (S b _ V).1];have j':=(x8.1 hv).1;rw[fL,kn U,iX U];rw[show off+i-pre.length=i from by omega];exact hv
def vE.cell {w:World}{s:Value}(h:vE w s sz vs){k:Nat}{v:Value}(hv:vs[k]? = some v):w.cell? (wT s k)=some v:=by
 obtain⟨a,n,cap,rfl,_,_,q⟩:=h;obtain⟨p,rfl,_,c⟩:=q k v hv;exact c
def vE.len {w:World}{s:Value}(h:vE w s sz vs):vs.length=eo s*sz/\eo s<=bU:=by
 obtain⟨a,n,cap,rfl,c,q,_⟩:=h;exact⟨c,q.2⟩
end
variable {A A' B:HP}{h:PH}
section
def nO (w w':World):Prop:=w'.heap.size=w.heap.size/\∀ k:Nat,(∀ cs t f,w.heap[k]? ≠ some (Obj.cells cs t f))->w'.heap[k]? = w.heap[k]?
def PS {w:World}{b:Nat}{t:TypeId}{f:Nat × Nat}{o:Obj}(h:w.heap[b]? = some (.cells cs t f)):nO w (eO w b o) :=
 ⟨by simp[eO],fun k hk=>by
  have c:b≠k:=fun e=>by subst e;exact hk _ _ _ h
  simp only[eO];rw[uM c]⟩
def nO.trans {a b c:World}(h:nO a b)(k:nO b c):nO a c:=⟨k.1.trans h.1,fun i hi=>by
 have:=h.2 i hi
 rw[<-this];exact k.2 i (by rw[this];exact hi)⟩
open Go.RowKit (Below)
def sliceB (P:Program)(t e sz by_:Nat):Bool:=(match P.underlying t with|some (.slice c)=>c == e|_=>false) && (match P.info? e with|some i=>i.size == sz && i.bytes == by_|none=>false)
class bm (P:Program) (t:Nat) (e sz by_:outParam Nat):Prop where
 ok:sliceB P t e sz by_=true
def uX (P:Program)(t:Nat):Bool:=match P.underlying t,P.info? t with|some (.struct _),_|some (.array ..),_=>false|some _,some i=>i.size == 1|_,_=>false
class cj (P:Program) (t:Nat):Prop where
 ok:uX P t=true
def EY (P:Program)(t n:Nat):Bool:=(match P.underlying t with|some (.struct _)|some (.array ..)=>true|_=>false) && (match P.info? t with|some i=>i.size == n|none=>false)
class fa (P:Program) (t:Nat) (n:outParam Nat):Prop where
 ok:EY P t n=true
class bo (P:Program) (t:Nat) (zs:outParam (List Value)):Prop where
 ok:((P.info? t).bind (·.zero)).map (·.cells.toList)=some zs
def xC (P:Program)(t f off ft:Nat):Bool:=match P.underlying t with|some (.struct c)=>(match c[f]? with|some x=>x.offset == off && x.type == ft && (match P.info? x.type with|some i => !(i.size == 0)|none=>false)|none=>false)|_=>false
class aO (P:Program) (t f:Nat) (off ft:outParam Nat):Prop where
 ok:xC P t f off ft=true
def xD (P:Program)(t:Nat):Bool:=match P.underlying t with|some (.interface _)|none=>false|some _=>true
class ew (P:Program) (t:Nat):Prop where
 ok:xD P t=true
class kI (P:Program) (t:Nat):Prop where
 ok:(match P.underlying t with|some (.interface _)=>true|_=>false)=true
section
variable {P:Program}
def bm.gJ {t e:Nat}(h:bm P t e sz by_):P.underlying t=some (.slice e):=by
 have h:=h.ok;simp only[sliceB,Bool.and_eq_true]at h;have h1:=h.1;split at h1
 ·rename_i c he;rw[he];simp at h1;rw[h1]
 cases h1
def bm.ub {t e:Nat}(h:bm P t e sz by_):∃ i,P.info? e=some i/\i.size=sz/\i.bytes=by_:=by
 have h:=h.ok;simp only[sliceB,Bool.and_eq_true]at h;have c:=h.2;split at c
 ·rename_i i hi;simp at c;exact⟨i,hi,c.1,c.2⟩
 cases c
def bm.size {t e:Nat}(h:bm P t e sz by_)(w:World):(sizeOf e).run P w=.ok sz w:=by
 obtain⟨i,hi,c,_⟩:=h.ub;simp[sizeOf,typeInfo,hi,c]
def cj.plain {t:Nat}(h:cj P t):(∀ w,(isAgg t).run P w=.ok false w)/\∀ w,(sizeOf t).run P w=.ok 1 w:=by
 have h:=h.ok;simp only[uX]at h;split at h
 ·cases h
 ·cases h
 ·rename_i d i h1 q c hi
  refine⟨fun w=>?_,fun w=>?_⟩
  ·simp only[isAgg,eP,run_underlying c,eH]
   cases d<;>first|rfl|(exfalso;simp_all)
  simp at h;simp[sizeOf,typeInfo,hi,h]
 cases h
def fa.agg {t:Nat}(h:fa P t n):(∀ w,(isAgg t).run P w=.ok true w)/\∀ w,(sizeOf t).run P w=.ok n w:=by
 have h:=h.ok;simp only[EY,Bool.and_eq_true]at h;obtain⟨h1,c⟩:=h;split at c
 ·rename_i i hi
  simp at c;refine⟨fun w=>?_,fun w=>by simp[sizeOf,typeInfo,hi,c]⟩;split at h1
  ·rename_i C q;simp[isAgg,run_underlying q]
  ·rename_i a b q;simp[isAgg,run_underlying q]
  cases h1
 cases c
def bo.zero {t:Nat}{zs:List Value}(h:bo P t zs):∃ v,v.cells=zs.toArray/\∀ w,(zeroValue t).run P w=.ok v w:=by
 have h:=h.ok
 cases hi:P.info? t with
 | none=>simp[hi]at h
 | some i =>
  simp only[hi,yH]at h
  cases c:i.zero with
  | none=>simp[c]at h
  | some v =>
   simp only[c,tJ,z7]at h;exact⟨v,by rw[<-h],fun w=>by simp[zeroValue,typeInfo,hi,c]⟩
def aO.nz {t off:Nat}(h:aO P t f off ft):∃ fs c,P.underlying t=some (.struct fs)/\fs[f]? = some c/\c.offset=off/\c.type=ft/\∀ (a:Addr) w,(fieldPlace a c).run P w=.ok (a.add off) w:=by
 have h:=h.ok;simp only[xC]at h;split at h
 ·rename_i fs C
  split at h
  ·rename_i x hx
   simp only[Bool.and_eq_true,tI]at h;refine⟨fs,x,C,hx,h.1.1,h.1.2,fun a w=>?_⟩;have q:=h.2;split at q
   ·rename_i i hi
    simp at q;simp[fieldPlace,sizeOf,typeInfo,hi,q,h.1.1]
   cases q
  cases h
 cases h
def ew.gJ {t:Nat}(h:ew P t):∃ d,P.underlying t=some d/\∀ ms,d≠.interface ms:=by
 have h:=h.ok;simp only[xD]at h;split at h
 ·cases h
 ·cases h
 rename_i d c q;exact⟨d,q,fun ms e=>c ms e⟩
def kI.gJ {t:Nat}(h:kI P t):P.underlying t=some (.interface (P.methodsAt t)):=by
 have h:=h.ok;split at h
 ·rename_i ms c;simp[Program.methodsAt,c]
 cases h
def yJ {n:Int}(c : -9223372036854775808<=n)(h1:n<=9223372036854775807):IntKind.i64.wrap n=n:=by rw[IntKind.wrap_i64];omega
section
variable {M:Array Oper}{K:Fr->World->Prop}{r:List Oper}{ρ:Fr}{w:World}{d:Nat}{ty:TypeId}{pos:String}{af:Array Edge}{g:Option (Nat × Bool)}{dst:Option Nat}
def zW (h:K ρ w):opsW P M K [] ρ w:=h
def eY {op:Op}{v:Value}(c:dS P op=.pure)(hv:PureV P ⟨some d,op,ty,pos,af,none⟩ ρ v)(h:opsW P M K r (eZ ρ d v) w):opsW P M K (⟨some d,op,ty,pos,af,none⟩::r) ρ w:=by
 simp only[opsW,opV,c];exact⟨v,hv,h⟩
def qX {op:Op}{v:Value}(c:dS P op=.dC)(hv:ReadV P ⟨some d,op,ty,pos,af,none⟩ ρ w v)(h:opsW P M K r (eZ ρ d v) w):opsW P M K (⟨some d,op,ty,pos,af,none⟩::r) ρ w:=by
 simp only[opsW,opV,c];exact⟨v,hv,h⟩
def kX {op:Op}(c:dS P op=.ff)(h:opW P ⟨dst,op,ty,pos,af,none⟩ ρ w fun v w'=>opsW P M K r (iq ρ dst v) w'):opsW P M K (⟨dst,op,ty,pos,af,none⟩::r) ρ w:=by
 simp only[opsW,opV,c];exact h
def gv (c:Bool)(v:Value):Value:=bif c then v else undef
def bB {a b:Bool}(h:(a && b)=true):a=true:=(Bool.and_eq_true _ _ ▸ h).1
def bw {c:Bool}{v:Value}(h:c=true):gv c v=v:=by rw[h];rfl
def Gd (v:Value)(want c:Bool):Prop:=sF v want=c
def KL (b want:Bool):Gd (.bool b) want (b == want):=rfl
def xf (c b want:Bool):Gd (gv c (.bool b)) want (c && (b == want)):=by cases c<;>rfl
def XU {op:Op}{j:Nat}{want c:Bool}{t:Nat}{v:Value}(q:dS P op=.pure)(C:jx M j=some t)(I:Gd (ρ t) want c)
  (hv:c=true->PureV P ⟨some d,op,ty,pos,af,none⟩ ρ v)(h:opsW P M K r (eZ ρ d (gv c v)) w):opsW P M K (⟨some d,op,ty,pos,af,some (j,want)⟩::r) ρ w:=by
 simp only[opsW,opV,q,gk,C];unfold Gd at I;rw[I];refine⟨fun h1=>⟨v,hv h1,?_⟩,fun h1=>?_⟩
 ·rw[h1]at h;exact h
 rw[h1]at h;exact h
def XV {op:Op}{j:Nat}{want c:Bool}{t:Nat}{v:Value}(q:dS P op=.dC)(C:jx M j=some t)(I:Gd (ρ t) want c)
  (hv:c=true->ReadV P ⟨some d,op,ty,pos,af,none⟩ ρ w v)(h:opsW P M K r (eZ ρ d (gv c v)) w):opsW P M K (⟨some d,op,ty,pos,af,some (j,want)⟩::r) ρ w:=by
 simp only[opsW,opV,q,gk,C];unfold Gd at I;rw[I];refine⟨fun h1=>⟨v,hv h1,?_⟩,fun h1=>?_⟩
 ·rw[h1]at h;exact h
 rw[h1]at h;exact h
def XW {op:Op}{j:Nat}{want:Bool}{t:Nat}(c:jx M j=some t)(I:sF (ρ t) want=true)
  (h1:opsW P M K (⟨dst,op,ty,pos,af,none⟩::r) ρ w):opsW P M K (⟨dst,op,ty,pos,af,some (j,want)⟩::r) ρ w:=by
 simp only[opsW,gk,c]at h1 ⊢;rw[I];exact⟨fun _=>h1,fun h=>by cases h⟩
def XX {op:Op}{j:Nat}{want:Bool}{t:Nat}(c:jx M j=some t)(I:sF (ρ t) want=false)
  (h1:opsW P M K r (iq ρ dst undef) w):opsW P M K (⟨dst,op,ty,pos,af,some (j,want)⟩::r) ρ w:=by
 simp only[opsW,gk,c];rw[I];exact⟨fun h=>(by cases h),fun _=>h1⟩
variable {x y z:Operand}{t t':TypeId}
def PU {v:Value}(hx:aX ρ x=v):PureV P ⟨dst,.move x,ty,pos,af,g⟩ ρ v:=fun w=>by simp[execOp,hx]
def KM {v:Value}(hx:aX ρ x=v):PureV P ⟨dst,.assign x,ty,pos,af,g⟩ ρ v:=fun w=>by simp[execOp,hx]
def PV {b:Bool}{v:Value}(c:aX ρ z=.bool b)(hx:aX ρ x=u)(q:aX ρ y=v):PureV P ⟨dst,.pick z x y,ty,pos,af,g⟩ ρ (bif b then u else v):=fun w=>by
 cases b<;>simp[execOp,hx,q,c,asBool]
def AH {b:Bool}(c:aX ρ z=.bool b)(hx:aX ρ x=.bool true)(q:aX ρ y=gv (b == false) (.bool b')):PureV P ⟨dst,.pick z x y,ty,pos,af,g⟩ ρ (.bool (b || b')):=fun w=>by
 cases b<;>simp[execOp,hx,q,c,asBool,gv]
def PW {b:Bool}(c:aX ρ z=.bool b)(hx:aX ρ x=gv (b == true) (.bool b'))(q:aX ρ y=.bool false):PureV P ⟨dst,.pick z x y,ty,pos,af,g⟩ ρ (.bool (b && b')):=fun w=>by
 cases b<;>simp[execOp,hx,q,c,asBool,gv]
def XY {c b:Bool}(I:c=true)(q:aX ρ z=gv c (.bool b))(hx:aX ρ x=.bool true)(C:aX ρ y=gv (c && (b == false)) (.bool b')):PureV P ⟨dst,.pick z x y,ty,pos,af,g⟩ ρ (.bool (b || b')):=fun w=>by
 subst I;cases b<;>simp[execOp,hx,C,q,asBool,gv]
def XZ {c b:Bool}(I:c=true)(q:aX ρ z=gv c (.bool b))(hx:aX ρ x=gv (c && (b == true)) (.bool b'))(C:aX ρ y=.bool false):PureV P ⟨dst,.pick z x y,ty,pos,af,g⟩ ρ (.bool (b && b')):=fun w=>by
 subst I;cases b<;>simp[execOp,hx,C,q,asBool,gv]
variable {k:IntKind}{a b:Int}
def PX (hx:aX ρ x=.int k a)(c:aX ρ y=.int k b):PureV P ⟨dst,.binOp .lss t x y t',ty,pos,af,g⟩ ρ (.bool (decide (a<b))):=fun w=>by simp[execOp,eqGuard,binOp,Op.intCmp,hx,c]
def PY (hx:aX ρ x=.int k a)(c:aX ρ y=.int k b):PureV P ⟨dst,.binOp .leq t x y t',ty,pos,af,g⟩ ρ (.bool (decide (a<=b))):=fun w=>by simp[execOp,eqGuard,binOp,Op.intCmp,hx,c]
def PZ (hx:aX ρ x=.int k a)(c:aX ρ y=.int k b):PureV P ⟨dst,.binOp .gtr t x y t',ty,pos,af,g⟩ ρ (.bool (decide (b<a))):=fun w=>by simp[execOp,eqGuard,binOp,Op.intCmp,hx,c]
def P0 (hx:aX ρ x=.int k a)(c:aX ρ y=.int k b):PureV P ⟨dst,.binOp .geq t x y t',ty,pos,af,g⟩ ρ (.bool (decide (b<=a))):=fun w=>by simp[execOp,eqGuard,binOp,Op.intCmp,hx,c]
def P3 (hx:aX ρ x=.int k a)(c:aX ρ y=.int k b):PureV P ⟨dst,.binOp .eql t x y t',ty,pos,af,g⟩ ρ (.bool (decide (a=b))):=fun w=>by simp[execOp,eqGuard,binOp,Op.intCmp,hx,c];rfl
def P4 (hx:aX ρ x=.int k a)(c:aX ρ y=.int k b):PureV P ⟨dst,.binOp .neq t x y t',ty,pos,af,g⟩ ρ (.bool (!decide (a=b))):=fun w=>by simp[execOp,eqGuard,binOp,Op.intCmp,hx,c];rfl
def P5 (hx:aX ρ x=E a)(c:aX ρ y=E b)(q : -9223372036854775808<=a+b)(h1:a+b<=9223372036854775807):PureV P ⟨dst,.binOp .add t x y t',ty,pos,af,g⟩ ρ (E (a+b)):=fun w=>by simp[execOp,eqGuard,binOp,Op.intArith,hx,c,yJ q h1]
def P6 (hx:aX ρ x=E a)(c:aX ρ y=E b)(q : -9223372036854775808<=a-b)(h1:a-b<=9223372036854775807):PureV P ⟨dst,.binOp .sub t x y t',ty,pos,af,g⟩ ρ (E (a-b)):=fun w=>by simp[execOp,eqGuard,binOp,Op.intArith,hx,c,yJ q h1]
def P7 (hx:aX ρ x=E a)(c:aX ρ y=E b)(q : -9223372036854775808<=a*b)(h1:a*b<=9223372036854775807):PureV P ⟨dst,.binOp .mul t x y t',ty,pos,af,g⟩ ρ (E (a*b)):=fun w=>by simp[execOp,eqGuard,binOp,Op.intArith,hx,c,yJ q h1]
def P8 {b:Bool}(hx:aX ρ x=.bool b):PureV P ⟨dst,.unOp .not t x,ty,pos,af,g⟩ ρ (.bool !b):=fun w=>by simp[execOp,Op.unary,hx]
def P9 (hx:aX ρ x=E a)(c : -9223372036854775808<=0-a)(h1:0-a<=9223372036854775807):PureV P ⟨dst,.unOp .neg t x,ty,pos,af,g⟩ ρ (E (0-a)):=fun w=>by
 have:=yJ c h1;simp only[execOp,Op.unary,hx,Op.intArith,eP,fZ,eH,this]
def Qa {u:TypeId}{v:Value}[T:kI P t](hx:aX ρ x=.iface u v)(c:aX ρ y=.nilIface):PureV P ⟨dst,.binOp .neq t x y t',ty,pos,af,g⟩ ρ (.bool true):=fun w=>by simp[execOp,eqGuard,hx,c,run_neq_held_nil w t u v T.gJ]
def Qb {u:TypeId}{v:Value}[T:kI P t](hx:aX ρ x=.iface u v)(c:aX ρ y=.nilIface):PureV P ⟨dst,.binOp .eql t x y t',ty,pos,af,g⟩ ρ (.bool false):=fun w=>by simp[execOp,eqGuard,hx,c,run_eql_held_nil w t u v T.gJ]
def Qc [T:kI P t](hx:aX ρ x=.nilIface):PureV P ⟨dst,.binOp .neq t x (.const .nilIface) t',ty,pos,af,g⟩ ρ (.bool false):=fun w=>by
 have h1:=run_neq_nil_nil w t T.gJ;simp only[execOp,eqGuard,hx];cases x<;>simp[aX,h1]
def Qd [T:kI P t](hx:aX ρ x=.nilIface):PureV P ⟨dst,.binOp .eql t x (.const .nilIface) t',ty,pos,af,g⟩ ρ (.bool true):=fun w=>by
 have h1:=run_eql_nil_nil w t T.gJ;simp only[execOp,eqGuard,hx];cases x<;>simp[aX,h1]
def Qe {v:Value}[T:ew P t](hx:aX ρ x=v):PureV P ⟨dst,.makeInterface t x,ty,pos,af,g⟩ ρ (.iface t v):=fun w=>by
 obtain⟨c,q,C⟩:=T.gJ;simp only[execOp,Instr.makeInterface,eP,run_underlying q,eH,hx];cases c<;>first|rfl|exact absurd rfl (C _)
def Qf {vs:Array Value}{v:Value}(hx:aX ρ x=.tuple vs)(hi:vs[i]? = some v):PureV P ⟨dst,.extract x i,ty,pos,af,g⟩ ρ v:=fun w=>by simp[execOp,Instr.extract,hx,hi]
def KN {off:Nat}[T:aO P t f off ft](hx:aX ρ x=.pointer (some p)):PureV P ⟨dst,.fieldAddr t x f,ty,pos,af,g⟩ ρ (.pointer (some (p.add off))):=fun w=>by
 obtain⟨V,c,q,C,ho,_,S⟩:=T.nz;simp[execOp,Instr.fieldAt,Instr.sureAddr,hx,run_underlying q,C,S]
def Qg {off:Nat}{v:Value}[T:aO P t f off ft][C:cj P ft](hx:aX ρ x=.agg cs)(hv:cs[off]? = some v):PureV P ⟨dst,.field t x f,ty,pos,af,g⟩ ρ v:=fun w=>by
 obtain⟨fs,q,S,V,ho,c,_⟩:=T.nz;simp[execOp,Instr.field,hx,run_underlying S,V,part,asAgg,c,C.plain.1,ho,hv]
def Qh (hx:aX ρ x=.pointer (some p)):PureV P ⟨dst,.nilCheck x,ty,pos,af,g⟩ ρ (.pointer (some p)):=fun w=>by simp[execOp,hx]
def Qi {u:TypeId}{v:Value}(hx:aX ρ x=.iface u v):PureV P ⟨dst,.nilCheck x,ty,pos,af,g⟩ ρ (.iface u v):=fun w=>by simp[execOp,hx]
end
class uO (Γ:List HP) (A:HP) (put:HP->List HP):Prop where
 ok:∃ i,Γ[i]? = some A/\∀ A',put A'=Γ.set i A'
theorem uO.BO {Γ:List HP}:uO (A::Γ) A (fun A'=>A'::Γ):=⟨0,rfl,fun _=>rfl⟩
theorem uO.xg {Γ:List HP}{put:HP->List HP}(h:uO Γ A put):uO (B::Γ) A (fun A'=>B::put A'):=by
 obtain⟨i,hi,c⟩:=h.ok;exact⟨i+1,by simpa using hi,fun A'=>by rw[c A'];rfl⟩
class gN (Γ:List HP) (p:Addr) (t:outParam TypeId) (cells:outParam (List Value)) (put:outParam (HP->List HP)):Prop where
 mJ:uO Γ (ak p t cells) put
instance (priority:=high) box_here {p:Addr}{t:TypeId}{cells:List Value}{Γ:List HP}:gN (ak p t cells::Γ) p t cells (fun A'=>A'::Γ):=⟨uO.BO⟩
instance De {B:HP}{p:Addr}{t:TypeId}{cells:List Value}{Γ:List HP}{put:HP->List HP} [h:gN Γ p t cells put]:gN (B::Γ) p t cells (fun A'=>B::put A'):=⟨h.mJ.xg⟩
attribute [irreducible] gv
structure Ty (α:Type) where
 sz:Nat
 enc:α->List Value
 ok:∀ x,(enc x).length=sz
 dflt:α
def W:Ty Int:=⟨1,fun n=>[E n],fun _=>rfl,0⟩
def ah:Ty Bool:=⟨1,fun b=>[.bool b],fun _=>rfl,false⟩
def ap:Ty Value:=⟨1,fun v=>[v],fun _=>rfl,undef⟩
def Ty.len {α:Type}(T:Ty α)(xs:List α):(xs.flatMap T.enc).length=xs.length*T.sz:=by
 induction xs with
 | nil=>simp
 | cons x xs c=>simp[kO,T.ok,c,qD];omega
def Ty.get {α:Type}(T:Ty α):∀ (xs:List α) (i k:Nat),i<xs.length->k<T.sz->(xs.flatMap T.enc)[i*T.sz+k]? = (T.enc (xs.getD i T.dflt))[k]?
 | [],i,k,h,_=>by simp at h
 | x::xs,0,k,_,hk=>by
  rw[kO,GJ,xZ,iX (by rw[T.ok];exact hk)];rfl
 | x::xs,i+1,k,h,hk=>by
  have c:=T.ok x;rw[kO,kn (by rw[c,qD];omega),c,show (i+1)*T.sz+k-T.sz=i*T.sz+k from by rw[qD];omega];simp only[length_cons]at h;rw[Ty.get T xs i k U hk];rfl
def Ty.set {α:Type}(T:Ty α):∀ (xs:List α) (i k:Nat) (v:Value) (x':α),i<xs.length->k<T.sz->T.enc x'=(T.enc (xs.getD i T.dflt)).set k v ->
  (xs.flatMap T.enc).set (i*T.sz+k) v=(xs.set i x').flatMap T.enc
 | [],i,k,v,x',h,_,_=>by simp at h
 | x::xs,0,k,v,x',_,hk,he=>by
  simp only[getD_cons_zero]at he
  rw[kO,GJ,xZ,Ku _ _ (by rw[T.ok];exact hk),mI,kO,he]
 | x::xs,i+1,k,v,x',h,hk,he=>by
  have c:=T.ok x;simp only[length_cons]at h
  rw[kO,yE _ _ (by rw[c,qD];omega),c,show (i+1)*T.sz+k-T.sz=i*T.sz+k from by rw[qD];omega,mM,kO,
   Ty.set T xs i k v x' U hk (by simpa using he)]
def RS {α:Type}(T:Ty α)(w:World)(s:Value)(xs:List α):Prop:=vE w s T.sz (xs.flatMap T.enc)/\xs.length=eo s
def X {α:Type}(T:Ty α)(e:TypeId)(s:Value)(xs:List α):HP:=fun h=>Own s e T.sz (xs.flatMap T.enc) h/\xs.length=eo s
class gO (Γ:List HP) (s:Value) (α:outParam Type) (T:outParam (Ty α)) (e:outParam TypeId) (xs:outParam (List α)) (put:outParam (HP->List HP)):Prop where
 mJ:uO Γ (X T e s xs) put
instance (priority:=high) own_here {α:Type}{T:Ty α}{s:Value}{e:TypeId}{xs:List α}{Γ:List HP}:gO (X T e s xs::Γ) s α T e xs (fun A'=>A'::Γ):=⟨uO.BO⟩
instance Df {B:HP}{α:Type}{T:Ty α}{s:Value}{e:TypeId}{xs:List α}{Γ:List HP}{put:HP->List HP} [h:gO Γ s α T e xs put]:gO (B::Γ) s α T e xs (fun A'=>B::put A'):=⟨h.mJ.xg⟩
def gS {α:Type}(T:Ty α)(s:Value)(i:Nat):Addr:=wT s (i*T.sz)
def RS.at {α:Type}{T:Ty α}{w0 w:World}{Γ:List HP}{s:Value}{xs:List α}(h:RS T w0 s xs)(Y:Z w0 w Γ):RS T w s xs:=⟨h.1.at Y,h.2⟩
def RS.bU {α:Type}{T:Ty α}{w:World}{s:Value}{xs:List α}(h:RS T w s xs):xs.length<=9223372036854775807:=by have:=h.1.len.2;rw[h.2];exact this
def Z.rs {α:Type}{T:Ty α}{w0 w:World}{Γ:List HP}(h:Z w0 w Γ)(i:Nat){s:Value}{e:TypeId}{xs:List α}(hi:Γ[i]? = some (X T e s xs)):RS T w s xs:=by
 have c:=(h.bQ i hi).mono (A':=Own s e T.sz (xs.flatMap T.enc)) fun _ q=>q.1;obtain⟨h1,_,a⟩:=h.at i hi;exact⟨c.XT 0 rfl,a.2⟩
def bk {α:Type}{T:Ty α}{w0 w:World}{Γ:List HP}{s:Value}{e:TypeId}{xs:List α}{put:HP->List HP}[h:gO Γ s α T e xs put](Y:Z w0 w Γ):RS T w s xs:=by
 obtain⟨i,hi,_⟩:=h.mJ.ok;exact Y.rs i hi
def Z.nil {α:Type}{T:Ty α}{w0 w:World}{Γ:List HP}{e:TypeId}(h:Z w0 w Γ):Z w0 w (X T e (nS) []::Γ) :=
 ⟨h.below,fun _=>none,eR w0 w,fun _=>.inl rfl,fun _ _ c=>(by cases c),qf.refl _,⟨.inl ⟨rfl,rfl⟩,rfl⟩,h.jL⟩
def RS.nil {α:Type}{T:Ty α}{w:World}:RS T w (nS) []:=⟨⟨none,0,0,rfl,sm,⟨bu _,bu _⟩,sm⟩,rfl⟩
def RS.shape {α:Type}{T:Ty α}{w:World}{s:Value}{xs:List α}(h:RS T w s xs):∃ a cap,s=.slice a xs.length cap:=by
 obtain⟨⟨a,n,cap,rfl,_⟩,c⟩:=h;exact⟨a,cap,by rw[c];rfl⟩
def RS.some {α:Type}{T:Ty α}(q:0<T.sz){w:World}{s:Value}{xs:List α}(h:RS T w s xs)(C:0<xs.length):∃ p cap,s=.slice (some p) xs.length cap/\p.spot=none:=by
 obtain⟨⟨a,n,cap,rfl,_,_,S⟩,V⟩:=h;have h0:0<(xs.flatMap T.enc).length:=by rw[T.len];exact Nat.mul_pos C q
 obtain⟨p,rfl,c,_⟩:=S 0 _ (kN h0);exact⟨p,cap,by rw[V];rfl,c⟩
section
variable {M:Array Oper}{K:Fr->World->Prop}{r:List Oper}{ρ:Fr}{w w0:World}{d:Nat}{ty:TypeId}{pos:String}{af:Array Edge}{g:Option (Nat × Bool)}{dst:Option Nat}{x y z:Operand}{t t':TypeId}{Γ:List HP}
variable {α:Type}{T:Ty α}{s:Value}{xs:List α}
def Qj {e:Nat}[S:bm P t e sz by_](hx:aX ρ x=s)(h:RS T w s xs):PureV P ⟨dst,.call { callee:=.builtin .len,args:=#[x],argTypes:=#[t] },ty,pos,af,g⟩ ρ (E xs.length):=fun w=>by
 obtain⟨a,cap,c⟩:=h.shape;simp[execOp,resolve,invoke,builtin,Builtin.len_,hx,run_underlying S.gJ,c,goInt]
def KO {e:Nat}{k:IntKind}{j:Int}[S:bm P t e sz by_](hx:aX ρ x=s)(q:aX ρ y=.int k j)(h:RS T w s xs)(C:sz=T.sz)(V:0<T.sz)(h0:0<=j)(h1:j<xs.length) :
  PureV P ⟨dst,.indexAddr t x y,ty,pos,af,g⟩ ρ (.pointer (some (gS T s j.toNat))):=fun w=>by
 subst C;obtain⟨p,cap,hs,j'⟩:=h.some V U;have c:∀ n,p.add n=⟨p.block,p.off+n,none⟩:=fun n=>by
  unfold Addr.add;split
  ·rename_i hn;subst hn;cases p;simp_all
  rfl
 simp[execOp,Instr.indexAt,hx,q,asIntOf,run_underlying S.gJ,hs,h0,h1,S.size,gS,wT,c]
def Qk {e:Nat}{k:IntKind}{j:Nat}[S:bm P t e sz by_](hx:aX ρ x=s)(c:aX ρ y=.int k j)(h:RS T w s xs)(q:sz=T.sz)(C:0<T.sz)(h1:j<xs.length) :
  PureV P ⟨dst,.indexAddr t x y,ty,pos,af,g⟩ ρ (.pointer (some (gS T s j))):=by
 have:=KO (P:=P) (t:=t) (w:=w) (dst:=dst) (ty:=ty) (pos:=pos) (af:=af) (g:=g) hx c h q C (Cy j) U
 simpa using this
def wD {v:Value}[C:cj P t](hx:aX ρ x=.pointer (some p))(hv:w.cell? p=some v):ReadV P ⟨dst,.load t x,ty,pos,af,g⟩ ρ w v:=by
 simp[ReadV,execOp,Instr.loadAt,Instr.sureAddr,hx,loadVar,C.plain.1,hv]
def Hb [A:fa P t n](hx:aX ρ x=.pointer (some p))(c:vs.length=n)(hv:∀ j v,vs[j]? = some v->w.cell? (p.add j)=some v):ReadV P ⟨dst,.load t x,ty,pos,af,g⟩ ρ w (.agg vs.toArray):=by
 subst c;have:=run_loadCells_list (P:=P) (w:=w) p vs hv;simp[ReadV,execOp,Instr.loadAt,Instr.sureAddr,hx,loadVar,A.agg.1,A.agg.2,this]
def KP (h:RS T w s xs){k:Nat}{v:Value}(hi:i<xs.length)(hk:k<T.sz)(hv:(T.enc (xs.getD i T.dflt))[k]? = some v):w.cell? ((gS T s i).add k)=some v:=by
 have h1:=h.1.cell (k:=i*T.sz+k) (v:=v) (by rw[T.get xs i k hi hk];exact hv);obtain⟨p,cap,c,_⟩:=h.some U U;subst c;unfold gS wT Addr.add at *
 split
 ·rename_i q;subst q;simpa using h1
 simpa [Aa] using h1
def X0 (h:RS T w s xs){v:Value}(hi:i<xs.length)(hv:T.enc (xs.getD i T.dflt)=[v]):w.cell? (gS T s i)=some v:=by
 have c:T.sz=1:=by rw[<-T.ok (xs.getD i T.dflt),hv];rfl
 have:=KP h hi (k:=0) U (v:=v) (by rw[hv];rfl)
 simpa [Addr.add] using this
def CN {v:Value}[C:cj P t](hx:aX ρ x=.pointer (some (gS T s i)))(h:RS T w s xs)(hi:i<xs.length)(hv:T.enc (xs.getD i T.dflt)=[v]):ReadV P ⟨dst,.load t x,ty,pos,af,g⟩ ρ w v :=
 wD hx (X0 h hi hv)
def CO {k:Nat}{v:Value}[C:cj P t](hx:aX ρ x=.pointer (some ((gS T s i).add k)))(h:RS T w s xs)(hi:i<xs.length)(hk:k<T.sz)(hv:(T.enc (xs.getD i T.dflt))[k]? = some v):ReadV P ⟨dst,.load t x,ty,pos,af,g⟩ ρ w v :=
 wD hx (KP h hi hk hv)
def CP [A:fa P t n](hx:aX ρ x=.pointer (some (gS T s i)))(h:RS T w s xs)(hi:i<xs.length)(c:n=T.sz):ReadV P ⟨dst,.load t x,ty,pos,af,g⟩ ρ w (.agg (T.enc (xs.getD i T.dflt)).toArray) :=
 Hb hx (by rw[T.ok,c]) fun j v hv=>KP h hi (by rw[<-T.ok (xs.getD i T.dflt)];exact(x8.1 hv).1) hv
def lK {k:Nat}{cells:List Value}{v:Value}(Y:Z w0 w Γ)(hi:Γ[i]? = some (ak p bt cells))(hv:cells[k]? = some v):w.cell? (p.add k)=some v:=by
 obtain⟨h1,C,q,c,S⟩:=Y.at i hi;have:=dH (C _ _ S).1 k;obtain⟨pb,po,V⟩:=p;simp only at q c;subst q c;unfold Addr.add;split
 ·rename_i h0;subst h0;rw[this];exact hv
 simp only[xZ];rw[this];exact hv
def Cu {cells:List Value}{v:Value}(Y:Z w0 w Γ)(hi:Γ[i]? = some (ak p bt cells))(hv:cells[0]? = some v):w.cell? p=some v:=by
 have:=lK Y hi (k:=0) hv
 simpa [Addr.add] using this
def D7 {k:Nat}{cells:List Value}{v:Value}{put:HP->List HP}[C:cj P t](hx:aX ρ x=.pointer (some (p.add k)))(Y:Z w0 w Γ)(B:gN Γ p bt cells put)(hv:cells[k]? = some v):ReadV P ⟨dst,.load t x,ty,pos,af,g⟩ ρ w v:=by
 obtain⟨i,hi,_⟩:=B.mJ.ok;exact wD hx (lK Y hi hv)
def D8 {cells:List Value}{v:Value}{put:HP->List HP}[C:cj P t](hx:aX ρ x=.pointer (some p))(Y:Z w0 w Γ)(B:gN Γ p bt cells put)(hv:cells[0]? = some v):ReadV P ⟨dst,.load t x,ty,pos,af,g⟩ ρ w v:=by
 obtain⟨i,hi,_⟩:=B.mJ.ok;exact wD hx (Cu Y hi hv)
def D9 {cells:List Value}{put:HP->List HP}[A:fa P t n](hx:aX ρ x=.pointer (some p))(Y:Z w0 w Γ)(B:gN Γ p bt cells put)(c:cells.length=n):ReadV P ⟨dst,.load t x,ty,pos,af,g⟩ ρ w (.agg cells.toArray):=by
 obtain⟨i,hi,_⟩:=B.mJ.ok;exact Hb hx c fun _ _ hv=>lK Y hi hv
def x9 {b:Nat}{bt:TypeId}:∀ (vs:List Value) (off i:Nat) (cs:List Value) (w:World),(∀ v∈vs,v.oneCell'=true)->off+i+vs.length<=cs.length->w.heap[b]? = some (.cells cs.toArray bt (0,0)) ->
  (storeCells ⟨b,off,none⟩ vs i).run P w=.ok () (eO w b (.cells (cs.take (off+i)++vs++cs.drop (off+i+vs.length)).toArray bt (0,0)))
 | [],off,i,cs,w,_,_,c=>by
  have:(eO w b (.cells (cs.take (off+i)++[]++cs.drop (off+i+0)).toArray bt (0,0)))=w:=by
   simp only[eO,fS,z6,yF];cases w;simp only[World.mk.injEq,GR];apply wJ;intro k;simp only at c;by_cases hk:b=k
   ·subst hk;rw[Bq (kW.1 c).1];exact c.symm
   rw[uM hk]
  simp only[storeCells,fZ,length_nil,this]
 | v::vs,off,i,cs,w,hv,V,c=>by
  have C:(⟨b,off,none⟩:Addr).add i=⟨b,off+i,none⟩:=by unfold Addr.add;split<;>simp_all
  simp only[length_cons]at V;have hc:w.cell? ⟨b,off+i,none⟩=some cs[off+i]:=by rw[dH c];exact kN U
  have S:w.setCell ⟨b,off+i,none⟩ v=eO w b (.cells (cs.set (off+i) v).toArray bt (0,0)):=by
   simp only[World.setCell,eO];congr 1;apply wJ;intro k;have q:=(kW.1 c).1;by_cases hk:b=k
   ·subst hk;rw[wk,aM rfl,c,Bq q];simp
   rw[wk,aC hk,uM hk]
  simp only[storeCells,eP,C,run_store P w _ v .plain (hv v sm),hc,eX c,CC,if_false,eH,S];have q:=(kW.1 c).1;rw[x9 (bt:=bt) vs off (i+1) (cs.set (off+i) v) _ (fun u hu=>hv u (by simp[hu])) (by simp;omega) (by simp[eO,q])];congr 1;simp only[eO,Array.setIfInBounds_setIfInBounds];congr 4;have h1:(cs.set (off+i) v).take (off+(i+1))=cs.take (off+i)++[v]:=by
   rw[show off+(i+1)=off+i+1 from by omega,Kf (by simp;omega),GG U];simp
  have h2:(cs.set (off+i) v).drop (off+(i+1)+vs.length)=cs.drop (off+i+(vs.length+1)):=by
   rw[drop_set_of_lt U];congr 1;omega
  rw[h1,h2];simp
def Bw {v:Value}{K:Value->World->Prop}(hx:aX ρ x=.pointer (some p))(q:aX ρ y=v)(c:∀ w,(sizeOf t).run P w=.ok v.cells.size w)(C:(storeCells p v.cells.toList).run P w=.ok () w')(h:K undef w') :
  opW P ⟨none,.store t x y,ty,pos,af,none⟩ ρ w K:=by
 simp only[opW,execOp,hx,q,Instr.storeAt,Instr.sureAddr,eP,fZ,eH,storeVar,c,ne_eq,not_true,if_false,C,cu];exact h
def Gl {k:Nat}{cells:List Value}{v:Value}{put:HP->List HP}[C:cj P t](hx:aX ρ x=.pointer (some (p.add k)))(hy:aX ρ y=v)(hv:v.oneCell'=true)(Y:Z w0 w Γ)(B:gN Γ p bt cells put)(hk:k<cells.length)(h:∀ w',Z w0 w' (put (ak p bt (cells.set k v)))->opsW P M K r ρ w'):opsW P M K (⟨none,.store t x y,ty,pos,af,none⟩::r) ρ w:=by
 refine kX rfl ?_;obtain⟨i,hi,c⟩:=B.mJ.ok;simp only[c]at h;obtain⟨h1,hs,ho,q,V⟩:=Y.at i hi;obtain⟨pb,po,j'⟩:=p;simp only at ho q V;subst ho q;have S:(⟨pb,0,none⟩:Addr).add k=⟨pb,k,none⟩:=by unfold Addr.add;split<;>simp_all
 rw[S]at hx;have hc:v.cells=#[v]:=by cases v<;>first|rfl|(simp[Value.oneCell']at hv)
 refine Bw hx hy (fun w=>by rw[hc];exact C.plain.2 w) (w':=eO w pb (.cells (cells.set k v).toArray bt (0,0))) ?_ ?_
 ·rw[hc]
  have:=x9 (P:=P) (b:=pb) [v] k 0 cells w (by simpa using hv) (by simp;omega) (hs _ _ V).1;rw[show #[v].toList=[v] from rfl,this];congr 4;simp only[z6,length_cons,length_nil,xZ];rw[D1];simp[hk]
 refine h _ ((Z.put (Y.bQ i hi) fun h1 _ ⟨_,_,V⟩=>⟨⟨_,V⟩,rfl,rfl,by simp[mO]⟩).ir i hi)
def OR {k:Nat}{cells:List Value}{v:Value}{put:HP->List HP}[C:cj P t](hx:aX ρ x=.pointer (some (p.add k)))(hy:aX ρ y=v)(hv:v.oneCell'=true)(Y:Z w0 w Γ)(B:gN Γ p bt cells put)(hk:k<cells.length)(h:∀ w',Z w0 w' (put (ak p bt (cells.set k v)))->nO w w'->opsW P M K r ρ w'):opsW P M K (⟨none,.store t x y,ty,pos,af,none⟩::r) ρ w:=by
 refine kX rfl ?_;obtain⟨i,hi,c⟩:=B.mJ.ok;simp only[c]at h;obtain⟨h1,hs,ho,q,S⟩:=Y.at i hi;obtain⟨pb,po,j'⟩:=p;simp only at ho q S;subst ho q;have V:(⟨pb,0,none⟩:Addr).add k=⟨pb,k,none⟩:=by unfold Addr.add;split<;>simp_all
 rw[V]at hx;have hc:v.cells=#[v]:=by cases v<;>first|rfl|(simp[Value.oneCell']at hv)
 refine Bw hx hy (fun w=>by rw[hc];exact C.plain.2 w) (w':=eO w pb (.cells (cells.set k v).toArray bt (0,0))) ?_ ?_
 ·rw[hc]
  have:=x9 (P:=P) (b:=pb) [v] k 0 cells w (by simpa using hv) (by simp;omega) (hs _ _ S).1;rw[show #[v].toList=[v] from rfl,this];congr 4;simp only[z6,length_cons,length_nil,xZ];rw[D1];simp[hk]
 refine h _ ((Z.put (Y.bQ i hi) fun h1 _ ⟨_,_,S⟩=>⟨⟨_,S⟩,rfl,rfl,by simp[mO]⟩).ir i hi) (PS (hs _ _ S).1)
def X2 {cells:List Value}{v:Value}{put:HP->List HP}[C:cj P t](hx:aX ρ x=.pointer (some p))(c:aX ρ y=v)(hv:v.oneCell'=true)(Y:Z w0 w Γ)(B:gN Γ p bt cells put)(hk:0<cells.length)(h:∀ w',Z w0 w' (put (ak p bt (cells.set 0 v)))->opsW P M K r ρ w'):opsW P M K (⟨none,.store t x y,ty,pos,af,none⟩::r) ρ w :=
 Gl (k:=0) (by simpa [Addr.add] using hx) c hv Y B hk h
def jF {cells:List Value}{put:HP->List HP}[A:fa P t n](hx:aX ρ x=.pointer (some p))(hy:aX ρ y=.agg vs.toArray)(Y:Z w0 w Γ)(B:gN Γ p bt cells put)(hn:vs.length=n)(hl:cells.length=n)(hv:vs.all Value.oneCell'=true)(h:∀ w',Z w0 w' (put (ak p bt vs))->opsW P M K r ρ w'):opsW P M K (⟨none,.store t x y,ty,pos,af,none⟩::r) ρ w:=by
 refine kX rfl ?_;obtain⟨i,hi,c⟩:=B.mJ.ok;simp only[c]at h;obtain⟨h1,hs,S,q,C⟩:=Y.at i hi;obtain⟨V,po,j'⟩:=p;simp only at S q C;subst S q;refine Bw hx hy (fun w=>by rw[A.agg.2];simp[Value.cells,hn]) (w':=eO w V (.cells vs.toArray bt (0,0))) ?_ ?_
 ·have:=x9 (P:=P) (b:=V) vs 0 0 cells w (by simpa using hv) (by simp;omega) (hs _ _ C).1
  simp only[Value.cells];rw[this];congr 4;simp only[z6,xZ,wK,kL];rw[pS U,fS]
 exact h _ ((Z.put (Y.bQ i hi) fun h1 _ ⟨_,_,C⟩=>⟨⟨_,C⟩,rfl,rfl,by simp[mO]⟩).ir i hi)
def X3 [Z':bo P t zs](Y:Z w0 w Γ)(h:∀ p w',Z w0 w' (ak p t zs::Γ)->opsW P M K r (eZ ρ d (.pointer (some p))) w'):opsW P M K (⟨some d,.alloc t,ty,pos,af,none⟩::r) ρ w:=by
 refine kX rfl ?_;obtain⟨v,hv,c⟩:=Z'.zero;simp only[opW,execOp,Instr.alloc,eP,c,eH,newVar,newRow,run_newObj,fZ,cu,hv];exact h ⟨w.heap.size,0,none⟩ _ (Y.push (o:=.cells zs.toArray t) ⟨rfl,rfl,sm⟩)
def Ql {v:Value}(hx:aX ρ x=v)(Y:Z w0 w Γ)(h:∀ p w',Z w0 w' (ak p t v.cells.toList::Γ)->opsW P M K r (eZ ρ d (.pointer (some p))) w'):opsW P M K (⟨some d,.box t x,ty,pos,af,none⟩::r) ρ w:=by
 refine kX rfl ?_;simp only[opW,execOp,Instr.box,eP,eH,newVar,newRow,run_newObj,fZ,cu,hx];exact h ⟨w.heap.size,0,none⟩ _ (Y.push (o:=.cells v.cells t) ⟨rfl,rfl,sm⟩)
def KQ {j k:Nat}{e:TypeId}{v:Value}{x':α}(hv:v.oneCell'=true)(Y:Z w0 w Γ)(hi:Γ[i]? = some (X T e s xs))(hj:j<xs.length)(hk:k<T.sz)(he:T.enc x'=(T.enc (xs.getD j T.dflt)).set k v) :
  ∃ w',(storeCells ((gS T s j).add k) [v]).run P w=.ok () w'/\Z w0 w' (Γ.set i (X T e s (xs.set j x')))/\nO w w':=by
 obtain⟨h1,hs,ho,hl⟩:=Y.at i hi;have hlen:=T.len xs;rcases ho with ⟨rfl,_c⟩|⟨b,off,n,cap,pre,post,rfl,q,j',H',C,J',hb⟩
 ·simp only[eo]at hl;omega
 have _d:j*T.sz+k<(xs.flatMap T.enc).length:=by
  rw[hlen];have:(j+1)*T.sz<=xs.length*T.sz:=uL _ hj;rw[qD]at this;omega
 have S:(gS T (.slice (some ⟨b,off,none⟩) n cap) j).add k=⟨b,off+(j*T.sz+k),none⟩:=by
  unfold gS wT Addr.add;split
  ·rename_i c;subst c;simp
  simp[Aa]
 rw[S];have V:((pre++xs.flatMap T.enc++post).take (off+(j*T.sz+k)+0)++[v]++(pre++xs.flatMap T.enc++post).drop (off+(j*T.sz+k)+0+1))=pre++(xs.set j x').flatMap T.enc++post:=by
  rw[<-T.set xs j k v x' hj hk he];have c:(pre++xs.flatMap T.enc++post).set (off+(j*T.sz+k)) v=pre++(xs.flatMap T.enc).set (j*T.sz+k) v++post:=by
   rw[fL,yE _ _ U,Ku _ _ U,show off+(j*T.sz+k)-pre.length=j*T.sz+k from by omega,fL]
  rw[<-c,D1,aM (by simp only[length_append];omega)];simp
 refine⟨eO w b (.cells (pre++(xs.set j x').flatMap T.enc++post).toArray e (0,0)),?_,?_,PS (hs b _ hb).1⟩
 ·rw[x9 (b:=b) (bt:=e) [v] _ 0 _ w (by simpa using hv) (by simp only[length_append,length_cons,length_nil];omega) (hs b _ hb).1]
  rw[<-V];rfl
 have c:=T.len (xs.set j x');refine(Z.put (Y.bQ i hi) fun g I ⟨P',_k⟩=>?_).ir i hi;rcases P' with ⟨hn,_⟩|⟨b',_e,n',_f,_g,R',T',V',_h,_i,_a,_j,_b⟩
 ·cases hn
 cases T';refine⟨⟨_,_b⟩,.inr ⟨b,off,n,cap,pre,post,rfl,q,by rw[c,gY,<-hlen,j'],H',C,J',by simp[mO]⟩,by rw[gY];exact hl⟩
def X4 {j:Nat}{e:TypeId}{v:Value}{x':α}{put:HP->List HP}[C:cj P t](hx:aX ρ x=.pointer (some (gS T s j)))(V:aX ρ y=v)(hv:v.oneCell'=true)(Y:Z w0 w Γ)(O':gO Γ s α T e xs put)(hj:j<xs.length)(he:T.enc x'=[v])
  (h:∀ w',Z w0 w' (put (X T e s (xs.set j x')))->opsW P M K r ρ w'):opsW P M K (⟨none,.store t x y,ty,pos,af,none⟩::r) ρ w:=by
 refine kX rfl ?_;obtain⟨i,hi,c⟩:=O'.mJ.ok;simp only[c]at h;have q:T.sz=1:=by rw[<-T.ok x',he];rfl
 have S:v.cells=#[v]:=by cases v<;>first|rfl|(simp[Value.oneCell']at hv)
 have h1:T.enc x'=(T.enc (xs.getD j T.dflt)).set 0 v:=by
  rw[he];have:=T.ok (xs.getD j T.dflt);rw[q]at this
  match h2:T.enc (xs.getD j T.dflt),this with
  | [u],_=>rfl
 obtain⟨w',hr,hs,j'⟩:=KQ (P:=P) (k:=0) hv Y hi hj U h1;exact Bw hx V (fun w=>by rw[S];exact C.plain.2 w) (by rw[S];simpa [Addr.add] using hr) (h _ hs)
def Xj {j:Nat}{e:TypeId}{v:Value}{x':α}{put:HP->List HP}[C:cj P t](hx:aX ρ x=.pointer (some (gS T s j)))(hy:aX ρ y=v)(hv:v.oneCell'=true)(Y:Z w0 w Γ)(O':gO Γ s α T e xs put)(hj:j<xs.length)(he:T.enc x'=[v])
  (h:∀ w',Z w0 w' (put (X T e s (xs.set j x')))->nO w w'->opsW P M K r ρ w'):opsW P M K (⟨none,.store t x y,ty,pos,af,none⟩::r) ρ w:=by
 refine kX rfl ?_;obtain⟨i,hi,c⟩:=O'.mJ.ok;simp only[c]at h;have q:T.sz=1:=by rw[<-T.ok x',he];rfl
 have V:v.cells=#[v]:=by cases v<;>first|rfl|(simp[Value.oneCell']at hv)
 have h1:T.enc x'=(T.enc (xs.getD j T.dflt)).set 0 v:=by
  rw[he];have:=T.ok (xs.getD j T.dflt);rw[q]at this
  match S:T.enc (xs.getD j T.dflt),this with
  | [u],_=>rfl
 obtain⟨w',hr,hs,S⟩:=KQ (P:=P) (k:=0) hv Y hi hj U h1;exact Bw hx hy (fun w=>by rw[V];exact C.plain.2 w) (by rw[V];simpa [Addr.add] using hr) (h _ hs S)
def Ws {j k:Nat}{e:TypeId}{v:Value}{x':α}{put:HP->List HP}[C:cj P t](hx:aX ρ x=.pointer (some ((gS T s j).add k)))(S:aX ρ y=v)(hv:v.oneCell'=true)(Y:Z w0 w Γ)(V:gO Γ s α T e xs put)(hj:j<xs.length)(hk:k<T.sz)(he:T.enc x'=(T.enc (xs.getD j T.dflt)).set k v)
  (h:∀ w',Z w0 w' (put (X T e s (xs.set j x')))->opsW P M K r ρ w'):opsW P M K (⟨none,.store t x y,ty,pos,af,none⟩::r) ρ w:=by
 refine kX rfl ?_;obtain⟨i,hi,c⟩:=V.mJ.ok;simp only[c]at h;have q:v.cells=#[v]:=by cases v<;>first|rfl|(simp[Value.oneCell']at hv)
 obtain⟨w',hr,hs,j'⟩:=KQ (P:=P) hv Y hi hj hk he;exact Bw hx S (fun w=>by rw[q];exact C.plain.2 w) (by rw[q];exact hr) (h _ hs)
end
end
end
section
open Go.RowKit (Below)
section
variable {P:Program}{Q:Exit->Fr->World->Prop}{ρ:Fr}{w w0:World}{Γ:List HP}
def uI {a b:Code}(h:vc P a (Thn (vc P b Q) Q) ρ w):vc P (.seq a b) Q ρ w:=h
def Hc (h:Q .normal ρ w):vc P .skip Q ρ w:=h
def Hd (h:Q (.exit i) ρ w):vc P (.exit i) Q ρ w:=h
def He (h:Q .ret ρ w):vc P .ret Q ρ w:=h
def Cp {c:Code}(h:vc P c (Blk i Q) ρ w):vc P (.block i c) Q ρ w:=h
def X5 {c:Operand}{x y:Code}{t:Bool}(q:aX ρ c=.bool t)(h1:t=true->vc P x Q ρ w)(C:t=false->vc P y Q ρ w):vc P (.cond c x y) Q ρ w:=⟨t,q,h1,C⟩
def X6 {c:Operand}{x y:Code}(q:aX ρ c=.bool true)(h1:vc P x Q ρ w):vc P (.cond c x y) Q ρ w:=⟨true,q,fun _=>h1,fun h=>by cases h⟩
def X7 {c:Operand}{x y:Code}(q:aX ρ c=.bool false)(h1:vc P y Q ρ w):vc P (.cond c x y) Q ρ w:=⟨false,q,fun h=>(by cases h),fun _=>h1⟩
def tm (h:opsW P l.toArray (Q .normal) l ρ w):vc P (.region i l.toArray false) Q ρ w:=h
def X8 (Y:Z w0 w Γ)(c:qN P l.toArray=true)(h:∀ w',Z w0 w' Γ->opsW P l.toArray (Q .normal) l ρ w'):vc P (.region i l.toArray true) Q ρ w :=
 .inl ⟨c,h _ Y.drew⟩
def pl:List Nat->List cF->List cF
 | [],l=>l
 | n::a,l=>.op n::pl a l
def PT.s:List Nat->PT->PT
 | [],t=>t
 | n::a,t=>.step n [.op n] (PT.s a t)
def PT.c (n:Nat)(l:List Nat)(t:PT):PT:=.step n (.op n::l.map .cI) t
def PT.d (n:Nat)(l:List Nat)(t m:PT):PT:=.Bt n (.op n::l.map .cI) t m
def fz (is:List cF)(Y:Z w0 w Γ)(c:pw P l.toArray is=true)(h:∀ w',Z w0 w' Γ->opsD P l.toArray (Q .normal) is ρ w'):vc P (.region i l.toArray true) Q ρ w :=
 .inr (.inl ⟨is,c,h _ Y.drew⟩)
def wu (T:PT)(Y:Z w0 w Γ)(c:sY P l.toArray=true)(q:jy P l.toArray [] [] T=true)(h:∀ w',Z w0 w' Γ->jR P l.toArray (Q .normal) T ρ w'):vc P (.region i l.toArray true) Q ρ w :=
 .inr (.inr ⟨T,c,q,h _ Y.drew⟩)
def Hf {M:Array Oper}{K:Fr->World->Prop}(h:opsD P M K is ρ w):jR P M K (.jE is) ρ w:=h
def Hg {M:Array Oper}{K:Fr->World->Prop}{t:PT}(h:opsD P M (jR P M K t) is ρ w):jR P M K (.step i is t) ρ w:=h
def jq {M:Array Oper}{K:Fr->World->Prop}{t m:PT}(h:opsD P M (jR P M K t) is ρ w)(hm:jR P M K m ρ w):jR P M K (.Bt i is t m) ρ w:=⟨h,hm⟩
def pZ {M:Array Oper}{K:Fr->World->Prop}:jR P M K .stop ρ w:=trivial
def Ea {M:Array Oper}{K:Fr->World->Prop}(h:K ρ w):opsD P M K [] ρ w:=h
def Ag {K:Fr->World->Prop}{r:List cF}{o:Oper}(h:opsW P l.toArray (opsD P l.toArray K r) [o] ρ w)(c:l[i]? = some o:=by exact rfl):opsD P l.toArray K (.op i::r) ρ w:=by
 have:(l.toArray)[i]? = some o:=by simpa using c
 simp only[opsD,this];exact h
def KR {K:Fr->World->Prop}{r:List cF}{d:Nat}{op:Op}{ty:TypeId}{pos:String}{af:Array Edge}{v:Value}(c:l[i]? = some ⟨some d,op,ty,pos,af,none⟩)(hv:ReadV P ⟨some d,op,ty,pos,af,none⟩ ρ w v)(he:ρ d=v)(h:opsD P l.toArray K r ρ w):opsD P l.toArray K (.cI i::r) ρ w:=by
 have:(l.toArray)[i]? = some ⟨some d,op,ty,pos,af,none⟩:=by simpa using c
 simp only[opsD,this];refine⟨fun C q=>?_,h⟩;cases q;rw[he];exact hv
def KS {K:Fr->World->Prop}{r:List cF}{d:Nat}{op:Op}{ty:TypeId}{pos:String}{af:Array Edge}{v:Value}{j:Nat}{want:Bool}(c:l[i]? = some ⟨some d,op,ty,pos,af,some (j,want)⟩)(hv:gk l.toArray ρ (j,want)=true->ReadV P ⟨some d,op,ty,pos,af,none⟩ ρ w v/\ρ d=v)(h:opsD P l.toArray K r ρ w):opsD P l.toArray K (.cI i::r) ρ w:=by
 have:(l.toArray)[i]? = some ⟨some d,op,ty,pos,af,some (j,want)⟩:=by simpa using c
 simp only[opsD,this];refine⟨fun I S q=>?_,h⟩;cases q;obtain⟨h1,C⟩:=hv I;rw[C];exact h1
def Cz (h:N ρ w):Thn N Q .normal ρ w:=h
def Hh (h:Q (.exit i) ρ w):Thn N Q (.exit i) ρ w:=h
def Hi (h:Q .ret ρ w):Thn N Q .ret ρ w:=h
def Hj (h:Q .normal ρ w):Blk i Q .normal ρ w:=h
def Hk (h:Q .ret ρ w):Blk i Q .ret ρ w:=h
def Hl (h:Q .normal ρ w):Blk i Q (.exit i) ρ w:=by simp only[Blk,if_true];exact h
def X9 {j:Nat}(c:Nat.beq i j=false)(h:Q (.exit i) ρ w):Blk j Q (.exit i) ρ w:=by
 have:i≠j:=fun e=>by subst e;simp at c
 simp only[Blk,aC this];exact h
def el:List Nat->Nat->Bool
 | a::b::l,t=>(ble a t && ble t b) || el l t
 | _,_=>false
def Hm (a b:Nat):List Nat->Bool
 | c::d::l=>(ble c a && ble b d) || Hm a b l
 | _=>false
def Hn:List Nat->List Nat->Bool
 | a::b::l,W_=>Hm a b W_ && Hn l W_
 | _,_=>true
def Qm {a b t:Nat}(h1:ble a t=true)(h2:ble t b=true):∀ {W_:List Nat},Hm a b W_=true->el W_ t=true
 | [],h=>by cases h
 | [_],h=>by cases h
 | c::d::l,h=>by
  simp only[Hm,qa,Bool.and_eq_true]at h;simp only[el,qa,Bool.and_eq_true];rcases h with ⟨x,y⟩|h
  ·exact .inl ⟨ble_eq_true_of_le (pT (fY x) (fY h1)),ble_eq_true_of_le (pT (fY h2) (fY y))⟩
  exact .inr (Qm h1 h2 h)
def Qn {t:Nat}{W_:List Nat}:∀ {V:List Nat},Hn V W_=true->el V t=true->el W_ t=true
 | [],_,h=>by cases h
 | [_],_,h=>by cases h
 | a::b::l,c,h=>by
  simp only[Hn,Bool.and_eq_true]at c;simp only[el,qa,Bool.and_eq_true]at h;rcases h with ⟨x,y⟩|h
  ·exact Qm x y c.1
  exact Qn c.2 h
def lA (W_:List Nat)(c ρ:Fr):Fr:=fun t=>bif el W_ t then c t else ρ t
def ry (ρ:Fr):List (Nat × Value)->Fr
 | []=>ρ
 | (d,v)::l=>eZ (ry ρ l) d v
def ic (W_:List Nat)(ρ ρ0:Fr):Prop:=∀ t,el W_ t=false->ρ t=ρ0 t
def Holds (ρ:Fr):List (Nat × Value)->Prop
 | []=>True
 | (d,v)::l=>ρ d=v/\Holds ρ l
def Qo:ic W_ ρ ρ:=fun _ _=>rfl
def Qp {d:Nat}{v:Value}(q:el W_ d=true)(h:ic W_ ρ ρ0):ic W_ (eZ ρ d v) ρ0:=by
 intro t c;have:Nat.beq t d=false:=by
  cases C:Nat.beq t d with
  | false=>rfl
  | true=>have:=Kq C;subst this;rw[q]at c;cases c
 simp only[eZ,this,cond_false];exact h t c
def Ya {c:List Nat}{C:Fr}(S:Hn c W_=true)(h:ic W_ ρ ρ0):ic W_ (lA c C ρ) ρ0:=by
 intro t q;have:el c t=false:=by
  cases V:el c t with
  | false=>rfl
  | true=>rw[Qn S V]at q;cases q
 simp only[lA,this,cond_false];exact h t q
def Qq {W_:List Nat}{ρ0:Fr}:∀ {l:List (Nat × Value)},l.all (fun p=>el W_ p.1)=true->ic W_ ρ ρ0->ic W_ (ry ρ l) ρ0
 | [],_,h=>h
 | (d,v)::l,c,h=>by
  simp only[eD,Bool.and_eq_true]at c;exact Qp c.1 (Qq c.2 h)
def Qr:∀ {l:List (Nat × Value)},Holds ρ l->ic W_ ρ ρ0->l.all (fun p=>el W_ p.1)=true->ry (lA W_ ρ ρ0) l=ρ:=by
 intro l q C V;have S:lA W_ ρ ρ0=ρ:=by
  funext t
  simp only[lA]
  cases c:el W_ t with
  | true=>rfl
  | false=>exact(C t c).symm
 rw[S];clear V S C
 induction l with
 | nil=>rfl
 | cons p l ih =>
  obtain⟨d,v⟩:=p;simp only[ry,ih q.2]
  funext t
  simp only[eZ]
  cases c:Nat.beq t d with
  | false=>rfl
  | true=>have:=Kq c;subst this;exact q.1.symm
def cP {c:Code}(W_:List Nat){G:Type}(V:G->List (Nat × Value))(q:G->World->Prop)(μ:G->Nat)(g0:G)
  (hV:∀ g,(V g).all (fun p=>el W_ p.1)=true)(h0:Holds ρ (V g0))(hj:q g0 w)
  (hr:∀ σ g w,q g w->vc P c (Thn (fun C w'=>∃ S,Holds C (V S)/\ic W_ C ρ/\q S w'/\μ S<μ g) Q) (ry (lA W_ σ ρ) (V g)) w):vc P (.loop c) Q ρ w:=by
 refine⟨fun m C w'=>∃ g,μ g=m/\Holds C (V g)/\ic W_ C ρ/\q g w',⟨μ g0,g0,rfl,h0,Qo,hj⟩,?_⟩;rintro m C w' ⟨g,rfl,hh,ha,hj⟩;have:=hr C g w' hj;rw[Qr hh ha (hV g)]at this;refine j5 this fun e j' w2 hq=>?_
 cases e with
 | normal=>obtain⟨S,h1,h2,h3,h4⟩:=hq;exact⟨μ S,h4,S,rfl,h1,h2,h3⟩
 | _=>exact hq
where
 j5:∀ {c:Code}{Q S:Exit->Fr->World->Prop}{ρ:Fr}{w:World},vc P c Q ρ w->(∀ e ρ w,Q e ρ w->S e ρ w)->vc P c S ρ w:=by
  intro c;have j':∀ (M:Array Oper) (l:List Oper) {K K':Fr->World->Prop},(∀ ρ w,K ρ w->K' ρ w)->∀ {ρ:Fr}{w:World},opsW P M K l ρ w->opsW P M K' l ρ w:=by
   intro M l K K' hk
   induction l with
   | nil=>intro ρ w h;exact hk _ _ h
   | cons o r C =>
    intro ρ w h;have hv:∀ {ρ w},opV P o ρ w (opsW P M K r)->opV P o ρ w (opsW P M K' r):=by
     intro ρ w h;unfold opV at *
     split at h
     ·obtain⟨v,h1,h2⟩:=h;exact⟨v,h1,C h2⟩
     ·obtain⟨v,h1,h2⟩:=h;exact⟨v,h1,C h2⟩
     exact uN (fun v w' hh=>C hh) h
    simp only[opsW]at h ⊢;split
    ·rename_i I;simp only[I]at h;exact hv h
    rename_i g I;simp only[I]at h;exact⟨fun h1=>hv (h.1 h1),fun h1=>C (h.2 h1)⟩
  induction c with
  | skip=>intro Q S ρ w h hq;exact hq _ _ _ h
  | label l=>intro Q S ρ w h hq;exact hq _ _ _ h
  | exit i=>intro Q S ρ w h hq;exact hq _ _ _ h
  | ret=>intro Q S ρ w h hq;exact hq _ _ _ h
  | seq a b H' J' =>
   intro Q S ρ w h hq;refine H' (Q:=Thn (vc P b Q) Q) h fun e ρ w he=>?_
   cases e with
   | normal=>exact J' he hq
   | _=>exact hq _ _ _ he
  | cond c x y P' R' =>
   intro Q S ρ w h hq;obtain⟨t,ht,h1,h0⟩:=h
   exact⟨t,ht,fun h=>P' (h1 h) hq,fun h=>R' (h0 h) hq⟩
  | block i c C =>
   intro Q S ρ w h hq;refine C (Q:=Blk i Q) h fun e ρ w he=>?_
   cases e with
   | exit j =>
    simp only[Blk]at he ⊢;split
    ·rename_i hj;rw[aM hj]at he;exact hq _ _ _ he
    rename_i hj;rw[aC hj]at he;exact hq _ _ _ he
   | _=>exact hq _ _ _ he
  | loop c C =>
   intro Q S ρ w h hq;obtain⟨I',hm,hr⟩:=h;refine⟨I',hm,fun m ρ w hI=>C (hr m ρ w hI) fun e ρ w he=>?_⟩
   cases e with
   | normal=>exact he
   | _=>exact hq _ _ _ he
  | region i M draw =>
   intro Q S ρ w h hq
   cases draw with
   | false=>exact j' M _ (fun ρ w h=>hq _ _ _ h) h
   | true =>
    have hD:∀ (is:List cF) {K K':Fr->World->Prop},(∀ ρ w,K ρ w->K' ρ w)->∀ {ρ:Fr}{w:World},opsD P M K is ρ w->opsD P M K' is ρ w:=by
     intro is K K' hk
     induction is with
     | nil=>intro ρ w h;exact hk _ _ h
     | cons x r C =>
      intro ρ w h
      cases x with
      | op i =>
       simp only[opsD]at h ⊢;split
       ·rename_i o ho;rw[ho]at h;exact j' M _ (fun ρ w h=>C h) h
       rename_i ho;rw[ho]at h;exact h
      | cI i=>simp only[opsD]at h ⊢;exact⟨h.1,C h.2⟩
    have hT:∀ (T:PT) {ρ:Fr}{w:World},jR P M (Q .normal) T ρ w->jR P M (S .normal) T ρ w:=by
     intro T
     induction T with
     | jE is=>intro ρ w h;exact hD is (fun ρ w h=>hq _ _ _ h) h
     | step i is t C=>intro ρ w h;exact hD is (fun ρ w h=>C h) h
     | Bt i is t m C T'=>intro ρ w h;exact⟨hD is (fun ρ w h=>C h) h.1,T' h.2⟩
     | stop=>intro ρ w _;trivial
    rcases h with h|⟨is,hp,h⟩|⟨T,hb,ht,h⟩
    ·exact .inl ⟨h.1,j' M _ (fun ρ w h=>hq _ _ _ h) h.2⟩
    ·exact .inr (.inl ⟨is,hp,hD is (fun ρ w h=>hq _ _ _ h) h⟩)
    exact .inr (.inr ⟨T,hb,ht,hT T h⟩)
  | _=>intro Q S ρ w h hq;exact h.elim
def j5 {c:Code}{Q q:Exit->Fr->World->Prop}{ρ:Fr}{w:World}(h:vc P c Q ρ w)(hq:∀ e ρ w,Q e ρ w->q e ρ w):vc P c q ρ w:=cP.j5 h hq
def dQ {c:Code}(W_:List Nat){G:Type}(V:G->H->List (Nat × Value))(q:G->H->World->Prop)(μ:G->H->Nat)(g0:G)(C:H)(hV:∀ g h,(V g h).all (fun p=>el W_ p.1)=true)(h0:Holds ρ (V g0 C))(hj:q g0 C w)(hr:∀ σ g h w,q g h w->vc P c (Thn (fun S w'=>∃ g' h',Holds S (V g' h')/\ic W_ S ρ/\q g' h' w'/\μ g' h'<μ g h) Q) (ry (lA W_ σ ρ) (V g h)) w):vc P (.loop c) Q ρ w:=by
 refine cP W_ (G:=G × H) (fun x=>V x.1 x.2) (fun x=>q x.1 x.2) (fun x=>μ x.1 x.2) (g0,C) (fun x=>hV _ _) h0 hj fun σ x w hx=>j5 (hr σ x.1 x.2 w hx) fun e ρ w he=>?_
 cases e with
 | normal=>obtain⟨g',h',he⟩:=he;exact⟨(g',h'),he⟩
 | _=>exact he
def nZ {c:Code}(W_:List Nat){G I':Type}(V:G->H->I'->List (Nat × Value))(q:G->H->I'->World->Prop)(μ:G->H->I'->Nat)(g0:G)(C:H)(i0:I')(hV:∀ g h i,(V g h i).all (fun p=>el W_ p.1)=true)(h0:Holds ρ (V g0 C i0))(hj:q g0 C i0 w)(hr:∀ σ g h i w,q g h i w->vc P c (Thn (fun S w'=>∃ g' h' i',Holds S (V g' h' i')/\ic W_ S ρ/\q g' h' i' w'/\μ g' h' i'<μ g h i) Q) (ry (lA W_ σ ρ) (V g h i)) w):vc P (.loop c) Q ρ w:=by
 refine cP W_ (G:=G × H × I') (fun x=>V x.1 x.2.1 x.2.2) (fun x=>q x.1 x.2.1 x.2.2) (fun x=>μ x.1 x.2.1 x.2.2) (g0,C,i0) (fun x=>hV _ _ _) h0 hj fun σ x w hx=>j5 (hr σ x.1 x.2.1 x.2.2 w hx) fun e ρ w he=>?_
 cases e with
 | normal=>obtain⟨g',h',i',he⟩:=he;exact⟨(g',h',i'),he⟩
 | _=>exact he
def zK {c:Code}(W_:List Nat){G I' M':Type}(V:G->H->I'->M'->List (Nat × Value))(q:G->H->I'->M'->World->Prop)(μ:G->H->I'->M'->Nat)(g0:G)(C:H)(i0:I')(m0:M')(hV:∀ g h i m,(V g h i m).all (fun p=>el W_ p.1)=true)(h0:Holds ρ (V g0 C i0 m0))(hj:q g0 C i0 m0 w)(hr:∀ σ g h i m w,q g h i m w->vc P c (Thn (fun S w'=>∃ g' h' i' m',Holds S (V g' h' i' m')/\ic W_ S ρ/\q g' h' i' m' w'/\μ g' h' i' m'<μ g h i m) Q) (ry (lA W_ σ ρ) (V g h i m)) w):vc P (.loop c) Q ρ w:=by
 refine cP W_ (G:=G × H × I' × M') (fun x=>V x.1 x.2.1 x.2.2.1 x.2.2.2) (fun x=>q x.1 x.2.1 x.2.2.1 x.2.2.2) (fun x=>μ x.1 x.2.1 x.2.2.1 x.2.2.2) (g0,C,i0,m0) (fun x=>hV _ _ _ _) h0 hj fun σ x w hx=>j5 (hr σ x.1 x.2.1 x.2.2.1 x.2.2.2 w hx) fun e ρ w he=>?_
 cases e with
 | normal=>obtain⟨g',h',i',m',he⟩:=he;exact⟨(g',h',i',m'),he⟩
 | _=>exact he
def sh {c:Code}(W_:List Nat){G:Type}(V:G->List (Nat × Value))(q:G->World->Prop)(S:∀ g,(V g).all (fun p=>el W_ p.1)=true)(h1:vc P c (Thn (fun C w'=>∃ g,Holds C (V g)/\ic W_ C ρ/\q g w') Q) ρ w)(h2:∀ σ g w,q g w->N (ry (lA W_ σ ρ) (V g)) w):vc P c (Thn N Q) ρ w:=by
 refine j5 h1 fun e C w' he=>?_
 cases e with
 | normal =>
  obtain⟨g,hh,ha,hj⟩:=he;have:=h2 C g w' hj;rw[Qr hh ha (S g)]at this
  exact this
 | _=>exact he
def Yb {f:FuncId}{fn:Func}{c:Code}(q:P.funcs[f]? = some fn)(C:(fn.name == "runtime.NumGoroutine") = false)(S : fn.body = some c)(args : Array Value)(w : World) : (callFunc f args).run P w = .ok (.enter f args) w := by
 exact Go.MuLone.run_callFunc_enter q C S args w
def AI (P:Program)(f:Nat):Bool:=match P.funcs[f]? with|some fn => !(fn.name == "runtime.NumGoroutine") && fn.body.isSome | none => false
class ao (P:Program) (f:Nat):Prop where
 ok:AI P f=true
def ao.run {f:Nat}(h:ao P f)(args:Array Value)(w:World):(callFunc f args).run P w=.ok (.enter f args) w:=by
 have h:=h.ok;simp only[AI]at h;split at h
 ·rename_i fn q
  simp only[Bool.and_eq_true,xY,Option.isSome_iff_exists]at h;obtain⟨C,c,S⟩:=h;exact Yb q C S args w
 cases h
section
variable {M:Array Oper}{K:Fr->World->Prop}{r:List Oper}{d:Nat}{ty:TypeId}{pos:String}{af:Array Edge}
def aL {xs:List Operand}[C:ao P f](hx:xs.map (aX ρ)=vs)(c:Calls P f vs.toArray w R)(h:∀ e w',R e w'->∃ v,e=.returned v/\opsW P M K r (eZ ρ d v) w'):opsW P M K (⟨some d,.call { callee:=.value (.func f),args:=xs.toArray,argTypes:=ts },ty,pos,af,none⟩::r) ρ w:=by
 refine kX rfl ?_;have q:(execOp (aX ρ) ⟨some d,.call { callee:=.value (.func f),args:=xs.toArray,argTypes:=ts },ty,pos,af,none⟩).run P w=.ok (.enter f vs.toArray) w:=by
  simp only[execOp,resolve,Deferred.ofValue,aX,eP,fZ,eH,invoke];have:#[]++Array.map (aX ρ) xs.toArray++#[]=vs.toArray:=by simp[hx]
  rw[this,C.run]
 simp only[opW,q,cu];refine uJ c fun e w' S=>?_;obtain⟨v,rfl,hk⟩:=h e w' S;exact hk
def wr {x:Operand}{xs:List Operand}{cs:List Value}{dst:Option Nat}[C:ao P f](c:aX ρ x=.func (.func f) #[] cs.toArray)(hx:xs.map (aX ρ)=vs)(q:Calls P f (vs++cs).toArray w R)(h:∀ e w',R e w'->∃ v,e=.returned v/\opsW P M K r (iq ρ dst v) w'):opsW P M K (⟨dst,.call { callee:=.value x,args:=xs.toArray,argTypes:=ts },ty,pos,af,none⟩::r) ρ w:=by
 refine kX rfl ?_;have S:(execOp (aX ρ) ⟨dst,.call { callee:=.value x,args:=xs.toArray,argTypes:=ts },ty,pos,af,none⟩).run P w=.ok (.enter f (vs++cs).toArray) w:=by
  simp only[execOp,resolve,eP,c,Deferred.ofValue,fZ,eH,invoke];have:#[]++Array.map (aX ρ) xs.toArray++cs.toArray=(vs++cs).toArray:=by simp[hx]
  rw[this,C.run]
 simp only[opW,S,cu];refine uJ q fun e w' V=>?_;obtain⟨v,rfl,hk⟩:=h e w' V;exact hk
end
def bf {fn:Func}{R:Value->World->Prop}{s:Nat}{v:Value}(c:fn.results=#[.tmp s])(hv:ρ s=v)(h:R v w):mz P fn R .ret ρ w :=
 ⟨v,fun a q=>by
  have h1:a.tmps.getD s undef=v:=by rw[<-hv,<-q];rfl
  simp only[results,c,CH,Ab,DT,h1,bind_pure_comp,map_pure]
  rfl,h⟩
def cR {fn:Func}{R:Value->World->Prop}{s s':Nat}{v v':Value}(C:fn.results=#[.tmp s,.tmp s'])(hv:ρ s=v)(c:ρ s'=v')(h:R (.tuple #[v,v']) w):mz P fn R .ret ρ w :=
 ⟨.tuple #[v,v'],fun a q=>by
  have h1:a.tmps.getD s undef=v:=by rw[<-hv,<-q];rfl
  have S:a.tmps.getD s' undef=v':=by rw[<-c,<-q];rfl
  simp only[results,C,CH,Ab,DT,h1,S,bind_pure_comp,map_pure]
  rfl,h⟩
def J6 {fn:Func}{R:Value->World->Prop}(c:fn.results=#[])(h:R (.tuple #[]) w):mz P fn R .ret ρ w :=
 ⟨.tuple #[],fun a q=>by simp[results,c],h⟩
def tj {fn:Func}{R:Value->World->Prop}(c:fn.results=#[])(h:R (.tuple #[]) w):mz P fn R .normal ρ w:=J6 (P:=P) c h
end
def AJ (P:Program)(t:Nat):Bool:=match P.underlying t with|some .bool=>true|_=>false
class sZ (P:Program) (t:Nat):Prop where
 ok:AJ P t=true
section
variable {P:Program}
def sZ.gJ {t:Nat}(h:sZ P t):P.underlying t=some .bool:=by
 have h:=h.ok;unfold AJ at h;split at h
 ·assumption
 cases h
section
variable {M:Array Oper}{K:Fr->World->Prop}{r:List Oper}{ρ:Fr}{w w0:World}{d:Nat}{ty:TypeId}{pos:String}{af:Array Edge}{g:Option (Nat × Bool)}{dst:Option Nat}{x y z:Operand}{t t':TypeId}{Γ:List HP}
def Qt {a b:Bool}[B:sZ P t](hx:aX ρ x=.bool a)(c:aX ρ y=.bool b):PureV P ⟨dst,.binOp .eql t x y t',ty,pos,af,g⟩ ρ (.bool (a == b)):=fun w=>by
 simp[execOp,eqGuard,hx,c,run_eql_bool w t a b B.gJ]
def Qu {a b:Bool}[B:sZ P t](hx:aX ρ x=.bool a)(c:aX ρ y=.bool b):PureV P ⟨dst,.binOp .neq t x y t',ty,pos,af,g⟩ ρ (.bool (!(a == b))):=fun w=>by
 simp[execOp,eqGuard,hx,c,run_neq_bool w t a b B.gJ]
def Qv {v:Value}[Q:ew P t](hx:aX ρ x=.iface t v):PureV P ⟨dst,.typeAssert x t' t true,ty,pos,af,g⟩ ρ (.tuple #[v,.bool true]):=fun w=>by
 obtain⟨c,q,C⟩:=Q.gJ;simp only[execOp,Instr.typeAssert,eP,run_underlying q,eH,hx];cases c<;>first|exact absurd rfl (C _)|simp
def Qw {v:Value}[Q:ew P t](hx:aX ρ x=.iface t v):PureV P ⟨dst,.typeAssert x t' t false,ty,pos,af,g⟩ ρ v:=fun w=>by
 obtain⟨c,q,C⟩:=Q.gJ;simp only[execOp,Instr.typeAssert,eP,run_underlying q,eH,hx];cases c<;>first|exact absurd rfl (C _)|simp
def Qx {f:FuncId}{xs:List Operand}(hx:xs.map (aX ρ)=vs):PureV P ⟨dst,.makeFunc (.func f) #[] xs.toArray,ty,pos,af,g⟩ ρ (.func (.func f) #[] vs.toArray):=fun w=>by
 simp[execOp,Instr.makeFunc,<-hx]
def Qy {k:IntKind}{a b:Int}(hx:aX ρ x=.int k a)(c:aX ρ y=.int k b):PureV P ⟨dst,.call { callee:=.builtin .min,args:=#[x,y],argTypes:=ts },ty,pos,af,g⟩ ρ (.int k (if b<a then b else a)):=fun w=>by
 simp[execOp,resolve,invoke,builtin,hx,c,run_min_int2]
def Qz {k:IntKind}{a b:Int}(hx:aX ρ x=.int k a)(c:aX ρ y=.int k b):PureV P ⟨dst,.call { callee:=.builtin .max,args:=#[x,y],argTypes:=ts },ty,pos,af,g⟩ ρ (.int k (if b>a then b else a)):=fun w=>by
 simp[execOp,resolve,invoke,builtin,hx,c,run_max_int2]
def QA {parts:List (Nat × Operand)}{vs:List (Nat × Value)}{v:Value}(c:(parts.map fun p=>(p.1,aX ρ p.2))=vs)(hv:∀ w,(Instr.build t vs.toArray).run P w=.ok v w)(h:opsW P M K r (eZ ρ d v) w) :
  opsW P M K (⟨some d,.build t parts.toArray,ty,pos,af,none⟩::r) ρ w:=by
 refine kX rfl ?_;have:(Array.map (fun x:Nat × Operand=>match x with|(i,x)=>(i,aX ρ x)) parts.toArray)=vs.toArray:=by rw[<-c];simp
 simp only[opW,execOp,this,eP,hv,eH,fZ,cu];exact h
end
def vl (P:Program)(t:Nat):Option (List (Nat × Nat)):=match P.underlying t with|some (.struct c)=>c.toList.mapM (fun f=>(P.info? f.type).map fun i=>(f.offset,i.size))|_=>none
class bF (P:Program) (t:Nat) (places:outParam (List (Nat × Nat))):Prop where
 ok:vl P t=some places
def rK (P:Program)(t:Nat)(vs:List (Nat × Value)):Option (Array Value) :=
 match P.underlying t,(P.info? t).bind (·.zero) with
 | some (.struct c),some z=>(match c.toList.mapM (fun f=>(P.info? f.type).map fun i=>(f.offset,i.size)) with
   | some places=>Instr.fill (places[·]?) z.cells vs
   | none=>none)
 | _,_=>none
def Yc {fs:List Field}{places:List (Nat × Nat)}(h:fs.mapM (fun f=>(P.info? f.type).map fun i=>(f.offset,i.size))=some places)(w:World) :
  (fs.mapM (fun f=>do pure (f.offset,<-sizeOf f.type):Field->Sem (Nat × Nat))).run P w=.ok places w:=by
 induction fs generalizing places with
 | nil=>simp at h;subst h;rfl
 | cons f fs q =>
  simp only[Ab]at h ⊢
  cases hi:P.info? f.type with
  | none=>simp[hi]at h
  | some i =>
   simp only[hi,tJ,Kz,yH]at h
   cases c:fs.mapM (fun f=>(P.info? f.type).map fun i=>(f.offset,i.size)) with
   | none=>simp[c]at h
   | some S =>
    simp only[c,yH,KA,z7]at h;subst h;have C:(sizeOf f.type).run P w=.ok i.size w:=by simp[sizeOf,typeInfo,hi]
    simp only[eP,C,eH,fZ,q c]
def Yd {t:Nat}{vs:List (Nat × Value)}(h:rK P t vs=some cs)(w:World):(Instr.build t vs.toArray).run P w=.ok (.agg cs) w:=by
 unfold rK at h;split at h
 ·rename_i q z C c
  split at h
  ·rename_i places S
   cases hi:P.info? t with
   | none=>simp[hi]at c
   | some i =>
    simp only[hi,yH]at c;have h1:=Yc (P:=P) S w;have V:(q.mapM (fun f=>do pure (f.offset,<-sizeOf f.type):Field->Sem (Nat × Nat))).run P w=.ok places.toArray w:=by
     rw[<-GS (xs:=q),CH];simp only[Sem.run_map,h1,eH]
    simp only[Instr.build,eP,zeroValue,typeInfo,run_program,eH,hi,fZ,c,run_underlying C,V];have h3:(fun x:Nat=>(places.toArray)[x]?)=(fun x:Nat=>places[x]?):=by funext x;simp
    rw[h3,h];rfl
  cases h
 cases h
def Ye {t:Nat}{places:List (Nat × Nat)}{vs:List (Nat × Value)}(S:bF P t places)(V:bo P t zs)(h:Instr.fill (places[·]?) zs.toArray vs=some cs):rK P t vs=some cs:=by
 have c:=S.ok;have q:=V.ok;unfold vl at c;split at c
 ·rename_i fs hd
  cases hi:(P.info? t).bind (·.zero) with
  | none=>simp[hi]at q
  | some z =>
   simp only[hi,tJ,z7]at q;have C:z.cells=zs.toArray:=by rw[<-q]
   simp only[rK,hd,hi,c,C];exact h
 cases c
section
variable {M:Array Oper}{K:Fr->World->Prop}{r:List Oper}{ρ:Fr}{w w0:World}{d:Nat}{ty:TypeId}{pos:String}{af:Array Edge}{x y z:Operand}{t t':TypeId}{Γ:List HP}{α:Type}
def QB {parts:List (Nat × Operand)}{vs:List (Nat × Value)}{places:List (Nat × Nat)}[S:bF P t places][Z':bo P t zs](c:(parts.map fun p=>(p.1,aX ρ p.2))=vs)(q:Instr.fill (places[·]?) zs.toArray vs=some cs)(h:opsW P M K r (eZ ρ d (.agg cs)) w):opsW P M K (⟨some d,.build t parts.toArray,ty,pos,af,none⟩::r) ρ w :=
 QA c (Yd (Ye S Z' q)) h
def Ah {T:Ty α}{e:TypeId}{xs:List α}{cells:Array Value}{cap:Nat}(q:cells.toList=xs.flatMap T.enc++replicate 0 undef)(C:xs.length=n)(S:n<=bU)(c:cap=n)(Y:Z w0 w Γ) :
  Z w0 (iK w (.cells cells e)) (X T e (.slice (some ⟨w.heap.size,0,none⟩) n cap) xs::Γ):=by
 refine Y.push ⟨.inr ⟨w.heap.size,0,n,cap,[],[],rfl,rfl,by rw[T.len,C],U,S,by simp[c],?_⟩,C⟩;simp at q;simp[<-q]
def QC:∀ (vs:List Value) (k off:Nat) (cs:List Value),off+k+vs.length<=cs.length ->
  (vs.zipIdx k).foldl (fun (cs:Array Value) (x:Value × Nat)=>cs.setIfInBounds (off+x.2) x.1) cs.toArray=(cs.take (off+k)++vs++cs.drop (off+k+vs.length)).toArray
 | [],k,off,cs,_=>sm
 | v::vs,k,off,cs,h=>by
  simp only[length_cons]at h;rw[zipIdx_cons,sy];have e:(cs.toArray.setIfInBounds (off+k) v)=(cs.set (off+k) v).toArray:=sm;simp only;rw[e,QC vs (k+1) off _ (by simp;omega)];congr 1;rw[show off+(k+1)=off+k+1 from by omega,Kf (by simp;omega),GG U,drop_set_of_lt U];simp;congr 1;omega
def KU {nz:Nat->Option (Nat × Nat)}{off size:Nat}{v:Value}{cs:List Value}{rest:List (Nat × Value)}(q:nz i=some (off,size))(c:v.cells.size=size)(C:off+size<=cs.length) :
  Instr.fill nz cs.toArray ((i,v)::rest)=Instr.fill nz (cs.take off++v.cells.toList++cs.drop (off+size)).toArray rest:=by
 have h1:¬(v.cells.size≠size || off+v.cells.size>cs.toArray.size)=true:=by simp[c];omega
 rw[Instr.fill,q];simp only;rw[aC h1];congr 1;have:=QC v.cells.toList 0 off cs (by simp[c];omega);rw[<-Array.foldl_toList];simp only[Array.toList_zipIdx];simp only[z6,F9,c]at this;exact this
def Ho {sz:Nat}:∀ (vs:List Value) (k:Nat) (c rest:List Value),(∀ v∈vs,v.cells.size=sz)->c.length=k*sz->rest.length=vs.length*sz ->
  Instr.fill (fun i=>some (i*sz,sz)) (c++rest).toArray ((vs.zipIdx k).map fun x=>(x.2,x.1))=some (c++vs.flatMap (·.cells.toList)).toArray
 | [],k,c,rest,_,_,C=>by
  simp at C;subst C;simp[Instr.fill]
 | v::vs,k,c,rest,hv,S,C=>by
  have q:=hv v sm;simp only[length_cons,qD,wy]at C;rw[zipIdx_cons,l8,KU (off:=k*sz) (size:=sz) rfl q (by simp;omega)];have h1:(c++rest).take (k*sz)=c:=by rw[<-S];simp
  have V:(c++rest).drop (k*sz+sz)=rest.drop sz:=by rw[<-S,yG];simp
  rw[h1,V,Ho vs (k+1) (c++v.cells.toList) (rest.drop sz) (fun u hu=>hv u (by simp[hu])) (by simp[S,q,qD]) (by simp;omega)];simp[kO]
def ya {T:Ty α}(xs:List α)(vs:List Value){e len:Nat}{parts:List (Nat × Operand)}[S:bm P t e sz by_][Z':bo P e zs](hp:(parts.map fun p=>(p.1,aX ρ p.2))=(vs.zipIdx 0).map fun x=>(x.2,x.1))(hx:vs.flatMap (·.cells.toList)=xs.flatMap T.enc)(c:vs.all (fun v=>v.cells.size == sz)=true)(hlen:vs.length=len)(q:xs.length=len)(J':len*sz<=16777216)(j':0<len*sz)(H':len<=16777216)(Y:Z w0 w Γ)(h:∀ s w',Z w0 w' (X T e s xs::Γ)->opsW P M K r (eZ ρ d s) w'):opsW P M K (⟨some d,.buildSlice t len parts.toArray,ty,pos,af,none⟩::r) ρ w:=by
 refine kX rfl ?_;obtain⟨zv,C,V⟩:=Z'.zero;have:(Array.map (fun x:Nat × Operand=>match x with|(i,x)=>(i,aX ρ x)) parts.toArray)=((vs.zipIdx 0).map fun x=>(x.2,x.1)).toArray:=by rw[<-hp];simp
 have h0:¬(len*sz=0):=U;have h1:¬(len*sz>2 ^ 24):=U;have hf:Instr.fill (fun i=>some (i*sz,sz)) ((Array.range (len*sz)).map (zs.toArray[· % zs.toArray.size]!)) ((vs.zipIdx 0).map fun x=>(x.2,x.1))=some (xs.flatMap T.enc).toArray:=by
  have:=Ho (sz:=sz) vs 0 [] ((Array.range (len*sz)).map (zs.toArray[· % zs.toArray.size]!)).toList (fun v hv=>by simpa using all_eq_true.1 c v hv) sm (by simp[hlen]);rw[hx]at this;simp only[kL,GS]at this;exact this
 simp only[opW,execOp,this,Instr.buildSlice,eP,run_underlying S.gJ,eH,S.size,h1,if_false,h0,fZ,V,C];rw[hf];simp only[eP,newRow,run_newObj,eH,fZ,cu];exact h _ _ (Ah (e:=e) sm q (by unfold bU;omega) rfl Y)
def jK (T:Ty α){x1:α}{e:Nat}{v:Value}[S:bm P t e sz by_][Z':bo P e zs](C:aX ρ x=v)(hx:v.cells.toList=T.enc x1)(c:sz=T.sz)(V:sz<=16777216)(q:0<sz)(Y:Z w0 w Γ)(h:∀ s w',Z w0 w' (X T e s [x1]::Γ)->opsW P M K r (eZ ρ d s) w'):opsW P M K (⟨some d,.buildSlice t 1 #[(0,x)],ty,pos,af,none⟩::r) ρ w:=by
 have hs:v.cells.size=sz:=by
  have:=T.ok x1;rw[<-hx,<-c]at this
  simpa using this
 exact ya (parts:=[(0,x)]) [x1] [v] (by simp[C]) (by simp[hx]) (by simp[hs]) rfl rfl U U U Y h
def lF (zs:List Value)(l:List (Nat × Value)):List Value:=l.foldl (fun cs p=>cs.set p.1 p.2) zs
def mA (places:List (Nat × Nat))(n:Nat):Bool:=decide (places=(List.range n).map fun i=>(i,1))
def QD {places:List (Nat × Nat)}{n:Nat}(q:mA places n=true):∀ (l:List (Nat × Value)) (cs:List Value),cs.length=n->l.all (fun p=>decide (p.1<n) && p.2.oneCell')=true->Instr.fill (places[·]?) cs.toArray l=some (lF cs l).toArray
 | [],cs,_,_=>by simp[Instr.fill,lF]
 | (i,v)::l,cs,C,c=>by
  simp only[eD,Bool.and_eq_true,gQ]at c;have hv:v.cells=#[v]:=by
   have:=c.1.2;cases v<;>first|rfl|(simp[Value.oneCell']at this)
  have S:places[i]? = some (i,1):=by
   have:=uB q;rw[this];simp[c.1.1]
  rw[KU S (by rw[hv];rfl) U,hv];have e:cs.take i++#[v].toList++cs.drop (i+1)=cs.set i v:=by
   rw[D1,aM U];simp
  rw[e,QD q l (cs.set i v) (by simpa using C) c.2];rfl
def lw {parts:List (Nat × Operand)}{vs:List (Nat × Value)}{places:List (Nat × Nat)}[S:bF P t places][Z':bo P t zs](c:(parts.map fun p=>(p.1,aX ρ p.2))=vs)(q:mA places zs.length=true)(hv:vs.all (fun p=>decide (p.1<zs.length) && p.2.oneCell')=true)(h:opsW P M K r (eZ ρ d (.agg (lF zs vs).toArray)) w):opsW P M K (⟨some d,.build t parts.toArray,ty,pos,af,none⟩::r) ρ w :=
 QB c (QD q vs zs rfl hv) h
def Jv {i1:Nat}{places:List (Nat × Nat)}[S:bF P t places][Z':bo P t zs](h1:aX ρ x1=v1)(c:mA places zs.length=true)(hv:[(i1,v1)].all (fun p=>decide (p.1<zs.length) && p.2.oneCell')=true)(h:opsW P M K r (eZ ρ d (.agg (lF zs [(i1,v1)]).toArray)) w):opsW P M K (⟨some d,.build t #[(i1,x1)],ty,pos,af,none⟩::r) ρ w:=lw (parts:=[(i1,x1)]) (by simp[h1]) c hv h
def zH {i1 i2:Nat}{v2:Value}{places:List (Nat × Nat)}[S:bF P t places][Z':bo P t zs](h1:aX ρ x1=v1)(h2:aX ρ x2=v2)(c:mA places zs.length=true)(hv:[(i1,v1),(i2,v2)].all (fun p=>decide (p.1<zs.length) && p.2.oneCell')=true)(h:opsW P M K r (eZ ρ d (.agg (lF zs [(i1,v1),(i2,v2)]).toArray)) w):opsW P M K (⟨some d,.build t #[(i1,x1),(i2,x2)],ty,pos,af,none⟩::r) ρ w:=lw (parts:=[(i1,x1),(i2,x2)]) (by simp[h1,h2]) c hv h
def yA {i1 i2 i3:Nat}{v2 v3:Value}{places:List (Nat × Nat)}[S:bF P t places][Z':bo P t zs](h1:aX ρ x1=v1)(h2:aX ρ x2=v2)(c:aX ρ x3=v3)(q:mA places zs.length=true)(hv:[(i1,v1),(i2,v2),(i3,v3)].all (fun p=>decide (p.1<zs.length) && p.2.oneCell')=true)(h:opsW P M K r (eZ ρ d (.agg (lF zs [(i1,v1),(i2,v2),(i3,v3)]).toArray)) w):opsW P M K (⟨some d,.build t #[(i1,x1),(i2,x2),(i3,x3)],ty,pos,af,none⟩::r) ρ w:=lw (parts:=[(i1,x1),(i2,x2),(i3,x3)]) (by simp[h1,h2,c]) q hv h
def Yf {i1 i2 i3 i4:Nat}{c:Operand}{v2 v3 v4:Value}{places:List (Nat × Nat)}[S:bF P t places][Z':bo P t zs](h1:aX ρ x1=v1)(h2:aX ρ x2=v2)(q:aX ρ x3=v3)(C:aX ρ c=v4)(V:mA places zs.length=true)(hv:[(i1,v1),(i2,v2),(i3,v3),(i4,v4)].all (fun p=>decide (p.1<zs.length) && p.2.oneCell')=true)(h:opsW P M K r (eZ ρ d (.agg (lF zs [(i1,v1),(i2,v2),(i3,v3),(i4,v4)]).toArray)) w):opsW P M K (⟨some d,.build t #[(i1,x1),(i2,x2),(i3,x3),(i4,c)],ty,pos,af,none⟩::r) ρ w:=lw (parts:=[(i1,x1),(i2,x2),(i3,x3),(i4,c)]) (by simp[h1,h2,q,C]) V hv h
def KV {T:Ty α}{z:α}(S:T.enc z=zs)(n:Nat):((Array.range (n*T.sz)).map (zs.toArray[· % zs.toArray.size]!)).toList=(replicate n z).flatMap T.enc:=by
 have V:zs.length=T.sz:=by rw[<-S];exact T.ok z
 apply z8;intro i;by_cases hi:i<n*T.sz
 ·have C:0<T.sz:=by
   rcases uH T.sz with h|h
   ·rw[h]at hi;simp at hi
   exact h
  have hq:i / T.sz<n:=(div_lt_iff_lt_mul C).2 hi;have c:i % T.sz<T.sz:=Cx _ C;have q:i=i / T.sz*T.sz+i % T.sz:=by rw[GV];exact(div_add_mod i T.sz).symm
  have h1:=T.get (replicate n z) (i / T.sz) (i % T.sz) (by simpa using hq) c;rw[<-q]at h1;rw[h1];have h2:(replicate n z).getD (i / T.sz) T.dflt=z:=by simp[List.getD,hq]
  rw[h2,S];have j':i % zs.length<zs.length:=by rw[V];exact c
  simp[hi,V,c]
 rw[uK (by simp;omega),uK (by rw[T.len];simp;omega)]
def Cm (T:Ty α)(z:α){e:Nat}{n:Int}[S:bm P t e sz by_][Z':bo P e zs](hx:aX ρ x=E n)(hy:aX ρ y=E n)(V:sz=T.sz)(hz:T.enc z=zs)(h0:0<=n)(hb:by_*n<=281474976710656)(hn:n<=281474976710656)(Y:Z w0 w Γ)(h:∀ s w',Z w0 w' (X T e s (replicate n.toNat z)::Γ)->opsW P M K r (eZ ρ d s) w'):opsW P M K (⟨some d,.makeSlice t x y,ty,pos,af,none⟩::r) ρ w:=by
 refine kX rfl ?_;subst V;obtain⟨zv,j',H'⟩:=Z'.zero;obtain⟨i,hi,hs,J'⟩:=S.ub;have P':IntKind.i64.wrap n=n:=yJ U U;have h1:¬(n<0):=U;have h2:¬(281474976710656<(by_:Int)*n):=U;have C:((n<0 || (i.bytes:Int)*n>2 ^ 48) || n<0 || n>n)=false:=by simp[J'];omega
 simp only[opW,execOp,hx,hy,Instr.makeSlice,eP,run_underlying S.gJ,eH,asInt,asIntOf,fZ,typeInfo,run_program,hi,P',C,CC,if_false,run_askRoom,S.size];have c:∀ (z0:Array Value),(n.toNat*T.sz=0\/z0=zs.toArray)->((Array.range (n.toNat*T.sz)).map (z0[· % z0.size]!)).toList=(replicate n.toNat z).flatMap T.enc:=by
  intro z0 h;rcases h with h|h
  ·rw[h]
   have:((replicate n.toNat z).flatMap T.enc).length=0:=by rw[T.len];simpa using h
   rw[n0 this];simp
  rw[h];exact KV hz n.toNat
 by_cases q:n.toNat*T.sz=0
 ·simp only[q,if_true,fZ,eH,newRow,eP,run_newObj,cu]
  have:=c #[] (.inl q);rw[q]at this;exact h _ _ (Ah (T:=T) (e:=e) (by rw[this];simp) sm (by unfold bU;omega) rfl Y)
 simp only[q,if_false,eP,H',fZ,eH,newRow,run_newObj,cu,j'];exact h _ _ (Ah (T:=T) (e:=e) (by rw[c _ (.inr rfl)];simp) sm (by unfold bU;omega) rfl Y)
end
end
section
variable {P:Program}
@[irreducible] def cG (ss:List Value)(i:Nat):Value:=ss.getD i undef
def l9 (ss:List Value)(i:Nat):cG ss i=ss.getD i undef:=by unfold cG;rfl
def CQ {ρ:Fr}{w:World}{ty:TypeId}{pos:String}{af:Array Edge}{g:Option (Nat × Bool)}{dst:Option Nat}{x:Operand}{t:TypeId}{s:Value}{xs:List Value}[C:cj P t](hx:aX ρ x=.pointer (some (gS ap s i)))(h:RS ap w s xs)(hi:i<xs.length):ReadV P ⟨dst,.load t x,ty,pos,af,g⟩ ρ w (cG xs i) :=
 CN hx h hi (by rw[l9];rfl)
def ssub (s:Value)(sz lo hi:Nat):Value:=match s with
 | .slice a _ cap=>.slice (if cap=lo then a else a.map (·.add (lo*sz))) (hi-lo) (cap-lo)
 | v=>v
def cut {α:Type}(xs:List α)(lo hi:Nat):List α:=(xs.take hi).drop lo
def yK {α:Type}{xs:List α}(h:hi<=xs.length):(cut xs lo hi).length=hi-lo:=by simp[cut];omega
def Ty.drop {α:Type}(T:Ty α):∀ (xs:List α) (k:Nat),(xs.flatMap T.enc).drop (k*T.sz)=(xs.drop k).flatMap T.enc
 | xs,0=>sm
 | [],k+1=>sm
 | x::xs,k+1=>by
  have h:=T.ok x;have c:=T.drop xs k;rw[drop_succ_cons,kO,<-c,yG,pS (by rw[h,qD];omega),h];simp only[kL];congr 1;rw[qD];omega
def Ty.take {α:Type}(T:Ty α):∀ (xs:List α) (k:Nat),(xs.flatMap T.enc).take (k*T.sz)=(xs.take k).flatMap T.enc
 | xs,0=>sm
 | [],k+1=>sm
 | x::xs,k+1=>by
  have h:=T.ok x;have c:=T.take xs k;rw[Kn,kO,kO,<-c,DU,gH (by rw[h,qD];omega),h];congr 2;rw[qD];omega
def Ty.cut {α:Type}(T:Ty α)(xs:List α)(lo hi:Nat):Sl.cut (xs.flatMap T.enc) (lo*T.sz) (hi*T.sz)=(Sl.cut xs lo hi).flatMap T.enc:=by
 simp only[Sl.cut,T.take,T.drop]
def zV {b off k:Nat}:(⟨b,off,none⟩:Addr).add k=⟨b,off+k,none⟩:=by unfold Addr.add;split<;>simp_all
def Hp (h:p.spot=none)(k:Nat):p.add k=⟨p.block,p.off+k,none⟩:=by
 obtain⟨b,off,sp⟩:=p;simp only at h;subst h;exact zV
def Yg {s:Value}{e:TypeId}(ho:Own s e sz vs h)(h1:lo<=hi)(h2:hi<=eo s):Own (ssub s sz lo hi) e sz (cut vs (lo*sz) (hi*sz)) h:=by
 rcases ho with ⟨rfl,rfl⟩|⟨b,off,n,cap,pre,post,rfl,q,hlen,H',j',S,hb⟩
 ·simp only[eo]at h2
  have:lo=0:=U;have:hi=0:=U;subst lo hi;left;simp[ssub,cut]
 simp only[eo]at h2;right;have J':lo*sz<=hi*sz:=uL _ h1;have P':hi*sz<=n*sz:=uL _ h2;have C:(cut vs (lo*sz) (hi*sz)).length=(hi-lo)*sz:=by rw[yK U,DS]
 have c:vs=vs.take (lo*sz)++cut vs (lo*sz) (hi*sz)++vs.drop (hi*sz):=by
  have V:vs.take (lo*sz)=(vs.take (hi*sz)).take (lo*sz):=by rw[take_take];congr 1;omega
  rw[V];simp only[cut,yF]
 by_cases hc:cap=lo
 ·subst hc
  have:hi=cap:=U;subst this;refine⟨b,off,0,0,pre,vs++post,by simp[ssub],q,by rw[C];simp,cD _,bu _,sm,?_⟩;have V:cut vs (hi*sz) (hi*sz)=[]:=by apply n0;rw[C];simp
  rw[hb,V];simp
 refine⟨b,off+lo*sz,hi-lo,cap-lo,pre++vs.take (lo*sz),vs.drop (hi*sz)++post,by simp[ssub,hc,zV],by simp[q];omega,C,U,U,?_,?_⟩
 ·simp only[length_append,yD,hlen]
  have:(cap-lo-(hi-lo))*sz=(n-hi)*sz+(cap-n)*sz:=by rw[<-qD];congr 1;omega
  have V:(n-hi)*sz=n*sz-hi*sz:=DS _ _ _;omega
 rw[hb];congr 3
 conv=>lhs;rw[c]
 simp
def Yh {α:Type}{T:Ty α}{e:TypeId}{s:Value}{xs:List α}(c:X T e s xs h)(h1:lo<=hi)(h2:hi<=xs.length):X T e (ssub s T.sz lo hi) (cut xs lo hi) h:=by
 have q:=c.2;refine⟨by rw[<-T.cut];exact Yg c.1 h1 U,?_⟩;rw[yK h2];have:=c.1;rcases this with ⟨rfl,_⟩|⟨b,off,n,cap,pre,post,rfl,_⟩
 ·simp only[eo]at q;simp[ssub,eo]
 simp[ssub,eo]
def yb {α:Type}{T:Ty α}{w:World}{s:Value}{xs:List α}(ho:RS T w s xs)(h1:lo<=hi)(h2:hi<=xs.length):RS T w (ssub s T.sz lo hi) (cut xs lo hi):=by
 obtain⟨⟨a,n,cap,rfl,hlen,⟨J',j'⟩,hc⟩,hl⟩:=ho;simp only[eo]at hl;subst hl;have C:=yK (lo:=lo) h2;refine⟨⟨_,hi-lo,cap-lo,rfl,by rw[T.len,C],⟨U,U⟩,fun i v hv=>?_⟩,C⟩;rw[<-T.cut]at hv;have P':=(x8.1 hv).1;have H':(cut (xs.flatMap T.enc) (lo*T.sz) (hi*T.sz)).length=hi*T.sz-lo*T.sz:=yK (by rw[T.len];exact uL _ h2);have V:(xs.flatMap T.enc)[lo*T.sz+i]? = some v:=by
  simp only[cut,Kg]at hv;rw[wG]at hv;split at hv
  ·exact hv
  cases hv
 obtain⟨p,rfl,S,q⟩:=hc _ _ V;by_cases c:cap=lo
 ·subst c
  have:hi*T.sz<=cap*T.sz:=uL _ U;omega
 refine⟨p.add (lo*T.sz),by simp[c],by rw[Hp S],?_⟩;rw[Hp S];simp only[];rw[Aa];exact q
def Z.sub {w0 w:World}{Γ:List HP}{α:Type}{T:Ty α}{s:Value}{e:TypeId}{xs:List α}{put:HP->List HP}(Y:Z w0 w Γ)(q:gO Γ s α T e xs put)(lo hi:Nat)(h1:lo<=hi)(h2:hi<=xs.length):Z w0 w (put (X T e (ssub s T.sz lo hi) (cut xs lo hi))):=by
 obtain⟨i,c,C⟩:=q.mJ.ok;rw[C];exact Z.ir i c ((Y.bQ i c).mono fun h S=>Yh S h1 h2)
section
variable {M:Array Oper}{K:Fr->World->Prop}{r:List Oper}{ρ:Fr}{w w0:World}{d:Nat}{ty:TypeId}{pos:String}{af:Array Edge}{g:Option (Nat × Bool)}{dst:Option Nat}{x y z:Operand}{t t':TypeId}{Γ:List HP}
variable {α:Type}{T:Ty α}{s:Value}{xs:List α}
def QE {e:Nat}{k:IntKind}{j:Int}[S:bm P t e sz by_](hx:aX ρ x=s)(c:aX ρ y=.int k j)(h:RS T w s xs)(q:sz=T.sz)(C:0<=j)(h1:j<=xs.length) :
  PureV P ⟨dst,.slice t x none (some y) none,ty,pos,af,g⟩ ρ (ssub s T.sz 0 j.toNat):=fun w=>by
 subst q;obtain⟨⟨a,n,cap,rfl,_,⟨V,_⟩,_⟩,hl⟩:=h;simp only[eo]at hl;have hj:j<=cap:=U;simp[execOp,Instr.sliceAt,Instr.slice,Instr.sliceBounds,Instr.sliceBound,asIntOf,hx,c,run_underlying S.gJ,C,hj,S.size,ssub]
def QF {e:Nat}{k:IntKind}{j:Int}[S:bm P t e sz by_](hx:aX ρ x=s)(q:aX ρ y=.int k j)(h:RS T w s xs)(C:sz=T.sz)(V:0<=j)(h1:j<=xs.length) :
  PureV P ⟨dst,.slice t x (some y) none none,ty,pos,af,g⟩ ρ (ssub s T.sz j.toNat xs.length):=fun w=>by
 subst C;obtain⟨⟨a,n,cap,rfl,_,⟨j',_⟩,_⟩,c⟩:=h;simp only[eo]at c;have hj:j<=n:=U;simp[execOp,Instr.sliceAt,Instr.slice,Instr.sliceBounds,Instr.sliceBound,asIntOf,hx,q,run_underlying S.gJ,V,hj,S.size,ssub,c]
def QG {e:Nat}{k C:IntKind}{i j:Int}[S:bm P t e sz by_](hx:aX ρ x=s)(V:aX ρ y=.int k i)(c:aX ρ z=.int C j)(h:RS T w s xs)(hz:sz=T.sz)(h0:0<=i)(j':i<=j)(h1:j<=xs.length) :
  PureV P ⟨dst,.slice t x (some y) (some z) none,ty,pos,af,g⟩ ρ (ssub s T.sz i.toNat j.toNat):=fun w=>by
 subst hz;obtain⟨⟨a,n,cap,rfl,_,⟨H',_⟩,_⟩,hl⟩:=h;simp only[eo]at hl;have hj:j<=cap:=U;have q:0<=j:=U;have hi:i<=max j 0:=U;simp[execOp,Instr.sliceAt,Instr.slice,Instr.sliceBounds,Instr.sliceBound,asIntOf,hx,V,c,run_underlying S.gJ,h0,hj,q,hi,S.size,ssub]
def QH {e:Nat}[S:bm P t e sz by_](hx:aX ρ x=s)(h:RS T w s xs)(q:sz=T.sz) :
  PureV P ⟨dst,.slice t x none none none,ty,pos,af,g⟩ ρ (ssub s T.sz 0 xs.length):=fun w=>by
 subst q;obtain⟨⟨a,n,cap,rfl,_,⟨C,_⟩,_⟩,c⟩:=h;simp only[eo]at c;simp[execOp,Instr.sliceAt,Instr.slice,Instr.sliceBounds,Instr.sliceBound,hx,run_underlying S.gJ,S.size,ssub,c]
def Eb {s:Value}(h:vE w s sz vs)(V:eo s=n)(w':World)(q:w'.heap=w.heap):(Builtin.firstCells sz n s).run P w'=.ok vs.toArray w':=by
 obtain⟨a,n',cap,rfl,hlen,_,hc⟩:=h;simp only[eo]at V;subst V
 cases a with
 | none =>
  have:vs=[]:=by
   apply eq_nil_iff_length_eq_zero.2;rcases uH vs.length with h|h
   ·exact h
   obtain⟨p,c,_⟩:=hc 0 _ (kN h);cases c
  subst this
  simp[Builtin.firstCells]
 | some p =>
  refine run_firstCells_some (P:=P) w' sz n' p n' cap vs hlen fun j v hv=>?_;obtain⟨p',C,S,c⟩:=hc j v hv;cases C;rw[Hp S]
  simpa [World.cell?,q] using c
def Z.xh {o:Obj}(Y:Z w0 w Γ)(hi:Γ[i]? = some A)(c:A' (fun x=>if x=w.heap.size then some o else none)):Z w0 (iK w o) (Γ.set i A'):=by
 have h1:=(Y.push c).bQ (i+1) (A:=A) (by simpa using hi);exact Z.ir i hi h1.tail
def q7 {e:Nat}{s2:Value}{ys:List α}{put:HP->List HP}[S:bm P t e sz by_][Z':bo P e zs](O':gO Γ s α T e xs put)(hx:aX ρ x=s)(hy:aX ρ y=s2)(h2:RS T w s2 ys)(_d:sz=T.sz)(_e:zs.length=sz)(hone:∀ x∈ys,∀ v∈T.enc x,v.oneCell'=true)(hb:(xs.length+ys.length)*by_<=140737488355328)(hl:xs.length+ys.length<=bU)(Y:Z w0 w Γ)(h:∀ s' w',Z w0 w' (put (X T e s' (xs++ys)))->opsW P M K r (eZ ρ d s') w'):opsW P M K (⟨some d,.call { callee:=.builtin .append,args:=#[x,y],argTypes:=#[t,t] },ty,pos,af,none⟩::r) ρ w:=by
 refine kX rfl ?_;subst _d;obtain⟨i,hi,hp⟩:=O'.mJ.ok;simp only[hp]at h;obtain⟨bH,_a,hs,_f⟩:=S.ub;obtain⟨zv,_g,_h⟩:=Z'.zero;have h1:=Y.rs i hi;obtain⟨ph,_i,V⟩:=Y.at i hi;obtain⟨a2,_v,C⟩:=h2.shape;have q:∀ w':World,w'.heap=w.heap->(Builtin.firstCells T.sz ys.length s2).run P w'=.ok (ys.flatMap T.enc).toArray w':=fun w' T'=>Eb h2.1 h2.2.symm w' T';have j':∀ w':World,w'.heap=w.heap->(Builtin.firstCells T.sz xs.length s).run P w'=.ok (xs.flatMap T.enc).toArray w':=fun w' T'=>Eb h1.1 h1.2.symm w' T'
 have H':∀ (a:Option Addr) (cap:Nat),s=.slice a xs.length cap->cap<xs.length+ys.length ->
   (execOp (aX ρ) ⟨some d,.call { callee:=.builtin .append,args:=#[x,y],argTypes:=#[t,t] },ty,pos,af,none⟩).run P w =
   .ok (.value (.slice (some ⟨w.heap.size,0,none⟩) (xs.length+ys.length) (grownCap w (xs.length+ys.length) cap e))) (iK w.drew (.cells ((xs.flatMap T.enc).toArray++(ys.flatMap T.enc).toArray++Builtin.zeroCells zs.toArray (grownCap w (xs.length+ys.length) cap e-(xs.length+ys.length))) e)):=by
  intro a cap P' c;have hn:¬(xs.length+ys.length<=cap):=U;have R':¬(9223372036854775807<((xs.length:Int)+(ys.length:Int))):=by unfold bU at hl;omega
  have _b:=growslice_fits (bytes:=by_) c hb;have V':¬(281474976710656<Builtin.nextslicecap (xs.length+ys.length) cap*by_):=U;have hq:(Question.appendCap (xs.length+ys.length) cap e).forced=false:=rfl;rw[P']at j';rw[C]at q;simp[execOp,resolve,invoke,builtin,Builtin.append_,hx,hy,P',C,run_underlying S.gJ,S.size,typeInfo,_a,_f,Builtin.lenOf,hn,R',V',hq,j',q,_h,_g,grownCap];rw[j' w.drew rfl];simp only[eH];rw[q w.drew rfl];have J':∀ (X' Y':List Value) (Z':Array Value),X'.toArray++(Y'.toArray++Z')=(X'++Y').toArray++Z':=fun X' Y' Z'=>by apply GT;simp only[Kp,fL]
  simp only[newRow,eP,run_newObj,eH,fZ];rw[J'];rfl
 simp only[opW];rcases V with ⟨V,hlen⟩;have R':∀ cap,cap<xs.length+ys.length->Z w0 (iK w.drew (.cells ((xs.flatMap T.enc).toArray++(ys.flatMap T.enc).toArray++Builtin.zeroCells zs.toArray (grownCap w (xs.length+ys.length) cap e-(xs.length+ys.length))) e)) (Γ.set i (X T e (.slice (some ⟨w.heap.size,0,none⟩) (xs.length+ys.length) (grownCap w (xs.length+ys.length) cap e)) (xs++ys))):=by
  intro cap c;have J':=grownCap_ge w (xs.length+ys.length) cap e;refine Z.xh (w:=w.drew) Y.drew hi ⟨.inr ⟨w.heap.size,0,_,_,[],(Builtin.zeroCells zs.toArray (grownCap w (xs.length+ys.length) cap e-(xs.length+ys.length))).toList,rfl,rfl,by rw[T.len];simp,J',hl,?_,?_⟩,by simp[eo]⟩
  ·simp[size_zeroCells,_e]
  simp
 rcases V with ⟨rfl,_w⟩|⟨b,off,n,cap,pre,post,rfl,_b,_j,_D,_x,_k,_l⟩
 ·simp only[eo]at hlen
  by_cases J':ys.length=0
  ·have P':=n0 J'
   subst P';have hr:(execOp (aX ρ) ⟨some d,.call { callee:=.builtin .append,args:=#[x,y],argTypes:=#[t,t] },ty,pos,af,none⟩).run P w=.ok (.value (nS)) w:=by
    have c:=q w rfl;rw[C]at c;simp only[length_nil]at c;simp[execOp,resolve,invoke,builtin,Builtin.append_,hx,hy,C,run_underlying S.gJ,S.size,Builtin.lenOf,c]
   rw[hr];refine h _ _ ?_;have:xs=[]:=n0 hlen;subst this;simp only[fS];rw[show Γ.set i (X T e (nS) [])=Γ from ?_]
   ·exact Y
   apply z8;intro k;rw[vz];split
   ·rename_i hk;subst hk;split
    ·rw[hi]
    rename_i hk;rw[uK U]
   rfl
  rw[H' none 0 (by rw[hlen]) U];exact h _ _ (R' 0 U)
 simp only[eo]at hlen;subst hlen;by_cases J':xs.length+ys.length<=cap
 ·have c:=q w rfl
  rw[C]at c;have P':(xs.flatMap T.enc).length=xs.length*T.sz:=T.len xs;have V':(ys.flatMap T.enc).length=ys.length*T.sz:=T.len ys;have hm:xs.length*T.sz+ys.length*T.sz<=xs.length*T.sz+(cap-xs.length)*T.sz:=by
   have:ys.length*T.sz<=(cap-xs.length)*T.sz:=uL _ U;omega
  have _m:=x9 (P:=P) (bt:=e) (ys.flatMap T.enc) (off+xs.length*T.sz) 0 (pre++xs.flatMap T.enc++post) w (by
   intro v hv;obtain⟨x',_c,_n⟩:=tE.1 hv
   exact hone x' _c v _n) (by simp only[length_append,P',V'];omega) (_i _ _ _l).1
  have hr:(execOp (aX ρ) ⟨some d,.call { callee:=.builtin .append,args:=#[x,y],argTypes:=#[t,t] },ty,pos,af,none⟩).run P w=.ok (.value (.slice (some ⟨b,off,none⟩) (xs.length+ys.length) cap)) (eO w b (.cells ((pre++xs.flatMap T.enc++post).take (off+xs.length*T.sz+0)++ys.flatMap T.enc++(pre++xs.flatMap T.enc++post).drop (off+xs.length*T.sz+0+(ys.flatMap T.enc).length)).toArray e (0,0))):=by
   simp only[execOp,resolve,invoke,builtin,Builtin.append_,hx,hy,C,eP,fZ,eH,DR,l8,tD,run_underlying S.gJ,S.size,Builtin.lenOf];simp[c,J',zV,run_underlying S.gJ,Builtin.lenOf,S.size];rw[_m];simp
  rw[hr];have _n:(pre++xs.flatMap T.enc++post).take (off+xs.length*T.sz+0)=pre++xs.flatMap T.enc:=by
   rw[yp (by simp only[length_append,P'];omega)];exact gH (by simp only[length_append,P'];omega)
  have _o:(pre++xs.flatMap T.enc++post).drop (off+xs.length*T.sz+0+(ys.flatMap T.enc).length)=post.drop (ys.length*T.sz):=by
   rw[yG,pS (by simp only[length_append,P',V'];omega)];simp only[kL,length_append,P',V'];congr 1;omega
  rw[_n,_o];refine h _ _ (Z.ir i hi (Z.put (Y.bQ i hi) fun h1 _y hA=>?_));rcases hA with ⟨hA,_⟩;rcases hA with ⟨hc,_⟩|⟨b1,_z,n1,_A,_B,_p,_q,_r,_s,_C,_t,_c,_u⟩
  ·cases hc
  cases _q;refine⟨⟨_,_u⟩,.inr ⟨b,off,xs.length+ys.length,cap,pre,post.drop (ys.length*T.sz),rfl,_b,by rw[T.len,length_append],J',hl,?_,?_⟩,by simp[eo]⟩
  ·simp only[yD]
   have:(cap-(xs.length+ys.length))*T.sz=(cap-xs.length)*T.sz-ys.length*T.sz:=by rw[<-DS];congr 1;omega
   omega
  simp[mO]
 rw[H' _ cap rfl U];exact h _ _ (R' cap U)
end
def RS.one {α:Type}{T:Ty α}{w:World}{s:Value}{xs:List α}(h:RS T w s xs):s.oneCell'=true:=by
 obtain⟨a,cap,rfl⟩:=h.shape;rfl
class kq {α:Type}(T:Ty α):Prop where
 ok:∀ (x:α) (v:Value),v∈T.enc x->v.oneCell'=true
instance:kq W:=⟨fun _ v hv=>by rw[dp.1 hv];rfl⟩
instance:kq ah:=⟨fun _ v hv=>by rw[dp.1 hv];rfl⟩
theorem uO.A9 {Δ Γ:List HP}{put:HP->List HP}(h:uO Γ A put):uO (Δ++Γ) A (fun A'=>Δ++put A'):=by
 obtain⟨i,hi,c⟩:=h.ok;refine⟨Δ.length+i,by rw[kn U];simpa using hi,fun A' => ?_⟩;rw[c,yE _ _ U];simp
instance IL {Δ:List HP}{p:Addr}{t:TypeId}{cells:List Value}{Γ:List HP}{put:HP->List HP} [h:gN Γ p t cells put]:gN (Δ++Γ) p t cells (fun A'=>Δ++put A'):=⟨h.mJ.A9⟩
instance IM {Δ:List HP}{α:Type}{T:Ty α}{s:Value}{e:TypeId}{xs:List α}{Γ:List HP}{put:HP->List HP} [h:gO Γ s α T e xs put]:gO (Δ++Γ) s α T e xs (fun A'=>Δ++put A'):=⟨h.mJ.A9⟩
def aj {α:Type}(T:Ty α)(e:TypeId)(ss:List Value)(L:List (List α)):HP:=fun h=>ss.length=L.length/\cm (zipWith (X T e) ss L) h
def cm.A9 {Γ:List HP}:∀ (Δ:List HP) {h1 h2 h:PH},ru h1 h2->qf h1 h->qf h2 h->cm Δ h1->cm Γ h2->cm (Δ++Γ) h:=by
 intro Δ
 induction Δ with
 | nil=>intro h1 h2 h _ _ s2 _ I;exact I.sub s2
 | cons A Δ S =>
  intro h1 h2 h d s1 s2 V I;obtain⟨g1,g2,dg,t1,t2,ha,hr⟩:=V;refine⟨g1,pU g2 h2,fun b=>?_,t1.trans s1,fun b o c=>?_,ha,S (h1:=g2) (h2:=h2) (d.symm.sub t2).symm (fun b o c=>by simp[pU,c]) (fun b o c=>?_) hr I⟩
  ·cases q:g1 b with
   | none=>exact .inl rfl
   | some o =>
    right;have:g2 b=none:=(dg b).resolve_left (by rw[q];simp);have C:h2 b=none:=(d b).resolve_left (by rw[t1 b o q];simp);simp[pU,this,C]
  ·simp only[pU]at c
   split at c
   ·rename_i C q;cases c;exact s1 b _ (t2 b _ q)
   exact s2 b o c
  simp only[pU];have:g2 b=none:=by
   rcases d b with h|h
   ·cases q:g2 b with
    | none=>rfl
    | some C=>rw[t2 b C q]at h;cases h
   rw[c]at h;cases h
  rw[this];exact c
def cm.split {Γ:List HP}:∀ (Δ:List HP) {h:PH},cm (Δ++Γ) h->∃ h1 h2,ru h1 h2/\qf h1 h/\qf h2 h/\cm Δ h1/\cm Γ h2:=by
 intro Δ
 induction Δ with
 | nil=>intro h C;exact⟨fun _=>none,h,fun _=>.inl rfl,fun _ _ c=>(by simp at c),qf.refl _,az,C⟩
 | cons A Δ ih =>
  intro h C;obtain⟨g1,g2,dg,t1,t2,ha,hr⟩:=C;obtain⟨V,k2,dk,S,u2,hd,I⟩:=ih hr;refine⟨pU g1 V,k2,fun b=>?_,fun b o c=>?_,u2.trans t2,⟨g1,V,dg.sub S,fun b o c=>by simp[pU,c],fun b o c=>?_,ha,hd⟩,I⟩
  ·rcases dk b with h|h
   ·rcases dg b with q|q
    ·left;simp[pU,q,h]
    right;cases hk:k2 b with
    | none=>rfl
    | some o=>rw[u2 b o hk]at q;cases q
   exact .inr h
  ·simp only[pU]at c
   split at c
   ·rename_i o' q;cases c;exact t1 b _ q
   exact t2 b o (S b o c)
  simp only[pU];rcases dg b with h|h
  ·rw[h];exact c
  rw[S b o c]at h;cases h
variable {w w0:World}{Γ:List HP}{α:Type}{T:Ty α}{e:TypeId}{ss:List Value}{L:List (List α)}
def Z.vO (h:Z w0 w (aj T e ss L::Γ)):ss.length=L.length/\Z w0 w (zipWith (X T e) ss L++Γ):=by
 obtain⟨h1,C,d,s1,s2,⟨c,q⟩,I⟩:=h.jL;exact⟨c,h.below,cm.A9 _ d s1 s2 q I⟩
def Z.pK (c:ss.length=L.length)(h:Z w0 w (zipWith (X T e) ss L++Γ)):Z w0 w (aj T e ss L::Γ):=by
 obtain⟨h1,q,d,s1,s2,C,I⟩:=h.jL.split;exact⟨h.below,h1,q,d,s1,s2,⟨c,C⟩,I⟩
def Z.qK (h:Z w0 w Γ):Z w0 w (aj T e [] []::Γ):=Z.pK rfl h
def Z.gV (hi:i<L.length)(h:Z w0 w (aj T e ss L::Γ)):Z w0 w (X T e (cG ss i) (L.getD i [])::((zipWith (X T e) ss L).eraseIdx i++Γ)):=by
 obtain⟨c,h⟩:=h.vO
 have:=h.bQ i (A:=X T e (cG ss i) (L.getD i [])) (by
  rw[iX (by simp;omega)]
  simp[l9,Ac,List.getD,kN (show i<ss.length by omega),kN hi])
 rwa[Py (by simp;omega)]at this
def Z.o9 {c:List α}(hi:i<L.length)(C:ss.length=L.length)(h:Z w0 w (X T e s' c::((zipWith (X T e) ss L).eraseIdx i++Γ))):Z w0 w (aj T e (ss.set i s') (L.set i c)::Γ):=by
 refine Z.pK (by simp[C]) ?_;have h1:i<(zipWith (X T e) ss L++Γ).length:=by simp;omega
 rw[<-Py (by simp;omega)]at h;have q:=Z.ir i (kN h1) h;rw[Ku _ _ (by simp;omega)]at q;have:zipWith (X T e) (ss.set i s') (L.set i c)=(zipWith (X T e) ss L).set i (X T e s' c):=by
  apply z8;intro k;by_cases hk:i=k
  ·subst hk
   rw[Ac,CG U,CG U,CG (by simp;omega)]
  rw[Ac,tn hk,tn hk,tn hk,Ac]
 rw[this];exact q
def Z.only (h:Z w0 w (A::Γ)):Z w0 w [A]:=h.mH fun _ _=>trivial
def Z.comm {Δ:List HP}(h:Z w0 w (Δ++Γ)):Z w0 w (Γ++Δ):=by
 obtain⟨h1,q,d,s1,s2,c,I⟩:=h.jL.split;exact⟨h.below,cm.A9 _ d.symm s2 s1 I c⟩
def Z.cb (h:Z w0 w (aj T e ss L::Γ)):ss.length=L.length:=h.vO.1
def Z.row (hi:i<L.length)(h:Z w0 w (aj T e ss L::Γ)):RS T w (cG ss i) (L.getD i []):=(h.gV hi).rs 0 rfl
def Z.j1 {c:List α}(h:Z w0 w (X T e s' c::aj T e ss L::Γ)):Z w0 w (aj T e (ss++[s']) (L++[c])::Γ):=by
 obtain⟨q,h1⟩:=(Z.swap h).vO;refine Z.pK (by simp[q]) ?_;rw[zipWith_append q]
 simpa using h1
def Z.gI (h:Z w0 w Γ):∀ n,Z w0 w (aj T e (replicate n (nS)) (replicate n [])::Γ)
 | 0=>h.qK
 | n+1=>by
  rw[GW,GW];exact(Z.nil (T:=T) (e:=e) (Z.gI h n)).j1
end
def Yi {ss:List Value}(h:i<ss.length):ss.set i (cG ss i)=ss:=by
 apply iB sm;intro k h1 c;rw[si];split
 ·rename_i e;subst e;simp[l9,List.getD,h]
 rfl
def Z.rL {w0 w:World}{Γ:List HP}{α:Type}{T:Ty α}{e:TypeId}{ss:List Value}{L:List (List α)}{c:List α}(hi:i<L.length)(h:Z w0 w (X T e s' c::aj T e ss L::Γ)):Z w0 w (aj T e (ss.set i s') (L.set i c)::Γ):=by
 have C:=h.swap.cb;have h1:=(h.swap.gV hi).tail;have q:=h1.bQ ((zipWith (X T e) ss L).eraseIdx i).length (A:=X T e s' c) (by rw[kn (cD _)];simp);refine Z.o9 hi C ?_;rw[eraseIdx_append_of_length_le (cD _)]at q
 simpa using q
def Z.mF {w0 w:World}{Γ:List HP}{α:Type}{T:Ty α}{e:TypeId}{ss:List Value}{L:List (List α)}{c:List α}(hi:i<L.length)(q:ss.length=L.length)(h:Z w0 w (X T e (cG ss i) c::((zipWith (X T e) ss L).eraseIdx i++Γ))):Z w0 w (aj T e ss (L.set i c)::Γ):=by
 have:=Z.o9 hi q h
 rwa[Yi U]at this
attribute [irreducible] ssub
end
section
def AK (P:Program)(t:Nat)(name:String)(f:Nat)(ptr:Bool)(elem:Nat):Bool :=
 (match P.underlying t with|some (.pointer e)=>e == elem|_=>false) &&
 match P.info? t with
 | some i=>(match i.methods.find? (·.name == name) with
   | some m=>m.path.isEmpty && (match m.func with|some (g,q)=>g == f && q == ptr|none=>false)
   | none=>false)
 | none=>false
class fG (P:Program) (t:Nat) (name:String) (f:outParam Nat) (ptr:outParam Bool) (elem:outParam Nat):Prop where
 ok:AK P t name f ptr elem=true
section
variable {P:Program}
def fG.fp {t elem:Nat}{name:String}{ptr:Bool}(h:fG P t name f ptr elem):P.underlying t=some (.pointer elem)/\∃ i m,P.info? t=some i/\i.methods.find? (·.name == name)=some m/\m.path.toList=[]/\m.path.isEmpty=true/\m.func=some (f,ptr):=by
 have h:=h.ok;simp only[AK,Bool.and_eq_true]at h;obtain⟨h1,c⟩:=h;refine⟨?_,?_⟩
 ·split at h1
  ·rename_i e he;rw[he];simp at h1;rw[h1]
  cases h1
 split at c
 ·rename_i i hi
  split at c
  ·rename_i m hm
   simp only[Bool.and_eq_true]at c;obtain⟨S,C⟩:=c;split at C
   ·rename_i g q I
    simp at C;refine⟨i,m,hi,hm,?_,S,by rw[I,C.1,C.2]⟩
    simpa using S
   cases C
  cases c
 cases c
def QI {t elem:Nat}{name:String}(M':fG P t name f true elem)(fuel:Nat)(p:Addr)(w:World):(method (fuel+1) t (.pointer (some p)) name).run P w=.ok (f,.pointer (some p)) w:=by
 obtain⟨hu,i,m,hi,hm,c,he,q⟩:=M'.fp;simp only[method,eP,run_typeInfo w hi,eH,hm,c,follow,fZ,q,receiverAt,run_underlying hu,Place.get]
def Yj {t elem:Nat}{name:String}(M':fG P t name f false elem)[C:cj P elem](fuel:Nat){v:Value}{w:World}(hv:w.cell? p=some v):(method (fuel+1) t (.pointer (some p)) name).run P w=.ok (f,v) w:=by
 obtain⟨hu,i,m,hi,hm,c,he,q⟩:=M'.fp;have S:∀ (a b:String),Builtin.ssaWrapNilChk_ #[t] t #[.pointer (some p),strVal a,strVal b]=pure (.pointer (some p)):=fun _ _=>rfl;have V:(loadVar elem p).run P w=.ok v w:=by
  simp only[loadVar,eP,C.plain.1,eH,CC,if_false];simp[hv]
 simp only[method,eP,run_typeInfo w hi,eH,hm,c,follow,fZ,q,receiverAt,run_underlying hu,Place.get,he,if_true,S,asAddr,V]
variable {M:Array Oper}{K:Fr->World->Prop}{r:List Oper}{ρ:Fr}{w w0:World}{Γ:List HP}{d:Option Nat}{ty:TypeId}{pos:String}{af:Array Edge}{x:Operand}
def Hq (P:Program):∃ m,P.types.size+Made.depth=m+1:=⟨P.types.size+(Made.depth-1),by rw[Aa];congr 1⟩
def FW {t elem:Nat}{name:String}{xs:List Operand}[M':fG P t name f true elem][C:ao P f](c:aX ρ x=.iface t (.pointer (some p)))(hx:xs.map (aX ρ)=vs)(q:Calls P f (.pointer (some p)::vs).toArray w R)(h:∀ e w',R e w'->∃ v,e=.returned v/\opsW P M K r (iq ρ d v) w'):opsW P M K (⟨d,.call { callee:=.invoke x name,args:=xs.toArray,argTypes:=ts },ty,pos,af,none⟩::r) ρ w:=by
 refine kX rfl ?_;obtain⟨m,hm⟩:=Hq P;have c:(execOp (aX ρ) ⟨d,.call { callee:=.invoke x name,args:=xs.toArray,argTypes:=ts },ty,pos,af,none⟩).run P w=.ok (.enter f (.pointer (some p)::vs).toArray) w:=by
  have e:(#[aX ρ x]++Array.map (aX ρ) xs.toArray)=(.iface t (.pointer (some p))::vs).toArray:=by simp[c,hx]
  simp only[execOp,resolve,eP,fZ,eH,invoke,e];simp only[CL,DZ,callMethod,eP,run_program,eH,hm,QI M',C.run];congr 2;simp
 simp only[opW,c,cu];refine uJ q fun e w' S=>?_;obtain⟨v,rfl,hk⟩:=h e w' S;exact hk
def nY {t elem:Nat}{name:String}{xs:List Operand}[M':fG P t name f false elem][C:ao P f][E_:cj P elem](c:aX ρ x=.iface t (.pointer (some p)))(hx:xs.map (aX ρ)=vs)(hu:w.cell? p=some u)(q:Calls P f (u::vs).toArray w R)(h:∀ e w',R e w'->∃ v,e=.returned v/\opsW P M K r (iq ρ d v) w'):opsW P M K (⟨d,.call { callee:=.invoke x name,args:=xs.toArray,argTypes:=ts },ty,pos,af,none⟩::r) ρ w:=by
 refine kX rfl ?_;obtain⟨m,hm⟩:=Hq P;have c:(execOp (aX ρ) ⟨d,.call { callee:=.invoke x name,args:=xs.toArray,argTypes:=ts },ty,pos,af,none⟩).run P w=.ok (.enter f (u::vs).toArray) w:=by
  have e:(#[aX ρ x]++Array.map (aX ρ) xs.toArray)=(.iface t (.pointer (some p))::vs).toArray:=by simp[c,hx]
  simp only[execOp,resolve,eP,fZ,eH,invoke,e];simp only[CL,DZ,callMethod,eP,run_program,eH,hm,Yj M' m hu,C.run];congr 2;simp
 simp only[opW,c,cu];refine uJ q fun e w' S=>?_;obtain⟨v,rfl,hk⟩:=h e w' S;exact hk
def Z.ik {cells:List Value}{v:Value}{put:HP->List HP}(Y:Z w0 w Γ)(B:gN Γ p bt cells put)(hv:cells[0]? = some v):w.cell? p=some v:=by
 obtain⟨i,hi,_⟩:=B.mJ.ok;exact Cu Y hi hv
def A8 {α:Type}(T:Ty α){t e:Nat}{d:Nat}[S:bm P t e sz by_](Y:Z w0 w Γ)(h:∀ s w',Z w0 w' (X T e s []::Γ)->opsW P M K r (eZ ρ d s) w'):opsW P M K (⟨some d,.buildSlice t 0 #[],ty,pos,af,none⟩::r) ρ w:=by
 refine kX rfl ?_;simp only[opW,execOp,Instr.buildSlice,eP,run_underlying S.gJ,eH,S.size,fZ,GJ,dr,if_false,if_true,gt_iff_lt,DR,tD,Instr.fill];simp only[eP,newRow,run_newObj,eH,fZ,cu];exact h _ _ (Ah (e:=e) (xs:=([]:List α)) sm rfl (by unfold bU;omega) rfl Y)
@[irreducible] def au {α:Type}(T:Ty α)(xs:List α)(i:Nat):α:=xs.getD i T.dflt
def nt {α:Type}(T:Ty α)(xs:List α)(i:Nat):au T xs i=xs.getD i T.dflt:=by unfold au;rfl
class nA {α:Type}(T:Ty α):Prop where
 ok:True
def Ec {α:Type}{T:Ty α}{s:Value}{xs:List α}{ty:TypeId}{pos:String}{af:Array Edge}{g:Option (Nat × Bool)}{dst:Option Nat}{t:TypeId}[A:fa P t n](hx:aX ρ x=.pointer (some (gS T s i)))(h:RS T w s xs)(hi:i<xs.length)(c:n=T.sz)(q:nA T):ReadV P ⟨dst,.load t x,ty,pos,af,g⟩ ρ w (.agg (T.enc (au T xs i)).toArray):=by
 rw[nt];exact CP hx h hi c
def Ed {α:Type}{T:Ty α}{k:Nat}{v:Value}{s:Value}{xs:List α}{ty:TypeId}{pos:String}{af:Array Edge}{g:Option (Nat × Bool)}{dst:Option Nat}{t:TypeId}[C:cj P t](hx:aX ρ x=.pointer (some ((gS T s i).add k)))(h:RS T w s xs)(hi:i<xs.length)(hk:k<T.sz)(c:nA T)(hv:(T.enc (au T xs i))[k]? = some v):ReadV P ⟨dst,.load t x,ty,pos,af,g⟩ ρ w v:=by
 rw[nt]at hv;exact CO hx h hi hk hv
def RS.et {α:Type}{T:Ty α}{w:World}{s:Value}{xs:List α}(h:RS T w s xs):s.cells.toList=[s]:=by
 obtain⟨a,cap,rfl⟩:=h.shape;rfl
class uc (P:Program) (t:Nat):Prop where
 ok:(match P.underlying t with|some .string=>true|_=>false)=true
def uc.gJ {t:Nat}(h:uc P t):P.underlying t=some .string:=by
 have h:=h.ok;split at h
 ·rename_i he;exact he
 cases h
@[irreducible] def yL (b:ByteArray)(i:Nat):Int:=(((b[i]?).getD 0).toNat:Int)
def Yk (b:ByteArray)(i:Nat):yL b i=(((b[i]?).getD 0).toNat:Int):=by unfold yL;rfl
def QJ {t:TypeId}{ty:TypeId}{pos:String}{af:Array Edge}{g:Option (Nat × Bool)}{dst:Option Nat}{b:ByteArray}[S:uc P t](hx:aX ρ x=.string b):PureV P ⟨dst,.call { callee:=.builtin .len,args:=#[x],argTypes:=#[t] },ty,pos,af,g⟩ ρ (E b.size):=fun w=>by
 simp[execOp,resolve,invoke,builtin,Builtin.len_,hx,run_underlying S.gJ,goInt]
def QK {t:TypeId}{ty:TypeId}{pos:String}{af:Array Edge}{g:Option (Nat × Bool)}{dst:Option Nat}{y:Operand}{b:ByteArray}{j:Nat}[S:uc P t](hx:aX ρ x=.string b)(c:aX ρ y=E j)(q:j<b.size):PureV P ⟨dst,.index t x y,ty,pos,af,g⟩ ρ (.int .u8 (yL b j)):=fun w=>by
 have I:b[j]? = some b[j]:=by simp[q]
 simp[execOp,Instr.index,hx,c,asIntOf,run_underlying S.gJ,Yk,I]
variable {dst:Option Nat}{t t':TypeId}{g:Option (Nat × Bool)}{y:Operand}{a b:Int}
def Yl (c:0<b)(q : -9223372036854775807<=a)(h1:a<=9223372036854775807) : -9223372036854775808<=a.tdiv b/\a.tdiv b<=9223372036854775807:=by
 have h:=Int.natAbs_tdiv_le_natAbs a b;omega
def QL (hx:aX ρ x=E a)(q:aX ρ y=E b)(C:0<b)(S : -9223372036854775807<=a)(h1:a<=9223372036854775807):PureV P ⟨dst,.binOp .quo t x y t',ty,pos,af,g⟩ ρ (E (a.tdiv b)):=fun w=>by
 have c:b≠0:=U;have:=Yl C S h1;simp[execOp,eqGuard,binOp,Op.intDiv,hx,q,c,yJ this.1 this.2]
def QM (hx:aX ρ x=E a)(q:aX ρ y=E b)(C:0<b):PureV P ⟨dst,.binOp .rem t x y t',ty,pos,af,g⟩ ρ (E (a.tmod b)):=fun w=>by
 have c:b≠0:=U;simp[execOp,eqGuard,binOp,Op.intDiv,hx,q,c]
end
section
variable {w0 w:World}{Γ Δ:List HP}
def ud (Δ:List HP):HP:=cm Δ
def Z.EZ (h:Z w0 w (Δ++Γ)):Z w0 w (ud Δ::Γ):=by
 obtain⟨h1,c,d,s1,s2,a,g⟩:=cm.split Δ h.jL;exact⟨h.below,h1,c,d,s1,s2,a,g⟩
def Z.xE (h:Z w0 w (ud Δ::Γ)):Z w0 w (Δ++Γ):=by
 obtain⟨h1,c,d,s1,s2,a,g⟩:=h.jL;exact⟨h.below,cm.A9 Δ d s1 s2 a g⟩
class s5 (Γ:List HP) (A:HP) (Γ':outParam (List HP)):Prop where
 ok:∃ i,Γ[i]? = some A/\Γ'=Γ.eraseIdx i
instance (priority:=high) pick_here {A:HP}{Γ:List HP}:s5 (A::Γ) A Γ:=⟨0,rfl,rfl⟩
instance Cb {A B:HP}{Γ c:List HP} [h:s5 Γ A c]:s5 (B::Γ) A (B::c):=by
 obtain⟨i,h1,q⟩:=h.ok;exact⟨i+1,by simpa using h1,by simp[q]⟩
class zk (Γ Δ:List HP):Prop where
 ok:∀ h,cm Γ h->cm Δ h
instance IN {Γ:List HP}:zk Γ []:=⟨fun _ _=>trivial⟩
instance FF {A:HP}{Γ c Δ:List HP} [p:s5 Γ A c] [s:zk c Δ]:zk Γ (A::Δ):=⟨fun h q=>by
 obtain⟨i,h1,C⟩:=p.ok;obtain⟨g1,g2,d,s1,s2,a,g⟩:=q.bQ i h1;rw[<-C]at g
 exact⟨g1,g2,d,s1,s2,a,s.ok g2 g⟩⟩
def Z.aY [s:zk Γ Δ](h:Z w0 w Γ):Z w0 w Δ:=⟨h.below,s.ok _ h.jL⟩
def aZ (φ:World->Prop):HP:=fun h=>∀ w:World,(∀ b o,h b=some o->w.heap[b]? = some o)->φ w
def Z.rd (c:∀ w0 w,Z w0 w Δ->φ w)(h:Z w0 w (Δ++Γ)):Z w0 w (aZ φ::Γ):=by
 obtain⟨h1,C,d,s1,s2,a,g⟩:=cm.split Δ h.jL;refine⟨h.below,h1,C,d,s1,s2,fun w' q=>c { w' with heap:=#[] } w' ⟨⟨rfl,rfl,rfl,bu _,fun k hk=>absurd hk (dr _)⟩,a.sub fun b o S=>?_⟩,g⟩;simp only[eR];rw[aC sm];exact q b o S
def Z.ct (h:Z w0 w Γ)(i:Nat)(hi:Γ[i]? = some (aZ φ)):φ w:=by
 obtain⟨h1,c,a⟩:=h.at i hi;exact a w fun b o q=>(c b o q).1
def Z.Bh {c χ:World->Prop}(q:∀ w,φ w->c w->χ w)(h:Z w0 w (aZ φ::aZ c::Γ)):Z w0 w (aZ χ::Γ) :=
 Z.rd (Δ:=[aZ φ,aZ c]) (fun _ w Y=>q w (Y.ct 0 rfl) (Y.ct 1 rfl)) h
def Z.pR (c:∀ w,φ w)(h:Z w0 w Γ):Z w0 w (aZ φ::Γ):=Z.rd (Δ:=[]) (fun _ w _=>c w) h
def dL (w:World)(p:Addr)(cells:List Value):Prop:=∀ j v,cells[j]? = some v->w.cell? (p.add j)=some v
def Gh {v:Value}(h:w0.cell? p=some v)(Y:Z w0 w Γ):w.cell? p=some v:=by
 have c:p.block<w0.heap.size:=by
  rcases nu p.block w0.heap.size with q|q
  ·exact q
  simp[World.cell?,tH q]at h
 rw[Y.below.cell c];exact h
def dL.at {cells:List Value}(h:dL w0 p cells)(Y:Z w0 w Γ):dL w p cells:=fun j v hv=>Gh (h j v hv) Y
def Z.gn {t:TypeId}{cells:List Value}(Y:Z w0 w Γ)(i:Nat)(hi:Γ[i]? = some (ak p t cells)):dL w p cells:=fun _ _ hv=>lK Y hi hv
def pB {t:TypeId}{cells:List Value}{put:HP->List HP}[B:gN Γ p t cells put](Y:Z w0 w Γ):dL w p cells:=by
 obtain⟨i,hi,_⟩:=B.mJ.ok;exact Y.gn i hi
def QN (p:Addr)(a b:Nat):(p.add a).add b=p.add (a+b):=by
 unfold Addr.add;by_cases c:a=0
 ·subst c;simp
 by_cases q:b=0
 ·subst q;simp
 simp[c,q,Aa]
variable {P:Program}{ρ:Fr}{ty:TypeId}{pos:String}{af:Array Edge}{g:Option (Nat × Bool)}{dst:Option Nat}{x y:Operand}{t t':TypeId}
def Ee {k:Nat}{cells:List Value}{v:Value}[C:cj P t](hx:aX ρ x=.pointer (some (p.add k)))(h:dL w p cells)(hv:cells[k]? = some v):ReadV P ⟨dst,.load t x,ty,pos,af,g⟩ ρ w v:=wD hx (h _ _ hv)
def Ef {cells:List Value}{v:Value}[C:cj P t](hx:aX ρ x=.pointer (some p))(h:dL w p cells)(hv:cells[0]? = some v):ReadV P ⟨dst,.load t x,ty,pos,af,g⟩ ρ w v :=
 wD hx (by have:=h _ _ hv;simpa [Addr.add] using this)
def Eg {cells:List Value}[A:fa P t n](hx:aX ρ x=.pointer (some p))(h:dL w p cells)(c:cells.length=n):ReadV P ⟨dst,.load t x,ty,pos,af,g⟩ ρ w (.agg cells.toArray) :=
 Hb hx c h
def ym {k:Nat}{cells:List Value}[A:fa P t n](hx:aX ρ x=.pointer (some (p.add k)))(h:dL w p cells)(q:vs.length=n)(hv:vs=(cells.drop k).take n):ReadV P ⟨dst,.load t x,ty,pos,af,g⟩ ρ w (.agg vs.toArray) :=
 Hb hx q fun j v c=>by
  rw[QN];refine h _ _ ?_;rw[hv,wG,Kg]at c;split at c
  ·exact c
  cases c
def QO {off a:Nat}[T:aO P t f off ft](hx:aX ρ x=.pointer (some (p.add a))):PureV P ⟨dst,.fieldAddr t x f,ty,pos,af,g⟩ ρ (.pointer (some (p.add (a+off)))):=by
 have:=KN (P:=P) (t:=t) (f:=f) (ρ:=ρ) (dst:=dst) (ty:=ty) (pos:=pos) (af:=af) (g:=g) hx
 rwa[QN]at this
class mZ (P:Program) (t:Nat):Prop where
 ok:(match P.underlying t with|some (.pointer _)=>true|_=>false)=true
def mZ.gJ (h:mZ P t):P.underlying t=some (.pointer (P.pointee t)):=by
 have h:=h.ok;split at h
 ·rename_i e he;rw[he];simp[Program.pointee,he]
 cases h
def QP {a:Option Addr}[T:mZ P t](hx:aX ρ x=.pointer a):PureV P ⟨dst,.binOp .eql t x (.const (.pointer none)) t',ty,pos,af,g⟩ ρ (.bool a.isNone):=fun w=>by
 have h1:=run_eql_pointer_nil w t a T.gJ;simp only[execOp,eqGuard,hx];cases x<;>simp[aX,h1]
def QQ {a:Option Addr}[T:mZ P t](hx:aX ρ x=.pointer a):PureV P ⟨dst,.binOp .neq t x (.const (.pointer none)) t',ty,pos,af,g⟩ ρ (.bool (!a.isNone)):=fun w=>by
 have h1:=run_neq_pointer_nil w t a T.gJ;simp only[execOp,eqGuard,hx];cases x<;>simp[aX,h1]
def wU (places:List (Nat × Nat))(cs:List Value):List (Nat × List Value)->List Value
 | []=>cs
 | (i,l)::r=>wU places (match places[i]? with|some (off,size)=>cs.take off++l++cs.drop (off+size)|none=>cs) r
def zl (places:List (Nat × Nat))(n:Nat):List (Nat × List Value)->Bool
 | []=>true
 | (i,l)::r=>(match places[i]? with|some (off,size)=>l.length == size && ble (off+size) n|none=>false) && zl places n r
def QR {places:List (Nat × Nat)}{n:Nat}:∀ (vs:List (Nat × Value)) (cs:List Value),cs.length=n->zl places n (vs.map fun p=>(p.1,p.2.cells.toList))=true ->
  Instr.fill (places[·]?) cs.toArray vs=some (wU places cs (vs.map fun p=>(p.1,p.2.cells.toList))).toArray
 | [],cs,_,_=>by simp[Instr.fill,wU]
 | (i,v)::vs,cs,hc,S=>by
  simp only[l8,zl,Bool.and_eq_true]at S;obtain⟨h1,V⟩:=S
  cases c:places[i]? with
  | none=>simp[c]at h1
  | some q =>
   obtain⟨off,size⟩:=q;simp only[c,Bool.and_eq_true,tI,ble_eq]at h1;obtain⟨C,h4⟩:=h1;rw[KU c (by simpa using C) U,QR vs _ (by simp at C;simp[C];omega) V];simp only[l8,wU,c]
variable {M:Array Oper}{K:Fr->World->Prop}{r:List Oper}{d:Nat}
def rW {parts:List (Nat × Operand)}{vs:List (Nat × Value)}{ls:List (Nat × List Value)}{places:List (Nat × Nat)}[S:bF P t places][Z':bo P t zs](c:(parts.map fun p=>(p.1,aX ρ p.2))=vs)(q:(vs.map fun p=>(p.1,p.2.cells.toList))=ls)(C:zl places zs.length ls=true)(h:opsW P M K r (eZ ρ d (.agg (wU places zs ls).toArray)) w):opsW P M K (⟨some d,.build t parts.toArray,ty,pos,af,none⟩::r) ρ w:=by
 subst q;exact QB c (QR vs zs rfl C) h
def Bx {v:Value}(h:v.oneCell'=true):v.cells.toList=[v]:=by
 cases v<;>first|rfl|(simp[Value.oneCell']at h)
def yo (hx:aX ρ x=.agg vs.toArray)(Y:Z w0 w Γ)(h:∀ p w',Z w0 w' (ak p t vs::Γ)->opsW P M K r (eZ ρ d (.pointer (some p))) w'):opsW P M K (⟨some d,.box t x,ty,pos,af,none⟩::r) ρ w :=
 Ql hx Y fun p w' c=>h p w' (by simpa [Value.cells] using c)
end
section
variable {P:Program}{M:Array Oper}{K:Fr->World->Prop}{r:List Oper}{ρ:Fr}{w w0:World}{d:Nat}{ty:TypeId}{pos:String}{af:Array Edge}{dst:Option Nat}{x y:Operand}{t:TypeId}{Γ:List HP}{op:Op}{v:Value}
def Bg (h:opsW P M K r (eZ ρ d v) w)
  (c:dS P op=.pure:=by exact rfl)
  (hv:PureV P ⟨some d,op,ty,pos,af,none⟩ ρ v:=by
   first
    | (apply PU;(conv=>lhs;whnf))
    | (apply KM;(conv=>lhs;whnf))
    | ((first|apply PX|apply P0|apply PZ|apply PY)<;>exact rfl)
    | (apply P3<;>exact rfl)
    | (apply P4<;>exact rfl)
    | ((first|apply P5|apply P6);exact rfl;exact rfl;omega;omega)
    | (apply P7;exact rfl;exact rfl;(first|omega|assumption);(first|omega|assumption))
    | (apply QL;exact rfl;exact rfl;omega;omega;omega)
    | (apply QM;exact rfl;exact rfl;omega)
    | (apply P8;exact rfl)
    | (apply QO;exact rfl)
    | (apply KN;exact rfl)
    | (apply Qj;(conv=>lhs;whnf);(first|exact RS.at (by assumption) Y|exact bk Y|assumption))
    | (apply QJ;exact rfl)
    | (apply QK;exact rfl;exact rfl;omega)
    | (apply Qk;(conv=>lhs;whnf);exact rfl;(first|exact RS.at (by assumption) Y|exact bk Y|assumption);exact rfl;exact fe _;omega)
    | (apply KO;(conv=>lhs;whnf);exact rfl;(first|exact RS.at (by assumption) Y|exact bk Y|assumption);exact rfl;exact fe _;omega;omega)
    | (apply Qf<;>exact rfl)
    | (apply Qe;(conv=>lhs;whnf))
    | (apply Qc;exact rfl)
    | (apply QP;exact rfl)
    | (apply QQ;exact rfl)
    | (apply Qd;exact rfl)
    | (apply Qa<;>exact rfl)
    | (apply Qb<;>exact rfl)
    | (apply AH<;>exact rfl)
    | (apply PW<;>exact rfl)
    | (apply Qh;exact rfl)
    | (apply Qi;exact rfl)
    | (apply Qv;exact rfl)
    | (apply Qw;exact rfl)
    | (apply Qt<;>exact rfl)
    | (apply Qu<;>exact rfl)
    | (apply Qx;exact rfl)
    | ((first|apply Qy|apply Qz)<;>exact rfl)
    | (apply P9;exact rfl;omega;omega)
    | (apply Qg<;>exact rfl)
    | (apply PV;exact rfl;(conv=>lhs;whnf);(conv=>lhs;whnf))
    | (apply QE;(conv=>lhs;whnf);exact rfl;(first|exact RS.at (by assumption) Y|exact bk Y|assumption);exact rfl;omega;omega)
    | (apply QF;(conv=>lhs;whnf);exact rfl;(first|exact RS.at (by assumption) Y|exact bk Y|assumption);exact rfl;omega;omega)
    | (apply QG;(conv=>lhs;whnf);exact rfl;exact rfl;(first|exact RS.at (by assumption) Y|exact bk Y|assumption);exact rfl;omega;omega;omega)
    | (apply QH;(conv=>lhs;whnf);(first|exact RS.at (by assumption) Y|exact bk Y|assumption);exact rfl)):opsW P M K (⟨some d,op,ty,pos,af,none⟩::r) ρ w:=eY c hv h
def Cq (h:opsW P M K r (eZ ρ d v) w)
  (c:dS P op=.dC:=by exact rfl)
  (hv:ReadV P ⟨some d,op,ty,pos,af,none⟩ ρ w v:=by
   first
    | (apply D7;exact rfl;exact Y;infer_instance;exact rfl)
    | (apply D8;exact rfl;exact Y;infer_instance;exact rfl)
    | (apply CQ;exact rfl;(first|exact RS.at (by assumption) Y|exact bk Y|assumption);omega)
    | (apply Ed;exact rfl;(first|exact RS.at (by assumption) Y|exact bk Y|assumption);omega;exact wF (fe _);infer_instance;exact rfl)
    | (apply Ec;exact rfl;(first|exact RS.at (by assumption) Y|exact bk Y|assumption);omega;exact rfl;infer_instance)
    | (apply CN;exact rfl;(first|exact RS.at (by assumption) Y|exact bk Y|assumption);omega;exact rfl)
    | (apply CO;exact rfl;(first|exact RS.at (by assumption) Y|exact bk Y|assumption);omega;exact wF (fe _);exact rfl)
    | (apply CP;exact rfl;(first|exact RS.at (by assumption) Y|exact bk Y|assumption);omega;exact rfl)
    | (apply D9;exact rfl;exact Y;infer_instance;exact rfl)
    | (apply Ee;exact rfl;exact dL.at (by assumption) Y;exact rfl)
    | (apply Ef;exact rfl;exact dL.at (by assumption) Y;exact rfl)
    | (apply Eg;exact rfl;exact dL.at (by assumption) Y;exact rfl)):opsW P M K (⟨some d,op,ty,pos,af,none⟩::r) ρ w:=qX c hv h
def uY {j:Nat}{want:Bool}{s:Nat}(h:opsW P M K (⟨dst,op,ty,pos,af,none⟩::r) ρ w)(c:jx M j=some s:=by exact rfl)(I:sF (ρ s) want=true:=by exact rfl):opsW P M K (⟨dst,op,ty,pos,af,some (j,want)⟩::r) ρ w:=XW c I h
def uZ {j:Nat}{want:Bool}{s:Nat}(h:opsW P M K r (iq ρ dst undef) w)(c:jx M j=some s:=by exact rfl)(I:sF (ρ s) want=false:=by exact rfl):opsW P M K (⟨dst,op,ty,pos,af,some (j,want)⟩::r) ρ w:=XX c I h
def Hr {j:Nat}{want c:Bool}{s:Nat}(h:opsW P M K r (eZ ρ d (gv c v)) w)
  (q:dS P op=.pure:=by exact rfl)(C:jx M j=some s:=by exact rfl)(I:Gd (ρ s) want c:=by first|exact KL _ _|exact xf _ _ _)
  (hv:c=true->PureV P ⟨some d,op,ty,pos,af,none⟩ ρ v:=by
   intro I;have hq:=I
   (try simp only[tI,Bool.and_eq_true,qa,gQ,qA,tt,Bm,Bn,nH,q6,Bo,zY,bne_iff_ne,ne_eq,tu,zZ,xW,Bp]at hq)
   first
    | (apply XY I<;>exact rfl)
    | (apply XZ I<;>exact rfl)
    | (apply PU;(first|exact bw I|exact bw (bB I)|(conv=>lhs;whnf)))
    | (apply KM;(first|exact bw I|exact bw (bB I)|(conv=>lhs;whnf)))
    | ((first|apply PX|apply P0|apply PZ|apply PY)<;>(first|exact rfl|exact bw I|exact bw (bB I)))
    | (apply P3<;>(first|exact rfl|exact bw I|exact bw (bB I)))
    | (apply P4<;>(first|exact rfl|exact bw I|exact bw (bB I)))
    | ((first|apply P5|apply P6);(first|exact rfl|exact bw I|exact bw (bB I));(first|exact rfl|exact bw I|exact bw (bB I));omega;omega)
    | (apply P7;(first|exact rfl|exact bw I|exact bw (bB I));(first|exact rfl|exact bw I|exact bw (bB I));(first|omega|assumption);(first|omega|assumption))
    | (apply QL;(first|exact rfl|exact bw I|exact bw (bB I));(first|exact rfl|exact bw I|exact bw (bB I));omega;omega;omega)
    | (apply QM;(first|exact rfl|exact bw I|exact bw (bB I));(first|exact rfl|exact bw I|exact bw (bB I));omega)
    | (apply P8;(first|exact rfl|exact bw I|exact bw (bB I)))
    | (apply QO;(first|exact rfl|exact bw I|exact bw (bB I)))
    | (apply KN;(first|exact rfl|exact bw I|exact bw (bB I)))
    | (apply Qj;(first|exact bw I|exact bw (bB I)|(conv=>lhs;whnf));(first|exact RS.at (by assumption) Y|exact bk Y|assumption))
    | (apply QJ;(first|exact rfl|exact bw I|exact bw (bB I)))
    | (apply QK;(first|exact rfl|exact bw I|exact bw (bB I));(first|exact rfl|exact bw I|exact bw (bB I));omega)
    | (apply Qk;(first|exact bw I|exact bw (bB I)|(conv=>lhs;whnf));(first|exact rfl|exact bw I|exact bw (bB I));(first|exact RS.at (by assumption) Y|exact bk Y|assumption);(first|exact rfl|exact bw I|exact bw (bB I));exact fe _;omega)
    | (apply KO;(first|exact bw I|exact bw (bB I)|(conv=>lhs;whnf));(first|exact rfl|exact bw I|exact bw (bB I));(first|exact RS.at (by assumption) Y|exact bk Y|assumption);(first|exact rfl|exact bw I|exact bw (bB I));exact fe _;omega;omega)
    | (apply Qf<;>(first|exact rfl|exact bw I|exact bw (bB I)))
    | (apply Qe;(first|exact bw I|exact bw (bB I)|(conv=>lhs;whnf)))
    | (apply Qc;(first|exact rfl|exact bw I|exact bw (bB I)))
    | (apply QP;(first|exact rfl|exact bw I|exact bw (bB I)))
    | (apply QQ;(first|exact rfl|exact bw I|exact bw (bB I)))
    | (apply Qd;(first|exact rfl|exact bw I|exact bw (bB I)))
    | (apply Qa<;>(first|exact rfl|exact bw I|exact bw (bB I)))
    | (apply Qb<;>(first|exact rfl|exact bw I|exact bw (bB I)))
    | (apply AH<;>(first|exact rfl|exact bw I|exact bw (bB I)))
    | (apply PW<;>(first|exact rfl|exact bw I|exact bw (bB I)))
    | (apply Qh;(first|exact rfl|exact bw I|exact bw (bB I)))
    | (apply Qi;(first|exact rfl|exact bw I|exact bw (bB I)))
    | (apply Qv;(first|exact rfl|exact bw I|exact bw (bB I)))
    | (apply Qw;(first|exact rfl|exact bw I|exact bw (bB I)))
    | (apply Qt<;>(first|exact rfl|exact bw I|exact bw (bB I)))
    | (apply Qu<;>(first|exact rfl|exact bw I|exact bw (bB I)))
    | (apply Qx;(first|exact rfl|exact bw I|exact bw (bB I)))
    | ((first|apply Qy|apply Qz)<;>(first|exact rfl|exact bw I|exact bw (bB I)))
    | (apply P9;(first|exact rfl|exact bw I|exact bw (bB I));omega;omega)
    | (apply Qg<;>(first|exact rfl|exact bw I|exact bw (bB I)))
    | (apply PV;(first|exact rfl|exact bw I|exact bw (bB I));(first|exact bw I|exact bw (bB I)|(conv=>lhs;whnf));(first|exact bw I|exact bw (bB I)|(conv=>lhs;whnf)))
    | (apply QE;(first|exact bw I|exact bw (bB I)|(conv=>lhs;whnf));(first|exact rfl|exact bw I|exact bw (bB I));(first|exact RS.at (by assumption) Y|exact bk Y|assumption);(first|exact rfl|exact bw I|exact bw (bB I));omega;omega)
    | (apply QF;(first|exact bw I|exact bw (bB I)|(conv=>lhs;whnf));(first|exact rfl|exact bw I|exact bw (bB I));(first|exact RS.at (by assumption) Y|exact bk Y|assumption);(first|exact rfl|exact bw I|exact bw (bB I));omega;omega)
    | (apply QG;(first|exact bw I|exact bw (bB I)|(conv=>lhs;whnf));(first|exact rfl|exact bw I|exact bw (bB I));(first|exact rfl|exact bw I|exact bw (bB I));(first|exact RS.at (by assumption) Y|exact bk Y|assumption);(first|exact rfl|exact bw I|exact bw (bB I));omega;omega;omega)
    | (apply QH;(first|exact bw I|exact bw (bB I)|(conv=>lhs;whnf));(first|exact RS.at (by assumption) Y|exact bk Y|assumption);(first|exact rfl|exact bw I|exact bw (bB I)))):opsW P M K (⟨some d,op,ty,pos,af,some (j,want)⟩::r) ρ w:=XU q C I hv h
def Ht {j:Nat}{want c:Bool}{s:Nat}(h:opsW P M K r (eZ ρ d (gv c v)) w)
  (q:dS P op=.dC:=by exact rfl)(C:jx M j=some s:=by exact rfl)(I:Gd (ρ s) want c:=by first|exact KL _ _|exact xf _ _ _)
  (hv:c=true->ReadV P ⟨some d,op,ty,pos,af,none⟩ ρ w v:=by
   intro I;have hq:=I
   (try simp only[tI,Bool.and_eq_true,qa,gQ,qA,tt,Bm,Bn,nH,q6,Bo,zY,bne_iff_ne,ne_eq,tu,zZ,xW,Bp]at hq)
   first
    | (apply D7;(first|exact rfl|exact bw I|exact bw (bB I));exact Y;infer_instance;(first|exact rfl|exact bw I|exact bw (bB I)))
    | (apply D8;(first|exact rfl|exact bw I|exact bw (bB I));exact Y;infer_instance;(first|exact rfl|exact bw I|exact bw (bB I)))
    | (apply CQ;(first|exact rfl|exact bw I|exact bw (bB I));(first|exact RS.at (by assumption) Y|exact bk Y|assumption);omega)
    | (apply Ed;(first|exact rfl|exact bw I|exact bw (bB I));(first|exact RS.at (by assumption) Y|exact bk Y|assumption);omega;exact wF (fe _);infer_instance;(first|exact rfl|exact bw I|exact bw (bB I)))
    | (apply Ec;(first|exact rfl|exact bw I|exact bw (bB I));(first|exact RS.at (by assumption) Y|exact bk Y|assumption);omega;(first|exact rfl|exact bw I|exact bw (bB I));infer_instance)
    | (apply CN;(first|exact rfl|exact bw I|exact bw (bB I));(first|exact RS.at (by assumption) Y|exact bk Y|assumption);omega;(first|exact rfl|exact bw I|exact bw (bB I)))
    | (apply CO;(first|exact rfl|exact bw I|exact bw (bB I));(first|exact RS.at (by assumption) Y|exact bk Y|assumption);omega;exact wF (fe _);(first|exact rfl|exact bw I|exact bw (bB I)))
    | (apply CP;(first|exact rfl|exact bw I|exact bw (bB I));(first|exact RS.at (by assumption) Y|exact bk Y|assumption);omega;(first|exact rfl|exact bw I|exact bw (bB I)))
    | (apply D9;(first|exact rfl|exact bw I|exact bw (bB I));exact Y;infer_instance;(first|exact rfl|exact bw I|exact bw (bB I)))
    | (apply Ee;(first|exact rfl|exact bw I|exact bw (bB I));exact dL.at (by assumption) Y;(first|exact rfl|exact bw I|exact bw (bB I)))
    | (apply Ef;(first|exact rfl|exact bw I|exact bw (bB I));exact dL.at (by assumption) Y;(first|exact rfl|exact bw I|exact bw (bB I)))
    | (apply Eg;(first|exact rfl|exact bw I|exact bw (bB I));exact dL.at (by assumption) Y;(first|exact rfl|exact bw I|exact bw (bB I)))):opsW P M K (⟨some d,op,ty,pos,af,some (j,want)⟩::r) ρ w:=XV q C I hv h
def zd (v:Value):gv (false == false) v=v:=bw rfl
def zf (v:Value):gv (true == true) v=v:=bw rfl
def Ym {j:Nat}{want b:Bool}{s:Nat}(h1:b=true->opsW P M K (⟨dst,op,ty,pos,af,some (j,want)⟩::r) ρ w)(q:b=false->opsW P M K (⟨dst,op,ty,pos,af,some (j,want)⟩::r) ρ w)(C:jx M j=some s:=by exact rfl)(S:ρ s=.bool b:=by exact rfl):opsW P M K (⟨dst,op,ty,pos,af,some (j,want)⟩::r) ρ w:=by
 cases c:b with
 | true=>exact h1 c
 | false=>exact q c
def Gk [Z':bo P t zs](h:∀ p w',Z w0 w' (ak p t zs::Γ)->opsW P M K r (eZ ρ d (.pointer (some p))) w')(Y:Z w0 w Γ:=by exact Y):opsW P M K (⟨some d,.alloc t,ty,pos,af,none⟩::r) ρ w:=X3 Y h
def xU (h:∀ p w',Z w0 w' (ak p t v.cells.toList::Γ)->opsW P M K r (eZ ρ d (.pointer (some p))) w')(hx:aX ρ x=v:=by (conv=>lhs;whnf))(Y:Z w0 w Γ:=by exact Y):opsW P M K (⟨some d,.box t x,ty,pos,af,none⟩::r) ρ w:=Ql hx Y h
def QS {cells:List Value}{put:HP->List HP}[A:fa P t n](h:∀ w',Z w0 w' (put (ak p bt vs))->opsW P M K r ρ w')(hx:aX ρ x=.pointer (some p):=by exact rfl)(c:aX ρ y=.agg vs.toArray:=by exact rfl)(Y:Z w0 w Γ:=by exact Y)(B:gN Γ p bt cells put:=by infer_instance)(q:vs.length=n:=by exact rfl)(C:cells.length=n:=by exact rfl)(hv:vs.all Value.oneCell'=true:=by first|exact rfl|assumption):opsW P M K (⟨none,.store t x y,ty,pos,af,none⟩::r) ρ w:=jF hx c Y B q C hv h
def QT {α:Type}{T:Ty α}{s:Value}{xs:List α}{j:Nat}{e:TypeId}{x':α}{put:HP->List HP}[C:cj P t](h:∀ w',Z w0 w' (put (X T e s (xs.set j x')))->opsW P M K r ρ w')
  (hx:aX ρ x=.pointer (some (gS T s j)):=by exact rfl)(c:aX ρ y=v:=by (conv=>lhs;whnf))(hv:v.oneCell'=true:=by first|exact rfl|exact RS.one (bk Y)|exact RS.one (by assumption))(Y:Z w0 w Γ:=by exact Y)(q:gO Γ s α T e xs put:=by infer_instance)(S:j<xs.length:=by omega)(he:T.enc x'=[v]:=by exact rfl):opsW P M K (⟨none,.store t x y,ty,pos,af,none⟩::r) ρ w:=X4 hx c hv Y q S he h
def QU {cells:List Value}{put:HP->List HP}[C:cj P t](h:∀ w',Z w0 w' (put (ak p bt (cells.set 0 v)))->opsW P M K r ρ w')(hx:aX ρ x=.pointer (some p):=by exact rfl)(c:aX ρ y=v:=by (conv=>lhs;whnf))(hv:v.oneCell'=true:=by first|exact rfl|exact RS.one (bk Y)|exact RS.one (by assumption))(Y:Z w0 w Γ:=by exact Y)(B:gN Γ p bt cells put:=by infer_instance)(hk:0<cells.length:=by exact fe _):opsW P M K (⟨none,.store t x y,ty,pos,af,none⟩::r) ρ w:=X2 hx c hv Y B hk h
def QV {k:Nat}{cells:List Value}{put:HP->List HP}[C:cj P t](h:∀ w',Z w0 w' (put (ak p bt (cells.set k v)))->opsW P M K r ρ w')(hx:aX ρ x=.pointer (some (p.add k)):=by exact rfl)(c:aX ρ y=v:=by (conv=>lhs;whnf))(hv:v.oneCell'=true:=by first|exact rfl|exact RS.one (bk Y)|exact RS.one (by assumption))(Y:Z w0 w Γ:=by exact Y)(B:gN Γ p bt cells put:=by infer_instance)(hk:k<cells.length:=by exact wF (fe _)):opsW P M K (⟨none,.store t x y,ty,pos,af,none⟩::r) ρ w:=Gl hx c hv Y B hk h
def Yn {e:Nat}{n:Int}[S:bm P t e sz by_][Z':bo P e zs](h:∀ s w',Z w0 w' (X W e s (replicate n.toNat 0)::Γ)->opsW P M K r (eZ ρ d s) w')(hx:aX ρ x=E n:=by exact rfl)(q:aX ρ y=E n:=by exact rfl)(c:sz=W.sz:=by exact rfl)(C:W.enc 0=zs:=by exact rfl)(V:0<=n:=by omega)(hb:by_*n<=281474976710656:=by omega)(hn:n<=281474976710656:=by omega)(Y:Z w0 w Γ:=by exact Y):opsW P M K (⟨some d,.makeSlice t x y,ty,pos,af,none⟩::r) ρ w:=Cm W 0 hx q c C V hb hn Y h
def Yo {e:Nat}{n:Int}[S:bm P t e sz by_][Z':bo P e zs](h:∀ s w',Z w0 w' (X ah e s (replicate n.toNat false)::Γ)->opsW P M K r (eZ ρ d s) w')(hx:aX ρ x=E n:=by exact rfl)(q:aX ρ y=E n:=by exact rfl)(c:sz=ah.sz:=by exact rfl)(C:ah.enc false=zs:=by exact rfl)(V:0<=n:=by omega)(hb:by_*n<=281474976710656:=by omega)(hn:n<=281474976710656:=by omega)(Y:Z w0 w Γ:=by exact Y):opsW P M K (⟨some d,.makeSlice t x y,ty,pos,af,none⟩::r) ρ w:=Cm ah false hx q c C V hb hn Y h
def Yp {e:Nat}{n:Int}[S:bm P t e sz by_][Z':bo P e zs](h:∀ s w',Z w0 w' (X ap e s (replicate n.toNat (nS))::Γ)->opsW P M K r (eZ ρ d s) w')(hx:aX ρ x=E n:=by exact rfl)(q:aX ρ y=E n:=by exact rfl)(c:sz=ap.sz:=by exact rfl)(C:ap.enc (nS)=zs:=by exact rfl)(V:0<=n:=by omega)(hb:by_*n<=281474976710656:=by omega)(hn:n<=281474976710656:=by omega)(Y:Z w0 w Γ:=by exact Y):opsW P M K (⟨some d,.makeSlice t x y,ty,pos,af,none⟩::r) ρ w:=Cm ap (nS) hx q c C V hb hn Y h
def Hu {i1:Nat}{places:List (Nat × Nat)}[S:bF P t places][Z':bo P t zs](h:opsW P M K r (eZ ρ d (.agg (lF zs [(i1,v1)]).toArray)) w)(h1:aX ρ x1=v1:=by (conv=>lhs;whnf))(c:mA places zs.length=true:=by exact rfl)(hv:[(i1,v1)].all (fun p=>decide (p.1<zs.length) && p.2.oneCell')=true:=by exact rfl):opsW P M K (⟨some d,.build t #[(i1,x1)],ty,pos,af,none⟩::r) ρ w:=Jv h1 c hv h
def Hv {i1 i2:Nat}{v2:Value}{places:List (Nat × Nat)}[S:bF P t places][Z':bo P t zs](h:opsW P M K r (eZ ρ d (.agg (lF zs [(i1,v1),(i2,v2)]).toArray)) w)(h1:aX ρ x1=v1:=by (conv=>lhs;whnf))(h2:aX ρ x2=v2:=by (conv=>lhs;whnf))(c:mA places zs.length=true:=by exact rfl)(hv:[(i1,v1),(i2,v2)].all (fun p=>decide (p.1<zs.length) && p.2.oneCell')=true:=by exact rfl):opsW P M K (⟨some d,.build t #[(i1,x1),(i2,x2)],ty,pos,af,none⟩::r) ρ w:=zH h1 h2 c hv h
def Hw {i1 i2 i3:Nat}{v2 v3:Value}{places:List (Nat × Nat)}[S:bF P t places][Z':bo P t zs](h:opsW P M K r (eZ ρ d (.agg (lF zs [(i1,v1),(i2,v2),(i3,v3)]).toArray)) w)(h1:aX ρ x1=v1:=by (conv=>lhs;whnf))(h2:aX ρ x2=v2:=by (conv=>lhs;whnf))(c:aX ρ x3=v3:=by (conv=>lhs;whnf))(q:mA places zs.length=true:=by exact rfl)(hv:[(i1,v1),(i2,v2),(i3,v3)].all (fun p=>decide (p.1<zs.length) && p.2.oneCell')=true:=by exact rfl):opsW P M K (⟨some d,.build t #[(i1,x1),(i2,x2),(i3,x3)],ty,pos,af,none⟩::r) ρ w:=yA h1 h2 c q hv h
def Yq {e:Nat}{n:Int}[S:bm P t e sz by_][Z':bo P e zs](h:∀ s w',Z w0 w' (X W e s [n]::Γ)->opsW P M K r (eZ ρ d s) w')(hx:aX ρ x=E n:=by exact rfl)(c:sz=W.sz:=by exact rfl)(q:sz<=16777216:=by exact fY rfl)(C:0<sz:=by exact fe _)(Y:Z w0 w Γ:=by exact Y):opsW P M K (⟨some d,.buildSlice t 1 #[(0,x)],ty,pos,af,none⟩::r) ρ w:=jK W hx rfl c q C Y h
def Yr {e:Nat}[S:bm P t e sz by_][Z':bo P e zs](h:∀ s w',Z w0 w' (X ap e s [v]::Γ)->opsW P M K r (eZ ρ d s) w')(hx:aX ρ x=v:=by (conv=>lhs;whnf))(C:v.cells.toList=[v]:=by first|exact rfl|exact RS.et (bk Y)|exact RS.et (by assumption))(c:sz=ap.sz:=by exact rfl)(q:sz<=16777216:=by exact fY rfl)(V:0<sz:=by exact fe _)(Y:Z w0 w Γ:=by exact Y):opsW P M K (⟨some d,.buildSlice t 1 #[(0,x)],ty,pos,af,none⟩::r) ρ w:=jK ap hx C c q V Y h
def OV {α:Type}{T:Ty α}{s s2:Value}{xs ys:List α}{e:Nat}{put:HP->List HP}[S:bm P t e sz by_][Z':bo P e zs](h:∀ s' w',Z w0 w' (put (X T e s' (xs++ys)))->opsW P M K r (eZ ρ d s') w')(hx:aX ρ x=s:=by (conv=>lhs;whnf))(C:aX ρ y=s2:=by (conv=>lhs;whnf))(Y:Z w0 w Γ:=by exact Y)(V:gO Γ s α T e xs put:=by infer_instance)(h2:RS T w s2 ys:=by (first|exact RS.at (by assumption) Y|exact bk Y|assumption))(c:sz=T.sz:=by exact rfl)(q:zs.length=sz:=by exact rfl)(hone:∀ x∈ys,∀ v∈T.enc x,v.oneCell'=true:=by first|exact fun x _ v hv=>kq.ok x v hv|(intro x hx v hv;rw[dp.1 hx]at hv;rw[dp.1 hv];first|exact rfl|exact RS.one (bk Y)|exact RS.one (by assumption)))(hb:(xs.length+ys.length)*by_<=140737488355328:=by first|omega|(simp only[length_append,length_cons,length_nil,nD]at *;omega))(hl:xs.length+ys.length<=bU:=by first|(unfold bU;omega)|(unfold bU;simp only[length_append,length_cons,length_nil,nD]at *;omega)) :
  opsW P M K (⟨some d,.call { callee:=.builtin .append,args:=#[x,y],argTypes:=#[t,t] },ty,pos,af,none⟩::r) ρ w:=q7 V hx C h2 c q hone hb hl Y h
def Eh (h:opsD P l.toArray K is ρ w)(c:l[i]? = some ⟨some d,op,ty,pos,af,none⟩:=by exact rfl)(hv:ReadV P ⟨some d,op,ty,pos,af,none⟩ ρ w v:=by
   first
    | (apply D7;exact rfl;exact Y;infer_instance;exact rfl)
    | (apply D8;exact rfl;exact Y;infer_instance;exact rfl)
    | (apply CQ;exact rfl;(first|exact RS.at (by assumption) Y|exact bk Y|assumption);omega)
    | (apply Ed;exact rfl;(first|exact RS.at (by assumption) Y|exact bk Y|assumption);omega;exact wF (fe _);infer_instance;exact rfl)
    | (apply Ec;exact rfl;(first|exact RS.at (by assumption) Y|exact bk Y|assumption);omega;exact rfl;infer_instance)
    | (apply CN;exact rfl;(first|exact RS.at (by assumption) Y|exact bk Y|assumption);omega;exact rfl)
    | (apply CO;exact rfl;(first|exact RS.at (by assumption) Y|exact bk Y|assumption);omega;exact wF (fe _);exact rfl)
    | (apply CP;exact rfl;(first|exact RS.at (by assumption) Y|exact bk Y|assumption);omega;exact rfl)
    | (apply D9;exact rfl;exact Y;infer_instance;exact rfl)
    | (apply Ee;exact rfl;exact dL.at (by assumption) Y;exact rfl)
    | (apply Ef;exact rfl;exact dL.at (by assumption) Y;exact rfl)
    | (apply Eg;exact rfl;exact dL.at (by assumption) Y;exact rfl))(he:ρ d=v:=by exact rfl):opsD P l.toArray K (.cI i::is) ρ w:=KR c hv he h
def Hx {j:Nat}{want c:Bool}{s:Nat}(h:opsD P l.toArray K is ρ w)(C:l[i]? = some ⟨some d,op,ty,pos,af,some (j,want)⟩:=by exact rfl)(S:jx l.toArray j=some s:=by exact rfl)(I:Gd (ρ s) want c:=by first|exact KL _ _|exact xf _ _ _)(he:ρ d=gv c v:=by exact rfl)(hv:c=true->ReadV P ⟨some d,op,ty,pos,af,none⟩ ρ w v:=by
   intro I;have hq:=I
   (try simp only[tI,Bool.and_eq_true,qa,gQ,qA,tt,Bm,Bn,nH,q6,Bo,zY,bne_iff_ne,ne_eq,tu,zZ,xW,Bp]at hq)
   first
    | (apply D7;(first|exact rfl|exact bw I|exact bw (bB I));exact Y;infer_instance;(first|exact rfl|exact bw I|exact bw (bB I)))
    | (apply D8;(first|exact rfl|exact bw I|exact bw (bB I));exact Y;infer_instance;(first|exact rfl|exact bw I|exact bw (bB I)))
    | (apply CQ;(first|exact rfl|exact bw I|exact bw (bB I));(first|exact RS.at (by assumption) Y|exact bk Y|assumption);omega)
    | (apply Ed;(first|exact rfl|exact bw I|exact bw (bB I));(first|exact RS.at (by assumption) Y|exact bk Y|assumption);omega;exact wF (fe _);infer_instance;(first|exact rfl|exact bw I|exact bw (bB I)))
    | (apply Ec;(first|exact rfl|exact bw I|exact bw (bB I));(first|exact RS.at (by assumption) Y|exact bk Y|assumption);omega;(first|exact rfl|exact bw I|exact bw (bB I));infer_instance)
    | (apply CN;(first|exact rfl|exact bw I|exact bw (bB I));(first|exact RS.at (by assumption) Y|exact bk Y|assumption);omega;(first|exact rfl|exact bw I|exact bw (bB I)))
    | (apply CO;(first|exact rfl|exact bw I|exact bw (bB I));(first|exact RS.at (by assumption) Y|exact bk Y|assumption);omega;exact wF (fe _);(first|exact rfl|exact bw I|exact bw (bB I)))
    | (apply CP;(first|exact rfl|exact bw I|exact bw (bB I));(first|exact RS.at (by assumption) Y|exact bk Y|assumption);omega;(first|exact rfl|exact bw I|exact bw (bB I)))
    | (apply D9;(first|exact rfl|exact bw I|exact bw (bB I));exact Y;infer_instance;(first|exact rfl|exact bw I|exact bw (bB I)))
    | (apply Ee;(first|exact rfl|exact bw I|exact bw (bB I));exact dL.at (by assumption) Y;(first|exact rfl|exact bw I|exact bw (bB I)))
    | (apply Ef;(first|exact rfl|exact bw I|exact bw (bB I));exact dL.at (by assumption) Y;(first|exact rfl|exact bw I|exact bw (bB I)))
    | (apply Eg;(first|exact rfl|exact bw I|exact bw (bB I));exact dL.at (by assumption) Y;(first|exact rfl|exact bw I|exact bw (bB I)))):opsD P l.toArray K (.cI i::is) ρ w:=by
 refine KS (v:=v) C (fun hq=>?_) h;have q:c=true:=by
  simp only[gk,S]at hq;rw[<-hq];exact I.symm
 exact⟨hv q,by rw[he,q];exact bw rfl⟩
def Hy {j:Nat}{want:Bool}(h:opsD P l.toArray K is ρ w)(c:l[i]? = some ⟨some d,op,ty,pos,af,some (j,want)⟩:=by exact rfl)(hv:ReadV P ⟨some d,op,ty,pos,af,none⟩ ρ w v:=by
   first
    | (apply D7;exact rfl;exact Y;infer_instance;exact rfl)
    | (apply D8;exact rfl;exact Y;infer_instance;exact rfl)
    | (apply CQ;exact rfl;(first|exact RS.at (by assumption) Y|exact bk Y|assumption);omega)
    | (apply Ed;exact rfl;(first|exact RS.at (by assumption) Y|exact bk Y|assumption);omega;exact wF (fe _);infer_instance;exact rfl)
    | (apply Ec;exact rfl;(first|exact RS.at (by assumption) Y|exact bk Y|assumption);omega;exact rfl;infer_instance)
    | (apply CN;exact rfl;(first|exact RS.at (by assumption) Y|exact bk Y|assumption);omega;exact rfl)
    | (apply CO;exact rfl;(first|exact RS.at (by assumption) Y|exact bk Y|assumption);omega;exact wF (fe _);exact rfl)
    | (apply CP;exact rfl;(first|exact RS.at (by assumption) Y|exact bk Y|assumption);omega;exact rfl)
    | (apply D9;exact rfl;exact Y;infer_instance;exact rfl)
    | (apply Ee;exact rfl;exact dL.at (by assumption) Y;exact rfl)
    | (apply Ef;exact rfl;exact dL.at (by assumption) Y;exact rfl)
    | (apply Eg;exact rfl;exact dL.at (by assumption) Y;exact rfl))(he:ρ d=v:=by exact rfl):opsD P l.toArray K (.cI i::is) ρ w:=KS c (fun _=>⟨hv,he⟩) h
def Hz {j:Nat}{want:Bool}{s:Nat}(h:opsD P l.toArray K is ρ w)(c:l[i]? = some ⟨some d,op,ty,pos,af,some (j,want)⟩:=by exact rfl)(q:jx l.toArray j=some s:=by exact rfl)(I:sF (ρ s) want=false:=by exact rfl):opsD P l.toArray K (.cI i::is) ρ w:=by
 refine KS (v:=.bool false) c (fun hq=>?_) h;simp only[gk,q]at hq;rw[I]at hq;cases hq
def r8 {Q:Exit->Fr->World->Prop}(h:∀ w',Z w0 w' Γ->opsW P l.toArray (Q .normal) l ρ w')(Y:Z w0 w Γ:=by exact Y)(c:qN P l.toArray=true:=by decide +kernel):vc P (.region i l.toArray true) Q ρ w:=X8 Y c h
def HA {Q:Exit->Fr->World->Prop}{j:Nat}(h:Q (.exit i) ρ w)(c:Nat.beq i j=false:=by exact rfl):Blk j Q (.exit i) ρ w:=X9 c h
def jw {Q:Exit->Fr->World->Prop}{c:Operand}{x y:Code}{b:Bool}{p q:Prop}(h1:p->vc P x Q ρ w)(C:q->vc P y Q ρ w)(S:aX ρ c=.bool b:=by exact rfl)
  (V:b=true->p:=by
   intro hq
   (try simp only[tI,Bool.and_eq_true,qa,gQ,qA,tt,Bm,Bn,nH,q6,Bo,zY,bne_iff_ne,ne_eq,tu,zZ,xW,Bp]at hq)
   exact hq)
  (hn:b=false->q:=by
   intro hq
   (try simp only[tI,Bool.and_eq_true,qa,gQ,qA,tt,Bm,Bn,nH,q6,Bo,zY,bne_iff_ne,ne_eq,tu,zZ,xW,Bp]at hq)
   exact hq):vc P (.cond c x y) Q ρ w:=X5 S (fun h=>h1 (V h)) (fun h=>C (hn h))
def QW {Q:Exit->Fr->World->Prop}{c:Operand}{a b:Code}(h:vc P a Q ρ w)(q:aX ρ c=.bool true:=by exact rfl):vc P (.cond c a b) Q ρ w:=X6 q h
def QX {Q:Exit->Fr->World->Prop}{c:Operand}{a b:Code}(h:vc P b Q ρ w)(q:aX ρ c=.bool false:=by exact rfl):vc P (.cond c a b) Q ρ w:=X7 q h
structure dV (p:Prop):Prop where
 out:p
def du (h:G')(c:dV G'->G:=by intro hgo;(first|refine uI ?_|refine Cz ?_|refine tm ?_|refine zW ?_|refine Bg ?_|refine Cq ?_|refine Cp ?_|refine Hj ?_|refine Hc ?_|refine Hd ?_|refine He ?_|refine Hh ?_|refine Hi ?_|refine Hk ?_|refine Hl ?_|refine HA ?_|refine QW ?_|refine QX ?_|refine Ag ?_|refine Ea ?_|refine Eh ?_|refine Hz ?_|refine Hy ?_|refine Hx ?_|refine Hf ?_|refine Hg ?_|refine uY ?_|refine uZ ?_|refine Hr ?_|refine Ht ?_|refine Hu ?_|refine Hv ?_|refine Hw ?_);(repeat (first|refine uI ?_|refine Cz ?_|refine tm ?_|refine zW ?_|refine Bg ?_|refine Cq ?_|refine Cp ?_|refine Hj ?_|refine Hc ?_|refine Hd ?_|refine He ?_|refine Hh ?_|refine Hi ?_|refine Hk ?_|refine Hl ?_|refine HA ?_|refine QW ?_|refine QX ?_|refine Ag ?_|refine Ea ?_|refine Eh ?_|refine Hz ?_|refine Hy ?_|refine Hx ?_|refine Hf ?_|refine Hg ?_|refine uY ?_|refine uZ ?_|refine Hr ?_|refine Ht ?_|refine Hu ?_|refine Hv ?_|refine Hw ?_));exact hgo.out):G:=c ⟨h⟩
def KW (h:G')(c:dV G'->G:=by intro hgo;(first|refine uI ?_|refine Cz ?_|refine tm ?_|refine zW ?_|refine Bg ?_|refine Cq ?_|refine Cp ?_|refine Hj ?_|refine Hc ?_|refine Hd ?_|refine He ?_|refine Hh ?_|refine Hi ?_|refine Hk ?_|refine Hl ?_|refine HA ?_|refine Ag ?_|refine Ea ?_|refine Eh ?_|refine Hz ?_|refine Hy ?_|refine Hx ?_|refine Hf ?_|refine Hg ?_|refine uY ?_|refine uZ ?_|refine Hr ?_|refine Ht ?_|refine Hu ?_|refine Hv ?_|refine Hw ?_);(repeat (first|refine uI ?_|refine Cz ?_|refine tm ?_|refine zW ?_|refine Bg ?_|refine Cq ?_|refine Cp ?_|refine Hj ?_|refine Hc ?_|refine Hd ?_|refine He ?_|refine Hh ?_|refine Hi ?_|refine Hk ?_|refine Hl ?_|refine HA ?_|refine Ag ?_|refine Ea ?_|refine Eh ?_|refine Hz ?_|refine Hy ?_|refine Hx ?_|refine Hf ?_|refine Hg ?_|refine uY ?_|refine uZ ?_|refine Hr ?_|refine Ht ?_|refine Hu ?_|refine Hv ?_|refine Hw ?_));exact hgo.out):G:=c ⟨h⟩
def gX (h:G')(c:dV G'->G:=by intro hgo;(first|refine Gk ?_|refine xU ?_);exact hgo.out):G:=c ⟨h⟩
def qB (h:G')(c:dV G'->G:=by intro hgo;(first|refine QS ?_|refine QT ?_|refine QU ?_|refine QV ?_|refine r8 ?_);exact hgo.out):G:=c ⟨h⟩
def tq (h:G')(c:dV G'->G:=by intro hgo;(first|refine QS ?_|refine QT ?_|refine QU ?_|refine QV ?_);exact hgo.out):G:=c ⟨h⟩
def Ys (h:G')(c:dV G'->G:=by intro hgo;(first|refine r8 ?_);exact hgo.out):G:=c ⟨h⟩
def fA (h:G')(c:dV G'->G:=by intro hgo;(first|refine Yn ?_|refine Yo ?_|refine Yp ?_|refine Yq ?_|refine Yr ?_|refine OV ?_);exact hgo.out):G:=c ⟨h⟩
end
def oC (h:G')(c:dV G'->G:=by intro hgo;(repeat refine KW ?_);exact hgo.out):G:=c ⟨h⟩
def O (h:G')(c:dV G'->G:=by intro hgo;(repeat refine du ?_);exact hgo.out):G:=c ⟨h⟩
def nX (h:G')(c:dV G'->G:=by intro hgo;(repeat (first|refine du ?_|(refine gX ?_;(try clear Y);intro p w Y)|(refine tq ?_;(try clear Y);intro w Y)|(refine fA ?_;(try clear Y);intro s w Y)));revert s w;exact hgo.out):G:=c ⟨h⟩
def db (h:G')(c:dV G'->G:=by intro hgo;(repeat (first|refine du ?_|(refine gX ?_;(try clear Y);intro p w Y)|(refine tq ?_;(try clear Y);intro w Y)|(refine fA ?_;(try clear Y);intro s w Y)));revert p w;exact hgo.out):G:=c ⟨h⟩
def eE (h:G')(c:dV G'->G:=by intro hgo;(repeat (first|refine du ?_|(refine gX ?_;(try clear Y);intro p w Y)|(refine qB ?_;(try clear Y);intro w Y)|(refine fA ?_;(try clear Y);intro s w Y)));revert p w;exact hgo.out):G:=c ⟨h⟩
def iE (h:G')(c:dV G'->G:=by intro hgo;(repeat (first|refine du ?_|(refine gX ?_;(try clear Y);intro p w Y)|(refine tq ?_;(try clear Y);intro w Y)|(refine fA ?_;(try clear Y);intro s w Y)));revert w;exact hgo.out):G:=c ⟨h⟩
def fm (h:G')(c:dV G'->G:=by intro hgo;(repeat (first|refine du ?_|(refine gX ?_;(try clear Y);intro p w Y)|(refine qB ?_;(try clear Y);intro w Y)|(refine fA ?_;(try clear Y);intro s w Y)));revert w;exact hgo.out):G:=c ⟨h⟩
def l7 (h:G')(c:dV G'->G:=by intro hgo;(repeat (first|refine du ?_|(refine gX ?_;(try clear Y);intro p w Y)|(refine qB ?_;(try clear Y);intro w Y)|(refine fA ?_;(try clear Y);intro s w Y)));revert s w;exact hgo.out):G:=c ⟨h⟩
def Jj (h:G')(c:dV G'->G:=by intro hgo;(repeat (first|refine du ?_|(refine gX ?_;(try clear Y);intro p w Y)|(refine Ys ?_;(try clear Y);intro w Y)|(refine fA ?_;(try clear Y);intro s w Y)));revert p w;exact hgo.out):G:=c ⟨h⟩
def VT (h:G')(c:dV G'->G:=by intro hgo;(repeat (first|refine KW ?_|(refine gX ?_;(try clear Y);intro p w Y)|(refine qB ?_;(try clear Y);intro w Y)|(refine fA ?_;(try clear Y);intro s w Y)));revert p w;exact hgo.out):G:=c ⟨h⟩
def E0 (h:G')(c:dV G'->G:=by intro hgo;(repeat (first|refine du ?_|(refine gX ?_;(try clear Y);intro p w Y)|(refine fA ?_;(try clear Y);intro s w Y)));revert p w;exact hgo.out):G:=c ⟨h⟩
def jT (h:G')(c:dV G'->G:=by intro hgo;rintro _ w' ⟨rfl,al⟩;replace Y:=Y.cy al;clear al;refine⟨_,rfl,?_⟩;(repeat refine du ?_);revert w';exact hgo.out):G:=c ⟨h⟩
def aB (h1:G1)(h2:G2)(c:dV G1->dV G2->G:=by intro hgo hgi;(repeat refine du ?_);refine jw ?_ ?_;rotate_left;exact hgi.out;exact hgo.out):G:=c ⟨h1⟩ ⟨h2⟩
def M3 (h:G')(c:dV G'->G:=by intro hgo;rintro _ w' ⟨rfl,al⟩;replace Y:=Y.cy al;clear al;refine⟨_,rfl,?_⟩;(repeat (first|refine du ?_|(refine gX ?_;(try clear Y);intro p w Y)|(refine tq ?_;(try clear Y);intro w Y)|(refine fA ?_;(try clear Y);intro s w Y)));revert p w;exact hgo.out):G:=c ⟨h⟩
def BP (h:G')(c:dV G'->G:=by intro hgo;rintro _ w' ⟨rfl,al⟩;replace Y:=Y.cy al;clear al;refine⟨_,rfl,?_⟩;(repeat (first|refine du ?_|(refine gX ?_;(try clear Y);intro p w Y)|(refine tq ?_;(try clear Y);intro w Y)|(refine fA ?_;(try clear Y);intro s w Y)));revert w;exact hgo.out):G:=c ⟨h⟩
def mg (h1:G1)(h2:G2)(c:dV G1->dV G2->G:=by intro hgo hgi;(repeat (first|refine du ?_|(refine gX ?_;(try clear Y);intro p w Y)|(refine qB ?_;(try clear Y);intro w Y)|(refine fA ?_;(try clear Y);intro s w Y)));refine jw ?_ ?_;rotate_left;revert p w;exact hgi.out;revert p w;exact hgo.out):G:=c ⟨h1⟩ ⟨h2⟩
def vJ (h1:G1)(h2:G2)(c:dV G1->dV G2->G:=by intro hgo hgi;(repeat (first|refine du ?_|(refine gX ?_;(try clear Y);intro p w Y)|(refine qB ?_;(try clear Y);intro w Y)|(refine fA ?_;(try clear Y);intro s w Y)));refine jw ?_ ?_;rotate_left;revert w;exact hgi.out;revert w;exact hgo.out):G:=c ⟨h1⟩ ⟨h2⟩
def MT (h1:G1)(h2:G2)(c:dV G1->dV G2->G:=by intro hgo hgi;(repeat (first|refine KW ?_|(refine gX ?_;(try clear Y);intro p w Y)|(refine qB ?_;(try clear Y);intro w Y)|(refine fA ?_;(try clear Y);intro s w Y)));refine jw ?_ ?_;rotate_left;revert p w;exact hgi.out;revert p w;exact hgo.out):G:=c ⟨h1⟩ ⟨h2⟩
def AL (h1:G1)(h2:G2)(c:dV G1->dV G2->G:=by intro hgo hgi;rintro _ w' ⟨rfl,al⟩;replace Y:=Y.cy al;clear al;refine⟨_,rfl,?_⟩;(repeat refine du ?_);refine jw ?_ ?_;rotate_left;revert w';exact hgi.out;revert w';exact hgo.out):G:=c ⟨h1⟩ ⟨h2⟩
def gZ (h:G')(c:dV G'->G:=by intro hgo;rintro _ w' ⟨rfl,al⟩;replace Y:=Y.cy al;clear al;refine⟨_,rfl,?_⟩;revert w';exact hgo.out):G:=c ⟨h⟩
def qO (h:G')(c:dV G'->G:=by intro hgo;replace Y:=Y.call al;refine⟨_,rfl,?_⟩;revert Y;exact hgo.out):G:=c ⟨h⟩
def aA (h:G')(c:dV G'->G:=by intro hgo;replace Y:=Y.cy al;refine⟨_,rfl,?_⟩;revert Y;exact hgo.out):G:=c ⟨h⟩
def aI (h:G')(c:dV G'->G:=by intro hgo;replace Y:=Y.mu al;refine⟨_,rfl,?_⟩;revert Y;exact hgo.out):G:=c ⟨h⟩
def iM (h:G')(c:dV G'->G:=by intro hgo;replace Y:=Y.w9 al;refine⟨_,rfl,?_⟩;revert Y;exact hgo.out):G:=c ⟨h⟩
def bA {P:Program}{f:FuncId}{fn:Func}{c:Code}{args:List Value}{w:World}(hm:P.follows .mixedOrders=true)(C:P.funcs[f]? = some fn)(h:vc P c (mz P fn fun v w'=>R (.returned v) w') (vN args) w)(S:fn.body=some c:=by exact rfl)(q:mY fn.ntmps c=true:=by kernel_rfl)(V:args.length<=fn.ntmps:=by exact fY rfl):Calls P f args.toArray w R:=XS hm C S q V h
def aU {ρ c:Fr}(h:ic W_ c ρ:=by repeat (first|exact Qo|(apply Qp rfl)|(apply Ya rfl)|(apply Qq rfl))):ic W_ c ρ:=h
end
end Go.Sl
