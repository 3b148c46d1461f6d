/- Several texts. -/
import Derived.OrdersIn
import Derived.KernelRfl
import Derived.Below
import Derived.Laws.Sem
import Derived.Laws.Cells
import Derived.Laws.Small
import Derived.Laws.Slices
import Derived.Laws.World
import Derived.Laws.BitsLemmas
import Derived.WideLaws
import Derived.ChangeKeysEq
import Derived.Conc.MuLone
import Derived.Laws.AppendOwn
import Derived.Laws.Pointers
set_option linter.unusedSimpArgs false
set_option linter.unusedVariables false
set_option linter.defProp false
set_option maxRecDepth 8000
set_option maxHeartbeats 16000000
open List Nat
namespace Go.Sl
variable {i sz by_ n f m ft lo hi:Nat}{p:Addr}{G G' G1 G2:Prop}{zs vs:List Value}{bt:TypeId}{l:List Oper}{D F:Oper}{R:Ending->World->Prop}{x1 x2 x3:Operand}{v1 u s':Value}{cs:Array Value}{ts:Array TypeId}{w':World}{W_:List Nat}{K':Act->World->Prop}{b':Bool}{φ:World->Prop}{H:Type}
section
def U {P:Prop}(h:P:=by omega):P:=h
def dc {P:Prop}(h:P:=by decide):P:=h
def sm {P:Prop}(h:P:=by simp):P:=h
def kr {P:Prop}(h:P:=by kernel_rfl):P:=h
abbrev au:=@trivial
abbrev aH:=@if_neg
abbrev aP:=@if_pos
abbrev br:=@zero_le
abbrev cz:=@Nat.le_refl
abbrev dp:=@mem_singleton
abbrev du:=@Int.le_refl
abbrev dx:=@not_lt_zero
abbrev dY:=@decide_eq_true
abbrev dZ:=@mem_cons
abbrev ew:=@all_cons
abbrev eA:=@decide_eq_false
abbrev eF:=@Result.andThen_ok
abbrev eN:=@all_nil
abbrev eR:=@Sem.run_bind
abbrev fb:=@zero_lt_succ
abbrev fF:=@getElem_of_mem
abbrev fG:=@append_assoc
abbrev fI:=@append_nil
abbrev fM:=@not_mem_nil
abbrev fX:=@le_of_ble_eq_true
abbrev fZ:=@Int.toNat_of_nonneg
abbrev ga:=@Sem.run_pure
abbrev gA:=@mem_cons_self
abbrev gH:=@take_of_length_le
abbrev gK:=@mem_append
abbrev gR:=@decide_eq_true_eq
abbrev gS:=@length_set
abbrev gY:=@Int.toNat_natCast
abbrev iA:=@ext_getElem
abbrev iB:=@getD_eq_getElem?_getD
abbrev iQ:=@mem_map
abbrev iR:=@mem_cons_of_mem
abbrev iW:=@length_map
abbrev jf:=@length_take
abbrev js:=@getElem?_append_left
abbrev kp:=@getElem?_append_right
abbrev kq:=@nil_append
abbrev kP:=@getElem?_eq_getElem
abbrev kQ:=@flatMap_cons
abbrev kV:=@Array.getElem?_eq_some_iff
abbrev lz:=@range_succ
abbrev lL:=@take_length
abbrev l8:=@map_cons
abbrev mJ:=@set_cons_zero
abbrev mM:=@set_cons_succ
abbrev mL:=@getElem_map
abbrev nq:=@Bool.not_true
abbrev np:=@length_replicate
abbrev nl:=@Classical.byContradiction
abbrev ns:=@Nat.lt_or_ge
abbrev nY:=@eq_nil_of_length_eq_zero
abbrev oD:=@Nat.le_trans
abbrev pO:=@Bool.or_eq_true
abbrev pM:=@decide_eq_false_iff_not
abbrev pL:=@or_false
abbrev pU:=@mem_of_mem_take
abbrev pX:=@map_append
abbrev qy:=@Bool.not_false
abbrev qA:=@cons_append
abbrev qq:=@congrArg
abbrev qz:=@drop_eq_nil_of_le
abbrev qB:=@Nat.add_mul
abbrev qX:=@Bool.eq_false_iff
abbrev qW:=@getElem_range
abbrev q6:=@Act.put_comm
abbrev rP:=@mem_filter
abbrev rX:=@Bool.not_eq_true
abbrev rY:=@Int.not_lt
abbrev rZ:=@Nat.sub_self
abbrev rO:=@Int.le_trans
abbrev sq:=@beq_iff_eq
abbrev sb:=@getElem_set
abbrev sr:=@foldl_cons
abbrev tr:=@length_singleton
abbrev tj:=@Int.mul_nonneg
abbrev tm:=@mem_flatMap
abbrev tq:=@getElem?_map
abbrev tf:=@foldl_append
abbrev tn:=@getElem?_set_ne
abbrev tt:=@Bool.false_or
abbrev tI:=@Array.getElem?_eq_none
abbrev tD:=@map_nil
abbrev tJ:=@Option.map_some
abbrev tK:=@Classical.not_not
abbrev ux:=@length_filter_le
abbrev uD:=@Calls.mono
abbrev uC:=@eq_zero_or_pos
abbrev uF:=@mul_le_mul_right
abbrev uE:=@getElem?_eq_none
abbrev uG:=@Array.getElem?_setIfInBounds_ne
abbrev vk:=@nodup_cons
abbrev vq:=@getElem?_set
abbrev we:=@filter_cons
abbrev wg:=@Nat.not_lt
abbrev v7:=@pairwise_iff_getElem
abbrev wh:=@Classical.choose_spec
abbrev vX:=@of_decide_eq_true
abbrev wk:=@Array.getElem?_modify
abbrev wm:=@Array.all_eq_true_iff_forall_mem
abbrev wD:=@Nat.lt_of_sub_pos
abbrev wE:=@getElem?_take
abbrev wF:=@beq_self_eq_true
abbrev wG:=@drop_eq_getElem_cons
abbrev ww:=@Nat.one_mul
abbrev wy:=@flatMap_append
abbrev wq:=@getElem_mem
abbrev wH:=@Array.ext_getElem?
abbrev wI:=@take_zero
abbrev xQ:=@Nat.mul_le_mul
abbrev xR:=@Bool.or_eq_false_iff
abbrev xS:=@Int.not_le
abbrev xK:=@map_congr_left
abbrev xT:=@Bool.not_eq_true'
abbrev xU:=@Nat.zero_add
abbrev xV:=@Iff.rfl
abbrev xW:=@List.getElem?_eq_some_iff
abbrev yt:=@Int.mul_le_mul_of_nonneg_right
abbrev yp:=@succ_mul
abbrev yu:=@Bool.not_eq_false
abbrev yw:=@Bool.not_eq_eq_eq_not
abbrev yx:=@Bool.and_eq_false_iff
abbrev yy:=@Nat.not_le
abbrev yz:=@testBit_two_pow
abbrev yA:=@mem_append_left
abbrev yB:=@set_append_right
abbrev yC:=@take_append_drop
abbrev ym:=@Nat.pow_le_pow_right
abbrev yk:=@take_append_of_le_length
abbrev yD:=@drop_append
abbrev yE:=@Option.bind_some
abbrev yF:=@Array.mem_of_getElem?
abbrev yG:=@sum_cons
abbrev zP:=@Int.mul_le_mul
abbrev zQ:=@Nat.add_zero
abbrev zz:=@map_map
abbrev zH:=@Int.add_mul
abbrev zR:=@Option.some.injEq
abbrev zM:=@nodup_append
abbrev zC:=@nodup_nil
abbrev zx:=@Rat.le_refl
abbrev zS:=@ext_getElem?
abbrev zT:=@Nat.add_assoc
abbrev zI:=@Nat.lt_of_le_of_lt
abbrev zU:=@mapM_cons
abbrev zV:=@getElem?_zipWith
abbrev zJ:=@getElem?_replicate
abbrev AU:=@mem_iff_getElem
abbrev A6:=@filter_append
abbrev Bg:=@length_drop
abbrev A5:=@pairwise_map
abbrev Bh:=@Option.some.inj
abbrev Bi:=@Array.getElem?_setIfInBounds_self_of_lt
abbrev A4:=@Nat.lt_of_lt_of_le
abbrev A7:=@flatMap_nil
abbrev Bj:=@Bool.false_and
abbrev Cp:=@pairwise_append
abbrev B7:=@Int.natCast_add
abbrev Cq:=@replicate_zero
abbrev Cr:=@Bool.false_eq_true
abbrev Ct:=@Oper.apart_spec
abbrev Cu:=@testBit_lt_two_pow
abbrev Cm:=@mod_lt
abbrev Cv:=@size_toArray
abbrev Cw:=@getElem?_set_self
abbrev Cx:=@mapM_toArray
abbrev Cy:=@eq_of_testBit_eq
abbrev Cn:=@Int.natCast_nonneg
abbrev Cz:=@Array.getElem?_eq_getElem
abbrev CA:=@Bool.true_and
abbrev CB:=@getElem?_toArray
abbrev B9:=@and_le_left
abbrev DB:=@length_erase_of_mem
abbrev DC:=@Nat.add_sub_cancel
abbrev Dx:=@getElem_take
abbrev DD:=@Int.add_comm
abbrev Dh:=@Int.one_mul
abbrev Dl:=@pairwise_lt_range
abbrev DE:=@replicate_succ
abbrev Dt:=@Nat.le_of_not_lt
abbrev DF:=@Array.getElem?_append_left
abbrev DG:=@map_toArray
abbrev DH:=@Nat.sub_mul
abbrev DI:=@mapM_nil
abbrev DK:=@take_append
abbrev DL:=@getElem_set_self
abbrev DM:=@countP_cons
abbrev DN:=@Bool.cond_true
abbrev DO:=@Bool.cond_false
abbrev DP:=@getElem?_cons_zero
abbrev DQ:=@drop_zero
abbrev DR:=@lt_succ_self
abbrev DS:=@set_eq_take_append_cons_drop
abbrev Gl:=@Int.mul_le_mul_of_nonneg_left
abbrev Gm:=@mem_erase_of_ne
abbrev Gn:=@length_pos_of_mem
abbrev Gp:=@Int.tdiv_eq_ediv_of_dvd
abbrev Gq:=@Int.gcd_dvd_right
abbrev Gt:=@take_set_of_le
abbrev Gu:=@filter_congr
abbrev Gv:=@filter_nil
abbrev Gw:=@Nat.zero_mul
abbrev Gx:=@Int.tdiv_eq_ediv_of_nonneg
abbrev FV:=@Array.extract_size
abbrev FW:=@Array.length_toList
abbrev Gy:=@length_eq_zero_iff
abbrev Gh:=@mem_append_right
abbrev Gz:=@foldl_nil
abbrev GA:=@getElem?_range
abbrev FT:=@mod_eq_of_lt
abbrev GB:=@Int.max_le
abbrev GC:=@filterMap_cons
abbrev GD:=@filterMap_nil
abbrev GE:=@Bool.and_true
abbrev GF:=@and_true
abbrev GG:=@Array.toArray_toList
abbrev GH:=@Array.ext'
abbrev GI:=@Nat.add_comm
abbrev GJ:=@Nat.mul_comm
abbrev GK:=@replicate_succ'
abbrev GL:=@testBit_and
abbrev Ga:=@getElem?_append
abbrev GM:=@Bool.true_or
abbrev GN:=@Nat.sub_eq_zero_of_le
abbrev GO:=@Int.lt_irrefl
abbrev GP:=@take_add_one
abbrev JQ:=@Int.ediv_le_self
abbrev JR:=@lt_pow_two_of_testBit
abbrev JS:=@take_succ_eq_append_getElem
abbrev JT:=@getElem?_drop
abbrev JU:=@Nat.sub_zero
abbrev JV:=@Int.natCast_mul
abbrev JW:=@dropLast_concat_getLast
abbrev IN:=@perm_append_comm
abbrev Jb:=@Pairwise.imp_of_mem
abbrev Je:=@Nat.two_pow_pos
abbrev Jf:=@length_pos_iff
abbrev JX:=@mem_of_mem_drop
abbrev JY:=@Nat.add_sub_cancel_left
abbrev JZ:=@filterMap_append
abbrev J0:=@take_succ_cons
abbrev IF:=@countP_pos_iff
abbrev I2:=@Int.natCast_one
abbrev J1:=@Array.getElem?_append_right
abbrev J2:=@Array.toList_append
abbrev J3:=@eq_of_beq_eq_true
abbrev J4:=@Region.noSelect_spec
abbrev J5:=@Array.getElem?_mapIdx
abbrev J6:=@set_append_left
abbrev J7:=@pairwise_cons
abbrev J8:=@Nat.lt_of_not_le
abbrev Jw:=@Array.getD_eq_getD_getElem?
abbrev J9:=@Bool.or_false
abbrev Ka:=@Array.getElem?_push
abbrev Kb:=@Option.bind_eq_bind
abbrev Kc:=@Option.pure_def
abbrev Kd:=@BitVec.toNat_and
abbrev Ke:=@Int.le_antisymm
abbrev Kf:=@Bool.eq_iff_iff
abbrev Kg:=@ByteArray.size_append
abbrev O8:=@Int.gcd_pos_of_ne_zero_right
abbrev O9:=@Int.natAbs_ediv_le_natAbs
abbrev Pa:=@Int.le_ediv_of_mul_le
abbrev Of:=@Array.getElem_toList
abbrev Pb:=@Int.add_mul_ediv_right
abbrev Pc:=@Int.ediv_eq_zero_of_lt
abbrev Og:=@testBit_two_pow_sub_one
abbrev Pd:=@Array.setIfInBounds_comm
abbrev OX:=@Nat.div_lt_of_lt_mul
abbrev Pe:=@getElem!_eq_getElem?_getD
abbrev Pf:=@eraseIdx_append_of_lt_length
abbrev Pg:=@Int.tmod_eq_emod_of_nonneg
abbrev Ph:=@Int.emod_lt_of_pos
abbrev Pi:=@testBit_two_pow_mul_add
abbrev Pj:=@testBit_two_pow_sub_succ
abbrev Pk:=@countP_eq_length_filter
abbrev OW:=@Nat.pos_of_ne_zero
abbrev OA:=@Array.size_replicate
abbrev Pl:=@findIdx_lt_length_of_exists
abbrev Pm:=@Int.eq_ofNat_of_zero_le
abbrev Pn:=@Int.gcd_natCast_natCast
abbrev Po:=@Array.getElem?_toList
abbrev J:=List Int
@[match_pattern] abbrev nS:Value:=.slice none 0 0
@[match_pattern] abbrev E (n:Int):Value:=.int .i64 n
def À {α:Sort _}(a:α):∃ b,b=a:=⟨a,rfl⟩
abbrev Fr:=Nat->Value
def fa (ρ:Fr)(d:Nat)(v:Value):Fr:=fun t=>bif Nat.beq t d then v else ρ t
def io (ρ:Fr)(d:Option Nat)(v:Value):Fr:=match d with|some d=>fa ρ d v|none=>ρ
def aX (ρ:Fr):Operand->Value
 | .tmp t=>ρ t
 | .const v=>v
 | .global g=>.pointer (some ⟨g,0,none⟩)
 | .func f=>.func (.func f) #[] #[]
def fr (a:Act):Fr:=fun t=>a.tmps.getD t undef
def qZ (a:Act):aX (fr a)=a.eval:=by
 funext x;cases x<;>rfl
inductive Kh where
 | pure|dD|fc
 deriving DecidableEq
def Ay (P:Program)(t:TypeId):Bool:=match P.underlying t with|some (.int _)=>true|_=>false
def dQ (P:Program):Op->Kh
 | .move _|.assign _|.pick ..|.binOp ..|.unOp ..|.extract ..|.fieldAddr ..|.field ..|.indexAddr ..|.index ..|.slice ..|.makeInterface ..|.makeFunc ..|.nilCheck _|.typeAssert ..=>.pure
 | .convert s d _=>if Ay P s && Ay P d then .pure else .fc
 | .call { callee:=.builtin .len,argTypes,.. }=>(match (argTypes[0]?).bind P.underlying with|some (.map ..)|some (.chan ..)=>.dD|_=>.pure)
 | .call { callee:=.builtin .min,.. }|.call { callee:=.builtin .max,.. }|.call { callee:=.builtin .cap,.. }=>.pure
 | .load ..|.lookup ..=>.dD
 | _=>.fc
def PureV (P:Program)(o:Oper)(ρ:Fr)(v:Value):Prop:=∀ w,(execOp (aX ρ) o).run P w=.ok (.value v) w
def ReadV (P:Program)(o:Oper)(ρ:Fr)(w:World)(v:Value):Prop:=(execOp (aX ρ) o).run P w=.ok (.value v) w
def cn (P:Program)(K:Value->World->Prop):Result Next->Prop
 | .ok (.value v) w=>K v w
 | .ok .skip w=>K undef w
 | .ok (.enter f args) w=>Calls P f args w fun
   | .returned v,w'=>K v w'
   | _,_=>False
 | .ok (.round l f tmps assign body) w=>RoundIn Fence.wide 0 P l f tmps assign body w fun
   | .returned v,w'=>K v w'
   | _,_=>False
 | _=>False
def opW (P:Program)(o:Oper)(ρ:Fr)(w:World)(K:Value->World->Prop):Prop:=cn P K ((execOp (aX ρ) o).run P w)
def opV (P:Program)(o:Oper)(ρ:Fr)(w:World)(K:Fr->World->Prop):Prop :=
 match dQ P o.op with
 | .pure=>∃ v,PureV P o ρ v/\K (io ρ o.dst v) w
 | .dD=>∃ v,ReadV P o ρ w v/\K (io ρ o.dst v) w
 | .fc=>opW P o ρ w fun v w'=>K (io ρ o.dst v) w'
def sE (v:Value)(want:Bool):Bool:=match v with|.bool b=>b == want|_=>false
def jz (Z:Array Oper)(j:Nat):Option Nat:=(Z[j]?).bind (·.dst)
def gm (Z:Array Oper)(ρ:Fr)(g:Nat × Bool):Bool:=match jz Z g.1 with|some t=>sE (ρ t) g.2|none=>false
def opsW (P:Program)(Z:Array Oper)(K:Fr->World->Prop):List Oper->Fr->World->Prop
 | [],ρ,w=>K ρ w
 | o::r,ρ,w =>
  match o.guard with
  | none=>opV P o ρ w (opsW P Z K r)
  | some g=>(gm Z ρ g=true->opV P o ρ w (opsW P Z K r))/\(gm Z ρ g=false->opsW P Z K r (io ρ o.dst undef) w)
def Thn (next:Fr->World->Prop)(Q:Exit->Fr->World->Prop):Exit->Fr->World->Prop
 | .normal,ρ,w=>next ρ w
 | e,ρ,w=>Q e ρ w
def Blk (id:Nat)(Q:Exit->Fr->World->Prop):Exit->Fr->World->Prop
 | .exit i,ρ,w=>if i=id then Q .normal ρ w else Q (.exit i) ρ w
 | e,ρ,w=>Q e ρ w
def j2 (P:Program)(a b:Op):Bool :=
 match dQ P a,dQ P b with
 | .pure,_|_,.pure=>true
 | .dD,.dD=>true
 | _,_=>false
def td (P:Program)(Z:Array Oper)(c:Array Nat)(i j:Nat):Bool :=
 (c.getD j 0).testBit i || match Z[i]?,Z[j]? with
  | some D,some F=>D.apart Z F && j2 P D.op F.op
  | _,_=>true
def iw (Z:Array Oper)(c:Array Nat):Bool :=
 (List.range Z.size).all fun j=>(List.range Z.size).all fun i => !(c.getD j 0).testBit i ||
  match Z[j]? with
  | some F=>F.after.any fun e=>Region.binds .any e && (e.on == i || (c.getD e.on 0).testBit i)
  | none=>false
def qL (P:Program)(Z:Array Oper):Bool :=
 let c:=Region.before Z
 Region.noSelect Z && iw Z c && (List.range Z.size).all (fun j=>(List.range j).all fun i=>td P Z c i j) &&
 (List.range Z.size).all fun j=>match Z[j]? with
  | some F=>F.after.all (fun e => !Region.binds .any e || decide (e.on<j)) && decide (c.getD j 0<2 ^ Z.size) && decide (c.size<=Z.size)
  | none=>true
inductive cB where
 | op (i:Nat)
 | cJ (i:Nat)
 deriving DecidableEq
section
variable (P:Program) (Z:Array Oper)
def gT (i:Nat):Kh:=match Z[i]? with|some o=>dQ P o.op|none=>.pure
def tL (i j:Nat):Bool:=((Region.before Z).getD j 0).testBit i
def gZ (j:Nat):List Nat:=(List.range Z.size).filter fun i=>gT P Z i == .dD && !(i == j) && !tL Z i j && !tL Z j i
def fh (c:List Nat):List cB:=c.flatMap fun i=>cB.op i::(match gT P Z i with|.fc=>(gZ P Z i).map cB.cJ|_=>[])
def fD:List cB->List Nat
 | []=>[]
 | .op i::r=>i::fD r
 | .cJ _::r=>fD r
def j3 (a b:Kh):Bool:=match a,b with|.pure,_|_,.pure=>true|.dD,.dD|.dD,.fc=>true|_,_=>false
def sV (i j:Nat):Bool:=tL Z i j || match Z[i]?,Z[j]? with|some D,some F=>D.apart Z F && j3 (dQ P D.op) (dQ P F.op)|_,_=>false
def l4:List Nat->Bool
 | []=>true
 | i::r=>r.all (fun j=>sV P Z i j) && l4 r
def iP:List Nat->List Nat->Bool
 | _,[]=>true
 | done,i::r=>(match Z[i]? with|some o=>o.after.all fun e => !Region.binds .any e || done.contains e.on|none=>false) && iP (i::done) r
def rE (r k:Nat):Bool:=k == r || tL Z k r || match Z[r]?,Z[k]? with
 | some c,some ok=>(match ok.dst with|some d => !(c.looksAt Z).contains d && c.dst != some d|none=>true)
 | _,_=>true
def o9 (is:List cB):Bool :=
 decide (is=fh P Z (fD is)) && Region.noSelect Z && iw Z (Region.before Z) &&
 decide ((fD is).length=Z.size) && (fD is).all (fun i=>decide (i<Z.size)) && decide ((fD is).Nodup) &&
 iP Z [] (fD is) && l4 P Z (fD is) &&
 (List.range Z.size).all (fun r => !(gT P Z r == .dD) || (List.range Z.size).all fun k=>rE Z r k) &&
 Z.all (fun o => !(dQ P o.op == .dD) || (match o.dst with|some d => !(o.looksAt Z).contains d|none=>false)) &&
 (List.range Z.size).all (fun j=>decide ((Region.before Z).getD j 0<2 ^ Z.size)) && decide ((Region.before Z).size<=Z.size) && (List.range Z.size).all fun j=>(fD is).contains j
end
def opsD (P:Program)(Z:Array Oper)(K:Fr->World->Prop):List cB->Fr->World->Prop
 | [],ρ,w=>K ρ w
 | .op i::r,ρ,w=>(match Z[i]? with|some o=>opsW P Z (opsD P Z K r) [o] ρ w|none=>False)
 | .cJ i::r,ρ,w=>(match Z[i]? with
   | some o=>(match o.guard with
     | none=>∀ d,o.dst=some d->ReadV P o ρ w (ρ d)
     | some g=>gm Z ρ g=true->∀ d,o.dst=some d->ReadV P o ρ w (ρ d))
   | none=>False)/\opsD P Z K r ρ w
inductive PT where
 | j6 (is:List cB)
 | step (i:Nat) (is:List cB) (t:PT)
 | Bk (i:Nat) (is:List cB) (t:PT) (more:PT)
 | stop
def jR (P:Program)(Z:Array Oper)(K:Fr->World->Prop):PT->Fr->World->Prop
 | .j6 is,ρ,w=>opsD P Z K is ρ w
 | .step _ is t,ρ,w=>opsD P Z (jR P Z K t) is ρ w
 | .Bk _ is t m,ρ,w=>opsD P Z (jR P Z K t) is ρ w/\jR P Z K m ρ w
 | .stop,_,_=>True
def sW (P:Program)(Z:Array Oper):Bool :=
 Region.noSelect Z && iw Z (Region.before Z) &&
 (List.range Z.size).all (fun r => !(gT P Z r == .dD) || (List.range Z.size).all fun k=>rE Z r k) &&
 Z.all (fun o => !(dQ P o.op == .dD) || (match o.dst with|some d => !(o.looksAt Z).contains d|none=>false)) &&
 (List.range Z.size).all (fun j=>decide ((Region.before Z).getD j 0<2 ^ Z.size)) && decide ((Region.before Z).size<=Z.size)
def nf (Z:Array Oper)(c:List Nat)(i:Nat):Bool:=match Z[i]? with|some o=>o.after.all fun e => !Region.binds .any e || c.contains e.on|none=>false
def jA (P:Program)(Z:Array Oper):List Nat->List Nat->PT->Bool
 | c,seen,.j6 is=>seen.isEmpty && decide (is=fh P Z (fD is)) && decide ((fD is).length+c.length=Z.size) && (fD is).all (fun i=>decide (i<Z.size) && !c.contains i) && decide ((fD is).Nodup) && iP Z c (fD is) && l4 P Z (fD is) && (List.range Z.size).all fun j=>c.contains j || (fD is).contains j
 | c,seen,.step i is t=>seen.isEmpty && decide (is=fh P Z [i]) && decide (c.length<Z.size) && !c.contains i && nf Z c i && (List.range Z.size).all (fun j=>c.contains j || j == i || sV P Z i j) && jA P Z (i::c) [] t
 | c,seen,.Bk i is t m=>decide (is=fh P Z [i]) && decide (c.length<Z.size) && !c.contains i && nf Z c i && jA P Z (i::c) [] t && jA P Z c (i::seen) m
 | c,seen,.stop => !seen.isEmpty && (List.range Z.size).all fun j=>c.contains j || seen.contains j || !nf Z c j
def vc (P:Program):Code->(Exit->Fr->World->Prop)->Fr->World->Prop
 | .skip,Q,ρ,w=>Q .normal ρ w
 | .label _,Q,ρ,w=>Q .normal ρ w
 | .seq a b,Q,ρ,w=>vc P a (Thn (vc P b Q) Q) ρ w
 | .cond c x y,Q,ρ,w=>∃ t,aX ρ c=.bool t/\(t=true->vc P x Q ρ w)/\(t=false->vc P y Q ρ w)
 | .block id c,Q,ρ,w=>vc P c (Blk id Q) ρ w
 | .loop c,Q,ρ,w=>∃ (q:Nat->Fr->World->Prop),(∃ m,q m ρ w)/\∀ m ρ w,q m ρ w->vc P c (Thn (fun C w'=>∃ S,S<m/\q S C w') Q) ρ w
 | .exit id,Q,ρ,w=>Q (.exit id) ρ w
 | .ret,Q,ρ,w=>Q .ret ρ w
 | .region _ Z false,Q,ρ,w=>opsW P Z (Q .normal) Z.toList ρ w
 | .region _ Z true,Q,ρ,w=>(qL P Z=true/\opsW P Z (Q .normal) Z.toList ρ { w with drawn:=w.drawn+1 })\/(∃ is,o9 P Z is=true/\opsD P Z (Q .normal) is ρ { w with drawn:=w.drawn+1 })\/∃ T,sW P Z=true/\jA P Z [] [] T=true/\jR P Z (Q .normal) T ρ { w with drawn:=w.drawn+1 }
 | _,_,_,_=>False
def iM (n:Nat)(Z:Array Oper):Bool:=Z.all fun o=>match o.dst with|some d=>decide (d<n)|none=>true
def mV (n:Nat):Code->Bool
 | .seq a b=>mV n a && mV n b
 | .cond _ x y=>mV n x && mV n y
 | .block _ c=>mV n c
 | .loop c=>mV n c
 | .region _ Z _=>iM n Z
 | _=>true
def wz {a:Act}{d:Option Nat}{v:Value}(h:∀ t,d=some t->t<a.tmps.size):fr (a.put d v)=io (fr a) d v:=by
 cases d with
 | none=>rfl
 | some d =>
  funext t
  have q:=h d rfl;simp only[fr,Act.put,io,fa];by_cases c:t=d
  ·subst c;simp[q]
  have:Nat.beq t d=false:=by cases C:Nat.beq t d with|false=>rfl|true=>exact absurd (J3 C) c
  rw[this];simp[uG (Ne.symm c)]
def eZ (a:Act)(d:Option Nat)(v:Value):(a.put d v).tmps.size=a.tmps.size:=by cases d<;>simp[Act.put]
def zL (a:Act)(d:Option Nat)(v:Value):(a.put d v).defers=a.defers:=by cases d<;>rfl
def DT {Z:Array Oper}{a:Act}{o:Oper}{g:Nat × Bool}(I:o.guard=some g) :
  Region.wanted o (yielded Z a.tmps)=gm Z (fr a) g:=by
 obtain⟨j,want⟩:=g;simp only[Region.wanted,I,gm,jz,yielded,fr,sE]
 cases (Z[j]?).bind (·.dst) with
 | none=>simp
 | some t =>
  simp only[yE]
  cases c:a.tmps[t]? with
  | none=>simp[c,undef]
  | some v=>simp[c];cases v<;>simp
section
variable {P:Program}
def Ok (n:Nat)(K:Fr->World->Prop)(a:Act)(w:World):Prop:=a.tmps.size=n/\a.defers=[]/\K (fr a) w
def WY (n:Nat)(Q:Exit->Fr->World->Prop)(e:Exit)(a:Act)(w:World):Prop:=a.tmps.size=n/\a.defers=[]/\Q e (fr a) w
def uH {K K':Value->World->Prop}(h:∀ v w,K v w->K' v w){r:Result Next}(c:cn P K r):cn P K' r:=by
 unfold cn at *
 split at c
 ·exact h _ _ c
 ·exact h _ _ c
 ·exact uD c fun e w' he=>by cases e<;>first|exact h _ _ he|exact he
 ·exact RoundIn.mono c fun e w' he=>by cases e<;>first|exact h _ _ he|exact he
 exact c.elim
def fw (ro:Option Nat):Fence:={ Fence.wide with round:=ro }
def WZ {ro:Option Nat}{f:FuncId}{args:Array Value}{w:World}(h:Calls P f args w R):CallsIn (fw ro) m P f args w R:=(callsIn_wide (n:=m)).2 h
def W1 {ro:Option Nat}{l:Nat}{f:FuncId}{tmps:Array Value}{assign body:Code}{w:World}(h:RoundIn Fence.wide 0 P l f tmps assign body w R):RoundIn (fw ro) m P l f tmps assign body w R :=
 ⟨h.1,fun c cs _=>h.2 c cs (room_wide _)⟩
def W2 {o:Oper}{ρ:Fr}{w:World}{K:Value->World->Prop}(h:opW P o ρ w K):∀ c,o.op≠.defer c:=by
 intro c q;unfold opW execOp at h;simp only[q]at h;simp only[eR]at h;generalize (resolve (aX ρ) c o.type).run P w=r at h;cases r<;>exact h
def W3 {ro:Option Nat}{o:Oper}{a:Act}{w:World}{K:Value->World->Prop}{Q:Exit->Act->World->Prop}(h:opW P o (fr a) w K):o.wpIn (fw ro) m P a w (fun C w'=>∃ v,C=a.put o.dst v/\K v w') Q:=by
 refine⟨fun _ _=>trivial,?_⟩;rw[Oper.semAt_eq _ _ _ (W2 h)];unfold opW at h;rw[qZ]at h;generalize (execOp a.eval o).run P w=r at *
 unfold cn at h;split at h
 ·exact⟨_,rfl,h⟩
 ·exact⟨_,rfl,h⟩
 ·refine⟨fun q=>absurd q (by simp[fw,Fence.wide]),CallsIn.mono (WZ h) fun e w' he=>?_⟩
  cases e with
  | returned v=>exact⟨_,rfl,he⟩
  | panicked c=>exact he.elim
  | outgrown=>exact he.elim
 ·refine⟨fun q=>absurd q (by simp[fw,Fence.wide]),RoundIn.mono (W1 h) fun e w' he=>?_⟩
  cases e with
  | returned v=>exact⟨_,rfl,he⟩
  | panicked c=>exact he.elim
  | outgrown=>exact he.elim
 exact h.elim
def gq (P:Program)(o:Oper)(a:Act)(w:World)(K:Act->World->Prop):Prop :=
 match dQ P o.op with
 | .pure=>∃ v,(∀ w,(execOp a.eval o).run P w=.ok (.value v) w)/\K (a.put o.dst v) w
 | .dD=>∃ v,(execOp a.eval o).run P w=.ok (.value v) w/\K (a.put o.dst v) w
 | .fc=>cn P (fun v w'=>K (a.put o.dst v) w') ((execOp a.eval o).run P w)
def qC (P:Program)(Z:Array Oper)(o:Oper)(K:Act->World->Prop)(a:Act)(w:World):Prop :=
 (Region.wanted o (yielded Z a.tmps)=true->gq P o a w K)/\(Region.wanted o (yielded Z a.tmps)=false->K (a.put o.dst undef) w)
def DU {o:Oper}{a:Act}{w:World}{K:Act->World->Prop}(h:∀ u w',K (a.put o.dst u) w'->K' (a.put o.dst u) w')(c:gq P o a w K):gq P o a w K':=by
 unfold gq at *
 split at c
 ·obtain⟨v,h1,q⟩:=c;exact⟨v,h1,h _ _ q⟩
 ·obtain⟨v,h1,q⟩:=c;exact⟨v,h1,h _ _ q⟩
 exact uH (fun v w'=>h v w') c
def zW {Z:Array Oper}{o:Oper}{a:Act}{w:World}{K:Act->World->Prop}(h:∀ u w',K (a.put o.dst u) w'->K' (a.put o.dst u) w')(c:qC P Z o K a w):qC P Z o K' a w :=
 ⟨fun Y=>DU h (c.1 Y),fun Y=>h _ _ (c.2 Y)⟩
def GQ {K:Value->World->Prop}{r:Result Next}(h:cn P K r):∃ v w',K v w':=by
 unfold cn at h;split at h
 ·exact⟨_,_,h⟩
 ·exact⟨_,_,h⟩
 ·obtain⟨e,w',C,q,_⟩:=h []
  cases e with
  | returned v=>exact⟨_,_,q⟩
  | panicked c=>exact q.elim
  | outgrown=>exact q.elim
 ·obtain⟨e,w',q,_⟩:=h.2 default [] (room_wide _)
  cases e with
  | returned v=>exact⟨_,_,q⟩
  | panicked c=>exact q.elim
  | outgrown=>exact q.elim
 exact h.elim
def W4 {o:Oper}{a:Act}{w:World}{K:Act->World->Prop}(h:gq P o a w K):∃ v w',K (a.put o.dst v) w':=by
 unfold gq at h;split at h
 ·obtain⟨v,_,c⟩:=h;exact⟨_,_,c⟩
 ·obtain⟨v,_,c⟩:=h;exact⟨_,_,c⟩
 exact GQ h
def W5 {Z:Array Oper}{o:Oper}{a:Act}{w:World}{K:Act->World->Prop}(h:qC P Z o K a w):∃ v w',K (a.put o.dst v) w':=by
 cases Y:Region.wanted o (yielded Z a.tmps) with
 | true=>exact W4 (h.1 Y)
 | false=>exact⟨_,_,h.2 Y⟩
def Pp {Z:Array Oper}{v:Value}(q:D.apart Z F=true)(C:∀ cs b,F.op≠.select cs b){K:Act->World->Prop}{a:Act}{w:World}(h:gq P F (a.put D.dst v) w K):gq P F a w fun V w'=>K (V.put D.dst v) w':=by
 obtain⟨h1,S,h3⟩:=Ct q;unfold gq at *
 rw[execOp_put F C a D.dst v h1]at h;split
 ·rename_i c;simp only[c]at h
  obtain⟨u,hu,hk⟩:=h;exact⟨u,hu,(by have an:=hk;rw[q6 a v u S]at an;exact an)⟩
 ·rename_i c;simp only[c]at h
  obtain⟨u,hu,hk⟩:=h;exact⟨u,hu,(by have an:=hk;rw[q6 a v u S]at an;exact an)⟩
 rename_i c;simp only[c]at h;exact uH (fun u w' hk=>(by have an:=hk;rw[q6 a v u S]at an;exact an)) h
def W6 {Z:Array Oper}{v:Value}(c:D.apart Z F=true)(q:∀ cs b,F.op≠.select cs b){K:Act->World->Prop}{a:Act}{w:World}(h:qC P Z F K (a.put D.dst v) w):qC P Z F (fun C w'=>K (C.put D.dst v) w') a w:=by
 obtain⟨h1,S,V⟩:=Ct c;unfold qC at *
 rw[wanted_put F a D.dst v h1]at h;exact⟨fun Y=>Pp c q (h.1 Y),fun Y=>(by have an:=h.2 Y;rw[q6 a v undef S]at an;exact an)⟩
def W7 {Z:Array Oper}(j':D.apart Z F=true)(H':j2 P D.op F.op=true)(R':∀ cs b,D.op≠.select cs b)(J':∀ cs b,F.op≠.select cs b){K:Act->World->Prop}{a:Act}{w:World}(h:qC P Z D (qC P Z F K) a w):qC P Z F (qC P Z D K) a w:=by
 obtain⟨h1,h2,h3⟩:=Ct j';have wi:∀ u,Region.wanted D (yielded Z (a.put F.dst u).tmps)=Region.wanted D (yielded Z a.tmps):=fun u=>wanted_put D a F.dst u h3;have wj:∀ u,Region.wanted F (yielded Z (a.put D.dst u).tmps)=Region.wanted F (yielded Z a.tmps):=fun u=>wanted_put F a D.dst u h1;have ei:∀ u,execOp (a.put F.dst u).eval D=execOp a.eval D:=fun u=>execOp_put D R' a F.dst u h3;have ej:∀ u,execOp (a.put D.dst u).eval F=execOp a.eval F:=fun u=>execOp_put F J' a D.dst u h1
 cases S:Region.wanted D (yielded Z a.tmps) with
 | false =>
  refine zW (fun u w' hk=>?_) (W6 j' J' (h.2 S))
  exact⟨fun Y=>(by rw[wi u,S]at Y;cases Y),fun _=>hk⟩
 | true =>
  have hi:=h.1 S
  cases V:Region.wanted F (yielded Z a.tmps) with
  | false =>
   refine⟨fun Y=>(by rw[V]at Y;cases Y),fun _=>⟨fun _=>?_,fun Y=>(by rw[wi,S]at Y;cases Y)⟩⟩;have c:gq P D a w fun a' w'=>K (a'.put F.dst undef) w':=DU (fun u w' hk=>hk.2 (by rw[wj u,V])) hi;unfold gq at c ⊢;rw[ei];split
   ·rename_i q;simp only[q]at c;obtain⟨v,hv,hk⟩:=c;exact⟨v,hv,(by have an:=hk;rw[q6 a v undef h2]at an;exact an)⟩
   ·rename_i q;simp only[q]at c;obtain⟨v,hv,hk⟩:=c;exact⟨v,hv,(by have an:=hk;rw[q6 a v undef h2]at an;exact an)⟩
   rename_i q;simp only[q]at c;exact uH (fun v w' hk=>(by have an:=hk;rw[q6 a v undef h2]at an;exact an)) c
  | true =>
   refine⟨fun _=>?_,fun Y=>(by rw[V]at Y;cases Y)⟩;have c:gq P D a w fun a' w'=>gq P F a' w' K:=DU (fun u w' hk=>hk.1 (by rw[wj u,V])) hi;have done:gq P F a w (fun a' w'=>gq P D a' w' K)->gq P F a w (qC P Z D K):=DU (fun u w' hk=>⟨fun _=>hk,fun Y=>(by rw[wi u,S]at Y;cases Y)⟩);refine done ?_;clear hi h done
   cases q:dQ P D.op with
   | pure =>
    unfold gq at c;simp only[q]at c;obtain⟨v,hv,hk⟩:=c;refine DU (fun u w' hk=>?_) (Pp j' J' (K:=K) (v:=v) hk)
    unfold gq;simp only[q];rw[ei u];exact⟨v,hv,hk⟩
   | dD =>
    cases C:dQ P F.op with
    | pure =>
     unfold gq at c ⊢;simp only[q,C]at c ⊢;obtain⟨v,hv,u,hu,hk⟩:=c;rw[ej v]at hu
     exact⟨u,hu,v,by rw[ei u];exact hv,(by have an:=hk;rw[q6 a v u h2]at an;exact an)⟩
    | dD =>
     unfold gq at c ⊢;simp only[q,C]at c ⊢;obtain⟨v,hv,u,hu,hk⟩:=c;rw[ej v]at hu
     exact⟨u,hu,v,by rw[ei u];exact hv,(by have an:=hk;rw[q6 a v u h2]at an;exact an)⟩
    | fc=>simp[j2,q,C]at H'
   | fc =>
    cases C:dQ P F.op with
    | pure =>
     unfold gq at c ⊢;simp only[q,C]at c ⊢;obtain⟨v0,w0,u,hu,_⟩:=GQ c;rw[ej v0]at hu;refine⟨u,hu,?_⟩;rw[ei u];refine uH (fun v w' hk=>?_) c;obtain⟨u',P',hk⟩:=hk;rw[ej v]at P';have he:=(hu w').symm.trans (P' w');simp only[Result.ok.injEq,Next.value.injEq,GF]at he;subst he
     rw[<-q6 a v u h2];exact hk
    | dD=>simp[j2,q,C]at H'
    | fc=>simp[j2,q,C]at H'
def oJ (P:Program)(Z:Array Oper)(i:Nat)(K:Act->World->Prop)(a:Act)(w:World):Prop :=
 match Z[i]? with
 | none=>K a w
 | some o=>qC P Z o K a w
def ng (P:Program)(Z:Array Oper)(K:Act->World->Prop):Nat->Array Bool->Act->World->Prop
 | 0,listed,a,w=>Region.ready .any Z listed=[]/\K a w
 | fuel+1,listed,a,w=>(Region.ready .any Z listed=[]->K a w) /\
  ∀ i∈Region.ready .any Z listed,oJ P Z i (ng P Z K fuel (listed.setIfInBounds i true)) a w
def GR {Z:Array Oper}{K:Act->World->Prop}{Q:Exit->Act->World->Prop}{a:Act}{w:World}{ro:Option Nat}(h:oJ P Z i K a w):wpOpIn (fw ro) m P Z Q i K a w:=by
 unfold oJ at h;unfold wpOpIn;split
 ·rename_i c;simp only[c]at h;exact h
 rename_i o c;simp only[c]at h;split
 ·rename_i Y
  have hv:=h.1 Y;have q:opW P o (fr a) w fun v w'=>K (a.put o.dst v) w':=by
   unfold opW;rw[qZ];unfold gq at hv;split at hv
   ·obtain⟨v,hv,hk⟩:=hv;rw[hv w];exact hk
   ·obtain⟨v,hv,hk⟩:=hv;rw[hv];exact hk
   exact hv
  exact Oper.wpIn_mono (fun C w' ⟨v,e,hk⟩=>by subst e;exact hk) (W3 q)
 rename_i Y;exact⟨fun _ _=>trivial,h.2 (by simpa using Y)⟩
def Ki {ro:Option Nat}{m:Nat}{Z:Array Oper}{K:Act->World->Prop}{Q:Exit->Act->World->Prop}(c:∀ a w,K a w->Q .normal a w):∀ (fuel:Nat) (listed:Array Bool) (a:Act) (w:World),
  ng P Z K fuel listed a w->wpAnyIn (fw ro) m P .any Z Q fuel listed a w
 | 0,_,_,_,h=>⟨h.1,c _ _ h.2⟩
 | fuel+1,_,_,_,h=>⟨fun C=>c _ _ (h.1 C),fun i hi=>GR (by
   have:=h.2 i hi;unfold oJ at this ⊢;split
   ·rename_i q;simp only[q]at this;exact Ki c fuel _ _ _ this
   rename_i o q;simp only[q]at this;exact zW (fun u w' hk=>Ki c fuel _ _ _ hk) this)⟩
def rk (Z:Array Oper)(listed:Array Bool):Prop:=∀ j i,listed.getD j false=true->((Region.before Z).getD j 0).testBit i=true->listed.getD i false=true
def Kj {Z:Array Oper}(S:iw Z (Region.before Z)=true){j:Nat}(C:Z[j]? = some F)(hi:i<Z.size)(V:((Region.before Z).getD j 0).testBit i=true) :
  ∃ e∈F.after,Region.binds .any e=true/\(e.on=i\/((Region.before Z).getD e.on 0).testBit i=true):=by
 have q:j<Z.size:=(kV.1 C).1;have h1:=all_eq_true.1 (all_eq_true.1 S j (mem_range.2 q)) i (mem_range.2 hi);simp only[V,nq,tt,C]at h1;obtain⟨e,he,c⟩:=Array.any_eq_true'.1 h1;simp only[Bool.and_eq_true,pO,sq]at c;exact⟨e,he,c.1,c.2⟩
def zX {listed:Array Bool}(h:listed.getD i true=false):listed.getD i false=false/\i<listed.size:=by
 rcases ns i listed.size with c|c
 ·simp[c]at h ⊢;exact h
 simp[tI c]at h
def Kk {Z:Array Oper}(hc:iw Z (Region.before Z)=true){listed:Array Bool}(hd:rk Z listed)(hs:listed.size=Z.size){j:Nat}(hi:listed.getD i true=false)(hj:j∈Region.ready .any Z listed):((Region.before Z).getD j 0).testBit i=false:=by
 obtain⟨_,F,V,C⟩:=mem_ready.1 hj
 cases hb:((Region.before Z).getD j 0).testBit i with
 | false=>rfl
 | true =>
  obtain⟨S,j'⟩:=zX hi;obtain⟨e,he,c,q⟩:=Kj hc V U hb;have hl:=C e he c;rcases q with rfl|q
  ·rw[S]at hl;cases hl
  have:=hd _ _ hl q;rw[S]at this;cases this
def GS {Z:Array Oper}(hc:iw Z (Region.before Z)=true){listed:Array Bool}(hd:rk Z listed){j:Nat}(hj:j∈Region.ready .any Z listed)
  (V:∀ k i,((Region.before Z).getD k 0).testBit i=true->i<Z.size):rk Z (listed.setIfInBounds j true):=by
 obtain⟨_,F,j',C⟩:=mem_ready.1 hj;intro k i hk hb;by_cases S:j=k
 ·subst S
  obtain⟨e,he,c,q⟩:=Kj hc j' (V _ _ hb) hb;have hl:=C e he c;rcases q with rfl|q
  ·exact getD_set_true hl
  exact getD_set_true (hd _ _ hl q)
 rw[getD_set_ne false S]at hk;exact getD_set_true (hd _ _ hk hb)
def W8 {Z:Array Oper}{K:Act->World->Prop}(hc:iw Z (Region.before Z)=true)(J':∀ k i,((Region.before Z).getD k 0).testBit i=true->i<Z.size)(S:∀ (j:Nat) (o:Oper) cs b,Z[j]? = some o->o.op≠.select cs b)(hi:Z[i]? = some D) :
  ∀ (fuel:Nat) (listed:Array Bool) (a:Act) (w:World),listed.size=Z.size->rk Z listed ->
   (∀ j F,Z[j]? = some F->j≠i->listed.getD j true=false->((Region.before Z).getD j 0).testBit i=false->D.apart Z F=true/\j2 P D.op F.op=true) ->
   i∈Region.ready .any Z listed->qC P Z D (ng P Z K fuel (listed.setIfInBounds i true)) a w->ng P Z K (fuel+1) listed a w:=by
 intro fuel
 induction fuel with
 | zero =>
  intro listed a w hs hd q hr H;refine⟨fun h=>(by rw[h]at hr;cases hr),fun j hj=>?_⟩;by_cases c:j=i
  ·subst c;unfold oJ;rw[hi];exact H
  obtain⟨v,w',hk⟩:=W5 H;have:=ready_mono hj c
  rw[hk.1]at this;cases this
 | succ fuel ih =>
  intro listed a w hs hd q hr H;refine⟨fun h=>(by rw[h]at hr;cases hr),fun j hj=>?_⟩;by_cases c:j=i
  ·subst c;unfold oJ;rw[hi];exact H
  obtain⟨V,F,C,_⟩:=mem_ready.1 hj;have P':=(mem_ready.1 hr).1;have R':=Kk hc hd hs P' hj;obtain⟨T',V'⟩:=q j F C c V R'
  have h1:qC P Z D (qC P Z F (ng P Z K fuel ((listed.setIfInBounds i true).setIfInBounds j true))) a w :=
   zW (fun u w' hk=>by have:=hk.2 j (ready_mono hj c);unfold oJ at this;rw[C]at this;exact this) H
  have h2:=W7 T' V' (fun cs b=>S i D cs b hi) (fun cs b=>S j F cs b C) h1;unfold oJ;rw[C];refine zW (fun u w' hk=>?_) h2;rw[Pd _ _ (Ne.symm c)]at hk;refine ih (listed.setIfInBounds j true) _ w' (by simpa using hs) (GS hc hd hj J') (fun k ok bI _a j' _b=>q k ok bI _a ?_ _b) (ready_mono hr (Ne.symm c)) hk;by_cases H':j=k
  ·subst H';exact V
  rw[getD_set_ne true H']at j';exact j'
def BZ (Z:Array Oper)(k:Nat)(listed:Array Bool):Prop:=listed.size=Z.size/\∀ j,j<Z.size->∀ d,listed.getD j d=decide (j<k)
def W9 {Z:Array Oper}(hc:iw Z (Region.before Z)=true)(S:∀ j F,Z[j]? = some F->∀ e∈F.after,Region.binds .any e=true->e.on<j) :
  ∀ j i,i<Z.size->j<Z.size->((Region.before Z).getD j 0).testBit i=true->i<j:=by
 intro j
 induction j using Nat.strongRecOn with
 | _ j ih =>
  intro i hi hj hb;obtain⟨F,C⟩:∃ F,Z[j]? = some F:=⟨Z[j],by simp[hj]⟩
  obtain⟨e,he,c,q⟩:=Kj hc C hi hb;have V:=S j F C e he c;rcases q with rfl|q
  ·exact V
  exact Nat.lt_trans (ih e.on V i hi U q) V
def Pq {Z:Array Oper}{o:Oper}{r:List Oper}{K:Fr->World->Prop}{a:Act}{w:World}(C:∀ d,o.dst=some d->d<n)(hs:a.tmps.size=n)(hd:a.defers=[])(h:opsW P Z K (o::r) (fr a) w):qC P Z o (fun q w'=>q.tmps.size=n/\q.defers=[]/\opsW P Z K r (fr q) w') a w:=by
 have S:∀ v,fr (a.put o.dst v)=io (fr a) o.dst v:=fun v=>wz fun t ht=>by rw[hs];exact C t ht
 have c:∀ v w',opsW P Z K r (io (fr a) o.dst v) w'->(a.put o.dst v).tmps.size=n/\(a.put o.dst v).defers=[]/\opsW P Z K r (fr (a.put o.dst v)) w' :=
  fun v w' hk=>⟨by rw[eZ,hs],by rw[zL,hd],by rw[S];exact hk⟩
 have V:opV P o (fr a) w (opsW P Z K r)->gq P o a w fun q w'=>q.tmps.size=n/\q.defers=[]/\opsW P Z K r (fr q) w':=by
  intro h;unfold opV at h;unfold gq;split at h
  ·obtain⟨v,hv,hk⟩:=h
   unfold PureV at hv;rw[qZ]at hv;exact⟨v,hv,c _ _ hk⟩
  ·obtain⟨v,hv,hk⟩:=h
   unfold ReadV at hv;rw[qZ]at hv;exact⟨v,hv,c _ _ hk⟩
  unfold opW at h;rw[qZ]at h;exact uH (fun v w' hk=>c _ _ hk) h
 simp only[opsW]at h
 cases I:o.guard with
 | none =>
  simp only[I]at h;refine⟨fun _=>V h,fun Y=>?_⟩
  simp[Region.wanted,I]at Y
 | some g =>
  simp only[I]at h;unfold qC;rw[DT I];exact⟨fun Y=>V (h.1 Y),fun Y=>c _ _ (h.2 Y)⟩
def Xa {Z:Array Oper}{K:Fr->World->Prop}(_f:qL P Z=true)(_c:iM n Z=true)
  :
  ∀ (l:List Oper) (k:Nat) (listed:Array Bool) (a:Act) (w:World),(∀ j,l[j]? = Z[k+j]?)->k+l.length=Z.size->BZ Z k listed ->
   a.tmps.size=n->a.defers=[]->opsW P Z K l (fr a) w->ng P Z (Ok n K) l.length listed a w:=by
 have H':=_f;simp only[qL,Bool.and_eq_true]at H';obtain⟨⟨⟨_d,hc⟩,R'⟩,T'⟩:=H';have J':∀ j F,Z[j]? = some F->∀ e∈F.after,Region.binds .any e=true->e.on<j:=by
  intro j F q e he c;have h1:=all_eq_true.1 T' j (mem_range.2 (kV.1 q).1);simp only[q,Bool.and_eq_true]at h1;have C:=wm.1 h1.1.1 e he
  simpa [c] using C
 have _e:∀ k i,((Region.before Z).getD k 0).testBit i=true->i<Z.size:=by
  intro k i c;rcases ns k Z.size with hk|hk
  ·have h1:=all_eq_true.1 T' k (mem_range.2 hk)
   have bI:Z[k]? = some Z[k]:=by simp[hk]
   simp only[bI,Bool.and_eq_true,gR]at h1;rcases ns i Z.size with hi|hi
   ·exact hi
   have:=Cu (A4 h1.1.2 (ym U hi));rw[this]at c;cases c
  rcases uC Z.size with V|V
  ·have:Z=#[]:=by simpa using V
   subst this;simp[Region.before]at c
  have h1:=all_eq_true.1 T' 0 (mem_range.2 V);have bI:Z[0]? = some Z[0]:=by simp[V]
  simp only[bI,Bool.and_eq_true,gR]at h1;have:(Region.before Z).getD k 0=0:=by
   have:(Region.before Z).size<=k:=U;simp[tI this]
  rw[this]at c;simp at c
 intro l
 induction l with
 | nil =>
  intro k listed a w hl hk C hs hd h;refine⟨?_,hs,hd,h⟩;rcases hr:Region.ready .any Z listed with _|⟨x,xs⟩
  ·rfl
  have hx:x∈Region.ready .any Z listed:=by rw[hr];exact gA
  obtain⟨S,ox,P',_⟩:=mem_ready.1 hx;have j':=(kV.1 P').1;rw[C.2 x j']at S;simp only[length_nil,zQ]at hk
  simp[hk,j']at S
 | cons o r ih =>
  intro k listed a w hl hk C hs hd h;simp only[length_cons]at hk;have V:Z[k]? = some o:=by simpa using (hl 0).symm
  have _g:k<Z.size:=U;have _h:∀ d,o.dst=some d->d<n:=by
   intro d S;have:=wm.1 _c o (yF V)
   simpa [S] using this
  have j':k∈Region.ready .any Z listed:=by
   refine mem_ready.2 ⟨by rw[C.2 k _g];simp,o,V,fun e he c=>?_⟩;have:=J' k o V e he c;rw[C.2 e.on U];simpa using this
  have V':rk Z listed:=by
   intro j i q c;have P':=_e _ _ c;have S:j<Z.size:=by
    rcases ns j listed.size with h'|h'
    ·rw[C.1]at h';exact h'
    simp[tI h']at q
   have _a:=W9 hc J' j i P' S c;rw[C.2 j S]at q;rw[C.2 i P'];simp at q ⊢;omega
  have _a:∀ j F,Z[j]? = some F->j≠k->listed.getD j true=false->((Region.before Z).getD j 0).testBit k=false->o.apart Z F=true/\j2 P o.op F.op=true:=by
   intro j F q _b P' c;have S:=(kV.1 q).1;rw[C.2 j S]at P';have _i:k<j:=by simp at P';omega
   have h1:=all_eq_true.1 (all_eq_true.1 R' j (mem_range.2 S)) k (mem_range.2 _i);simp only[td,c,tt,V,q,Bool.and_eq_true]at h1;exact h1
  refine W8 hc _e (J4 _d) V r.length listed a w C.1 V' _a j' ?_;refine zW (fun u w' an => ?_) (Pq _h hs hd h);refine ih (k+1) _ _ _ (fun j=>by have:=hl (j+1);simpa [zT,GI 1 j] using this) U ⟨by simpa using C.1,fun j q d=>?_⟩ an.1 an.2.1 an.2.2;by_cases _b:k=j
  ·subst _b
   have:k<listed.size:=by rw[C.1];exact q
   simp[this]
  rw[getD_set_ne d _b,C.2 j q d];by_cases c:j<k
  ·simp[c];omega
  have:¬j<k+1:=U;simp[c,this]
def Xb {ro:Option Nat}{id:Nat}{Z:Array Oper}{K:Fr->World->Prop}{a:Act}{w:World}{Q:Exit->Act->World->Prop}(hQ:∀ a w,Ok n K a w->Q .normal a w)(c:iM n Z=true)(q:a.tmps.size=n)(C:a.defers=[])(h:opsW P Z K Z.toList (fr a) w):(Code.region id Z false).wpIn (fw ro) m P Q a w:=by
 refine wpIn_region ?_
 have key:∀ (l:List Oper) (k:Nat) (a:Act) (w:World),(∀ j,l[j]? = Z[k+j]?)->k+l.length=Z.size->a.tmps.size=n->a.defers=[]->opsW P Z K l (fr a) w ->
   wpOpsIn (fw ro) m P Z Q ((range' k l.length)) a w:=by
  intro l
  induction l with
  | nil=>intro k a w _ _ q C h;exact hQ _ _ ⟨q,C,h⟩
  | cons o r ih =>
   intro k a w hl hk q C h;have h0:Z[k]? = some o:=by simpa using (hl 0).symm
   have S:∀ d,o.dst=some d->d<n:=by
    intro d V;have:=wm.1 c o (yF h0)
    simpa [V] using this
   simp only[length_cons,range'_succ];rw[wpOpsIn_cons];refine GR ?_;unfold oJ;rw[h0];refine zW (fun u w' an => ?_) (Pq S q C h);simp only[length_cons]at hk;exact ih (k+1) _ _ (fun j=>by have:=hl (j+1);simpa [zT,GI 1 j] using this) U an.1 an.2.1 an.2.2
 have:=key Z.toList 0 a w sm sm q C h
 simpa [range_eq_range'] using this
def pd (P:Program)(Z:Array Oper)(i:Nat)(a:Act)(w:World):Prop :=
 ∀ D,Z[i]? = some D->Region.wanted D (yielded Z a.tmps)=true->∀ d,D.dst=some d->(execOp a.eval D).run P w=.ok (.value (a.tmps.getD d undef)) w
def dW (P:Program)(Z:Array Oper)(listed:Array Bool)(j:Nat)(o:Oper)(a:Act)(w:World)(K:Act->World->Prop):Prop :=
 match dQ P o.op with
 | .pure=>∃ v,(∀ w,(execOp a.eval o).run P w=.ok (.value v) w)/\K (a.put o.dst v) w
 | .dD=>∃ v,(execOp a.eval o).run P w=.ok (.value v) w/\K (a.put o.dst v) w
 | .fc=>cn P (fun v w'=>(∀ r∈gZ P Z j,listed.getD r false=true->pd P Z r a w')/\K (a.put o.dst v) w') ((execOp a.eval o).run P w)
def jS (P:Program)(Z:Array Oper)(listed:Array Bool)(j:Nat)(o:Oper)(K:Act->World->Prop)(a:Act)(w:World):Prop :=
 (Region.wanted o (yielded Z a.tmps)=true->dW P Z listed j o a w K)/\(Region.wanted o (yielded Z a.tmps)=false->K (a.put o.dst undef) w)
def Bl {Z:Array Oper}{listed:Array Bool}{j:Nat}{o:Oper}{a:Act}{w:World}{K:Act->World->Prop}(h:∀ u w',K (a.put o.dst u) w'->K' (a.put o.dst u) w')(c:dW P Z listed j o a w K):dW P Z listed j o a w K':=by
 unfold dW at *
 split at c
 ·obtain⟨v,h1,q⟩:=c;exact⟨v,h1,h _ _ q⟩
 ·obtain⟨v,h1,q⟩:=c;exact⟨v,h1,h _ _ q⟩
 exact uH (fun v w' hk=>⟨hk.1,h v w' hk.2⟩) c
def DV {Z:Array Oper}{listed:Array Bool}{j:Nat}{o:Oper}{a:Act}{w:World}{K:Act->World->Prop}(h:∀ u w',K (a.put o.dst u) w'->K' (a.put o.dst u) w')(c:jS P Z listed j o K a w):jS P Z listed j o K' a w :=
 ⟨fun Y=>Bl h (c.1 Y),fun Y=>h _ _ (c.2 Y)⟩
def Xc {Z:Array Oper}{listed:Array Bool}{j:Nat}{o:Oper}{a:Act}{w:World}{K:Act->World->Prop}(h:dW P Z listed j o a w K):∃ v w',K (a.put o.dst v) w':=by
 unfold dW at h;split at h
 ·obtain⟨v,_,c⟩:=h;exact⟨_,_,c⟩
 ·obtain⟨v,_,c⟩:=h;exact⟨_,_,c⟩
 obtain⟨v,w',_,c⟩:=GQ h;exact⟨_,_,c⟩
def Xd {Z:Array Oper}{listed:Array Bool}{j:Nat}{o:Oper}{a:Act}{w:World}{K:Act->World->Prop}(h:jS P Z listed j o K a w):∃ v w',K (a.put o.dst v) w':=by
 cases Y:Region.wanted o (yielded Z a.tmps) with
 | true=>exact Xc (h.1 Y)
 | false=>exact⟨_,_,h.2 Y⟩
def Xe {Z:Array Oper}{listed:Array Bool}{j:Nat}{o:Oper}{a:Act}{w:World}{K:Act->World->Prop}(h:dW P Z listed j o a w K):gq P o a w K:=by
 unfold dW at h;unfold gq;split
 ·rename_i c;simp only[c]at h;exact h
 ·rename_i c;simp only[c]at h;exact h
 rename_i c;simp only[c]at h;exact uH (fun v w' hk=>hk.2) h
def Xf {Z:Array Oper}{listed:Array Bool}{j:Nat}{o:Oper}{a:Act}{w:World}{K:Act->World->Prop}(h:jS P Z listed j o K a w):qC P Z o K a w:=⟨fun Y=>Xe (h.1 Y),h.2⟩
def my (Z:Array Oper)(r:Nat)(o:Oper):Prop:=∀ c,Z[r]? = some c->(∀ d,o.dst=some d->d∉c.looksAt Z)/\∀ d,o.dst=some d->c.dst≠some d
def GT {Z:Array Oper}{r:Nat}{o:Oper}{a:Act}{w:World}(v:Value)(hs:my Z r o)(C:∀ c cs b,Z[r]? = some c->c.op≠.select cs b):pd P Z r (a.put o.dst v) w↔pd P Z r a w:=by
 unfold pd;constructor
 ·intro h c q Y d V
  obtain⟨h1,h2⟩:=hs c q;have:=h c q (by rw[wanted_put c a o.dst v h1];exact Y) d V;rw[execOp_put c (fun cs b=>C c cs b q) a o.dst v h1]at this;have I:(a.put o.dst v).tmps.getD d undef=a.tmps.getD d undef:=by
   cases ho:o.dst with
   | none=>rfl
   | some d' =>
    have S:d'≠d:=fun e=>h2 d' ho (e ▸ V);simp[Act.put,uG S]
  rw[I]at this;exact this
 intro h c q Y d V;obtain⟨h1,h2⟩:=hs c q;rw[wanted_put c a o.dst v h1]at Y;have:=h c q Y d V;rw[execOp_put c (fun cs b=>C c cs b q) a o.dst v h1];have I:(a.put o.dst v).tmps.getD d undef=a.tmps.getD d undef:=by
  cases ho:o.dst with
  | none=>rfl
  | some d' =>
   have S:d'≠d:=fun e=>h2 d' ho (e ▸ V);simp[Act.put,uG S]
 rw[I];exact this
def DW {Z:Array Oper}{r j:Nat}(h:r∈gZ P Z j):gT P Z r=.dD/\r≠j:=by
 simp only[gZ,rP,Bool.and_eq_true,sq,xT,beq_eq_false_iff_ne]at h;exact⟨h.2.1.1.1,h.2.1.1.2⟩
def Kl {Z:Array Oper}{listed:Array Bool}{j:Nat}{v:Value}(c:∀ (k:Nat) (o:Oper) cs b,Z[k]? = some o->o.op≠.select cs b)(q:D.apart Z F=true)(C:∀ cs b,F.op≠.select cs b){K:Act->World->Prop}{a:Act}{w:World}(S:∀ r,listed.getD r false=true->gT P Z r=.dD->my Z r D)(h:dW P Z (listed.setIfInBounds i true) j F (a.put D.dst v) w K):dW P Z listed j F a w fun a' w'=>(dQ P F.op=.fc->∀ r∈gZ P Z j,(listed.setIfInBounds i true).getD r false=true->pd P Z r (a.put D.dst v) w')/\K (a'.put D.dst v) w':=by
 obtain⟨h1,V,h3⟩:=Ct q;unfold dW at *
 rw[execOp_put F C a D.dst v h1]at h
 cases hc:dQ P F.op with
 | pure =>
  simp only[hc]at h ⊢;obtain⟨u,hu,hk⟩:=h
  exact⟨u,hu,fun e=>(by cases e),by have an:=hk;rw[q6 a v u V]at an;exact an⟩
 | dD =>
  simp only[hc]at h ⊢;obtain⟨u,hu,hk⟩:=h
  exact⟨u,hu,fun e=>(by cases e),by have an:=hk;rw[q6 a v u V]at an;exact an⟩
 | fc =>
  simp only[hc]at h ⊢;refine uH (fun u w' hk=>⟨fun r hr hl=>?_,fun _=>hk.1,by have an:=hk.2;rw[q6 a v u V]at an;exact an⟩) h;exact(GT v (S r hl (DW hr).1) (fun j' cs b ho=>c r j' cs b ho)).1 (hk.1 r hr (getD_set_true hl))
def Pr {Z:Array Oper}{listed:Array Bool}{j:Nat}(c:∀ (k:Nat) (o:Oper) cs b,Z[k]? = some o->o.op≠.select cs b)(C:D.apart Z F=true)(S:∀ cs b,D.op≠.select cs b)(V:dQ P D.op=.fc->j∉gZ P Z i){K:Act->World->Prop}{a:Act}{w:World}(j':∀ r,listed.getD r false=true->gT P Z r=.dD->my Z r F)(h:dW P Z listed i D a w fun a' w'=>K (a'.put F.dst u) w'):dW P Z (listed.setIfInBounds j true) i D (a.put F.dst u) w K:=by
 obtain⟨h1,h2,h3⟩:=Ct C;unfold dW at *
 rw[execOp_put D S a F.dst u h3]
 cases q:dQ P D.op with
 | pure =>
  simp only[q]at h ⊢;obtain⟨v,hv,hk⟩:=h
  exact⟨v,hv,by have an:=hk;rw[q6 a v u h2]at an;exact an⟩
 | dD =>
  simp only[q]at h ⊢;obtain⟨v,hv,hk⟩:=h
  exact⟨v,hv,by have an:=hk;rw[q6 a v u h2]at an;exact an⟩
 | fc =>
  simp only[q]at h ⊢;refine uH (fun v w' hk=>⟨fun r hr hl=>?_,by have an:=hk.2;rw[q6 a v u h2]at an;exact an⟩) h;have H':r≠j:=fun e=>V q (e ▸ hr);rw[getD_set_ne false (Ne.symm H')]at hl;exact(GT u (j' r hl (DW hr).1) (fun J' cs b ho=>c r J' cs b ho)).2 (hk.1 r hr hl)
section
variable {Z:Array Oper}{listed:Array Bool}{j:Nat}{o:Oper}{a:Act}{w:World}{K:Act->World->Prop}
def zY (c:dQ P o.op=.pure):dW P Z listed j o a w K=∃ v,(∀ w,(execOp a.eval o).run P w=.ok (.value v) w)/\K (a.put o.dst v) w:=by unfold dW;rw[c]
def Bm (c:dQ P o.op=.dD):dW P Z listed j o a w K=∃ v,(execOp a.eval o).run P w=.ok (.value v) w/\K (a.put o.dst v) w:=by unfold dW;rw[c]
def GU (c:dQ P o.op=.fc):dW P Z listed j o a w K=cn P (fun v w'=>(∀ r∈gZ P Z j,listed.getD r false=true->pd P Z r a w')/\K (a.put o.dst v) w') ((execOp a.eval o).run P w):=by unfold dW;rw[c]
end
def E9 {Z:Array Oper}{listed:Array Bool}{j:Nat}(q:∀ (k:Nat) (o:Oper) cs b,Z[k]? = some o->o.op≠.select cs b)(hi:Z[i]? = some D)(hj:Z[j]? = some F)(P':D.apart Z F=true)(R':j3 (dQ P D.op) (dQ P F.op)=true)(_i:i<listed.size)(_d:dQ P D.op=.dD->dQ P F.op=.fc->i∈gZ P Z j)(_b:∀ r,listed.getD r false=true->gT P Z r=.dD->my Z r D)(_e:∀ r,listed.getD r false=true->gT P Z r=.dD->my Z r F){K:Act->World->Prop}{a:Act}{w:World}(_j:dQ P D.op=.dD->∃ d,D.dst=some d/\d<a.tmps.size/\d∉D.looksAt Z)(h:jS P Z listed i D (jS P Z (listed.setIfInBounds i true) j F K) a w):jS P Z listed j F (jS P Z (listed.setIfInBounds j true) i D K) a w:=by
 obtain⟨h1,h2,h3⟩:=Ct P';have S:=fun cs b=>q i D cs b hi;have V:=fun cs b=>q j F cs b hj;have wi:∀ u,Region.wanted D (yielded Z (a.put F.dst u).tmps)=Region.wanted D (yielded Z a.tmps):=fun u=>wanted_put D a F.dst u h3;have wj:∀ u,Region.wanted F (yielded Z (a.put D.dst u).tmps)=Region.wanted F (yielded Z a.tmps):=fun u=>wanted_put F a D.dst u h1;have ei:∀ u,execOp (a.put F.dst u).eval D=execOp a.eval D:=fun u=>execOp_put D S a F.dst u h3;have ej:∀ u,execOp (a.put D.dst u).eval F=execOp a.eval F:=fun u=>execOp_put F V a D.dst u h1;have _f:dQ P D.op=.fc->j∉gZ P Z i:=fun hc hm=>by
  have:=(DW hm).1;simp only[gT,hj]at this;rw[hc,this]at R';simp[j3]at R'
 cases H':Region.wanted D (yielded Z a.tmps) with
 | false =>
  have c:=h.2 H'
  cases j':Region.wanted F (yielded Z a.tmps) with
  | false =>
   refine⟨fun Y=>(by rw[j']at Y;cases Y),fun _=>⟨fun Y=>(by rw[wi,H']at Y;cases Y),fun _=>?_⟩⟩;have:=c.2 (by rw[wj,j'])
   rw[q6 a undef undef h2]at this;exact this
  | true =>
   refine⟨fun _=>?_,fun Y=>(by rw[j']at Y;cases Y)⟩;have:=Kl q P' V _b (c.1 (by rw[wj,j']))
   exact Bl (fun u w' hk=>⟨fun Y=>(by rw[wi,H']at Y;cases Y),fun _=>hk.2⟩) this
 | true =>
  have _c:=h.1 H'
  cases j':Region.wanted F (yielded Z a.tmps) with
  | false =>
   refine⟨fun Y=>(by rw[j']at Y;cases Y),fun _=>⟨fun _=>?_,fun Y=>(by rw[wi,H']at Y;cases Y)⟩⟩
   exact Pr q P' S _f _e (Bl (fun u w' hk=>hk.2 (by rw[wj u,j'])) _c)
  | true =>
   refine⟨fun _=>?_,fun Y=>(by rw[j']at Y;cases Y)⟩;have J':dW P Z listed i D a w fun a' w'=>dW P Z (listed.setIfInBounds i true) j F a' w' K:=Bl (fun u w' hk=>hk.1 (by rw[wj u,j'])) _c
   have done:dW P Z listed j F a w (fun a' w'=>dW P Z (listed.setIfInBounds j true) i D a' w' K)->dW P Z listed j F a w (jS P Z (listed.setIfInBounds j true) i D K) :=
    Bl (fun u w' hk=>⟨fun _=>hk,fun Y=>(by rw[wi u,H']at Y;cases Y)⟩)
   refine done ?_;clear done _c h
   cases c:dQ P D.op with
   | pure =>
    rw[zY c]at J';obtain⟨v,hv,hk⟩:=J';refine Bl (fun u w' hk=>?_) (Kl q P' V _b hk)
    rw[zY c,ei u];exact⟨v,hv,hk.2⟩
   | dD =>
    obtain⟨di,T',_g,_h⟩:=_j c;rw[Bm c]at J';obtain⟨v,hv,hk⟩:=J'
    cases C:dQ P F.op with
    | pure =>
     rw[zY C]at hk ⊢;obtain⟨u,hu,hk⟩:=hk;rw[ej v]at hu;refine⟨u,hu,?_⟩;rw[Bm c]
     exact⟨v,by rw[ei u];exact hv,by have an:=hk;rw[q6 a v u h2]at an;exact an⟩
    | dD =>
     rw[Bm C]at hk ⊢;obtain⟨u,hu,hk⟩:=hk;rw[ej v]at hu;refine⟨u,hu,?_⟩;rw[Bm c]
     exact⟨v,by rw[ei u];exact hv,by have an:=hk;rw[q6 a v u h2]at an;exact an⟩
    | fc =>
     refine Bl (fun u w' hk=>?_) (Kl q P' V _b hk);have _k:=hk.1 C i (_d c C) (by simp[_i]);have V':∀ d,D.dst=some d->d∉D.looksAt Z:=fun d hd=>by rw[T']at hd;cases hd;exact _h
     have _a:=_k D hi (by rw[wanted_put D a D.dst v V'];exact H') di T';rw[execOp_put D S a D.dst v V']at _a;have I:(a.put D.dst v).tmps.getD di undef=v:=by rw[T'];simp[Act.put,_g]
     rw[I]at _a;rw[Bm c,ei u]
     exact⟨v,_a,hk.2⟩
   | fc =>
    cases C:dQ P F.op with
    | pure =>
     rw[GU c]at J';obtain⟨v0,w0,_,hh⟩:=GQ J';rw[zY C]at hh;obtain⟨u,hu,_⟩:=hh;rw[ej v0]at hu;rw[zY C];refine⟨u,hu,?_⟩;refine Pr q P' S _f _e ?_;rw[GU c];refine uH (fun v w' hk=>⟨hk.1,?_⟩) J';have T':=hk.2;rw[zY C]at T';obtain⟨u',V',_a⟩:=T';rw[ej v]at V';have he:=(hu w').symm.trans (V' w');simp only[Result.ok.injEq,Next.value.injEq,GF]at he;subst he
     exact _a
    | dD=>rw[c,C]at R';simp[j3]at R'
    | fc=>rw[c,C]at R';simp[j3]at R'
def jX (P:Program)(Z:Array Oper)(K:Act->World->Prop):Nat->Array Bool->Act->World->Prop
 | 0,listed,a,w=>Region.ready .any Z listed=[]/\K a w
 | fuel+1,listed,a,w=>(Region.ready .any Z listed=[]->K a w) /\
  ∀ i∈Region.ready .any Z listed,∀ o,Z[i]? = some o->jS P Z listed i o (jX P Z K fuel (listed.setIfInBounds i true)) a w
def Km {ro:Option Nat}{m:Nat}{Z:Array Oper}{K:Act->World->Prop}{Q:Exit->Act->World->Prop}(c:∀ a w,K a w->Q .normal a w):∀ (fuel:Nat) (listed:Array Bool) (a:Act) (w:World),
  jX P Z K fuel listed a w->wpAnyIn (fw ro) m P .any Z Q fuel listed a w
 | 0,_,_,_,h=>⟨h.1,c _ _ h.2⟩
 | fuel+1,_,_,_,h=>⟨fun C=>c _ _ (h.1 C),fun i hi=>GR (by
   obtain⟨_,o,q,_⟩:=mem_ready.1 hi;unfold oJ;rw[q]
   exact zW (fun u w' hk=>Km c fuel _ _ _ hk) (Xf (h.2 i hi o q)))⟩
structure l5 (P:Program) (Z:Array Oper):Prop where
 bb:∀ (k:Nat) (o:Oper) cs b,Z[k]? = some o->o.op≠.select cs b
 pG:iw Z (Region.before Z)=true
 bl:∀ k i,((Region.before Z).getD k 0).testBit i=true->i<Z.size
 w9:∀ (r:Nat) (or_:Oper) (k:Nat) (ok:Oper),Z[r]? = some or_->gT P Z r=.dD->Z[k]? = some ok->k≠r->tL Z k r=false->my Z r ok
 dst:∀ (i:Nat) (o:Oper),Z[i]? = some o->dQ P o.op=.dD->∃ d,o.dst=some d/\d∉o.looksAt Z
def Pt {Z:Array Oper}{K:Act->World->Prop}(H:l5 P Z)(P':iM n Z=true)(hi:Z[i]? = some D) :
  ∀ (fuel:Nat) (listed:Array Bool) (a:Act) (w:World),listed.size=Z.size->a.tmps.size=n->rk Z listed ->
   (∀ (j:Nat) (F:Oper),Z[j]? = some F->j≠i->listed.getD j true=false->tL Z i j=false->D.apart Z F=true/\j3 (dQ P D.op) (dQ P F.op)=true) ->
   i∈Region.ready .any Z listed->jS P Z listed i D (jX P Z K fuel (listed.setIfInBounds i true)) a w->jX P Z K (fuel+1) listed a w:=by
 have R':∀ o,o∈Z->∀ d,o.dst=some d->d<n:=fun o ho d hd=>by
  have:=wm.1 P' o ho
  simpa [hd] using this
 intro fuel
 induction fuel with
 | zero =>
  intro listed a w hs ha hd S hr h;refine⟨fun h=>(by rw[h]at hr;cases hr),fun j hj F c=>?_⟩;by_cases q:j=i
  ·subst q;rw[hi]at c;cases c;exact h
  obtain⟨v,w',hk⟩:=Xd h;have:=ready_mono hj q
  rw[hk.1]at this;cases this
 | succ fuel ih =>
  intro listed a w hs ha hd S hr h;refine⟨fun h=>(by rw[h]at hr;cases hr),fun j hj F c=>?_⟩;by_cases q:j=i
  ·subst q;rw[hi]at c;cases c;exact h
  obtain⟨V,_i,_h,_⟩:=mem_ready.1 hj;have J':=(mem_ready.1 hr).1;have T':tL Z i j=false:=Kk H.pG hd hs J' hj;have V':tL Z j i=false:=Kk H.pG hd hs V hr;obtain⟨_e,_f⟩:=S j F c q V T'
  have h1:jS P Z listed i D (jS P Z (listed.setIfInBounds i true) j F (jX P Z K fuel ((listed.setIfInBounds i true).setIfInBounds j true))) a w :=
   DV (fun u w' hk=>hk.2 j (ready_mono hj q) F c) h
  have _a:i<listed.size:=(zX J').2;have _b:∀ k,listed.getD k true=false->∀ r,listed.getD r false=true->tL Z k r=false:=by
   intro k hk r H'
   cases C:tL Z k r with
   | false=>rfl
   | true=>have:=hd r k H' C;rw[(zX hk).1]at this;cases this
  have j':∀ (k:Nat) (ok:Oper),Z[k]? = some ok->listed.getD k true=false->∀ r,listed.getD r false=true->gT P Z r=.dD->my Z r ok:=by
   intro k ok hk C r H' hc _c _d;have _g:k≠r:=fun e=>by subst e;rw[(zX C).1]at H';cases H'
   exact H.w9 r _c k ok _d hc hk _g (_b k C r H') _c _d
  have h2:=E9 H.bb hi c _e _f _a (fun _c _j=>by
    simp only[gZ,rP,mem_range,Bool.and_eq_true,sq,xT,beq_eq_false_iff_ne]
    exact⟨by rw[<-hs];exact _a,⟨⟨by simp only[gT,hi];exact _c,Ne.symm q⟩,T'⟩,V'⟩)
   (j' i D hi J') (j' j F c V) (fun hc=>by
    obtain⟨d,H',_d⟩:=H.dst i D hi hc
    exact⟨d,H',by rw[ha];exact R' D (yF hi) d H',_d⟩) h1
  refine DV (fun u w' hk=>?_) h2;rw[Pd _ _ (Ne.symm q)]at hk;refine ih (listed.setIfInBounds j true) _ w' (by simpa using hs) (by rw[eZ];exact ha) (GS H.pG hd hj H.bl) (fun k ok bI _d C _g=>S k ok bI _d ?_ _g) (ready_mono hr (Ne.symm q)) hk;by_cases H':j=k
  ·subst H';exact V
  rw[getD_set_ne true H']at C;exact C
def DX {Z:Array Oper}{K:Fr->World->Prop}{tail:List cB}{ρ:Fr}{w:World}:∀ (l:List Nat),opsD P Z K (l.map cB.cJ++tail) ρ w ->
  (∀ r∈l,∀ o,Z[r]? = some o->(match o.guard with
     | none=>∀ d,o.dst=some d->ReadV P o ρ w (ρ d)
     | some g=>gm Z ρ g=true->∀ d,o.dst=some d->ReadV P o ρ w (ρ d)))/\opsD P Z K tail ρ w
 | [],h=>⟨sm,h⟩
 | r::l,h=>by
  simp only[l8,qA,opsD]at h;obtain⟨h1,C⟩:=DX l h.2;refine⟨fun S c o q=>?_,C⟩;rcases dZ.1 c with rfl|c
  ·have:=h.1
   simp only[q]at this;exact this
  exact h1 S c o q
def Pu {Z:Array Oper}{r:Nat}{a:Act}{w:World}(h:∀ o,Z[r]? = some o->(match o.guard with
     | none=>∀ d,o.dst=some d->ReadV P o (fr a) w (fr a d)
     | some g=>gm Z (fr a) g=true->∀ d,o.dst=some d->ReadV P o (fr a) w (fr a d))):pd P Z r a w:=by
 intro o q Y d c;have:=h o q
 cases I:o.guard with
 | none =>
  simp only[I]at this;have:=this d c
  unfold ReadV at this;rw[qZ]at this;exact this
 | some g =>
  simp only[I]at this;rw[DT I]at Y;have:=this Y d c;unfold ReadV at this;rw[qZ]at this;exact this
def Xg {Z:Array Oper}:∀ {l:List Nat}{i:Nat},l4 P Z (i::l)=true->∀ j∈l,sV P Z i j=true:=by
 intro l i h j c;simp only[l4,Bool.and_eq_true]at h;exact all_eq_true.1 h.1 j c
def Pv {Z:Array Oper}{K:Fr->World->Prop}(H:l5 P Z)(R':iM n Z=true) :
  ∀ (rest dn:List Nat) (listed:Array Bool) (a:Act) (w:World),(∀ j,j<Z.size->j∈dn\/j∈rest)->(∀ j∈rest,j∉dn/\j<Z.size)->(∀ j∈dn,j<Z.size)->rest.Nodup->listed.size=Z.size->(∀ j,j<Z.size->∀ d,listed.getD j d=decide (j∈dn)) ->
   rk Z listed->iP Z dn rest=true->l4 P Z rest=true->a.tmps.size=n->a.defers=[]->opsD P Z K (fh P Z rest) (fr a) w->jX P Z (Ok n K) rest.length listed a w:=by
 have _g:∀ o,o∈Z->∀ d,o.dst=some d->d<n:=fun o ho d hd=>by
  have:=wm.1 R' o ho
  simpa [hd] using this
 intro rest
 induction rest with
 | nil =>
  intro dn listed a w j' _ _ _ hs hl _ _ _ ha V' h;refine⟨?_,ha,V',h⟩;rcases hr:Region.ready .any Z listed with _|⟨x,xs⟩
  ·rfl
  have hx:x∈Region.ready .any Z listed:=by rw[hr];exact gA
  obtain⟨c,S,C,_⟩:=mem_ready.1 hx;have q:=(kV.1 C).1;rw[hl x q]at c;have:=(j' x q).resolve_right sm
  simp[this]at c
 | cons i rest ih =>
  intro dn listed a w j' S _h _i hs hl _a _b _c ha V' h;obtain⟨_j,H'⟩:=S i sm;obtain⟨D,hi⟩:∃ D,Z[i]? = some D:=⟨Z[i],by simp[H']⟩
  simp only[iP,hi,Bool.and_eq_true]at _b;have q:i∈Region.ready .any Z listed:=by
   refine mem_ready.2 ⟨by rw[hl i H'];simpa using _j,D,hi,fun e he V=>?_⟩;have:=wm.1 _b.1 e he;simp only[V,nq,tt,contains_iff_mem]at this;rw[hl _ (_h _ this)];simpa using this
  have _k:listed.getD i true=false:=(mem_ready.1 q).1;have _d:∀ (j:Nat) (F:Oper),Z[j]? = some F->j≠i->listed.getD j true=false->tL Z i j=false->D.apart Z F=true/\j3 (dQ P D.op) (dQ P F.op)=true:=by
   intro j F hj P' C V;have J':=(kV.1 hj).1;rw[hl j J']at C;have T':j∈rest:=by
    rcases j' j J' with c|c
    ·simp[c]at C
    rcases dZ.1 c with c|c
    ·exact absurd c P'
    exact c
   have:=Xg _c j T';simp only[sV,V,tt,hi,hj,Bool.and_eq_true]at this;exact this
  have _l:∀ r,listed.getD r false=true->tL Z i r=false:=by
   intro r C
   cases V:tL Z i r with
   | false=>rfl
   | true=>have:=_a r i C V;rw[(zX _k).1]at this;cases this
  have J':∀ r,listed.getD r false=true->gT P Z r=.dD->my Z r D:=by
   intro r C hc P' V;have T':i≠r:=fun e=>by subst e;rw[(zX _k).1]at C;cases C
   exact H.w9 r P' i D V hc hi T' (_l r C) P' V
  have T':∀ v,fr (a.put D.dst v)=io (fr a) D.dst v:=fun v=>wz fun t ht=>by rw[ha];exact _g D (yF hi) t ht
  refine Pt H R' hi rest.length listed a w hs ha _a _d q ?_
  
  have _e:jS P Z listed i D (fun a' w'=>a'.tmps.size=n/\a'.defers=[]/\opsD P Z K (fh P Z rest) (fr a') w') a w:=by
   simp only[fh,kQ,qA,opsD,hi]at h
   have C:∀ v w',opsD P Z K (fh P Z rest) (io (fr a) D.dst v) w'->(a.put D.dst v).tmps.size=n/\(a.put D.dst v).defers=[]/\opsD P Z K (fh P Z rest) (fr (a.put D.dst v)) w' :=
    fun v w' hk=>⟨by rw[eZ,ha],by rw[zL,V'],by rw[T'];exact hk⟩
   have _m:opV P D (fr a) w (opsW P Z (opsD P Z K ((match gT P Z i with|.fc=>(gZ P Z i).map cB.cJ|_=>[])++fh P Z rest)) [])->dW P Z listed i D a w fun a' w'=>a'.tmps.size=n/\a'.defers=[]/\opsD P Z K (fh P Z rest) (fr a') w':=by
    intro hv;have _f:gT P Z i=dQ P D.op:=by simp[gT,hi]
    rw[_f]at hv;unfold opV at hv
    cases hc:dQ P D.op with
    | pure =>
     simp only[hc]at hv;rw[zY hc];obtain⟨v,V,hk⟩:=hv;unfold PureV at V;rw[qZ]at V
     exact⟨v,V,C _ _ hk⟩
    | dD =>
     simp only[hc]at hv;rw[Bm hc];obtain⟨v,V,hk⟩:=hv;unfold ReadV at V;rw[qZ]at V
     exact⟨v,V,C _ _ hk⟩
    | fc =>
     simp only[hc]at hv;rw[GU hc];unfold opW at hv;rw[qZ]at hv;refine uH (fun v w' hk=>?_) hv;obtain⟨V,_n⟩:=DX (gZ P Z i) hk;refine⟨fun r hr _o=>?_,C _ _ _n⟩;refine(GT v (J' r _o (DW hr).1) (fun P' cs b ho=>H.bb r P' cs b ho)).1 (Pu fun o ho=>?_);rw[T'];exact V r hr o ho
   simp only[opsW]at h
   cases I:D.guard with
   | none =>
    simp only[I]at h;refine⟨fun _=>_m h,fun Y=>?_⟩
    simp[Region.wanted,I]at Y
   | some g =>
    simp only[I]at h;unfold jS;rw[DT I];refine⟨fun Y=>_m (h.1 Y),fun Y=>C _ _ ?_⟩;have:=h.2 Y;have _f:gT P Z i=dQ P D.op:=by simp[gT,hi]
    rw[_f]at this
    cases hc:dQ P D.op with
    | fc=>simp only[hc]at this;exact(DX (gZ P Z i) this).2
    | pure=>simp only[hc]at this;exact this
    | dD=>simp only[hc]at this;exact this
  refine DV (fun u w' hk=>?_) _e;refine ih (i::dn) _ _ w' (fun j hj=>?_) (fun j hj=>⟨?_,(S j (by simp[hj])).2⟩) (fun j hj=>?_) (vk.1 _i).2 (by simpa using hs) (fun j hj d=>?_) (GS H.pG _a q H.bl) _b.2 (by simp only[l4,Bool.and_eq_true]at _c;exact _c.2) hk.1 hk.2.1 hk.2.2
  ·rcases j' j hj with c|c
   ·left;simp[c]
   rcases dZ.1 c with c|c
   ·left;simp[c]
   right;exact c
  ·intro hm
   rcases dZ.1 hm with c|c
   ·subst c;exact(vk.1 _i).1 hj
   exact(S j (by simp[hj])).1 c
  ·rcases dZ.1 hj with rfl|c
   ·exact H'
   exact _h j c
  by_cases c:i=j
  ·subst c
   have:i<listed.size:=by rw[hs];exact H'
   simp[this]
  rw[getD_set_ne d c,hl j hj d];simp[Ne.symm c]
def Xh {Z:Array Oper}{is:List cB}(h:o9 P Z is=true):l5 P Z:=by
 simp only[o9,Bool.and_eq_true,gR]at h;obtain⟨⟨⟨⟨⟨⟨⟨⟨⟨⟨⟨⟨h1,q⟩,h3⟩,h4⟩,h5⟩,h6⟩,h7⟩,h8⟩,h9⟩,j'⟩,H'⟩,T'⟩,V'⟩:=h;refine⟨J4 q,h3,fun k i C=>?_,fun r _a k ok hr hc hk J' C or' c => ?_,fun i o ho hc=>?_⟩
 ·rcases ns k Z.size with hk|hk
  ·have:=vX (all_eq_true.1 H' k (mem_range.2 hk))
   rcases ns i Z.size with hi|hi
   ·exact hi
   have:=Cu (A4 this (ym U hi));rw[this]at C;cases C
  have:(Region.before Z).getD k 0=0:=by
   have:(Region.before Z).size<=k:=U;simp[tI this]
  rw[this]at C;simp at C
 ·have P':=(kV.1 hr).1
  have R':=(kV.1 hk).1;have h1:=all_eq_true.1 h9 r (mem_range.2 P');simp only[hc,wF,nq,tt]at h1;have q:=all_eq_true.1 h1 k (mem_range.2 R');rw[hr]at c;cases c;have S:(k == r)=false:=by simpa using J'
  simp only[rE,S,C,tt,hr,hk]at q;refine⟨fun d V=>?_,fun d V=>?_⟩<;>simp[V]at q
  ·exact q.1
  exact q.2
 have:=wm.1 j' o (yF ho);simp only[hc,wF,nq,tt]at this;split at this
 ·rename_i d V;exact⟨d,V,by simpa using this⟩
 cases this
def Xi {Z:Array Oper}(h:sW P Z=true):l5 P Z:=by
 simp only[sW,Bool.and_eq_true,gR]at h;obtain⟨⟨⟨⟨⟨q,h3⟩,h9⟩,j'⟩,H'⟩,T'⟩:=h;refine⟨J4 q,h3,fun k i C=>?_,fun r V' k ok hr hc hk J' C or' c => ?_,fun i o ho hc=>?_⟩
 ·rcases ns k Z.size with hk|hk
  ·have:=vX (all_eq_true.1 H' k (mem_range.2 hk))
   rcases ns i Z.size with hi|hi
   ·exact hi
   have:=Cu (A4 this (ym U hi));rw[this]at C;cases C
  have:(Region.before Z).getD k 0=0:=by
   have:(Region.before Z).size<=k:=U;simp[tI this]
  rw[this]at C;simp at C
 ·have P':=(kV.1 hr).1
  have R':=(kV.1 hk).1;have h1:=all_eq_true.1 h9 r (mem_range.2 P');simp only[hc,wF,nq,tt]at h1;have q:=all_eq_true.1 h1 k (mem_range.2 R');rw[hr]at c;cases c;have S:(k == r)=false:=by simpa using J'
  simp only[rE,S,C,tt,hr,hk]at q;refine⟨fun d V=>?_,fun d V=>?_⟩<;>simp[V]at q
  ·exact q.1
  exact q.2
 have:=wm.1 j' o (yF ho);simp only[hc,wF,nq,tt]at this;split at this
 ·rename_i d V;exact⟨d,V,by simpa using this⟩
 cases this
def Xj {ro:Option Nat}{id:Nat}{Z:Array Oper}{is:List cB}{K:Fr->World->Prop}{a:Act}{w:World}{Q:Exit->Act->World->Prop}(hm:P.follows .mixedOrders=true)(V:∀ a w,Ok n K a w->Q .normal a w)(q:iM n Z=true)(C:o9 P Z is=true)(hs:a.tmps.size=n)(hd:a.defers=[])(h:opsD P Z K is (fr a) { w with drawn:=w.drawn+1 }):(Code.region id Z true).wpIn (fw ro) m P Q a w:=by
 have H:=Xh C;simp only[o9,Bool.and_eq_true,gR]at C;obtain⟨⟨⟨⟨⟨⟨⟨⟨⟨⟨⟨⟨h1,h2⟩,h3⟩,h4⟩,h5⟩,h6⟩,h7⟩,h8⟩,h9⟩,j'⟩,H'⟩,J'⟩,S⟩:=C;refine wpIn_region_any hm (Km (K:=Ok n K) V _ _ _ _ ?_);rw[h1]at h;have hb:∀ i∈fD is,i<Z.size:=fun i hi=>vX (all_eq_true.1 h5 i hi)
 have:=Pv H q (fD is) [] (Array.replicate Z.size false) a _ (fun j c=>.inr (by simpa using all_eq_true.1 S j (mem_range.2 c))) (fun j c=>⟨sm,hb j c⟩) sm h6 sm (fun j c d=>by simp[c])
  (fun j i c _=>by
   rcases ns j Z.size with hk|hk
   ·simp[hk]at c
   simp[hk]at c) h7 h8 hs hd h
 rw[h4]at this;exact this
def Pw {Z:Array Oper}{N:Fr->World->Prop}(H:l5 P Z)(J':iM n Z=true)(hi:Z[i]? = some D){listed:Array Bool}{a:Act}{w:World}(P':listed.getD i true=false)(_a:rk Z listed)(ha:a.tmps.size=n)(_b:a.defers=[])(h:opsD P Z N (fh P Z [i]) (fr a) w):jS P Z listed i D (fun a' w'=>a'.tmps.size=n/\a'.defers=[]/\N (fr a') w') a w:=by
 have R':∀ o,o∈Z->∀ d,o.dst=some d->d<n:=fun o ho d hd=>by
  have:=wm.1 J' o ho
  simpa [hd] using this
 have T':∀ r,listed.getD r false=true->tL Z i r=false:=by
  intro r c
  cases q:tL Z i r with
  | false=>rfl
  | true=>have:=_a r i c q;rw[(zX P').1]at this;cases this
 have S:∀ r,listed.getD r false=true->gT P Z r=.dD->my Z r D:=by
  intro r c C V q;have j':i≠r:=fun e=>by subst e;rw[(zX P').1]at c;cases c
  exact H.w9 r V i D q C hi j' (T' r c) V q
 have j':∀ v,fr (a.put D.dst v)=io (fr a) D.dst v:=fun v=>wz fun t ht=>by rw[ha];exact R' D (yF hi) t ht
 simp only[fh,kQ,A7,fI,opsD,hi]at h
 have c:∀ v w',N (io (fr a) D.dst v) w'->(a.put D.dst v).tmps.size=n/\(a.put D.dst v).defers=[]/\N (fr (a.put D.dst v)) w' :=
  fun v w' hk=>⟨by rw[eZ,ha],by rw[zL,_b],by rw[j'];exact hk⟩
 have V':opV P D (fr a) w (opsW P Z (opsD P Z N (match gT P Z i with|.fc=>(gZ P Z i).map cB.cJ|_=>[])) [])->dW P Z listed i D a w fun a' w'=>a'.tmps.size=n/\a'.defers=[]/\N (fr a') w':=by
  intro hv;have H':gT P Z i=dQ P D.op:=by simp[gT,hi]
  rw[H']at hv;unfold opV at hv
  cases C:dQ P D.op with
  | pure =>
   simp only[C]at hv;rw[zY C];obtain⟨v,q,hk⟩:=hv;unfold PureV at q;rw[qZ]at q
   exact⟨v,q,c _ _ hk⟩
  | dD =>
   simp only[C]at hv;rw[Bm C];obtain⟨v,q,hk⟩:=hv;unfold ReadV at q;rw[qZ]at q
   exact⟨v,q,c _ _ hk⟩
  | fc =>
   simp only[C]at hv;rw[GU C];unfold opW at hv;rw[qZ]at hv;refine uH (fun v w' hk=>?_) hv;obtain⟨q,_c⟩:=DX (tail:=[]) (gZ P Z i) (by rw[fI];exact hk);refine⟨fun r hr _d=>?_,c _ _ _c⟩;refine(GT v (S r _d (DW hr).1) (fun V cs b ho=>H.bb r V cs b ho)).1 (Pu fun o ho=>?_);rw[j'];exact q r hr o ho
 simp only[opsW]at h
 cases I:D.guard with
 | none =>
  simp only[I]at h;refine⟨fun _=>V' h,fun Y=>?_⟩
  simp[Region.wanted,I]at Y
 | some g =>
  simp only[I]at h;unfold jS;rw[DT I];refine⟨fun Y=>V' (h.1 Y),fun Y=>c _ _ ?_⟩;have:=h.2 Y;have H':gT P Z i=dQ P D.op:=by simp[gT,hi]
  rw[H']at this
  cases C:dQ P D.op with
  | fc=>simp only[C]at this;exact(DX (tail:=[]) (gZ P Z i) (by rw[fI];exact this)).2
  | pure=>simp only[C]at this;exact this
  | dD=>simp only[C]at this;exact this
structure CC (Z:Array Oper) (n:Nat) (dn:List Nat) (listed:Array Bool) (a:Act):Prop where
 size:listed.size=Z.size
 dK:∀ j,j<Z.size->∀ d,listed.getD j d=decide (j∈dn)
 down:rk Z listed
 lt:∀ j∈dn,j<Z.size
 tmps:a.tmps.size=n
 defers:a.defers=[]
def CC.ready {Z:Array Oper}{n:Nat}{V:List Nat}{listed:Array Bool}{a:Act}(S:CC Z n V listed a){i:Nat}:i∈Region.ready .any Z listed↔(i∉V/\nf Z V i=true):=by
 rw[mem_ready];constructor
 ·rintro⟨h1,o,C,q⟩
  have c:=(kV.1 C).1;rw[S.dK i c]at h1;refine⟨by simpa using h1,?_⟩;simp only[nf,C];refine wm.2 fun e he=>?_
  cases hb:Region.binds .any e with
  | false=>rfl
  | true =>
   have h3:=q e he hb;rcases ns e.on Z.size with hl|hl
   ·rw[S.dK _ hl]at h3
    simpa using h3
   have:listed.size<=e.on:=by rw[S.size];exact hl
   simp[this]at h3
 rintro⟨h1,q⟩;unfold nf at q;split at q
 ·rename_i o C
  have c:=(kV.1 C).1;refine⟨by rw[S.dK i c];simpa using h1,o,C,fun e he hb=>?_⟩;have:=wm.1 q e he;simp only[hb,nq,tt,contains_iff_mem]at this;rw[S.dK _ (S.lt _ this)];simpa using this
 cases q
def CC.next {Z:Array Oper}{dn:List Nat}{listed:Array Bool}{a C:Act}(H:l5 P Z)(S:CC Z n dn listed a)(q:i<Z.size)(hr:i∈Region.ready .any Z listed)(ha:C.tmps.size=n)(hd:C.defers=[]):CC Z n (i::dn) (listed.setIfInBounds i true) C:=by
 refine⟨by simpa using S.size,fun j V d=>?_,GS H.pG S.down hr H.bl,fun j V=>?_,ha,hd⟩
 ·by_cases c:i=j
  ·subst c
   have:i<listed.size:=by rw[S.size];exact q
   simp[this]
  rw[getD_set_ne d c,S.dK j V d];simp[Ne.symm c]
 rcases dZ.1 V with rfl|c
 ·exact q
 exact S.lt j c
def Az:PT->Prop
 | .Bk ..|.stop=>True
 | _=>False
def GV {Z:Array Oper}{K:Fr->World->Prop}{n:Nat}(H:l5 P Z)(c:iM n Z=true):∀ (T:PT) (C seen:List Nat) (fuel:Nat) (listed:Array Bool) (a:Act) (w:World),jA P Z C seen T=true->CC Z n C listed a->fuel+C.length=Z.size->jR P Z K T (fr a) w ->
  (seen=[]->jX P Z (Ok n K) fuel listed a w)/\(Az T->∀ i∈Region.ready .any Z listed,i∉seen->∀ o,Z[i]? = some o->∃ f,fuel=f+1/\jS P Z listed i o (jX P Z (Ok n K) f (listed.setIfInBounds i true)) a w)
 | .stop,C,seen,fuel,listed,a,w,ht,S,_,_=>by
  simp only[jA,Bool.and_eq_true,xT]at ht;refine⟨fun h=>by simp[h]at ht,fun _ i hi q o ho=>?_⟩;have j':=(kV.1 ho).1;have h1:=all_eq_true.1 ht.2 i (mem_range.2 j');obtain⟨V,h3⟩:=S.ready.1 hi
  simp[V,q,h3]at h1
 | .j6 is,C,seen,fuel,listed,a,w,ht,S,hf,h=>by
  simp only[jA,Bool.and_eq_true,gR]at ht;obtain⟨⟨⟨⟨⟨⟨⟨t1,t2⟩,t3⟩,t4⟩,t5⟩,t6⟩,t7⟩,t8⟩:=ht;refine⟨fun _=>?_,fun h=>h.elim⟩;simp only[jR]at h;rw[t2]at h;have q:∀ j∈fD is,j<Z.size/\j∉C:=fun j V=>by
   have:=all_eq_true.1 t4 j V
   simpa using this
  have:=Pv H c (fD is) C listed a w (fun j V=>by
    have:=all_eq_true.1 t8 j (mem_range.2 V)
    simpa using this) (fun j V=>⟨(q j V).2,(q j V).1⟩) S.lt t5 S.size S.dK S.down t6 t7 S.tmps S.defers h
  have e:fuel=(fD is).length:=U
  rw[e];exact this
 | .step i is t,C,seen,fuel,listed,a,w,ht,S,hf,h=>by
  simp only[jA,Bool.and_eq_true,gR,xT]at ht;obtain⟨⟨⟨⟨⟨⟨t1,t2⟩,t3⟩,t4⟩,t5⟩,t6⟩,t7⟩:=ht;refine⟨fun _=>?_,fun h=>h.elim⟩;obtain⟨f,rfl⟩:∃ f,fuel=f+1:=⟨fuel-1,U⟩
  have hr:i∈Region.ready .any Z listed:=S.ready.2 ⟨by simpa using t4,t5⟩;obtain⟨P',D,hi,_⟩:=mem_ready.1 hr;have j':=(kV.1 hi).1;simp only[jR]at h;rw[t2]at h;refine Pt H c hi f listed a w S.size S.tmps S.down (fun j F V H' J' hb=>?_) hr ?_
  ·have R':=(kV.1 V).1
   rw[S.dK j R']at J';have:=all_eq_true.1 t6 j (mem_range.2 R');have T':C.contains j=false:=by simpa using J'
   have V':(j == i)=false:=by simpa using H'
   simp only[T',V',tt,sV,hb,hi,V,Bool.and_eq_true]at this;exact this
  refine DV (fun u w' hk=>?_) (Pw H c hi P' S.down S.tmps S.defers h)
  exact(GV H c t (i::C) [] f _ _ w' t7 (S.next H j' hr hk.1 hk.2.1) (by simp only[length_cons];omega) hk.2.2).1 rfl
 | .Bk i is t m,C,seen,fuel,listed,a,w,ht,S,hf,h=>by
  simp only[jA,Bool.and_eq_true,gR,xT]at ht;obtain⟨⟨⟨⟨⟨t2,t3⟩,t4⟩,t5⟩,t7⟩,t8⟩:=ht;have hr:i∈Region.ready .any Z listed:=S.ready.2 ⟨by simpa using t4,t5⟩;obtain⟨P',D,hi,_⟩:=mem_ready.1 hr;have j':=(kV.1 hi).1;simp only[jR]at h;rw[t2]at h;have J':Az m:=by
   cases m with
   | j6 is=>simp[jA]at t8
   | step i is t=>simp[jA]at t8
   | _=>trivial
  have q:∀ j∈Region.ready .any Z listed,j∉seen->∀ o,Z[j]? = some o->∃ f,fuel=f+1/\jS P Z listed j o (jX P Z (Ok n K) f (listed.setIfInBounds j true)) a w:=by
   intro j V R' o ho;by_cases H':j=i
   ·subst H'
    rw[hi]at ho;cases ho;obtain⟨f,rfl⟩:∃ f,fuel=f+1:=⟨fuel-1,U⟩
    refine⟨f,rfl,DV (fun u w' hk=>?_) (Pw H c hi P' S.down S.tmps S.defers h.1)⟩;exact(GV H c t (j::C) [] f _ _ w' t7 (S.next H j' hr hk.1 hk.2.1) (by simp only[length_cons];omega) hk.2.2).1 rfl
   exact(GV H c m C (i::seen) fuel listed a w t8 S hf h.2).2 J' j V (fun hm=>by
    rcases dZ.1 hm with h'|h'
    ·exact H' h'
    exact R' h') o ho
  refine⟨fun hs=>?_,fun _=>q⟩;subst hs;obtain⟨f,rfl⟩:∃ f,fuel=f+1:=⟨fuel-1,U⟩
  refine⟨fun h0=>(by rw[h0]at hr;cases hr),fun j V o ho=>?_⟩;obtain⟨f',H',hc⟩:=q j V sm o ho;cases H';exact hc
def Xk {ro:Option Nat}{id:Nat}{Z:Array Oper}{T:PT}{K:Fr->World->Prop}{a:Act}{w:World}{Q:Exit->Act->World->Prop}(hm:P.follows .mixedOrders=true)(C:∀ a w,Ok n K a w->Q .normal a w)(c:iM n Z=true)(S:sW P Z=true)(V:jA P Z [] [] T=true)(hs:a.tmps.size=n)(hd:a.defers=[])(h:jR P Z K T (fr a) { w with drawn:=w.drawn+1 }):(Code.region id Z true).wpIn (fw ro) m P Q a w:=by
 have H:=Xi S;refine wpIn_region_any hm (Km (K:=Ok n K) C _ _ _ _ ?_);refine(GV H c T [] [] Z.size _ a _ V ⟨sm,fun j q d=>by simp[q],fun j i q _=>?_,sm,hs,hd⟩ sm h).1 rfl;rcases ns j Z.size with hk|hk
 ·simp[hk]at q
 simp[hk]at q
def Px {p:Nat->Prop}:∀ m,p m->∃ k,p k/\∀ j,p j->k<=j:=by
 intro m
 induction m using Nat.strongRecOn with
 | _ m C =>
  intro hm;by_cases h:∃ j,j<m/\p j
  ·obtain⟨j,c,q⟩:=h;exact C j c q
  exact⟨m,hm,fun j c=>Dt fun q=>h ⟨j,q,c⟩⟩
open Classical in
noncomputable def dm (p:Nat->Prop):Nat:=if h:∃ k,p k/\∀ j,p j->k<=j then h.choose else 0
def Py {p:Nat->Prop}(hm:p m):p (dm p)/\∀ j,p j->dm p<=j:=by
 have h:=Px m hm;unfold dm;rw[dif_pos h];exact h.choose_spec
def wA {ro:Option Nat}{m:Nat}{n:Nat}(hm:P.follows .mixedOrders=true):∀ (c:Code),mV n c=true->∀ (Q:Exit->Fr->World->Prop) (a:Act) (w:World),a.tmps.size=n->a.defers=[]->vc P c Q (fr a) w ->
  c.wpIn (fw ro) m P (WY n Q) a w
 | .skip,_,_,_,_,q,C,h=>wpIn_skip ⟨q,C,h⟩
 | .label _,_,_,_,_,q,C,h=>wpIn_label ⟨q,C,h⟩
 | .exit _,_,_,_,_,q,C,h=>wpIn_exit ⟨q,C,h⟩
 | .ret,_,_,_,_,q,C,h=>wpIn_ret ⟨q,C,h⟩
 | .seq x y,hf,Q,a,w,q,C,h=>by
  simp only[mV,Bool.and_eq_true]at hf;refine wpIn_seq (wpIn_mono (wA hm x hf.1 _ a w q C h) fun e a' w' hq=>?_);obtain⟨S,V,hq⟩:=hq
  cases e with
  | normal=>exact wA hm y hf.2 Q a' w' S V hq
  | _=>exact⟨S,V,hq⟩
 | .cond c x y,hf,Q,a,w,q,C,h=>by
  simp only[mV,Bool.and_eq_true]at hf;obtain⟨t,ht,h1,h2⟩:=h;rw[qZ]at ht
  exact wpIn_cond_split ht (fun ht=>wA hm x hf.1 Q a w q C (h1 ht)) (fun ht=>wA hm y hf.2 Q a w q C (h2 ht))
 | .block id c,hf,Q,a,w,q,C,h=>by
  refine wpIn_block (wpIn_mono (wA hm c hf _ a w q C h) fun e a' w' hq=>?_);obtain⟨S,V,hq⟩:=hq
  cases e with
  | exit i =>
   simp only[Blk]at hq;simp only[Exit.inBlock];split
   ·rename_i hi;rw[aP hi]at hq;exact⟨S,V,hq⟩
   rename_i hi;rw[aH hi]at hq;exact⟨S,V,hq⟩
  | _=>exact⟨S,V,hq⟩
 | .loop c,hf,Q,a,w,q,C,h=>by
  obtain⟨I',h0,hr⟩:=h;refine wpIn_loop (fun a w=>a.tmps.size=n/\a.defers=[]/\∃ m,I' m (fr a) w) (fun a w=>dm fun m=>I' m (fr a) w) ⟨q,C,h0⟩ fun a w ⟨q,C,m0,H'⟩=>?_;have hI:=(Py (p:=fun m=>I' m (fr a) w) H').1;refine wpIn_mono (wA hm c hf _ a w q C (hr _ _ _ hI)) fun e a' w' hq=>?_;obtain⟨S,V,hq⟩:=hq
  cases e with
  | normal =>
   obtain⟨m',J',j'⟩:=hq
   exact⟨⟨S,V,m',j'⟩,zI ((Py (p:=fun m=>I' m (fr a') w') j').2 m' j') J'⟩
  | _=>exact⟨S,V,hq⟩
 | .region id Z false,hf,Q,a,w,q,C,h=>Xb (fun a w h=>h) hf q C h
 | .region id Z true,hf,Q,a,w,q,C,h=>by
  rcases h with h|⟨is,S,h⟩|⟨T,V,ht,h⟩
  case inr.inl=>exact Xj hm (fun a w h=>h) hf S q C h
  case inr.inr=>exact Xk hm (fun a w h=>h) hf V ht q C h
  refine wpIn_region_any hm (Ki (K:=Ok n (Q .normal)) (fun a w h=>h) _ _ _ _ ?_);have:=Xa h.1 hf Z.toList 0 (Array.replicate Z.size false) a _ sm sm ⟨sm,fun j hj d=>by simp[hj]⟩ q C h.2
  simpa using this
 | .rangeFunc ..,_,_,_,_,_,_,h=>h.elim
 | .scope _,_,_,_,_,_,_,h=>h.elim
 | .goto _,_,_,_,_,_,_,h=>h.elim
 | .refuse _,_,_,_,_,_,_,h=>h.elim
def vK (args:List Value):Fr:=fun t=>(args[t]?).getD undef
def mz (P:Program)(fn:Func)(R:Value->World->Prop)(e:Exit)(ρ:Fr)(w:World):Prop :=
 match e with
 | .normal|.ret=>∃ v,(∀ a:Act,fr a=ρ->(results fn a.tmps).run P w=.ok v w)/\R v w
 | _=>False
def Xl {f:FuncId}{fn:Func}{c:Code}{args:List Value}{w:World}(hm:P.follows .mixedOrders=true)(hf:P.funcs[f]? = some fn)(hb:fn.body=some c)(q:mV fn.ntmps c=true)(hn:args.length<=fn.ntmps)(h:vc P c (mz P fn fun v w'=>R (.returned v) w') (vK args) w):Calls P f args.toArray w R:=by
 refine(callsIn_wide (n:=0)).1 (callsIn_of_wp hf hb trivial ?_);have C:fr { tmps:=args.toArray++Array.replicate (fn.ntmps-args.toArray.size) undef,defers:=[] }=vK args:=by
  funext t
  simp only[fr,vK];rcases ns t args.length with S|S
  ·simp[DF,S]
  simp[J1,S];rcases ns (t-args.length) (fn.ntmps-args.length) with h1|h1
  ·simp[h1]
  simp[h1]
 rw[<-C]at h;refine wpIn_mono (wA (ro:=none) hm c q _ _ w (by simp;omega) rfl h) fun e V w' hq=>?_;obtain⟨_,hd,hq⟩:=hq
 cases e with
 | normal=>obtain⟨v,hv,S⟩:=hq;exact⟨hd,v,hv V rfl,S⟩
 | ret=>obtain⟨v,hv,S⟩:=hq;exact⟨hd,v,hv V rfl,S⟩
 | _=>exact hq.elim
end
def rl:List Nat->Nat->Nat|a::b::l,k=>bif Nat.beq k a then b else rl l k|_,_=>0
end
variable {is:List cB}{N:Fr->World->Prop}{ρ0:Fr}
section
open Go.RowKit (Below)
abbrev PH:=Nat->Option Obj
abbrev HP:=PH->Prop
def rm (h1 h2:PH):Prop:=∀ b,h1 b=none\/h2 b=none
def pY (h1 h:PH):Prop:=∀ b o,h1 b=some o->h b=some o
def ca:List HP->PH->Prop
 | [],_=>True
 | A::Γ,h=>∃ h1 c,rm h1 c/\pY h1 h/\pY c h/\A h1/\ca Γ c
def pP (h1 h2:PH):PH:=fun b=>match h1 b with|some o=>some o|none=>h2 b
def mN (h:PH)(b:Nat)(o:Obj):PH:=fun b'=>if b'=b then some o else h b'
def rm.symm {h1 h2:PH}(h:rm h1 h2):rm h2 h1:=fun b=>(h b).symm
def rm.sub {h1 h2 q:PH}(h:rm h1 h2)(S:pY q h2):rm h1 q:=fun b=>by
 rcases h b with c|c
 ·exact .inl c
 right;cases C:q b with
 | none=>rfl
 | some o=>rw[S b o C]at c;cases c
def pY.trans {a b c:PH}(h:pY a b)(k:pY b c):pY a c:=fun x o hx=>k x o (h x o hx)
def pY.refl (h:PH):pY h h:=fun _ _ h=>h
def ca.sub {Γ:List HP}{h c:PH}(q:pY h c)(C:ca Γ h):ca Γ c:=by
 cases Γ with
 | nil=>trivial
 | cons A Γ=>obtain⟨h1,S,d,s1,s2,V,I⟩:=C;exact⟨h1,S,d,s1.trans q,s2.trans q,V,I⟩
def ca.swap {A B:HP}{Γ:List HP}{h:PH}(hh:ca (A::B::Γ) h):ca (B::A::Γ) h:=by
 obtain⟨h1,h2,d,s1,s2,ha,V,h4,d2,s3,C,hb,I⟩:=hh;refine⟨V,pP h1 h4,fun b=>?_,s3.trans s2,fun b o c => ?_,hb,h1,h4,d.sub C,fun b o c=>by simp[pP,c],fun b o c => ?_,ha,I⟩
 ·rcases d b with q|q
  ·rcases d2 b with hm|hm
   ·exact .inl hm
   right;simp[pP,q,hm]
  left;cases S:V b with
  | none=>rfl
  | some o=>rw[s3 b o S]at q;cases q
 ·simp only[pP]at c
  split at c
  ·rename_i o' S;cases c;exact s1 b _ S
  exact s2 b o (C b o c)
 simp only[pP];rcases d b with q|q
 ·rw[q];exact c
 rw[C b o c]at q;cases q
def ca.tail {A:HP}{Γ:List HP}{h:PH}(c:ca (A::Γ) h):ca Γ h:=by
 obtain⟨h1,q,d,s1,s2,C,I⟩:=c;exact I.sub s2
def ca.iz {A A':HP}{Γ c:List HP}{h:PH}(q:∀ h,A h->A' h)(I:∀ h,ca Γ h->ca c h)(C:ca (A::Γ) h):ca (A'::c) h:=by
 obtain⟨h1,S,d,s1,s2,a,g⟩:=C;exact⟨h1,S,d,s1,s2,q _ a,I _ g⟩
def ca.bJ {Γ:List HP}:∀ (i:Nat) {A:HP}{h:PH},Γ[i]? = some A->ca Γ h->ca (A::Γ.eraseIdx i) h:=by
 induction Γ with
 | nil=>intro i A h hi;simp at hi
 | cons B Γ q =>
  intro i A h hi c
  cases i with
  | zero=>simp only[DP,zR]at hi;subst hi;exact c
  | succ i =>
   simp only[getElem?_cons_succ]at hi;exact(ca.iz (fun _ h=>h) (fun _ h=>q i hi h) c).swap
def ca.iq {Γ:List HP}:∀ (i:Nat) {A A':HP}{h:PH},Γ[i]? = some A->ca (A'::Γ.eraseIdx i) h->ca (Γ.set i A') h:=by
 induction Γ with
 | nil=>intro i A A' h hi;simp at hi
 | cons B Γ q =>
  intro i A A' h hi c
  cases i with
  | zero=>exact c
  | succ i =>
   simp only[getElem?_cons_succ]at hi;exact ca.iz (fun _ h=>h) (fun _ h=>q i hi h) (ca.swap c)
def ca.write {A A':HP}{Γ:List HP}{h:PH}{b:Nat}{o':Obj}(V:ca (A::Γ) h)(Y:∀ h1,pY h1 h->A h1->(∃ o,h1 b=some o)/\A' (mN h1 b o')):ca (A'::Γ) (mN h b o'):=by
 obtain⟨h1,S,d,s1,s2,a,g⟩:=V;obtain⟨⟨o,ho⟩,C⟩:=Y h1 s1 a;have q:S b=none:=(d b).resolve_left (by rw[ho];simp);refine⟨mN h1 b o',S,fun x=>?_,fun x y hx=>?_,fun x y hx=>?_,C,g⟩
 ·by_cases c:x=b
  ·subst c;exact .inr q
  simpa [mN,c] using d x
 ·simp only[mN]at hx ⊢
  split
  ·rename_i c;rw[aP c]at hx;exact hx
  rename_i c;rw[aH c]at hx;exact s1 x y hx
 have c:x≠b:=fun e=>by subst e;rw[q]at hx;cases hx
 simp only[mN,aH c];exact s2 x y hx
def ca.new {A:HP}{Γ:List HP}{h:PH}{b:Nat}{o:Obj}(q:h b=none)(C:ca Γ h)(S:A (fun x=>if x=b then some o else none)):ca (A::Γ) (mN h b o):=by
 refine⟨_,h,fun x=>?_,fun x y hx=>?_,fun x y hx=>?_,S,C⟩
 ·by_cases c:x=b
  ·subst c;exact .inr q
  left;simp[c]
 ·by_cases c:x=b
  ·simp only[c,if_true]at hx;simpa [mN,c] using hx
  simp[c]at hx
 have c:x≠b:=fun e=>by subst e;rw[q]at hx;cases hx
 simp only[mN,aH c];exact hx
def eS (w0 w:World):PH:=fun b=>if b<w0.heap.size then none else w.heap[b]?
structure M (w0 w:World) (Γ:List HP):Prop where
 below:Below w0.heap.size w0 w
 jM:ca Γ (eS w0 w)
def M.start (w:World):M w w []:=⟨Below.refl _ _,au⟩
def M.drew {w0 w:World}{Γ:List HP}(h:M w0 w Γ):M w0 { w with drawn:=w.drawn+1 } Γ:=⟨h.below.trans ⟨rfl,rfl,rfl,cz _,fun _ _=>rfl⟩,h.jM⟩
def M.tail {w0 w:World}{A:HP}{Γ:List HP}(h:M w0 w (A::Γ)):M w0 w Γ:=⟨h.below,h.jM.tail⟩
def M.swap {w0 w:World}{A B:HP}{Γ:List HP}(h:M w0 w (A::B::Γ)):M w0 w (B::A::Γ):=⟨h.below,h.jM.swap⟩
def M.bJ {w0 w:World}{Γ:List HP}(i:Nat){A:HP}(hi:Γ[i]? = some A)(h:M w0 w Γ):M w0 w (A::Γ.eraseIdx i):=⟨h.below,h.jM.bJ i hi⟩
def M.iq {w0 w:World}{Γ:List HP}(i:Nat){A A':HP}(hi:Γ[i]? = some A)(h:M w0 w (A'::Γ.eraseIdx i)):M w0 w (Γ.set i A'):=⟨h.below,h.jM.iq i hi⟩
def M.mono {w0 w:World}{A A':HP}{Γ:List HP}(c:∀ h,A h->A' h)(h:M w0 w (A::Γ)):M w0 w (A'::Γ):=⟨h.below,h.jM.iz c fun _ h=>h⟩
def M.mI {w0 w:World}{A:HP}{Γ c:List HP}(I:∀ h,ca Γ h->ca c h)(h:M w0 w (A::Γ)):M w0 w (A::c):=⟨h.below,h.jM.iz (fun _ h=>h) I⟩
def M.call {w0 w:World}{Γ Δ:List HP}(h:M w0 w Γ)(k:M w w' Δ):M w0 w' (Δ++Γ):=by
 have j':w0.heap.size<=w.heap.size:=h.below.size;refine⟨h.below.trans (k.below.mono j'),?_⟩;have key:∀ (Δ:List HP) (g:PH),pY g (eS w w')->ca Δ g->ca (Δ++Γ) (pP g (eS w0 w)):=by
  intro Δ
  induction Δ with
  | nil =>
   intro g I _;refine h.jM.sub fun b o c=>?_;simp only[pP]
   cases C:g b with
   | none=>exact c
   | some V =>
    have:=I b V C;simp only[eS]at this c;split at this
    ·cases this
    split at c
    ·cases c
    rename_i h1 q
    rw[tI U]at c;cases c
  | cons A Δ ih =>
   intro g I ⟨h1,q,d,s1,s2,ha,hr⟩;refine⟨h1,pP q (eS w0 w),fun b=>?_,fun b o c=>?_,fun b o c=>?_,ha,ih q (s2.trans I) hr⟩
   ·cases S:h1 b with
    | none=>exact .inl rfl
    | some o =>
     right;have H':q b=none:=(d b).resolve_left (by rw[S];simp);have:=I b o (s1 b o S);simp only[pP,H',eS]at this ⊢;split at this
     ·cases this
     split
     ·rfl
     exact tI U
   ·simp only[pP];rw[s1 b o c]
   simp only[pP]at c ⊢;split at c
   ·rename_i V S;rw[s2 b V S];exact c
   cases C:g b with
   | none=>exact c
   | some V =>
    have:=I b V C;simp only[eS]at this c;split at this
    ·cases this
    split at c
    ·cases c
    rw[tI U]at c;cases c
 refine(key Δ (eS w w') (pY.refl _) k.jM).sub fun b o c=>?_;simp only[pP,eS]at c ⊢;by_cases h1:b<w.heap.size
 ·simp only[h1,if_true]at c
  split at c
  ·cases c
  rename_i q;rw[aH q,k.below.block b h1];exact c
 simp only[h1,if_false]at c;have q:¬b<w0.heap.size:=U;rw[aH q];split at c
 ·rename_i V S;rw[S];exact c
 rename_i C;rw[aH q,tI U]at c;cases c
def M.cr {w0 w:World}{Γ:List HP}(h:M w0 w Γ)(k:M w w' []):M w0 w' Γ:=h.call k
def M.mu {w0 w:World}{A:HP}{Γ:List HP}(h:M w0 w Γ)(k:M w w' [A]):M w0 w' (A::Γ):=h.call k
def M.uQ {w0 w:World}{A B:HP}{Γ:List HP}(h:M w0 w Γ)(k:M w w' [A,B]):M w0 w' (A::B::Γ):=h.call k
def eP (w:World)(b:Nat)(o:Obj):World:={ w with heap:=w.heap.setIfInBounds b o }
def M.put {w0 w:World}{A A':HP}{Γ:List HP}{b:Nat}{o':Obj}(h:M w0 w (A::Γ))
  (Y:∀ h1,pY h1 (eS w0 w)->A h1->(∃ o,h1 b=some o)/\A' (mN h1 b o')):M w0 (eP w b o') (A'::Γ):=by
 obtain⟨h1,_,_,s1,_,a,_⟩:=id h.jM;obtain⟨⟨o,V⟩,_⟩:=Y h1 s1 a;have c:=s1 b o V;simp only[eS]at c;split at c
 ·cases c
 rename_i hb;have C:b<w.heap.size:=(kV.1 c).1;refine⟨h.below.trans ⟨rfl,rfl,rfl,by simp[eP],fun k hk=>?_⟩,(h.jM.write Y).sub fun x y hx=>?_⟩
 ·simp only[eP];rw[uG U]
 simp only[mN,eS]at hx ⊢;split at hx
 ·rename_i q;subst q;rw[aH hb];simpa [eP,C] using hx
 rename_i q;split
 ·rename_i S;rw[aP S]at hx;exact hx
 rename_i S;rw[aH S]at hx;simp only[eP];rw[uG (Ne.symm q)];exact hx
def iJ (w:World)(o:Obj):World:={ w with heap:=w.heap.push o }
def M.push {w0 w:World}{A:HP}{Γ:List HP}{o:Obj}(h:M w0 w Γ)(C:A (fun x=>if x=w.heap.size then some o else none)):M w0 (iJ w o) (A::Γ):=by
 have S:=h.below.size;refine⟨h.below.trans ⟨rfl,rfl,rfl,by simp[iJ],fun k hk=>?_⟩,?_⟩
 ·simp only[iJ];rw[Ka,aH U]
 refine(ca.new (b:=w.heap.size) (o:=o) ?_ h.jM C).sub fun x y hx=>?_
 ·simp only[eS];split
  ·rfl
  simp
 simp only[mN,eS]at hx ⊢;split at hx
 ·rename_i c;subst c;rw[aH U];simp only[iJ];rw[Ka,aP rfl];exact hx
 rename_i c;split
 ·rename_i q;rw[aP q]at hx;exact hx
 rename_i q;rw[aH q]at hx;simp only[iJ];rw[Ka,aH U];exact hx
def M.at {w0 w:World}{Γ:List HP}(h:M w0 w Γ)(i:Nat){A:HP}(hi:Γ[i]? = some A):∃ h1,(∀ b o,h1 b=some o->w.heap[b]? = some o/\w0.heap.size<=b)/\A h1:=by
 obtain⟨h1,_,_,s1,_,a,_⟩:=(h.bJ i hi).jM;refine⟨h1,fun b o c=>?_,a⟩;have:=s1 b o c;simp only[eS]at this;split at this
 ·cases this
 exact⟨this,U⟩
def ak (p:Addr)(t:TypeId)(cells:List Value):HP:=fun h=>p.off=0/\p.spot=none/\h p.block=some (.cells cells.toArray t (0,0))
def bT:Nat:=9223372036854775807
def Own (s:Value)(e:TypeId)(sz:Nat)(vs:List Value):HP:=fun h =>
 (s=nS/\vs=[]) \/
 ∃ b off n cap pre post,s=.slice (some ⟨b,off,none⟩) n cap/\pre.length=off/\vs.length=n*sz/\n<=cap/\n<=bT/\(cap-n)*sz<=post.length/\h b=some (.cells (pre++vs++post).toArray e (0,0))
def vw (w:World)(s:Value)(sz:Nat)(vs:List Value):Prop :=
 ∃ a n cap,s=.slice a n cap/\vs.length=n*sz/\(n<=cap/\n<=bT)/\∀ i v,vs[i]? = some v->∃ p,a=some p/\p.spot=none/\w.cell? ⟨p.block,p.off+i,none⟩=some v
def wR (s:Value)(k:Nat):Addr:=match s with|.slice (some p) _ _=>⟨p.block,p.off+k,none⟩|_=>⟨0,0,none⟩
def ee (s:Value):Nat:=match s with|.slice _ n _=>n|_=>0
def dI {w:World}{b:Nat}{cs:List Value}{t:TypeId}{f:Nat × Nat}(h:w.heap[b]? = some (.cells cs.toArray t f))(k:Nat):w.cell? ⟨b,k,none⟩=cs[k]? := by
 simp[World.cell?,h]
def e8 {w:World}{b:Nat}{t:TypeId}(h:w.heap[b]? = some (.cells cs t (0,0)))(k:Nat):w.frozen? ⟨b,k,none⟩=false:=by
 simp[World.frozen?,h]
def vw.below {w0 w:World}{s:Value}(h:vw w0 s sz vs)(V:Below w0.heap.size w0 w):vw w s sz vs:=by
 obtain⟨a,n,cap,hs,hl,q,hc⟩:=h;refine⟨a,n,cap,hs,hl,q,fun i v hv=>?_⟩;obtain⟨p,hp,C,c⟩:=hc i v hv;refine⟨p,hp,C,?_⟩;have S:p.block<w0.heap.size:=by
  rcases ns p.block w0.heap.size with h|h
  ·exact h
  simp[World.cell?,tI h]at c
 rw[V.cell (p:=⟨p.block,p.off+i,none⟩) S];exact c
def vw.at {w0 w:World}{Γ:List HP}{s:Value}(h:vw w0 s sz vs)(Y:M w0 w Γ):vw w s sz vs:=h.below Y.below
def M.Xm {w0 w:World}{Γ:List HP}(h:M w0 w Γ)(i:Nat){s:Value}{e:TypeId}(hi:Γ[i]? = some (Own s e sz vs)):vw w s sz vs:=by
 obtain⟨h1,S,a⟩:=h.at i hi;rcases a with ⟨rfl,rfl⟩|⟨b,off,n,cap,pre,post,rfl,C,hlen,q,c,_,V⟩
 ·exact⟨none,0,0,rfl,sm,⟨br _,br _⟩,sm⟩
 refine⟨_,n,cap,rfl,hlen,⟨q,c⟩,fun i v hv=>⟨_,rfl,rfl,?_⟩⟩;change w.cell? ⟨b,off+i,none⟩=some v;rw[dI (S b _ V).1];have j':=(xW.1 hv).1;rw[fG,kp U,js U];rw[show off+i-pre.length=i from by omega];exact hv
def vw.cell {w:World}{s:Value}(h:vw w s sz vs){k:Nat}{v:Value}(hv:vs[k]? = some v):w.cell? (wR s k)=some v:=by
 obtain⟨a,n,cap,rfl,_,_,q⟩:=h;obtain⟨p,rfl,_,c⟩:=q k v hv;exact c
def vw.len {w:World}{s:Value}(h:vw w s sz vs):vs.length=ee s*sz/\ee s<=bT:=by
 obtain⟨a,n,cap,rfl,c,q,_⟩:=h;exact⟨c,q.2⟩
end
variable {A A' B:HP}{h:PH}
section
def nO (w w':World):Prop:=w'.heap.size=w.heap.size/\∀ k:Nat,(∀ cs t f,w.heap[k]? ≠ some (Obj.cells cs t f))->w'.heap[k]? = w.heap[k]?
def Pz {w:World}{b:Nat}{t:TypeId}{f:Nat × Nat}{o:Obj}(h:w.heap[b]? = some (.cells cs t f)):nO w (eP w b o) :=
 ⟨by simp[eP],fun k hk=>by
  have c:b≠k:=fun e=>by subst e;exact hk _ _ _ h
  simp only[eP];rw[uG c]⟩
def nO.trans {a b c:World}(h:nO a b)(k:nO b c):nO a c:=⟨k.1.trans h.1,fun i hi=>by
 have:=h.2 i hi
 rw[<-this];exact k.2 i (by rw[this];exact hi)⟩
open Go.RowKit (Below)
def sliceB (P:Program)(t e sz by_:Nat):Bool:=(match P.underlying t with|some (.slice c)=>c == e|_=>false) && (match P.info? e with|some i=>i.size == sz && i.bytes == by_|none=>false)
class bh (P:Program) (t:Nat) (e sz by_:outParam Nat):Prop where
 ok:sliceB P t e sz by_=true
def uS (P:Program)(t:Nat):Bool:=match P.underlying t,P.info? t with|some (.struct _),_|some (.array ..),_=>false|some _,some i=>i.size == 1|_,_=>false
class bY (P:Program) (t:Nat):Prop where
 ok:uS P t=true
def EN (P:Program)(t n:Nat):Bool:=(match P.underlying t with|some (.struct _)|some (.array ..)=>true|_=>false) && (match P.info? t with|some i=>i.size == n|none=>false)
class eT (P:Program) (t:Nat) (n:outParam Nat):Prop where
 ok:EN P t n=true
class bn (P:Program) (t:Nat) (zs:outParam (List Value)):Prop where
 ok:((P.info? t).bind (·.zero)).map (·.cells.toList)=some zs
def xz (P:Program)(t f off ft:Nat):Bool:=match P.underlying t with|some (.struct c)=>(match c[f]? with|some x=>x.offset == off && x.type == ft && (match P.info? x.type with|some i => !(i.size == 0)|none=>false)|none=>false)|_=>false
class aN (P:Program) (t f:Nat) (off ft:outParam Nat):Prop where
 ok:xz P t f off ft=true
def xA (P:Program)(t:Nat):Bool:=match P.underlying t with|some (.interface _)|none=>false|some _=>true
class eM (P:Program) (t:Nat):Prop where
 ok:xA P t=true
class kL (P:Program) (t:Nat):Prop where
 ok:(match P.underlying t with|some (.interface _)=>true|_=>false)=true
section
variable {P:Program}
def bh.gI {t e:Nat}(h:bh P t e sz by_):P.underlying t=some (.slice e):=by
 have h:=h.ok;simp only[sliceB,Bool.and_eq_true]at h;have h1:=h.1;split at h1
 ·rename_i c he;rw[he];simp at h1;rw[h1]
 cases h1
def bh.tZ {t e:Nat}(h:bh P t e sz by_):∃ i,P.info? e=some i/\i.size=sz/\i.bytes=by_:=by
 have h:=h.ok;simp only[sliceB,Bool.and_eq_true]at h;have c:=h.2;split at c
 ·rename_i i hi;simp at c;exact⟨i,hi,c.1,c.2⟩
 cases c
def bh.size {t e:Nat}(h:bh P t e sz by_)(w:World):(sizeOf e).run P w=.ok sz w:=by
 obtain⟨i,hi,c,_⟩:=h.tZ;simp[sizeOf,typeInfo,hi,c]
def bY.plain {t:Nat}(h:bY P t):(∀ w,(isAgg t).run P w=.ok false w)/\∀ w,(sizeOf t).run P w=.ok 1 w:=by
 have h:=h.ok;simp only[uS]at h;split at h
 ·cases h
 ·cases h
 ·rename_i d i h1 q c hi
  refine⟨fun w=>?_,fun w=>?_⟩
  ·simp only[isAgg,eR,run_underlying c,eF]
   cases d<;>first|rfl|(exfalso;simp_all)
  simp at h;simp[sizeOf,typeInfo,hi,h]
 cases h
def eT.agg {t:Nat}(h:eT P t n):(∀ w,(isAgg t).run P w=.ok true w)/\∀ w,(sizeOf t).run P w=.ok n w:=by
 have h:=h.ok;simp only[EN,Bool.and_eq_true]at h;obtain⟨h1,c⟩:=h;split at c
 ·rename_i i hi
  simp at c;refine⟨fun w=>?_,fun w=>by simp[sizeOf,typeInfo,hi,c]⟩;split at h1
  ·rename_i C q;simp[isAgg,run_underlying q]
  ·rename_i a b q;simp[isAgg,run_underlying q]
  cases h1
 cases c
def bn.zero {t:Nat}{zs:List Value}(h:bn P t zs):∃ v,v.cells=zs.toArray/\∀ w,(zeroValue t).run P w=.ok v w:=by
 have h:=h.ok
 cases hi:P.info? t with
 | none=>simp[hi]at h
 | some i =>
  simp only[hi,yE]at h
  cases c:i.zero with
  | none=>simp[c]at h
  | some v =>
   simp only[c,tJ,zR]at h;exact⟨v,by rw[<-h],fun w=>by simp[zeroValue,typeInfo,hi,c]⟩
def aN.nA {t off:Nat}(h:aN P t f off ft):∃ fs c,P.underlying t=some (.struct fs)/\fs[f]? = some c/\c.offset=off/\c.type=ft/\∀ (a:Addr) w,(fieldPlace a c).run P w=.ok (a.add off) w:=by
 have h:=h.ok;simp only[xz]at h;split at h
 ·rename_i fs C
  split at h
  ·rename_i x hx
   simp only[Bool.and_eq_true,sq]at h;refine⟨fs,x,C,hx,h.1.1,h.1.2,fun a w=>?_⟩;have q:=h.2;split at q
   ·rename_i i hi
    simp at q;simp[fieldPlace,sizeOf,typeInfo,hi,q,h.1.1]
   cases q
  cases h
 cases h
def eM.gI {t:Nat}(h:eM P t):∃ d,P.underlying t=some d/\∀ ms,d≠.interface ms:=by
 have h:=h.ok;simp only[xA]at h;split at h
 ·cases h
 ·cases h
 rename_i d c q;exact⟨d,q,fun ms e=>c ms e⟩
def kL.gI {t:Nat}(h:kL P t):P.underlying t=some (.interface (P.methodsAt t)):=by
 have h:=h.ok;split at h
 ·rename_i ms c;simp[Program.methodsAt,c]
 cases h
def yH {n:Int}(c : -9223372036854775808<=n)(h1:n<=9223372036854775807):IntKind.i64.wrap n=n:=by rw[IntKind.wrap_i64];omega
section
variable {Z:Array Oper}{K:Fr->World->Prop}{r:List Oper}{ρ:Fr}{w:World}{d:Nat}{ty:TypeId}{pos:String}{af:Array Edge}{g:Option (Nat × Bool)}{dst:Option Nat}
def zO (h:K ρ w):opsW P Z K [] ρ w:=h
def fi {op:Op}{v:Value}(c:dQ P op=.pure)(hv:PureV P ⟨some d,op,ty,pos,af,none⟩ ρ v)(h:opsW P Z K r (fa ρ d v) w):opsW P Z K (⟨some d,op,ty,pos,af,none⟩::r) ρ w:=by
 simp only[opsW,opV,c];exact⟨v,hv,h⟩
def rW {op:Op}{v:Value}(c:dQ P op=.dD)(hv:ReadV P ⟨some d,op,ty,pos,af,none⟩ ρ w v)(h:opsW P Z K r (fa ρ d v) w):opsW P Z K (⟨some d,op,ty,pos,af,none⟩::r) ρ w:=by
 simp only[opsW,opV,c];exact⟨v,hv,h⟩
def kW {op:Op}(c:dQ P op=.fc)(h:opW P ⟨dst,op,ty,pos,af,none⟩ ρ w fun v w'=>opsW P Z K r (io ρ dst v) w'):opsW P Z K (⟨dst,op,ty,pos,af,none⟩::r) ρ w:=by
 simp only[opsW,opV,c];exact h
def gv (c:Bool)(v:Value):Value:=bif c then v else undef
def bw {a b:Bool}(h:(a && b)=true):a=true:=(Bool.and_eq_true _ _ ▸ h).1
def bu {c:Bool}{v:Value}(h:c=true):gv c v=v:=by rw[h];rfl
def Gd (v:Value)(want c:Bool):Prop:=sE v want=c
def Kn (b want:Bool):Gd (.bool b) want (b == want):=rfl
def xc (c b want:Bool):Gd (gv c (.bool b)) want (c && (b == want)):=by cases c<;>rfl
def Xn {op:Op}{j:Nat}{want c:Bool}{t:Nat}{v:Value}(q:dQ P op=.pure)(C:jz Z j=some t)(I:Gd (ρ t) want c)
  (hv:c=true->PureV P ⟨some d,op,ty,pos,af,none⟩ ρ v)(h:opsW P Z K r (fa ρ d (gv c v)) w):opsW P Z K (⟨some d,op,ty,pos,af,some (j,want)⟩::r) ρ w:=by
 simp only[opsW,opV,q,gm,C];unfold Gd at I;rw[I];refine⟨fun h1=>⟨v,hv h1,?_⟩,fun h1=>?_⟩
 ·rw[h1]at h;exact h
 rw[h1]at h;exact h
def Xo {op:Op}{j:Nat}{want c:Bool}{t:Nat}{v:Value}(q:dQ P op=.dD)(C:jz Z j=some t)(I:Gd (ρ t) want c)
  (hv:c=true->ReadV P ⟨some d,op,ty,pos,af,none⟩ ρ w v)(h:opsW P Z K r (fa ρ d (gv c v)) w):opsW P Z K (⟨some d,op,ty,pos,af,some (j,want)⟩::r) ρ w:=by
 simp only[opsW,opV,q,gm,C];unfold Gd at I;rw[I];refine⟨fun h1=>⟨v,hv h1,?_⟩,fun h1=>?_⟩
 ·rw[h1]at h;exact h
 rw[h1]at h;exact h
def Xp {op:Op}{j:Nat}{want:Bool}{t:Nat}(c:jz Z j=some t)(I:sE (ρ t) want=true)
  (h1:opsW P Z K (⟨dst,op,ty,pos,af,none⟩::r) ρ w):opsW P Z K (⟨dst,op,ty,pos,af,some (j,want)⟩::r) ρ w:=by
 simp only[opsW,gm,c]at h1 ⊢;rw[I];exact⟨fun _=>h1,fun h=>by cases h⟩
def Xq {op:Op}{j:Nat}{want:Bool}{t:Nat}(c:jz Z j=some t)(I:sE (ρ t) want=false)
  (h1:opsW P Z K r (io ρ dst undef) w):opsW P Z K (⟨dst,op,ty,pos,af,some (j,want)⟩::r) ρ w:=by
 simp only[opsW,gm,c];rw[I];exact⟨fun h=>(by cases h),fun _=>h1⟩
variable {x y z:Operand}{t t':TypeId}
def PA {v:Value}(hx:aX ρ x=v):PureV P ⟨dst,.move x,ty,pos,af,g⟩ ρ v:=fun w=>by simp[execOp,hx]
def Ko {v:Value}(hx:aX ρ x=v):PureV P ⟨dst,.assign x,ty,pos,af,g⟩ ρ v:=fun w=>by simp[execOp,hx]
def PB {b:Bool}{v:Value}(c:aX ρ z=.bool b)(hx:aX ρ x=u)(q:aX ρ y=v):PureV P ⟨dst,.pick z x y,ty,pos,af,g⟩ ρ (bif b then u else v):=fun w=>by
 cases b<;>simp[execOp,hx,q,c,asBool]
def AA {b:Bool}(c:aX ρ z=.bool b)(hx:aX ρ x=.bool true)(q:aX ρ y=gv (b == false) (.bool b')):PureV P ⟨dst,.pick z x y,ty,pos,af,g⟩ ρ (.bool (b || b')):=fun w=>by
 cases b<;>simp[execOp,hx,q,c,asBool,gv]
def PC {b:Bool}(c:aX ρ z=.bool b)(hx:aX ρ x=gv (b == true) (.bool b'))(q:aX ρ y=.bool false):PureV P ⟨dst,.pick z x y,ty,pos,af,g⟩ ρ (.bool (b && b')):=fun w=>by
 cases b<;>simp[execOp,hx,q,c,asBool,gv]
def Xr {c b:Bool}(I:c=true)(q:aX ρ z=gv c (.bool b))(hx:aX ρ x=.bool true)(C:aX ρ y=gv (c && (b == false)) (.bool b')):PureV P ⟨dst,.pick z x y,ty,pos,af,g⟩ ρ (.bool (b || b')):=fun w=>by
 subst I;cases b<;>simp[execOp,hx,C,q,asBool,gv]
def Xs {c b:Bool}(I:c=true)(q:aX ρ z=gv c (.bool b))(hx:aX ρ x=gv (c && (b == true)) (.bool b'))(C:aX ρ y=.bool false):PureV P ⟨dst,.pick z x y,ty,pos,af,g⟩ ρ (.bool (b && b')):=fun w=>by
 subst I;cases b<;>simp[execOp,hx,C,q,asBool,gv]
variable {k:IntKind}{a b:Int}
def PD (hx:aX ρ x=.int k a)(c:aX ρ y=.int k b):PureV P ⟨dst,.binOp .lss t x y t',ty,pos,af,g⟩ ρ (.bool (decide (a<b))):=fun w=>by simp[execOp,eqGuard,binOp,Op.intCmp,hx,c]
def PE (hx:aX ρ x=.int k a)(c:aX ρ y=.int k b):PureV P ⟨dst,.binOp .leq t x y t',ty,pos,af,g⟩ ρ (.bool (decide (a<=b))):=fun w=>by simp[execOp,eqGuard,binOp,Op.intCmp,hx,c]
def PF (hx:aX ρ x=.int k a)(c:aX ρ y=.int k b):PureV P ⟨dst,.binOp .gtr t x y t',ty,pos,af,g⟩ ρ (.bool (decide (b<a))):=fun w=>by simp[execOp,eqGuard,binOp,Op.intCmp,hx,c]
def PG (hx:aX ρ x=.int k a)(c:aX ρ y=.int k b):PureV P ⟨dst,.binOp .geq t x y t',ty,pos,af,g⟩ ρ (.bool (decide (b<=a))):=fun w=>by simp[execOp,eqGuard,binOp,Op.intCmp,hx,c]
def PI (hx:aX ρ x=.int k a)(c:aX ρ y=.int k b):PureV P ⟨dst,.binOp .eql t x y t',ty,pos,af,g⟩ ρ (.bool (decide (a=b))):=fun w=>by simp[execOp,eqGuard,binOp,Op.intCmp,hx,c];rfl
def PJ (hx:aX ρ x=.int k a)(c:aX ρ y=.int k b):PureV P ⟨dst,.binOp .neq t x y t',ty,pos,af,g⟩ ρ (.bool (!decide (a=b))):=fun w=>by simp[execOp,eqGuard,binOp,Op.intCmp,hx,c];rfl
def PK (hx:aX ρ x=E a)(c:aX ρ y=E b)(q : -9223372036854775808<=a+b)(h1:a+b<=9223372036854775807):PureV P ⟨dst,.binOp .add t x y t',ty,pos,af,g⟩ ρ (E (a+b)):=fun w=>by simp[execOp,eqGuard,binOp,Op.intArith,hx,c,yH q h1]
def PL (hx:aX ρ x=E a)(c:aX ρ y=E b)(q : -9223372036854775808<=a-b)(h1:a-b<=9223372036854775807):PureV P ⟨dst,.binOp .sub t x y t',ty,pos,af,g⟩ ρ (E (a-b)):=fun w=>by simp[execOp,eqGuard,binOp,Op.intArith,hx,c,yH q h1]
def PM (hx:aX ρ x=E a)(c:aX ρ y=E b)(q : -9223372036854775808<=a*b)(h1:a*b<=9223372036854775807):PureV P ⟨dst,.binOp .mul t x y t',ty,pos,af,g⟩ ρ (E (a*b)):=fun w=>by simp[execOp,eqGuard,binOp,Op.intArith,hx,c,yH q h1]
def PN {b:Bool}(hx:aX ρ x=.bool b):PureV P ⟨dst,.unOp .not t x,ty,pos,af,g⟩ ρ (.bool !b):=fun w=>by simp[execOp,Op.unary,hx]
def PO (hx:aX ρ x=E a)(c : -9223372036854775808<=0-a)(h1:0-a<=9223372036854775807):PureV P ⟨dst,.unOp .neg t x,ty,pos,af,g⟩ ρ (E (0-a)):=fun w=>by
 have:=yH c h1;simp only[execOp,Op.unary,hx,Op.intArith,eR,ga,eF,this]
def PP {u:TypeId}{v:Value}[T:kL P t](hx:aX ρ x=.iface u v)(c:aX ρ y=.nilIface):PureV P ⟨dst,.binOp .neq t x y t',ty,pos,af,g⟩ ρ (.bool true):=fun w=>by simp[execOp,eqGuard,hx,c,run_neq_held_nil w t u v T.gI]
def PQ {u:TypeId}{v:Value}[T:kL P t](hx:aX ρ x=.iface u v)(c:aX ρ y=.nilIface):PureV P ⟨dst,.binOp .eql t x y t',ty,pos,af,g⟩ ρ (.bool false):=fun w=>by simp[execOp,eqGuard,hx,c,run_eql_held_nil w t u v T.gI]
def PR [T:kL P t](hx:aX ρ x=.nilIface):PureV P ⟨dst,.binOp .neq t x (.const .nilIface) t',ty,pos,af,g⟩ ρ (.bool false):=fun w=>by
 have h1:=run_neq_nil_nil w t T.gI;simp only[execOp,eqGuard,hx];cases x<;>simp[aX,h1]
def PS [T:kL P t](hx:aX ρ x=.nilIface):PureV P ⟨dst,.binOp .eql t x (.const .nilIface) t',ty,pos,af,g⟩ ρ (.bool true):=fun w=>by
 have h1:=run_eql_nil_nil w t T.gI;simp only[execOp,eqGuard,hx];cases x<;>simp[aX,h1]
def PU {v:Value}[T:eM P t](hx:aX ρ x=v):PureV P ⟨dst,.makeInterface t x,ty,pos,af,g⟩ ρ (.iface t v):=fun w=>by
 obtain⟨c,q,C⟩:=T.gI;simp only[execOp,Instr.makeInterface,eR,run_underlying q,eF,hx];cases c<;>first|rfl|exact absurd rfl (C _)
def PV {vs:Array Value}{v:Value}(hx:aX ρ x=.tuple vs)(hi:vs[i]? = some v):PureV P ⟨dst,.extract x i,ty,pos,af,g⟩ ρ v:=fun w=>by simp[execOp,Instr.extract,hx,hi]
def Kp {off:Nat}[T:aN P t f off ft](hx:aX ρ x=.pointer (some p)):PureV P ⟨dst,.fieldAddr t x f,ty,pos,af,g⟩ ρ (.pointer (some (p.add off))):=fun w=>by
 obtain⟨V,c,q,C,ho,_,S⟩:=T.nA;simp[execOp,Instr.fieldAt,Instr.sureAddr,hx,run_underlying q,C,S]
def PW {off:Nat}{v:Value}[T:aN P t f off ft][C:bY P ft](hx:aX ρ x=.agg cs)(hv:cs[off]? = some v):PureV P ⟨dst,.field t x f,ty,pos,af,g⟩ ρ v:=fun w=>by
 obtain⟨fs,q,S,V,ho,c,_⟩:=T.nA;simp[execOp,Instr.field,hx,run_underlying S,V,part,asAgg,c,C.plain.1,ho,hv]
def PX (hx:aX ρ x=.pointer (some p)):PureV P ⟨dst,.nilCheck x,ty,pos,af,g⟩ ρ (.pointer (some p)):=fun w=>by simp[execOp,hx]
def PY {u:TypeId}{v:Value}(hx:aX ρ x=.iface u v):PureV P ⟨dst,.nilCheck x,ty,pos,af,g⟩ ρ (.iface u v):=fun w=>by simp[execOp,hx]
end
class uI (Γ:List HP) (A:HP) (put:HP->List HP):Prop where
 ok:∃ i,Γ[i]? = some A/\∀ A',put A'=Γ.set i A'
theorem uI.BF {Γ:List HP}:uI (A::Γ) A (fun A'=>A'::Γ):=⟨0,rfl,fun _=>rfl⟩
theorem uI.xd {Γ:List HP}{put:HP->List HP}(h:uI Γ A put):uI (B::Γ) A (fun A'=>B::put A'):=by
 obtain⟨i,hi,c⟩:=h.ok;exact⟨i+1,by simpa using hi,fun A'=>by rw[c A'];rfl⟩
class gO (Γ:List HP) (p:Addr) (t:outParam TypeId) (cells:outParam (List Value)) (put:outParam (HP->List HP)):Prop where
 mK:uI Γ (ak p t cells) put
instance (priority:=high) box_here {p:Addr}{t:TypeId}{cells:List Value}{Γ:List HP}:gO (ak p t cells::Γ) p t cells (fun A'=>A'::Γ):=⟨uI.BF⟩
instance C7 {B:HP}{p:Addr}{t:TypeId}{cells:List Value}{Γ:List HP}{put:HP->List HP} [h:gO Γ p t cells put]:gO (B::Γ) p t cells (fun A'=>B::put A'):=⟨h.mK.xd⟩
attribute [irreducible] gv
structure Ty (α:Type) where
 sz:Nat
 enc:α->List Value
 ok:∀ x,(enc x).length=sz
 dflt:α
def O:Ty Int:=⟨1,fun n=>[E n],fun _=>rfl,0⟩
def ah:Ty Bool:=⟨1,fun b=>[.bool b],fun _=>rfl,false⟩
def ar:Ty Value:=⟨1,fun v=>[v],fun _=>rfl,undef⟩
def Ty.len {α:Type}(T:Ty α)(xs:List α):(xs.flatMap T.enc).length=xs.length*T.sz:=by
 induction xs with
 | nil=>simp
 | cons x xs c=>simp[kQ,T.ok,c,qB];omega
def Ty.get {α:Type}(T:Ty α):∀ (xs:List α) (i k:Nat),i<xs.length->k<T.sz->(xs.flatMap T.enc)[i*T.sz+k]? = (T.enc (xs.getD i T.dflt))[k]?
 | [],i,k,h,_=>by simp at h
 | x::xs,0,k,_,hk=>by
  rw[kQ,Gw,xU,js (by rw[T.ok];exact hk)];rfl
 | x::xs,i+1,k,h,hk=>by
  have c:=T.ok x;rw[kQ,kp (by rw[c,qB];omega),c,show (i+1)*T.sz+k-T.sz=i*T.sz+k from by rw[qB];omega];simp only[length_cons]at h;rw[Ty.get T xs i k U hk];rfl
def Ty.set {α:Type}(T:Ty α):∀ (xs:List α) (i k:Nat) (v:Value) (x':α),i<xs.length->k<T.sz->T.enc x'=(T.enc (xs.getD i T.dflt)).set k v ->
  (xs.flatMap T.enc).set (i*T.sz+k) v=(xs.set i x').flatMap T.enc
 | [],i,k,v,x',h,_,_=>by simp at h
 | x::xs,0,k,v,x',_,hk,he=>by
  simp only[getD_cons_zero]at he
  rw[kQ,Gw,xU,J6 _ _ (by rw[T.ok];exact hk),mJ,kQ,he]
 | x::xs,i+1,k,v,x',h,hk,he=>by
  have c:=T.ok x;simp only[length_cons]at h
  rw[kQ,yB _ _ (by rw[c,qB];omega),c,show (i+1)*T.sz+k-T.sz=i*T.sz+k from by rw[qB];omega,mM,kQ,
   Ty.set T xs i k v x' U hk (by simpa using he)]
def RS {α:Type}(T:Ty α)(w:World)(s:Value)(xs:List α):Prop:=vw w s T.sz (xs.flatMap T.enc)/\xs.length=ee s
def X {α:Type}(T:Ty α)(e:TypeId)(s:Value)(xs:List α):HP:=fun h=>Own s e T.sz (xs.flatMap T.enc) h/\xs.length=ee s
class gP (Γ:List HP) (s:Value) (α:outParam Type) (T:outParam (Ty α)) (e:outParam TypeId) (xs:outParam (List α)) (put:outParam (HP->List HP)):Prop where
 mK:uI Γ (X T e s xs) put
instance (priority:=high) own_here {α:Type}{T:Ty α}{s:Value}{e:TypeId}{xs:List α}{Γ:List HP}:gP (X T e s xs::Γ) s α T e xs (fun A'=>A'::Γ):=⟨uI.BF⟩
instance C8 {B:HP}{α:Type}{T:Ty α}{s:Value}{e:TypeId}{xs:List α}{Γ:List HP}{put:HP->List HP} [h:gP Γ s α T e xs put]:gP (B::Γ) s α T e xs (fun A'=>B::put A'):=⟨h.mK.xd⟩
def gU {α:Type}(T:Ty α)(s:Value)(i:Nat):Addr:=wR s (i*T.sz)
def RS.at {α:Type}{T:Ty α}{w0 w:World}{Γ:List HP}{s:Value}{xs:List α}(h:RS T w0 s xs)(Y:M w0 w Γ):RS T w s xs:=⟨h.1.at Y,h.2⟩
def RS.bT {α:Type}{T:Ty α}{w:World}{s:Value}{xs:List α}(h:RS T w s xs):xs.length<=9223372036854775807:=by have:=h.1.len.2;rw[h.2];exact this
def M.rs {α:Type}{T:Ty α}{w0 w:World}{Γ:List HP}(h:M w0 w Γ)(i:Nat){s:Value}{e:TypeId}{xs:List α}(hi:Γ[i]? = some (X T e s xs)):RS T w s xs:=by
 have c:=(h.bJ i hi).mono (A':=Own s e T.sz (xs.flatMap T.enc)) fun _ q=>q.1;obtain⟨h1,_,a⟩:=h.at i hi;exact⟨c.Xm 0 rfl,a.2⟩
def bm {α:Type}{T:Ty α}{w0 w:World}{Γ:List HP}{s:Value}{e:TypeId}{xs:List α}{put:HP->List HP}[h:gP Γ s α T e xs put](Y:M w0 w Γ):RS T w s xs:=by
 obtain⟨i,hi,_⟩:=h.mK.ok;exact Y.rs i hi
def M.nil {α:Type}{T:Ty α}{w0 w:World}{Γ:List HP}{e:TypeId}(h:M w0 w Γ):M w0 w (X T e (nS) []::Γ) :=
 ⟨h.below,fun _=>none,eS w0 w,fun _=>.inl rfl,fun _ _ c=>(by cases c),pY.refl _,⟨.inl ⟨rfl,rfl⟩,rfl⟩,h.jM⟩
def RS.nil {α:Type}{T:Ty α}{w:World}:RS T w (nS) []:=⟨⟨none,0,0,rfl,sm,⟨br _,br _⟩,sm⟩,rfl⟩
def RS.shape {α:Type}{T:Ty α}{w:World}{s:Value}{xs:List α}(h:RS T w s xs):∃ a cap,s=.slice a xs.length cap:=by
 obtain⟨⟨a,n,cap,rfl,_⟩,c⟩:=h;exact⟨a,cap,by rw[c];rfl⟩
def RS.some {α:Type}{T:Ty α}(q:0<T.sz){w:World}{s:Value}{xs:List α}(h:RS T w s xs)(C:0<xs.length):∃ p cap,s=.slice (some p) xs.length cap/\p.spot=none:=by
 obtain⟨⟨a,n,cap,rfl,_,_,S⟩,V⟩:=h;have h0:0<(xs.flatMap T.enc).length:=by rw[T.len];exact Nat.mul_pos C q
 obtain⟨p,rfl,c,_⟩:=S 0 _ (kP h0);exact⟨p,cap,by rw[V];rfl,c⟩
section
variable {Z:Array Oper}{K:Fr->World->Prop}{r:List Oper}{ρ:Fr}{w w0:World}{d:Nat}{ty:TypeId}{pos:String}{af:Array Edge}{g:Option (Nat × Bool)}{dst:Option Nat}{x y z:Operand}{t t':TypeId}{Γ:List HP}
variable {α:Type}{T:Ty α}{s:Value}{xs:List α}
def PZ {e:Nat}[S:bh P t e sz by_](hx:aX ρ x=s)(h:RS T w s xs):PureV P ⟨dst,.call { callee:=.builtin .len,args:=#[x],argTypes:=#[t] },ty,pos,af,g⟩ ρ (E xs.length):=fun w=>by
 obtain⟨a,cap,c⟩:=h.shape;simp[execOp,resolve,invoke,builtin,Builtin.len_,hx,run_underlying S.gI,c,goInt]
def Kq {e:Nat}{k:IntKind}{j:Int}[S:bh P t e sz by_](hx:aX ρ x=s)(q:aX ρ y=.int k j)(h:RS T w s xs)(C:sz=T.sz)(V:0<T.sz)(h0:0<=j)(h1:j<xs.length) :
  PureV P ⟨dst,.indexAddr t x y,ty,pos,af,g⟩ ρ (.pointer (some (gU T s j.toNat))):=fun w=>by
 subst C;obtain⟨p,cap,hs,j'⟩:=h.some V U;have c:∀ n,p.add n=⟨p.block,p.off+n,none⟩:=fun n=>by
  unfold Addr.add;split
  ·rename_i hn;subst hn;cases p;simp_all
  rfl
 simp[execOp,Instr.indexAt,hx,q,asIntOf,run_underlying S.gI,hs,h0,h1,S.size,gU,wR,c]
def P0 {e:Nat}{k:IntKind}{j:Nat}[S:bh P t e sz by_](hx:aX ρ x=s)(c:aX ρ y=.int k j)(h:RS T w s xs)(q:sz=T.sz)(C:0<T.sz)(h1:j<xs.length) :
  PureV P ⟨dst,.indexAddr t x y,ty,pos,af,g⟩ ρ (.pointer (some (gU T s j))):=by
 have:=Kq (P:=P) (t:=t) (w:=w) (dst:=dst) (ty:=ty) (pos:=pos) (af:=af) (g:=g) hx c h q C (Cn j) U
 simpa using this
def wB {v:Value}[C:bY P t](hx:aX ρ x=.pointer (some p))(hv:w.cell? p=some v):ReadV P ⟨dst,.load t x,ty,pos,af,g⟩ ρ w v:=by
 simp[ReadV,execOp,Instr.loadAt,Instr.sureAddr,hx,loadVar,C.plain.1,hv]
def GW [A:eT P t n](hx:aX ρ x=.pointer (some p))(c:vs.length=n)(hv:∀ j v,vs[j]? = some v->w.cell? (p.add j)=some v):ReadV P ⟨dst,.load t x,ty,pos,af,g⟩ ρ w (.agg vs.toArray):=by
 subst c;have:=run_loadCells_list (P:=P) (w:=w) p vs hv;simp[ReadV,execOp,Instr.loadAt,Instr.sureAddr,hx,loadVar,A.agg.1,A.agg.2,this]
def Kr (h:RS T w s xs){k:Nat}{v:Value}(hi:i<xs.length)(hk:k<T.sz)(hv:(T.enc (xs.getD i T.dflt))[k]? = some v):w.cell? ((gU T s i).add k)=some v:=by
 have h1:=h.1.cell (k:=i*T.sz+k) (v:=v) (by rw[T.get xs i k hi hk];exact hv);obtain⟨p,cap,c,_⟩:=h.some U U;subst c;unfold gU wR Addr.add at *
 split
 ·rename_i q;subst q;simpa using h1
 simpa [zT] using h1
def Xt (h:RS T w s xs){v:Value}(hi:i<xs.length)(hv:T.enc (xs.getD i T.dflt)=[v]):w.cell? (gU T s i)=some v:=by
 have c:T.sz=1:=by rw[<-T.ok (xs.getD i T.dflt),hv];rfl
 have:=Kr h hi (k:=0) U (v:=v) (by rw[hv];rfl)
 simpa [Addr.add] using this
def CD {v:Value}[C:bY P t](hx:aX ρ x=.pointer (some (gU T s i)))(h:RS T w s xs)(hi:i<xs.length)(hv:T.enc (xs.getD i T.dflt)=[v]):ReadV P ⟨dst,.load t x,ty,pos,af,g⟩ ρ w v :=
 wB hx (Xt h hi hv)
def CE {k:Nat}{v:Value}[C:bY P t](hx:aX ρ x=.pointer (some ((gU T s i).add k)))(h:RS T w s xs)(hi:i<xs.length)(hk:k<T.sz)(hv:(T.enc (xs.getD i T.dflt))[k]? = some v):ReadV P ⟨dst,.load t x,ty,pos,af,g⟩ ρ w v :=
 wB hx (Kr h hi hk hv)
def CF [A:eT P t n](hx:aX ρ x=.pointer (some (gU T s i)))(h:RS T w s xs)(hi:i<xs.length)(c:n=T.sz):ReadV P ⟨dst,.load t x,ty,pos,af,g⟩ ρ w (.agg (T.enc (xs.getD i T.dflt)).toArray) :=
 GW hx (by rw[T.ok,c]) fun j v hv=>Kr h hi (by rw[<-T.ok (xs.getD i T.dflt)];exact(xW.1 hv).1) hv
def lM {k:Nat}{cells:List Value}{v:Value}(Y:M w0 w Γ)(hi:Γ[i]? = some (ak p bt cells))(hv:cells[k]? = some v):w.cell? (p.add k)=some v:=by
 obtain⟨h1,C,q,c,S⟩:=Y.at i hi;have:=dI (C _ _ S).1 k;obtain⟨pb,po,V⟩:=p;simp only at q c;subst q c;unfold Addr.add;split
 ·rename_i h0;subst h0;rw[this];exact hv
 simp only[xU];rw[this];exact hv
def Cj {cells:List Value}{v:Value}(Y:M w0 w Γ)(hi:Γ[i]? = some (ak p bt cells))(hv:cells[0]? = some v):w.cell? p=some v:=by
 have:=lM Y hi (k:=0) hv
 simpa [Addr.add] using this
def DY {k:Nat}{cells:List Value}{v:Value}{put:HP->List HP}[C:bY P t](hx:aX ρ x=.pointer (some (p.add k)))(Y:M w0 w Γ)(B:gO Γ p bt cells put)(hv:cells[k]? = some v):ReadV P ⟨dst,.load t x,ty,pos,af,g⟩ ρ w v:=by
 obtain⟨i,hi,_⟩:=B.mK.ok;exact wB hx (lM Y hi hv)
def DZ {cells:List Value}{v:Value}{put:HP->List HP}[C:bY P t](hx:aX ρ x=.pointer (some p))(Y:M w0 w Γ)(B:gO Γ p bt cells put)(hv:cells[0]? = some v):ReadV P ⟨dst,.load t x,ty,pos,af,g⟩ ρ w v:=by
 obtain⟨i,hi,_⟩:=B.mK.ok;exact wB hx (Cj Y hi hv)
def D0 {cells:List Value}{put:HP->List HP}[A:eT P t n](hx:aX ρ x=.pointer (some p))(Y:M w0 w Γ)(B:gO Γ p bt cells put)(c:cells.length=n):ReadV P ⟨dst,.load t x,ty,pos,af,g⟩ ρ w (.agg cells.toArray):=by
 obtain⟨i,hi,_⟩:=B.mK.ok;exact GW hx c fun _ _ hv=>lM Y hi hv
def xX {b:Nat}{bt:TypeId}:∀ (vs:List Value) (off i:Nat) (cs:List Value) (w:World),(∀ v∈vs,v.oneCell'=true)->off+i+vs.length<=cs.length->w.heap[b]? = some (.cells cs.toArray bt (0,0)) ->
  (storeCells ⟨b,off,none⟩ vs i).run P w=.ok () (eP w b (.cells (cs.take (off+i)++vs++cs.drop (off+i+vs.length)).toArray bt (0,0)))
 | [],off,i,cs,w,_,_,c=>by
  have:(eP w b (.cells (cs.take (off+i)++[]++cs.drop (off+i+0)).toArray bt (0,0)))=w:=by
   simp only[eP,fI,zQ,yC];cases w;simp only[World.mk.injEq,GF];apply wH;intro k;simp only at c;by_cases hk:b=k
   ·subst hk;rw[Bi (kV.1 c).1];exact c.symm
   rw[uG hk]
  simp only[storeCells,ga,length_nil,this]
 | v::vs,off,i,cs,w,hv,V,c=>by
  have C:(⟨b,off,none⟩:Addr).add i=⟨b,off+i,none⟩:=by unfold Addr.add;split<;>simp_all
  simp only[length_cons]at V;have hc:w.cell? ⟨b,off+i,none⟩=some cs[off+i]:=by rw[dI c];exact kP U
  have S:w.setCell ⟨b,off+i,none⟩ v=eP w b (.cells (cs.set (off+i) v).toArray bt (0,0)):=by
   simp only[World.setCell,eP];congr 1;apply wH;intro k;have q:=(kV.1 c).1;by_cases hk:b=k
   ·subst hk;rw[wk,aP rfl,c,Bi q];simp
   rw[wk,aH hk,uG hk]
  simp only[storeCells,eR,C,run_store P w _ v .plain (hv v sm),hc,e8 c,Cr,if_false,eF,S];have q:=(kV.1 c).1;rw[xX (bt:=bt) vs off (i+1) (cs.set (off+i) v) _ (fun u hu=>hv u (by simp[hu])) (by simp;omega) (by simp[eP,q])];congr 1;simp only[eP,Array.setIfInBounds_setIfInBounds];congr 4;have h1:(cs.set (off+i) v).take (off+(i+1))=cs.take (off+i)++[v]:=by
   rw[show off+(i+1)=off+i+1 from by omega,JS (by simp;omega),Gt U];simp
  have h2:(cs.set (off+i) v).drop (off+(i+1)+vs.length)=cs.drop (off+i+(vs.length+1)):=by
   rw[drop_set_of_lt U];congr 1;omega
  rw[h1,h2];simp
def Bn {v:Value}{K:Value->World->Prop}(hx:aX ρ x=.pointer (some p))(q:aX ρ y=v)(c:∀ w,(sizeOf t).run P w=.ok v.cells.size w)(C:(storeCells p v.cells.toList).run P w=.ok () w')(h:K undef w') :
  opW P ⟨none,.store t x y,ty,pos,af,none⟩ ρ w K:=by
 simp only[opW,execOp,hx,q,Instr.storeAt,Instr.sureAddr,eR,ga,eF,storeVar,c,ne_eq,not_true,if_false,C,cn];exact h
def F9 {k:Nat}{cells:List Value}{v:Value}{put:HP->List HP}[C:bY P t](hx:aX ρ x=.pointer (some (p.add k)))(hy:aX ρ y=v)(hv:v.oneCell'=true)(Y:M w0 w Γ)(B:gO Γ p bt cells put)(hk:k<cells.length)(h:∀ w',M w0 w' (put (ak p bt (cells.set k v)))->opsW P Z K r ρ w'):opsW P Z K (⟨none,.store t x y,ty,pos,af,none⟩::r) ρ w:=by
 refine kW rfl ?_;obtain⟨i,hi,c⟩:=B.mK.ok;simp only[c]at h;obtain⟨h1,hs,ho,q,V⟩:=Y.at i hi;obtain⟨pb,po,j'⟩:=p;simp only at ho q V;subst ho q;have S:(⟨pb,0,none⟩:Addr).add k=⟨pb,k,none⟩:=by unfold Addr.add;split<;>simp_all
 rw[S]at hx;have hc:v.cells=#[v]:=by cases v<;>first|rfl|(simp[Value.oneCell']at hv)
 refine Bn hx hy (fun w=>by rw[hc];exact C.plain.2 w) (w':=eP w pb (.cells (cells.set k v).toArray bt (0,0))) ?_ ?_
 ·rw[hc]
  have:=xX (P:=P) (b:=pb) [v] k 0 cells w (by simpa using hv) (by simp;omega) (hs _ _ V).1;rw[show #[v].toList=[v] from rfl,this];congr 4;simp only[zQ,length_cons,length_nil,xU];rw[DS];simp[hk]
 refine h _ ((M.put (Y.bJ i hi) fun h1 _ ⟨_,_,V⟩=>⟨⟨_,V⟩,rfl,rfl,by simp[mN]⟩).iq i hi)
def OF {k:Nat}{cells:List Value}{v:Value}{put:HP->List HP}[C:bY P t](hx:aX ρ x=.pointer (some (p.add k)))(hy:aX ρ y=v)(hv:v.oneCell'=true)(Y:M w0 w Γ)(B:gO Γ p bt cells put)(hk:k<cells.length)(h:∀ w',M w0 w' (put (ak p bt (cells.set k v)))->nO w w'->opsW P Z K r ρ w'):opsW P Z K (⟨none,.store t x y,ty,pos,af,none⟩::r) ρ w:=by
 refine kW rfl ?_;obtain⟨i,hi,c⟩:=B.mK.ok;simp only[c]at h;obtain⟨h1,hs,ho,q,S⟩:=Y.at i hi;obtain⟨pb,po,j'⟩:=p;simp only at ho q S;subst ho q;have V:(⟨pb,0,none⟩:Addr).add k=⟨pb,k,none⟩:=by unfold Addr.add;split<;>simp_all
 rw[V]at hx;have hc:v.cells=#[v]:=by cases v<;>first|rfl|(simp[Value.oneCell']at hv)
 refine Bn hx hy (fun w=>by rw[hc];exact C.plain.2 w) (w':=eP w pb (.cells (cells.set k v).toArray bt (0,0))) ?_ ?_
 ·rw[hc]
  have:=xX (P:=P) (b:=pb) [v] k 0 cells w (by simpa using hv) (by simp;omega) (hs _ _ S).1;rw[show #[v].toList=[v] from rfl,this];congr 4;simp only[zQ,length_cons,length_nil,xU];rw[DS];simp[hk]
 refine h _ ((M.put (Y.bJ i hi) fun h1 _ ⟨_,_,S⟩=>⟨⟨_,S⟩,rfl,rfl,by simp[mN]⟩).iq i hi) (Pz (hs _ _ S).1)
def Xu {cells:List Value}{v:Value}{put:HP->List HP}[C:bY P t](hx:aX ρ x=.pointer (some p))(c:aX ρ y=v)(hv:v.oneCell'=true)(Y:M w0 w Γ)(B:gO Γ p bt cells put)(hk:0<cells.length)(h:∀ w',M w0 w' (put (ak p bt (cells.set 0 v)))->opsW P Z K r ρ w'):opsW P Z K (⟨none,.store t x y,ty,pos,af,none⟩::r) ρ w :=
 F9 (k:=0) (by simpa [Addr.add] using hx) c hv Y B hk h
def jH {cells:List Value}{put:HP->List HP}[A:eT P t n](hx:aX ρ x=.pointer (some p))(hy:aX ρ y=.agg vs.toArray)(Y:M w0 w Γ)(B:gO Γ p bt cells put)(hn:vs.length=n)(hl:cells.length=n)(hv:vs.all Value.oneCell'=true)(h:∀ w',M w0 w' (put (ak p bt vs))->opsW P Z K r ρ w'):opsW P Z K (⟨none,.store t x y,ty,pos,af,none⟩::r) ρ w:=by
 refine kW rfl ?_;obtain⟨i,hi,c⟩:=B.mK.ok;simp only[c]at h;obtain⟨h1,hs,S,q,C⟩:=Y.at i hi;obtain⟨V,po,j'⟩:=p;simp only at S q C;subst S q;refine Bn hx hy (fun w=>by rw[A.agg.2];simp[Value.cells,hn]) (w':=eP w V (.cells vs.toArray bt (0,0))) ?_ ?_
 ·have:=xX (P:=P) (b:=V) vs 0 0 cells w (by simpa using hv) (by simp;omega) (hs _ _ C).1
  simp only[Value.cells];rw[this];congr 4;simp only[zQ,xU,wI,kq];rw[qz U,fI]
 exact h _ ((M.put (Y.bJ i hi) fun h1 _ ⟨_,_,C⟩=>⟨⟨_,C⟩,rfl,rfl,by simp[mN]⟩).iq i hi)
def Xv [Z':bn P t zs](Y:M w0 w Γ)(h:∀ p w',M w0 w' (ak p t zs::Γ)->opsW P Z K r (fa ρ d (.pointer (some p))) w'):opsW P Z K (⟨some d,.alloc t,ty,pos,af,none⟩::r) ρ w:=by
 refine kW rfl ?_;obtain⟨v,hv,c⟩:=Z'.zero;simp only[opW,execOp,Instr.alloc,eR,c,eF,newVar,newRow,run_newObj,ga,cn,hv];exact h ⟨w.heap.size,0,none⟩ _ (Y.push (o:=.cells zs.toArray t) ⟨rfl,rfl,sm⟩)
def P3 {v:Value}(hx:aX ρ x=v)(Y:M w0 w Γ)(h:∀ p w',M w0 w' (ak p t v.cells.toList::Γ)->opsW P Z K r (fa ρ d (.pointer (some p))) w'):opsW P Z K (⟨some d,.box t x,ty,pos,af,none⟩::r) ρ w:=by
 refine kW rfl ?_;simp only[opW,execOp,Instr.box,eR,eF,newVar,newRow,run_newObj,ga,cn,hx];exact h ⟨w.heap.size,0,none⟩ _ (Y.push (o:=.cells v.cells t) ⟨rfl,rfl,sm⟩)
def Ks {j k:Nat}{e:TypeId}{v:Value}{x':α}(hv:v.oneCell'=true)(Y:M w0 w Γ)(hi:Γ[i]? = some (X T e s xs))(hj:j<xs.length)(hk:k<T.sz)(he:T.enc x'=(T.enc (xs.getD j T.dflt)).set k v) :
  ∃ w',(storeCells ((gU T s j).add k) [v]).run P w=.ok () w'/\M w0 w' (Γ.set i (X T e s (xs.set j x')))/\nO w w':=by
 obtain⟨h1,hs,ho,hl⟩:=Y.at i hi;have hlen:=T.len xs;rcases ho with ⟨rfl,_c⟩|⟨b,off,n,cap,pre,post,rfl,q,j',H',C,J',hb⟩
 ·simp only[ee]at hl;omega
 have _d:j*T.sz+k<(xs.flatMap T.enc).length:=by
  rw[hlen];have:(j+1)*T.sz<=xs.length*T.sz:=uF _ hj;rw[qB]at this;omega
 have S:(gU T (.slice (some ⟨b,off,none⟩) n cap) j).add k=⟨b,off+(j*T.sz+k),none⟩:=by
  unfold gU wR Addr.add;split
  ·rename_i c;subst c;simp
  simp[zT]
 rw[S];have V:((pre++xs.flatMap T.enc++post).take (off+(j*T.sz+k)+0)++[v]++(pre++xs.flatMap T.enc++post).drop (off+(j*T.sz+k)+0+1))=pre++(xs.set j x').flatMap T.enc++post:=by
  rw[<-T.set xs j k v x' hj hk he];have c:(pre++xs.flatMap T.enc++post).set (off+(j*T.sz+k)) v=pre++(xs.flatMap T.enc).set (j*T.sz+k) v++post:=by
   rw[fG,yB _ _ U,J6 _ _ U,show off+(j*T.sz+k)-pre.length=j*T.sz+k from by omega,fG]
  rw[<-c,DS,aP (by simp only[length_append];omega)];simp
 refine⟨eP w b (.cells (pre++(xs.set j x').flatMap T.enc++post).toArray e (0,0)),?_,?_,Pz (hs b _ hb).1⟩
 ·rw[xX (b:=b) (bt:=e) [v] _ 0 _ w (by simpa using hv) (by simp only[length_append,length_cons,length_nil];omega) (hs b _ hb).1]
  rw[<-V];rfl
 have c:=T.len (xs.set j x');refine(M.put (Y.bJ i hi) fun g I ⟨P',_k⟩=>?_).iq i hi;rcases P' with ⟨hn,_⟩|⟨b',_e,n',_f,_g,R',T',V',_h,_i,_a,_j,_b⟩
 ·cases hn
 cases T';refine⟨⟨_,_b⟩,.inr ⟨b,off,n,cap,pre,post,rfl,q,by rw[c,gS,<-hlen,j'],H',C,J',by simp[mN]⟩,by rw[gS];exact hl⟩
def Xw {j:Nat}{e:TypeId}{v:Value}{x':α}{put:HP->List HP}[C:bY P t](hx:aX ρ x=.pointer (some (gU T s j)))(V:aX ρ y=v)(hv:v.oneCell'=true)(Y:M w0 w Γ)(O':gP Γ s α T e xs put)(hj:j<xs.length)(he:T.enc x'=[v])
  (h:∀ w',M w0 w' (put (X T e s (xs.set j x')))->opsW P Z K r ρ w'):opsW P Z K (⟨none,.store t x y,ty,pos,af,none⟩::r) ρ w:=by
 refine kW rfl ?_;obtain⟨i,hi,c⟩:=O'.mK.ok;simp only[c]at h;have q:T.sz=1:=by rw[<-T.ok x',he];rfl
 have S:v.cells=#[v]:=by cases v<;>first|rfl|(simp[Value.oneCell']at hv)
 have h1:T.enc x'=(T.enc (xs.getD j T.dflt)).set 0 v:=by
  rw[he];have:=T.ok (xs.getD j T.dflt);rw[q]at this
  match h2:T.enc (xs.getD j T.dflt),this with
  | [u],_=>rfl
 obtain⟨w',hr,hs,j'⟩:=Ks (P:=P) (k:=0) hv Y hi hj U h1;exact Bn hx V (fun w=>by rw[S];exact C.plain.2 w) (by rw[S];simpa [Addr.add] using hr) (h _ hs)
def WL {j:Nat}{e:TypeId}{v:Value}{x':α}{put:HP->List HP}[C:bY P t](hx:aX ρ x=.pointer (some (gU T s j)))(hy:aX ρ y=v)(hv:v.oneCell'=true)(Y:M w0 w Γ)(O':gP Γ s α T e xs put)(hj:j<xs.length)(he:T.enc x'=[v])
  (h:∀ w',M w0 w' (put (X T e s (xs.set j x')))->nO w w'->opsW P Z K r ρ w'):opsW P Z K (⟨none,.store t x y,ty,pos,af,none⟩::r) ρ w:=by
 refine kW rfl ?_;obtain⟨i,hi,c⟩:=O'.mK.ok;simp only[c]at h;have q:T.sz=1:=by rw[<-T.ok x',he];rfl
 have V:v.cells=#[v]:=by cases v<;>first|rfl|(simp[Value.oneCell']at hv)
 have h1:T.enc x'=(T.enc (xs.getD j T.dflt)).set 0 v:=by
  rw[he];have:=T.ok (xs.getD j T.dflt);rw[q]at this
  match S:T.enc (xs.getD j T.dflt),this with
  | [u],_=>rfl
 obtain⟨w',hr,hs,S⟩:=Ks (P:=P) (k:=0) hv Y hi hj U h1;exact Bn hx hy (fun w=>by rw[V];exact C.plain.2 w) (by rw[V];simpa [Addr.add] using hr) (h _ hs S)
def VS {j k:Nat}{e:TypeId}{v:Value}{x':α}{put:HP->List HP}[C:bY P t](hx:aX ρ x=.pointer (some ((gU T s j).add k)))(S:aX ρ y=v)(hv:v.oneCell'=true)(Y:M w0 w Γ)(V:gP Γ s α T e xs put)(hj:j<xs.length)(hk:k<T.sz)(he:T.enc x'=(T.enc (xs.getD j T.dflt)).set k v)
  (h:∀ w',M w0 w' (put (X T e s (xs.set j x')))->opsW P Z K r ρ w'):opsW P Z K (⟨none,.store t x y,ty,pos,af,none⟩::r) ρ w:=by
 refine kW rfl ?_;obtain⟨i,hi,c⟩:=V.mK.ok;simp only[c]at h;have q:v.cells=#[v]:=by cases v<;>first|rfl|(simp[Value.oneCell']at hv)
 obtain⟨w',hr,hs,j'⟩:=Ks (P:=P) hv Y hi hj hk he;exact Bn hx S (fun w=>by rw[q];exact C.plain.2 w) (by rw[q];exact hr) (h _ hs)
end
end
end
section
open Go.RowKit (Below)
section
variable {P:Program}{Q:Exit->Fr->World->Prop}{ρ:Fr}{w w0:World}{Γ:List HP}
def vt {a b:Code}(h:vc P a (Thn (vc P b Q) Q) ρ w):vc P (.seq a b) Q ρ w:=h
def GX (h:Q .normal ρ w):vc P .skip Q ρ w:=h
def GY (h:Q (.exit i) ρ w):vc P (.exit i) Q ρ w:=h
def GZ (h:Q .ret ρ w):vc P .ret Q ρ w:=h
def Ce {c:Code}(h:vc P c (Blk i Q) ρ w):vc P (.block i c) Q ρ w:=h
def Xx {c:Operand}{x y:Code}{t:Bool}(q:aX ρ c=.bool t)(h1:t=true->vc P x Q ρ w)(C:t=false->vc P y Q ρ w):vc P (.cond c x y) Q ρ w:=⟨t,q,h1,C⟩
def Xy {c:Operand}{x y:Code}(q:aX ρ c=.bool true)(h1:vc P x Q ρ w):vc P (.cond c x y) Q ρ w:=⟨true,q,fun _=>h1,fun h=>by cases h⟩
def Xz {c:Operand}{x y:Code}(q:aX ρ c=.bool false)(h1:vc P y Q ρ w):vc P (.cond c x y) Q ρ w:=⟨false,q,fun h=>(by cases h),fun _=>h1⟩
def tF (h:opsW P l.toArray (Q .normal) l ρ w):vc P (.region i l.toArray false) Q ρ w:=h
def XA (Y:M w0 w Γ)(c:qL P l.toArray=true)(h:∀ w',M w0 w' Γ->opsW P l.toArray (Q .normal) l ρ w'):vc P (.region i l.toArray true) Q ρ w :=
 .inl ⟨c,h _ Y.drew⟩
def pl:List Nat->List cB->List cB
 | [],l=>l
 | n::a,l=>.op n::pl a l
def PT.s:List Nat->PT->PT
 | [],t=>t
 | n::a,t=>.step n [.op n] (PT.s a t)
def PT.c (n:Nat)(l:List Nat)(t:PT):PT:=.step n (.op n::l.map .cJ) t
def PT.d (n:Nat)(l:List Nat)(t m:PT):PT:=.Bk n (.op n::l.map .cJ) t m
def fQ (is:List cB)(Y:M w0 w Γ)(c:o9 P l.toArray is=true)(h:∀ w',M w0 w' Γ->opsD P l.toArray (Q .normal) is ρ w'):vc P (.region i l.toArray true) Q ρ w :=
 .inr (.inl ⟨is,c,h _ Y.drew⟩)
def xL (T:PT)(Y:M w0 w Γ)(c:sW P l.toArray=true)(q:jA P l.toArray [] [] T=true)(h:∀ w',M w0 w' Γ->jR P l.toArray (Q .normal) T ρ w'):vc P (.region i l.toArray true) Q ρ w :=
 .inr (.inr ⟨T,c,q,h _ Y.drew⟩)
def G0 {Z:Array Oper}{K:Fr->World->Prop}(h:opsD P Z K is ρ w):jR P Z K (.j6 is) ρ w:=h
def G3 {Z:Array Oper}{K:Fr->World->Prop}{t:PT}(h:opsD P Z (jR P Z K t) is ρ w):jR P Z K (.step i is t) ρ w:=h
def jF {Z:Array Oper}{K:Fr->World->Prop}{t m:PT}(h:opsD P Z (jR P Z K t) is ρ w)(hm:jR P Z K m ρ w):jR P Z K (.Bk i is t m) ρ w:=⟨h,hm⟩
def qt {Z:Array Oper}{K:Fr->World->Prop}:jR P Z K .stop ρ w:=trivial
def D1 {Z:Array Oper}{K:Fr->World->Prop}(h:K ρ w):opsD P Z K [] ρ w:=h
def zZ {K:Fr->World->Prop}{r:List cB}{o:Oper}(h:opsW P l.toArray (opsD P l.toArray K r) [o] ρ w)(c:l[i]? = some o:=by exact rfl):opsD P l.toArray K (.op i::r) ρ w:=by
 have:(l.toArray)[i]? = some o:=by simpa using c
 simp only[opsD,this];exact h
def Kt {K:Fr->World->Prop}{r:List cB}{d:Nat}{op:Op}{ty:TypeId}{pos:String}{af:Array Edge}{v:Value}(c:l[i]? = some ⟨some d,op,ty,pos,af,none⟩)(hv:ReadV P ⟨some d,op,ty,pos,af,none⟩ ρ w v)(he:ρ d=v)(h:opsD P l.toArray K r ρ w):opsD P l.toArray K (.cJ i::r) ρ w:=by
 have:(l.toArray)[i]? = some ⟨some d,op,ty,pos,af,none⟩:=by simpa using c
 simp only[opsD,this];refine⟨fun C q=>?_,h⟩;cases q;rw[he];exact hv
def Ku {K:Fr->World->Prop}{r:List cB}{d:Nat}{op:Op}{ty:TypeId}{pos:String}{af:Array Edge}{v:Value}{j:Nat}{want:Bool}(c:l[i]? = some ⟨some d,op,ty,pos,af,some (j,want)⟩)(hv:gm l.toArray ρ (j,want)=true->ReadV P ⟨some d,op,ty,pos,af,none⟩ ρ w v/\ρ d=v)(h:opsD P l.toArray K r ρ w):opsD P l.toArray K (.cJ i::r) ρ w:=by
 have:(l.toArray)[i]? = some ⟨some d,op,ty,pos,af,some (j,want)⟩:=by simpa using c
 simp only[opsD,this];refine⟨fun I S q=>?_,h⟩;cases q;obtain⟨h1,C⟩:=hv I;rw[C];exact h1
def Co (h:N ρ w):Thn N Q .normal ρ w:=h
def G4 (h:Q (.exit i) ρ w):Thn N Q (.exit i) ρ w:=h
def G5 (h:Q .ret ρ w):Thn N Q .ret ρ w:=h
def G6 (h:Q .normal ρ w):Blk i Q .normal ρ w:=h
def G7 (h:Q .ret ρ w):Blk i Q .ret ρ w:=h
def G8 (h:Q .normal ρ w):Blk i Q (.exit i) ρ w:=by simp only[Blk,if_true];exact h
def XB {j:Nat}(c:Nat.beq i j=false)(h:Q (.exit i) ρ w):Blk j Q (.exit i) ρ w:=by
 have:i≠j:=fun e=>by subst e;simp at c
 simp only[Blk,aH this];exact h
def el:List Nat->Nat->Bool
 | a::b::l,t=>(ble a t && ble t b) || el l t
 | _,_=>false
def G9 (a b:Nat):List Nat->Bool
 | c::d::l=>(ble c a && ble b d) || G9 a b l
 | _=>false
def Ha:List Nat->List Nat->Bool
 | a::b::l,W_=>G9 a b W_ && Ha l W_
 | _,_=>true
def P4 {a b t:Nat}(h1:ble a t=true)(h2:ble t b=true):∀ {W_:List Nat},G9 a b W_=true->el W_ t=true
 | [],h=>by cases h
 | [_],h=>by cases h
 | c::d::l,h=>by
  simp only[G9,pO,Bool.and_eq_true]at h;simp only[el,pO,Bool.and_eq_true];rcases h with ⟨x,y⟩|h
  ·exact .inl ⟨ble_eq_true_of_le (oD (fX x) (fX h1)),ble_eq_true_of_le (oD (fX h2) (fX y))⟩
  exact .inr (P4 h1 h2 h)
def P5 {t:Nat}{W_:List Nat}:∀ {V:List Nat},Ha V W_=true->el V t=true->el W_ t=true
 | [],_,h=>by cases h
 | [_],_,h=>by cases h
 | a::b::l,c,h=>by
  simp only[Ha,Bool.and_eq_true]at c;simp only[el,pO,Bool.and_eq_true]at h;rcases h with ⟨x,y⟩|h
  ·exact P4 x y c.1
  exact P5 c.2 h
def lC (W_:List Nat)(c ρ:Fr):Fr:=fun t=>bif el W_ t then c t else ρ t
def rn (ρ:Fr):List (Nat × Value)->Fr
 | []=>ρ
 | (d,v)::l=>fa (rn ρ l) d v
def ia (W_:List Nat)(ρ ρ0:Fr):Prop:=∀ t,el W_ t=false->ρ t=ρ0 t
def Holds (ρ:Fr):List (Nat × Value)->Prop
 | []=>True
 | (d,v)::l=>ρ d=v/\Holds ρ l
def P6:ia W_ ρ ρ:=fun _ _=>rfl
def P7 {d:Nat}{v:Value}(q:el W_ d=true)(h:ia W_ ρ ρ0):ia W_ (fa ρ d v) ρ0:=by
 intro t c;have:Nat.beq t d=false:=by
  cases C:Nat.beq t d with
  | false=>rfl
  | true=>have:=J3 C;subst this;rw[q]at c;cases c
 simp only[fa,this,cond_false];exact h t c
def XC {c:List Nat}{C:Fr}(S:Ha c W_=true)(h:ia W_ ρ ρ0):ia W_ (lC c C ρ) ρ0:=by
 intro t q;have:el c t=false:=by
  cases V:el c t with
  | false=>rfl
  | true=>rw[P5 S V]at q;cases q
 simp only[lC,this,cond_false];exact h t q
def P8 {W_:List Nat}{ρ0:Fr}:∀ {l:List (Nat × Value)},l.all (fun p=>el W_ p.1)=true->ia W_ ρ ρ0->ia W_ (rn ρ l) ρ0
 | [],_,h=>h
 | (d,v)::l,c,h=>by
  simp only[ew,Bool.and_eq_true]at c;exact P7 c.1 (P8 c.2 h)
def P9:∀ {l:List (Nat × Value)},Holds ρ l->ia W_ ρ ρ0->l.all (fun p=>el W_ p.1)=true->rn (lC W_ ρ ρ0) l=ρ:=by
 intro l q C V;have S:lC W_ ρ ρ0=ρ:=by
  funext t
  simp only[lC]
  cases c:el W_ t with
  | true=>rfl
  | false=>exact(C t c).symm
 rw[S];clear V S C
 induction l with
 | nil=>rfl
 | cons p l ih =>
  obtain⟨d,v⟩:=p;simp only[rn,ih q.2]
  funext t
  simp only[fa]
  cases c:Nat.beq t d with
  | false=>rfl
  | true=>have:=J3 c;subst this;exact q.1.symm
def cN {c:Code}(W_:List Nat){G:Type}(V:G->List (Nat × Value))(q:G->World->Prop)(μ:G->Nat)(g0:G)
  (hV:∀ g,(V g).all (fun p=>el W_ p.1)=true)(h0:Holds ρ (V g0))(hj:q g0 w)
  (hr:∀ σ g w,q g w->vc P c (Thn (fun C w'=>∃ S,Holds C (V S)/\ia W_ C ρ/\q S w'/\μ S<μ g) Q) (rn (lC W_ σ ρ) (V g)) w):vc P (.loop c) Q ρ w:=by
 refine⟨fun m C w'=>∃ g,μ g=m/\Holds C (V g)/\ia W_ C ρ/\q g w',⟨μ g0,g0,rfl,h0,P6,hj⟩,?_⟩;rintro m C w' ⟨g,rfl,hh,ha,hj⟩;have:=hr C g w' hj;rw[P9 hh ha (hV g)]at this;refine j4 this fun e j' w2 hq=>?_
 cases e with
 | normal=>obtain⟨S,h1,h2,h3,h4⟩:=hq;exact⟨μ S,h4,S,rfl,h1,h2,h3⟩
 | _=>exact hq
where
 j4:∀ {c:Code}{Q S:Exit->Fr->World->Prop}{ρ:Fr}{w:World},vc P c Q ρ w->(∀ e ρ w,Q e ρ w->S e ρ w)->vc P c S ρ w:=by
  intro c;have j':∀ (Z:Array Oper) (l:List Oper) {K K':Fr->World->Prop},(∀ ρ w,K ρ w->K' ρ w)->∀ {ρ:Fr}{w:World},opsW P Z K l ρ w->opsW P Z K' l ρ w:=by
   intro Z l K K' hk
   induction l with
   | nil=>intro ρ w h;exact hk _ _ h
   | cons o r C =>
    intro ρ w h;have hv:∀ {ρ w},opV P o ρ w (opsW P Z K r)->opV P o ρ w (opsW P Z K' r):=by
     intro ρ w h;unfold opV at *
     split at h
     ·obtain⟨v,h1,h2⟩:=h;exact⟨v,h1,C h2⟩
     ·obtain⟨v,h1,h2⟩:=h;exact⟨v,h1,C h2⟩
     exact uH (fun v w' hh=>C hh) h
    simp only[opsW]at h ⊢;split
    ·rename_i I;simp only[I]at h;exact hv h
    rename_i g I;simp only[I]at h;exact⟨fun h1=>hv (h.1 h1),fun h1=>C (h.2 h1)⟩
  induction c with
  | skip=>intro Q S ρ w h hq;exact hq _ _ _ h
  | label l=>intro Q S ρ w h hq;exact hq _ _ _ h
  | exit i=>intro Q S ρ w h hq;exact hq _ _ _ h
  | ret=>intro Q S ρ w h hq;exact hq _ _ _ h
  | seq a b H' J' =>
   intro Q S ρ w h hq;refine H' (Q:=Thn (vc P b Q) Q) h fun e ρ w he=>?_
   cases e with
   | normal=>exact J' he hq
   | _=>exact hq _ _ _ he
  | cond c x y P' R' =>
   intro Q S ρ w h hq;obtain⟨t,ht,h1,h0⟩:=h
   exact⟨t,ht,fun h=>P' (h1 h) hq,fun h=>R' (h0 h) hq⟩
  | block i c C =>
   intro Q S ρ w h hq;refine C (Q:=Blk i Q) h fun e ρ w he=>?_
   cases e with
   | exit j =>
    simp only[Blk]at he ⊢;split
    ·rename_i hj;rw[aP hj]at he;exact hq _ _ _ he
    rename_i hj;rw[aH hj]at he;exact hq _ _ _ he
   | _=>exact hq _ _ _ he
  | loop c C =>
   intro Q S ρ w h hq;obtain⟨I',hm,hr⟩:=h;refine⟨I',hm,fun m ρ w hI=>C (hr m ρ w hI) fun e ρ w he=>?_⟩
   cases e with
   | normal=>exact he
   | _=>exact hq _ _ _ he
  | region i Z draw =>
   intro Q S ρ w h hq
   cases draw with
   | false=>exact j' Z _ (fun ρ w h=>hq _ _ _ h) h
   | true =>
    have hD:∀ (is:List cB) {K K':Fr->World->Prop},(∀ ρ w,K ρ w->K' ρ w)->∀ {ρ:Fr}{w:World},opsD P Z K is ρ w->opsD P Z K' is ρ w:=by
     intro is K K' hk
     induction is with
     | nil=>intro ρ w h;exact hk _ _ h
     | cons x r C =>
      intro ρ w h
      cases x with
      | op i =>
       simp only[opsD]at h ⊢;split
       ·rename_i o ho;rw[ho]at h;exact j' Z _ (fun ρ w h=>C h) h
       rename_i ho;rw[ho]at h;exact h
      | cJ i=>simp only[opsD]at h ⊢;exact⟨h.1,C h.2⟩
    have hT:∀ (T:PT) {ρ:Fr}{w:World},jR P Z (Q .normal) T ρ w->jR P Z (S .normal) T ρ w:=by
     intro T
     induction T with
     | j6 is=>intro ρ w h;exact hD is (fun ρ w h=>hq _ _ _ h) h
     | step i is t C=>intro ρ w h;exact hD is (fun ρ w h=>C h) h
     | Bk i is t m C T'=>intro ρ w h;exact⟨hD is (fun ρ w h=>C h) h.1,T' h.2⟩
     | stop=>intro ρ w _;trivial
    rcases h with h|⟨is,hp,h⟩|⟨T,hb,ht,h⟩
    ·exact .inl ⟨h.1,j' Z _ (fun ρ w h=>hq _ _ _ h) h.2⟩
    ·exact .inr (.inl ⟨is,hp,hD is (fun ρ w h=>hq _ _ _ h) h⟩)
    exact .inr (.inr ⟨T,hb,ht,hT T h⟩)
  | _=>intro Q S ρ w h hq;exact h.elim
def j4 {c:Code}{Q q:Exit->Fr->World->Prop}{ρ:Fr}{w:World}(h:vc P c Q ρ w)(hq:∀ e ρ w,Q e ρ w->q e ρ w):vc P c q ρ w:=cN.j4 h hq
def dN {c:Code}(W_:List Nat){G:Type}(V:G->H->List (Nat × Value))(q:G->H->World->Prop)(μ:G->H->Nat)(g0:G)(C:H)(hV:∀ g h,(V g h).all (fun p=>el W_ p.1)=true)(h0:Holds ρ (V g0 C))(hj:q g0 C w)(hr:∀ σ g h w,q g h w->vc P c (Thn (fun S w'=>∃ g' h',Holds S (V g' h')/\ia W_ S ρ/\q g' h' w'/\μ g' h'<μ g h) Q) (rn (lC W_ σ ρ) (V g h)) w):vc P (.loop c) Q ρ w:=by
 refine cN W_ (G:=G × H) (fun x=>V x.1 x.2) (fun x=>q x.1 x.2) (fun x=>μ x.1 x.2) (g0,C) (fun x=>hV _ _) h0 hj fun σ x w hx=>j4 (hr σ x.1 x.2 w hx) fun e ρ w he=>?_
 cases e with
 | normal=>obtain⟨g',h',he⟩:=he;exact⟨(g',h'),he⟩
 | _=>exact he
def nE {c:Code}(W_:List Nat){G I':Type}(V:G->H->I'->List (Nat × Value))(q:G->H->I'->World->Prop)(μ:G->H->I'->Nat)(g0:G)(C:H)(i0:I')(hV:∀ g h i,(V g h i).all (fun p=>el W_ p.1)=true)(h0:Holds ρ (V g0 C i0))(hj:q g0 C i0 w)(hr:∀ σ g h i w,q g h i w->vc P c (Thn (fun S w'=>∃ g' h' i',Holds S (V g' h' i')/\ia W_ S ρ/\q g' h' i' w'/\μ g' h' i'<μ g h i) Q) (rn (lC W_ σ ρ) (V g h i)) w):vc P (.loop c) Q ρ w:=by
 refine cN W_ (G:=G × H × I') (fun x=>V x.1 x.2.1 x.2.2) (fun x=>q x.1 x.2.1 x.2.2) (fun x=>μ x.1 x.2.1 x.2.2) (g0,C,i0) (fun x=>hV _ _ _) h0 hj fun σ x w hx=>j4 (hr σ x.1 x.2.1 x.2.2 w hx) fun e ρ w he=>?_
 cases e with
 | normal=>obtain⟨g',h',i',he⟩:=he;exact⟨(g',h',i'),he⟩
 | _=>exact he
def zF {c:Code}(W_:List Nat){G I' M':Type}(V:G->H->I'->M'->List (Nat × Value))(q:G->H->I'->M'->World->Prop)(μ:G->H->I'->M'->Nat)(g0:G)(C:H)(i0:I')(m0:M')(hV:∀ g h i m,(V g h i m).all (fun p=>el W_ p.1)=true)(h0:Holds ρ (V g0 C i0 m0))(hj:q g0 C i0 m0 w)(hr:∀ σ g h i m w,q g h i m w->vc P c (Thn (fun S w'=>∃ g' h' i' m',Holds S (V g' h' i' m')/\ia W_ S ρ/\q g' h' i' m' w'/\μ g' h' i' m'<μ g h i m) Q) (rn (lC W_ σ ρ) (V g h i m)) w):vc P (.loop c) Q ρ w:=by
 refine cN W_ (G:=G × H × I' × M') (fun x=>V x.1 x.2.1 x.2.2.1 x.2.2.2) (fun x=>q x.1 x.2.1 x.2.2.1 x.2.2.2) (fun x=>μ x.1 x.2.1 x.2.2.1 x.2.2.2) (g0,C,i0,m0) (fun x=>hV _ _ _ _) h0 hj fun σ x w hx=>j4 (hr σ x.1 x.2.1 x.2.2.1 x.2.2.2 w hx) fun e ρ w he=>?_
 cases e with
 | normal=>obtain⟨g',h',i',m',he⟩:=he;exact⟨(g',h',i',m'),he⟩
 | _=>exact he
def th {c:Code}(W_:List Nat){G:Type}(V:G->List (Nat × Value))(q:G->World->Prop)(S:∀ g,(V g).all (fun p=>el W_ p.1)=true)(h1:vc P c (Thn (fun C w'=>∃ g,Holds C (V g)/\ia W_ C ρ/\q g w') Q) ρ w)(h2:∀ σ g w,q g w->N (rn (lC W_ σ ρ) (V g)) w):vc P c (Thn N Q) ρ w:=by
 refine j4 h1 fun e C w' he=>?_
 cases e with
 | normal =>
  obtain⟨g,hh,ha,hj⟩:=he;have:=h2 C g w' hj;rw[P9 hh ha (S g)]at this
  exact this
 | _=>exact he
def XD {f:FuncId}{fn:Func}{c:Code}(q:P.funcs[f]? = some fn)(C:(fn.name == "runtime.NumGoroutine") = false)(S : fn.body = some c)(args : Array Value)(w : World) : (callFunc f args).run P w = .ok (.enter f args) w := by
 exact Go.MuLone.run_callFunc_enter q C S args w
def AB (P:Program)(f:Nat):Bool:=match P.funcs[f]? with|some fn => !(fn.name == "runtime.NumGoroutine") && fn.body.isSome | none => false
class ap (P:Program) (f:Nat):Prop where
 ok:AB P f=true
def ap.run {f:Nat}(h:ap P f)(args:Array Value)(w:World):(callFunc f args).run P w=.ok (.enter f args) w:=by
 have h:=h.ok;simp only[AB]at h;split at h
 ·rename_i fn q
  simp only[Bool.and_eq_true,xT,Option.isSome_iff_exists]at h;obtain⟨C,c,S⟩:=h;exact XD q C S args w
 cases h
section
variable {Z:Array Oper}{K:Fr->World->Prop}{r:List Oper}{d:Nat}{ty:TypeId}{pos:String}{af:Array Edge}
def aU {xs:List Operand}[C:ap P f](hx:xs.map (aX ρ)=vs)(c:Calls P f vs.toArray w R)(h:∀ e w',R e w'->∃ v,e=.returned v/\opsW P Z K r (fa ρ d v) w'):opsW P Z K (⟨some d,.call { callee:=.value (.func f),args:=xs.toArray,argTypes:=ts },ty,pos,af,none⟩::r) ρ w:=by
 refine kW rfl ?_;have q:(execOp (aX ρ) ⟨some d,.call { callee:=.value (.func f),args:=xs.toArray,argTypes:=ts },ty,pos,af,none⟩).run P w=.ok (.enter f vs.toArray) w:=by
  simp only[execOp,resolve,Deferred.ofValue,aX,eR,ga,eF,invoke];have:#[]++Array.map (aX ρ) xs.toArray++#[]=vs.toArray:=by simp[hx]
  rw[this,C.run]
 simp only[opW,q,cn];refine uD c fun e w' S=>?_;obtain⟨v,rfl,hk⟩:=h e w' S;exact hk
def wr {x:Operand}{xs:List Operand}{cs:List Value}{dst:Option Nat}[C:ap P f](c:aX ρ x=.func (.func f) #[] cs.toArray)(hx:xs.map (aX ρ)=vs)(q:Calls P f (vs++cs).toArray w R)(h:∀ e w',R e w'->∃ v,e=.returned v/\opsW P Z K r (io ρ dst v) w'):opsW P Z K (⟨dst,.call { callee:=.value x,args:=xs.toArray,argTypes:=ts },ty,pos,af,none⟩::r) ρ w:=by
 refine kW rfl ?_;have S:(execOp (aX ρ) ⟨dst,.call { callee:=.value x,args:=xs.toArray,argTypes:=ts },ty,pos,af,none⟩).run P w=.ok (.enter f (vs++cs).toArray) w:=by
  simp only[execOp,resolve,eR,c,Deferred.ofValue,ga,eF,invoke];have:#[]++Array.map (aX ρ) xs.toArray++cs.toArray=(vs++cs).toArray:=by simp[hx]
  rw[this,C.run]
 simp only[opW,S,cn];refine uD q fun e w' V=>?_;obtain⟨v,rfl,hk⟩:=h e w' V;exact hk
end
def bk {fn:Func}{R:Value->World->Prop}{s:Nat}{v:Value}(c:fn.results=#[.tmp s])(hv:ρ s=v)(h:R v w):mz P fn R .ret ρ w :=
 ⟨v,fun a q=>by
  have h1:a.tmps.getD s undef=v:=by rw[<-hv,<-q];rfl
  simp only[results,c,Cx,zU,DI,h1,bind_pure_comp,map_pure]
  rfl,h⟩
def cX {fn:Func}{R:Value->World->Prop}{s s':Nat}{v v':Value}(C:fn.results=#[.tmp s,.tmp s'])(hv:ρ s=v)(c:ρ s'=v')(h:R (.tuple #[v,v']) w):mz P fn R .ret ρ w :=
 ⟨.tuple #[v,v'],fun a q=>by
  have h1:a.tmps.getD s undef=v:=by rw[<-hv,<-q];rfl
  have S:a.tmps.getD s' undef=v':=by rw[<-c,<-q];rfl
  simp only[results,C,Cx,zU,DI,h1,S,bind_pure_comp,map_pure]
  rfl,h⟩
def JK {fn:Func}{R:Value->World->Prop}(c:fn.results=#[])(h:R (.tuple #[]) w):mz P fn R .ret ρ w :=
 ⟨.tuple #[],fun a q=>by simp[results,c],h⟩
def ti {fn:Func}{R:Value->World->Prop}(c:fn.results=#[])(h:R (.tuple #[]) w):mz P fn R .normal ρ w:=JK (P:=P) c h
end
def AC (P:Program)(t:Nat):Bool:=match P.underlying t with|some .bool=>true|_=>false
class sX (P:Program) (t:Nat):Prop where
 ok:AC P t=true
section
variable {P:Program}
def sX.gI {t:Nat}(h:sX P t):P.underlying t=some .bool:=by
 have h:=h.ok;unfold AC at h;split at h
 ·assumption
 cases h
section
variable {Z:Array Oper}{K:Fr->World->Prop}{r:List Oper}{ρ:Fr}{w w0:World}{d:Nat}{ty:TypeId}{pos:String}{af:Array Edge}{g:Option (Nat × Bool)}{dst:Option Nat}{x y z:Operand}{t t':TypeId}{Γ:List HP}
def Qa {a b:Bool}[B:sX P t](hx:aX ρ x=.bool a)(c:aX ρ y=.bool b):PureV P ⟨dst,.binOp .eql t x y t',ty,pos,af,g⟩ ρ (.bool (a == b)):=fun w=>by
 simp[execOp,eqGuard,hx,c,run_eql_bool w t a b B.gI]
def Qb {a b:Bool}[B:sX P t](hx:aX ρ x=.bool a)(c:aX ρ y=.bool b):PureV P ⟨dst,.binOp .neq t x y t',ty,pos,af,g⟩ ρ (.bool (!(a == b))):=fun w=>by
 simp[execOp,eqGuard,hx,c,run_neq_bool w t a b B.gI]
def Qc {v:Value}[Q:eM P t](hx:aX ρ x=.iface t v):PureV P ⟨dst,.typeAssert x t' t true,ty,pos,af,g⟩ ρ (.tuple #[v,.bool true]):=fun w=>by
 obtain⟨c,q,C⟩:=Q.gI;simp only[execOp,Instr.typeAssert,eR,run_underlying q,eF,hx];cases c<;>first|exact absurd rfl (C _)|simp
def Qd {v:Value}[Q:eM P t](hx:aX ρ x=.iface t v):PureV P ⟨dst,.typeAssert x t' t false,ty,pos,af,g⟩ ρ v:=fun w=>by
 obtain⟨c,q,C⟩:=Q.gI;simp only[execOp,Instr.typeAssert,eR,run_underlying q,eF,hx];cases c<;>first|exact absurd rfl (C _)|simp
def Qe {f:FuncId}{xs:List Operand}(hx:xs.map (aX ρ)=vs):PureV P ⟨dst,.makeFunc (.func f) #[] xs.toArray,ty,pos,af,g⟩ ρ (.func (.func f) #[] vs.toArray):=fun w=>by
 simp[execOp,Instr.makeFunc,<-hx]
def Qf {k:IntKind}{a b:Int}(hx:aX ρ x=.int k a)(c:aX ρ y=.int k b):PureV P ⟨dst,.call { callee:=.builtin .min,args:=#[x,y],argTypes:=ts },ty,pos,af,g⟩ ρ (.int k (if b<a then b else a)):=fun w=>by
 simp[execOp,resolve,invoke,builtin,hx,c,run_min_int2]
def Qg {k:IntKind}{a b:Int}(hx:aX ρ x=.int k a)(c:aX ρ y=.int k b):PureV P ⟨dst,.call { callee:=.builtin .max,args:=#[x,y],argTypes:=ts },ty,pos,af,g⟩ ρ (.int k (if b>a then b else a)):=fun w=>by
 simp[execOp,resolve,invoke,builtin,hx,c,run_max_int2]
def Qh {parts:List (Nat × Operand)}{vs:List (Nat × Value)}{v:Value}(c:(parts.map fun p=>(p.1,aX ρ p.2))=vs)(hv:∀ w,(Instr.build t vs.toArray).run P w=.ok v w)(h:opsW P Z K r (fa ρ d v) w) :
  opsW P Z K (⟨some d,.build t parts.toArray,ty,pos,af,none⟩::r) ρ w:=by
 refine kW rfl ?_;have:(Array.map (fun x:Nat × Operand=>match x with|(i,x)=>(i,aX ρ x)) parts.toArray)=vs.toArray:=by rw[<-c];simp
 simp only[opW,execOp,this,eR,hv,eF,ga,cn];exact h
end
def ve (P:Program)(t:Nat):Option (List (Nat × Nat)):=match P.underlying t with|some (.struct c)=>c.toList.mapM (fun f=>(P.info? f.type).map fun i=>(f.offset,i.size))|_=>none
class bF (P:Program) (t:Nat) (places:outParam (List (Nat × Nat))):Prop where
 ok:ve P t=some places
def rF (P:Program)(t:Nat)(vs:List (Nat × Value)):Option (Array Value) :=
 match P.underlying t,(P.info? t).bind (·.zero) with
 | some (.struct c),some z=>(match c.toList.mapM (fun f=>(P.info? f.type).map fun i=>(f.offset,i.size)) with
   | some places=>Instr.fill (places[·]?) z.cells vs
   | none=>none)
 | _,_=>none
def XE {fs:List Field}{places:List (Nat × Nat)}(h:fs.mapM (fun f=>(P.info? f.type).map fun i=>(f.offset,i.size))=some places)(w:World) :
  (fs.mapM (fun f=>do pure (f.offset,<-sizeOf f.type):Field->Sem (Nat × Nat))).run P w=.ok places w:=by
 induction fs generalizing places with
 | nil=>simp at h;subst h;rfl
 | cons f fs q =>
  simp only[zU]at h ⊢
  cases hi:P.info? f.type with
  | none=>simp[hi]at h
  | some i =>
   simp only[hi,tJ,Kb,yE]at h
   cases c:fs.mapM (fun f=>(P.info? f.type).map fun i=>(f.offset,i.size)) with
   | none=>simp[c]at h
   | some S =>
    simp only[c,yE,Kc,zR]at h;subst h;have C:(sizeOf f.type).run P w=.ok i.size w:=by simp[sizeOf,typeInfo,hi]
    simp only[eR,C,eF,ga,q c]
def XF {t:Nat}{vs:List (Nat × Value)}(h:rF P t vs=some cs)(w:World):(Instr.build t vs.toArray).run P w=.ok (.agg cs) w:=by
 unfold rF at h;split at h
 ·rename_i q z C c
  split at h
  ·rename_i places S
   cases hi:P.info? t with
   | none=>simp[hi]at c
   | some i =>
    simp only[hi,yE]at c;have h1:=XE (P:=P) S w;have V:(q.mapM (fun f=>do pure (f.offset,<-sizeOf f.type):Field->Sem (Nat × Nat))).run P w=.ok places.toArray w:=by
     rw[<-GG (xs:=q),Cx];simp only[Sem.run_map,h1,eF]
    simp only[Instr.build,eR,zeroValue,typeInfo,run_program,eF,hi,ga,c,run_underlying C,V];have h3:(fun x:Nat=>(places.toArray)[x]?)=(fun x:Nat=>places[x]?):=by funext x;simp
    rw[h3,h];rfl
  cases h
 cases h
def XG {t:Nat}{places:List (Nat × Nat)}{vs:List (Nat × Value)}(S:bF P t places)(V:bn P t zs)(h:Instr.fill (places[·]?) zs.toArray vs=some cs):rF P t vs=some cs:=by
 have c:=S.ok;have q:=V.ok;unfold ve at c;split at c
 ·rename_i fs hd
  cases hi:(P.info? t).bind (·.zero) with
  | none=>simp[hi]at q
  | some z =>
   simp only[hi,tJ,zR]at q;have C:z.cells=zs.toArray:=by rw[<-q]
   simp only[rF,hd,hi,c,C];exact h
 cases c
section
variable {Z:Array Oper}{K:Fr->World->Prop}{r:List Oper}{ρ:Fr}{w w0:World}{d:Nat}{ty:TypeId}{pos:String}{af:Array Edge}{x y z:Operand}{t t':TypeId}{Γ:List HP}{α:Type}
def Qi {parts:List (Nat × Operand)}{vs:List (Nat × Value)}{places:List (Nat × Nat)}[S:bF P t places][Z':bn P t zs](c:(parts.map fun p=>(p.1,aX ρ p.2))=vs)(q:Instr.fill (places[·]?) zs.toArray vs=some cs)(h:opsW P Z K r (fa ρ d (.agg cs)) w):opsW P Z K (⟨some d,.build t parts.toArray,ty,pos,af,none⟩::r) ρ w :=
 Qh c (XF (XG S Z' q)) h
def z6 {T:Ty α}{e:TypeId}{xs:List α}{cells:Array Value}{cap:Nat}(q:cells.toList=xs.flatMap T.enc++replicate 0 undef)(C:xs.length=n)(S:n<=bT)(c:cap=n)(Y:M w0 w Γ) :
  M w0 (iJ w (.cells cells e)) (X T e (.slice (some ⟨w.heap.size,0,none⟩) n cap) xs::Γ):=by
 refine Y.push ⟨.inr ⟨w.heap.size,0,n,cap,[],[],rfl,rfl,by rw[T.len,C],U,S,by simp[c],?_⟩,C⟩;simp at q;simp[<-q]
def Qj:∀ (vs:List Value) (k off:Nat) (cs:List Value),off+k+vs.length<=cs.length ->
  (vs.zipIdx k).foldl (fun (cs:Array Value) (x:Value × Nat)=>cs.setIfInBounds (off+x.2) x.1) cs.toArray=(cs.take (off+k)++vs++cs.drop (off+k+vs.length)).toArray
 | [],k,off,cs,_=>sm
 | v::vs,k,off,cs,h=>by
  simp only[length_cons]at h;rw[zipIdx_cons,sr];have e:(cs.toArray.setIfInBounds (off+k) v)=(cs.set (off+k) v).toArray:=sm;simp only;rw[e,Qj vs (k+1) off _ (by simp;omega)];congr 1;rw[show off+(k+1)=off+k+1 from by omega,JS (by simp;omega),Gt U,drop_set_of_lt U];simp;congr 1;omega
def Kv {nA:Nat->Option (Nat × Nat)}{off size:Nat}{v:Value}{cs:List Value}{rest:List (Nat × Value)}(q:nA i=some (off,size))(c:v.cells.size=size)(C:off+size<=cs.length) :
  Instr.fill nA cs.toArray ((i,v)::rest)=Instr.fill nA (cs.take off++v.cells.toList++cs.drop (off+size)).toArray rest:=by
 have h1:¬(v.cells.size≠size || off+v.cells.size>cs.toArray.size)=true:=by simp[c];omega
 rw[Instr.fill,q];simp only;rw[aH h1];congr 1;have:=Qj v.cells.toList 0 off cs (by simp[c];omega);rw[<-Array.foldl_toList];simp only[Array.toList_zipIdx];simp only[zQ,FW,c]at this;exact this
def Hb {sz:Nat}:∀ (vs:List Value) (k:Nat) (c rest:List Value),(∀ v∈vs,v.cells.size=sz)->c.length=k*sz->rest.length=vs.length*sz ->
  Instr.fill (fun i=>some (i*sz,sz)) (c++rest).toArray ((vs.zipIdx k).map fun x=>(x.2,x.1))=some (c++vs.flatMap (·.cells.toList)).toArray
 | [],k,c,rest,_,_,C=>by
  simp at C;subst C;simp[Instr.fill]
 | v::vs,k,c,rest,hv,S,C=>by
  have q:=hv v sm;simp only[length_cons,qB,ww]at C;rw[zipIdx_cons,l8,Kv (off:=k*sz) (size:=sz) rfl q (by simp;omega)];have h1:(c++rest).take (k*sz)=c:=by rw[<-S];simp
  have V:(c++rest).drop (k*sz+sz)=rest.drop sz:=by rw[<-S,yD];simp
  rw[h1,V,Hb vs (k+1) (c++v.cells.toList) (rest.drop sz) (fun u hu=>hv u (by simp[hu])) (by simp[S,q,qB]) (by simp;omega)];simp[kQ]
def z7 {T:Ty α}(xs:List α)(vs:List Value){e len:Nat}{parts:List (Nat × Operand)}[S:bh P t e sz by_][Z':bn P e zs](hp:(parts.map fun p=>(p.1,aX ρ p.2))=(vs.zipIdx 0).map fun x=>(x.2,x.1))(hx:vs.flatMap (·.cells.toList)=xs.flatMap T.enc)(c:vs.all (fun v=>v.cells.size == sz)=true)(hlen:vs.length=len)(q:xs.length=len)(J':len*sz<=16777216)(j':0<len*sz)(H':len<=16777216)(Y:M w0 w Γ)(h:∀ s w',M w0 w' (X T e s xs::Γ)->opsW P Z K r (fa ρ d s) w'):opsW P Z K (⟨some d,.buildSlice t len parts.toArray,ty,pos,af,none⟩::r) ρ w:=by
 refine kW rfl ?_;obtain⟨zv,C,V⟩:=Z'.zero;have:(Array.map (fun x:Nat × Operand=>match x with|(i,x)=>(i,aX ρ x)) parts.toArray)=((vs.zipIdx 0).map fun x=>(x.2,x.1)).toArray:=by rw[<-hp];simp
 have h0:¬(len*sz=0):=U;have h1:¬(len*sz>2 ^ 24):=U;have hf:Instr.fill (fun i=>some (i*sz,sz)) ((Array.range (len*sz)).map (zs.toArray[· % zs.toArray.size]!)) ((vs.zipIdx 0).map fun x=>(x.2,x.1))=some (xs.flatMap T.enc).toArray:=by
  have:=Hb (sz:=sz) vs 0 [] ((Array.range (len*sz)).map (zs.toArray[· % zs.toArray.size]!)).toList (fun v hv=>by simpa using all_eq_true.1 c v hv) sm (by simp[hlen]);rw[hx]at this;simp only[kq,GG]at this;exact this
 simp only[opW,execOp,this,Instr.buildSlice,eR,run_underlying S.gI,eF,S.size,h1,if_false,h0,ga,V,C];rw[hf];simp only[eR,newRow,run_newObj,eF,ga,cn];exact h _ _ (z6 (e:=e) sm q (by unfold bT;omega) rfl Y)
def jG (T:Ty α){x1:α}{e:Nat}{v:Value}[S:bh P t e sz by_][Z':bn P e zs](C:aX ρ x=v)(hx:v.cells.toList=T.enc x1)(c:sz=T.sz)(V:sz<=16777216)(q:0<sz)(Y:M w0 w Γ)(h:∀ s w',M w0 w' (X T e s [x1]::Γ)->opsW P Z K r (fa ρ d s) w'):opsW P Z K (⟨some d,.buildSlice t 1 #[(0,x)],ty,pos,af,none⟩::r) ρ w:=by
 have hs:v.cells.size=sz:=by
  have:=T.ok x1;rw[<-hx,<-c]at this
  simpa using this
 exact z7 (parts:=[(0,x)]) [x1] [v] (by simp[C]) (by simp[hx]) (by simp[hs]) rfl rfl U U U Y h
def lG (zs:List Value)(l:List (Nat × Value)):List Value:=l.foldl (fun cs p=>cs.set p.1 p.2) zs
def mA (places:List (Nat × Nat))(n:Nat):Bool:=decide (places=(List.range n).map fun i=>(i,1))
def Qk {places:List (Nat × Nat)}{n:Nat}(q:mA places n=true):∀ (l:List (Nat × Value)) (cs:List Value),cs.length=n->l.all (fun p=>decide (p.1<n) && p.2.oneCell')=true->Instr.fill (places[·]?) cs.toArray l=some (lG cs l).toArray
 | [],cs,_,_=>by simp[Instr.fill,lG]
 | (i,v)::l,cs,C,c=>by
  simp only[ew,Bool.and_eq_true,gR]at c;have hv:v.cells=#[v]:=by
   have:=c.1.2;cases v<;>first|rfl|(simp[Value.oneCell']at this)
  have S:places[i]? = some (i,1):=by
   have:=vX q;rw[this];simp[c.1.1]
  rw[Kv S (by rw[hv];rfl) U,hv];have e:cs.take i++#[v].toList++cs.drop (i+1)=cs.set i v:=by
   rw[DS,aP U];simp
  rw[e,Qk q l (cs.set i v) (by simpa using C) c.2];rfl
def lA {parts:List (Nat × Operand)}{vs:List (Nat × Value)}{places:List (Nat × Nat)}[S:bF P t places][Z':bn P t zs](c:(parts.map fun p=>(p.1,aX ρ p.2))=vs)(q:mA places zs.length=true)(hv:vs.all (fun p=>decide (p.1<zs.length) && p.2.oneCell')=true)(h:opsW P Z K r (fa ρ d (.agg (lG zs vs).toArray)) w):opsW P Z K (⟨some d,.build t parts.toArray,ty,pos,af,none⟩::r) ρ w :=
 Qi c (Qk q vs zs rfl hv) h
def Jc {i1:Nat}{places:List (Nat × Nat)}[S:bF P t places][Z':bn P t zs](h1:aX ρ x1=v1)(c:mA places zs.length=true)(hv:[(i1,v1)].all (fun p=>decide (p.1<zs.length) && p.2.oneCell')=true)(h:opsW P Z K r (fa ρ d (.agg (lG zs [(i1,v1)]).toArray)) w):opsW P Z K (⟨some d,.build t #[(i1,x1)],ty,pos,af,none⟩::r) ρ w:=lA (parts:=[(i1,x1)]) (by simp[h1]) c hv h
def zA {i1 i2:Nat}{v2:Value}{places:List (Nat × Nat)}[S:bF P t places][Z':bn P t zs](h1:aX ρ x1=v1)(h2:aX ρ x2=v2)(c:mA places zs.length=true)(hv:[(i1,v1),(i2,v2)].all (fun p=>decide (p.1<zs.length) && p.2.oneCell')=true)(h:opsW P Z K r (fa ρ d (.agg (lG zs [(i1,v1),(i2,v2)]).toArray)) w):opsW P Z K (⟨some d,.build t #[(i1,x1),(i2,x2)],ty,pos,af,none⟩::r) ρ w:=lA (parts:=[(i1,x1),(i2,x2)]) (by simp[h1,h2]) c hv h
def yq {i1 i2 i3:Nat}{v2 v3:Value}{places:List (Nat × Nat)}[S:bF P t places][Z':bn P t zs](h1:aX ρ x1=v1)(h2:aX ρ x2=v2)(c:aX ρ x3=v3)(q:mA places zs.length=true)(hv:[(i1,v1),(i2,v2),(i3,v3)].all (fun p=>decide (p.1<zs.length) && p.2.oneCell')=true)(h:opsW P Z K r (fa ρ d (.agg (lG zs [(i1,v1),(i2,v2),(i3,v3)]).toArray)) w):opsW P Z K (⟨some d,.build t #[(i1,x1),(i2,x2),(i3,x3)],ty,pos,af,none⟩::r) ρ w:=lA (parts:=[(i1,x1),(i2,x2),(i3,x3)]) (by simp[h1,h2,c]) q hv h
def XH {i1 i2 i3 i4:Nat}{c:Operand}{v2 v3 v4:Value}{places:List (Nat × Nat)}[S:bF P t places][Z':bn P t zs](h1:aX ρ x1=v1)(h2:aX ρ x2=v2)(q:aX ρ x3=v3)(C:aX ρ c=v4)(V:mA places zs.length=true)(hv:[(i1,v1),(i2,v2),(i3,v3),(i4,v4)].all (fun p=>decide (p.1<zs.length) && p.2.oneCell')=true)(h:opsW P Z K r (fa ρ d (.agg (lG zs [(i1,v1),(i2,v2),(i3,v3),(i4,v4)]).toArray)) w):opsW P Z K (⟨some d,.build t #[(i1,x1),(i2,x2),(i3,x3),(i4,c)],ty,pos,af,none⟩::r) ρ w:=lA (parts:=[(i1,x1),(i2,x2),(i3,x3),(i4,c)]) (by simp[h1,h2,q,C]) V hv h
def Kw {T:Ty α}{z:α}(S:T.enc z=zs)(n:Nat):((Array.range (n*T.sz)).map (zs.toArray[· % zs.toArray.size]!)).toList=(replicate n z).flatMap T.enc:=by
 have V:zs.length=T.sz:=by rw[<-S];exact T.ok z
 apply zS;intro i;by_cases hi:i<n*T.sz
 ·have C:0<T.sz:=by
   rcases uC T.sz with h|h
   ·rw[h]at hi;simp at hi
   exact h
  have hq:i / T.sz<n:=(div_lt_iff_lt_mul C).2 hi;have c:i % T.sz<T.sz:=Cm _ C;have q:i=i / T.sz*T.sz+i % T.sz:=by rw[GJ];exact(div_add_mod i T.sz).symm
  have h1:=T.get (replicate n z) (i / T.sz) (i % T.sz) (by simpa using hq) c;rw[<-q]at h1;rw[h1];have h2:(replicate n z).getD (i / T.sz) T.dflt=z:=by simp[List.getD,hq]
  rw[h2,S];have j':i % zs.length<zs.length:=by rw[V];exact c
  simp[hi,V,c]
 rw[uE (by simp;omega),uE (by rw[T.len];simp;omega)]
def Cb (T:Ty α)(z:α){e:Nat}{n:Int}[S:bh P t e sz by_][Z':bn P e zs](hx:aX ρ x=E n)(hy:aX ρ y=E n)(V:sz=T.sz)(hz:T.enc z=zs)(h0:0<=n)(hb:by_*n<=281474976710656)(hn:n<=281474976710656)(Y:M w0 w Γ)(h:∀ s w',M w0 w' (X T e s (replicate n.toNat z)::Γ)->opsW P Z K r (fa ρ d s) w'):opsW P Z K (⟨some d,.makeSlice t x y,ty,pos,af,none⟩::r) ρ w:=by
 refine kW rfl ?_;subst V;obtain⟨zv,j',H'⟩:=Z'.zero;obtain⟨i,hi,hs,J'⟩:=S.tZ;have P':IntKind.i64.wrap n=n:=yH U U;have h1:¬(n<0):=U;have h2:¬(281474976710656<(by_:Int)*n):=U;have C:((n<0 || (i.bytes:Int)*n>2 ^ 48) || n<0 || n>n)=false:=by simp[J'];omega
 simp only[opW,execOp,hx,hy,Instr.makeSlice,eR,run_underlying S.gI,eF,asInt,asIntOf,ga,typeInfo,run_program,hi,P',C,Cr,if_false,run_askRoom,S.size];have c:∀ (z0:Array Value),(n.toNat*T.sz=0\/z0=zs.toArray)->((Array.range (n.toNat*T.sz)).map (z0[· % z0.size]!)).toList=(replicate n.toNat z).flatMap T.enc:=by
  intro z0 h;rcases h with h|h
  ·rw[h]
   have:((replicate n.toNat z).flatMap T.enc).length=0:=by rw[T.len];simpa using h
   rw[nY this];simp
  rw[h];exact Kw hz n.toNat
 by_cases q:n.toNat*T.sz=0
 ·simp only[q,if_true,ga,eF,newRow,eR,run_newObj,cn]
  have:=c #[] (.inl q);rw[q]at this;exact h _ _ (z6 (T:=T) (e:=e) (by rw[this];simp) sm (by unfold bT;omega) rfl Y)
 simp only[q,if_false,eR,H',ga,eF,newRow,run_newObj,cn,j'];exact h _ _ (z6 (T:=T) (e:=e) (by rw[c _ (.inr rfl)];simp) sm (by unfold bT;omega) rfl Y)
end
end
section
variable {P:Program}
@[irreducible] def cF (ss:List Value)(i:Nat):Value:=ss.getD i undef
def l9 (ss:List Value)(i:Nat):cF ss i=ss.getD i undef:=by unfold cF;rfl
def CG {ρ:Fr}{w:World}{ty:TypeId}{pos:String}{af:Array Edge}{g:Option (Nat × Bool)}{dst:Option Nat}{x:Operand}{t:TypeId}{s:Value}{xs:List Value}[C:bY P t](hx:aX ρ x=.pointer (some (gU ar s i)))(h:RS ar w s xs)(hi:i<xs.length):ReadV P ⟨dst,.load t x,ty,pos,af,g⟩ ρ w (cF xs i) :=
 CD hx h hi (by rw[l9];rfl)
def ssub (s:Value)(sz lo hi:Nat):Value:=match s with
 | .slice a _ cap=>.slice (if cap=lo then a else a.map (·.add (lo*sz))) (hi-lo) (cap-lo)
 | v=>v
def cut {α:Type}(xs:List α)(lo hi:Nat):List α:=(xs.take hi).drop lo
def yI {α:Type}{xs:List α}(h:hi<=xs.length):(cut xs lo hi).length=hi-lo:=by simp[cut];omega
def Ty.drop {α:Type}(T:Ty α):∀ (xs:List α) (k:Nat),(xs.flatMap T.enc).drop (k*T.sz)=(xs.drop k).flatMap T.enc
 | xs,0=>sm
 | [],k+1=>sm
 | x::xs,k+1=>by
  have h:=T.ok x;have c:=T.drop xs k;rw[drop_succ_cons,kQ,<-c,yD,qz (by rw[h,qB];omega),h];simp only[kq];congr 1;rw[qB];omega
def Ty.take {α:Type}(T:Ty α):∀ (xs:List α) (k:Nat),(xs.flatMap T.enc).take (k*T.sz)=(xs.take k).flatMap T.enc
 | xs,0=>sm
 | [],k+1=>sm
 | x::xs,k+1=>by
  have h:=T.ok x;have c:=T.take xs k;rw[J0,kQ,kQ,<-c,DK,gH (by rw[h,qB];omega),h];congr 2;rw[qB];omega
def Ty.cut {α:Type}(T:Ty α)(xs:List α)(lo hi:Nat):Sl.cut (xs.flatMap T.enc) (lo*T.sz) (hi*T.sz)=(Sl.cut xs lo hi).flatMap T.enc:=by
 simp only[Sl.cut,T.take,T.drop]
def zN {b off k:Nat}:(⟨b,off,none⟩:Addr).add k=⟨b,off+k,none⟩:=by unfold Addr.add;split<;>simp_all
def Hc (h:p.spot=none)(k:Nat):p.add k=⟨p.block,p.off+k,none⟩:=by
 obtain⟨b,off,sp⟩:=p;simp only at h;subst h;exact zN
def XI {s:Value}{e:TypeId}(ho:Own s e sz vs h)(h1:lo<=hi)(h2:hi<=ee s):Own (ssub s sz lo hi) e sz (cut vs (lo*sz) (hi*sz)) h:=by
 rcases ho with ⟨rfl,rfl⟩|⟨b,off,n,cap,pre,post,rfl,q,hlen,H',j',S,hb⟩
 ·simp only[ee]at h2
  have:lo=0:=U;have:hi=0:=U;subst lo hi;left;simp[ssub,cut]
 simp only[ee]at h2;right;have J':lo*sz<=hi*sz:=uF _ h1;have P':hi*sz<=n*sz:=uF _ h2;have C:(cut vs (lo*sz) (hi*sz)).length=(hi-lo)*sz:=by rw[yI U,DH]
 have c:vs=vs.take (lo*sz)++cut vs (lo*sz) (hi*sz)++vs.drop (hi*sz):=by
  have V:vs.take (lo*sz)=(vs.take (hi*sz)).take (lo*sz):=by rw[take_take];congr 1;omega
  rw[V];simp only[cut,yC]
 by_cases hc:cap=lo
 ·subst hc
  have:hi=cap:=U;subst this;refine⟨b,off,0,0,pre,vs++post,by simp[ssub],q,by rw[C];simp,cz _,br _,sm,?_⟩;have V:cut vs (hi*sz) (hi*sz)=[]:=by apply nY;rw[C];simp
  rw[hb,V];simp
 refine⟨b,off+lo*sz,hi-lo,cap-lo,pre++vs.take (lo*sz),vs.drop (hi*sz)++post,by simp[ssub,hc,zN],by simp[q];omega,C,U,U,?_,?_⟩
 ·simp only[length_append,Bg,hlen]
  have:(cap-lo-(hi-lo))*sz=(n-hi)*sz+(cap-n)*sz:=by rw[<-qB];congr 1;omega
  have V:(n-hi)*sz=n*sz-hi*sz:=DH _ _ _;omega
 rw[hb];congr 3
 conv=>lhs;rw[c]
 simp
def XJ {α:Type}{T:Ty α}{e:TypeId}{s:Value}{xs:List α}(c:X T e s xs h)(h1:lo<=hi)(h2:hi<=xs.length):X T e (ssub s T.sz lo hi) (cut xs lo hi) h:=by
 have q:=c.2;refine⟨by rw[<-T.cut];exact XI c.1 h1 U,?_⟩;rw[yI h2];have:=c.1;rcases this with ⟨rfl,_⟩|⟨b,off,n,cap,pre,post,rfl,_⟩
 ·simp only[ee]at q;simp[ssub,ee]
 simp[ssub,ee]
def xY {α:Type}{T:Ty α}{w:World}{s:Value}{xs:List α}(ho:RS T w s xs)(h1:lo<=hi)(h2:hi<=xs.length):RS T w (ssub s T.sz lo hi) (cut xs lo hi):=by
 obtain⟨⟨a,n,cap,rfl,hlen,⟨J',j'⟩,hc⟩,hl⟩:=ho;simp only[ee]at hl;subst hl;have C:=yI (lo:=lo) h2;refine⟨⟨_,hi-lo,cap-lo,rfl,by rw[T.len,C],⟨U,U⟩,fun i v hv=>?_⟩,C⟩;rw[<-T.cut]at hv;have P':=(xW.1 hv).1;have H':(cut (xs.flatMap T.enc) (lo*T.sz) (hi*T.sz)).length=hi*T.sz-lo*T.sz:=yI (by rw[T.len];exact uF _ h2);have V:(xs.flatMap T.enc)[lo*T.sz+i]? = some v:=by
  simp only[cut,JT]at hv;rw[wE]at hv;split at hv
  ·exact hv
  cases hv
 obtain⟨p,rfl,S,q⟩:=hc _ _ V;by_cases c:cap=lo
 ·subst c
  have:hi*T.sz<=cap*T.sz:=uF _ U;omega
 refine⟨p.add (lo*T.sz),by simp[c],by rw[Hc S],?_⟩;rw[Hc S];simp only[];rw[zT];exact q
def M.sub {w0 w:World}{Γ:List HP}{α:Type}{T:Ty α}{s:Value}{e:TypeId}{xs:List α}{put:HP->List HP}(Y:M w0 w Γ)(q:gP Γ s α T e xs put)(lo hi:Nat)(h1:lo<=hi)(h2:hi<=xs.length):M w0 w (put (X T e (ssub s T.sz lo hi) (cut xs lo hi))):=by
 obtain⟨i,c,C⟩:=q.mK.ok;rw[C];exact M.iq i c ((Y.bJ i c).mono fun h S=>XJ S h1 h2)
section
variable {Z:Array Oper}{K:Fr->World->Prop}{r:List Oper}{ρ:Fr}{w w0:World}{d:Nat}{ty:TypeId}{pos:String}{af:Array Edge}{g:Option (Nat × Bool)}{dst:Option Nat}{x y z:Operand}{t t':TypeId}{Γ:List HP}
variable {α:Type}{T:Ty α}{s:Value}{xs:List α}
def Ql {e:Nat}{k:IntKind}{j:Int}[S:bh P t e sz by_](hx:aX ρ x=s)(c:aX ρ y=.int k j)(h:RS T w s xs)(q:sz=T.sz)(C:0<=j)(h1:j<=xs.length) :
  PureV P ⟨dst,.slice t x none (some y) none,ty,pos,af,g⟩ ρ (ssub s T.sz 0 j.toNat):=fun w=>by
 subst q;obtain⟨⟨a,n,cap,rfl,_,⟨V,_⟩,_⟩,hl⟩:=h;simp only[ee]at hl;have hj:j<=cap:=U;simp[execOp,Instr.sliceAt,Instr.slice,Instr.sliceBounds,Instr.sliceBound,asIntOf,hx,c,run_underlying S.gI,C,hj,S.size,ssub]
def Qm {e:Nat}{k:IntKind}{j:Int}[S:bh P t e sz by_](hx:aX ρ x=s)(q:aX ρ y=.int k j)(h:RS T w s xs)(C:sz=T.sz)(V:0<=j)(h1:j<=xs.length) :
  PureV P ⟨dst,.slice t x (some y) none none,ty,pos,af,g⟩ ρ (ssub s T.sz j.toNat xs.length):=fun w=>by
 subst C;obtain⟨⟨a,n,cap,rfl,_,⟨j',_⟩,_⟩,c⟩:=h;simp only[ee]at c;have hj:j<=n:=U;simp[execOp,Instr.sliceAt,Instr.slice,Instr.sliceBounds,Instr.sliceBound,asIntOf,hx,q,run_underlying S.gI,V,hj,S.size,ssub,c]
def Qn {e:Nat}{k C:IntKind}{i j:Int}[S:bh P t e sz by_](hx:aX ρ x=s)(V:aX ρ y=.int k i)(c:aX ρ z=.int C j)(h:RS T w s xs)(hz:sz=T.sz)(h0:0<=i)(j':i<=j)(h1:j<=xs.length) :
  PureV P ⟨dst,.slice t x (some y) (some z) none,ty,pos,af,g⟩ ρ (ssub s T.sz i.toNat j.toNat):=fun w=>by
 subst hz;obtain⟨⟨a,n,cap,rfl,_,⟨H',_⟩,_⟩,hl⟩:=h;simp only[ee]at hl;have hj:j<=cap:=U;have q:0<=j:=U;have hi:i<=max j 0:=U;simp[execOp,Instr.sliceAt,Instr.slice,Instr.sliceBounds,Instr.sliceBound,asIntOf,hx,V,c,run_underlying S.gI,h0,hj,q,hi,S.size,ssub]
def Qo {e:Nat}[S:bh P t e sz by_](hx:aX ρ x=s)(h:RS T w s xs)(q:sz=T.sz) :
  PureV P ⟨dst,.slice t x none none none,ty,pos,af,g⟩ ρ (ssub s T.sz 0 xs.length):=fun w=>by
 subst q;obtain⟨⟨a,n,cap,rfl,_,⟨C,_⟩,_⟩,c⟩:=h;simp only[ee]at c;simp[execOp,Instr.sliceAt,Instr.slice,Instr.sliceBounds,Instr.sliceBound,hx,run_underlying S.gI,S.size,ssub,c]
def D2 {s:Value}(h:vw w s sz vs)(V:ee s=n)(w':World)(q:w'.heap=w.heap):(Builtin.firstCells sz n s).run P w'=.ok vs.toArray w':=by
 obtain⟨a,n',cap,rfl,hlen,_,hc⟩:=h;simp only[ee]at V;subst V
 cases a with
 | none =>
  have:vs=[]:=by
   apply eq_nil_iff_length_eq_zero.2;rcases uC vs.length with h|h
   ·exact h
   obtain⟨p,c,_⟩:=hc 0 _ (kP h);cases c
  subst this
  simp[Builtin.firstCells]
 | some p =>
  refine run_firstCells_some (P:=P) w' sz n' p n' cap vs hlen fun j v hv=>?_;obtain⟨p',C,S,c⟩:=hc j v hv;cases C;rw[Hc S]
  simpa [World.cell?,q] using c
def M.xe {o:Obj}(Y:M w0 w Γ)(hi:Γ[i]? = some A)(c:A' (fun x=>if x=w.heap.size then some o else none)):M w0 (iJ w o) (Γ.set i A'):=by
 have h1:=(Y.push c).bJ (i+1) (A:=A) (by simpa using hi);exact M.iq i hi h1.tail
def rV {e:Nat}{s2:Value}{ys:List α}{put:HP->List HP}[S:bh P t e sz by_][Z':bn P e zs](O':gP Γ s α T e xs put)(hx:aX ρ x=s)(hy:aX ρ y=s2)(h2:RS T w s2 ys)(_d:sz=T.sz)(_e:zs.length=sz)(hone:∀ x∈ys,∀ v∈T.enc x,v.oneCell'=true)(hb:(xs.length+ys.length)*by_<=140737488355328)(hl:xs.length+ys.length<=bT)(Y:M w0 w Γ)(h:∀ s' w',M w0 w' (put (X T e s' (xs++ys)))->opsW P Z K r (fa ρ d s') w'):opsW P Z K (⟨some d,.call { callee:=.builtin .append,args:=#[x,y],argTypes:=#[t,t] },ty,pos,af,none⟩::r) ρ w:=by
 refine kW rfl ?_;subst _d;obtain⟨i,hi,hp⟩:=O'.mK.ok;simp only[hp]at h;obtain⟨bD,_a,hs,_f⟩:=S.tZ;obtain⟨zv,_g,_h⟩:=Z'.zero;have h1:=Y.rs i hi;obtain⟨ph,_i,V⟩:=Y.at i hi;obtain⟨a2,_v,C⟩:=h2.shape;have q:∀ w':World,w'.heap=w.heap->(Builtin.firstCells T.sz ys.length s2).run P w'=.ok (ys.flatMap T.enc).toArray w':=fun w' T'=>D2 h2.1 h2.2.symm w' T';have j':∀ w':World,w'.heap=w.heap->(Builtin.firstCells T.sz xs.length s).run P w'=.ok (xs.flatMap T.enc).toArray w':=fun w' T'=>D2 h1.1 h1.2.symm w' T'
 have H':∀ (a:Option Addr) (cap:Nat),s=.slice a xs.length cap->cap<xs.length+ys.length ->
   (execOp (aX ρ) ⟨some d,.call { callee:=.builtin .append,args:=#[x,y],argTypes:=#[t,t] },ty,pos,af,none⟩).run P w =
   .ok (.value (.slice (some ⟨w.heap.size,0,none⟩) (xs.length+ys.length) (grownCap w (xs.length+ys.length) cap e))) (iJ w.drew (.cells ((xs.flatMap T.enc).toArray++(ys.flatMap T.enc).toArray++Builtin.zeroCells zs.toArray (grownCap w (xs.length+ys.length) cap e-(xs.length+ys.length))) e)):=by
  intro a cap P' c;have hn:¬(xs.length+ys.length<=cap):=U;have R':¬(9223372036854775807<((xs.length:Int)+(ys.length:Int))):=by unfold bT at hl;omega
  have _b:=growslice_fits (bytes:=by_) c hb;have V':¬(281474976710656<Builtin.nextslicecap (xs.length+ys.length) cap*by_):=U;have hq:(Question.appendCap (xs.length+ys.length) cap e).forced=false:=rfl;rw[P']at j';rw[C]at q;simp[execOp,resolve,invoke,builtin,Builtin.append_,hx,hy,P',C,run_underlying S.gI,S.size,typeInfo,_a,_f,Builtin.lenOf,hn,R',V',hq,j',q,_h,_g,grownCap];rw[j' w.drew rfl];simp only[eF];rw[q w.drew rfl];have J':∀ (X' Y':List Value) (Z':Array Value),X'.toArray++(Y'.toArray++Z')=(X'++Y').toArray++Z':=fun X' Y' Z'=>by apply GH;simp only[J2,fG]
  simp only[newRow,eR,run_newObj,eF,ga];rw[J'];rfl
 simp only[opW];rcases V with ⟨V,hlen⟩;have R':∀ cap,cap<xs.length+ys.length->M w0 (iJ w.drew (.cells ((xs.flatMap T.enc).toArray++(ys.flatMap T.enc).toArray++Builtin.zeroCells zs.toArray (grownCap w (xs.length+ys.length) cap e-(xs.length+ys.length))) e)) (Γ.set i (X T e (.slice (some ⟨w.heap.size,0,none⟩) (xs.length+ys.length) (grownCap w (xs.length+ys.length) cap e)) (xs++ys))):=by
  intro cap c;have J':=grownCap_ge w (xs.length+ys.length) cap e;refine M.xe (w:=w.drew) Y.drew hi ⟨.inr ⟨w.heap.size,0,_,_,[],(Builtin.zeroCells zs.toArray (grownCap w (xs.length+ys.length) cap e-(xs.length+ys.length))).toList,rfl,rfl,by rw[T.len];simp,J',hl,?_,?_⟩,by simp[ee]⟩
  ·simp[size_zeroCells,_e]
  simp
 rcases V with ⟨rfl,_w⟩|⟨b,off,n,cap,pre,post,rfl,_b,_j,_D,_x,_k,_l⟩
 ·simp only[ee]at hlen
  by_cases J':ys.length=0
  ·have P':=nY J'
   subst P';have hr:(execOp (aX ρ) ⟨some d,.call { callee:=.builtin .append,args:=#[x,y],argTypes:=#[t,t] },ty,pos,af,none⟩).run P w=.ok (.value (nS)) w:=by
    have c:=q w rfl;rw[C]at c;simp only[length_nil]at c;simp[execOp,resolve,invoke,builtin,Builtin.append_,hx,hy,C,run_underlying S.gI,S.size,Builtin.lenOf,c]
   rw[hr];refine h _ _ ?_;have:xs=[]:=nY hlen;subst this;simp only[fI];rw[show Γ.set i (X T e (nS) [])=Γ from ?_]
   ·exact Y
   apply zS;intro k;rw[vq];split
   ·rename_i hk;subst hk;split
    ·rw[hi]
    rename_i hk;rw[uE U]
   rfl
  rw[H' none 0 (by rw[hlen]) U];exact h _ _ (R' 0 U)
 simp only[ee]at hlen;subst hlen;by_cases J':xs.length+ys.length<=cap
 ·have c:=q w rfl
  rw[C]at c;have P':(xs.flatMap T.enc).length=xs.length*T.sz:=T.len xs;have V':(ys.flatMap T.enc).length=ys.length*T.sz:=T.len ys;have hm:xs.length*T.sz+ys.length*T.sz<=xs.length*T.sz+(cap-xs.length)*T.sz:=by
   have:ys.length*T.sz<=(cap-xs.length)*T.sz:=uF _ U;omega
  have _m:=xX (P:=P) (bt:=e) (ys.flatMap T.enc) (off+xs.length*T.sz) 0 (pre++xs.flatMap T.enc++post) w (by
   intro v hv;obtain⟨x',_c,_n⟩:=tm.1 hv
   exact hone x' _c v _n) (by simp only[length_append,P',V'];omega) (_i _ _ _l).1
  have hr:(execOp (aX ρ) ⟨some d,.call { callee:=.builtin .append,args:=#[x,y],argTypes:=#[t,t] },ty,pos,af,none⟩).run P w=.ok (.value (.slice (some ⟨b,off,none⟩) (xs.length+ys.length) cap)) (eP w b (.cells ((pre++xs.flatMap T.enc++post).take (off+xs.length*T.sz+0)++ys.flatMap T.enc++(pre++xs.flatMap T.enc++post).drop (off+xs.length*T.sz+0+(ys.flatMap T.enc).length)).toArray e (0,0))):=by
   simp only[execOp,resolve,invoke,builtin,Builtin.append_,hx,hy,C,eR,ga,eF,DG,l8,tD,run_underlying S.gI,S.size,Builtin.lenOf];simp[c,J',zN,run_underlying S.gI,Builtin.lenOf,S.size];rw[_m];simp
  rw[hr];have _n:(pre++xs.flatMap T.enc++post).take (off+xs.length*T.sz+0)=pre++xs.flatMap T.enc:=by
   rw[yk (by simp only[length_append,P'];omega)];exact gH (by simp only[length_append,P'];omega)
  have _o:(pre++xs.flatMap T.enc++post).drop (off+xs.length*T.sz+0+(ys.flatMap T.enc).length)=post.drop (ys.length*T.sz):=by
   rw[yD,qz (by simp only[length_append,P',V'];omega)];simp only[kq,length_append,P',V'];congr 1;omega
  rw[_n,_o];refine h _ _ (M.iq i hi (M.put (Y.bJ i hi) fun h1 _y hA=>?_));rcases hA with ⟨hA,_⟩;rcases hA with ⟨hc,_⟩|⟨b1,_z,n1,_A,_B,_p,_q,_r,_s,_C,_t,_c,_u⟩
  ·cases hc
  cases _q;refine⟨⟨_,_u⟩,.inr ⟨b,off,xs.length+ys.length,cap,pre,post.drop (ys.length*T.sz),rfl,_b,by rw[T.len,length_append],J',hl,?_,?_⟩,by simp[ee]⟩
  ·simp only[Bg]
   have:(cap-(xs.length+ys.length))*T.sz=(cap-xs.length)*T.sz-ys.length*T.sz:=by rw[<-DH];congr 1;omega
   omega
  simp[mN]
 rw[H' _ cap rfl U];exact h _ _ (R' cap U)
end
def RS.one {α:Type}{T:Ty α}{w:World}{s:Value}{xs:List α}(h:RS T w s xs):s.oneCell'=true:=by
 obtain⟨a,cap,rfl⟩:=h.shape;rfl
class ku {α:Type}(T:Ty α):Prop where
 ok:∀ (x:α) (v:Value),v∈T.enc x->v.oneCell'=true
instance:ku O:=⟨fun _ v hv=>by rw[dp.1 hv];rfl⟩
instance:ku ah:=⟨fun _ v hv=>by rw[dp.1 hv];rfl⟩
theorem uI.AZ {Δ Γ:List HP}{put:HP->List HP}(h:uI Γ A put):uI (Δ++Γ) A (fun A'=>Δ++put A'):=by
 obtain⟨i,hi,c⟩:=h.ok;refine⟨Δ.length+i,by rw[kp U];simpa using hi,fun A' => ?_⟩;rw[c,yB _ _ U];simp
instance Is {Δ:List HP}{p:Addr}{t:TypeId}{cells:List Value}{Γ:List HP}{put:HP->List HP} [h:gO Γ p t cells put]:gO (Δ++Γ) p t cells (fun A'=>Δ++put A'):=⟨h.mK.AZ⟩
instance It {Δ:List HP}{α:Type}{T:Ty α}{s:Value}{e:TypeId}{xs:List α}{Γ:List HP}{put:HP->List HP} [h:gP Γ s α T e xs put]:gP (Δ++Γ) s α T e xs (fun A'=>Δ++put A'):=⟨h.mK.AZ⟩
def ai {α:Type}(T:Ty α)(e:TypeId)(ss:List Value)(L:List (List α)):HP:=fun h=>ss.length=L.length/\ca (zipWith (X T e) ss L) h
def ca.AZ {Γ:List HP}:∀ (Δ:List HP) {h1 h2 h:PH},rm h1 h2->pY h1 h->pY h2 h->ca Δ h1->ca Γ h2->ca (Δ++Γ) h:=by
 intro Δ
 induction Δ with
 | nil=>intro h1 h2 h _ _ s2 _ I;exact I.sub s2
 | cons A Δ S =>
  intro h1 h2 h d s1 s2 V I;obtain⟨g1,g2,dg,t1,t2,ha,hr⟩:=V;refine⟨g1,pP g2 h2,fun b=>?_,t1.trans s1,fun b o c=>?_,ha,S (h1:=g2) (h2:=h2) (d.symm.sub t2).symm (fun b o c=>by simp[pP,c]) (fun b o c=>?_) hr I⟩
  ·cases q:g1 b with
   | none=>exact .inl rfl
   | some o =>
    right;have:g2 b=none:=(dg b).resolve_left (by rw[q];simp);have C:h2 b=none:=(d b).resolve_left (by rw[t1 b o q];simp);simp[pP,this,C]
  ·simp only[pP]at c
   split at c
   ·rename_i C q;cases c;exact s1 b _ (t2 b _ q)
   exact s2 b o c
  simp only[pP];have:g2 b=none:=by
   rcases d b with h|h
   ·cases q:g2 b with
    | none=>rfl
    | some C=>rw[t2 b C q]at h;cases h
   rw[c]at h;cases h
  rw[this];exact c
def ca.split {Γ:List HP}:∀ (Δ:List HP) {h:PH},ca (Δ++Γ) h->∃ h1 h2,rm h1 h2/\pY h1 h/\pY h2 h/\ca Δ h1/\ca Γ h2:=by
 intro Δ
 induction Δ with
 | nil=>intro h C;exact⟨fun _=>none,h,fun _=>.inl rfl,fun _ _ c=>(by simp at c),pY.refl _,au,C⟩
 | cons A Δ ih =>
  intro h C;obtain⟨g1,g2,dg,t1,t2,ha,hr⟩:=C;obtain⟨V,k2,dk,S,u2,hd,I⟩:=ih hr;refine⟨pP g1 V,k2,fun b=>?_,fun b o c=>?_,u2.trans t2,⟨g1,V,dg.sub S,fun b o c=>by simp[pP,c],fun b o c=>?_,ha,hd⟩,I⟩
  ·rcases dk b with h|h
   ·rcases dg b with q|q
    ·left;simp[pP,q,h]
    right;cases hk:k2 b with
    | none=>rfl
    | some o=>rw[u2 b o hk]at q;cases q
   exact .inr h
  ·simp only[pP]at c
   split at c
   ·rename_i o' q;cases c;exact t1 b _ q
   exact t2 b o (S b o c)
  simp only[pP];rcases dg b with h|h
  ·rw[h];exact c
  rw[S b o c]at h;cases h
variable {w w0:World}{Γ:List HP}{α:Type}{T:Ty α}{e:TypeId}{ss:List Value}{L:List (List α)}
def M.vL (h:M w0 w (ai T e ss L::Γ)):ss.length=L.length/\M w0 w (zipWith (X T e) ss L++Γ):=by
 obtain⟨h1,C,d,s1,s2,⟨c,q⟩,I⟩:=h.jM;exact⟨c,h.below,ca.AZ _ d s1 s2 q I⟩
def M.pH (c:ss.length=L.length)(h:M w0 w (zipWith (X T e) ss L++Γ)):M w0 w (ai T e ss L::Γ):=by
 obtain⟨h1,q,d,s1,s2,C,I⟩:=h.jM.split;exact⟨h.below,h1,q,d,s1,s2,⟨c,C⟩,I⟩
def M.qH (h:M w0 w Γ):M w0 w (ai T e [] []::Γ):=M.pH rfl h
def M.gW (hi:i<L.length)(h:M w0 w (ai T e ss L::Γ)):M w0 w (X T e (cF ss i) (L.getD i [])::((zipWith (X T e) ss L).eraseIdx i++Γ)):=by
 obtain⟨c,h⟩:=h.vL
 have:=h.bJ i (A:=X T e (cF ss i) (L.getD i [])) (by
  rw[js (by simp;omega)]
  simp[l9,zV,List.getD,kP (show i<ss.length by omega),kP hi])
 rwa[Pf (by simp;omega)]at this
def M.oZ {c:List α}(hi:i<L.length)(C:ss.length=L.length)(h:M w0 w (X T e s' c::((zipWith (X T e) ss L).eraseIdx i++Γ))):M w0 w (ai T e (ss.set i s') (L.set i c)::Γ):=by
 refine M.pH (by simp[C]) ?_;have h1:i<(zipWith (X T e) ss L++Γ).length:=by simp;omega
 rw[<-Pf (by simp;omega)]at h;have q:=M.iq i (kP h1) h;rw[J6 _ _ (by simp;omega)]at q;have:zipWith (X T e) (ss.set i s') (L.set i c)=(zipWith (X T e) ss L).set i (X T e s' c):=by
  apply zS;intro k;by_cases hk:i=k
  ·subst hk
   rw[zV,Cw U,Cw U,Cw (by simp;omega)]
  rw[zV,tn hk,tn hk,tn hk,zV]
 rw[this];exact q
def M.only (h:M w0 w (A::Γ)):M w0 w [A]:=h.mI fun _ _=>trivial
def M.comm {Δ:List HP}(h:M w0 w (Δ++Γ)):M w0 w (Γ++Δ):=by
 obtain⟨h1,q,d,s1,s2,c,I⟩:=h.jM.split;exact⟨h.below,ca.AZ _ d.symm s2 s1 I c⟩
def M.bP (h:M w0 w (ai T e ss L::Γ)):ss.length=L.length:=h.vL.1
def M.row (hi:i<L.length)(h:M w0 w (ai T e ss L::Γ)):RS T w (cF ss i) (L.getD i []):=(h.gW hi).rs 0 rfl
def M.j0 {c:List α}(h:M w0 w (X T e s' c::ai T e ss L::Γ)):M w0 w (ai T e (ss++[s']) (L++[c])::Γ):=by
 obtain⟨q,h1⟩:=(M.swap h).vL;refine M.pH (by simp[q]) ?_;rw[zipWith_append q]
 simpa using h1
def M.gJ (h:M w0 w Γ):∀ n,M w0 w (ai T e (replicate n (nS)) (replicate n [])::Γ)
 | 0=>h.qH
 | n+1=>by
  rw[GK,GK];exact(M.nil (T:=T) (e:=e) (M.gJ h n)).j0
end
def XK {ss:List Value}(h:i<ss.length):ss.set i (cF ss i)=ss:=by
 apply iA sm;intro k h1 c;rw[sb];split
 ·rename_i e;subst e;simp[l9,List.getD,h]
 rfl
def M.rG {w0 w:World}{Γ:List HP}{α:Type}{T:Ty α}{e:TypeId}{ss:List Value}{L:List (List α)}{c:List α}(hi:i<L.length)(h:M w0 w (X T e s' c::ai T e ss L::Γ)):M w0 w (ai T e (ss.set i s') (L.set i c)::Γ):=by
 have C:=h.swap.bP;have h1:=(h.swap.gW hi).tail;have q:=h1.bJ ((zipWith (X T e) ss L).eraseIdx i).length (A:=X T e s' c) (by rw[kp (cz _)];simp);refine M.oZ hi C ?_;rw[eraseIdx_append_of_length_le (cz _)]at q
 simpa using q
def M.mF {w0 w:World}{Γ:List HP}{α:Type}{T:Ty α}{e:TypeId}{ss:List Value}{L:List (List α)}{c:List α}(hi:i<L.length)(q:ss.length=L.length)(h:M w0 w (X T e (cF ss i) c::((zipWith (X T e) ss L).eraseIdx i++Γ))):M w0 w (ai T e ss (L.set i c)::Γ):=by
 have:=M.oZ hi q h
 rwa[XK U]at this
attribute [irreducible] ssub
end
section
def AD (P:Program)(t:Nat)(name:String)(f:Nat)(ptr:Bool)(elem:Nat):Bool :=
 (match P.underlying t with|some (.pointer e)=>e == elem|_=>false) &&
 match P.info? t with
 | some i=>(match i.methods.find? (·.name == name) with
   | some m=>m.path.isEmpty && (match m.func with|some (g,q)=>g == f && q == ptr|none=>false)
   | none=>false)
 | none=>false
class fE (P:Program) (t:Nat) (name:String) (f:outParam Nat) (ptr:outParam Bool) (elem:outParam Nat):Prop where
 ok:AD P t name f ptr elem=true
section
variable {P:Program}
def fE.fu {t elem:Nat}{name:String}{ptr:Bool}(h:fE P t name f ptr elem):P.underlying t=some (.pointer elem)/\∃ i m,P.info? t=some i/\i.methods.find? (·.name == name)=some m/\m.path.toList=[]/\m.path.isEmpty=true/\m.func=some (f,ptr):=by
 have h:=h.ok;simp only[AD,Bool.and_eq_true]at h;obtain⟨h1,c⟩:=h;refine⟨?_,?_⟩
 ·split at h1
  ·rename_i e he;rw[he];simp at h1;rw[h1]
  cases h1
 split at c
 ·rename_i i hi
  split at c
  ·rename_i m hm
   simp only[Bool.and_eq_true]at c;obtain⟨S,C⟩:=c;split at C
   ·rename_i g q I
    simp at C;refine⟨i,m,hi,hm,?_,S,by rw[I,C.1,C.2]⟩
    simpa using S
   cases C
  cases c
 cases c
def Qp {t elem:Nat}{name:String}(M':fE P t name f true elem)(fuel:Nat)(p:Addr)(w:World):(method (fuel+1) t (.pointer (some p)) name).run P w=.ok (f,.pointer (some p)) w:=by
 obtain⟨hu,i,m,hi,hm,c,he,q⟩:=M'.fu;simp only[method,eR,run_typeInfo w hi,eF,hm,c,follow,ga,q,receiverAt,run_underlying hu,Place.get]
def XL {t elem:Nat}{name:String}(M':fE P t name f false elem)[C:bY P elem](fuel:Nat){v:Value}{w:World}(hv:w.cell? p=some v):(method (fuel+1) t (.pointer (some p)) name).run P w=.ok (f,v) w:=by
 obtain⟨hu,i,m,hi,hm,c,he,q⟩:=M'.fu;have S:∀ (a b:String),Builtin.ssaWrapNilChk_ #[t] t #[.pointer (some p),strVal a,strVal b]=pure (.pointer (some p)):=fun _ _=>rfl;have V:(loadVar elem p).run P w=.ok v w:=by
  simp only[loadVar,eR,C.plain.1,eF,Cr,if_false];simp[hv]
 simp only[method,eR,run_typeInfo w hi,eF,hm,c,follow,ga,q,receiverAt,run_underlying hu,Place.get,he,if_true,S,asAddr,V]
variable {Z:Array Oper}{K:Fr->World->Prop}{r:List Oper}{ρ:Fr}{w w0:World}{Γ:List HP}{d:Option Nat}{ty:TypeId}{pos:String}{af:Array Edge}{x:Operand}
def Hd (P:Program):∃ m,P.types.size+Made.depth=m+1:=⟨P.types.size+(Made.depth-1),by rw[zT];congr 1⟩
def FK {t elem:Nat}{name:String}{xs:List Operand}[M':fE P t name f true elem][C:ap P f](c:aX ρ x=.iface t (.pointer (some p)))(hx:xs.map (aX ρ)=vs)(q:Calls P f (.pointer (some p)::vs).toArray w R)(h:∀ e w',R e w'->∃ v,e=.returned v/\opsW P Z K r (io ρ d v) w'):opsW P Z K (⟨d,.call { callee:=.invoke x name,args:=xs.toArray,argTypes:=ts },ty,pos,af,none⟩::r) ρ w:=by
 refine kW rfl ?_;obtain⟨m,hm⟩:=Hd P;have c:(execOp (aX ρ) ⟨d,.call { callee:=.invoke x name,args:=xs.toArray,argTypes:=ts },ty,pos,af,none⟩).run P w=.ok (.enter f (.pointer (some p)::vs).toArray) w:=by
  have e:(#[aX ρ x]++Array.map (aX ρ) xs.toArray)=(.iface t (.pointer (some p))::vs).toArray:=by simp[c,hx]
  simp only[execOp,resolve,eR,ga,eF,invoke,e];simp only[CB,DP,callMethod,eR,run_program,eF,hm,Qp M',C.run];congr 2;simp
 simp only[opW,c,cn];refine uD q fun e w' S=>?_;obtain⟨v,rfl,hk⟩:=h e w' S;exact hk
def nX {t elem:Nat}{name:String}{xs:List Operand}[M':fE P t name f false elem][C:ap P f][E_:bY P elem](c:aX ρ x=.iface t (.pointer (some p)))(hx:xs.map (aX ρ)=vs)(hu:w.cell? p=some u)(q:Calls P f (u::vs).toArray w R)(h:∀ e w',R e w'->∃ v,e=.returned v/\opsW P Z K r (io ρ d v) w'):opsW P Z K (⟨d,.call { callee:=.invoke x name,args:=xs.toArray,argTypes:=ts },ty,pos,af,none⟩::r) ρ w:=by
 refine kW rfl ?_;obtain⟨m,hm⟩:=Hd P;have c:(execOp (aX ρ) ⟨d,.call { callee:=.invoke x name,args:=xs.toArray,argTypes:=ts },ty,pos,af,none⟩).run P w=.ok (.enter f (u::vs).toArray) w:=by
  have e:(#[aX ρ x]++Array.map (aX ρ) xs.toArray)=(.iface t (.pointer (some p))::vs).toArray:=by simp[c,hx]
  simp only[execOp,resolve,eR,ga,eF,invoke,e];simp only[CB,DP,callMethod,eR,run_program,eF,hm,XL M' m hu,C.run];congr 2;simp
 simp only[opW,c,cn];refine uD q fun e w' S=>?_;obtain⟨v,rfl,hk⟩:=h e w' S;exact hk
def M.ik {cells:List Value}{v:Value}{put:HP->List HP}(Y:M w0 w Γ)(B:gO Γ p bt cells put)(hv:cells[0]? = some v):w.cell? p=some v:=by
 obtain⟨i,hi,_⟩:=B.mK.ok;exact Cj Y hi hv
def zB {α:Type}(T:Ty α){t e:Nat}{d:Nat}[S:bh P t e sz by_](Y:M w0 w Γ)(h:∀ s w',M w0 w' (X T e s []::Γ)->opsW P Z K r (fa ρ d s) w'):opsW P Z K (⟨some d,.buildSlice t 0 #[],ty,pos,af,none⟩::r) ρ w:=by
 refine kW rfl ?_;simp only[opW,execOp,Instr.buildSlice,eR,run_underlying S.gI,eF,S.size,ga,Gw,dx,if_false,if_true,gt_iff_lt,DG,tD,Instr.fill];simp only[eR,newRow,run_newObj,eF,ga,cn];exact h _ _ (z6 (e:=e) (xs:=([]:List α)) sm rfl (by unfold bT;omega) rfl Y)
@[irreducible] def az {α:Type}(T:Ty α)(xs:List α)(i:Nat):α:=xs.getD i T.dflt
def nr {α:Type}(T:Ty α)(xs:List α)(i:Nat):az T xs i=xs.getD i T.dflt:=by unfold az;rfl
class nB {α:Type}(T:Ty α):Prop where
 ok:True
def D3 {α:Type}{T:Ty α}{s:Value}{xs:List α}{ty:TypeId}{pos:String}{af:Array Edge}{g:Option (Nat × Bool)}{dst:Option Nat}{t:TypeId}[A:eT P t n](hx:aX ρ x=.pointer (some (gU T s i)))(h:RS T w s xs)(hi:i<xs.length)(c:n=T.sz)(q:nB T):ReadV P ⟨dst,.load t x,ty,pos,af,g⟩ ρ w (.agg (T.enc (az T xs i)).toArray):=by
 rw[nr];exact CF hx h hi c
def D4 {α:Type}{T:Ty α}{k:Nat}{v:Value}{s:Value}{xs:List α}{ty:TypeId}{pos:String}{af:Array Edge}{g:Option (Nat × Bool)}{dst:Option Nat}{t:TypeId}[C:bY P t](hx:aX ρ x=.pointer (some ((gU T s i).add k)))(h:RS T w s xs)(hi:i<xs.length)(hk:k<T.sz)(c:nB T)(hv:(T.enc (az T xs i))[k]? = some v):ReadV P ⟨dst,.load t x,ty,pos,af,g⟩ ρ w v:=by
 rw[nr]at hv;exact CE hx h hi hk hv
def RS.eJ {α:Type}{T:Ty α}{w:World}{s:Value}{xs:List α}(h:RS T w s xs):s.cells.toList=[s]:=by
 obtain⟨a,cap,rfl⟩:=h.shape;rfl
class ua (P:Program) (t:Nat):Prop where
 ok:(match P.underlying t with|some .string=>true|_=>false)=true
def ua.gI {t:Nat}(h:ua P t):P.underlying t=some .string:=by
 have h:=h.ok;split at h
 ·rename_i he;exact he
 cases h
@[irreducible] def yJ (b:ByteArray)(i:Nat):Int:=(((b[i]?).getD 0).toNat:Int)
def XM (b:ByteArray)(i:Nat):yJ b i=(((b[i]?).getD 0).toNat:Int):=by unfold yJ;rfl
def Qq {t:TypeId}{ty:TypeId}{pos:String}{af:Array Edge}{g:Option (Nat × Bool)}{dst:Option Nat}{b:ByteArray}[S:ua P t](hx:aX ρ x=.string b):PureV P ⟨dst,.call { callee:=.builtin .len,args:=#[x],argTypes:=#[t] },ty,pos,af,g⟩ ρ (E b.size):=fun w=>by
 simp[execOp,resolve,invoke,builtin,Builtin.len_,hx,run_underlying S.gI,goInt]
def Qr {t:TypeId}{ty:TypeId}{pos:String}{af:Array Edge}{g:Option (Nat × Bool)}{dst:Option Nat}{y:Operand}{b:ByteArray}{j:Nat}[S:ua P t](hx:aX ρ x=.string b)(c:aX ρ y=E j)(q:j<b.size):PureV P ⟨dst,.index t x y,ty,pos,af,g⟩ ρ (.int .u8 (yJ b j)):=fun w=>by
 have I:b[j]? = some b[j]:=by simp[q]
 simp[execOp,Instr.index,hx,c,asIntOf,run_underlying S.gI,XM,I]
variable {dst:Option Nat}{t t':TypeId}{g:Option (Nat × Bool)}{y:Operand}{a b:Int}
def XN (c:0<b)(q : -9223372036854775807<=a)(h1:a<=9223372036854775807) : -9223372036854775808<=a.tdiv b/\a.tdiv b<=9223372036854775807:=by
 have h:=Int.natAbs_tdiv_le_natAbs a b;omega
def Qt (hx:aX ρ x=E a)(q:aX ρ y=E b)(C:0<b)(S : -9223372036854775807<=a)(h1:a<=9223372036854775807):PureV P ⟨dst,.binOp .quo t x y t',ty,pos,af,g⟩ ρ (E (a.tdiv b)):=fun w=>by
 have c:b≠0:=U;have:=XN C S h1;simp[execOp,eqGuard,binOp,Op.intDiv,hx,q,c,yH this.1 this.2]
def Qu (hx:aX ρ x=E a)(q:aX ρ y=E b)(C:0<b):PureV P ⟨dst,.binOp .rem t x y t',ty,pos,af,g⟩ ρ (E (a.tmod b)):=fun w=>by
 have c:b≠0:=U;simp[execOp,eqGuard,binOp,Op.intDiv,hx,q,c]
end
section
variable {w0 w:World}{Γ Δ:List HP}
def ub (Δ:List HP):HP:=ca Δ
def M.EO (h:M w0 w (Δ++Γ)):M w0 w (ub Δ::Γ):=by
 obtain⟨h1,c,d,s1,s2,a,g⟩:=ca.split Δ h.jM;exact⟨h.below,h1,c,d,s1,s2,a,g⟩
def M.xB (h:M w0 w (ub Δ::Γ)):M w0 w (Δ++Γ):=by
 obtain⟨h1,c,d,s1,s2,a,g⟩:=h.jM;exact⟨h.below,ca.AZ Δ d s1 s2 a g⟩
class sY (Γ:List HP) (A:HP) (Γ':outParam (List HP)):Prop where
 ok:∃ i,Γ[i]? = some A/\Γ'=Γ.eraseIdx i
instance (priority:=high) pick_here {A:HP}{Γ:List HP}:sY (A::Γ) A Γ:=⟨0,rfl,rfl⟩
instance B3 {A B:HP}{Γ c:List HP} [h:sY Γ A c]:sY (B::Γ) A (B::c):=by
 obtain⟨i,h1,q⟩:=h.ok;exact⟨i+1,by simpa using h1,by simp[q]⟩
class y9 (Γ Δ:List HP):Prop where
 ok:∀ h,ca Γ h->ca Δ h
instance Iu {Γ:List HP}:y9 Γ []:=⟨fun _ _=>trivial⟩
instance Fu {A:HP}{Γ c Δ:List HP} [p:sY Γ A c] [s:y9 c Δ]:y9 Γ (A::Δ):=⟨fun h q=>by
 obtain⟨i,h1,C⟩:=p.ok;obtain⟨g1,g2,d,s1,s2,a,g⟩:=q.bJ i h1;rw[<-C]at g
 exact⟨g1,g2,d,s1,s2,a,s.ok g2 g⟩⟩
def M.bb [s:y9 Γ Δ](h:M w0 w Γ):M w0 w Δ:=⟨h.below,s.ok _ h.jM⟩
def bj (φ:World->Prop):HP:=fun h=>∀ w:World,(∀ b o,h b=some o->w.heap[b]? = some o)->φ w
def M.rd (c:∀ w0 w,M w0 w Δ->φ w)(h:M w0 w (Δ++Γ)):M w0 w (bj φ::Γ):=by
 obtain⟨h1,C,d,s1,s2,a,g⟩:=ca.split Δ h.jM;refine⟨h.below,h1,C,d,s1,s2,fun w' q=>c { w' with heap:=#[] } w' ⟨⟨rfl,rfl,rfl,br _,fun k hk=>absurd hk (dx _)⟩,a.sub fun b o S=>?_⟩,g⟩;simp only[eS];rw[aH sm];exact q b o S
def M.cU (h:M w0 w Γ)(i:Nat)(hi:Γ[i]? = some (bj φ)):φ w:=by
 obtain⟨h1,c,a⟩:=h.at i hi;exact a w fun b o q=>(c b o q).1
def M.Ba {c χ:World->Prop}(q:∀ w,φ w->c w->χ w)(h:M w0 w (bj φ::bj c::Γ)):M w0 w (bj χ::Γ) :=
 M.rd (Δ:=[bj φ,bj c]) (fun _ w Y=>q w (Y.cU 0 rfl) (Y.cU 1 rfl)) h
def M.pN (c:∀ w,φ w)(h:M w0 w Γ):M w0 w (bj φ::Γ):=M.rd (Δ:=[]) (fun _ w _=>c w) h
def dO (w:World)(p:Addr)(cells:List Value):Prop:=∀ j v,cells[j]? = some v->w.cell? (p.add j)=some v
def F4 {v:Value}(h:w0.cell? p=some v)(Y:M w0 w Γ):w.cell? p=some v:=by
 have c:p.block<w0.heap.size:=by
  rcases ns p.block w0.heap.size with q|q
  ·exact q
  simp[World.cell?,tI q]at h
 rw[Y.below.cell c];exact h
def dO.at {cells:List Value}(h:dO w0 p cells)(Y:M w0 w Γ):dO w p cells:=fun j v hv=>F4 (h j v hv) Y
def M.gB {t:TypeId}{cells:List Value}(Y:M w0 w Γ)(i:Nat)(hi:Γ[i]? = some (ak p t cells)):dO w p cells:=fun _ _ hv=>lM Y hi hv
def pj {t:TypeId}{cells:List Value}{put:HP->List HP}[B:gO Γ p t cells put](Y:M w0 w Γ):dO w p cells:=by
 obtain⟨i,hi,_⟩:=B.mK.ok;exact Y.gB i hi
def Qv (p:Addr)(a b:Nat):(p.add a).add b=p.add (a+b):=by
 unfold Addr.add;by_cases c:a=0
 ·subst c;simp
 by_cases q:b=0
 ·subst q;simp
 simp[c,q,zT]
variable {P:Program}{ρ:Fr}{ty:TypeId}{pos:String}{af:Array Edge}{g:Option (Nat × Bool)}{dst:Option Nat}{x y:Operand}{t t':TypeId}
def D5 {k:Nat}{cells:List Value}{v:Value}[C:bY P t](hx:aX ρ x=.pointer (some (p.add k)))(h:dO w p cells)(hv:cells[k]? = some v):ReadV P ⟨dst,.load t x,ty,pos,af,g⟩ ρ w v:=wB hx (h _ _ hv)
def D6 {cells:List Value}{v:Value}[C:bY P t](hx:aX ρ x=.pointer (some p))(h:dO w p cells)(hv:cells[0]? = some v):ReadV P ⟨dst,.load t x,ty,pos,af,g⟩ ρ w v :=
 wB hx (by have:=h _ _ hv;simpa [Addr.add] using this)
def D7 {cells:List Value}[A:eT P t n](hx:aX ρ x=.pointer (some p))(h:dO w p cells)(c:cells.length=n):ReadV P ⟨dst,.load t x,ty,pos,af,g⟩ ρ w (.agg cells.toArray) :=
 GW hx c h
def z8 {k:Nat}{cells:List Value}[A:eT P t n](hx:aX ρ x=.pointer (some (p.add k)))(h:dO w p cells)(q:vs.length=n)(hv:vs=(cells.drop k).take n):ReadV P ⟨dst,.load t x,ty,pos,af,g⟩ ρ w (.agg vs.toArray) :=
 GW hx q fun j v c=>by
  rw[Qv];refine h _ _ ?_;rw[hv,wE,JT]at c;split at c
  ·exact c
  cases c
def Qw {off a:Nat}[T:aN P t f off ft](hx:aX ρ x=.pointer (some (p.add a))):PureV P ⟨dst,.fieldAddr t x f,ty,pos,af,g⟩ ρ (.pointer (some (p.add (a+off)))):=by
 have:=Kp (P:=P) (t:=t) (f:=f) (ρ:=ρ) (dst:=dst) (ty:=ty) (pos:=pos) (af:=af) (g:=g) hx
 rwa[Qv]at this
class mW (P:Program) (t:Nat):Prop where
 ok:(match P.underlying t with|some (.pointer _)=>true|_=>false)=true
def mW.gI (h:mW P t):P.underlying t=some (.pointer (P.pointee t)):=by
 have h:=h.ok;split at h
 ·rename_i e he;rw[he];simp[Program.pointee,he]
 cases h
def Qx {a:Option Addr}[T:mW P t](hx:aX ρ x=.pointer a):PureV P ⟨dst,.binOp .eql t x (.const (.pointer none)) t',ty,pos,af,g⟩ ρ (.bool a.isNone):=fun w=>by
 have h1:=run_eql_pointer_nil w t a T.gI;simp only[execOp,eqGuard,hx];cases x<;>simp[aX,h1]
def Qy {a:Option Addr}[T:mW P t](hx:aX ρ x=.pointer a):PureV P ⟨dst,.binOp .neq t x (.const (.pointer none)) t',ty,pos,af,g⟩ ρ (.bool (!a.isNone)):=fun w=>by
 have h1:=run_neq_pointer_nil w t a T.gI;simp only[execOp,eqGuard,hx];cases x<;>simp[aX,h1]
def wS (places:List (Nat × Nat))(cs:List Value):List (Nat × List Value)->List Value
 | []=>cs
 | (i,l)::r=>wS places (match places[i]? with|some (off,size)=>cs.take off++l++cs.drop (off+size)|none=>cs) r
def za (places:List (Nat × Nat))(n:Nat):List (Nat × List Value)->Bool
 | []=>true
 | (i,l)::r=>(match places[i]? with|some (off,size)=>l.length == size && ble (off+size) n|none=>false) && za places n r
def Qz {places:List (Nat × Nat)}{n:Nat}:∀ (vs:List (Nat × Value)) (cs:List Value),cs.length=n->za places n (vs.map fun p=>(p.1,p.2.cells.toList))=true ->
  Instr.fill (places[·]?) cs.toArray vs=some (wS places cs (vs.map fun p=>(p.1,p.2.cells.toList))).toArray
 | [],cs,_,_=>by simp[Instr.fill,wS]
 | (i,v)::vs,cs,hc,S=>by
  simp only[l8,za,Bool.and_eq_true]at S;obtain⟨h1,V⟩:=S
  cases c:places[i]? with
  | none=>simp[c]at h1
  | some q =>
   obtain⟨off,size⟩:=q;simp only[c,Bool.and_eq_true,sq,ble_eq]at h1;obtain⟨C,h4⟩:=h1;rw[Kv c (by simpa using C) U,Qz vs _ (by simp at C;simp[C];omega) V];simp only[l8,wS,c]
variable {Z:Array Oper}{K:Fr->World->Prop}{r:List Oper}{d:Nat}
def sd {parts:List (Nat × Operand)}{vs:List (Nat × Value)}{ls:List (Nat × List Value)}{places:List (Nat × Nat)}[S:bF P t places][Z':bn P t zs](c:(parts.map fun p=>(p.1,aX ρ p.2))=vs)(q:(vs.map fun p=>(p.1,p.2.cells.toList))=ls)(C:za places zs.length ls=true)(h:opsW P Z K r (fa ρ d (.agg (wS places zs ls).toArray)) w):opsW P Z K (⟨some d,.build t parts.toArray,ty,pos,af,none⟩::r) ρ w:=by
 subst q;exact Qi c (Qz vs zs rfl C) h
def Bo {v:Value}(h:v.oneCell'=true):v.cells.toList=[v]:=by
 cases v<;>first|rfl|(simp[Value.oneCell']at h)
def yj (hx:aX ρ x=.agg vs.toArray)(Y:M w0 w Γ)(h:∀ p w',M w0 w' (ak p t vs::Γ)->opsW P Z K r (fa ρ d (.pointer (some p))) w'):opsW P Z K (⟨some d,.box t x,ty,pos,af,none⟩::r) ρ w :=
 P3 hx Y fun p w' c=>h p w' (by simpa [Value.cells] using c)
end
section
variable {P:Program}{Z:Array Oper}{K:Fr->World->Prop}{r:List Oper}{ρ:Fr}{w w0:World}{d:Nat}{ty:TypeId}{pos:String}{af:Array Edge}{dst:Option Nat}{x y:Operand}{t:TypeId}{Γ:List HP}{op:Op}{v:Value}
def A9 (h:opsW P Z K r (fa ρ d v) w)
  (c:dQ P op=.pure:=by exact rfl)
  (hv:PureV P ⟨some d,op,ty,pos,af,none⟩ ρ v:=by
   first
    | (apply PA;(conv=>lhs;whnf))
    | (apply Ko;(conv=>lhs;whnf))
    | ((first|apply PD|apply PG|apply PF|apply PE)<;>exact rfl)
    | (apply PI<;>exact rfl)
    | (apply PJ<;>exact rfl)
    | ((first|apply PK|apply PL);exact rfl;exact rfl;omega;omega)
    | (apply PM;exact rfl;exact rfl;(first|omega|assumption);(first|omega|assumption))
    | (apply Qt;exact rfl;exact rfl;omega;omega;omega)
    | (apply Qu;exact rfl;exact rfl;omega)
    | (apply PN;exact rfl)
    | (apply Qw;exact rfl)
    | (apply Kp;exact rfl)
    | (apply PZ;(conv=>lhs;whnf);(first|exact RS.at (by assumption) Y|exact bm Y|assumption))
    | (apply Qq;exact rfl)
    | (apply Qr;exact rfl;exact rfl;omega)
    | (apply P0;(conv=>lhs;whnf);exact rfl;(first|exact RS.at (by assumption) Y|exact bm Y|assumption);exact rfl;exact fb _;omega)
    | (apply Kq;(conv=>lhs;whnf);exact rfl;(first|exact RS.at (by assumption) Y|exact bm Y|assumption);exact rfl;exact fb _;omega;omega)
    | (apply PV<;>exact rfl)
    | (apply PU;(conv=>lhs;whnf))
    | (apply PR;exact rfl)
    | (apply Qx;exact rfl)
    | (apply Qy;exact rfl)
    | (apply PS;exact rfl)
    | (apply PP<;>exact rfl)
    | (apply PQ<;>exact rfl)
    | (apply AA<;>exact rfl)
    | (apply PC<;>exact rfl)
    | (apply PX;exact rfl)
    | (apply PY;exact rfl)
    | (apply Qc;exact rfl)
    | (apply Qd;exact rfl)
    | (apply Qa<;>exact rfl)
    | (apply Qb<;>exact rfl)
    | (apply Qe;exact rfl)
    | ((first|apply Qf|apply Qg)<;>exact rfl)
    | (apply PO;exact rfl;omega;omega)
    | (apply PW<;>exact rfl)
    | (apply PB;exact rfl;(conv=>lhs;whnf);(conv=>lhs;whnf))
    | (apply Ql;(conv=>lhs;whnf);exact rfl;(first|exact RS.at (by assumption) Y|exact bm Y|assumption);exact rfl;omega;omega)
    | (apply Qm;(conv=>lhs;whnf);exact rfl;(first|exact RS.at (by assumption) Y|exact bm Y|assumption);exact rfl;omega;omega)
    | (apply Qn;(conv=>lhs;whnf);exact rfl;exact rfl;(first|exact RS.at (by assumption) Y|exact bm Y|assumption);exact rfl;omega;omega;omega)
    | (apply Qo;(conv=>lhs;whnf);(first|exact RS.at (by assumption) Y|exact bm Y|assumption);exact rfl)):opsW P Z K (⟨some d,op,ty,pos,af,none⟩::r) ρ w:=fi c hv h
def Cf (h:opsW P Z K r (fa ρ d v) w)
  (c:dQ P op=.dD:=by exact rfl)
  (hv:ReadV P ⟨some d,op,ty,pos,af,none⟩ ρ w v:=by
   first
    | (apply DY;exact rfl;exact Y;infer_instance;exact rfl)
    | (apply DZ;exact rfl;exact Y;infer_instance;exact rfl)
    | (apply CG;exact rfl;(first|exact RS.at (by assumption) Y|exact bm Y|assumption);omega)
    | (apply D4;exact rfl;(first|exact RS.at (by assumption) Y|exact bm Y|assumption);omega;exact wD (fb _);infer_instance;exact rfl)
    | (apply D3;exact rfl;(first|exact RS.at (by assumption) Y|exact bm Y|assumption);omega;exact rfl;infer_instance)
    | (apply CD;exact rfl;(first|exact RS.at (by assumption) Y|exact bm Y|assumption);omega;exact rfl)
    | (apply CE;exact rfl;(first|exact RS.at (by assumption) Y|exact bm Y|assumption);omega;exact wD (fb _);exact rfl)
    | (apply CF;exact rfl;(first|exact RS.at (by assumption) Y|exact bm Y|assumption);omega;exact rfl)
    | (apply D0;exact rfl;exact Y;infer_instance;exact rfl)
    | (apply D5;exact rfl;exact dO.at (by assumption) Y;exact rfl)
    | (apply D6;exact rfl;exact dO.at (by assumption) Y;exact rfl)
    | (apply D7;exact rfl;exact dO.at (by assumption) Y;exact rfl)):opsW P Z K (⟨some d,op,ty,pos,af,none⟩::r) ρ w:=rW c hv h
def uT {j:Nat}{want:Bool}{s:Nat}(h:opsW P Z K (⟨dst,op,ty,pos,af,none⟩::r) ρ w)(c:jz Z j=some s:=by exact rfl)(I:sE (ρ s) want=true:=by exact rfl):opsW P Z K (⟨dst,op,ty,pos,af,some (j,want)⟩::r) ρ w:=Xp c I h
def uU {j:Nat}{want:Bool}{s:Nat}(h:opsW P Z K r (io ρ dst undef) w)(c:jz Z j=some s:=by exact rfl)(I:sE (ρ s) want=false:=by exact rfl):opsW P Z K (⟨dst,op,ty,pos,af,some (j,want)⟩::r) ρ w:=Xq c I h
def He {j:Nat}{want c:Bool}{s:Nat}(h:opsW P Z K r (fa ρ d (gv c v)) w)
  (q:dQ P op=.pure:=by exact rfl)(C:jz Z j=some s:=by exact rfl)(I:Gd (ρ s) want c:=by first|exact Kn _ _|exact xc _ _ _)
  (hv:c=true->PureV P ⟨some d,op,ty,pos,af,none⟩ ρ v:=by
   intro I;have hq:=I
   (try simp only[sq,Bool.and_eq_true,pO,gR,pM,rX,yu,yw,nq,qy,yx,xR,bne_iff_ne,ne_eq,rY,xS,wg,yy]at hq)
   first
    | (apply Xr I<;>exact rfl)
    | (apply Xs I<;>exact rfl)
    | (apply PA;(first|exact bu I|exact bu (bw I)|(conv=>lhs;whnf)))
    | (apply Ko;(first|exact bu I|exact bu (bw I)|(conv=>lhs;whnf)))
    | ((first|apply PD|apply PG|apply PF|apply PE)<;>(first|exact rfl|exact bu I|exact bu (bw I)))
    | (apply PI<;>(first|exact rfl|exact bu I|exact bu (bw I)))
    | (apply PJ<;>(first|exact rfl|exact bu I|exact bu (bw I)))
    | ((first|apply PK|apply PL);(first|exact rfl|exact bu I|exact bu (bw I));(first|exact rfl|exact bu I|exact bu (bw I));omega;omega)
    | (apply PM;(first|exact rfl|exact bu I|exact bu (bw I));(first|exact rfl|exact bu I|exact bu (bw I));(first|omega|assumption);(first|omega|assumption))
    | (apply Qt;(first|exact rfl|exact bu I|exact bu (bw I));(first|exact rfl|exact bu I|exact bu (bw I));omega;omega;omega)
    | (apply Qu;(first|exact rfl|exact bu I|exact bu (bw I));(first|exact rfl|exact bu I|exact bu (bw I));omega)
    | (apply PN;(first|exact rfl|exact bu I|exact bu (bw I)))
    | (apply Qw;(first|exact rfl|exact bu I|exact bu (bw I)))
    | (apply Kp;(first|exact rfl|exact bu I|exact bu (bw I)))
    | (apply PZ;(first|exact bu I|exact bu (bw I)|(conv=>lhs;whnf));(first|exact RS.at (by assumption) Y|exact bm Y|assumption))
    | (apply Qq;(first|exact rfl|exact bu I|exact bu (bw I)))
    | (apply Qr;(first|exact rfl|exact bu I|exact bu (bw I));(first|exact rfl|exact bu I|exact bu (bw I));omega)
    | (apply P0;(first|exact bu I|exact bu (bw I)|(conv=>lhs;whnf));(first|exact rfl|exact bu I|exact bu (bw I));(first|exact RS.at (by assumption) Y|exact bm Y|assumption);(first|exact rfl|exact bu I|exact bu (bw I));exact fb _;omega)
    | (apply Kq;(first|exact bu I|exact bu (bw I)|(conv=>lhs;whnf));(first|exact rfl|exact bu I|exact bu (bw I));(first|exact RS.at (by assumption) Y|exact bm Y|assumption);(first|exact rfl|exact bu I|exact bu (bw I));exact fb _;omega;omega)
    | (apply PV<;>(first|exact rfl|exact bu I|exact bu (bw I)))
    | (apply PU;(first|exact bu I|exact bu (bw I)|(conv=>lhs;whnf)))
    | (apply PR;(first|exact rfl|exact bu I|exact bu (bw I)))
    | (apply Qx;(first|exact rfl|exact bu I|exact bu (bw I)))
    | (apply Qy;(first|exact rfl|exact bu I|exact bu (bw I)))
    | (apply PS;(first|exact rfl|exact bu I|exact bu (bw I)))
    | (apply PP<;>(first|exact rfl|exact bu I|exact bu (bw I)))
    | (apply PQ<;>(first|exact rfl|exact bu I|exact bu (bw I)))
    | (apply AA<;>(first|exact rfl|exact bu I|exact bu (bw I)))
    | (apply PC<;>(first|exact rfl|exact bu I|exact bu (bw I)))
    | (apply PX;(first|exact rfl|exact bu I|exact bu (bw I)))
    | (apply PY;(first|exact rfl|exact bu I|exact bu (bw I)))
    | (apply Qc;(first|exact rfl|exact bu I|exact bu (bw I)))
    | (apply Qd;(first|exact rfl|exact bu I|exact bu (bw I)))
    | (apply Qa<;>(first|exact rfl|exact bu I|exact bu (bw I)))
    | (apply Qb<;>(first|exact rfl|exact bu I|exact bu (bw I)))
    | (apply Qe;(first|exact rfl|exact bu I|exact bu (bw I)))
    | ((first|apply Qf|apply Qg)<;>(first|exact rfl|exact bu I|exact bu (bw I)))
    | (apply PO;(first|exact rfl|exact bu I|exact bu (bw I));omega;omega)
    | (apply PW<;>(first|exact rfl|exact bu I|exact bu (bw I)))
    | (apply PB;(first|exact rfl|exact bu I|exact bu (bw I));(first|exact bu I|exact bu (bw I)|(conv=>lhs;whnf));(first|exact bu I|exact bu (bw I)|(conv=>lhs;whnf)))
    | (apply Ql;(first|exact bu I|exact bu (bw I)|(conv=>lhs;whnf));(first|exact rfl|exact bu I|exact bu (bw I));(first|exact RS.at (by assumption) Y|exact bm Y|assumption);(first|exact rfl|exact bu I|exact bu (bw I));omega;omega)
    | (apply Qm;(first|exact bu I|exact bu (bw I)|(conv=>lhs;whnf));(first|exact rfl|exact bu I|exact bu (bw I));(first|exact RS.at (by assumption) Y|exact bm Y|assumption);(first|exact rfl|exact bu I|exact bu (bw I));omega;omega)
    | (apply Qn;(first|exact bu I|exact bu (bw I)|(conv=>lhs;whnf));(first|exact rfl|exact bu I|exact bu (bw I));(first|exact rfl|exact bu I|exact bu (bw I));(first|exact RS.at (by assumption) Y|exact bm Y|assumption);(first|exact rfl|exact bu I|exact bu (bw I));omega;omega;omega)
    | (apply Qo;(first|exact bu I|exact bu (bw I)|(conv=>lhs;whnf));(first|exact RS.at (by assumption) Y|exact bm Y|assumption);(first|exact rfl|exact bu I|exact bu (bw I)))):opsW P Z K (⟨some d,op,ty,pos,af,some (j,want)⟩::r) ρ w:=Xn q C I hv h
def Hf {j:Nat}{want c:Bool}{s:Nat}(h:opsW P Z K r (fa ρ d (gv c v)) w)
  (q:dQ P op=.dD:=by exact rfl)(C:jz Z j=some s:=by exact rfl)(I:Gd (ρ s) want c:=by first|exact Kn _ _|exact xc _ _ _)
  (hv:c=true->ReadV P ⟨some d,op,ty,pos,af,none⟩ ρ w v:=by
   intro I;have hq:=I
   (try simp only[sq,Bool.and_eq_true,pO,gR,pM,rX,yu,yw,nq,qy,yx,xR,bne_iff_ne,ne_eq,rY,xS,wg,yy]at hq)
   first
    | (apply DY;(first|exact rfl|exact bu I|exact bu (bw I));exact Y;infer_instance;(first|exact rfl|exact bu I|exact bu (bw I)))
    | (apply DZ;(first|exact rfl|exact bu I|exact bu (bw I));exact Y;infer_instance;(first|exact rfl|exact bu I|exact bu (bw I)))
    | (apply CG;(first|exact rfl|exact bu I|exact bu (bw I));(first|exact RS.at (by assumption) Y|exact bm Y|assumption);omega)
    | (apply D4;(first|exact rfl|exact bu I|exact bu (bw I));(first|exact RS.at (by assumption) Y|exact bm Y|assumption);omega;exact wD (fb _);infer_instance;(first|exact rfl|exact bu I|exact bu (bw I)))
    | (apply D3;(first|exact rfl|exact bu I|exact bu (bw I));(first|exact RS.at (by assumption) Y|exact bm Y|assumption);omega;(first|exact rfl|exact bu I|exact bu (bw I));infer_instance)
    | (apply CD;(first|exact rfl|exact bu I|exact bu (bw I));(first|exact RS.at (by assumption) Y|exact bm Y|assumption);omega;(first|exact rfl|exact bu I|exact bu (bw I)))
    | (apply CE;(first|exact rfl|exact bu I|exact bu (bw I));(first|exact RS.at (by assumption) Y|exact bm Y|assumption);omega;exact wD (fb _);(first|exact rfl|exact bu I|exact bu (bw I)))
    | (apply CF;(first|exact rfl|exact bu I|exact bu (bw I));(first|exact RS.at (by assumption) Y|exact bm Y|assumption);omega;(first|exact rfl|exact bu I|exact bu (bw I)))
    | (apply D0;(first|exact rfl|exact bu I|exact bu (bw I));exact Y;infer_instance;(first|exact rfl|exact bu I|exact bu (bw I)))
    | (apply D5;(first|exact rfl|exact bu I|exact bu (bw I));exact dO.at (by assumption) Y;(first|exact rfl|exact bu I|exact bu (bw I)))
    | (apply D6;(first|exact rfl|exact bu I|exact bu (bw I));exact dO.at (by assumption) Y;(first|exact rfl|exact bu I|exact bu (bw I)))
    | (apply D7;(first|exact rfl|exact bu I|exact bu (bw I));exact dO.at (by assumption) Y;(first|exact rfl|exact bu I|exact bu (bw I)))):opsW P Z K (⟨some d,op,ty,pos,af,some (j,want)⟩::r) ρ w:=Xo q C I hv h
def vF (v:Value):gv (false == false) v=v:=bu rfl
def vG (v:Value):gv (true == true) v=v:=bu rfl
def QA {j:Nat}{want b:Bool}{s:Nat}(h1:b=true->opsW P Z K (⟨dst,op,ty,pos,af,some (j,want)⟩::r) ρ w)(q:b=false->opsW P Z K (⟨dst,op,ty,pos,af,some (j,want)⟩::r) ρ w)(C:jz Z j=some s:=by exact rfl)(S:ρ s=.bool b:=by exact rfl):opsW P Z K (⟨dst,op,ty,pos,af,some (j,want)⟩::r) ρ w:=by
 cases c:b with
 | true=>exact h1 c
 | false=>exact q c
def F8 [Z':bn P t zs](h:∀ p w',M w0 w' (ak p t zs::Γ)->opsW P Z K r (fa ρ d (.pointer (some p))) w')(Y:M w0 w Γ:=by exact Y):opsW P Z K (⟨some d,.alloc t,ty,pos,af,none⟩::r) ρ w:=Xv Y h
def zK (h:∀ p w',M w0 w' (ak p t v.cells.toList::Γ)->opsW P Z K r (fa ρ d (.pointer (some p))) w')(hx:aX ρ x=v:=by (conv=>lhs;whnf))(Y:M w0 w Γ:=by exact Y):opsW P Z K (⟨some d,.box t x,ty,pos,af,none⟩::r) ρ w:=P3 hx Y h
def QB {cells:List Value}{put:HP->List HP}[A:eT P t n](h:∀ w',M w0 w' (put (ak p bt vs))->opsW P Z K r ρ w')(hx:aX ρ x=.pointer (some p):=by exact rfl)(c:aX ρ y=.agg vs.toArray:=by exact rfl)(Y:M w0 w Γ:=by exact Y)(B:gO Γ p bt cells put:=by infer_instance)(q:vs.length=n:=by exact rfl)(C:cells.length=n:=by exact rfl)(hv:vs.all Value.oneCell'=true:=by first|exact rfl|assumption):opsW P Z K (⟨none,.store t x y,ty,pos,af,none⟩::r) ρ w:=jH hx c Y B q C hv h
def QC {α:Type}{T:Ty α}{s:Value}{xs:List α}{j:Nat}{e:TypeId}{x':α}{put:HP->List HP}[C:bY P t](h:∀ w',M w0 w' (put (X T e s (xs.set j x')))->opsW P Z K r ρ w')
  (hx:aX ρ x=.pointer (some (gU T s j)):=by exact rfl)(c:aX ρ y=v:=by (conv=>lhs;whnf))(hv:v.oneCell'=true:=by first|exact rfl|exact RS.one (bm Y)|exact RS.one (by assumption))(Y:M w0 w Γ:=by exact Y)(q:gP Γ s α T e xs put:=by infer_instance)(S:j<xs.length:=by omega)(he:T.enc x'=[v]:=by exact rfl):opsW P Z K (⟨none,.store t x y,ty,pos,af,none⟩::r) ρ w:=Xw hx c hv Y q S he h
def QD {cells:List Value}{put:HP->List HP}[C:bY P t](h:∀ w',M w0 w' (put (ak p bt (cells.set 0 v)))->opsW P Z K r ρ w')(hx:aX ρ x=.pointer (some p):=by exact rfl)(c:aX ρ y=v:=by (conv=>lhs;whnf))(hv:v.oneCell'=true:=by first|exact rfl|exact RS.one (bm Y)|exact RS.one (by assumption))(Y:M w0 w Γ:=by exact Y)(B:gO Γ p bt cells put:=by infer_instance)(hk:0<cells.length:=by exact fb _):opsW P Z K (⟨none,.store t x y,ty,pos,af,none⟩::r) ρ w:=Xu hx c hv Y B hk h
def QE {k:Nat}{cells:List Value}{put:HP->List HP}[C:bY P t](h:∀ w',M w0 w' (put (ak p bt (cells.set k v)))->opsW P Z K r ρ w')(hx:aX ρ x=.pointer (some (p.add k)):=by exact rfl)(c:aX ρ y=v:=by (conv=>lhs;whnf))(hv:v.oneCell'=true:=by first|exact rfl|exact RS.one (bm Y)|exact RS.one (by assumption))(Y:M w0 w Γ:=by exact Y)(B:gO Γ p bt cells put:=by infer_instance)(hk:k<cells.length:=by exact wD (fb _)):opsW P Z K (⟨none,.store t x y,ty,pos,af,none⟩::r) ρ w:=F9 hx c hv Y B hk h
def XO {e:Nat}{n:Int}[S:bh P t e sz by_][Z':bn P e zs](h:∀ s w',M w0 w' (X O e s (replicate n.toNat 0)::Γ)->opsW P Z K r (fa ρ d s) w')(hx:aX ρ x=E n:=by exact rfl)(q:aX ρ y=E n:=by exact rfl)(c:sz=O.sz:=by exact rfl)(C:O.enc 0=zs:=by exact rfl)(V:0<=n:=by omega)(hb:by_*n<=281474976710656:=by omega)(hn:n<=281474976710656:=by omega)(Y:M w0 w Γ:=by exact Y):opsW P Z K (⟨some d,.makeSlice t x y,ty,pos,af,none⟩::r) ρ w:=Cb O 0 hx q c C V hb hn Y h
def XP {e:Nat}{n:Int}[S:bh P t e sz by_][Z':bn P e zs](h:∀ s w',M w0 w' (X ah e s (replicate n.toNat false)::Γ)->opsW P Z K r (fa ρ d s) w')(hx:aX ρ x=E n:=by exact rfl)(q:aX ρ y=E n:=by exact rfl)(c:sz=ah.sz:=by exact rfl)(C:ah.enc false=zs:=by exact rfl)(V:0<=n:=by omega)(hb:by_*n<=281474976710656:=by omega)(hn:n<=281474976710656:=by omega)(Y:M w0 w Γ:=by exact Y):opsW P Z K (⟨some d,.makeSlice t x y,ty,pos,af,none⟩::r) ρ w:=Cb ah false hx q c C V hb hn Y h
def XQ {e:Nat}{n:Int}[S:bh P t e sz by_][Z':bn P e zs](h:∀ s w',M w0 w' (X ar e s (replicate n.toNat (nS))::Γ)->opsW P Z K r (fa ρ d s) w')(hx:aX ρ x=E n:=by exact rfl)(q:aX ρ y=E n:=by exact rfl)(c:sz=ar.sz:=by exact rfl)(C:ar.enc (nS)=zs:=by exact rfl)(V:0<=n:=by omega)(hb:by_*n<=281474976710656:=by omega)(hn:n<=281474976710656:=by omega)(Y:M w0 w Γ:=by exact Y):opsW P Z K (⟨some d,.makeSlice t x y,ty,pos,af,none⟩::r) ρ w:=Cb ar (nS) hx q c C V hb hn Y h
def Hg {i1:Nat}{places:List (Nat × Nat)}[S:bF P t places][Z':bn P t zs](h:opsW P Z K r (fa ρ d (.agg (lG zs [(i1,v1)]).toArray)) w)(h1:aX ρ x1=v1:=by (conv=>lhs;whnf))(c:mA places zs.length=true:=by exact rfl)(hv:[(i1,v1)].all (fun p=>decide (p.1<zs.length) && p.2.oneCell')=true:=by exact rfl):opsW P Z K (⟨some d,.build t #[(i1,x1)],ty,pos,af,none⟩::r) ρ w:=Jc h1 c hv h
def Hh {i1 i2:Nat}{v2:Value}{places:List (Nat × Nat)}[S:bF P t places][Z':bn P t zs](h:opsW P Z K r (fa ρ d (.agg (lG zs [(i1,v1),(i2,v2)]).toArray)) w)(h1:aX ρ x1=v1:=by (conv=>lhs;whnf))(h2:aX ρ x2=v2:=by (conv=>lhs;whnf))(c:mA places zs.length=true:=by exact rfl)(hv:[(i1,v1),(i2,v2)].all (fun p=>decide (p.1<zs.length) && p.2.oneCell')=true:=by exact rfl):opsW P Z K (⟨some d,.build t #[(i1,x1),(i2,x2)],ty,pos,af,none⟩::r) ρ w:=zA h1 h2 c hv h
def Hi {i1 i2 i3:Nat}{v2 v3:Value}{places:List (Nat × Nat)}[S:bF P t places][Z':bn P t zs](h:opsW P Z K r (fa ρ d (.agg (lG zs [(i1,v1),(i2,v2),(i3,v3)]).toArray)) w)(h1:aX ρ x1=v1:=by (conv=>lhs;whnf))(h2:aX ρ x2=v2:=by (conv=>lhs;whnf))(c:aX ρ x3=v3:=by (conv=>lhs;whnf))(q:mA places zs.length=true:=by exact rfl)(hv:[(i1,v1),(i2,v2),(i3,v3)].all (fun p=>decide (p.1<zs.length) && p.2.oneCell')=true:=by exact rfl):opsW P Z K (⟨some d,.build t #[(i1,x1),(i2,x2),(i3,x3)],ty,pos,af,none⟩::r) ρ w:=yq h1 h2 c q hv h
def XR {e:Nat}{n:Int}[S:bh P t e sz by_][Z':bn P e zs](h:∀ s w',M w0 w' (X O e s [n]::Γ)->opsW P Z K r (fa ρ d s) w')(hx:aX ρ x=E n:=by exact rfl)(c:sz=O.sz:=by exact rfl)(q:sz<=16777216:=by exact fX rfl)(C:0<sz:=by exact fb _)(Y:M w0 w Γ:=by exact Y):opsW P Z K (⟨some d,.buildSlice t 1 #[(0,x)],ty,pos,af,none⟩::r) ρ w:=jG O hx rfl c q C Y h
def XS {e:Nat}[S:bh P t e sz by_][Z':bn P e zs](h:∀ s w',M w0 w' (X ar e s [v]::Γ)->opsW P Z K r (fa ρ d s) w')(hx:aX ρ x=v:=by (conv=>lhs;whnf))(C:v.cells.toList=[v]:=by first|exact rfl|exact RS.eJ (bm Y)|exact RS.eJ (by assumption))(c:sz=ar.sz:=by exact rfl)(q:sz<=16777216:=by exact fX rfl)(V:0<sz:=by exact fb _)(Y:M w0 w Γ:=by exact Y):opsW P Z K (⟨some d,.buildSlice t 1 #[(0,x)],ty,pos,af,none⟩::r) ρ w:=jG ar hx C c q V Y h
def OI {α:Type}{T:Ty α}{s s2:Value}{xs ys:List α}{e:Nat}{put:HP->List HP}[S:bh P t e sz by_][Z':bn P e zs](h:∀ s' w',M w0 w' (put (X T e s' (xs++ys)))->opsW P Z K r (fa ρ d s') w')(hx:aX ρ x=s:=by (conv=>lhs;whnf))(C:aX ρ y=s2:=by (conv=>lhs;whnf))(Y:M w0 w Γ:=by exact Y)(V:gP Γ s α T e xs put:=by infer_instance)(h2:RS T w s2 ys:=by (first|exact RS.at (by assumption) Y|exact bm Y|assumption))(c:sz=T.sz:=by exact rfl)(q:zs.length=sz:=by exact rfl)(hone:∀ x∈ys,∀ v∈T.enc x,v.oneCell'=true:=by first|exact fun x _ v hv=>ku.ok x v hv|(intro x hx v hv;rw[dp.1 hx]at hv;rw[dp.1 hv];first|exact rfl|exact RS.one (bm Y)|exact RS.one (by assumption)))(hb:(xs.length+ys.length)*by_<=140737488355328:=by first|omega|(simp only[length_append,length_cons,length_nil,np]at *;omega))(hl:xs.length+ys.length<=bT:=by first|(unfold bT;omega)|(unfold bT;simp only[length_append,length_cons,length_nil,np]at *;omega)) :
  opsW P Z K (⟨some d,.call { callee:=.builtin .append,args:=#[x,y],argTypes:=#[t,t] },ty,pos,af,none⟩::r) ρ w:=rV V hx C h2 c q hone hb hl Y h
def D8 (h:opsD P l.toArray K is ρ w)(c:l[i]? = some ⟨some d,op,ty,pos,af,none⟩:=by exact rfl)(hv:ReadV P ⟨some d,op,ty,pos,af,none⟩ ρ w v:=by
   first
    | (apply DY;exact rfl;exact Y;infer_instance;exact rfl)
    | (apply DZ;exact rfl;exact Y;infer_instance;exact rfl)
    | (apply CG;exact rfl;(first|exact RS.at (by assumption) Y|exact bm Y|assumption);omega)
    | (apply D4;exact rfl;(first|exact RS.at (by assumption) Y|exact bm Y|assumption);omega;exact wD (fb _);infer_instance;exact rfl)
    | (apply D3;exact rfl;(first|exact RS.at (by assumption) Y|exact bm Y|assumption);omega;exact rfl;infer_instance)
    | (apply CD;exact rfl;(first|exact RS.at (by assumption) Y|exact bm Y|assumption);omega;exact rfl)
    | (apply CE;exact rfl;(first|exact RS.at (by assumption) Y|exact bm Y|assumption);omega;exact wD (fb _);exact rfl)
    | (apply CF;exact rfl;(first|exact RS.at (by assumption) Y|exact bm Y|assumption);omega;exact rfl)
    | (apply D0;exact rfl;exact Y;infer_instance;exact rfl)
    | (apply D5;exact rfl;exact dO.at (by assumption) Y;exact rfl)
    | (apply D6;exact rfl;exact dO.at (by assumption) Y;exact rfl)
    | (apply D7;exact rfl;exact dO.at (by assumption) Y;exact rfl))(he:ρ d=v:=by exact rfl):opsD P l.toArray K (.cJ i::is) ρ w:=Kt c hv he h
def Hj {j:Nat}{want c:Bool}{s:Nat}(h:opsD P l.toArray K is ρ w)(C:l[i]? = some ⟨some d,op,ty,pos,af,some (j,want)⟩:=by exact rfl)(S:jz l.toArray j=some s:=by exact rfl)(I:Gd (ρ s) want c:=by first|exact Kn _ _|exact xc _ _ _)(he:ρ d=gv c v:=by exact rfl)(hv:c=true->ReadV P ⟨some d,op,ty,pos,af,none⟩ ρ w v:=by
   intro I;have hq:=I
   (try simp only[sq,Bool.and_eq_true,pO,gR,pM,rX,yu,yw,nq,qy,yx,xR,bne_iff_ne,ne_eq,rY,xS,wg,yy]at hq)
   first
    | (apply DY;(first|exact rfl|exact bu I|exact bu (bw I));exact Y;infer_instance;(first|exact rfl|exact bu I|exact bu (bw I)))
    | (apply DZ;(first|exact rfl|exact bu I|exact bu (bw I));exact Y;infer_instance;(first|exact rfl|exact bu I|exact bu (bw I)))
    | (apply CG;(first|exact rfl|exact bu I|exact bu (bw I));(first|exact RS.at (by assumption) Y|exact bm Y|assumption);omega)
    | (apply D4;(first|exact rfl|exact bu I|exact bu (bw I));(first|exact RS.at (by assumption) Y|exact bm Y|assumption);omega;exact wD (fb _);infer_instance;(first|exact rfl|exact bu I|exact bu (bw I)))
    | (apply D3;(first|exact rfl|exact bu I|exact bu (bw I));(first|exact RS.at (by assumption) Y|exact bm Y|assumption);omega;(first|exact rfl|exact bu I|exact bu (bw I));infer_instance)
    | (apply CD;(first|exact rfl|exact bu I|exact bu (bw I));(first|exact RS.at (by assumption) Y|exact bm Y|assumption);omega;(first|exact rfl|exact bu I|exact bu (bw I)))
    | (apply CE;(first|exact rfl|exact bu I|exact bu (bw I));(first|exact RS.at (by assumption) Y|exact bm Y|assumption);omega;exact wD (fb _);(first|exact rfl|exact bu I|exact bu (bw I)))
    | (apply CF;(first|exact rfl|exact bu I|exact bu (bw I));(first|exact RS.at (by assumption) Y|exact bm Y|assumption);omega;(first|exact rfl|exact bu I|exact bu (bw I)))
    | (apply D0;(first|exact rfl|exact bu I|exact bu (bw I));exact Y;infer_instance;(first|exact rfl|exact bu I|exact bu (bw I)))
    | (apply D5;(first|exact rfl|exact bu I|exact bu (bw I));exact dO.at (by assumption) Y;(first|exact rfl|exact bu I|exact bu (bw I)))
    | (apply D6;(first|exact rfl|exact bu I|exact bu (bw I));exact dO.at (by assumption) Y;(first|exact rfl|exact bu I|exact bu (bw I)))
    | (apply D7;(first|exact rfl|exact bu I|exact bu (bw I));exact dO.at (by assumption) Y;(first|exact rfl|exact bu I|exact bu (bw I)))):opsD P l.toArray K (.cJ i::is) ρ w:=by
 refine Ku (v:=v) C (fun hq=>?_) h;have q:c=true:=by
  simp only[gm,S]at hq;rw[<-hq];exact I.symm
 exact⟨hv q,by rw[he,q];exact bu rfl⟩
def Hk {j:Nat}{want:Bool}(h:opsD P l.toArray K is ρ w)(c:l[i]? = some ⟨some d,op,ty,pos,af,some (j,want)⟩:=by exact rfl)(hv:ReadV P ⟨some d,op,ty,pos,af,none⟩ ρ w v:=by
   first
    | (apply DY;exact rfl;exact Y;infer_instance;exact rfl)
    | (apply DZ;exact rfl;exact Y;infer_instance;exact rfl)
    | (apply CG;exact rfl;(first|exact RS.at (by assumption) Y|exact bm Y|assumption);omega)
    | (apply D4;exact rfl;(first|exact RS.at (by assumption) Y|exact bm Y|assumption);omega;exact wD (fb _);infer_instance;exact rfl)
    | (apply D3;exact rfl;(first|exact RS.at (by assumption) Y|exact bm Y|assumption);omega;exact rfl;infer_instance)
    | (apply CD;exact rfl;(first|exact RS.at (by assumption) Y|exact bm Y|assumption);omega;exact rfl)
    | (apply CE;exact rfl;(first|exact RS.at (by assumption) Y|exact bm Y|assumption);omega;exact wD (fb _);exact rfl)
    | (apply CF;exact rfl;(first|exact RS.at (by assumption) Y|exact bm Y|assumption);omega;exact rfl)
    | (apply D0;exact rfl;exact Y;infer_instance;exact rfl)
    | (apply D5;exact rfl;exact dO.at (by assumption) Y;exact rfl)
    | (apply D6;exact rfl;exact dO.at (by assumption) Y;exact rfl)
    | (apply D7;exact rfl;exact dO.at (by assumption) Y;exact rfl))(he:ρ d=v:=by exact rfl):opsD P l.toArray K (.cJ i::is) ρ w:=Ku c (fun _=>⟨hv,he⟩) h
def Hl {j:Nat}{want:Bool}{s:Nat}(h:opsD P l.toArray K is ρ w)(c:l[i]? = some ⟨some d,op,ty,pos,af,some (j,want)⟩:=by exact rfl)(q:jz l.toArray j=some s:=by exact rfl)(I:sE (ρ s) want=false:=by exact rfl):opsD P l.toArray K (.cJ i::is) ρ w:=by
 refine Ku (v:=.bool false) c (fun hq=>?_) h;simp only[gm,q]at hq;rw[I]at hq;cases hq
def r5 {Q:Exit->Fr->World->Prop}(h:∀ w',M w0 w' Γ->opsW P l.toArray (Q .normal) l ρ w')(Y:M w0 w Γ:=by exact Y)(c:qL P l.toArray=true:=by decide +kernel):vc P (.region i l.toArray true) Q ρ w:=XA Y c h
def Hm {Q:Exit->Fr->World->Prop}{j:Nat}(h:Q (.exit i) ρ w)(c:Nat.beq i j=false:=by exact rfl):Blk j Q (.exit i) ρ w:=XB c h
def jy {Q:Exit->Fr->World->Prop}{c:Operand}{x y:Code}{b:Bool}{p q:Prop}(h1:p->vc P x Q ρ w)(C:q->vc P y Q ρ w)(S:aX ρ c=.bool b:=by exact rfl)
  (V:b=true->p:=by
   intro hq
   (try simp only[sq,Bool.and_eq_true,pO,gR,pM,rX,yu,yw,nq,qy,yx,xR,bne_iff_ne,ne_eq,rY,xS,wg,yy]at hq)
   exact hq)
  (hn:b=false->q:=by
   intro hq
   (try simp only[sq,Bool.and_eq_true,pO,gR,pM,rX,yu,yw,nq,qy,yx,xR,bne_iff_ne,ne_eq,rY,xS,wg,yy]at hq)
   exact hq):vc P (.cond c x y) Q ρ w:=Xx S (fun h=>h1 (V h)) (fun h=>C (hn h))
def QF {Q:Exit->Fr->World->Prop}{c:Operand}{a b:Code}(h:vc P a Q ρ w)(q:aX ρ c=.bool true:=by exact rfl):vc P (.cond c a b) Q ρ w:=Xy q h
def QG {Q:Exit->Fr->World->Prop}{c:Operand}{a b:Code}(h:vc P b Q ρ w)(q:aX ρ c=.bool false:=by exact rfl):vc P (.cond c a b) Q ρ w:=Xz q h
structure dR (p:Prop):Prop where
 out:p
def dB (h:G')(c:dR G'->G:=by intro hgo;(first|refine vt ?_|refine Co ?_|refine tF ?_|refine zO ?_|refine A9 ?_|refine Cf ?_|refine Ce ?_|refine G6 ?_|refine GX ?_|refine GY ?_|refine GZ ?_|refine G4 ?_|refine G5 ?_|refine G7 ?_|refine G8 ?_|refine Hm ?_|refine QF ?_|refine QG ?_|refine zZ ?_|refine D1 ?_|refine D8 ?_|refine Hl ?_|refine Hk ?_|refine Hj ?_|refine G0 ?_|refine G3 ?_|refine uT ?_|refine uU ?_|refine He ?_|refine Hf ?_|refine Hg ?_|refine Hh ?_|refine Hi ?_);(repeat (first|refine vt ?_|refine Co ?_|refine tF ?_|refine zO ?_|refine A9 ?_|refine Cf ?_|refine Ce ?_|refine G6 ?_|refine GX ?_|refine GY ?_|refine GZ ?_|refine G4 ?_|refine G5 ?_|refine G7 ?_|refine G8 ?_|refine Hm ?_|refine QF ?_|refine QG ?_|refine zZ ?_|refine D1 ?_|refine D8 ?_|refine Hl ?_|refine Hk ?_|refine Hj ?_|refine G0 ?_|refine G3 ?_|refine uT ?_|refine uU ?_|refine He ?_|refine Hf ?_|refine Hg ?_|refine Hh ?_|refine Hi ?_));exact hgo.out):G:=c ⟨h⟩
def Kx (h:G')(c:dR G'->G:=by intro hgo;(first|refine vt ?_|refine Co ?_|refine tF ?_|refine zO ?_|refine A9 ?_|refine Cf ?_|refine Ce ?_|refine G6 ?_|refine GX ?_|refine GY ?_|refine GZ ?_|refine G4 ?_|refine G5 ?_|refine G7 ?_|refine G8 ?_|refine Hm ?_|refine zZ ?_|refine D1 ?_|refine D8 ?_|refine Hl ?_|refine Hk ?_|refine Hj ?_|refine G0 ?_|refine G3 ?_|refine uT ?_|refine uU ?_|refine He ?_|refine Hf ?_|refine Hg ?_|refine Hh ?_|refine Hi ?_);(repeat (first|refine vt ?_|refine Co ?_|refine tF ?_|refine zO ?_|refine A9 ?_|refine Cf ?_|refine Ce ?_|refine G6 ?_|refine GX ?_|refine GY ?_|refine GZ ?_|refine G4 ?_|refine G5 ?_|refine G7 ?_|refine G8 ?_|refine Hm ?_|refine zZ ?_|refine D1 ?_|refine D8 ?_|refine Hl ?_|refine Hk ?_|refine Hj ?_|refine G0 ?_|refine G3 ?_|refine uT ?_|refine uU ?_|refine He ?_|refine Hf ?_|refine Hg ?_|refine Hh ?_|refine Hi ?_));exact hgo.out):G:=c ⟨h⟩
def iy (h:G')(c:dR G'->G:=by intro hgo;(first|refine F8 ?_|refine zK ?_);exact hgo.out):G:=c ⟨h⟩
def qx (h:G')(c:dR G'->G:=by intro hgo;(first|refine QB ?_|refine QC ?_|refine QD ?_|refine QE ?_|refine r5 ?_);exact hgo.out):G:=c ⟨h⟩
def tG (h:G')(c:dR G'->G:=by intro hgo;(first|refine QB ?_|refine QC ?_|refine QD ?_|refine QE ?_);exact hgo.out):G:=c ⟨h⟩
def XT (h:G')(c:dR G'->G:=by intro hgo;(first|refine r5 ?_);exact hgo.out):G:=c ⟨h⟩
def fR (h:G')(c:dR G'->G:=by intro hgo;(first|refine XO ?_|refine XP ?_|refine XQ ?_|refine XR ?_|refine XS ?_|refine OI ?_);exact hgo.out):G:=c ⟨h⟩
end
def pV (h:G')(c:dR G'->G:=by intro hgo;(repeat refine Kx ?_);exact hgo.out):G:=c ⟨h⟩
def W (h:G')(c:dR G'->G:=by intro hgo;(repeat refine dB ?_);exact hgo.out):G:=c ⟨h⟩
def c9 (h:G')(c:dR G'->G:=by intro hgo;(repeat (first|refine dB ?_|(refine iy ?_;(try clear Y);intro p w Y)|(refine tG ?_;(try clear Y);intro w Y)|(refine fR ?_;(try clear Y);intro s w Y)));revert p w;exact hgo.out):G:=c ⟨h⟩
def eB (h:G')(c:dR G'->G:=by intro hgo;(repeat (first|refine dB ?_|(refine iy ?_;(try clear Y);intro p w Y)|(refine qx ?_;(try clear Y);intro w Y)|(refine fR ?_;(try clear Y);intro s w Y)));revert p w;exact hgo.out):G:=c ⟨h⟩
def iC (h:G')(c:dR G'->G:=by intro hgo;(repeat (first|refine dB ?_|(refine iy ?_;(try clear Y);intro p w Y)|(refine tG ?_;(try clear Y);intro w Y)|(refine fR ?_;(try clear Y);intro s w Y)));revert w;exact hgo.out):G:=c ⟨h⟩
def eQ (h:G')(c:dR G'->G:=by intro hgo;(repeat (first|refine dB ?_|(refine iy ?_;(try clear Y);intro p w Y)|(refine qx ?_;(try clear Y);intro w Y)|(refine fR ?_;(try clear Y);intro s w Y)));revert w;exact hgo.out):G:=c ⟨h⟩
def ot (h:G')(c:dR G'->G:=by intro hgo;(repeat (first|refine dB ?_|(refine iy ?_;(try clear Y);intro p w Y)|(refine tG ?_;(try clear Y);intro w Y)|(refine fR ?_;(try clear Y);intro s w Y)));revert s w;exact hgo.out):G:=c ⟨h⟩
def lw (h:G')(c:dR G'->G:=by intro hgo;(repeat (first|refine dB ?_|(refine iy ?_;(try clear Y);intro p w Y)|(refine qx ?_;(try clear Y);intro w Y)|(refine fR ?_;(try clear Y);intro s w Y)));revert s w;exact hgo.out):G:=c ⟨h⟩
def I0 (h:G')(c:dR G'->G:=by intro hgo;(repeat (first|refine dB ?_|(refine iy ?_;(try clear Y);intro p w Y)|(refine XT ?_;(try clear Y);intro w Y)|(refine fR ?_;(try clear Y);intro s w Y)));revert p w;exact hgo.out):G:=c ⟨h⟩
def Vl (h:G')(c:dR G'->G:=by intro hgo;(repeat (first|refine Kx ?_|(refine iy ?_;(try clear Y);intro p w Y)|(refine qx ?_;(try clear Y);intro w Y)|(refine fR ?_;(try clear Y);intro s w Y)));revert p w;exact hgo.out):G:=c ⟨h⟩
def EP (h:G')(c:dR G'->G:=by intro hgo;(repeat (first|refine dB ?_|(refine iy ?_;(try clear Y);intro p w Y)|(refine fR ?_;(try clear Y);intro s w Y)));revert p w;exact hgo.out):G:=c ⟨h⟩
def lU (h:G')(c:dR G'->G:=by intro hgo;rintro _ w' ⟨rfl,an⟩;replace Y:=Y.cr an;clear an;refine⟨_,rfl,?_⟩;(repeat refine dB ?_);revert w';exact hgo.out):G:=c ⟨h⟩
def aA (h1:G1)(h2:G2)(c:dR G1->dR G2->G:=by intro hgo hgi;(repeat refine dB ?_);refine jy ?_ ?_;rotate_left;exact hgi.out;exact hgo.out):G:=c ⟨h1⟩ ⟨h2⟩
def MN (h:G')(c:dR G'->G:=by intro hgo;rintro _ w' ⟨rfl,an⟩;replace Y:=Y.cr an;clear an;refine⟨_,rfl,?_⟩;(repeat (first|refine dB ?_|(refine iy ?_;(try clear Y);intro p w Y)|(refine tG ?_;(try clear Y);intro w Y)|(refine fR ?_;(try clear Y);intro s w Y)));revert p w;exact hgo.out):G:=c ⟨h⟩
def BG (h:G')(c:dR G'->G:=by intro hgo;rintro _ w' ⟨rfl,an⟩;replace Y:=Y.cr an;clear an;refine⟨_,rfl,?_⟩;(repeat (first|refine dB ?_|(refine iy ?_;(try clear Y);intro p w Y)|(refine tG ?_;(try clear Y);intro w Y)|(refine fR ?_;(try clear Y);intro s w Y)));revert w;exact hgo.out):G:=c ⟨h⟩
def lR (h1:G1)(h2:G2)(c:dR G1->dR G2->G:=by intro hgo hgi;(repeat (first|refine dB ?_|(refine iy ?_;(try clear Y);intro p w Y)|(refine qx ?_;(try clear Y);intro w Y)|(refine fR ?_;(try clear Y);intro s w Y)));refine jy ?_ ?_;rotate_left;revert p w;exact hgi.out;revert p w;exact hgo.out):G:=c ⟨h1⟩ ⟨h2⟩
def sC (h1:G1)(h2:G2)(c:dR G1->dR G2->G:=by intro hgo hgi;(repeat (first|refine dB ?_|(refine iy ?_;(try clear Y);intro p w Y)|(refine qx ?_;(try clear Y);intro w Y)|(refine fR ?_;(try clear Y);intro s w Y)));refine jy ?_ ?_;rotate_left;revert w;exact hgi.out;revert w;exact hgo.out):G:=c ⟨h1⟩ ⟨h2⟩
def MD (h1:G1)(h2:G2)(c:dR G1->dR G2->G:=by intro hgo hgi;(repeat (first|refine Kx ?_|(refine iy ?_;(try clear Y);intro p w Y)|(refine qx ?_;(try clear Y);intro w Y)|(refine fR ?_;(try clear Y);intro s w Y)));refine jy ?_ ?_;rotate_left;revert p w;exact hgi.out;revert p w;exact hgo.out):G:=c ⟨h1⟩ ⟨h2⟩
def AE (h1:G1)(h2:G2)(c:dR G1->dR G2->G:=by intro hgo hgi;rintro _ w' ⟨rfl,an⟩;replace Y:=Y.cr an;clear an;refine⟨_,rfl,?_⟩;(repeat refine dB ?_);refine jy ?_ ?_;rotate_left;revert w';exact hgi.out;revert w';exact hgo.out):G:=c ⟨h1⟩ ⟨h2⟩
def j7 (h:G')(c:dR G'->G:=by intro hgo;rintro _ w' ⟨rfl,an⟩;replace Y:=Y.cr an;clear an;refine⟨_,rfl,?_⟩;revert w';exact hgo.out):G:=c ⟨h⟩
def qM (h:G')(c:dR G'->G:=by intro hgo;replace Y:=Y.call an;refine⟨_,rfl,?_⟩;revert Y;exact hgo.out):G:=c ⟨h⟩
def aI (h:G')(c:dR G'->G:=by intro hgo;replace Y:=Y.cr an;refine⟨_,rfl,?_⟩;revert Y;exact hgo.out):G:=c ⟨h⟩
def aL (h:G')(c:dR G'->G:=by intro hgo;replace Y:=Y.mu an;refine⟨_,rfl,?_⟩;revert Y;exact hgo.out):G:=c ⟨h⟩
def iL (h:G')(c:dR G'->G:=by intro hgo;replace Y:=Y.uQ an;refine⟨_,rfl,?_⟩;revert Y;exact hgo.out):G:=c ⟨h⟩
def bB {P:Program}{f:FuncId}{fn:Func}{c:Code}{args:List Value}{w:World}(hm:P.follows .mixedOrders=true)(C:P.funcs[f]? = some fn)(h:vc P c (mz P fn fun v w'=>R (.returned v) w') (vK args) w)(S:fn.body=some c:=by exact rfl)(q:mV fn.ntmps c=true:=by kernel_rfl)(V:args.length<=fn.ntmps:=by exact fX rfl):Calls P f args.toArray w R:=Xl hm C S q V h
def aV {ρ c:Fr}(h:ia W_ c ρ:=by repeat (first|exact P6|(apply P7 rfl)|(apply XC rfl)|(apply P8 rfl))):ia W_ c ρ:=h
end
end Go.Sl
