/- Several texts. -/
import Derived.Test.YtmapkjoefdgjfaaGreatDoorRows
import Derived.Test.YtmapkjoefdgjfaaGreatDoorMTA
import Derived.Test.YtmapkjoefdgjfaaGreatDoorTypes
import Derived.ProofKit
import Derived.ChangeOld
import Derived.Carry
import Derived.OpenShut
import Derived.Shelf.Strconv.Itoa3
import Derived.Lib.AppendIntMem
import Derived.Test.YtmapkjoefdgjfaaGreatDoorTie
import Derived.Test.YtmapkjoefdgjfaaGreatDoorCards
import Derived.LaidMore
import Derived.LaidHandle
import Derived.Lib.LaidTab
import Derived.Stop.Joined
import Derived.SevenTiedAt
import Derived.Shelf.Strings.Builder1
set_option linter.unusedSimpArgs false
set_option linter.unusedVariables false
set_option maxRecDepth 8000
set_option maxHeartbeats 16000000
open List Nat
namespace Go.Proofs.YtmapkjoefdgjfaaGreatDoor
section
open Go.Sl Go.ChangeShapes Go.WideShapes Go.ChangeAt Go.RowKit
theorem own:ownKnob Tryz.prog.godebug=none:=kr
theorem laidOut:laidOutB Tryz.prog=true:=kr
theorem x5:Tryz.prog.cellsOf 3=1:=kr
theorem qpa:Tryz.prog.cellsOf 9=1:=kr
theorem qdp:Tryz.prog.cellsOf 63=2:=kr
theorem qdN:Tryz.prog.cellsOf 23=1:=kr
theorem qjD:Tryz.prog.cellsOf 61=3:=kr
theorem qnH:Tryz.prog.cellsOf 42=1:=kr
theorem qms:Tryz.prog.cellsOf 44=4:=kr
theorem qpb:Tryz.prog.cellsOf 24=1:=kr
theorem qhs:Tryz.prog.cellsOf 22=1:=kr
theorem qnI:Tryz.prog.cellsOf 26=4:=kr
section
variable {H:Type}{enc:TypeId × Value->H}{w:World}{base:Nat}{spare:Nat->Bool}{held:Bool}
theorem qlc:Rd enc Tryz.prog w base spare held 63 aq fun _=>True:=by
 intro fuel cs y h;have hl:=qnw (i:=0) inferInstance qdp h
 match cs,hl with
 | [c0,c1],_ =>
  obtain⟨_,_,h0⟩:=rr (i:=0) inferInstance x5 h;obtain⟨_,_,h1⟩:=rr (i:=1) inferInstance x5 h;obtain⟨x0,e0,_⟩:=x6 Tryz.underlying3 _ _ _ h0;obtain⟨x1,e1,_⟩:=x6 Tryz.underlying3 _ _ _ h1;simp[aa]at e0 e1;subst e0 e1;exact⟨⟨x0,x1⟩,rfl,trivial⟩
theorem qvO:Rd enc Tryz.prog w base spare held 61 aR fun x=>∃ e,CS w x e:=by
 intro fuel cs y h;have hl:=qnw (i:=0) inferInstance qjD h
 match cs,hl with
 | [c0,c1,c2],_ =>
  obtain⟨_,_,h0⟩:=rr (i:=0) inferInstance qdN h;obtain⟨_,_,h1⟩:=rr (i:=1) inferInstance x5 h;obtain⟨_,_,h2⟩:=rr (i:=2) inferInstance x5 h;obtain⟨a,e0,f,hf,_⟩:=x7 Tryz.underlying23 qdp (by decide) qlc _ _ _ h0;obtain⟨x1,e1,_⟩:=x6 Tryz.underlying3 _ _ _ h1;obtain⟨x2,e2,_⟩:=x6 Tryz.underlying3 _ _ _ h2;simp[aa,al]at e0 e1 e2;subst e0 e1 e2;exact⟨⟨c0,x1,x2⟩,rfl,⟨f,x1,x2⟩,rfl,rfl,hf⟩
theorem qdO {α β:Type}{Q:α->β->Prop}:∀ (xs:List α),(∀ x∈xs,∃ y,Q x y)->∃ ys:List β,xs.length=ys.length/\∀ (i:Nat) x y,xs[i]? = some x->ys[i]? = some y->Q x y
 | [],_=>⟨[],rfl,by simp⟩
 | x::xs,h=>by
  obtain⟨ys,hl,hq⟩:=qdO xs fun x hx=>h x (by simp[hx]);obtain⟨y,hy⟩:=h x (by simp);refine⟨y::ys,by simp[hl],fun i a b ha hb=>?_⟩
  cases i with
  | zero=>simp at ha hb;subst ha hb;exact hy
  | succ i=>simp at ha hb;exact hq i a b ha hb
theorem quF {s:Value}{vs:List Bw}(hs:RS aR w s vs) (h:∀ x∈vs,∃ e,CS w x e):∃ es,B2 w s vs es:=by
 obtain⟨es,hl,hq⟩:=qdO vs h;refine⟨es,hs,hl,fun i hi=>?_⟩;rw[n0];exact hq i _ _ (by simp[List.getD,show i<vs.length by omega]) (by simp[List.getD,hi])
theorem qwt:Rd enc Tryz.prog w base spare held 44 bJ fun x=>∃ o,Cm w x o:=by
 intro fuel cs y h;have hl:=qnw (i:=0) inferInstance qms h
 match cs,hl with
 | [c0,c1,c2,c3],_ =>
  obtain⟨_,_,h0⟩:=rr (i:=0) inferInstance qpa h;obtain⟨_,_,h1⟩:=rr (i:=1) inferInstance x5 h;obtain⟨_,_,h2⟩:=rr (i:=2) inferInstance qdN h;obtain⟨_,_,h3⟩:=rr (i:=3) inferInstance qnH h;obtain⟨x1,e1,_⟩:=x6 Tryz.underlying3 _ _ _ h1;obtain⟨a2,e2,f,hf,_⟩:=x7 Tryz.underlying23 qdp (by decide) qlc _ _ _ h2;obtain⟨a3,e3,xs,hx,hg⟩:=x7 Tryz.underlying42 qjD (by decide) qvO _ _ _ h3;obtain⟨nm,e0,_,jH⟩:=DataW.trod_string Tryz.underlying9 h0;simp[aa,al]at e0 e1 e2 e3;subst e0 e1 e2 e3;obtain⟨es,eE⟩:=quF hx hg;exact⟨⟨nm,x1,c2,c3⟩,rfl,⟨nm,x1,f,es⟩,rfl,jH,rfl,hf,xs,eE⟩
theorem qvP {s:Value}{vs:List AK}(hs:RS bJ w s vs) (h:∀ x∈vs,∃ o,Cm w x o):∃ os,CT w s vs os:=by
 obtain⟨os,hl,hq⟩:=qdO vs h;refine⟨os,hs,hl,fun i hi=>?_⟩;rw[n0];exact hq i _ _ (by simp[List.getD,show i<vs.length by omega]) (by simp[List.getD,hi])
set_option maxRecDepth 100000 in
theorem quG {v:Value}{r:Reach}{b0:Nat}{d:DataW H}{p:List MemPlace}(hv:Value.okWide Tryz.prog w r b0 26 v) (h:DataW.Trod enc Tryz.prog w base spare held 26 v d p) :
  ∃ a b c d vs t,v=.agg #[a,b,c,d]/\Am w a b c d vs t:=by
 obtain⟨cs,rfl,_⟩:=okWide_struct Tryz.underlying26 hv;obtain⟨fuel,h⟩:=h;obtain⟨l⟩:=cs;have hl:=qnw (i:=0) inferInstance qnI h;simp only[Value.cells]at hl h
 match l,hl with
 | [c0,c1,c2,c3],_ =>
  obtain⟨_,_,h0⟩:=rr (i:=0) inferInstance qhs h;obtain⟨_,_,h1⟩:=rr (i:=1) inferInstance qhs h;obtain⟨_,_,h2⟩:=rr (i:=2) inferInstance qdN h;obtain⟨_,_,h3⟩:=rr (i:=3) inferInstance qpb h;obtain⟨a0,e0,vars,qwu,_⟩:=x7 Tryz.underlying22 x5 (by decide) (x6 Tryz.underlying3) _ _ _ h0;obtain⟨a1,e1,aY,qyb,_⟩:=x7 Tryz.underlying22 x5 (by decide) (x6 Tryz.underlying3) _ _ _ h1;obtain⟨a2,e2,f,hf,_⟩:=x7 Tryz.underlying23 qdp (by decide) qlc _ _ _ h2;obtain⟨a3,e3,xs,hx,hg⟩:=x7 Tryz.underlying24 qms (by decide) qwt _ _ _ h3;simp[al]at e0 e1 e2 e3;subst e0 e1 e2 e3;obtain⟨os,ui⟩:=qvP hx hg;exact⟨c0,c1,c2,c3,xs,⟨vars,aY,f,os⟩,rfl,qwu,qyb,hf,ui⟩
end
end
section
open Go.Sl Go Go.Shelf Go.Sort
def qxY:Ren:=⟨rl [129,133,171,192,243,210,246,224,283,229,284,230,285,231,286,232,317,234,318,235,319,236,320,237,337,238,338,162],rl [0,0,2,2,3,3,4,4,5,5,9,9,20,20,37,295,46,175,51,218,53,220,171,326,173,328,212,332,213,333,232,334,233,282],rl [17,1,18,2,19,0]⟩
set_option maxRecDepth 100000 in
theorem qxZ:LaysM.n171 Tryz.prog qxY:=by constructor<;>first|exact mixed|kernel_rfl|(intro w;kernel_rfl)|(constructor<;>first|exact mixed|kernel_rfl|(intro w;kernel_rfl))
def Bv (w:World):Prop:=Lib.TabIs Tryz.prog w "internal/strconv.uint64pow10" .u64 Lib.pow10Tab
theorem Bv.at {w0 w:World}{Γ:List HP}(h:Bv w0) (hw:Sat w0 w Γ):Bv w:=Lib.tabBelow_of_tabIs h w hw.below
def kH (n:Int):ByteArray:=⟨(fS n).toArray⟩
set_option maxRecDepth 100000 in
theorem qg0 {w0:World}{n:Int}(hT:Bv w0) (h0 : -9223372036854775808<=n) (h1:n<=9223372036854775807) :
  Calls Tryz.prog 192 #[.int .i64 n] w0 fun e w'=>e=.returned (.string (kH n))/\Sat w0 w' []:=by
 have h:=Any.strconv_Itoa qxZ n h0 h1 w0 hT;refine Calls.mono h ?_;rintro e w' ⟨he,k,os,rfl⟩;exact⟨he,((Sat.start w0).ahead k).grow os⟩
end
section
open Go.Sl Go
def mJ:List (String × DataW Unit):=[("math/bits.deBruijn32tab", Rows.laid_math_bits_deBruijn32tab), ("math/bits.deBruijn64tab", Rows.laid_math_bits_deBruijn64tab), ("internal/strconv.uint64pow10", Rows.laid_internal_strconv_uint64pow10)]
theorem qgZ {P:Program}{x:String × DataW Unit}{rest:List (String × DataW Unit)}{W:World}(h:laidMet P (x::rest) W):laidMet P rest W:=by
 obtain⟨n,d⟩:=x;obtain⟨ps,⟨g',t',cs,fuel,p,q,oy,eF,qz7,hd,h1,h2⟩,fe,bZ⟩:=h;subst h2;exact⟨q,h1,(nodup_append.1 fe).2.1,fun b off hm=>bZ b off (mem_append_right _ hm)⟩
theorem qtA (os:Os) (args:Array Value):laidMetH Tryz.prog mJ ((World.doorLaid Tryz.prog 14 os).forCall (fun _ _=>0) ⟨#[],args,[]⟩).memory :=
 laidMetH_of_parts3 (fuel:=8) (laidMet_of_run' 8 kr kr) kr kr
theorem qvH {W:World}(h:laidMetH Tryz.prog mJ W):Bv W:=by
 rw[MakeChecks.laidMetH_plain _ _ _ kr]at h;exact Lib.tabIs_of_head (rest:=[]) (g:=Tryz.prog.globalNamed "internal/strconv.uint64pow10" |>.getD 0) (t := (Tryz.prog.globals[Tryz.prog.globalNamed "internal/strconv.uint64pow10" |>.getD 0]?.map (·.type)).getD 0) (e := 220) (n := Lib.pow10Tab.length) kr kr kr kr kr kr (qgZ (qgZ h))
end
section
open Go.Sl Go
attribute [local irreducible] vc opsW opsD opV opW PureV ReadV Thn Blk
instance qxo:Ce Tryz.prog 220 .u64:=⟨kr⟩
instance qxp:Ce Tryz.prog 3 .i64:=⟨kr⟩
instance qxq:Ce Tryz.prog 5 .u8:=⟨kr⟩
instance qxr:C7 Tryz.prog 282 64:=⟨5,kr,fun w=>kr⟩
def oY:List Int:=[0,1,56,2,57,49,28,3,61,58,42,50,38,29,17,4,62,47,59,36,45,43,51,22,53,39,33,30,24,18,12,5,63,55,48,27,60,41,37,16,46,35,44,21,52,32,23,11,54,26,40,15,34,20,31,10,25,14,19,9,13,8,7,6]
def Bp (w:World):Prop:=AD w ⟨0,0,none⟩ (oY.map (Value.int .u8))
theorem Bp.at {w0 w:World}{Γ:List HP}(h:Bp w0) (hw:Sat w0 w Γ):Bp w:=AD.at h hw
theorem qwg:∀ v:Nat,v<64->oY[2 ^ v*285870213051353865 % 18446744073709551616 / 2 ^ 58]? = some (v:Int):=by decide +kernel
theorem Bp.cell {w:World}(h:Bp w) {v:Nat}(hv:v<64):w.cell? ((⟨0,0,none⟩:Addr).add ((2 ^ v*285870213051353865 % 18446744073709551616 / 2 ^ 58:Nat):Int).toNat)=some (.int .u8 (v:Int)):=by
 refine h _ _ ?_;rw[Int.toNat_natCast,getElem?_map,qwg v hv];rfl
theorem ra {w0 w:World}{Γ:List HP}{x v:Nat}(hw:Sat w0 w Γ) (hT:Bp w0) (hx:x<18446744073709551616) (hl:Dj x v) :
  Calls Tryz.prog 162 #[u64 x] w fun e w'=>e=.returned (.int .i64 (v:Int))/\w'=w:=by
 have lq:=hT.at hw;have hv:v<64:=qvZ hl hx;have h0:0<x:=Nat.pos_of_ne_zero fun e=>by have:=hl.1;subst e;simp[ib]at this
 have hc:=lq.cell hv;have o9:decide ((x:Int)=0)=false:=decide_eq_false om;have hng:x &&& (18446744073709551616-x)=2 ^ v:=qvb hl hx;have zj:2 ^ v*285870213051353865 % 18446744073709551616 / 2 ^ 58<64:=by
  have:2 ^ v*285870213051353865 % 18446744073709551616<18446744073709551616:=mod_lt _ (by decide);exact Nat.div_lt_of_lt_mul om
 refine bn (args:=[u64 x]) mixed Tryz.func162 ?_;refine me ?_;simp only[o9];refine ab ?_;refine eD rfl (qsU (a:=x) rfl h0 hx) ?_;refine eD rfl (vR (a:=x) (b:=18446744073709551616-x) rfl rfl hx om) ?_;rw[hng];refine eD rfl (qsT (a:=2 ^ v) (b:=285870213051353865) rfl rfl) ?_;refine eD rfl (qiS (a:=2 ^ v*285870213051353865 % 18446744073709551616) (b:=58) (k:=.u64) rfl rfl (by decide)) ?_;refine eD rfl (zh (n:=64) (j:=((2 ^ v*285870213051353865 % 18446744073709551616 / 2 ^ 58:Nat):Int)) rfl rfl (Int.natCast_nonneg _) om) ?_;refine sq rfl (sF rfl hc) ?_;refine eD rfl (qu3 (ks:=.u8) (n:=(v:Int)) rfl om om) ?_;refine ab ?_;exact aW (v:=.int .i64 (v:Int)) rfl rfl ⟨rfl,rfl⟩
theorem qrR {w:World}{x:Nat}(hx:x<18446744073709551616) :
  Calls Tryz.prog 163 #[u64 x] w fun e w'=>(∃ k:Int,e=.returned (.int .i64 k)/\0<=k/\k<=127)/\w'=w:=by
 have hw:=Sat.start w;refine bn (args:=[u64 x]) mixed Tryz.func163 ?_
 repeat (first|refine bV ?_|(refine qvh rfl rfl (by assumption) (by decide) ?_;intro v hv)|(refine qvi rfl rfl (by assumption) (by first|assumption|decide) ?_;intro v hv)|(refine qvj rfl rfl ?_;intro v hv)|(refine qsV rfl rfl ?_;intro z)|(refine qsW rfl rfl ?_;intro z ml hz1))
 exact aW (v:=.int .i64 z) rfl rfl ⟨⟨z,rfl,ml,hz1⟩,rfl⟩
end
section
open Go.Sl Go
theorem qvK {W:World}(h:laidMetH Tryz.prog mJ W):Bp W:=by
 rw[MakeChecks.laidMetH_plain _ _ _ kr]at h;have ht:Lib.TabIs Tryz.prog W "math/bits.deBruijn64tab" .u8 oY := Lib.tabIs_of_head (rest := [("internal/strconv.uint64pow10", Rows.laid_internal_strconv_uint64pow10)]) (g := 0) (t := 282) (e := 5) (n := 64) kr kr kr kr kr kr (qgZ h);intro j v hv;rw[getElem?_map,Option.map_eq_some_iff]at hv;obtain⟨z,hz,rfl⟩:=hv;have hj:j<oY.length:=by
  rcases Nat.lt_or_ge j oY.length with h|h
  ·exact h
  ·rw[getElem?_eq_none h]at hz;cases hz
 have hc:=ht.cell (g:=0) kr j hj;have e:(⟨0,0,none⟩:Addr).add j=⟨0,j,none⟩:=by
  unfold Addr.add;split
  ·rename_i h0;subst h0;rfl
  ·simp
 rw[e,hc];simp[List.getD,hz]
end
section
open Go.Sl Go Go.Shelf
attribute [local irreducible] vc opsW opsD opV opW PureV ReadV Thn Blk
def qxJ:Ren:=⟨rl [240,209,276,223],rl [0,0,37,295,4,4,9,9,20,20,70,294,72,297,164,320,5,5],fun k=>k⟩
set_option maxRecDepth 100000 in
theorem qxK:Lays.n240 Tryz.prog qxJ:=by constructor<;>first|exact mixed|kernel_rfl|(intro w;kernel_rfl)
theorem xK:Builder.X72 Tryz.prog qxJ:=⟨kr,kr⟩
theorem qoZ {w0 w:World}{Γ:List HP}{p:Addr}{a:Option Addr}{sv:Value}(hw:Sat w0 w (Ad p 297 [.pointer a,sv]::Γ)) (ha:a=none\/a=some p) :
  Calls Tryz.prog 209 #[.pointer (some p)] w fun e w'=>e=.returned (.tuple #[])/\Sat w0 w' (Ad p 297 [.pointer (some p),sv]::Γ):=by
 obtain⟨hp,hc,sd,hfz⟩:=hw.yr;rw[hp]at hc hfz ha ⊢;rcases ha with rfl|rfl
 ·refine Calls.mono (Any.Builder_copyCheck_fresh qxK xK p.block w hc sd hfz) ?_
  rintro e w' ⟨he,rfl⟩;rw[hp]at hw;exact⟨he,hw.tb⟩
 ·refine Calls.mono (Any.Builder_copyCheck_used qxK xK p.block w hc) ?_
  rintro e w' ⟨he,rfl⟩;rw[hp]at hw;exact⟨he,hw⟩
instance qzC:Ae Tryz.prog 209:=⟨kr⟩
instance qzD:Ae Tryz.prog 191:=⟨kr⟩
instance qzE:Ae Tryz.prog 194:=⟨kr⟩
theorem qnG {w0 w:World}{Γ:List HP}{p:Addr}{a:Option Addr}{sv:Value}{l:List UInt8}{b:ByteArray}(hw:Sat w0 w (Ad p 297 [.pointer a,sv]::OS dQ 5 sv (bP l)::Γ)) (ha:a=none\/a=some p) (hl:l.length<=1073741824) (hb:b.size<=1073741824) :
  Calls Tryz.prog 191 #[.pointer (some p),.string b] w fun e w'=>(∃ v,e=.returned v)/\∃ sv',Sat w0 w' (Ad p 297 [.pointer (some p),sv']::OS dQ 5 sv' (bP (l++b.data.toList))::Γ):=by
 refine bn (args:=[.pointer (some p),.string b]) mixed Tryz.func191 ?_;refine ab ?_;refine aJ rfl (qoZ hw ha) ?_;rintro _ w' ⟨rfl,dA⟩;clear hw;have hw:=dA;clear dA;refine⟨_,rfl,?_⟩;have iH:b.data.toList.length=b.size:=rfl;have h1:(bP l).length=l.length:=by simp[bP]
 have h2:(bP b.data.toList).length=b.size:=by simp[bP]
 refine ab ?_;refine qnV (s:=sv) (ys:=bP b.data.toList) inferInstance rfl rfl rfl rfl rfl om (by unfold bo;omega) hw ?_;clear hw;intro s w hw;refine fy ?_;intro w hw;have e:bP (l++b.data.toList)=bP l++bP b.data.toList:=by simp[bP]
 exact dz (v:=.int .i64 (b.size:Nat)) (v':=.nilIface) rfl rfl rfl ⟨⟨_,rfl⟩,s,by rw[e];exact hw⟩
theorem qr0 {w0 w:World}{Γ:List HP}{p:Addr}{a:Value}{sv:Value}{l:List UInt8}(hw:Sat w0 w (Ad p 297 [a,sv]::OS dQ 5 sv (bP l)::Γ)) (h0:l≠[]) (hl:l.length<=1073741824) :
  Calls Tryz.prog 194 #[.pointer (some p)] w fun e w'=>e=.returned (.string ⟨l.toArray⟩)/\Sat w0 w' Γ:=by
 obtain⟨b,off,cap,rfl,hlc,_⟩:=hw.bytes (i:=1) rfl h0;have lA:cap≠0:=by
  cases l with
  | nil=>exact absurd rfl h0
  | cons x r=>simp only[length_cons]at hlc;omega
 have iH:(bP l).length=l.length:=by simp[bP]
 refine bn (args:=[.pointer (some p)]) mixed Tryz.func194 ?_;refine ab ?_;refine fP (pl [0,1,2,3,5,6,7,8,9,4] (.chk 8::pl [10,11] [])) hw kr ?_;clear hw;intro w hw;refine ab ?_;refine qjS rfl lA ?_;refine ab ?_;rw[iH];refine qjT (e:=5) (i:=1) (l:=l) (b:=b) (off:=off) kr kr rfl rfl rfl h0 om hw rfl ?_;clear hw;intro w hw;refine ab ?_;exact aW (v:=.string ⟨l.toArray⟩) rfl rfl ⟨rfl,hw.tail.tail⟩
end
end Go.Proofs.YtmapkjoefdgjfaaGreatDoor
