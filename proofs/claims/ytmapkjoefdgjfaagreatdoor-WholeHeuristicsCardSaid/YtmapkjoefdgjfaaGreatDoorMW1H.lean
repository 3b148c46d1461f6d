/- Several texts. -/
import Derived.Test.YtmapkjoefdgjfaaGreatDoorRows
import Derived.Test.YtmapkjoefdgjfaaGreatDoorMTAH
import Derived.Test.YtmapkjoefdgjfaaGreatDoorTypesH
import Derived.ProofKit
import Derived.ChangeOld
import Derived.Carry
import Derived.OpenShut
import Derived.Shelf.Strconv.Itoa3
import Derived.Lib.AppendIntMem
import Derived.Test.YtmapkjoefdgjfaaGreatDoorTie
import Derived.Test.YtmapkjoefdgjfaaGreatDoorCards
import Derived.LaidMore
import Derived.LaidHandle
import Derived.Lib.LaidTab
import Derived.Stop.Joined
import Derived.SevenTiedAt
import Derived.Shelf.Strings.Builder1
set_option linter.unusedSimpArgs false
set_option linter.unusedVariables false
set_option linter.defProp false
set_option maxRecDepth 8000
set_option maxHeartbeats 16000000
open List Nat
namespace Go.Proofs.YtmapkjoefdgjfaaGreatDoor
open Go.Sl
variable {w0 m:World}{Γ:List HP}{p:Addr}{sv:Value}{a:Option Addr}{l:List UInt8}
section
open Go.Sl Go.ChangeShapes Go.WideShapes Go.ChangeAt Go.RowKit
def own:ownKnob ak.godebug=none:=kr
def A5:laidOutB ak=true:=kr
def CA:ak.cellsOf 3=1:=kr
def Zz:ak.cellsOf 9=1:=kr
def Ic:ak.cellsOf 63=2:=kr
def LG:ak.cellsOf 23=1:=kr
def Rs:ak.cellsOf 61=3:=kr
def ZA:ak.cellsOf 42=1:=kr
def Rt:ak.cellsOf 44=4:=kr
def ZB:ak.cellsOf 24=1:=kr
def Ru:ak.cellsOf 22=1:=kr
def ZC:ak.cellsOf 26=4:=kr
section
variable {H:Type}{enc:TypeId × Value->H}{w:World}{fC:Nat}{spare:Nat->Bool}{held:Bool}
def LH:Rd enc ak w fC spare held 63 aD fun _=>True:=by
 intro fuel cs y h;have d:=Ie (i:=0) inferInstance Ic h
 match cs,d with
 | [j,c1],_ =>
  obtain⟨_,_,e⟩:=w8 (i:=0) inferInstance CA h;obtain⟨_,_,h1⟩:=w8 (i:=1) inferInstance CA h;obtain⟨f,b,_⟩:=CB Tryz.underlying3 _ _ _ e;obtain⟨g,c,_⟩:=CB Tryz.underlying3 _ _ _ h1;simp[W]at b c;subst b c;exact⟨⟨f,g⟩,rfl,az⟩
def ZD:Rd enc ak w fC spare held 61 bm fun x=>∃ e,sZ w x e:=by
 intro fuel cs y h;have k:=Ie (i:=0) inferInstance Rs h
 match cs,k with
 | [n,c1,c2],_ =>
  obtain⟨_,_,o⟩:=w8 (i:=0) inferInstance LG h;obtain⟨_,_,h1⟩:=w8 (i:=1) inferInstance CA h;obtain⟨_,_,q⟩:=w8 (i:=2) inferInstance CA h;obtain⟨a,b,f,r,_⟩:=CC Tryz.underlying23 Ic dc LH _ _ _ o;obtain⟨c,d,_⟩:=CB Tryz.underlying3 _ _ _ h1;obtain⟨g,j,_⟩:=CB Tryz.underlying3 _ _ _ q;simp[W,aA]at b d j;subst b d j;exact⟨⟨n,c,g⟩,rfl,⟨f,c,g⟩,rfl,rfl,r⟩
def LJ {α β:Type}{Q:α->β->Prop}:∀ (xs:List α),(∀ x∈xs,∃ y,Q x y)->∃ ys:List β,xs.length=ys.length/\∀ (i:Nat) x y,xs[i]? = some x->ys[i]? = some y->Q x y
 | [],_=>⟨[],rfl,sm⟩
 | x::xs,h=>by
  obtain⟨ys,e,hq⟩:=LJ xs fun x hx=>h x (by simp[hx]);obtain⟨y,f⟩:=h x sm;refine⟨y::ys,by simp[e],fun i a b c d=>?_⟩
  cases i with
  | zero=>simp at c d;subst c d;exact f
  | succ i=>simp at c d;exact hq i a b c d
def ZE {s:Value}{vs:List lG}(b:RS bm w s vs)(h:∀ x∈vs,∃ e,sZ w x e):∃ es,mQ w s vs es:=by
 obtain⟨es,c,hq⟩:=LJ vs h;refine⟨es,b,c,fun i d=>?_⟩;rw[oz];exact hq i _ _ (by simp[List.getD,show i<vs.length by omega]) (by simp[List.getD,d])
def G7:Rd enc ak w fC spare held 44 cN fun x=>∃ o,sK w x o:=by
 intro fuel cs y h;have q:=Ie (i:=0) inferInstance Rt h
 match cs,q with
 | [A,c1,c2,r],_ =>
  obtain⟨_,_,t⟩:=w8 (i:=0) inferInstance Zz h;obtain⟨_,_,h1⟩:=w8 (i:=1) inferInstance CA h;obtain⟨_,_,u⟩:=w8 (i:=2) inferInstance LG h;obtain⟨_,_,v⟩:=w8 (i:=3) inferInstance ZA h;obtain⟨d,e,_⟩:=CB Tryz.underlying3 _ _ _ h1;obtain⟨a2,g,f,z,_⟩:=CC Tryz.underlying23 Ic dc LH _ _ _ u;obtain⟨a3,j,xs,hx,I⟩:=CC Tryz.underlying42 Rs dc ZD _ _ _ v;obtain⟨k,n,_,b⟩:=DataW.trod_string Tryz.underlying9 t;simp[W,aA]at n e g j;subst n e g j;obtain⟨es,c⟩:=ZE hx I;exact⟨⟨k,d,c2,r⟩,rfl,⟨k,d,f,es⟩,rfl,b,rfl,z,xs,c⟩
def ZF {s:Value}{vs:List kq}(b:RS cN w s vs)(h:∀ x∈vs,∃ o,sK w x o):∃ os,vE w s vs os:=by
 obtain⟨os,c,hq⟩:=LJ vs h;refine⟨os,b,c,fun i d=>?_⟩;rw[oz];exact hq i _ _ (by simp[List.getD,show i<vs.length by omega]) (by simp[List.getD,d])
set_option maxRecDepth 100000 in
def ZG {v:Value}{r:Reach}{y:Nat}{d:DataW H}{p:List MemPlace}(hv:Value.okWide ak w r y 26 v)(h:DataW.Trod enc ak w fC spare held 26 v d p) :
  ∃ a b c d vs t,v=.agg #[a,b,c,d]/\bR w a b c d vs t:=by
 obtain⟨cs,rfl,_⟩:=okWide_struct Tryz.underlying26 hv;obtain⟨fuel,h⟩:=h;obtain⟨l⟩:=cs;have n:=Ie (i:=0) inferInstance ZC h;simp only[Value.cells]at n h
 match l,n with
 | [z,c1,c2,A],_ =>
  obtain⟨_,_,B⟩:=w8 (i:=0) inferInstance Ru h;obtain⟨_,_,h1⟩:=w8 (i:=1) inferInstance Ru h;obtain⟨_,_,C⟩:=w8 (i:=2) inferInstance LG h;obtain⟨_,_,D⟩:=w8 (i:=3) inferInstance ZB h;obtain⟨a0,o,vars,e,_⟩:=CC Tryz.underlying22 CA dc (CB Tryz.underlying3) _ _ _ B;obtain⟨G,q,j,g,_⟩:=CC Tryz.underlying22 CA dc (CB Tryz.underlying3) _ _ _ h1;obtain⟨a2,u,f,F,_⟩:=CC Tryz.underlying23 Ic dc LH _ _ _ C;obtain⟨a3,x,xs,hx,I⟩:=CC Tryz.underlying24 Rt dc G7 _ _ _ D;simp[aA]at o q u x;subst o q u x;obtain⟨os,k⟩:=ZF hx I;exact⟨z,c1,c2,A,xs,⟨vars,j,f,os⟩,rfl,e,g,F,k⟩
end
end
section
open Go.Sl Go Go.Shelf Go.Sort
def O9:Ren:=⟨rl [129,133,171,192,243,210,246,224,283,229,284,230,285,231,286,232,317,234,318,235,319,236,320,237,337,238,338,162],rl [0,0,2,2,3,3,4,4,5,5,9,9,20,20,37,295,46,175,51,218,53,220,171,326,173,328,212,332,213,333,232,334,233,282],rl [17,1,18,2,19,0]⟩
set_option maxRecDepth 100000 in
def Pa:LaysM.n171 ak O9:=by constructor<;>first|exact ar|kernel_rfl|(intro w;kernel_rfl)|(constructor<;>first|exact ar|kernel_rfl|(intro w;kernel_rfl))
def nF (w:World):Prop:=Lib.TabIs ak w "internal/strconv.uint64pow10" .u64 Lib.pow10Tab
def nF.at {w:World}(h:nF w0)(Y:Z w0 w Γ):nF w:=Lib.tabBelow_of_tabIs h w Y.below
def qh (n:Int):ByteArray:=⟨(kf n).toArray⟩
set_option maxRecDepth 100000 in
def LK {n:Int}(b:nF w0)(c : -9223372036854775808<=n)(h1:n<=9223372036854775807) :
  Calls ak 192 #[E n] w0 fun e w'=>e=.returned (.string (qh n))/\Z w0 w' []:=by
 have h:=Any.strconv_Itoa Pa n c h1 w0 b;refine wh h ?_;rintro e w' ⟨he,k,os,rfl⟩;exact⟨he,((Z.start w0).ahead k).grow os⟩
end
section
open Go.Sl Go
def su:List (String × DataW Unit):=[("math/bits.deBruijn32tab", Rows.laid_math_bits_deBruijn32tab), ("math/bits.deBruijn64tab", Rows.laid_math_bits_deBruijn64tab), ("internal/strconv.uint64pow10", Rows.laid_internal_strconv_uint64pow10)]
def LM {P:Program}{x:String × DataW Unit}{rest:List (String × DataW Unit)}(h:laidMet P (x::rest) m):laidMet P rest m:=by
 obtain⟨n,d⟩:=x;obtain⟨k,⟨o,r,cs,fuel,p,q,g,i,f,t,h1,j⟩,e,c⟩:=h;subst j;exact⟨q,h1,(DY.1 e).2.1,fun b off hm=>c b off (LN _ hm)⟩
def ZH (os:Os)(args:Array Value):laidMetH ak su ((World.doorLaid ak 14 os).forCall (fun _ _=>0) ⟨#[],args,[]⟩).memory :=
 laidMetH_of_parts3 (fuel:=8) (laidMet_of_run' 8 kr kr) kr kr
def ZI (h:laidMetH ak su m):nF m:=by
 rw[MakeChecks.laidMetH_plain _ _ _ kr]at h;exact Lib.tabIs_of_head (rest:=[]) (g:=ak.globalNamed "internal/strconv.uint64pow10" |>.getD 0) (t := (ak.globals[ak.globalNamed "internal/strconv.uint64pow10" |>.getD 0]?.map (·.type)).getD 0) (e := 220) (n := Lib.pow10Tab.length) kr kr kr kr kr kr (LM (LM h))
end
section
open Go.Sl Go
attribute [local irreducible] vc opsW opsD opV opW PureV ReadV Thn Blk
instance Hm:s5 ak 220 .u64:=⟨kr⟩
instance Hn:s5 ak 3 .i64:=⟨kr⟩
instance Ho:s5 ak 5 .u8:=⟨kr⟩
instance Hp:AO ak 282 64:=⟨5,kr,fun w=>kr⟩
def uq:J:=[0,1,56,2,57,49,28,3,61,58,42,50,38,29,17,4,62,47,59,36,45,43,51,22,53,39,33,30,24,18,12,5,63,55,48,27,60,41,37,16,46,35,44,21,52,32,23,11,54,26,40,15,34,20,31,10,25,14,19,9,13,8,7,6]
def nc (w:World):Prop:=eJ w ⟨0,0,none⟩ (uq.map (Value.int .u8))
def nc.at {w0 w:World}{Γ:List HP}(h:nc w0)(Y:Z w0 w Γ):nc w:=eJ.at h Y
def ZJ:∀ v:Nat,v<64->uq[2 ^ v*285870213051353865 % 18446744073709551616 / 2 ^ 58]? = some (v:Int):=by decide +kernel
def nc.cell {w:World}(h:nc w){v:Nat}(hv:v<64):w.cell? ((⟨0,0,none⟩:Addr).add ((2 ^ v*285870213051353865 % 18446744073709551616 / 2 ^ 58:Nat):Int).toNat)=some (.int .u8 (v:Int)):=by
 refine h _ _ ?_;rw[jU,vh,ZJ v hv];rfl
def wM {w:World}{x v:Nat}(Y:Z w0 w Γ)(i:nc w0)(hx:x<18446744073709551616)(c:CD x v) :
  Calls ak 162 #[u64 x] w fun e w'=>e=.returned (E (v:Int))/\w'=w:=by
 have d:=i.at Y;have hv:v<64:=ZK c hx;have o:0<x:=Rv fun e=>by have:=c.1;subst e;simp[ib]at this
 have q:=d.cell hv;have f:decide ((x:Int)=0)=false:=dB U;have g:x &&& (18446744073709551616-x)=2 ^ v:=ZL c hx;have h:2 ^ v*285870213051353865 % 18446744073709551616 / 2 ^ 58<64:=by
  have:2 ^ v*285870213051353865 % 18446744073709551616<18446744073709551616:=DZ _ dc;exact Rx U
 refine bI ar Tryz.func162 ?_;refine rK ?_;simp only[f];refine O ?_;refine fR rfl (ZM (a:=x) rfl o hx) ?_;refine fR rfl (zY (a:=x) (b:=18446744073709551616-x) rfl rfl hx U) ?_;rw[g];refine fR rfl (ZN (a:=2 ^ v) (b:=285870213051353865) rfl rfl) ?_;refine fR rfl (KY (a:=2 ^ v*285870213051353865 % 18446744073709551616) (b:=58) (k:=.u64) rfl rfl dc) ?_;refine fR rfl (CE (n:=64) (j:=((2 ^ v*285870213051353865 % 18446744073709551616 / 2 ^ 58:Nat):Int)) rfl rfl (D0 _) U) ?_;refine r7 rfl (yd rfl q) ?_;refine fR rfl (ZO (ks:=.u8) (n:=(v:Int)) rfl U U) ?_;refine O ?_;exact bo (v:=E (v:Int)) rfl rfl ⟨rfl,rfl⟩
def Yc {w:World}{x:Nat}(hx:x<18446744073709551616) :
  Calls ak 163 #[u64 x] w fun e w'=>(∃ k:Int,e=.returned (E k)/\0<=k/\k<=127)/\w'=w:=by
 have Y:=Z.start w;refine bI ar Tryz.func163 ?_
 repeat (first|refine dS ?_|(refine ZP rfl rfl (by assumption) dc ?_;intro v hv)|(refine ZQ rfl rfl (by assumption) (by first|assumption|decide) ?_;intro v hv)|(refine ZR rfl rfl ?_;intro v hv)|(refine ZU rfl rfl ?_;intro z)|(refine ZV rfl rfl ?_;intro z b c))
 exact bo (v:=E z) rfl rfl ⟨⟨z,rfl,b,c⟩,rfl⟩
end
section
open Go.Sl Go
def ZW (h:laidMetH ak su m):nc m:=by
 rw[MakeChecks.laidMetH_plain _ _ _ kr]at h;have c:Lib.TabIs ak m "math/bits.deBruijn64tab" .u8 uq := Lib.tabIs_of_head (rest := [("internal/strconv.uint64pow10", Rows.laid_internal_strconv_uint64pow10)]) (g := 0) (t := 282) (e := 5) (n := 64) kr kr kr kr kr kr (LM h);intro j v hv;rw[vh,Option.map_eq_some_iff]at hv;obtain⟨z,b,rfl⟩:=hv;have d:j<uq.length:=by
  rcases pB j uq.length with h|h
  ·exact h
  rw[xS h]at b;cases b
 have f:=c.cell (g:=0) kr j d;have e:(⟨0,0,none⟩:Addr).add j=⟨0,j,none⟩:=by
  unfold Addr.add;split
  ·rename_i i;subst i;rfl
  simp
 rw[e,f];simp[List.getD,b]
end
section
open Go.Sl Go Go.Shelf
attribute [local irreducible] vc opsW opsD opV opW PureV ReadV Thn Blk
def GO:Ren:=⟨rl [240,209,276,223],rl [0,0,37,295,4,4,9,9,20,20,70,294,72,297,164,320,5,5],fun k=>k⟩
set_option maxRecDepth 100000 in
def GP:Lays.n240 ak GO:=by constructor<;>first|exact ar|kernel_rfl|(intro w;kernel_rfl)
def BY:Builder.X72 ak GO:=⟨kr,kr⟩
def ZX {w:World}(Y:Z w0 w (am p 297 [.pointer a,sv]::Γ))(g:a=none\/a=some p) :
  Calls ak 209 #[.pointer (some p)] w fun e w'=>e=.returned (.tuple #[])/\Z w0 w' (am p 297 [.pointer (some p),sv]::Γ):=by
 obtain⟨c,d,f,b⟩:=Y.Dp;rw[c]at d b g ⊢;rcases g with rfl|rfl
 ·refine wh (Any.Builder_copyCheck_fresh GP BY p.block w d f b) ?_
  rintro e w' ⟨he,rfl⟩;rw[c]at Y;exact⟨he,Y.zn⟩
 refine wh (Any.Builder_copyCheck_used GP BY p.block w d) ?_;rintro e w' ⟨he,rfl⟩;rw[c]at Y;exact⟨he,Y⟩
instance Pt:au ak 209:=⟨kr⟩
instance Pu:au ak 191:=⟨kr⟩
instance Pv:au ak 194:=⟨kr⟩
def Ry {w:World}{b:ByteArray}(Y:Z w0 w (am p 297 [.pointer a,sv]::X gB 5 sv (dq l)::Γ))(d:a=none\/a=some p)(g:l.length<=1073741824)(h:b.size<=1073741824) :
  Calls ak 191 #[.pointer (some p),.string b] w fun e w'=>(∃ v,e=.returned v)/\∃ c,Z w0 w' (am p 297 [.pointer (some p),c]::X gB 5 c (dq (l++b.data.toList))::Γ):=by
 refine bI ar Tryz.func191 ?_;refine O ?_;refine aR rfl (ZX Y d) ?_;rintro _ w' ⟨rfl,c⟩;clear Y;have Y:=c;clear c;refine⟨_,rfl,?_⟩;have f:b.data.toList.length=b.size:=rfl;have h1:(dq l).length=l.length:=by simp[dq]
 have i:(dq b.data.toList).length=b.size:=by simp[dq]
 refine O ?_;refine ZY (s:=sv) (ys:=dq b.data.toList) inferInstance rfl rfl rfl rfl rfl U (by unfold cn;omega) Y ?_;clear Y;intro s w Y;refine jD ?_;intro w Y;have e:dq (l++b.data.toList)=dq l++dq b.data.toList:=by simp[dq]
 exact dw (v:=E (b.size:Nat)) (v':=.nilIface) rfl rfl rfl ⟨⟨_,rfl⟩,s,by rw[e];exact Y⟩
def ZZ {w:World}{a:Value}(Y:Z w0 w (am p 297 [a,sv]::X gB 5 sv (dq l)::Γ))(c:l≠[])(h:l.length<=1073741824) :
  Calls ak 194 #[.pointer (some p)] w fun e w'=>e=.returned (.string ⟨l.toArray⟩)/\Z w0 w' Γ:=by
 obtain⟨b,off,cap,rfl,d,_⟩:=Y.bytes (i:=1) rfl c;have f:cap≠0:=by
  cases l with
  | nil=>exact absurd rfl c
  | cons x r=>simp only[length_cons]at d;omega
 have g:(dq l).length=l.length:=by simp[dq]
 refine bI ar Tryz.func194 ?_;refine O ?_;refine gi (pl [0,1,2,3,5,6,7,8,9,4] (.cY 8::pl [10,11] [])) Y kr ?_;clear Y;intro w Y;refine O ?_;refine Z0 rfl f ?_;refine O ?_;rw[g];refine Z1 (e:=5) (i:=1) (l:=l) (b:=b) (off:=off) kr kr rfl rfl rfl c U Y rfl ?_;clear Y;intro w Y;refine O ?_;exact bo (v:=.string ⟨l.toArray⟩) rfl rfl ⟨rfl,Y.tail.tail⟩
end
end Go.Proofs.YtmapkjoefdgjfaaGreatDoor
