/- Several texts. -/
import Derived.Test.YtmapkjoefdgjfaaGreatDoorRows
import Derived.Test.YtmapkjoefdgjfaaGreatDoorMTAE
import Derived.Test.YtmapkjoefdgjfaaGreatDoorTypesE
import Derived.ProofKit
import Derived.ChangeOld
import Derived.Carry
import Derived.OpenShut
import Derived.Shelf.Strconv.Itoa3
import Derived.Lib.AppendIntMem
import Derived.Test.YtmapkjoefdgjfaaGreatDoorTie
import Derived.Test.YtmapkjoefdgjfaaGreatDoorCards
import Derived.LaidMore
import Derived.LaidHandle
import Derived.Lib.LaidTab
import Derived.Stop.Joined
import Derived.SevenTiedAt
import Derived.Shelf.Strings.Builder1
set_option linter.unusedSimpArgs false
set_option linter.unusedVariables false
set_option linter.defProp false
set_option maxRecDepth 8000
set_option maxHeartbeats 16000000
open List Nat
namespace Go.Proofs.YtmapkjoefdgjfaaGreatDoor
open Go.Sl
variable {w0 m:World}{Γ:List HP}{p:Addr}{sv:Value}{a:Option Addr}{l:List UInt8}
section
open Go.Sl Go.ChangeShapes Go.WideShapes Go.ChangeAt Go.RowKit
def own:ownKnob ai.godebug=none:=kr
def rQ:laidOutB ai=true:=kr
def zR:ai.cellsOf 3=1:=kr
def WM:ai.cellsOf 9=1:=kr
def Gt:ai.cellsOf 63=2:=kr
def JX:ai.cellsOf 23=1:=kr
def O6:ai.cellsOf 61=3:=kr
def WN:ai.cellsOf 42=1:=kr
def O7:ai.cellsOf 44=4:=kr
def WO:ai.cellsOf 24=1:=kr
def O8:ai.cellsOf 22=1:=kr
def WP:ai.cellsOf 26=4:=kr
section
variable {H:Type}{enc:TypeId × Value->H}{w:World}{eL:Nat}{spare:Nat->Bool}{held:Bool}
def JY:Rd enc ai w eL spare held 63 aq fun _=>True:=by
 intro fuel cs y h;have d:=Gu (i:=0) inferInstance Gt h
 match cs,d with
 | [j,c1],_ =>
  obtain⟨_,_,e⟩:=vD (i:=0) inferInstance zR h;obtain⟨_,_,h1⟩:=vD (i:=1) inferInstance zR h;obtain⟨f,b,_⟩:=zS Tryz.underlying3 _ _ _ e;obtain⟨g,c,_⟩:=zS Tryz.underlying3 _ _ _ h1;simp[W]at b c;subst b c;exact⟨⟨f,g⟩,rfl,az⟩
def WQ:Rd enc ai w eL spare held 61 aV fun x=>∃ e,rm w x e:=by
 intro fuel cs y h;have k:=Gu (i:=0) inferInstance O6 h
 match cs,k with
 | [n,c1,c2],_ =>
  obtain⟨_,_,o⟩:=vD (i:=0) inferInstance JX h;obtain⟨_,_,h1⟩:=vD (i:=1) inferInstance zR h;obtain⟨_,_,q⟩:=vD (i:=2) inferInstance zR h;obtain⟨a,b,f,r,_⟩:=zT Tryz.underlying23 Gt dc JY _ _ _ o;obtain⟨c,d,_⟩:=zS Tryz.underlying3 _ _ _ h1;obtain⟨g,j,_⟩:=zS Tryz.underlying3 _ _ _ q;simp[W,ap]at b d j;subst b d j;exact⟨⟨n,c,g⟩,rfl,⟨f,c,g⟩,rfl,rfl,r⟩
def JZ {α β:Type}{Q:α->β->Prop}:∀ (xs:List α),(∀ x∈xs,∃ y,Q x y)->∃ ys:List β,xs.length=ys.length/\∀ (i:Nat) x y,xs[i]? = some x->ys[i]? = some y->Q x y
 | [],_=>⟨[],rfl,sm⟩
 | x::xs,h=>by
  obtain⟨ys,e,hq⟩:=JZ xs fun x hx=>h x (by simp[hx]);obtain⟨y,f⟩:=h x sm;refine⟨y::ys,by simp[e],fun i a b c d=>?_⟩
  cases i with
  | zero=>simp at c d;subst c d;exact f
  | succ i=>simp at c d;exact hq i a b c d
def WR {s:Value}{vs:List jQ}(b:RS aV w s vs)(h:∀ x∈vs,∃ e,rm w x e):∃ es,j8 w s vs es:=by
 obtain⟨es,c,hq⟩:=JZ vs h;refine⟨es,b,c,fun i d=>?_⟩;rw[nt];exact hq i _ _ (by simp[List.getD,show i<vs.length by omega]) (by simp[List.getD,d])
def Fk:Rd enc ai w eL spare held 44 cd fun x=>∃ o,oG w x o:=by
 intro fuel cs y h;have q:=Gu (i:=0) inferInstance O7 h
 match cs,q with
 | [A,c1,c2,r],_ =>
  obtain⟨_,_,t⟩:=vD (i:=0) inferInstance WM h;obtain⟨_,_,h1⟩:=vD (i:=1) inferInstance zR h;obtain⟨_,_,u⟩:=vD (i:=2) inferInstance JX h;obtain⟨_,_,v⟩:=vD (i:=3) inferInstance WN h;obtain⟨d,e,_⟩:=zS Tryz.underlying3 _ _ _ h1;obtain⟨a2,g,f,z,_⟩:=zT Tryz.underlying23 Gt dc JY _ _ _ u;obtain⟨a3,j,xs,hx,I⟩:=zT Tryz.underlying42 O6 dc WQ _ _ _ v;obtain⟨k,n,_,b⟩:=DataW.trod_string Tryz.underlying9 t;simp[W,ap]at n e g j;subst n e g j;obtain⟨es,c⟩:=WR hx I;exact⟨⟨k,d,c2,r⟩,rfl,⟨k,d,f,es⟩,rfl,b,rfl,z,xs,c⟩
def WS {s:Value}{vs:List iW}(b:RS cd w s vs)(h:∀ x∈vs,∃ o,oG w x o):∃ os,tY w s vs os:=by
 obtain⟨os,c,hq⟩:=JZ vs h;refine⟨os,b,c,fun i d=>?_⟩;rw[nt];exact hq i _ _ (by simp[List.getD,show i<vs.length by omega]) (by simp[List.getD,d])
set_option maxRecDepth 100000 in
def Oe {v:Value}{r:Reach}{y:Nat}{d:DataW H}{p:List MemPlace}(hv:Value.okWide ai w r y 26 v)(h:DataW.Trod enc ai w eL spare held 26 v d p) :
  ∃ a b c d vs t,v=.agg #[a,b,c,d]/\bn w a b c d vs t:=by
 obtain⟨cs,rfl,_⟩:=okWide_struct Tryz.underlying26 hv;obtain⟨fuel,h⟩:=h;obtain⟨l⟩:=cs;have n:=Gu (i:=0) inferInstance WP h;simp only[Value.cells]at n h
 match l,n with
 | [z,c1,c2,A],_ =>
  obtain⟨_,_,B⟩:=vD (i:=0) inferInstance O8 h;obtain⟨_,_,h1⟩:=vD (i:=1) inferInstance O8 h;obtain⟨_,_,C⟩:=vD (i:=2) inferInstance JX h;obtain⟨_,_,D⟩:=vD (i:=3) inferInstance WO h;obtain⟨a0,o,vars,e,_⟩:=zT Tryz.underlying22 zR dc (zS Tryz.underlying3) _ _ _ B;obtain⟨G,q,j,g,_⟩:=zT Tryz.underlying22 zR dc (zS Tryz.underlying3) _ _ _ h1;obtain⟨a2,u,f,F,_⟩:=zT Tryz.underlying23 Gt dc JY _ _ _ C;obtain⟨a3,x,xs,hx,I⟩:=zT Tryz.underlying24 O7 dc Fk _ _ _ D;simp[ap]at o q u x;subst o q u x;obtain⟨os,k⟩:=WS hx I;exact⟨z,c1,c2,A,xs,⟨vars,j,f,os⟩,rfl,e,g,F,k⟩
set_option maxRecDepth 100000 in
def Vv {v:Value}{r:Reach}{c:Nat}{d:DataW H}{p:List MemPlace}(hv:Value.okWide ai w r c 22 v)(h:DataW.Trod enc ai w eL spare held 22 v d p) :
  ∃ xs,RS W w v xs:=by
 obtain⟨a,len,cap,rfl⟩:=WideShapes.okWide_slice Tryz.underlying22 hv;obtain⟨fuel,h⟩:=h;obtain⟨e,b,xs,hx,_⟩:=zT Tryz.underlying22 zR dc (zS Tryz.underlying3) _ _ _ h;simp[Value.cells,ap]at b;subst b;exact⟨xs,hx⟩
end
end
section
open Go.Sl Go Go.Shelf Go.Sort
def MY:Ren:=⟨rl [129,133,171,192,243,210,246,224,283,229,284,230,285,231,286,232,317,234,318,235,319,236,320,237,337,238,338,162],rl [0,0,2,2,3,3,4,4,5,5,9,9,20,20,37,295,46,175,51,218,53,220,171,326,173,328,212,332,213,333,232,334,233,282],rl [17,1,18,2,19,0]⟩
set_option maxRecDepth 100000 in
def MZ:LaysM.n171 ai MY:=by constructor<;>first|exact an|kernel_rfl|(intro w;kernel_rfl)|(constructor<;>first|exact an|kernel_rfl|(intro w;kernel_rfl))
def lR (w:World):Prop:=Lib.TabIs ai w "internal/strconv.uint64pow10" .u64 Lib.pow10Tab
def lR.at {w:World}(h:lR w0)(Y:Z w0 w Γ):lR w:=Lib.tabBelow_of_tabIs h w Y.below
def nM (n:Int):ByteArray:=⟨(jf n).toArray⟩
set_option maxRecDepth 100000 in
def J0 {n:Int}(b:lR w0)(c : -9223372036854775808<=n)(h1:n<=9223372036854775807) :
  Calls ai 192 #[E n] w0 fun e w'=>e=.returned (.string (nM n))/\Z w0 w' []:=by
 have h:=Any.strconv_Itoa MZ n c h1 w0 b;refine uJ h ?_;rintro e w' ⟨he,k,os,rfl⟩;exact⟨he,((Z.start w0).ahead k).grow os⟩
end
section
open Go.Sl Go
def qJ:List (String × DataW Unit):=[("math/bits.deBruijn32tab", Rows.laid_math_bits_deBruijn32tab), ("math/bits.deBruijn64tab", Rows.laid_math_bits_deBruijn64tab), ("internal/strconv.uint64pow10", Rows.laid_internal_strconv_uint64pow10)]
def J1 {P:Program}{x:String × DataW Unit}{rest:List (String × DataW Unit)}(h:laidMet P (x::rest) m):laidMet P rest m:=by
 obtain⟨n,d⟩:=x;obtain⟨k,⟨o,r,cs,fuel,p,q,g,i,f,t,h1,j⟩,e,c⟩:=h;subst j;exact⟨q,h1,(zU.1 e).2.1,fun b off hm=>c b off (Gv _ hm)⟩
def Vs (os:Os)(args:Array Value):laidMetH ai qJ ((World.doorLaid ai 14 os).forCall (fun _ _=>0) ⟨#[],args,[]⟩).memory :=
 laidMetH_of_parts3 (fuel:=8) (laidMet_of_run' 8 kr kr) kr kr
def Vt (h:laidMetH ai qJ m):lR m:=by
 rw[MakeChecks.laidMetH_plain _ _ _ kr]at h;exact Lib.tabIs_of_head (rest:=[]) (g:=ai.globalNamed "internal/strconv.uint64pow10" |>.getD 0) (t := (ai.globals[ai.globalNamed "internal/strconv.uint64pow10" |>.getD 0]?.map (·.type)).getD 0) (e := 220) (n := Lib.pow10Tab.length) kr kr kr kr kr kr (J1 (J1 h))
end
section
open Go.Sl Go
attribute [local irreducible] vc opsW opsD opV opW PureV ReadV Thn Blk
instance FB:rn ai 220 .u64:=⟨kr⟩
instance FC:rn ai 3 .i64:=⟨kr⟩
instance FD:rn ai 5 .u8:=⟨kr⟩
instance FE:zj ai 282 64:=⟨5,kr,fun w=>kr⟩
def sV:J:=[0,1,56,2,57,49,28,3,61,58,42,50,38,29,17,4,62,47,59,36,45,43,51,22,53,39,33,30,24,18,12,5,63,55,48,27,60,41,37,16,46,35,44,21,52,32,23,11,54,26,40,15,34,20,31,10,25,14,19,9,13,8,7,6]
def lc (w:World):Prop:=dL w ⟨0,0,none⟩ (sV.map (Value.int .u8))
def lc.at {w0 w:World}{Γ:List HP}(h:lc w0)(Y:Z w0 w Γ):lc w:=dL.at h Y
def WT:∀ v:Nat,v<64->sV[2 ^ v*285870213051353865 % 18446744073709551616 / 2 ^ 58]? = some (v:Int):=by decide +kernel
def lc.cell {w:World}(h:lc w){v:Nat}(hv:v<64):w.cell? ((⟨0,0,none⟩:Addr).add ((2 ^ v*285870213051353865 % 18446744073709551616 / 2 ^ 58:Nat):Int).toNat)=some (.int .u8 (v:Int)):=by
 refine h _ _ ?_;rw[jo,tr,WT v hv];rfl
def vj {w:World}{x v:Nat}(Y:Z w0 w Γ)(i:lc w0)(hx:x<18446744073709551616)(c:Bj x v) :
  Calls ai 162 #[u64 x] w fun e w'=>e=.returned (E (v:Int))/\w'=w:=by
 have d:=i.at Y;have hv:v<64:=WU c hx;have o:0<x:=O9 fun e=>by have:=c.1;subst e;simp[ib]at this
 have q:=d.cell hv;have f:decide ((x:Int)=0)=false:=dU U;have g:x &&& (18446744073709551616-x)=2 ^ v:=WV c hx;have h:2 ^ v*285870213051353865 % 18446744073709551616 / 2 ^ 58<64:=by
  have:2 ^ v*285870213051353865 % 18446744073709551616<18446744073709551616:=Cx _ dc;exact Pa U
 refine bA an Tryz.func162 ?_;refine oC ?_;simp only[f];refine O ?_;refine eY rfl (WW (a:=x) rfl o hx) ?_;refine eY rfl (yu (a:=x) (b:=18446744073709551616-x) rfl rfl hx U) ?_;rw[g];refine eY rfl (WX (a:=2 ^ v) (b:=285870213051353865) rfl rfl) ?_;refine eY rfl (Jm (a:=2 ^ v*285870213051353865 % 18446744073709551616) (b:=58) (k:=.u64) rfl rfl dc) ?_;refine eY rfl (Bk (n:=64) (j:=((2 ^ v*285870213051353865 % 18446744073709551616 / 2 ^ 58:Nat):Int)) rfl rfl (Cy _) U) ?_;refine qX rfl (wD rfl q) ?_;refine eY rfl (WY (ks:=.u8) (n:=(v:Int)) rfl U U) ?_;refine O ?_;exact bf (v:=E (v:Int)) rfl rfl ⟨rfl,rfl⟩
def VH {w:World}{x:Nat}(hx:x<18446744073709551616) :
  Calls ai 163 #[u64 x] w fun e w'=>(∃ k:Int,e=.returned (E k)/\0<=k/\k<=127)/\w'=w:=by
 have Y:=Z.start w;refine bA an Tryz.func163 ?_
 repeat (first|refine du ?_|(refine WZ rfl rfl (by assumption) dc ?_;intro v hv)|(refine W1 rfl rfl (by assumption) (by first|assumption|decide) ?_;intro v hv)|(refine W2 rfl rfl ?_;intro v hv)|(refine W3 rfl rfl ?_;intro z)|(refine W4 rfl rfl ?_;intro z b c))
 exact bf (v:=E z) rfl rfl ⟨⟨z,rfl,b,c⟩,rfl⟩
end
section
open Go.Sl Go
def Vu (h:laidMetH ai qJ m):lc m:=by
 rw[MakeChecks.laidMetH_plain _ _ _ kr]at h;have c:Lib.TabIs ai m "math/bits.deBruijn64tab" .u8 sV := Lib.tabIs_of_head (rest := [("internal/strconv.uint64pow10", Rows.laid_internal_strconv_uint64pow10)]) (g := 0) (t := 282) (e := 5) (n := 64) kr kr kr kr kr kr (J1 h);intro j v hv;rw[tr,Option.map_eq_some_iff]at hv;obtain⟨z,b,rfl⟩:=hv;have d:j<sV.length:=by
  rcases nu j sV.length with h|h
  ·exact h
  rw[uK h]at b;cases b
 have f:=c.cell (g:=0) kr j d;have e:(⟨0,0,none⟩:Addr).add j=⟨0,j,none⟩:=by
  unfold Addr.add;split
  ·rename_i i;subst i;rfl
  simp
 rw[e,f];simp[List.getD,b]
end
section
open Go.Sl Go Go.Shelf
attribute [local irreducible] vc opsW opsD opV opW PureV ReadV Thn Blk
def EW:Ren:=⟨rl [240,209,276,223],rl [0,0,37,295,4,4,9,9,20,20,70,294,72,297,164,320,5,5],fun k=>k⟩
set_option maxRecDepth 100000 in
def EX:Lays.n240 ai EW:=by constructor<;>first|exact an|kernel_rfl|(intro w;kernel_rfl)
def AE:Builder.X72 ai EW:=⟨kr,kr⟩
def W5 {w:World}(Y:Z w0 w (ak p 297 [.pointer a,sv]::Γ))(g:a=none\/a=some p) :
  Calls ai 209 #[.pointer (some p)] w fun e w'=>e=.returned (.tuple #[])/\Z w0 w' (ak p 297 [.pointer (some p),sv]::Γ):=by
 obtain⟨c,d,f,b⟩:=Y.B5;rw[c]at d b g ⊢;rcases g with rfl|rfl
 ·refine uJ (Any.Builder_copyCheck_fresh EX AE p.block w d f b) ?_
  rintro e w' ⟨he,rfl⟩;rw[c]at Y;exact⟨he,Y.xL⟩
 refine uJ (Any.Builder_copyCheck_used EX AE p.block w d) ?_;rintro e w' ⟨he,rfl⟩;rw[c]at Y;exact⟨he,Y⟩
instance Nl:ao ai 209:=⟨kr⟩
instance Nn:ao ai 191:=⟨kr⟩
instance No:ao ai 194:=⟨kr⟩
def Pb {w:World}{b:ByteArray}(Y:Z w0 w (ak p 297 [.pointer a,sv]::X fH 5 sv (cO l)::Γ))(d:a=none\/a=some p)(g:l.length<=1073741824)(h:b.size<=1073741824) :
  Calls ai 191 #[.pointer (some p),.string b] w fun e w'=>(∃ v,e=.returned v)/\∃ c,Z w0 w' (ak p 297 [.pointer (some p),c]::X fH 5 c (cO (l++b.data.toList))::Γ):=by
 refine bA an Tryz.func191 ?_;refine O ?_;refine aL rfl (W5 Y d) ?_;rintro _ w' ⟨rfl,c⟩;clear Y;have Y:=c;clear c;refine⟨_,rfl,?_⟩;have f:b.data.toList.length=b.size:=rfl;have h1:(cO l).length=l.length:=by simp[cO]
 have i:(cO b.data.toList).length=b.size:=by simp[cO]
 refine O ?_;refine W6 (s:=sv) (ys:=cO b.data.toList) inferInstance rfl rfl rfl rfl rfl U (by unfold bU;omega) Y ?_;clear Y;intro s w Y;refine iE ?_;intro w Y;have e:cO (l++b.data.toList)=cO l++cO b.data.toList:=by simp[cO]
 exact cR (v:=E (b.size:Nat)) (v':=.nilIface) rfl rfl rfl ⟨⟨_,rfl⟩,s,by rw[e];exact Y⟩
def W7 {w:World}{a:Value}(Y:Z w0 w (ak p 297 [a,sv]::X fH 5 sv (cO l)::Γ))(c:l≠[])(h:l.length<=1073741824) :
  Calls ai 194 #[.pointer (some p)] w fun e w'=>e=.returned (.string ⟨l.toArray⟩)/\Z w0 w' Γ:=by
 obtain⟨b,off,cap,rfl,d,_⟩:=Y.bytes (i:=1) rfl c;have f:cap≠0:=by
  cases l with
  | nil=>exact absurd rfl c
  | cons x r=>simp only[length_cons]at d;omega
 have g:(cO l).length=l.length:=by simp[cO]
 refine bA an Tryz.func194 ?_;refine O ?_;refine fz (pl [0,1,2,3,5,6,7,8,9,4] (.cI 8::pl [10,11] [])) Y kr ?_;clear Y;intro w Y;refine O ?_;refine W8 rfl f ?_;refine O ?_;rw[g];refine W9 (e:=5) (i:=1) (l:=l) (b:=b) (off:=off) kr kr rfl rfl rfl c U Y rfl ?_;clear Y;intro w Y;refine O ?_;exact bf (v:=.string ⟨l.toArray⟩) rfl rfl ⟨rfl,Y.tail.tail⟩
end
end Go.Proofs.YtmapkjoefdgjfaaGreatDoor
