/- Several texts. -/
import Derived.Test.YtmapkjoefdgjfaaGreatDoorRows
import Derived.Test.YtmapkjoefdgjfaaGreatDoorMTAD
import Derived.Test.YtmapkjoefdgjfaaGreatDoorTypesD
import Derived.ProofKit
import Derived.ChangeOld
import Derived.Carry
import Derived.OpenShut
import Derived.Shelf.Strconv.Itoa3
import Derived.Lib.AppendIntMem
import Derived.Test.YtmapkjoefdgjfaaGreatDoorTie
import Derived.Test.YtmapkjoefdgjfaaGreatDoorCards
import Derived.LaidMore
import Derived.LaidHandle
import Derived.Lib.LaidTab
import Derived.Stop.Joined
import Derived.SevenTiedAt
import Derived.Shelf.Strings.Builder1
set_option linter.unusedSimpArgs false
set_option linter.unusedVariables false
set_option linter.defProp false
set_option maxRecDepth 8000
set_option maxHeartbeats 16000000
open List Nat
namespace Go.Proofs.YtmapkjoefdgjfaaGreatDoor
open Go.Sl
variable {w0 m:World}{Γ:List HP}{p:Addr}{sv:Value}{a:Option Addr}{l:List UInt8}
section
open Go.Sl Go.ChangeShapes Go.WideShapes Go.ChangeAt Go.RowKit
def own:ownKnob aj.godebug=none:=kr
def zo:laidOutB aj=true:=kr
def Bb:aj.cellsOf 3=1:=kr
def Wc:aj.cellsOf 9=1:=kr
def Gf:aj.cellsOf 63=2:=kr
def JE:aj.cellsOf 23=1:=kr
def OT:aj.cellsOf 61=3:=kr
def Wd:aj.cellsOf 42=1:=kr
def OU:aj.cellsOf 44=4:=kr
def We:aj.cellsOf 24=1:=kr
def OV:aj.cellsOf 22=1:=kr
def Wf:aj.cellsOf 26=4:=kr
section
variable {H:Type}{enc:TypeId × Value->H}{w:World}{eO:Nat}{spare:Nat->Bool}{held:Bool}
def JF:Rd enc aj w eO spare held 63 aq fun _=>True:=by
 intro fuel cs y h;have d:=Gg (i:=0) inferInstance Gf h
 match cs,d with
 | [j,c1],_ =>
  obtain⟨_,_,e⟩:=vu (i:=0) inferInstance Bb h;obtain⟨_,_,h1⟩:=vu (i:=1) inferInstance Bb h;obtain⟨f,b,_⟩:=Bc Tryz.underlying3 _ _ _ e;obtain⟨g,c,_⟩:=Bc Tryz.underlying3 _ _ _ h1;simp[O]at b c;subst b c;exact⟨⟨f,g⟩,rfl,au⟩
def Wg:Rd enc aj w eO spare held 61 aY fun x=>∃ e,rf w x e:=by
 intro fuel cs y h;have k:=Gg (i:=0) inferInstance OT h
 match cs,k with
 | [n,c1,c2],_ =>
  obtain⟨_,_,o⟩:=vu (i:=0) inferInstance JE h;obtain⟨_,_,h1⟩:=vu (i:=1) inferInstance Bb h;obtain⟨_,_,q⟩:=vu (i:=2) inferInstance Bb h;obtain⟨a,b,f,r,_⟩:=Bd Tryz.underlying23 Gf dc JF _ _ _ o;obtain⟨c,d,_⟩:=Bc Tryz.underlying3 _ _ _ h1;obtain⟨g,j,_⟩:=Bc Tryz.underlying3 _ _ _ q;simp[O,ar]at b d j;subst b d j;exact⟨⟨n,c,g⟩,rfl,⟨f,c,g⟩,rfl,rfl,r⟩
def JG {α β:Type}{Q:α->β->Prop}:∀ (xs:List α),(∀ x∈xs,∃ y,Q x y)->∃ ys:List β,xs.length=ys.length/\∀ (i:Nat) x y,xs[i]? = some x->ys[i]? = some y->Q x y
 | [],_=>⟨[],rfl,sm⟩
 | x::xs,h=>by
  obtain⟨ys,e,hq⟩:=JG xs fun x hx=>h x (by simp[hx]);obtain⟨y,f⟩:=h x sm;refine⟨y::ys,by simp[e],fun i a b c d=>?_⟩
  cases i with
  | zero=>simp at c d;subst c d;exact f
  | succ i=>simp at c d;exact hq i a b c d
def Wh {s:Value}{vs:List ke}(b:RS aY w s vs)(h:∀ x∈vs,∃ e,rf w x e):∃ es,lF w s vs es:=by
 obtain⟨es,c,hq⟩:=JG vs h;refine⟨es,b,c,fun i d=>?_⟩;rw[nr];exact hq i _ _ (by simp[List.getD,show i<vs.length by omega]) (by simp[List.getD,d])
def E8:Rd enc aj w eO spare held 44 cp fun x=>∃ o,oC w x o:=by
 intro fuel cs y h;have q:=Gg (i:=0) inferInstance OU h
 match cs,q with
 | [A,c1,c2,r],_ =>
  obtain⟨_,_,t⟩:=vu (i:=0) inferInstance Wc h;obtain⟨_,_,h1⟩:=vu (i:=1) inferInstance Bb h;obtain⟨_,_,u⟩:=vu (i:=2) inferInstance JE h;obtain⟨_,_,v⟩:=vu (i:=3) inferInstance Wd h;obtain⟨d,e,_⟩:=Bc Tryz.underlying3 _ _ _ h1;obtain⟨a2,g,f,z,_⟩:=Bd Tryz.underlying23 Gf dc JF _ _ _ u;obtain⟨a3,j,xs,hx,I⟩:=Bd Tryz.underlying42 OT dc Wg _ _ _ v;obtain⟨k,n,_,b⟩:=DataW.trod_string Tryz.underlying9 t;simp[O,ar]at n e g j;subst n e g j;obtain⟨es,c⟩:=Wh hx I;exact⟨⟨k,d,c2,r⟩,rfl,⟨k,d,f,es⟩,rfl,b,rfl,z,xs,c⟩
def Wi {s:Value}{vs:List iX}(b:RS cp w s vs)(h:∀ x∈vs,∃ o,oC w x o):∃ os,tW w s vs os:=by
 obtain⟨os,c,hq⟩:=JG vs h;refine⟨os,b,c,fun i d=>?_⟩;rw[nr];exact hq i _ _ (by simp[List.getD,show i<vs.length by omega]) (by simp[List.getD,d])
set_option maxRecDepth 100000 in
def Wj {v:Value}{r:Reach}{y:Nat}{d:DataW H}{p:List MemPlace}(hv:Value.okWide aj w r y 26 v)(h:DataW.Trod enc aj w eO spare held 26 v d p) :
  ∃ a b c d vs t,v=.agg #[a,b,c,d]/\bz w a b c d vs t:=by
 obtain⟨cs,rfl,_⟩:=okWide_struct Tryz.underlying26 hv;obtain⟨fuel,h⟩:=h;obtain⟨l⟩:=cs;have n:=Gg (i:=0) inferInstance Wf h;simp only[Value.cells]at n h
 match l,n with
 | [z,c1,c2,A],_ =>
  obtain⟨_,_,B⟩:=vu (i:=0) inferInstance OV h;obtain⟨_,_,h1⟩:=vu (i:=1) inferInstance OV h;obtain⟨_,_,C⟩:=vu (i:=2) inferInstance JE h;obtain⟨_,_,D⟩:=vu (i:=3) inferInstance We h;obtain⟨a0,o,vars,e,_⟩:=Bd Tryz.underlying22 Bb dc (Bc Tryz.underlying3) _ _ _ B;obtain⟨G,q,j,g,_⟩:=Bd Tryz.underlying22 Bb dc (Bc Tryz.underlying3) _ _ _ h1;obtain⟨a2,u,f,F,_⟩:=Bd Tryz.underlying23 Gf dc JF _ _ _ C;obtain⟨a3,x,xs,hx,I⟩:=Bd Tryz.underlying24 OU dc E8 _ _ _ D;simp[ar]at o q u x;subst o q u x;obtain⟨os,k⟩:=Wi hx I;exact⟨z,c1,c2,A,xs,⟨vars,j,f,os⟩,rfl,e,g,F,k⟩
end
end
section
open Go.Sl Go Go.Shelf Go.Sort
def MJ:Ren:=⟨rl [129,133,171,192,243,210,246,224,283,229,284,230,285,231,286,232,317,234,318,235,319,236,320,237,337,238,338,162],rl [0,0,2,2,3,3,4,4,5,5,9,9,20,20,37,295,46,175,51,218,53,220,171,326,173,328,212,332,213,333,232,334,233,282],rl [17,1,18,2,19,0]⟩
set_option maxRecDepth 100000 in
def MK:LaysM.n171 aj MJ:=by constructor<;>first|exact ao|kernel_rfl|(intro w;kernel_rfl)|(constructor<;>first|exact ao|kernel_rfl|(intro w;kernel_rfl))
def lT (w:World):Prop:=Lib.TabIs aj w "internal/strconv.uint64pow10" .u64 Lib.pow10Tab
def lT.at {w:World}(h:lT w0)(Y:M w0 w Γ):lT w:=Lib.tabBelow_of_tabIs h w Y.below
def nM (n:Int):ByteArray:=⟨(jh n).toArray⟩
set_option maxRecDepth 100000 in
def JH {n:Int}(b:lT w0)(c : -9223372036854775808<=n)(h1:n<=9223372036854775807) :
  Calls aj 192 #[E n] w0 fun e w'=>e=.returned (.string (nM n))/\M w0 w' []:=by
 have h:=Any.strconv_Itoa MK n c h1 w0 b;refine uD h ?_;rintro e w' ⟨he,k,os,rfl⟩;exact⟨he,((M.start w0).ahead k).grow os⟩
end
section
open Go.Sl Go
def qJ:List (String × DataW Unit):=[("math/bits.deBruijn32tab", Rows.laid_math_bits_deBruijn32tab), ("math/bits.deBruijn64tab", Rows.laid_math_bits_deBruijn64tab), ("internal/strconv.uint64pow10", Rows.laid_internal_strconv_uint64pow10)]
def JI {P:Program}{x:String × DataW Unit}{rest:List (String × DataW Unit)}(h:laidMet P (x::rest) m):laidMet P rest m:=by
 obtain⟨n,d⟩:=x;obtain⟨k,⟨o,r,cs,fuel,p,q,g,i,f,t,h1,j⟩,e,c⟩:=h;subst j;exact⟨q,h1,(zM.1 e).2.1,fun b off hm=>c b off (Gh _ hm)⟩
def Wk (os:Os)(args:Array Value):laidMetH aj qJ ((World.doorLaid aj 14 os).forCall (fun _ _=>0) ⟨#[],args,[]⟩).memory :=
 laidMetH_of_parts3 (fuel:=8) (laidMet_of_run' 8 kr kr) kr kr
def Wl (h:laidMetH aj qJ m):lT m:=by
 rw[MakeChecks.laidMetH_plain _ _ _ kr]at h;exact Lib.tabIs_of_head (rest:=[]) (g:=aj.globalNamed "internal/strconv.uint64pow10" |>.getD 0) (t := (aj.globals[aj.globalNamed "internal/strconv.uint64pow10" |>.getD 0]?.map (·.type)).getD 0) (e := 220) (n := Lib.pow10Tab.length) kr kr kr kr kr kr (JI (JI h))
end
section
open Go.Sl Go
attribute [local irreducible] vc opsW opsD opV opW PureV ReadV Thn Blk
instance Fo:rh aj 220 .u64:=⟨kr⟩
instance Fp:rh aj 3 .i64:=⟨kr⟩
instance Fq:rh aj 5 .u8:=⟨kr⟩
instance Ft:y8 aj 282 64:=⟨5,kr,fun w=>kr⟩
def sT:J:=[0,1,56,2,57,49,28,3,61,58,42,50,38,29,17,4,62,47,59,36,45,43,51,22,53,39,33,30,24,18,12,5,63,55,48,27,60,41,37,16,46,35,44,21,52,32,23,11,54,26,40,15,34,20,31,10,25,14,19,9,13,8,7,6]
def la (w:World):Prop:=dO w ⟨0,0,none⟩ (sT.map (Value.int .u8))
def la.at {w0 w:World}{Γ:List HP}(h:la w0)(Y:M w0 w Γ):la w:=dO.at h Y
def Wm:∀ v:Nat,v<64->sT[2 ^ v*285870213051353865 % 18446744073709551616 / 2 ^ 58]? = some (v:Int):=by decide +kernel
def la.cell {w:World}(h:la w){v:Nat}(hv:v<64):w.cell? ((⟨0,0,none⟩:Addr).add ((2 ^ v*285870213051353865 % 18446744073709551616 / 2 ^ 58:Nat):Int).toNat)=some (.int .u8 (v:Int)):=by
 refine h _ _ ?_;rw[gY,tq,Wm v hv];rfl
def u9 {w:World}{x v:Nat}(Y:M w0 w Γ)(i:la w0)(hx:x<18446744073709551616)(c:Be x v) :
  Calls aj 162 #[u64 x] w fun e w'=>e=.returned (E (v:Int))/\w'=w:=by
 have d:=i.at Y;have hv:v<64:=Wn c hx;have o:0<x:=OW fun e=>by have:=c.1;subst e;simp[ib]at this
 have q:=d.cell hv;have f:decide ((x:Int)=0)=false:=eA U;have g:x &&& (18446744073709551616-x)=2 ^ v:=Wo c hx;have h:2 ^ v*285870213051353865 % 18446744073709551616 / 2 ^ 58<64:=by
  have:2 ^ v*285870213051353865 % 18446744073709551616<18446744073709551616:=Cm _ dc;exact OX U
 refine bB ao Tryz.func162 ?_;refine pV ?_;simp only[f];refine W ?_;refine fi rfl (Wp (a:=x) rfl o hx) ?_;refine fi rfl (yn (a:=x) (b:=18446744073709551616-x) rfl rfl hx U) ?_;rw[g];refine fi rfl (Wq (a:=2 ^ v) (b:=285870213051353865) rfl rfl) ?_;refine fi rfl (I3 (a:=2 ^ v*285870213051353865 % 18446744073709551616) (b:=58) (k:=.u64) rfl rfl dc) ?_;refine fi rfl (Bf (n:=64) (j:=((2 ^ v*285870213051353865 % 18446744073709551616 / 2 ^ 58:Nat):Int)) rfl rfl (Cn _) U) ?_;refine rW rfl (wB rfl q) ?_;refine fi rfl (Wr (ks:=.u8) (n:=(v:Int)) rfl U U) ?_;refine W ?_;exact bk (v:=E (v:Int)) rfl rfl ⟨rfl,rfl⟩
def Va {w:World}{x:Nat}(hx:x<18446744073709551616) :
  Calls aj 163 #[u64 x] w fun e w'=>(∃ k:Int,e=.returned (E k)/\0<=k/\k<=127)/\w'=w:=by
 have Y:=M.start w;refine bB ao Tryz.func163 ?_
 repeat (first|refine dB ?_|(refine Ws rfl rfl (by assumption) dc ?_;intro v hv)|(refine Wt rfl rfl (by assumption) (by first|assumption|decide) ?_;intro v hv)|(refine Wu rfl rfl ?_;intro v hv)|(refine Wv rfl rfl ?_;intro z)|(refine Ww rfl rfl ?_;intro z b c))
 exact bk (v:=E z) rfl rfl ⟨⟨z,rfl,b,c⟩,rfl⟩
end
section
open Go.Sl Go
def Wx (h:laidMetH aj qJ m):la m:=by
 rw[MakeChecks.laidMetH_plain _ _ _ kr]at h;have c:Lib.TabIs aj m "math/bits.deBruijn64tab" .u8 sT := Lib.tabIs_of_head (rest := [("internal/strconv.uint64pow10", Rows.laid_internal_strconv_uint64pow10)]) (g := 0) (t := 282) (e := 5) (n := 64) kr kr kr kr kr kr (JI h);intro j v hv;rw[tq,Option.map_eq_some_iff]at hv;obtain⟨z,b,rfl⟩:=hv;have d:j<sT.length:=by
  rcases ns j sT.length with h|h
  ·exact h
  rw[uE h]at b;cases b
 have f:=c.cell (g:=0) kr j d;have e:(⟨0,0,none⟩:Addr).add j=⟨0,j,none⟩:=by
  unfold Addr.add;split
  ·rename_i i;subst i;rfl
  simp
 rw[e,f];simp[List.getD,b]
end
section
open Go.Sl Go Go.Shelf
attribute [local irreducible] vc opsW opsD opV opW PureV ReadV Thn Blk
def EL:Ren:=⟨rl [240,209,276,223],rl [0,0,37,295,4,4,9,9,20,20,70,294,72,297,164,320,5,5],fun k=>k⟩
set_option maxRecDepth 100000 in
def EM:Lays.n240 aj EL:=by constructor<;>first|exact ao|kernel_rfl|(intro w;kernel_rfl)
def Ax:Builder.X72 aj EL:=⟨kr,kr⟩
def Wy {w:World}(Y:M w0 w (ak p 297 [.pointer a,sv]::Γ))(g:a=none\/a=some p) :
  Calls aj 209 #[.pointer (some p)] w fun e w'=>e=.returned (.tuple #[])/\M w0 w' (ak p 297 [.pointer (some p),sv]::Γ):=by
 obtain⟨c,d,f,b⟩:=Y.BX;rw[c]at d b g ⊢;rcases g with rfl|rfl
 ·refine uD (Any.Builder_copyCheck_fresh EM Ax p.block w d f b) ?_
  rintro e w' ⟨he,rfl⟩;rw[c]at Y;exact⟨he,Y.xI⟩
 refine uD (Any.Builder_copyCheck_used EM Ax p.block w d) ?_;rintro e w' ⟨he,rfl⟩;rw[c]at Y;exact⟨he,Y⟩
instance M5:ap aj 209:=⟨kr⟩
instance M6:ap aj 191:=⟨kr⟩
instance M7:ap aj 194:=⟨kr⟩
def OY {w:World}{b:ByteArray}(Y:M w0 w (ak p 297 [.pointer a,sv]::X fH 5 sv (cL l)::Γ))(d:a=none\/a=some p)(g:l.length<=1073741824)(h:b.size<=1073741824) :
  Calls aj 191 #[.pointer (some p),.string b] w fun e w'=>(∃ v,e=.returned v)/\∃ c,M w0 w' (ak p 297 [.pointer (some p),c]::X fH 5 c (cL (l++b.data.toList))::Γ):=by
 refine bB ao Tryz.func191 ?_;refine W ?_;refine aU rfl (Wy Y d) ?_;rintro _ w' ⟨rfl,c⟩;clear Y;have Y:=c;clear c;refine⟨_,rfl,?_⟩;have f:b.data.toList.length=b.size:=rfl;have h1:(cL l).length=l.length:=by simp[cL]
 have i:(cL b.data.toList).length=b.size:=by simp[cL]
 refine W ?_;refine Wz (s:=sv) (ys:=cL b.data.toList) inferInstance rfl rfl rfl rfl rfl U (by unfold bT;omega) Y ?_;clear Y;intro s w Y;refine iC ?_;intro w Y;have e:cL (l++b.data.toList)=cL l++cL b.data.toList:=by simp[cL]
 exact cX (v:=E (b.size:Nat)) (v':=.nilIface) rfl rfl rfl ⟨⟨_,rfl⟩,s,by rw[e];exact Y⟩
def WA {w:World}{a:Value}(Y:M w0 w (ak p 297 [a,sv]::X fH 5 sv (cL l)::Γ))(c:l≠[])(h:l.length<=1073741824) :
  Calls aj 194 #[.pointer (some p)] w fun e w'=>e=.returned (.string ⟨l.toArray⟩)/\M w0 w' Γ:=by
 obtain⟨b,off,cap,rfl,d,_⟩:=Y.bytes (i:=1) rfl c;have f:cap≠0:=by
  cases l with
  | nil=>exact absurd rfl c
  | cons x r=>simp only[length_cons]at d;omega
 have g:(cL l).length=l.length:=by simp[cL]
 refine bB ao Tryz.func194 ?_;refine W ?_;refine fQ (pl [0,1,2,3,5,6,7,8,9,4] (.cJ 8::pl [10,11] [])) Y kr ?_;clear Y;intro w Y;refine W ?_;refine WB rfl f ?_;refine W ?_;rw[g];refine WC (e:=5) (i:=1) (l:=l) (b:=b) (off:=off) kr kr rfl rfl rfl c U Y rfl ?_;clear Y;intro w Y;refine W ?_;exact bk (v:=.string ⟨l.toArray⟩) rfl rfl ⟨rfl,Y.tail.tail⟩
end
end Go.Proofs.YtmapkjoefdgjfaaGreatDoor
