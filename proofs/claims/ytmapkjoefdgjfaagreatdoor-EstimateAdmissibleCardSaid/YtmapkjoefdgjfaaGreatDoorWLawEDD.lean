/-
  The statement 'EstimateAdmissible' returns true.
-/
import Derived.Test.YtmapkjoefdgjfaaGreatDoorWLawEBD
set_option linter.unusedSimpArgs false
set_option linter.unusedVariables false
set_option maxRecDepth 8000
set_option maxHeartbeats 16000000
open List Nat
namespace Go.Proofs.YtmapkjoefdgjfaaGreatDoor
open Go.Sl Go
attribute [local irreducible] vc opsW opsD opV opW PureV ReadV Thn Blk
theorem Ć {w0:World}{a b c d:Value}{vs:List iX}{t:aa}(hT:lT w0)(hB:la w0)(i:bz w0 a b c d vs t) :
  Calls aj 5 #[.agg #[a,b,c,d]] w0 fun e w'=>e=.returned (.bool true)/\M w0 w' []:=by
 have Y:=M.start w0;refine bB ao Tryz.func5 ?_;refine c9 ?_;intro y w Y;refine aU rfl (YX (i.at Y)) ?_;rintro _ w' ⟨⟨r,rfl,A⟩,an⟩;refine aI ?_;clear an Y;intro Y;have H:=i.vars;cases r
 ·refine W ?_
  refine aU rfl LM ?_;refine lU ?_;intro w' Y;exact bk (v:=.bool true) rfl rfl ⟨rfl,iY Y⟩
 have B:=A.1 rfl;have I:=B.da;have _a:=B.many;have _b:=I.vars;have _c:(aF t.vars).length=(cC t.vars).toNat:=wL I.pos;have _d:=Ag I.pos;refine W ?_;refine aU rfl (Rb (m:=512) (H.at Y) I.pos dc dc) ?_;refine j7 ?_;clear Y;intro w' Y;obtain⟨K,L⟩:=À (qN t.vars 512);rw[<-L];by_cases g:(100:Int)<K
 ·have N:decide ((100:Int)<K)=true:=dY g
  refine W ?_
  try simp only[N];refine eG ?_
  refine W ?_;refine aU rfl LM ?_;refine lU ?_;intro w' Y;exact bk (v:=.bool true) rfl rfl ⟨rfl,iY Y⟩
 have N:decide ((100:Int)<K)=false:=eA g;refine W ?_
 try simp only[N];refine eG ?_
 refine W ?_;refine aU rfl LM ?_;refine j7 ?_;clear Y;intro w' Y;replace Y:M w0 w' [ak y 26 [a,b,c,d]]:=Y;refine W ?_;refine aU rfl (Zz (kv:=nS) (i.at Y) (.own rfl rfl) I U) ?_;rintro _ w' ⟨P,D,rfl,hD,an⟩;refine aL ?_;clear an Y;intro Y;have _e:=hD.len;refine W ?_;refine aU rfl (ć (i.at Y) B (hT.at Y) (hB.at Y)) ?_;rintro _ w' ⟨Q,f,C,rfl,_f,_g,_h,R,an⟩;refine iL ?_;clear an Y;intro Y;have _i:=Bx f;refine aA ?_ ?_<;>intro h0
 ·omega
 refine W ?_;refine aU rfl (Ĉ (i.at Y) B) ?_;rintro _ w' ⟨S,os,F,o,rfl,T,_j,_k,an⟩;refine iL ?_;clear an Y;intro Y;have V':=T.1;replace Y:M w0 w' [ai O 3 F (aF t.vars),X ar 22 S os,X ar 36 Q (f.map Value.pointer),bj (fun w=>eo w f t C),X O 3 P D,ak y 26 [a,b,c,d]]:=Y.bb;refine W ?_;refine cN [2,2,6,6,8,9,34,61] (G:=Nat) (fun k=>[(34,E k)]) (fun k w=>k<=o.length/\M w0 w [ai O 3 F (aF t.vars),X ar 22 S os,X ar 36 Q (f.map Value.pointer),bj (fun w=>eo w f t C),X O 3 P D,ak y 26 [a,b,c,d]]) (fun k=>o.length-k) 0 (fun _=>rfl) ⟨rfl,au⟩ ⟨br _,Y⟩ ?_;clear Y;rintro σ k w ⟨hk,Y⟩;refine aA ?_ ?_<;>intro h1
 ·have u:k<o.length:=U
  have bI:=T.ok I u;have l:∀ {Γ:List HP}(w:World),M w0 w (ai O 3 F (aF t.vars)::Γ)->RS O w (cF os k) (o.getD k []):=fun w h=>T.rs i.cE h u;obtain⟨z,hz⟩:=À (o.getD k []);rw[<-hz]at bI l;have V:=ĉ I U hD bI;have j':=wK bI;obtain⟨r,A⟩:∃ r:Nat,(r:Int)=cQ t.vars z:=⟨(cQ t.vars z).toNat,U⟩
  rw[<-A]at V j';rw[gY]at V;have _l:r<D.length:=U;refine W ?_;refine cN [2,2,8,9,40,60] (G:=Nat) (fun j=>[(40,E j)]) (fun j w=>j<=f.length/\M w0 w [ai O 3 F (aF t.vars),X ar 22 S os,X ar 36 Q (f.map Value.pointer),bj (fun w=>eo w f t C),X O 3 P D,ak y 26 [a,b,c,d]]) (fun j=>f.length-j) 0 (fun _=>rfl) ⟨rfl,au⟩ ⟨br _,Y⟩ ?_;clear Y;rintro _m j w ⟨hj,Y⟩;refine aA ?_ ?_<;>intro h2
  ·have x:j<f.length:=U
   obtain⟨q,hq,hE⟩:=(Y.cU 3 rfl) j x;obtain⟨G,hG⟩:=À (C.getD j fun _=>0);have hA:mp t G:=R G (by rw[hG];exact cD _ U);rw[<-hG]at hE;refine W ?_;rw[CW f x,hq];refine W ?_;refine aU rfl (CO hE (l _ Y)) ?_;refine j7 ?_;clear Y;intro w' Y;have H':jT t G z=G z:=by unfold jT;rw[aP bI]
   have J':=hA.ok.nn z;have P':=Ċ (hA.ok.le z) (fun q d hp=>hA.Lu z q d bI hp) V;rw[H'];obtain⟨n,hn⟩:=À (G z);rw[<-hn]at J' P' ⊢;have R':decide (n<0)=false:=eA U;have T':decide (D.getD r O.dflt<n)=false:=eA U;refine W ?_
   try simp only[R'];refine eG ?_
   refine W ?_;refine aU rfl (Rf (i.vars.at Y) (l _ Y) bI I.pos U) ?_;refine j7 ?_;clear Y;intro w' Y;rw[<-A];refine W ?_
   try simp only[T'];refine eG ?_
   refine W ?_;exact⟨j+1,⟨rfl,au⟩,aV,⟨U,Y⟩,U⟩
  refine W ?_;exact⟨k+1,⟨rfl,au⟩,aV,⟨U,Y⟩,U⟩
 refine W ?_;exact bk (v:=.bool true) rfl rfl ⟨rfl,iY Y⟩
end Go.Proofs.YtmapkjoefdgjfaaGreatDoor
