/-
  The canonical heuristic as an estimate: contract of 'estimate.Patterns'; consistent, admissible.
-/
import Derived.Test.YtmapkjoefdgjfaaGreatDoorTPick
set_option linter.unusedSimpArgs false
set_option linter.unusedVariables false
set_option maxRecDepth 8000
set_option maxHeartbeats 16000000
open List Nat
namespace Go.Proofs.YtmapkjoefdgjfaaGreatDoor
open Go.Sl Go
attribute [local irreducible] vc opsW opsD opV opW PureV ReadV Thn Blk
open Classical in
noncomputable def ke (t:Aa) (Ls Ds Cs:List (List Int)) (s:List Int):Int:=if Ac t.vars s then fc t Ls Ds Cs s else 0
theorem qlH {t:Aa}{Ls Ds Cs:List (List Int)}{s:List Int}(h:Ac t.vars s):ke t Ls Ds Cs s=fc t Ls Ds Cs s:=if_pos h
theorem qnf {t:Aa}{size:Int}(hs:AB t):eG t (bR t size)=0:=by
 unfold eG;rw[if_neg (by rw[(nZ t).2 hs.cr];decide),if_pos fun i hi=>(vU hi).pat]
theorem qvq {t:Aa}{size:Int}(hs:AB t):cD t (bR t size)=10\/(cD t (bR t size)=0/\AX t (bR t size)):=by
 have hl:=qdI t size;by_cases hf:0<(bR t size).length/\A7 (bR t size).length (nN (bR t size).length (eB t (bR t size) (bR t size).length))
 ·left
  unfold cD;rw[if_neg (by rw[qnf hs];decide),if_neg om,if_pos hf]
 ·right
  refine⟨?_,hs,hl,fun i hi=>vU hi,fun i hi=>Int.le_trans (zC hs.cr.pos (vU hi)) hs.many,fun h0 hq=>hf ⟨h0,hq⟩⟩;unfold cD;rw[if_neg (by rw[qnf hs];decide),if_neg om,if_neg hf]
section
variable {t:Aa}{Ls Ds Cs:List (List Int)}
theorem AZ.br (h:AZ t Ls Ds Cs):Dh t (ke t Ls Ds Cs):=by
 have key:∀ s,0<=ke t Ls Ds Cs s/\ke t Ls Ds Cs s<=inf:=fun s=>by
  unfold ke;split
  ·rename_i hs;exact h.cC hs
  ·exact⟨Int.le_refl _,by decide⟩
 exact⟨h.kV.small.cr,fun y=>(key y).1,fun y=>(key y).2⟩
theorem AZ.cons (h:AZ t Ls Ds Cs):Cons t (ke t Ls Ds Cs):=fun s op hs ho ha=>by
 have hg:=h.kV.small.cr;have dW:=qA hg hs ho;rw[qlH hs,qlH dW];have hc:=zZ hg ho;have h1:=(h.cC hs).2;by_cases hf:fc t Ls Ds Cs (bm t s op)<inf
 ·have:=(h.step hs ho ha hf).2
  have e2:(t.ops.getD op aO).cost=pJ t op:=rfl;rw[wV ho]at this;omega
 ·omega
end
theorem BT.at {w0 w:World}{Γ:List HP}{p:Addr}{t:Aa}{Ls Ds Cs:List (List Int)}(h:BT w0 p t Ls Ds Cs) (hw:Sat w0 w Γ):BT w p t Ls Ds Cs:=by
 obtain⟨vv,dv,cv,qs,fs,h1,h2,h3,h4,h5⟩:=h;exact⟨vv,dv,cv,qs,fs,h1.at hw,h2.at hw,h3.at hw,h4.at hw,h5.at hw⟩
theorem qme {w0:World}{p:Addr}{t:Aa}{Ls Ds Cs:List (List Int)}{sv:Value}{s:List Int}(hr:BT w0 p t Ls Ds Cs) (hC:AZ t Ls Ds Cs) (hs:RS aa w0 sv s) (br:Ac t.vars s) :
  Calls Tryz.prog 326 #[.pointer (some p),sv] w0 fun e w'=>e=.returned (.int .i64 (fc t Ls Ds Cs s))/\Sat w0 w' []:=by
 rw[<-qrt br];exact qmj hr hC.kV.len hC.dl hC.cl hC.ci hC.kV.qwY hC.bf hs
theorem qs4 {w:World}{t:Aa}{p:Addr}{Ls Ds Cs:List (List Int)}(h:BT w p t Ls Ds Cs) (hC:AZ t Ls Ds Cs):A0 w (.iface 105 (.pointer (some p))) t (ke t Ls Ds Cs) :=
 ⟨_,_,_,_,rfl,qfR _,inferInstance,fun _ _ _ _ hw mH br=>by
  rw[qlH br]
  exact qme (h.at hw) hC mH br⟩
theorem qk3 {w0:World}{a b c d h v:Value}{T:Nat} :
  Calls Tryz.prog 37 #[.agg #[a,b,c,d],h,.iface T v] w0 fun e w'=>e=.returned (.tuple #[.pointer none,.iface T v])/\Sat w0 w' []:=by
 have hw:=Sat.start w0;refine bn (args:=[.agg #[a,b,c,d],h,.iface T v]) mixed Tryz.func37 ?_;refine db ?_;intro p w hw;exact dz (v:=.pointer none) (v':=.iface T v) rfl rfl rfl ⟨rfl,lB hw⟩
theorem qhp {w0:World}{a b c d:Value}{vs:List AK}{t:Aa}{size:Int}(ht:Am w0 a b c d vs t) (hs:AB t) (hT:Bp w0) :
  Calls Tryz.prog 30 #[.agg #[a,b,c,d],.int .i64 size] w0 fun e w'=>(cD t (bR t size)=10/\e=.returned (.tuple #[.pointer none,bE 10])/\Sat w0 w' [])\/∃ p Ds Cs,e=.returned (.tuple #[.pointer (some p),.nilIface])/\AZ t (bR t size) Ds Cs/\Sat w0 w' [Aj fun w=>Ay w p t (ke t (bR t size) Ds Cs)]:=by
 have hg:=hs.cr;have hw:=Sat.start w0;refine bn (args:=[.agg #[a,b,c,d],.int .i64 size]) mixed Tryz.func30 ?_;refine cK ?_;intro p w hw;obtain⟨pt,dO⟩:∃ pt,pt=p:=⟨p,rfl⟩
 subst dO;refine aJ rfl (qfy (ht.at hw) hs) ?_;rintro _ w' ⟨ov,rfl,aj⟩;refine aA ?_;clear aj hw;intro hw;refine ab ?_;obtain⟨os,ui⟩:=hw.dM 0 rfl;rcases qvq (size:=size) hs with hE|⟨hE,hP⟩
 ·refine aJ rfl (qh9 (ht.at hw) ui (hT.at hw)) ?_
  rintro _ w' (⟨h1,rfl,aj⟩|⟨h1,_⟩|⟨h1,_⟩);rotate_left
  ·omega
  ·omega
  refine aC ?_;clear aj hw;intro hw;rw[hE,ep (show (10:Int)≠0 by decide)];refine ab ?_;refine aJ rfl qk3 ?_;rintro _ w' ⟨rfl,aj⟩;refine aC ?_;clear aj hw;intro hw;refine ab ?_;exact dz (v:=.pointer none) (v':=.iface 57 (.int .i64 10)) rfl rfl rfl (.inl ⟨rfl,rfl,lB hw⟩)
 refine aJ rfl (qsv (ht.at hw) ui (hT.at hw) hP) ?_;rintro _ w' ⟨ps,Ds,Cs,rfl,hC,aj⟩;refine aA ?_;clear aj hw;intro hw;refine ab ?_;refine aJ rfl (wC (h:=.iface 105 (.pointer (some ps))) (H:=ke t (bR t size) Ds Cs) (ht.at hw) hg ⟨_,_,rfl⟩) ?_;rintro _ w' ⟨pe,rfl,aj⟩;refine aA ?_;clear aj hw;intro hw;refine ab ?_;have ct:Sat w0 w' (([Aj fun w=>A0 w (.iface 105 (.pointer (some ps))) t (ke t (bR t size) Ds Cs)->Ay w pe t (ke t (bR t size) Ds Cs),Aj fun w=>BT w ps t (bR t size) Ds Cs]:List HP)++[Aj fun w=>∃ ss,Co w ov ss (bR t size),Ad pt 26 [a,b,c,d]]):=hw;have gX:=Sat.rd (φ:=fun w=>Ay w pe t (ke t (bR t size) Ds Cs)) (fun _ w h=>(h.dM 0 rfl) (qs4 (h.dM 1 rfl) hC)) ct;exact dz (v:=.pointer (some pe)) (v':=.nilIface) rfl rfl rfl (.inr ⟨pe,Ds,Cs,rfl,hC,gX.only⟩)
end Go.Proofs.YtmapkjoefdgjfaaGreatDoor
