/-
  Contract of 'estimates' as the statement about consistency wants it: of the landmark heuristics only that they are made.
-/
import Derived.Test.YtmapkjoefdgjfaaGreatDoorWRlxM
import Derived.Test.YtmapkjoefdgjfaaGreatDoorWLandN
import Derived.Test.YtmapkjoefdgjfaaGreatDoorTFew
set_option linter.unusedSimpArgs false
set_option linter.unusedVariables false
set_option maxRecDepth 8000
set_option maxHeartbeats 16000000
open List Nat
namespace Go.Proofs.YtmapkjoefdgjfaaGreatDoor
open Go.Sl Go
attribute [local irreducible] vc opsW opsD opV opW PureV ReadV Thn Blk
structure DA (t:Aa) (ps:List (Option Addr)) (Gs:List (List Int->Int)):Prop where
 pl:ps.length=9
 gl:Gs.length=9
 ok:∀ k:Nat,k∈[0,1,6,7,8]->Dh t (Gs.getD k fun _=>0)/\Cons t (Gs.getD k fun _=>0)
def Bx (w:World) (ps:List (Option Addr)) (t:Aa) (Gs:List (List Int->Int)):Prop:=∀ k:Nat,k∈[0,1,6,7,8]->∃ p,ps.getD k none=some p/\Ay w p t (Gs.getD k fun _=>0)
theorem qwE {P:Nat->Prop}(h0:P 0) (h1:P 1) (h6:P 6) (h7:P 7) (h8:P 8):∀ k,k∈[0,1,6,7,8]->P k:=fun k hk=>by
 simp only[mem_cons,not_mem_nil,or_false]at hk;rcases hk with rfl|rfl|rfl|rfl|rfl
 ·exact h0
 ·exact h1
 ·exact h6
 ·exact h7
 ·exact h8
theorem qrA {w0:World}{a b c d:Value}{vs:List AK}{t:Aa}(ht:Am w0 a b c d vs t) (hs:AB t) (hv:t.vars.length<=4) (hT:Bv w0) (hB:Bp w0) :
  Calls Tryz.prog 10 #[.agg #[a,b,c,d]] w0 fun e w'=>∃ v ps Gs,e=.returned (.tuple #[v,.bool true])/\DA t ps Gs/\Sat w0 w' [OS al 36 v (ps.map Value.pointer),Aj (fun w=>Bx w ps t Gs)]:=by
 have hg:=hs.cr;have hw:=Sat.start w0;refine bn (args:=[.agg #[a,b,c,d]]) mixed Tryz.func10 ?_;refine cK ?_;clear hw;intro p w hw;obtain⟨pt,dO⟩:∃ pt,pt=p:=⟨p,rfl⟩
 subst dO;refine aJ rfl (qoP (ht.at hw) hg) ?_;rintro _ w' ⟨p0,rfl,aj⟩;refine aA ?_;clear aj hw;intro hw;refine ab ?_;refine aJ rfl (qk4 (ht.at hw) hg) ?_;rintro _ w' ⟨p1,rfl,aj⟩;refine aA ?_;clear aj hw;intro hw;refine ab ?_;refine aJ rfl (qnF (ht.at hw) hg) ?_;rintro _ w' ⟨p2,rfl,aj⟩;refine aA ?_;clear aj hw;intro hw;refine ab ?_;refine aJ rfl (qfe (kind:=1) (by decide) (by decide) (ht.at hw) hg) ?_;rintro _ w' ⟨p3,rfl,aj⟩;refine aC ?_;clear aj hw;intro hw;refine ab ?_;refine aJ rfl (qfe (kind:=2) (by decide) (by decide) (ht.at hw) hg) ?_;rintro _ w' ⟨p4,rfl,aj⟩;refine aC ?_;clear aj hw;intro hw;refine ab ?_;refine aJ rfl (qfe (kind:=3) (by decide) (by decide) (ht.at hw) hg) ?_;rintro _ w' ⟨p5,rfl,aj⟩;refine aC ?_;clear aj hw;intro hw;refine ab ?_;refine aJ rfl (qhp (size:=2) (ht.at hw) hs (hB.at hw)) ?_;rintro _ w' sX;rcases sX with ⟨hE,_⟩|⟨p6,Ds6,Cs6,rfl,hC6,aj⟩
 ·have:=(qtG hs hv).qwF;omega
 refine aA ?_;clear aj hw;intro hw;have hA6:=hC6.br;have hQ6:=hC6.cons;obtain⟨H6,hH6⟩:∃ H,H=ke t (bR t 2) Ds6 Cs6:=⟨_,rfl⟩
 rw[<-hH6]at hw hA6 hQ6;refine ab ?_;refine aJ rfl (qha (size:=2) (ht.at hw) hs) ?_;rintro _ w' ⟨p7,Ds,Ps,rfl,qwG,aj⟩;refine aA ?_;clear aj hw;intro hw;have hA7:=(qqU hs qwG).br;have hQ7:=(qqU hs qwG).cons;obtain⟨H7,hH7⟩:∃ H,H=kf t (bR t 2) Ds:=⟨_,rfl⟩
 rw[<-hH7]at hw hA7 hQ7;refine ab ?_;refine aJ rfl (ql8 (M:=20) (ht.at hw) hg (hT.at hw)) ?_;rintro _ w' sX;have hE8:=qvY hs;rcases sX with ⟨hE,_⟩|⟨_,p8,rfl,aj⟩
 ·exact absurd hE8 hE
 refine aA ?_;clear aj hw;intro hw;refine ab ?_;refine qa6 (T:=al) ([some p0,some p1,some p2,some p3,some p4,some p5,some p6,some p7,some p8].map Value.pointer) ([some p0,some p1,some p2,some p3,some p4,some p5,some p6,some p7,some p8].map Value.pointer) rfl rfl rfl rfl rfl (by decide) (by decide) (by decide) hw ?_;clear hw;intro lv w hw;refine ab ?_;have ct:Sat w0 w [OS al 36 lv ([some p0,some p1,some p2,some p3,some p4,some p5,some p6,some p7,some p8].map Value.pointer),Aj (fun w=>Ay w p8 t (kQ t 20)),Aj (fun w=>Ay w p7 t H7),Aj (fun w=>Ay w p6 t H6),Aj (fun w=>Ay w p2 t (kc t)),Aj (fun w=>Ay w p1 t (cp t)),Aj (fun w=>Ay w p0 t (bO t)),Ad pt 26 [a,b,c,d]]:=hw;have gX:Sat w0 w [Aj (fun w=>Ay w p8 t (kQ t 20)),Aj (fun w=>Ay w p7 t H7),Aj (fun w=>Ay w p6 t H6),Aj (fun w=>Ay w p2 t (kc t)),Aj (fun w=>Ay w p1 t (cp t)),Aj (fun w=>Ay w p0 t (bO t)),OS al 36 lv ([some p0,some p1,some p2,some p3,some p4,some p5,some p6,some p7,some p8].map Value.pointer)]:=ct.aT;have yq:=Sat.rd (Δ:=[Aj (fun w=>Ay w p8 t (kQ t 20)),Aj (fun w=>Ay w p7 t H7),Aj (fun w=>Ay w p6 t H6),Aj (fun w=>Ay w p2 t (kc t)),Aj (fun w=>Ay w p1 t (cp t)),Aj (fun w=>Ay w p0 t (bO t))]) (φ:=fun w=>Bx w [some p0,some p1,some p2,some p3,some p4,some p5,some p6,some p7,some p8] t [bO t,cp t,kc t,kc t,kc t,kc t,H6,H7,kQ t 20]) (fun _ w h=>qwE ⟨p0,rfl,h.dM 5 rfl⟩ ⟨p1,rfl,h.dM 4 rfl⟩ ⟨p6,rfl,h.dM 2 rfl⟩ ⟨p7,rfl,h.dM 1 rfl⟩ ⟨p8,rfl,h.dM 0 rfl⟩) gX
 exact dz (v:=lv) (v':=.bool true) rfl rfl rfl ⟨lv,[some p0,some p1,some p2,some p3,some p4,some p5,some p6,some p7,some p8],[bO t,cp t,kc t,kc t,kc t,kc t,H6,H7,kQ t 20],rfl,⟨rfl,rfl,qwE ⟨qm0 hg,qnR hg⟩ ⟨qvp hg,qog hg⟩ ⟨hA6,hQ6⟩ ⟨hA7,hQ7⟩ ⟨(qtQ hg hE8).1,(qtQ hg hE8).2.1⟩⟩,yq.aT⟩
end Go.Proofs.YtmapkjoefdgjfaaGreatDoor
