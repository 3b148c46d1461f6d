/-
  The example with which the statements about whole tasks begin.
-/
import Derived.Test.YtmapkjoefdgjfaaGreatDoorWI47
set_option linter.unusedSimpArgs false
set_option linter.unusedVariables false
set_option maxRecDepth 8000
set_option maxHeartbeats 16000000
open List Nat
namespace Go.Proofs.YtmapkjoefdgjfaaGreatDoor
open Go.Sl Go
attribute [local irreducible] vc opsW opsD opV opW PureV ReadV Thn Blk
def dy:Aa:=⟨[2],[0],[⟨0,1⟩],[⟨ByteArray.empty,2,[],[⟨[],0,1⟩]⟩]⟩
theorem wh:Af dy:=by
 refine⟨by decide,by decide,by decide,by decide,by decide,fun i hi=>?_⟩;have h0:i=0:=by simp[dy]at hi;omega
 subst h0;refine⟨by decide,by decide,by decide,⟨le_of_ble_eq_true rfl,fun i hi=>absurd hi (not_lt_zero _)⟩,by decide,fun j hj=>?_⟩;have h1:j=0:=by simp[dy]at hj;omega
 subst h1;exact⟨by decide,by decide⟩
theorem quv:bh dy=[⟨0,0,2,1,[]⟩]:=rfl
theorem xG:ay dy=2:=rfl
theorem quw:AW dy [0] [0,2]:=by
 have cu:BF dy.vars [0] 0:=⟨0,by decide,rfl⟩
 refine qqy (by decide) (fun g h0 h1=>?_) (qF wh) (fun g hg=>?_) (fun i hi=>?_) (fun g h0 h1 h2=>?_)
 ·rw[xG]at h1
  have h3:g=0\/g=1:=by omega
  rcases h3 with rfl|rfl<;>decide
 ·obtain⟨v,hv,rfl⟩:=hg
  have:v=0:=by simp[dy]at hv;exact hv
  subst this;decide
 ·rw[quv]at hi ⊢
  have h3:i=0:=by simp at hi;omega
  subst h3;decide
 ·rw[xG]at h1
  have d0:Be (bh dy) (BF dy.vars [0]) 0 0:=.start cu;have d1:Be (bh dy) (BF dy.vars [0]) 1 2:=.gK (i:=0) (v:=fun _=>0) (m:=0) (by decide) (by decide) (fun n hn=>by rw[quv]at hn;exact absurd hn not_mem_nil) (fun _ _=>Int.le_refl _);have h3:g=0\/g=1:=by omega
  rcases h3 with rfl|rfl
  ·exact d0
  ·exact d1
theorem xH:Ac dy.vars [0]:=by decide
theorem qxw:j4 dy (cp dy) [0]=2:=by unfold j4;rw[if_pos xH,tM xH quw];decide
theorem qxx:j4 dy (kc dy) [0]=2:=by
 unfold j4;rw[if_pos xH];obtain⟨r,hr⟩:=qm8 wh xH;have pS:CG dy (bm dy [0] 0) [] 0:=.goal (by decide);have hp:CG dy [0] [((0:Nat):Int)] (pJ dy 0+0):=.step (op:=0) (by decide) (by decide) pS;have hle:=qv7 wh hp;have he:=qE xH hr;rw[he]at hle ⊢;have e2:pJ dy 0+0=2:=by decide
 rw[e2]at hle;have j6:bQ dy.vars dy.goal [0,2]=2:=by decide
 have key:∀ V,AW (aF dy (ar dy)) [0] V->bQ dy.vars dy.goal V=2:=fun V hV=>by
  rw[qhR wh]at hV;rw[<-tM xH hV,tM xH quw,j6]
 have gg:=qbA wh;have lA:(ar dy).getD 0 aa.dflt=2:=by decide
 obtain⟨cs,jM⟩:∃ cs,cs=ar dy:=⟨_,rfl⟩
 rw[<-jM]at hr key gg lA;clear he
 cases hr with
 | dead hV hM=>exact absurd hle.1 (by decide)
 | done hV hM=>have:=key _ hV;omega
 | @step _ V g0 K c r' hV h0 hf eQ hK mr cV j1 =>
  have x:=qgB wh xH gg hV h0 hf eQ;obtain⟨j,hj,hjc⟩:=cV.1;have qU:j=0:=by
   have:=((hK j).1 hj).1;have e:dy.ops.length=1:=rfl;omega
  subst qU;rw[lA]at hjc;have eN:=hjc.2
  cases r' with
  | none=>exact absurd hle.1 (Int.lt_irrefl inf)
  | some l =>
   have h1:=(qqn wh j1 (qe2 gg cV) l rfl).1;have h2:tO (Option.map ((K,c)::·) (some l))=c+jL l:=rfl;rw[h2]at hle ⊢;omega
theorem qcB {w0:World} :
  Calls Tryz.prog 9 #[] w0 fun e w'=>e=.returned (.bool true)/\Sat w0 w' []:=by
 have hw:=Sat.start w0;refine bn (args:=[]) mixed Tryz.func9 ?_
 repeat (first|refine bV ?_|(refine cB ?_;clear hw;intro s w hw))
 obtain⟨si,tf⟩:∃ q,q=s:=⟨s,rfl⟩
 subst tf;refine jh aq (x1:=⟨0,1⟩) rfl rfl rfl (le_of_ble_eq_true rfl) (zero_lt_succ _) hw ?_;clear hw;intro sf w hw;obtain⟨sv,mH⟩:∃ q,q=s:=⟨s,rfl⟩
 subst mH;refine ab ?_;refine jh aR (x1:=⟨.slice none 0 0,0,1⟩) rfl rfl rfl (le_of_ble_eq_true rfl) (zero_lt_succ _) hw ?_;clear hw;intro se w hw;have oe:=(hw.rs 0 rfl).one;refine wA (v1:=.int .i64 2) (v2:=se) rfl rfl rfl (by simp only[all_cons,all_nil,oe];rfl) ?_;refine jh bJ (x1:=⟨ByteArray.empty,2,.slice none 0 0,se⟩) rfl rfl rfl (le_of_ble_eq_true rfl) (zero_lt_succ _) hw ?_;clear hw;intro so w hw;have o1:=(hw.rs 0 rfl).one;have o2:=(hw.rs 2 rfl).one;have o3:=(hw.rs 3 rfl).one;have o4:=(hw.rs 4 rfl).one;refine iN (parts:=[(0,.tmp 6),(1,.tmp 7),(2,.tmp 9),(3,.tmp 13)]) (vs:=[(0,sv),(1,si),(2,sf),(3,so)]) rfl rfl (by simp only[all_cons,all_nil,o1,o2,o3,o4];rfl) ?_;refine qfB ?_;clear hw;intro p0 w hw;refine gZ (n:=4) (p:=p0) (vs:=[sv,si,sf,so]) rfl rfl hw inferInstance rfl rfl (by simp only[all_cons,all_nil,o1,o2,o3,o4];rfl) ?_;clear hw;intro w hw;have ct:Sat w0 w [OS bJ 44 so [⟨ByteArray.empty,2,.slice none 0 0,se⟩],OS aR 61 se [⟨.slice none 0 0,0,1⟩],OS aq 63 sf [⟨0,1⟩],OS aa 3 si [0],OS aa 3 sv [2],Ad p0 26 [sv,si,sf,so]]:=by
  have bb:Sat w0 w [Ad p0 26 [sv,si,sf,so],OS bJ 44 so [⟨ByteArray.empty,2,.slice none 0 0,se⟩],OS aR 61 se [⟨.slice none 0 0,0,1⟩],OS aq 63 sf [⟨0,1⟩],OS aa 3 si [0],OS aa 3 sv [2]]:=hw;exact bb.aT
 have gX:=Sat.rd (Δ:=[OS bJ 44 so [⟨ByteArray.empty,2,.slice none 0 0,se⟩],OS aR 61 se [⟨.slice none 0 0,0,1⟩],OS aq 63 sf [⟨0,1⟩],OS aa 3 si [0],OS aa 3 sv [2]]) (φ:=fun w=>Am w sv si sf so [⟨ByteArray.empty,2,.slice none 0 0,se⟩] dy) (fun _ w h=>⟨h.rs 4 rfl,h.rs 3 rfl,h.rs 2 rfl,⟨h.rs 0 rfl,rfl,fun i hi=>by
  have h0:i=0:=by simp[dy]at hi;omega
  subst h0;rw[n0];refine⟨rfl,le_of_ble_eq_true rfl,rfl,RS.nil,[⟨.slice none 0 0,0,1⟩],h.rs 1 rfl,rfl,fun j hj=>?_⟩;have h0:j=0:=by simp[dy]at hj;exact hj
  subst h0;rw[n0]
  exact⟨rfl,rfl,RS.nil⟩⟩⟩) ct
 clear hw ct;have hw:Sat w0 w [Aj (fun w=>Am w sv si sf so [⟨ByteArray.empty,2,.slice none 0 0,se⟩] dy),Ad p0 26 [sv,si,sf,so]]:=gX;clear gX;refine ab ?_;refine aJ rfl (qk4 (hw.dM 0 rfl) wh) ?_;rintro _ w' ⟨p1,rfl,aj⟩;refine aA ?_;clear aj hw;intro hw;refine ab ?_;refine aJ rfl (qnF (hw.dM 1 rfl) wh) ?_;rintro _ w' ⟨p2,rfl,aj⟩;refine aA ?_;clear aj hw;intro hw;refine nV ?_;clear hw;intro s w hw;refine aJ rfl (qd6 (hw.dM 2 rfl) (aM (s:=s) hw)) ?_;refine mf ?_;clear hw;intro w' hw;rw[qxw];refine nV ?_;clear hw;intro s w hw;refine aJ rfl (qd6 (hw.dM 2 rfl) (aM (s:=s) hw)) ?_;refine mf ?_;clear hw;intro w' hw;rw[qxx];refine ab ?_;exact aW (v:=.bool true) rfl rfl ⟨rfl,lB hw⟩
end Go.Proofs.YtmapkjoefdgjfaaGreatDoor
