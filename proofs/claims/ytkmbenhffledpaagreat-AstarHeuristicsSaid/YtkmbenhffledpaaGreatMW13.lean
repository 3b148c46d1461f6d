/-
  Several texts as one: WSucG, TAstR, TAstC, WARun.
-/
import Derived.Test.YtkmbenhffledpaaGreatMW12
import Derived.Test.YtkmbenhffledpaaGreatMTA
import Derived.Test.YtkmbenhffledpaaGreatMW11
import Derived.Test.YtkmbenhffledpaaGreatMW6
import Derived.Test.YtkmbenhffledpaaGreatMW7
import Derived.Test.YtkmbenhffledpaaGreatMW3
set_option linter.unusedSimpArgs false
set_option linter.unusedVariables false
/-
  Contracts of 'succgen.New', 'collect', 'find', 'Applicable', 'Successors'.
-/
namespace Go.Proofs.YtkmbenhffledpaaGreat
open Go.Sl Go
attribute [local irreducible] vc opsW opsD opV opW PureV ReadV Thn Blk
def RGen (w:World) (p:Addr) (t:TTask):Prop:=∃ a b c d ra vs,BoxR w p [a,b,c,d,.pointer ra]∧RTask w a b c d vs t∧RNode t w (t.vars.length+1) ra (upTo (t.ops.length:Int)) 0
theorem RGen.at {w0 w:World}{Γ:List HP}{p:Addr}{t:TTask}(h:RGen w0 p t) (hw:Sat w0 w Γ):RGen w p t:=by
 obtain⟨a,b,c,d,ra,vs,h1,h2,h3⟩:=h
 exact⟨a,b,c,d,ra,vs,h1.at hw,h2.at hw,h3.at hw⟩
theorem qqC {n:Nat}:∀ op∈upTo (n:Int),0≤op∧op<n:=fun op h=>by
 unfold upTo at h
 simp only [List.mem_map,List.mem_range,Int.toNat_natCast] at h
 obtain⟨k,hk,rfl⟩:=h
 omega
set_option maxRecDepth 8000 in
set_option maxHeartbeats 4000000 in
theorem qkc {w0:World}{a b c d:Value}{vs:List OpV}{t:TTask}(ht:RTask w0 a b c d vs t) (hg:GoodT t) :
  Calls Tryz.prog 73 #[.agg #[a,b,c,d]] w0 fun e w'=>∃ p,e=.returned (.tuple #[.pointer (some p),.nilIface])∧Sat w0 w' [RdH fun w=>RGen w p t]:=by
 have hol:=hg.ops
 have hw:=Sat.start w0
 refine qab (args:=[.agg #[a,b,c,d]]) mixed Tryz.func73 rfl (by kernel_rfl) (Nat.le_of_ble_eq_true rfl) ?_
 repeat (first|refine qaa ?_|(refine qaf ?_;clear hw;intro p w hw))
 obtain⟨pt,hpt⟩:∃ pt,pt=p:=⟨p,rfl⟩
 subst hpt
 refine qac rfl (qa6 (ht.at hw)) ?_
 rintro _ w' ⟨rfl,hk'⟩
 replace hw:=hw.call0 hk'
 clear hk'
 refine⟨_,rfl,?_⟩
 rw [qaT ((qbk t).2 hg)]
 repeat refine qaa ?_
 refine qac rfl (qkb (ht.at hw) hg) ?_
 rintro _ w' ⟨a2,b2,c2,d2,vs2,rfl,hk'⟩
 replace hw:=hw.call1 hk'
 clear hk'
 refine⟨_,rfl,?_⟩
 repeat refine qaa ?_
 refine qa8 (vs:=[(0,.agg #[a2,b2,c2,d2])]) (ls:=[(0,[a2,b2,c2,d2])]) rfl rfl rfl ?_
 refine qaV (vs:=[a2,b2,c2,d2,.pointer none]) rfl hw ?_
 clear hw
 intro pg w hw
 have hw1:Sat w0 w [OS tInt 3 (.slice none 0 0) (upTo ((0:Nat):Int)),Box pg 192 [a2,b2,c2,d2,.pointer none],RdH (fun w=>RTask w a2 b2 c2 d2 vs2 t)]:=by
  have h1:Sat w0 w [Box pg 192 [a2,b2,c2,d2,.pointer none],RdH (fun w=>RTask w a2 b2 c2 d2 vs2 t),Box pt 26 [a,b,c,d]]:=hw
  have h2:Sat w0 w [OS tInt 3 (.slice none 0 0) [],Box pg 192 [a2,b2,c2,d2,.pointer none],RdH (fun w=>RTask w a2 b2 c2 d2 vs2 t)]:=(h1.nil (T:=tInt) (e:=3)).sel
  exact h2
 have ht2:RTask w a2 b2 c2 d2 vs2 t:=hw1.rdE 2 rfl
 have hd2:=ht2.ops.rs
 have hl2:=ht2.ops.len
 clear hw
 have hw:=hw1
 clear hw1
 repeat refine qaa ?_
 refine qao [6,7,23,24,25,26,27,28,29,30] (G:=Nat) (H:=Value) (fun k av=>[(23,.int .i64 k),(6,av)]) (fun k av w=>k≤t.ops.length∧Sat w0 w [OS tInt 3 av (upTo (k:Int)),Box pg 192 [a2,b2,c2,d2,.pointer none],RdH (fun w=>RTask w a2 b2 c2 d2 vs2 t)]) (fun k _=>t.ops.length-k) 0 (.slice none 0 0) (fun _ _=>rfl) ⟨rfl,rfl,trivial⟩ ⟨Nat.zero_le _,hw⟩ ?_
 clear hw
 rintro σ k av w ⟨hk,hw⟩
 have hul:(upTo (k:Int)).length=k:=by simp [upTo]
 repeat refine qaa ?_
 refine go_if (fun h1 => ?_) (fun h1 => ?_)
 ·have hkl:k<t.ops.length:=by omega
  repeat (first|refine qaa ?_|(refine qaq ?_;clear hw;intro s w hw))
  rw [←qoi] at hw
  exact⟨k+1,_,⟨rfl,rfl,trivial⟩,agr,⟨by omega,hw.tail⟩,by omega⟩
 have hke:k=t.ops.length:=by omega
 subst hke
 repeat refine qaa ?_
 have hG:GenT w pg t:=⟨a2,b2,c2,d2,_,vs2,hw.boxR 1 rfl,hw.rdE 2 rfl⟩
 refine qac rfl (qhX hg (t.vars.length+1) _ pg av (upTo (t.ops.length:Int)) 0 hG (rsO hw) qqC (by omega) (Nat.zero_le _) (by omega)) ?_
 rintro _ w' ⟨ra,rfl,hk'⟩
 replace hw:=hw.call1 hk'
 clear hk'
 refine⟨_,rfl,?_⟩
 repeat (first|refine qaa ?_|(refine qag ?_;clear hw;intro w hw))
 have h1:Sat w0 w [RdH (fun w=>RS tInt w av (upTo (t.ops.length:Int))→RNode t w (t.vars.length+1) ra (upTo (t.ops.length:Int)) 0),OS tInt 3 av (upTo (t.ops.length:Int)),Box pg 192 [a2,b2,c2,d2,.pointer ra],RdH (fun w=>RTask w a2 b2 c2 d2 vs2 t)]:=hw
 have h2:=Sat.rd (Γ:=[]) (Δ:=[RdH (fun w=>RS tInt w av (upTo (t.ops.length:Int))→RNode t w (t.vars.length+1) ra (upTo (t.ops.length:Int)) 0),OS tInt 3 av (upTo (t.ops.length:Int)),Box pg 192 [a2,b2,c2,d2,.pointer ra],RdH (fun w=>RTask w a2 b2 c2 d2 vs2 t)]) (φ:=fun w=>RGen w pg t) (fun _ w h=>⟨a2,b2,c2,d2,ra,vs2,h.boxR 2 rfl,h.rdE 3 rfl,(h.rdE 0 rfl) (h.rs 1 rfl)⟩) h1
 exact qav (v:=.pointer (some pg)) (v':=.nilIface) rfl rfl rfl ⟨pg,rfl,h2⟩
theorem qlS {t:TTask}{s:List Int}{f:Nat}{ops:List Int}{v:Nat}(hv:v≤t.vars.length) (hf:t.vars.length-v<f):(colV t s f ops v).length≤ops.length:=by
 rw [(qd0 hv hf).length_eq]
 exact List.length_filter_le _ _
set_option maxRecDepth 8000 in
set_option maxHeartbeats 8000000 in
theorem qkd {t:TTask}{w0:World}{sv:Value}{z:List Int}(hg:GoodT t) (hs:RS tInt w0 sv z) (hok:StateOk t.vars z) {wb:World}(hsb:∃ Γ0,Sat w0 wb Γ0):∀ (f:Nat) (nv:Option Addr) (ops:List Int) (v:Nat) (w:World) (ov lv:Value) (out:List Int) (ll:List Bool) (Γ:List HP),
  RNode t w0 f nv ops v→v≤t.vars.length→t.vars.length-v<f→ll.length=t.vars.length→out.length+ops.length≤8192→Sat w0 w (OS tInt 3 ov out::OS tBool 4 lv ll::Γ) →
  Calls Tryz.prog 172 #[.pointer nv,ov,sv,lv] w fun e w'=>∃ ov' ll',e=.returned ov'∧ll'.length=t.vars.length∧Sat w0 w' (OS tInt 3 ov' (out++colV t z f ops v)::OS tBool 4 lv ll'::Γ):=by
 intro f
 induction f with
 | zero=>intro nv ops v w ov lv out ll Γ hN;exact absurd hN id
 | succ f ih =>
  intro nv ops v w ov lv out ll Γ hN hv hf hll hlen hw
  have hvl:=hg.vars
  obtain⟨n1,n2,n3,n4⟩:=qdn (t:=t) (ops:=ops) (f:=t.vars.length-v) (v:=v)
  rcases hN with ⟨he,rfl⟩|⟨hne,p,rfl,⟨hnx,ov2,hb,hr⟩|⟨hnx,vv,ra,vl,hb,hr,hvl2,hrest,hch⟩⟩
  ·have hcol:colV t z (f+1) ops v=[]:=by rw [colV,if_pos he]
   refine qab (args:=[.pointer none,ov,sv,lv]) mixed Tryz.func172 rfl (by kernel_rfl) (Nat.le_of_ble_eq_true rfl) ?_
   repeat refine qaa ?_
   exact qae (v:=ov) rfl rfl ⟨ov,ll,rfl,hll,by rw [hcol,List.append_nil];exact hw⟩
  ·have hcol:colV t z (f+1) ops v=ops:=by rw [colV,if_neg hne,if_pos hnx]
   refine qab (args:=[.pointer (some p),ov,sv,lv]) mixed Tryz.func172 rfl (by kernel_rfl) (Nat.le_of_ble_eq_true rfl) ?_
   repeat (first|refine qaa ?_|(refine qaq ?_;clear hw;intro s w hw))
   exact qae (v:=s) rfl rfl ⟨s,ll,rfl,hll,by rw [hcol];exact hw⟩
  ·refine qab (args:=[.pointer (some p),ov,sv,lv]) mixed Tryz.func172 rfl (by kernel_rfl) (Nat.le_of_ble_eq_true rfl) ?_
   have hzl:=hok.1
   have hz:=hok.2 (nxV t ops v) (by omega)
   obtain⟨x,hx⟩:∃ x:Nat,z.getD (nxV t ops v) tInt.dflt=(x:Int):=⟨(z.getD (nxV t ops v) tInt.dflt).toNat,by omega⟩
   have hxl:x<vl.length:=by omega
   have hvml:(vl.map Value.pointer).length=vl.length:=List.length_map _
   have hcol:colV t z (f+1) ops v=colV t z f (byV t ops (nxV t ops v) (x:Int)) (nxV t ops v+1)++colV t z f (restV t ops (nxV t ops v)) (nxV t ops v+1):=by rw [colV,if_neg hne,if_neg (show ¬nextV t ops (t.vars.length-v) v=t.vars.length from Nat.ne_of_lt hnx)];rw [←hx]
   have hvg:vget (vl.map Value.pointer) x=.pointer (vl.getD x none):=by
    rw [qa7]
    simp [List.getD,hxl]
   have n1':v≤nxV t ops v:=n1
   have hfu:t.vars.length-(nxV t ops v+1)<f:=by omega
   have hc1:=qlS (t:=t) (s:=z) (f:=f) (ops:=byV t ops (nxV t ops v) (x:Int)) (v:=nxV t ops v+1) (by omega) hfu
   have hb1:(byV t ops (nxV t ops v) (x:Int)).length+(restV t ops (nxV t ops v)).length≤ops.length:=by
    have key:∀ l:List Int,(byV t l (nxV t ops v) (x:Int)).length+(restV t l (nxV t ops v)).length≤l.length:=by
     intro l
     induction l with
     | nil=>simp [byV,restV]
     | cons y l ih2 =>
      unfold byV restV at ih2 ⊢
      simp only [List.filter_cons]
      cases hp:preV t y (nxV t ops v) with
      | none =>
       rw [if_neg (by simp),if_pos (by rfl)]
       simp only [List.length_cons];omega
      | some q =>
       by_cases e:q=(x:Int)
       ·rw [if_pos (by simp [e]),if_neg (by simp)]
        simp only [List.length_cons];omega
       ·rw [if_neg (by simp [e]),if_neg (by simp)]
        exact Nat.le_succ_of_le ih2
    exact key ops
   repeat (first|refine qaa ?_|(refine qag ?_;clear hw;intro w hw))
   refine qas [.op 0,.op 1,.op 2,.op 3,.op 4,.op 5,.op 6,.op 7,.op 8,.op 9,.op 10,.op 11,.op 12,.op 13,.op 14,.op 15,.op 16,.op 17,.op 18,.op 19,.op 20,.chk 3,.op 21,.op 22,.op 23,.op 24] hw (by kernel_rfl) ?_;clear hw;intro w hw
   repeat refine qaa ?_
   have hvg':vget (vl.map Value.pointer) (z.getD (nxV t ops v) tInt.dflt).toNat=.pointer (vl.getD x none):=by rw [hx,Int.toNat_natCast];exact hvg
   rw [hvg']
   refine qac rfl (ih (vl.getD x none) (byV t ops (nxV t ops v) (x:Int)) (nxV t ops v+1) _ ov lv out _ Γ (hch x hxl) (by omega) hfu (by rw [List.length_set];exact hll) (by omega) hw) ?_
   clear hw
   rintro _ w ⟨ov1,ll1,rfl,hl1,hw⟩
   refine⟨_,rfl,?_⟩
   repeat refine qaa ?_
   refine qac rfl (ih ra (restV t ops (nxV t ops v)) (nxV t ops v+1) _ ov1 lv _ ll1 Γ hrest (by omega) hfu hl1 (by rw [List.length_append];omega) hw) ?_
   clear hw
   rintro _ w ⟨ov3,ll3,rfl,hl3,hw⟩
   refine⟨_,rfl,?_⟩
   repeat refine qaa ?_
   exact qae (v:=ov3) rfl rfl ⟨ov3,ll3,rfl,hl3,by rw [hcol,←List.append_assoc];exact hw⟩
def appL (t:TTask) (s:List Int):List Int:=(succsL t s).map fun (o:Nat)=>(o:Int)
open Classical in
theorem qsE {t:TTask}{s:List Int}(hg:GoodT t) (hok:StateOk t.vars s):sortL (colV t s (t.vars.length+1) (upTo (t.ops.length:Int)) 0)=appL t s:=by
 refine qoB ?_ (qfw _) (qmR t s)
 have h1:=qd0 (t:=t) (s:=s) (f:=t.vars.length+1) (ops:=upTo (t.ops.length:Int)) (v:=0) (Nat.zero_le _) (by omega)
 have h2:=qqH hg hok
 refine (List.mergeSort_perm _ _).trans (h1.trans ?_)
 rw [h2]
 exact List.Perm.refl _
theorem qqD {t:TTask}{s:List Int}:∀ op∈appL t s,0≤op∧op<t.ops.length:=fun op h=>by
 unfold appL at h
 obtain⟨k,hk,rfl⟩:=List.mem_map.1 h
 have:=(qb8.1 hk).1
 omega
theorem qqE {t:TTask}{s:List Int}:(appL t s).length≤t.ops.length:=by
 unfold appL succsL
 rw [List.length_map]
 have:=List.length_filter_le (fun op=>decide (AppT t s op)) (List.range t.ops.length)
 rwa [List.length_range] at this
set_option maxRecDepth 8000 in
set_option maxHeartbeats 8000000 in
theorem qnl {t:TTask}{w0:World}{pg:Addr}{sv:Value}{z:List Int}(hG:RGen w0 pg t) (hg:GoodT t) (hs:RS tInt w0 sv z) (hok:StateOk t.vars z) :
  Calls Tryz.prog 159 #[.pointer (some pg),sv] w0 fun e w'=>∃ ov m,e=.returned (.tuple #[ov,.int .i64 m])∧Sat w0 w' [OS tInt 3 ov (appL t z)]:=by
 obtain⟨a,b,c,d,ra,vs,hb,ht,hN⟩:=hG
 have ha:=ht.vars
 have hvl:=hg.vars
 have hol:=hg.ops
 have hzl:=hok.1
 have hw:=Sat.start w0
 refine qab (args:=[.pointer (some pg),sv]) mixed Tryz.func159 rfl (by kernel_rfl) (Nat.le_of_ble_eq_true rfl) ?_
 repeat refine qaa ?_
 refine qac rfl (qbd (ha.at hw) (hs.at hw)) ?_
 rintro _ w' ⟨⟨r,rfl,hr⟩,hk'⟩
 replace hw:=hw.call0 hk'
 clear hk'
 refine⟨_,rfl,?_⟩
 have hrt:r=true:=hr.2 hok
 subst hrt
 repeat (first|refine qaa ?_|(refine qaq ?_;clear hw;intro s w hw))
 have hw1:=hw.nil (T:=tInt) (e:=3)
 refine qac rfl (qkd hg hs hok (wb:=w0) ⟨[],Sat.start w0⟩ (t.vars.length+1) ra (upTo (t.ops.length:Int)) 0 _ (.slice none 0 0) s [] _ [] hN (Nat.zero_le _) (by omega) (by rw [List.length_replicate];omega) (by rw [qid];simp;omega) hw1) ?_
 clear hw hw1
 rintro _ w ⟨ov,ll,rfl,hll,hw⟩
 refine⟨_,rfl,?_⟩
 rw [List.nil_append] at hw
 have hcl:=qlS (t:=t) (s:=z) (f:=t.vars.length+1) (ops:=upTo (t.ops.length:Int)) (v:=0) (Nat.zero_le _) (by omega)
 have hupl:=qid (t.ops.length:Int)
 repeat refine qaa ?_
 refine qac rfl (qdj (s:=ov) hw (by omega)) ?_
 clear hw
 rintro _ w ⟨rfl,hw⟩
 refine⟨_,rfl,?_⟩
 rw [qsE hg hok] at hw
 repeat refine qaa ?_
 refine qao [8,10,37,38,39,40,41,42,43,44] (G:=Nat) (H:=Int) (fun k m=>[(37,.int .i64 k),(8,.int .i64 m)]) (fun k m w=>k≤t.vars.length∧0≤m∧m≤k∧Sat w0 w [OS tInt 3 ov (appL t z),OS tBool 4 s ll]) (fun k _=>t.vars.length-k) 0 0 (fun _ _=>rfl) ⟨rfl,rfl,trivial⟩ ⟨Nat.zero_le _,Int.le_refl _,Int.le_refl _,hw⟩ ?_
 clear hw
 rintro σ k m w ⟨hk,hm0,hm1,hw⟩
 repeat refine qaa ?_
 refine go_if (fun h1 => ?_) (fun h1 => ?_)
 ·have hkl:k<t.vars.length:=by omega
  repeat refine qaa ?_
  cases hb9:ll.getD k tBool.dflt
  ·repeat refine qaa ?_
   exact⟨k+1,m,⟨rfl,rfl,trivial⟩,agr,⟨by omega,hm0,by omega,hw⟩,by omega⟩
  ·repeat refine qaa ?_
   exact⟨k+1,m+1,⟨rfl,rfl,trivial⟩,agr,⟨by omega,by omega,by omega,hw⟩,by omega⟩
 repeat refine qaa ?_
 exact qav (v:=ov) (v':=.int .i64 m) rfl rfl rfl ⟨ov,m,rfl,hw.sel⟩
set_option maxRecDepth 8000 in
theorem qgG {t:TTask}{w0:World}{pg:Addr}{sv:Value}{z:List Int}(hG:RGen w0 pg t) (hg:GoodT t) (hs:RS tInt w0 sv z) (hok:StateOk t.vars z) :
  Calls Tryz.prog 130 #[.pointer (some pg),sv] w0 fun e w'=>∃ ov,e=.returned ov∧Sat w0 w' [OS tInt 3 ov (appL t z)]:=by
 have hw:=Sat.start w0
 refine qab (args:=[.pointer (some pg),sv]) mixed Tryz.func130 rfl (by kernel_rfl) (Nat.le_of_ble_eq_true rfl) ?_
 repeat refine qaa ?_
 refine qac rfl (qnl hG hg hs hok) ?_
 rintro _ w' ⟨ov,m,rfl,hk'⟩
 replace hw:=hw.call1 hk'
 clear hk'
 refine⟨_,rfl,?_⟩
 repeat refine qaa ?_
 exact qae (v:=ov) rfl rfl ⟨ov,rfl,hw⟩
structure SucV where
 op:Int
 st:Value
def tSuc:Ty SucV:=⟨2,fun x=>[.int .i64 x.op,x.st],fun _=>rfl,⟨0,.slice none 0 0⟩⟩
instance inWSucG1:ShutT tSuc:=⟨trivial⟩
def SucF (t:TTask) (z L:List Int) (k:Nat) (us:List SucV) (w:World):Prop:=∀ i,i<k→(eget tSuc us i).op=L.getD i tInt.dflt∧RS tInt w (eget tSuc us i).st (succT t z (L.getD i tInt.dflt).toNat)
theorem SucF.step {t:TTask}{z L:List Int}{k:Nat}{us:List SucV}{w:World}{v:SucV}(h:SucF t z L k us w) (hl:us.length=k) (h1:v.op=L.getD k tInt.dflt) (h2:RS tInt w v.st (succT t z (L.getD k tInt.dflt).toNat)):SucF t z L (k+1) (us++[v]) w:=fun i hi=>by
 rw [qh3]
 by_cases e:i<k
 ·rw [if_pos (by omega)];exact h i e
 ·have e2:i=k:=by omega
  rw [if_neg (by omega),if_pos (by omega),e2];exact⟨h1,h2⟩
structure RSuc (w:World) (t:TTask) (z:List Int) (sl:Value) (us:List SucV):Prop where
 rs:RS tSuc w sl us
 len:us.length=(appL t z).length
 at_:SucF t z (appL t z) (appL t z).length us w
set_option maxRecDepth 8000 in
set_option maxHeartbeats 8000000 in
theorem qgH {t:TTask}{w0:World}{pg:Addr}{sv:Value}{z:List Int}(hG:RGen w0 pg t) (hg:GoodT t) (hs:RS tInt w0 sv z) (hok:StateOk t.vars z) :
  Calls Tryz.prog 96 #[.pointer (some pg),sv] w0 fun e w'=>∃ sl us,e=.returned sl∧Sat w0 w' [RdH fun w=>RSuc w t z sl us]:=by
 have hG':=hG
 obtain⟨a,b,c,d,ra,vs,hb,ht,hN⟩:=hG
 have hdr:=ht.ops.rs
 have hdl:=ht.ops.len
 have hvl:=hg.vars
 have hol:=hg.ops
 have hzl:=hok.1
 have hal:=qqE (t:=t) (s:=z)
 have hw:=Sat.start w0
 refine qab (args:=[.pointer (some pg),sv]) mixed Tryz.func96 rfl (by kernel_rfl) (Nat.le_of_ble_eq_true rfl) ?_
 repeat refine qaa ?_
 refine qac rfl (qgG (hG'.at hw) hg (hs.at hw) hok) ?_
 rintro _ w' ⟨ov,rfl,hk'⟩
 replace hw:=hw.call1 hk'
 clear hk'
 refine⟨_,rfl,?_⟩
 have hw1:Sat w0 w' [OS tSuc 180 (.slice none 0 0) [],RdH (SucF t z (appL t z) 0 []),OS tInt 3 ov (appL t z)] :=
  (Sat.rd0 (φ:=SucF t z (appL t z) 0 []) (fun w i hi=>absurd hi (Nat.not_lt_zero _)) hw).nil
 clear hw
 have hw:=hw1
 clear hw1
 repeat refine qaa ?_
 refine qay [5,7,8,10,15,16,17,18,19,20,21,22,23,24,25,26,27,28,29,30,31,32,33,34,35,36,37,38,39,40,41,42,43,44,45,46,47,48,49,50,51,52] (G:=Nat) (H:=Value) (I:=List SucV) (fun k sl _=>[(15,.int .i64 k),(5,sl)]) (fun k sl us w=>k≤(appL t z).length∧us.length=k∧Sat w0 w [OS tSuc 180 sl us,RdH (SucF t z (appL t z) k us),OS tInt 3 ov (appL t z)]) (fun k _ _=>(appL t z).length-k) 0 (.slice none 0 0) [] (fun _ _ _=>rfl) ⟨rfl,rfl,trivial⟩ ⟨Nat.zero_le _,rfl,hw⟩ ?_
 clear hw
 rintro σ k sl us w ⟨hk,hul,hw⟩
 repeat refine qaa ?_
 refine go_if (fun h1 => ?_) (fun h1 => ?_)
 ·have hkl:k<(appL t z).length:=by omega
  have hopk:=qqD _ (qak tInt.dflt hkl)
  obtain⟨o,hoe⟩:∃ o:Nat,(appL t z).getD k tInt.dflt=(o:Int):=⟨((appL t z).getD k tInt.dflt).toNat,by omega⟩
  have hol2:o<t.ops.length:=by omega
  have hop:=ht.ops.at_ o hol2
  have hoo:=hg.op o hol2
  have heb:=hoo.effs
  obtain⟨es,hes⟩:=hop.effs
  have hesr:=hes.rs
  have hesl:=hes.len
  repeat refine qaa ?_
  refine qac rfl (qax (hs.at hw) (by omega)) ?_
  rintro _ w' ⟨nv,rfl,hk'⟩
  replace hw:=hw.call1 hk'
  clear hk'
  refine⟨_,rfl,?_⟩
  rw [hoe]
  repeat refine qaa ?_
  rw [show z=effsL z ((t.ops.getD o dOp).effs.take 0) from rfl] at hw
  refine qap [10,31,32,33,34,35,36,37,38,39,40,41,42,43,44,45] (G:=Nat) (fun j=>[(31,.int .i64 j)]) (fun j w=>j≤(t.ops.getD o dOp).effs.length∧Sat w0 w [OS tInt 3 nv (effsL z ((t.ops.getD o dOp).effs.take j)),OS tSuc 180 sl us,RdH (SucF t z (appL t z) k us),OS tInt 3 ov (appL t z)]) (fun j=>(t.ops.getD o dOp).effs.length-j) 0 (fun _=>rfl) ⟨rfl,trivial⟩ ⟨Nat.zero_le _,hw⟩ ?_
  clear hw
  rintro σ1 j w ⟨hj,hw⟩
  have hel:=qdZ z ((t.ops.getD o dOp).effs.take j)
  repeat refine qaa ?_
  refine go_if (fun h2 => ?_) (fun h2 => ?_)
  ·have hjl:j<(t.ops.getD o dOp).effs.length:=by omega
   have hue:=hes.at_ j hjl
   have huo:=hue.one
   have huv:=hue.var
   have hux:=hue.val
   have hwhen:=hue.when
   have her:=qaD (hoo.eff j hjl)
   have htk:=qan dEff hjl
   repeat (first|refine qaa ?_|(refine qaf ?_;clear hw;intro p w hw)|(refine qag ?_;clear hw;intro w hw))
   refine qac rfl (qcW (hwhen.at hw) (hs.at hw)) ?_
   rintro _ w' ⟨⟨r,rfl,hr⟩,hk'⟩
   replace hw:=hw.call0 hk'
   clear hk'
   refine⟨_,rfl,?_⟩
   cases r
   ·have hno:¬HoldFs z ((t.ops.getD o dOp).effs.getD j dEff).when:=fun h=>by cases hr.2 h
    repeat refine qaa ?_
    refine⟨j+1,⟨rfl,trivial⟩,agr,⟨by omega,?_⟩,by omega⟩
    rw [htk,qbC,if_neg hno]
    exact hw.tail
   ·have hyes:=hr.1 rfl
    repeat (first|refine qaa ?_|(refine qag ?_;clear hw;intro w hw))
    refine⟨j+1,⟨rfl,trivial⟩,agr,⟨by omega,?_⟩,by omega⟩
    rw [htk,qbC,if_pos hyes,←huv,←hux]
    exact hw.tail
  have hje:j=(t.ops.getD o dOp).effs.length:=by omega
  subst hje
  rw [List.take_of_length_le (Nat.le_refl _)] at hw
  have onv:=(rsO (s:=nv) hw).one
  repeat refine qaa ?_
  refine qbT (v1:=.int .i64 (o:Int)) (v2:=nv) rfl rfl rfl (by simp only [List.all_cons,List.all_nil,onv];rfl) ?_
  refine qah tSuc (x1:=⟨(o:Int),nv⟩) rfl rfl rfl (Nat.le_of_ble_eq_true rfl) (Nat.zero_lt_succ _) hw ?_
  clear hw
  intro bs w hw
  repeat refine qaa ?_
  refine qaJ (s:=sl) (s2:=bs) inferInstance rfl rfl (rsO hw) rfl rfl (fun x hx v hv=>by
   rw [List.mem_singleton.1 hx] at hv
   simp only [tSuc,List.mem_cons,List.not_mem_nil,or_false] at hv
   rcases hv with rfl|rfl
   ·rfl
   ·exact onv) (by simp only [List.length_cons,List.length_nil];omega) (by unfold big;simp only [List.length_cons,List.length_nil];omega) hw ?_
  clear hw
  intro sl2 w hw
  repeat refine qaa ?_
  have hw1:Sat w0 w [OS tSuc 180 sl2 (us++[⟨(o:Int),nv⟩]),RdH (SucF t z (appL t z) (k+1) (us++[⟨(o:Int),nv⟩])),OS tInt 3 ov (appL t z)]:=by
   have h1:Sat w0 w [OS tInt 3 nv (succT t z o),RdH (SucF t z (appL t z) k us),OS tSuc 180 sl2 (us++[⟨(o:Int),nv⟩]),OS tInt 3 ov (appL t z)]:=by
    have h0:Sat w0 w [OS tSuc 180 bs [⟨(o:Int),nv⟩],OS tInt 3 nv (succT t z o),OS tSuc 180 sl2 (us++[⟨(o:Int),nv⟩]),RdH (SucF t z (appL t z) k us),OS tInt 3 ov (appL t z)]:=hw
    exact h0.sel
   have h2:=Sat.rd2 (χ:=SucF t z (appL t z) (k+1) (us++[⟨(o:Int),nv⟩])) (fun w h1 h2=>h2.step hul hoe.symm (by rw [hoe,Int.toNat_natCast];exact h1)) (Sat.rd (Δ:=[OS tInt 3 nv (succT t z o)]) (φ:=fun w=>RS tInt w nv (succT t z o)) (fun _ _ h=>h.rs 0 rfl) h1)
   exact h2.swap
  exact⟨k+1,_,_,⟨rfl,rfl,trivial⟩,agr,⟨by omega,by simp [hul],hw1⟩,by omega⟩
 have hke:k=(appL t z).length:=by omega
 subst hke
 repeat refine qaa ?_
 have hw2:=Sat.rd (Γ:=[]) (Δ:=[OS tSuc 180 sl us,RdH (SucF t z (appL t z) (appL t z).length us),OS tInt 3 ov (appL t z)]) (φ:=fun w=>RSuc w t z sl us) (fun _ w h=>⟨h.rs 0 rfl,hul,h.rdE 1 rfl⟩) hw
 exact qae (v:=sl) rfl rfl ⟨sl,us,rfl,hw2⟩
end Go.Proofs.YtkmbenhffledpaaGreat
/-
  What A*'s run returns, in plain Lean: plans along links, their costs, when the limit is reached.
-/
namespace Go.Proofs.YtkmbenhffledpaaGreat
open Go.Sl
theorem qd1 {α:Type} [DecidableEq α]:∀ {l m:List α},l.Nodup→(∀ x∈l,x∈m)→l.length≤m.length
 | [],_,_,_=>Nat.zero_le _
 | x::l,m,hn,hs=>by
  obtain⟨h1,h2⟩:=List.nodup_cons.1 hn
  have hx:=hs x List.mem_cons_self
  have h3:∀ y∈l,y∈m.erase x:=fun y hy=>(List.mem_erase_of_ne (fun e=>h1 (by rw [←e];exact hy))).2 (hs y (List.mem_cons_of_mem _ hy))
  have h4:=qd1 h2 h3
  have h5:=List.length_erase_of_mem hx
  have h6:=List.length_pos_of_mem hx
  rw [List.length_cons];omega
theorem qfG {α:Type}{P Q:α→Bool}:∀ {l:List α},(∀ x∈l,P x=true→Q x=true)→(∃ x∈l,Q x=true∧P x=false)→l.countP P<l.countP Q
 | [],_,h=>by obtain⟨x,hx,_⟩:=h;exact absurd hx List.not_mem_nil
 | y::l,h1,h2=>by
  have hm:l.countP P≤l.countP Q:=List.countP_mono_left fun x hx=>h1 x (List.mem_cons_of_mem _ hx)
  rw [List.countP_cons,List.countP_cons]
  obtain⟨x,hx,h3,h4⟩:=h2
  rcases List.mem_cons.1 hx with rfl|hx
  ·rw [h3,h4,if_pos rfl,if_neg (by decide)];omega
  ·have ih:=qfG (fun x hx=>h1 x (List.mem_cons_of_mem _ hx)) ⟨x,hx,h3,h4⟩
   have hy:=h1 y List.mem_cons_self
   cases hp:P y
   ·rw [if_neg (by decide)];omega
   ·rw [hy hp,if_pos rfl];omega
theorem Pth.cost {t:TTask}{p s:List Int}{c:Int}(h:Pth t p s c):c=coL t p:=by
 induction h with
 | nil=>rfl
 | snoc _ _ _ ih=>rw [qfu,Int.toNat_natCast,ih]
theorem Pth.nn {t:TTask}(hg:GoodT t) {p s:List Int}{c:Int}(h:Pth t p s c):0≤c:=by
 induction h with
 | nil=>exact Int.le_refl _
 | snoc _ ho _ ih=>have:=qa9 hg ho;omega
theorem Pth.ok {t:TTask}(hg:GoodT t) {p s:List Int}{c:Int}(h:Pth t p s c):StateOk t.vars s:=by
 induction h with
 | nil=>exact hg.init
 | snoc _ ho _ ih=>exact qaZ hg ih ho
section
variable {A:APar}
def keyB (S:SA) (i j:Nat):Bool:=decide (S.gi j<S.gi i∨(S.gi j=S.gi i∧S.ti j<S.ti i))
def rkS (S:SA) (i:Nat):Nat:=(List.range S.st.length).countP (keyB S i)
theorem rk_lt {S:SA}{p i:Nat}(hp:p<S.st.length) (h:S.gi p<S.gi i∨(S.gi p=S.gi i∧S.ti p<S.ti i)):rkS S p<rkS S i:=by
 refine qfG (fun j _ hj => ?_) ⟨p,List.mem_range.2 hp,decide_eq_true h,decide_eq_false ?_⟩
 ·have hj':=of_decide_eq_true hj
  refine decide_eq_true ?_
  omega
 ·omega
theorem rk_le (S:SA) (i:Nat):rkS S i≤S.st.length:=by
 have h:=List.countP_le_length (p:=keyB S i) (l:=List.range S.st.length)
 rw [List.length_range] at h;exact h
theorem qnM (hg:GoodT A.t) {S:SA}{exi:Nat→Prop}{c:Nat}(h:SInv A S exi c):∀ (m:Nat) {i:Nat},i<S.st.length→rkS S i≤m→∃ q k,LPath S.lk i q∧Pth A.t q (S.si i) k∧k≤S.gi i∧q.length≤rkS S i:=by
 intro m
 induction m with
 | zero =>
  intro i hi hm
  rcases h.lnk i hi with ⟨h1,h2,h3⟩|⟨p,op,h1,h2,h3,h4,h5,h6,h7⟩
  ·refine⟨[],0,.root (by show (S.li i).par<0;omega),by rw [h2];exact .nil,by omega,Nat.zero_le _⟩
  ·have hc:=qa9 hg h3
   have:=rk_lt (S:=S) (p:=p) (i:=i) h2 (by omega)
   omega
 | succ m ih =>
  intro i hi hm
  rcases h.lnk i hi with ⟨h1,h2,h3⟩|⟨p,op,h1,h2,h3,h4,h5,h6,h7⟩
  ·refine⟨[],0,.root (by show (S.li i).par<0;omega),by rw [h2];exact .nil,by omega,Nat.zero_le _⟩
  ·have hc:=qa9 hg h3
   have hr:=rk_lt (S:=S) (p:=p) (i:=i) h2 (by omega)
   obtain⟨q,k,k1,k2,k3,k4⟩:=ih h2 (by omega)
   have e1:(S.lk.getD i dLnk).par=(p:Int):=by show (S.li i).par=_;rw [h1]
   have e2:(S.lk.getD i dLnk).op=(op:Int):=by show (S.li i).op=_;rw [h1]
   refine⟨q++[(op:Int)],k+opC A.t op,e2 ▸ .step e1 k1,by rw [h5];exact .snoc k2 h3 h4,by omega,?_⟩
   rw [List.length_append];show q.length+1≤_;omega
theorem qhb {lk:List Lnk}{i:Nat}{q:List Int}(h:LPath lk i q):∀ {q':List Int},LPath lk i q'→q=q':=by
 induction h with
 | root h1 =>
  intro q' h'
  cases h' with
  | root _=>rfl
  | step h2 _=>omega
 | step h1 _ ih =>
  intro q' h'
  cases h' with
  | root h2=>omega
  | step h2 h3 =>
   have e:=h1.symm.trans h2
   rw [Int.ofNat_inj] at e
   subst e
   rw [ih h3]
theorem SInv.parOk {S:SA}{exi:Nat→Prop}{c:Nat}(h:SInv A S exi c):ParOk S.lk S.st.length:=fun i hi=>by
 have h0:(S.lk.getD i dLnk)=S.li i:=rfl
 rw [h0]
 rcases h.lnk i hi with ⟨h1,_,_⟩|⟨p,op,h1,h2,_⟩
 ·omega
 ·rw [h1];show (p:Int)<_;omega
theorem qlw {S:SA}{s:List Int}{g:Int}{l:Lnk}:(S.reach A s g l).ex=S.ex:=by
 unfold SA.reach;split
 ·split <;> rfl
 ·rfl
theorem qks {i:Nat}{z:List Int}:∀ (l:List Nat) {S:SA},(expA A i z l S).ex=S.ex
 | [],_=>rfl
 | op::l,S=>(qks l (S:=stepA A i z S op)).trans qlw
inductive FinA (A:APar) (lim:Nat) (I:SA→Prop):AR × SA→Prop
 | none {S:SA}:I S→S.ex.length≤lim→nextE S.wt S.g S.q=Option.none→FinA A lim I (.none,S)
 | solved {S:SA}{x:Ent}{q:List Ent}:I S→S.ex.length≤lim→nextE S.wt S.g S.q=some (x,q)→HoldFs (S.si x.id.toNat) A.t.goal→FinA A lim I (.solved x.id.toNat,S.pop x q)
 | unknown {S:SA}{x:Ent}{q:List Ent}:I S→S.ex.length=lim→nextE S.wt S.g S.q=some (x,q)→¬HoldFs (S.si x.id.toNat) A.t.goal→FinA A lim I (.unknown,S.pop x q)
def expN (A:APar) (S:SA) (x:Ent) (q:List Ent):SA:=expA A x.id.toNat (S.si x.id.toNat) (succsL A.t (S.si x.id.toNat)) ((S.pop x q).mark x.id.toNat)
theorem qnN {S:SA}{x:Ent}{q:List Ent}:(expN A S x q).ex=x.id.toNat::S.ex:=qks _
theorem qjd {lim f:Nat}{S:SA}(h:nextE S.wt S.g S.q=Option.none):runA A lim (f+1) S=(.none,S):=by
 unfold runA;rw [h]
theorem qfH {lim f:Nat}{S:SA}{x:Ent}{q:List Ent}(h:nextE S.wt S.g S.q=some (x,q)) (hg:HoldFs (S.si x.id.toNat) A.t.goal):runA A lim (f+1) S=(.solved x.id.toNat,S.pop x q):=by
 unfold runA;rw [h];exact if_pos hg
theorem qe1 {lim f:Nat}{S:SA}{x:Ent}{q:List Ent}(h:nextE S.wt S.g S.q=some (x,q)) (hg:¬HoldFs (S.si x.id.toNat) A.t.goal) (hl:lim≤S.ex.length):runA A lim (f+1) S=(.unknown,S.pop x q):=by
 unfold runA;rw [h];exact (if_neg hg).trans (if_pos hl)
theorem qje {lim f:Nat}{S:SA}{x:Ent}{q:List Ent}(h:nextE S.wt S.g S.q=some (x,q)) (hg:¬HoldFs (S.si x.id.toNat) A.t.goal) (hl:¬lim≤S.ex.length):runA A lim (f+1) S=runA A lim f (expN A S x q):=by
 conv=>lhs;unfold runA
 rw [h];exact (if_neg hg).trans (if_neg hl)
theorem qkt {lim:Nat}{I:SA→Prop}(hst:∀ {S x q},I S→nextE S.wt S.g S.q=some (x,q)→¬HoldFs (S.si x.id.toNat) A.t.goal→S.ex.length<lim→I (expN A S x q)):∀ (f:Nat) {S:SA},I S→S.ex.length≤lim→f+S.ex.length=lim+1→FinA A lim I (runA A lim f S)
 | 0,_,_,h1,h2=>by omega
 | f+1,S,hI,h1,h2=>by
  cases hn:nextE S.wt S.g S.q with
  | none=>rw [qjd hn];exact .none hI h1 hn
  | some r =>
   obtain⟨x,q⟩:=r
   by_cases hg:HoldFs (S.si x.id.toNat) A.t.goal
   ·rw [qfH hn hg];exact .solved hI h1 hn hg
   ·by_cases hl:lim≤S.ex.length
    ·rw [qe1 hn hg hl];exact .unknown hI (by omega) hn hg
    ·rw [qje hn hg hl]
     have he:(expN A S x q).ex.length=S.ex.length+1:=by rw [qnN,List.length_cons]
     exact qkt hst f (hst hI hn hg (by omega)) (by omega) (by omega)
def RInv (A:APar) (S:SA):Prop:=∃ c,c≤1+S.ex.length*A.t.ops.length∧SInv A S (fun _=>False) c
theorem qjf (t:TTask) (s:List Int):(succsL t s).length≤t.ops.length:=by
 have h:=List.length_filter_le (fun op=>decide (AppT t s op)) (List.range t.ops.length)
 rw [List.length_range] at h;exact h
theorem qfI (hH:HOk A.t A.H) {S:SA}{x:Ent}{q:List Ent}(h:RInv A S) (hn:nextE S.wt S.g S.q=some (x,q)) (hg:¬HoldFs (S.si x.id.toNat) A.t.goal):RInv A (expN A S x q):=by
 obtain⟨c,hc,hI⟩:=h
 have hl:=qjf A.t (S.si x.id.toNat)
 refine⟨_,?_,(hI.expand hH hn hg).1⟩
 rw [qnN,List.length_cons,Nat.succ_mul];omega
theorem qeC (hH:HOk A.t A.H):RInv A (startA A):=⟨1,by omega,qoE hH⟩
theorem qqc (hH:HOk A.t A.H) (lim:Nat):FinA A lim (RInv A) (srchA A lim) :=
 qkt (fun h hn hg _=>qfI hH h hn hg) _ (qeC hH) (Nat.zero_le _) rfl
def vdA:AR→Int|.solved _=>1|.none=>2|.unknown=>3
def PlanR (R:AR × SA) (p:List Int):Prop:=match R.1 with|.solved i=>LPath R.2.lk i p|_=>p=[]
theorem qmx {R:AR × SA}{p p':List Int}(h:PlanR R p) (h':PlanR R p'):p=p':=by
 unfold PlanR at h h'
 split at h
 ·rename_i i e
  rw [e] at h';exact qhb h h'
 ·rename_i e
  split at h'
  ·rename_i i e2;exact absurd e2 (e i)
  ·rw [h,h']
theorem qlx (hg:GoodT A.t) (hH:HOk A.t A.H) {S:SA}{c:Nat}(h:SInv A S (fun _=>False) c) {x:Ent}{q:List Ent}(hn:nextE S.wt S.g S.q=some (x,q)) (hgo:HoldFs (S.si x.id.toNat) A.t.goal) :
  ∃ p,LPath S.lk x.id.toNat p∧p.length≤S.st.length∧Pln A.t A.t.init p (coL A.t p)∧coL A.t p≤S.gi x.id.toNat∧∀ b,A.B=some b→S.gi x.id.toNat≤b:=by
 have T:=h.next hn
 obtain⟨p,k,h1,h2,h3,h4⟩:=qnM hg h _ T.i1 (Nat.le_refl _)
 have hp:=h2.plan (.goal hgo)
 rw [List.append_nil,Int.add_zero,h2.cost] at hp
 have hrk:=rk_le S x.id.toNat
 refine⟨p,h1,by omega,hp,by rw [←h2.cost];exact h3,fun b hb => ?_⟩
 have e1:=T.ok.b b hb
 have e2:=T.ok.f
 have e3:=T.g
 have e4:=T.ok.h
 have e5:=hH.nn (S.si x.id.toNat)
 omega
theorem qly (hH:HOk A.t A.H) (ha:∀ y q d,Pln A.t y q d→A.H y<inf∧A.H y≤d) {S:SA}{c:Nat}(h:SInv A S (fun _=>False) c) {x:Ent}{q:List Ent}(hn:nextE S.wt S.g S.q=some (x,q)) {p:List Int}{k:Int}(hp:Pln A.t A.t.init p k) (hb:∀ b,A.B=some b→k≤b):S.gi x.id.toNat≤k:=by
 have T:=h.next hn
 exact h.ai.best ha hH.nn T.i1 T.min hp hb
theorem qnO (hf:∀ y q d,Pln A.t y q d→A.H y<inf∧(A.B=none∨A.H y≤d)) {S:SA}{c:Nat}(h:SInv A S (fun _=>False) c) (hn:nextE S.wt S.g S.q=none) {p:List Int}{k:Int}(hp:Pln A.t A.t.init p k):∃ b,A.B=some b∧b<k :=
 h.ai.none hf (h.ended hn) hp
theorem qnP {vars:List Int}{l:List (List Int)}(hn:l.Nodup) (h:∀ x∈l,StateOk vars x):l.length≤(statesL vars).length :=
 qd1 hn fun x hx=>qca.2 (h x hx)
theorem SInv.few {S:SA}{exi:Nat→Prop}{c:Nat}(h:SInv A S exi c):S.st.length≤(statesL A.t.vars).length :=
 qnP h.ai.nd fun x hx=>by
  obtain⟨i,hi,e⟩:=List.getElem_of_mem hx
  have:=h.ai.ok i hi
  rw [show S.as.si i=x from (qaj hi).trans e] at this
  exact this
theorem qcY {lim:Nat}(hH:HOk A.t A.H) (ha:∀ y q d,Pln A.t y q d→A.H y<inf∧A.H y≤d) {b:Int}(hb:Least A.t A.t.init b) {p:List Int}(hp:PlanR (srchA A lim) p) :
  p.length≤(statesL A.t.vars).length∧(srchA A lim).2.ex.length≤lim ∧
  ((∃ i,(srchA A lim).1=.solved i∧Pln A.t A.t.init p b∧coL A.t p=b∧b<inf∧∀ bd,A.B=some bd→b≤bd) ∨
   ((srchA A lim).1=.none∧p=[]∧(b=inf∨∃ bd,A.B=some bd∧bd<b))∨((srchA A lim).1=.unknown∧p=[]∧(srchA A lim).2.ex.length=lim)):=by
 have hF:=qqc hH lim
 generalize srchA A lim=R at hF hp ⊢
 cases hF with
 | none hI hl hn =>
  obtain⟨c,_,h⟩:=hI
  have e:p=[]:=hp
  subst e
  refine⟨Nat.zero_le _,hl,.inr (.inl ⟨rfl,rfl,?_⟩)⟩
  by_cases hlt:b<inf
  ·obtain⟨p,hp⟩:=hb.att hlt
   exact .inr (qnO (fun y q d hq=>⟨(ha y q d hq).1,.inr (ha y q d hq).2⟩) h hn hp)
  ·have:=hb.le;exact .inl (by omega)
 | unknown hI hl hn hg =>
  have e:p=[]:=hp
  subst e
  exact⟨Nat.zero_le _,Nat.le_of_eq hl,.inr (.inr ⟨rfl,rfl,hl⟩)⟩
 | solved hI hl hn hgo =>
  rename_i S x q
  obtain⟨c,_,h⟩:=hI
  obtain⟨p',h1,h2,h3,h4,h5⟩:=qlx hH.good hH h hn hgo
  have e:p=p':=qhb (show LPath S.lk x.id.toNat p from hp) h1
  subst e
  obtain⟨l1,l2⟩:=hb.low _ _ h3
  obtain⟨pb,hpb⟩:=hb.att l2
  have h6:S.gi x.id.toNat≤b:=qly hH ha h hn hpb fun bd hbd=>by
   have:=h5 bd hbd;omega
  have e:coL A.t p=b:=by omega
  rw [e] at h3
  exact⟨Nat.le_trans h2 h.few,hl,.inl ⟨_,rfl,h3,e,l2,fun bd hbd=>by have:=h5 bd hbd;omega⟩⟩
end
end Go.Proofs.YtkmbenhffledpaaGreat
/-
  A* with a consistent estimate, in plain Lean: no state is expanded twice, each with its least cost; which states are expanded.
-/
namespace Go.Proofs.YtkmbenhffledpaaGreat
open Go.Sl
section
variable {A:APar}
def Cons (t:TTask) (H:List Int→Int):Prop:=∀ s op,StateOk t.vars s→op<t.ops.length→AppT t s op→H s≤opC t op+H (succT t s op)
theorem front2 {t:TTask}{H:List Int→Int}{S:AS}(hg:GoodT t) (hC:Cons t H) (h:AInv t H none S fun _=>False) {p s:List Int}{c:Int}(hp:Pth t p s c) :
  (∃ j,j<S.st.length∧S.wi j=true∧S.gi j+H (S.si j)≤c+H s)∨(∃ j,j<S.st.length∧S.si j=s∧S.gi j≤c)∨inf≤c+H s:=by
 induction hp with
 | nil =>
  obtain⟨i,hi,h1,h2⟩:=h.init
  exact .inr (.inl ⟨i,hi,h1,h2⟩)
 | @snoc p s c op hp ho ha ih =>
  have hso:=hp.ok hg
  have hc:=hC s op hso ho ha
  have hnn:=hp.nn hg
  rcases ih with ⟨j,h1,h2,h3⟩|⟨j,h1,h2,h3⟩|h1
  ·exact .inl ⟨j,h1,h2,by omega⟩
  ·cases hw:S.wi j
   ·rcases h.done j h1 hw id with hcut|⟨_,hd⟩
    ·rcases hcut with hcut|⟨b,hb,_⟩
     ·rw [h2] at hcut;exact .inr (.inr (by omega))
     ·cases hb
    ·rw [h2] at hd
     obtain⟨k,k1,k2,k3⟩:=hd op ho ha
     exact .inr (.inl ⟨k,k1,k2,by omega⟩)
   ·exact .inl ⟨j,h1,hw,by rw [h2];omega⟩
  ·exact .inr (.inr (by omega))
structure EInv (A:APar) (S:SA):Prop where
 nd:S.ex.Nodup
 lt:∀ k∈S.ex,k<S.st.length
 w:∀ k∈S.ex,S.wi k=false
 opt:∀ k∈S.ex,∀ p c,Pth A.t p (S.si k) c→S.gi k≤c
 fin:∀ k∈S.ex,A.H (S.si k)<inf
 low:∀ k∈S.ex,∀ p c,Pln A.t A.t.init p c→S.gi k+A.H (S.si k)≤c
 d:∀ k,k<S.st.length→S.wi k=false→k∈S.ex∨inf≤A.H (S.si k)
structure Keeps (S S':SA):Prop where
 st:∀ k∈S.ex,k<S.st.length→S'.si k=S.si k∧S'.gi k=S.gi k∧S'.li k=S.li k
 ex:S'.ex=S.ex
 n:S.st.length≤S'.st.length
theorem RchTo.einv {S S':SA}{i:Nat}{s:List Int}{g:Int}{l:Lnk}(r:RchTo A S S' i s g l) (hB:A.B=none) (he:EInv A S) (hi:i∉S.ex):EInv A S'∧Keeps S S':=by
 have hne:∀ k∈S.ex,k≠i:=fun k hk e=>hi (e ▸ hk)
 refine⟨⟨by rw [r.ex];exact he.nd,fun k hk => ?_,fun k hk => ?_,fun k hk => ?_,fun k hk => ?_,fun k hk => ?_,fun k hk hw => ?_⟩,fun k hk hl=>⟨r.s1 k hl,r.g1 k hl (hne k hk),r.l1 k hl (hne k hk)⟩,r.ex,r.n1⟩
 ·rw [r.ex] at hk;exact Nat.lt_of_lt_of_le (he.lt k hk) r.n1
 ·rw [r.ex] at hk;rw [r.w1 k (he.lt k hk) (hne k hk)];exact he.w k hk
 ·rw [r.ex] at hk;rw [r.s1 k (he.lt k hk),r.g1 k (he.lt k hk) (hne k hk)];exact he.opt k hk
 ·rw [r.ex] at hk;rw [r.s1 k (he.lt k hk)];exact he.fin k hk
 ·rw [r.ex] at hk;rw [r.s1 k (he.lt k hk),r.g1 k (he.lt k hk) (hne k hk)];exact he.low k hk
 ·by_cases e:k=i
  ·subst e
   rw [r.w2] at hw
   have hc:cutA A s g=true:=by simpa using hw
   unfold cutA at hc
   rw [hB] at hc
   right
   rw [r.s2]
   have h2:decide (A.H s=inf)=true:=by simpa using hc
   have:=of_decide_eq_true h2
   omega
  ·have hS:=r.oth k hk e
   rw [r.w1 k hS e] at hw
   rw [r.ex,r.s1 k hS]
   exact he.d k hS hw
theorem Keeps.refl (S:SA):Keeps S S:=⟨fun _ _ _=>⟨rfl,rfl,rfl⟩,rfl,Nat.le_refl _⟩
theorem Keeps.trans {S T U:SA}(h:Keeps S T) (k:Keeps T U):Keeps S U :=
 ⟨fun i hi hl=>by
  obtain⟨a1,a2,a3⟩:=h.st i hi hl
  obtain⟨b1,b2,b3⟩:=k.st i (by rw [h.ex];exact hi) (Nat.lt_of_lt_of_le hl h.n)
  exact⟨b1.trans a1,b2.trans a2,b3.trans a3⟩,k.ex.trans h.ex,Nat.le_trans h.n k.n⟩
theorem qsG {S:SA}{exi:Nat→Prop}{c i op:Nat}(h:SInv A S exi c):stepA A i (S.si i) S op=S∨∃ k,RchTo A S (stepA A i (S.si i) S op) k (succT A.t (S.si i) op) (S.gi i+opC A.t op) ⟨i,op,opC A.t op⟩∧(k<S.st.length→S.si k=succT A.t (S.si i) op):=by
 unfold stepA SA.reach
 split
 ·rename_i hm
  obtain⟨hk,hke⟩:=qlU hm
  split
  ·exact .inl rfl
  ·rename_i hlt
   have r:=qr6 (A:=A) (l:=⟨i,op,opC A.t op⟩) hk (Int.not_le.1 hlt) h.ai.lg h.ai.lw h.ll h.lt
   have hke2:S.si (S.st.idxOf (succT A.t (S.si i) op))=succT A.t (S.si i) op:=hke
   rw [hke2] at r
   exact .inr ⟨_,r,fun _=>hke2⟩
 ·have r:=qr5 (A:=A) (s:=succT A.t (S.si i) op) (g:=S.gi i+opC A.t op) (l:=⟨i,op,opC A.t op⟩) h.ai.lg h.ai.lw h.ll h.lt
  exact .inr ⟨_,r,fun hh=>absurd hh (Nat.lt_irrefl _)⟩
theorem EInv.step {S:SA}{exi:Nat→Prop}{c i op:Nat}(hB:A.B=none) (h:SInv A S exi c) (he:EInv A S) (hi:i<S.st.length) (ho:op<A.t.ops.length) (ha:AppT A.t (S.si i) op) :
  EInv A (stepA A i (S.si i) S op)∧Keeps S (stepA A i (S.si i) S op):=by
 rcases qsG (i:=i) (op:=op) h with e|⟨k,r,hks⟩
 ·rw [e];exact⟨he,.refl S⟩
 ·refine r.einv hB he fun hk => ?_
  have hkl:=he.lt k hk
  have h3:=r.g3 hkl
  obtain⟨p,c0,h1,h2⟩:=h.ai.path i hi
  have h4:=he.opt k hk _ _ (by rw [hks hkl];exact h1.snoc ho ha)
  have h5:c0≤S.gi i:=h2
  omega
theorem EInv.steps {exi:Nat→Prop}{i:Nat}{z:List Int}(hH:HOk A.t A.H) (hB:A.B=none) (l:List Nat):∀ {S:SA}{c:Nat},SInv A S exi c→EInv A S→i<S.st.length→S.si i=z→(∀ op∈l,op<A.t.ops.length∧AppT A.t z op)→S.gi i+1048576≤(S.ex.length:Int)*1048576 →
  EInv A (expA A i z l S)∧Keeps S (expA A i z l S):=by
 induction l with
 | nil=>intro S c _ he _ _ _ _;exact⟨he,.refl S⟩
 | cons op l ih =>
  intro S c h he hi hz hl hex
  subst hz
  obtain⟨ho,ha⟩:=hl op List.mem_cons_self
  obtain⟨h1,h2,h3,_⟩:=h.step hH hi ho ha hex
  obtain⟨k1,k2⟩:=he.step hB h hi ho ha
  have hex':(stepA A i (S.si i) S op).gi i+1048576≤((stepA A i (S.si i) S op).ex.length:Int)*1048576:=by rw [h3,h2.ex];exact hex
  obtain⟨m1,m2⟩:=ih h1 k1 (Nat.lt_of_lt_of_le hi h2.n) (h2.s i hi) (fun o ho=>hl o (List.mem_cons_of_mem _ ho)) hex'
  exact⟨m1,k2.trans m2⟩
theorem Taken.opt {S:SA}{c:Nat}{M:Int}(hg:GoodT A.t) (hC:Cons A.t A.H) (hB:A.B=none) (hM:∀ y,A.H y<inf→A.H y≤M) (h:SInv A S (fun _=>False) c) (hb:(S.ex.length:Int)*1048576+M<inf) {x:Ent}{q:List Ent}(T:Taken A S x q) {p:List Int}{k:Int}(hp:Pth A.t p (S.si x.id.toNat) k):S.gi x.id.toNat≤k:=by
 have hai:=h.ai
 rw [hB] at hai
 have hfin:A.H (S.si x.id.toNat)<inf:=by rw [←T.ok.h];exact T.ok.hi
 have hm:=hM _ hfin
 have hgb:=h.gb _ T.i1
 rcases front2 hg hC hai hp with ⟨j,h1,h2,h3⟩|⟨j,h1,h2,h3⟩|h1
 ·have h4:=T.min j h1 h2
  have h5:S.gi j+A.H (S.si j)≤k+A.H (S.si x.id.toNat):=h3
  omega
 ·have e:=qlV h.ai.nd h1 T.i1 h2
  subst e;exact h3
 ·refine Classical.byContradiction fun hn => ?_
  omega
theorem Taken.flow {S:SA}{c:Nat}(ha:∀ y q d,Pln A.t y q d→A.H y<inf∧A.H y≤d) (hB:A.B=none) (h:SInv A S (fun _=>False) c) {x:Ent}{q:List Ent}(T:Taken A S x q) {p:List Int}{k:Int}(hp:Pln A.t A.t.init p k):S.gi x.id.toNat+A.H (S.si x.id.toNat)≤k:=by
 obtain⟨i,hi,h1,h2⟩:=h.ai.init
 rcases front h.ai (fun y q d hq=>⟨(ha y q d hq).1,.inl hB⟩) hp i hi h1 with ⟨j,j1,j2,q',d',j3,j4⟩|⟨b,hb,_⟩
 ·have h3:=T.min j j1 j2
  have h4:=(ha _ _ _ j3).2
  have h5:S.gi j+d'≤S.gi i+k:=j4
  have h6:S.gi i≤0:=h2
  have h7:A.H (S.si j)≤d':=h4
  omega
 ·rw [hB] at hb;cases hb
theorem EInv.taken {S:SA}{c:Nat}{M:Int}(hg:GoodT A.t) (hC:Cons A.t A.H) (ha:∀ y q d,Pln A.t y q d→A.H y<inf∧A.H y≤d) (hB:A.B=none) (hM:∀ y,A.H y<inf→A.H y≤M) (h:SInv A S (fun _=>False) c) (hb:(S.ex.length:Int)*1048576+M<inf) (he:EInv A S) {x:Ent}{q:List Ent}(T:Taken A S x q) :
  EInv A ((S.pop x q).mark x.id.toNat):=by
 have hwl:S.wt.length=S.st.length:=h.ai.lw
 have hni:x.id.toNat∉S.ex:=fun hh=>by have h1:=he.w _ hh;rw [T.w] at h1;cases h1
 have hwi:∀ k,((S.pop x q).mark x.id.toNat).wi k=if k=x.id.toNat then false else S.wi k:=fun k=>by
  have hh:((S.pop x q).mark x.id.toNat).wi k=(S.wt.set x.id.toNat false).getD k false:=rfl
  rw [hh,qbw (by rw [hwl];exact T.i1)];rfl
 refine⟨List.nodup_cons.2 ⟨hni,he.nd⟩,fun k hk => ?_,fun k hk => ?_,fun k hk => ?_,fun k hk => ?_,fun k hk => ?_,fun k hk hw => ?_⟩
 ·rcases List.mem_cons.1 hk with rfl|hk
  ·exact T.i1
  ·exact he.lt k hk
 ·rw [hwi]
  rcases List.mem_cons.1 hk with rfl|hk
  ·rw [if_pos rfl]
  ·split
   ·rfl
   ·exact he.w k hk
 ·rcases List.mem_cons.1 hk with rfl|hk
  ·exact fun p c hp=>T.opt hg hC hB hM h hb hp
  ·exact he.opt k hk
 ·rcases List.mem_cons.1 hk with rfl|hk
  ·have:A.H (S.si x.id.toNat)<inf:=by rw [←T.ok.h];exact T.ok.hi
   exact this
  ·exact he.fin k hk
 ·rcases List.mem_cons.1 hk with rfl|hk
  ·exact fun p c hp=>T.flow ha hB h hp
  ·exact he.low k hk
 ·rw [hwi] at hw
  by_cases e:k=x.id.toNat
  ·exact .inl (by rw [e];exact List.mem_cons_self)
  ·rw [if_neg e] at hw
   rcases he.d k hk hw with h1|h1
   ·exact .inl (List.mem_cons_of_mem _ h1)
   ·exact .inr h1
theorem SInv.marked {S:SA}{c:Nat}(h:SInv A S (fun _=>False) c) {x:Ent}{q:List Ent}(T:Taken A S x q):SInv A ((S.pop x q).mark x.id.toNat) (·=x.id.toNat) c∧S.gi x.id.toNat+1048576≤((x.id.toNat::S.ex).length:Int)*1048576:=by
 have h1:=T.inv h
 have hgbi:=h.gb _ T.i1
 refine⟨⟨h1.ai,h1.ll,h1.lt,h1.qs,fun y hy => ?_,h1.qw,h1.lnk,h1.tsl,fun j hj => ?_,h1.cn,h1.co⟩,by rw [List.length_cons];omega⟩
 ·have ho:=h1.qe y hy
  exact⟨ho.id0,ho.id1,ho.o0,ho.o1,ho.f,ho.h,ho.hi,ho.g,by have h3:y.g≤(S.ex.length:Int)*1048576:=ho.gb;show y.g≤((x.id.toNat::S.ex).length:Int)*1048576;rw [List.length_cons];omega,ho.b⟩
 ·have h3:S.gi j≤(S.ex.length:Int)*1048576:=h1.gb j hj
  show S.gi j≤((x.id.toNat::S.ex).length:Int)*1048576
  rw [List.length_cons];omega
theorem EInv.expand {S:SA}{c:Nat}{M:Int}(hH:HOk A.t A.H) (hC:Cons A.t A.H) (ha:∀ y q d,Pln A.t y q d→A.H y<inf∧A.H y≤d) (hB:A.B=none) (hM:∀ y,A.H y<inf→A.H y≤M) (h:SInv A S (fun _=>False) c) (hb:(S.ex.length:Int)*1048576+M<inf) (he:EInv A S) {x:Ent}{q:List Ent}(hn:nextE S.wt S.g S.q=some (x,q)) :
  EInv A (expN A S x q)∧Keeps ((S.pop x q).mark x.id.toNat) (expN A S x q):=by
 have T:=h.next hn
 obtain⟨m1,m2⟩:=h.marked T
 exact EInv.steps hH hB _ m1 (he.taken hH.good hC ha hB hM h hb T) T.i1 rfl (fun op hop=>qb8.1 hop) m2
theorem qmT (hH:HOk A.t A.H) (hB:A.B=none):EInv A (startA A):=by
 have hex:(startA A).ex=[]:=rfl
 have hno:∀ k,k∉(startA A).ex:=fun k hk=>by rw [hex] at hk;exact List.not_mem_nil hk
 refine⟨by rw [hex];exact .nil,fun k hk=>absurd hk (hno k),fun k hk=>absurd hk (hno k),fun k hk=>absurd hk (hno k),fun k hk=>absurd hk (hno k),fun k hk=>absurd hk (hno k),fun k hk hw => ?_⟩
 obtain rfl:k=0:=by have h2:k<1:=hk;omega
 have h2:(!cutA A A.t.init 0)=false:=hw
 have hc:cutA A A.t.init 0=true:=by simpa using h2
 unfold cutA at hc
 rw [hB] at hc
 have h3:decide (A.H A.t.init=inf)=true:=by simpa using hc
 right
 have h4:=of_decide_eq_true h3
 show inf≤A.H A.t.init
 omega
theorem EInv.few {S:SA}{exi:Nat→Prop}{c:Nat}(h:SInv A S exi c) (he:EInv A S):S.ex.length≤(statesL A.t.vars).length:=by
 have h1:=qd1 he.nd fun k hk=>List.mem_range.2 (he.lt k hk)
 rw [List.length_range] at h1
 exact Nat.le_trans h1 h.few
def CInv (A:APar) (S:SA):Prop:=RInv A S∧EInv A S
theorem qjK {lim:Nat}{M:Int}(hH:HOk A.t A.H) (hC:Cons A.t A.H) (ha:∀ y q d,Pln A.t y q d→A.H y<inf∧A.H y≤d) (hB:A.B=none) (hM:∀ y,A.H y<inf→A.H y≤M) (hb:(lim:Int)*1048576+M<inf):FinA A lim (CInv A) (srchA A lim) :=
 qkt (fun {S x q} h hn hg hl=>by
  obtain⟨⟨c,hc,hI⟩,he⟩:=h
  refine⟨qfI hH ⟨c,hc,hI⟩ hn hg,(he.expand hH hC ha hB hM hI ?_ hn).1⟩
  have:(S.ex.length:Int)*1048576≤(lim:Int)*1048576:=by omega
  omega) _ ⟨qeC hH,qmT hH hB⟩ (Nat.zero_le _) rfl
structure ExOk (A:APar) (b:Int) (S:SA):Prop where
 e:EInv A S
 up:∀ k∈S.ex,b<inf→S.gi k+A.H (S.si k)≤b
 lo:∀ p s c,Pth A.t p s c→A.H s<inf→c+A.H s<b→∃ k∈S.ex,S.si k=s
 gb:∀ k∈S.ex,S.gi k≤(S.ex.length:Int)*1048576
 ok:∀ k∈S.ex,StateOk A.t.vars (S.si k)∧∃ p,Pth A.t p (S.si k) (S.gi k)
 nd:S.st.Nodup
theorem ExOk.of {S:SA}{c:Nat}{b:Int}(h:SInv A S (fun _=>False) c) (he:EInv A S) (hb:Least A.t A.t.init b) (hlo:∀ p s c,Pth A.t p s c→A.H s<inf→c+A.H s<b→∃ k∈S.ex,S.si k=s):ExOk A b S :=
 ⟨he,fun k hk hlt=>by obtain⟨p,hp⟩:=hb.att hlt;exact he.low k hk p b hp,hlo,fun k hk=>h.gb k (he.lt k hk),fun k hk=>⟨h.ai.ok k (he.lt k hk),by
  obtain⟨p,c,h1,h2⟩:=h.ai.path k (he.lt k hk)
  have h3:=he.opt k hk p c h1
  have h4:c≤S.gi k:=h2
  have e:c=S.gi k:=by omega
  exact⟨p,e ▸ h1⟩⟩,h.ai.nd⟩
theorem qfo {lim:Nat}{M:Int}(hH:HOk A.t A.H) (hC:Cons A.t A.H) (ha:∀ y q d,Pln A.t y q d→A.H y<inf∧A.H y≤d) (hB:A.B=none) (hM:∀ y,A.H y<inf→A.H y≤M) (hb:(lim:Int)*1048576+M<inf) (hlim:(statesL A.t.vars).length<lim) {b:Int}(hL:Least A.t A.t.init b) :
  (srchA A lim).1≠.unknown∧∃ S,S.ex.length=(srchA A lim).2.ex.length∧S.ex.length≤(statesL A.t.vars).length∧ExOk A b S:=by
 have hF:=qjK hH hC ha hB hM hb
 generalize srchA A lim=R at hF ⊢
 cases hF with
 | none hI hl hn =>
  rename_i S
  obtain⟨⟨c,_,h⟩,he⟩:=hI
  refine⟨(by intro hh;cases hh),S,rfl,he.few h,.of h he hL fun p s k hp hs hk => ?_⟩
  have hai:=h.ai
  rw [hB] at hai
  have hble:=hL.le
  rcases front2 hH.good hC hai hp with ⟨j,h1,h2,h3⟩|⟨j,h1,h2,h3⟩|h1
  ·have h4:=h.ended hn j h1
   rw [show S.wi j=true from h2] at h4;cases h4
  ·rcases he.d j h1 (h.ended hn j h1) with h4|h4
   ·exact⟨j,h4,h2⟩
   ·rw [show S.si j=s from h2] at h4;omega
  ·omega
 | unknown hI hl hn hg =>
  obtain⟨⟨c,_,h⟩,he⟩:=hI
  have:=he.few h
  omega
 | solved hI hl hn hgo =>
  rename_i S x q
  obtain⟨⟨c,_,h⟩,he⟩:=hI
  refine⟨(by intro hh;cases hh),S,rfl,he.few h,.of h he hL fun p s k hp hs hk => ?_⟩
  have T:=h.next hn
  obtain⟨p',h1,h2,h3,h4,h5⟩:=qlx hH.good hH h hn hgo
  have h6:=(hL.low _ _ h3).1
  have h7:=hH.nn (S.si x.id.toNat)
  have hai:=h.ai
  rw [hB] at hai
  have hble:=hL.le
  rcases front2 hH.good hC hai hp with ⟨j,j1,j2,j3⟩|⟨j,j1,j2,j3⟩|j1
  ·have j4:=T.min j j1 j2
   have j5:S.gi j+A.H (S.si j)≤k+A.H s:=j3
   omega
  ·have j2':S.si j=s:=j2
   have j3':S.gi j≤k:=j3
   cases hw:S.wi j
   ·rcases he.d j j1 hw with j4|j4
    ·exact⟨j,j4,j2⟩
    ·rw [j2'] at j4;omega
   ·have j4:=T.min j j1 hw
    rw [j2'] at j4
    omega
  ·omega
end
end Go.Proofs.YtkmbenhffledpaaGreat
/-
  Contract of A*'s 'search.run'.
-/
namespace Go.Proofs.YtkmbenhffledpaaGreat
open Go.Sl Go
attribute [local irreducible] vc opsW opsD opV opW PureV ReadV Thn Blk
theorem qkR {A:APar}{S:SA}{i:Nat}{s:List Int}{g:Int}(h:S.q.length≤S.ord):(enqA A S i s g).length≤enqO A S s g:=by
 unfold enqA enqO
 split
 ·exact h
 ·rw [(qcy _ _).length_eq,List.length_cons];omega
theorem qsR {A:APar}{S:SA}{s:List Int}{g:Int}{l:Lnk}(h:S.q.length≤S.ord):(S.reach A s g l).q.length≤(S.reach A s g l).ord:=by
 unfold SA.reach
 split
 ·split
  ·exact h
  ·exact qkR h
 ·exact qkR h
theorem qsd {A:APar}{i:Nat}{z:List Int}:∀ (l:List Nat) {S:SA},S.q.length≤S.ord→(expA A i z l S).q.length≤(expA A i z l S).ord
 | [],_,h=>h
 | op::l,S,h=>qsd l (S:=stepA A i z S op) (qsR h)
theorem qtr {S:SA}{x:Ent}{q:List Ent}(h:S.q.length≤S.ord) (hn:nextE S.wt S.g S.q=some (x,q)):q.length≤S.ord:=by
 obtain⟨dr,h1,_⟩:=qeM hn
 rw [h1] at h
 simp at h;omega
theorem qse {A:APar}{S:SA}{exi:Nat→Prop}{c lim:Nat}(hg:GoodT A.t) (h:SInv A S exi c) (hc:c≤1+lim*A.t.ops.length) (hN:prodL A.t.vars≤512∨1+lim*A.t.ops.length<65536):S.st.length<65536:=by
 rcases hN with hN|hN
 ·have h1:=h.few
  have h2:(statesL A.t.vars).length=(prodL A.t.vars).toNat:=qaK hg.pos
  omega
 ·have:=h.cn;omega
theorem Sat.only {w0 w:World}{P:HP}{Γ:List HP}(h:Sat w0 w (P::Γ)):Sat w0 w [P]:=h.tailMono fun _ _=>trivial
theorem qo7 {A:APar}{i op:Nat}{z:List Int}{l:List Nat}{S:SA}:expA A i z (l++[op]) S=stepA A i z (expA A i z l S) op:=by simp [expA]
theorem qm3 {l:List Nat}{k:Nat}(h:k<l.length):l.take (k+1)=l.take k++[l[k]]:=by rw [List.take_add_one,List.getElem?_eq_getElem h];rfl
set_option maxRecDepth 8000 in
set_option maxHeartbeats 16000000 in
theorem qkk {w0 w:World}{Γ:List HP}{q pe pg pr:Addr}{a b c d bdv bnv:Value}{vs:List OpV}{A:APar}{L:Int}{lim:Nat}(hlim:lim=L.toNat) (hH:HOk A.t A.H) (hL:L≤1048576) (hN:prodL A.t.vars≤512∨1+lim*A.t.ops.length<65536)
  (hbd:(A.B=none∧bdv=.bool false)∨∃ bn:Int,A.B=some bn∧bdv=.bool true∧bnv=.int .i64 bn)
  (ht:Qty w0 Γ fun w=>RTask w a b c d vs A.t) (hE:Qty w0 Γ fun w=>REst w pe A.t A.H) (hG:Qty w0 Γ fun w=>RGen w pg A.t)
  (hw:Sat w0 w (Box q 154 [a,b,c,d,.pointer (some pe),.pointer (some pg),.pointer (some pr),.slice none 0 0,.slice none 0 0,.slice none 0 0,.slice none 0 0,.int .i64 0,bdv,bnv,.int .i64 0]::RegH pr A.t.vars [] []::Γ)) :
  Calls Tryz.prog 58 #[.pointer (some q),.int .i64 L] w fun e w'=>∃ pv p,e=.returned (.tuple #[.agg #[.int .i64 (vdA (srchA A lim).1),pv,.int .i64 (coL A.t p),.int .i64 (srchA A lim).2.ex.length],.nilIface])∧PlanR (srchA A lim) p∧Sat w0 w' (OS tInt 3 pv p::Γ):=by
 have hg:=hH.good
 have hvl:A.t.vars.length≤64:=hg.vars
 have hops:=hg.ops
 have hlb:lim≤1048576:=by omega
 refine qab (args:=[.pointer (some q),.int .i64 L]) mixed Tryz.func58 rfl (by kernel_rfl) (Nat.le_of_ble_eq_true rfl) ?_
 repeat (first|refine qaa ?_|(refine qaf ?_;clear hw;intro p w hw))
 obtain⟨px,hpx⟩:∃ px,px=p:=⟨p,rfl⟩
 subst hpx
 have hw2:Sat w0 w (OS tEnt 230 (.slice none 0 0) []::Box q 154 [a,b,c,d,.pointer (some pe),.pointer (some pg),.pointer (some pr),.slice none 0 0,.slice none 0 0,.slice none 0 0,.slice none 0 0,.int .i64 0,bdv,bnv,.int .i64 0]::OS tInt 3 (.slice none 0 0) []::OS tInt 3 (.slice none 0 0) []::OS tBool 4 (.slice none 0 0) []::RegH pr A.t.vars [] []::Box px 47 [.int .i64 0,.slice none 0 0,.int .i64 0,.int .i64 0]::Γ):=((((hw.nil (T:=tBool) (e:=4)).nil (T:=tInt) (e:=3)).nil (T:=tInt) (e:=3)).nil (T:=tEnt) (e:=230)).selG
 have hw3:Sat w0 w (OS tEnt 230 (.slice none 0 0) ([]:List Ent)::Box q 154 [a,b,c,d,.pointer (some pe),.pointer (some pg),.pointer (some pr),(.slice none 0 0),(.slice none 0 0),(.slice none 0 0),(.slice none 0 0),.int .i64 ((SA.zero).ord:Nat),bdv,bnv,.int .i64 ((SA.zero).ex.length:Nat)]::OS tInt 3 (.slice none 0 0) (SA.zero).g::OS tInt 3 (.slice none 0 0) ((SA.zero).st.map A.H)::OS tBool 4 (.slice none 0 0) (SA.zero).wt::RegH pr A.t.vars (SA.zero).st (SA.zero).lk::Box px 47 [.int .i64 0,.slice none 0 0,.int .i64 0,.int .i64 0]::Γ):=hw2
 refine qac rfl (qgK (S:=SA.zero) (s:=A.t.init) (g:=0) (par := -1) (op := -1) (cost:=0) hH hvl qhk (.refl _) (by decide) List.nodup_nil (by decide) rfl rfl rfl hg.init (by decide) (by decide) (by decide) (.inl rfl) hbd ((ht.more (Box px 47 [.int .i64 0,.slice none 0 0,.int .i64 0,.int .i64 0])).mono fun w h=>h.init) (hE.more (Box px 47 [.int .i64 0,.slice none 0 0,.int .i64 0,.int .i64 0])) hw3) ?_
 clear hw hw2 hw3
 have e0:SA.zero.reach A A.t.init 0 ⟨-1,-1,0⟩=startA A:=by
  unfold SA.reach;rw [if_neg (show ¬A.t.init∈SA.zero.st from List.not_mem_nil)];rfl
 rw [e0]
 rintro _ w ⟨rfl,h0,xs0,gv0,hv0,wv0,hh0,hp0,hw0⟩
 refine⟨_,rfl,?_⟩
 have hw:Sat w0 w (OS tEnt 230 h0 xs0::Box q 154 [a,b,c,d,.pointer (some pe),.pointer (some pg),.pointer (some pr),gv0,hv0,wv0,h0,.int .i64 (((startA A)).ord:Nat),bdv,bnv,.int .i64 (((startA A)).ex.length:Nat)]::OS tInt 3 gv0 ((startA A)).g::OS tInt 3 hv0 (((startA A)).st.map A.H)::OS tBool 4 wv0 ((startA A)).wt::RegH pr A.t.vars ((startA A)).st ((startA A)).lk::Box px 47 [.int .i64 0,.slice none 0 0,.int .i64 0,.int .i64 0]::Γ):=hw0
 clear hw0
 repeat refine qaa ?_
 refine qap [5,6,7,8,9,10,11,13,14,24,25,26,27,28,29,30,31,32,33,34,35,36,37,38,39,40,41,42,43,44,45,46,47,48,49,50,51,52,53,54,55,56,57,58,59,60,61,62,63,64,65,66,67,68,69,70,71,72,73,74,75,76,77,78,79,80,81,82,83,84,85,86,87,88,89,90,91,92,93,94,95,96,97,98,99,100,101,102,103,104,105,106,107,108,109,110,111,112,113,114,115,116,117,118,119,120,121,122,123,124,125,126,127,128,129,130,131,132,133,134,135,136,137,138,139,140,141] (G:=Nat × SA × List Ent × Value × Value × Value × Value) (fun _=>[])
  (fun x w=>runA A lim x.1 x.2.1=srchA A lim∧x.1+x.2.1.ex.length=lim+1∧x.2.1.ex.length≤lim∧RInv A x.2.1∧x.2.1.q.length≤x.2.1.ord∧IsHeap tEnt.dflt elt x.2.2.1∧x.2.2.1.Perm x.2.1.q ∧
   Sat w0 w (OS tEnt 230 x.2.2.2.1 x.2.2.1::Box q 154 [a,b,c,d,.pointer (some pe),.pointer (some pg),.pointer (some pr),x.2.2.2.2.1,x.2.2.2.2.2.1,x.2.2.2.2.2.2,x.2.2.2.1,.int .i64 ((x.2.1).ord:Nat),bdv,bnv,.int .i64 ((x.2.1).ex.length:Nat)]::OS tInt 3 x.2.2.2.2.1 (x.2.1).g::OS tInt 3 x.2.2.2.2.2.1 ((x.2.1).st.map A.H)::OS tBool 4 x.2.2.2.2.2.2 (x.2.1).wt::RegH pr A.t.vars (x.2.1).st (x.2.1).lk::Box px 47 [.int .i64 0,.slice none 0 0,.int .i64 0,.int .i64 0]::Γ))
  (fun x=>x.1) (lim+1,startA A,xs0,h0,gv0,hv0,wv0) (fun _=>rfl) trivial ⟨rfl,rfl,Nat.zero_le _,qeC hH,qkR (S:=SA.zero) (Nat.le_refl _),hh0,hp0,hw⟩ ?_
 clear hw hh0 hp0
 rintro σ ⟨f,S,xs,h,gv,hv,wv⟩ w ⟨hrun,hfe,hex,hR,hql,hh,hp,hw⟩
 simp only at hrun hfe hex hR hql hh hp hw
 obtain⟨c0,hc0,hI⟩:=hR
 have hcl:c0≤1+lim*A.t.ops.length:=Nat.le_trans hc0 (Nat.add_le_add_left (Nat.mul_le_mul_right _ hex) 1)
 have hcb:1+lim*A.t.ops.length≤1+1048576*4096:=Nat.add_le_add_left (Nat.mul_le_mul hlb hops) 1
 have hst:=qse hg hI hcl hN
 have hlg:S.g.length=S.st.length:=hI.ai.lg
 have hlw:S.wt.length=S.st.length:=hI.ai.lw
 have hco:=hI.co
 have hpl:=hp.length_eq
 obtain⟨f,rfl⟩:∃ f',f=f'+1:=⟨f-1,by omega⟩
 repeat refine qaa ?_
 have hw2:Sat w0 w (OS tEnt 230 h xs::Box q 154 [a,b,c,d,.pointer (some pe),.pointer (some pg),.pointer (some pr),gv,hv,wv,h,.int .i64 (S.ord:Nat),bdv,bnv,.int .i64 (S.ex.length:Nat)]::OS tInt 3 gv S.g::OS tBool 4 wv S.wt::OS tInt 3 hv (S.st.map A.H)::RegH pr A.t.vars S.st S.lk::Box px 47 [.int .i64 0,.slice none 0 0,.int .i64 0,.int .i64 0]::Γ):=hw.selG
 refine qac rfl (qnw hh (by omega) hp hI.qs (by omega) (fun x hx=>⟨(hI.qe x hx).id0,by have:=(hI.qe x hx).id1;omega⟩) hw2) ?_
 clear hw hw2
 rintro _ w ⟨h',hcase⟩
 rcases hcase with ⟨hn,rfl,hw⟩|⟨x,q1,ys,hn,rfl,hys,hyp,hw⟩
 ·rw [qjd hn] at hrun
  refine⟨_,rfl,?_⟩
  repeat (first|refine qaa ?_|(refine qai ?_;clear hw;intro w hw))
  have hfin:Sat w0 w (OS tInt 3 (.slice none 0 0) []::Γ):=(hw.nil (T:=tInt) (e:=3)).selG
  exact qaL (p:=px) (vs:=[.int .i64 2,.slice none 0 0,.int .i64 0,.int .i64 (S.ex.length:Nat)]) rfl rfl rfl rfl (hw.boxR 6 rfl) ⟨_,[],by rw [←hrun];rfl,by rw [←hrun];rfl,hfin⟩
 have T:=hI.next hn
 have hidx:=T.id
 obtain⟨i,hi⟩:∃ i:Nat,i=x.id.toNat:=⟨_,rfl⟩
 have hi1:=T.i1
 rw [←hi] at hi1 hidx
 rw [hidx,Int.toNat_natCast] at hw
 rw [hidx]
 refine⟨_,rfl,?_⟩
 have hok:StateOk A.t.vars (S.st.getD i []):=hI.ai.ok i hi1
 repeat refine qaa ?_
 have hw2:Sat w0 w (RegH pr A.t.vars S.st S.lk::OS tEnt 230 h' ys::Box q 154 [a,b,c,d,.pointer (some pe),.pointer (some pg),.pointer (some pr),gv,hv,wv,h',.int .i64 (S.ord:Nat),bdv,bnv,.int .i64 (S.ex.length:Nat)]::OS tInt 3 gv S.g::OS tBool 4 wv (S.wt.set i false)::OS tInt 3 hv (S.st.map A.H)::Box px 47 [.int .i64 0,.slice none 0 0,.int .i64 0,.int .i64 0]::Γ):=hw.selG
 refine qac rfl (qkj hvl hi1 (by omega) hw2) ?_
 clear hw hw2
 rintro _ w ⟨sv,rfl,hw⟩
 refine⟨_,rfl,?_⟩
 repeat refine qaa ?_
 refine qac rfl (qcW (ht w [_,_,_,_,_,_,_,_] hw).goal (hw.rs 0 rfl)) ?_
 rintro _ w' ⟨⟨r,rfl,hr⟩,hk'⟩
 replace hw:=hw.call0 hk'
 clear hk'
 refine⟨_,rfl,?_⟩
 cases r
 rotate_left
 ·have hgo:HoldFs (S.si x.id.toNat) A.t.goal:=by rw [←hi];exact hr.1 rfl
  rw [qfH hn hgo] at hrun
  obtain⟨p,hP1,hP2,hP3,hP4,hP5⟩:=qlx hg hH hI hn hgo
  rw [←hi] at hP1
  repeat refine qaa ?_
  have hw2:Sat w0 w' (RegH pr A.t.vars S.st S.lk::OS tEnt 230 h' ys::Box q 154 [a,b,c,d,.pointer (some pe),.pointer (some pg),.pointer (some pr),gv,hv,wv,h',.int .i64 (S.ord:Nat),bdv,bnv,.int .i64 (S.ex.length:Nat)]::OS tInt 3 gv S.g::OS tBool 4 wv (S.wt.set i false)::OS tInt 3 hv (S.st.map A.H)::Box px 47 [.int .i64 0,.slice none 0 0,.int .i64 0,.int .i64 0]::Γ):=hw.selG
  refine qac rfl (qla hi1 (by omega) hI.parOk hP1 hP2 hw2) ?_
  clear hw hw2
  rintro _ w ⟨pv,rfl,hw⟩
  refine⟨_,rfl,?_⟩
  repeat refine qaa ?_
  refine qas [.op 0,.op 2,.op 3,.op 5,.op 6,.op 7,.op 8,.op 1,.chk 8,.op 4,.chk 8,.op 9,.op 10,.op 11] hw (by kernel_rfl) ?_;clear hw;intro w hw
  repeat refine qaa ?_
  refine qac rfl (qax (a:=pv) (xs:=p) (rsO (s:=pv) hw) (by omega)) ?_
  rintro _ w' ⟨cv,rfl,hk'⟩
  replace hw:=hw.call1 hk'
  clear hk'
  refine⟨_,rfl,?_⟩
  repeat refine qaa ?_
  refine qac rfl (qni (ht w' [_,_,_,_,_,_,_,_,_] hw) hg (boxRO (p:=q) hw) (rsO (s:=pv) hw) hP3 (by omega)) ?_
  rintro _ w' ⟨rfl,hk'⟩
  replace hw:=hw.call0 hk'
  clear hk'
  refine⟨_,rfl,?_⟩
  have ocv:=(rsO (s:=cv) hw).one
  repeat refine qaa ?_
  refine qen (v1:=.int .i64 1) (v2:=cv) (v3:=.int .i64 (coL A.t p)) (v4:=.int .i64 (S.ex.length:Nat)) rfl rfl rfl rfl rfl (by simp only [List.all_cons,List.all_nil,ocv];rfl) ?_
  repeat refine qaa ?_
  refine qat (n:=4) (p:=px) (vs:=[.int .i64 1,cv,.int .i64 (coL A.t p),.int .i64 (S.ex.length:Nat)]) rfl rfl hw inferInstance rfl rfl (by simp only [List.all_cons,List.all_nil,ocv];rfl) ?_
  clear hw
  intro w hw
  repeat refine qaa ?_
  have hfin:Sat w0 w (OS tInt 3 cv p::Γ):=hw.selG
  exact qaL (p:=px) (vs:=[.int .i64 1,cv,.int .i64 (coL A.t p),.int .i64 (S.ex.length:Nat)]) rfl rfl rfl rfl (hw.boxR 8 rfl) ⟨cv,p,by rw [←hrun];rfl,by rw [←hrun,←hi];exact hP1,hfin⟩
 have hno:¬HoldFs (S.si x.id.toNat) A.t.goal:=by rw [←hi];exact fun h=>by cases hr.2 h
 repeat refine qaa ?_
 refine go_if (fun h1 => ?_) (fun h1 => ?_)
 ·rw [qe1 hn hno (by omega)] at hrun
  repeat (first|refine qaa ?_|(refine qai ?_;clear hw;intro w hw))
  have hfin:Sat w0 w (OS tInt 3 (.slice none 0 0) []::Γ):=(hw.nil (T:=tInt) (e:=3)).selG
  exact qaL (p:=px) (vs:=[.int .i64 3,.slice none 0 0,.int .i64 0,.int .i64 (S.ex.length:Nat)]) rfl rfl rfl rfl (hw.boxR 7 rfl) ⟨_,[],by rw [←hrun];rfl,by rw [←hrun];rfl,hfin⟩
 have hl:¬lim≤S.ex.length:=by omega
 rw [qje hn hno hl] at hrun
 repeat (first|refine qaa ?_|(refine qai ?_;clear hw;intro w hw))
 refine qac rfl (qgH (hG w [_,_,_,_,_,_,_,_] hw) hg (hw.rs 0 rfl) hok) ?_
 rintro _ w' ⟨sl,us,rfl,hk'⟩
 replace hw:=hw.call1 hk'
 clear hk'
 refine⟨_,rfl,?_⟩
 simp only [List.set_cons_succ,List.set_cons_zero] at hw
 rw [show ((S.ex.length:Int)+1)=((S.ex.length+1:Nat):Int) from rfl] at hw
 obtain⟨z,hz⟩:∃ z,z=S.st.getD i []:=⟨_,rfl⟩
 rw [←hz] at hw hok hr
 obtain⟨S1,hS1⟩:∃ S1,S1=(S.pop x q1).mark x.id.toNat:=⟨_,rfl⟩
 obtain⟨m1,m2⟩:=hI.marked T
 rw [←hS1,←hi] at m1
 rw [←hi,List.length_cons] at m2
 have hexl:S1.ex.length=S.ex.length+1:=by rw [hS1];rfl
 have hS1g:S1.gi i=S.gi i:=by rw [hS1];rfl
 have hS1n:S1.st.length=S.st.length:=by rw [hS1];rfl
 have hS1s:S1.si i=z:=by rw [hS1,hz];rfl
 have hS1q:S1.q.length≤S1.ord:=by rw [hS1];show q1.length≤S.ord;exact qtr hql hn
 have hEx:expN A S x q1=expA A i z (succsL A.t z) S1:=by rw [hS1,hz];unfold expN;rw [←hi];rfl
 rw [hEx] at hrun
 have hw2:Sat w0 w' (OS tEnt 230 h' ys::Box q 154 [a,b,c,d,.pointer (some pe),.pointer (some pg),.pointer (some pr),gv,hv,wv,h',.int .i64 (S.ord:Nat),bdv,bnv,.int .i64 ((S.ex.length+1:Nat):Int)]::OS tInt 3 gv S.g::OS tInt 3 hv (S.st.map A.H)::OS tBool 4 wv (S.wt.set i false)::RegH pr A.t.vars S.st S.lk::RdH (fun w=>RSuc w A.t z sl us)::OS tInt 3 sv z::Box px 47 [.int .i64 0,.slice none 0 0,.int .i64 0,.int .i64 0]::Γ):=hw.selG
 clear hw
 have hw:Sat w0 w' (OS tEnt 230 h' ys::Box q 154 [a,b,c,d,.pointer (some pe),.pointer (some pg),.pointer (some pr),gv,hv,wv,h',.int .i64 ((S1).ord:Nat),bdv,bnv,.int .i64 ((S1).ex.length:Nat)]::OS tInt 3 gv (S1).g::OS tInt 3 hv ((S1).st.map A.H)::OS tBool 4 wv (S1).wt::RegH pr A.t.vars (S1).st (S1).lk::RdH (fun w=>RSuc w A.t z sl us)::OS tInt 3 sv z::Box px 47 [.int .i64 0,.slice none 0 0,.int .i64 0,.int .i64 0]::Γ):=by rw [hi] at hw2;rw [hS1];exact hw2
 clear hw2
 have hyp1:ys.Perm S1.q:=by rw [hS1];exact hyp
 have hSu:Qty w0 (RdH (fun w=>RSuc w A.t z sl us)::OS tInt 3 sv z::Box px 47 [.int .i64 0,.slice none 0 0,.int .i64 0,.int .i64 0]::Γ) (fun w=>RSuc w A.t z sl us):=Qty.rd
 have hKt:Qty w0 (RdH (fun w=>RSuc w A.t z sl us)::OS tInt 3 sv z::Box px 47 [.int .i64 0,.slice none 0 0,.int .i64 0,.int .i64 0]::Γ) (fun w=>RTask w a b c d vs A.t):=((ht.more _).more _).more _
 have hKe:Qty w0 (RdH (fun w=>RSuc w A.t z sl us)::OS tInt 3 sv z::Box px 47 [.int .i64 0,.slice none 0 0,.int .i64 0,.int .i64 0]::Γ) (fun w=>REst w pe A.t A.H):=((hE.more _).more _).more _
 have hsu0:=hSu w' [_,_,_,_,_,_] hw
 have hsur:=hsu0.rs
 have hsul:=hsu0.len
 have hall:(appL A.t z).length=(succsL A.t z).length:=by unfold appL;rw [List.length_map]
 have hsl:=qjf A.t z
 have hsteps:∀ k,k≤(succsL A.t z).length→SInv A (expA A i z ((succsL A.t z).take k) S1) (·=i) (c0+k)∧Grown S1 (expA A i z ((succsL A.t z).take k) S1)∧(expA A i z ((succsL A.t z).take k) S1).gi i=S.gi i:=fun k hk=>by
  obtain⟨j1,j2,j3,_⟩:=SInv.steps (i:=i) (z:=z) hH ((succsL A.t z).take k) m1 (by omega) hS1s (fun op hop=>qb8.1 (List.mem_of_mem_take hop)) (by rw [hS1g,hexl];exact m2)
  rw [List.length_take,Nat.min_eq_left hk] at j1
  exact⟨j1,j2,j3.trans hS1g⟩
 have hcn:c0+(succsL A.t z).length≤1+lim*A.t.ops.length:=by
  have h1:(S.ex.length+1)*A.t.ops.length≤lim*A.t.ops.length:=Nat.mul_le_mul_right _ (by omega)
  rw [Nat.succ_mul] at h1
  omega
 repeat refine qaa ?_
 refine qap [5,13,14,104,105,106,107,108,109,110,111,112,113,114,115,116,117,118,119,120,121,122,123,124,125,126,127,128,129,130,131,132,133,134,135,136,137,138,139,140,141] (G:=Nat × List Ent × Value × Value × Value × Value) (fun x=>[(104,.int .i64 x.1)])
  (fun x w=>x.1≤(succsL A.t z).length∧IsHeap tEnt.dflt elt x.2.1∧x.2.1.Perm (expA A i z ((succsL A.t z).take x.1) S1).q ∧
   Sat w0 w (OS tEnt 230 x.2.2.1 x.2.1::Box q 154 [a,b,c,d,.pointer (some pe),.pointer (some pg),.pointer (some pr),x.2.2.2.1,x.2.2.2.2.1,x.2.2.2.2.2,x.2.2.1,.int .i64 (((expA A i z ((succsL A.t z).take x.1) S1)).ord:Nat),bdv,bnv,.int .i64 (((expA A i z ((succsL A.t z).take x.1) S1)).ex.length:Nat)]::OS tInt 3 x.2.2.2.1 ((expA A i z ((succsL A.t z).take x.1) S1)).g::OS tInt 3 x.2.2.2.2.1 (((expA A i z ((succsL A.t z).take x.1) S1)).st.map A.H)::OS tBool 4 x.2.2.2.2.2 ((expA A i z ((succsL A.t z).take x.1) S1)).wt::RegH pr A.t.vars ((expA A i z ((succsL A.t z).take x.1) S1)).st ((expA A i z ((succsL A.t z).take x.1) S1)).lk::RdH (fun w=>RSuc w A.t z sl us)::OS tInt 3 sv z::Box px 47 [.int .i64 0,.slice none 0 0,.int .i64 0,.int .i64 0]::Γ))
  (fun x=>(succsL A.t z).length-x.1) (0,ys,h',gv,hv,wv) (fun _=>rfl) ⟨rfl,trivial⟩ ⟨Nat.zero_le _,hys,hyp1,hw⟩ ?_
 clear hw hys hyp1
 rintro σ2 ⟨k,xs2,h2,gv2,hv2,wv2⟩ w ⟨hk,hh2,hp2,hw⟩
 simp only at hk hh2 hp2 hw
 obtain⟨hTI,hTG,hTg⟩:=hsteps k hk
 have hTq:=qsd (A:=A) (i:=i) (z:=z) ((succsL A.t z).take k) hS1q
 have hTe:=qks (A:=A) (i:=i) (z:=z) ((succsL A.t z).take k) (S:=S1)
 obtain⟨T2,hT2⟩:∃ T2,T2=expA A i z ((succsL A.t z).take k) S1:=⟨_,rfl⟩
 rw [←hT2] at hw hp2 hTI hTG hTg hTq hTe
 have hsuw:=hSu w [_,_,_,_,_,_] hw
 have hsuwr:=hsuw.rs
 repeat refine qaa ?_
 refine go_if (fun h3 => ?_) (fun h3 => ?_)
 ·have hkl:k<(succsL A.t z).length:=by omega
  have hka:k<(appL A.t z).length:=by omega
  obtain⟨op,hop⟩:∃ op:Nat,(succsL A.t z)[k]=op:=⟨_,rfl⟩
  have hopm:op∈succsL A.t z:=by rw [←hop];exact List.getElem_mem hkl
  obtain⟨hopl,hopa⟩:=qb8.1 hopm
  have happ:(appL A.t z).getD k tInt.dflt=(op:Int):=by
   unfold appL
   rw [qaj (by rw [List.length_map];exact hkl),List.getElem_map,hop]
  obtain⟨hu1,hu2⟩:=hsuw.at_ k hka
  rw [happ] at hu1 hu2
  rw [Int.toNat_natCast] at hu2
  have hxo:=qaZ hg hok hopl
  have ouk:=hu2.one
  have houk:(tSuc.enc (eget tSuc us k)).all Value.oneCell'=true:=by
   show ((Value.int .i64 (eget tSuc us k).op).oneCell' && ((eget tSuc us k).st.oneCell' && true))=true
   rw [ouk];rfl
  obtain⟨nv,hnv⟩:∃ nv,nv=(eget tSuc us k).st:=⟨_,rfl⟩
  rw [←hnv] at hu2 ouk
  have hen:tSuc.enc (eget tSuc us k)=[.int .i64 (op:Int),nv]:=by
   show [Value.int .i64 (eget tSuc us k).op,(eget tSuc us k).st]=_
   rw [hu1,hnv]
  obtain⟨y,hy⟩:∃ y:List Int,y=succT A.t z op:=⟨_,rfl⟩
  rw [←hy] at hu2 hxo
  have hKn:Qty w0 (RdH (fun w=>RSuc w A.t z sl us)::OS tInt 3 sv z::Box px 47 [.int .i64 0,.slice none 0 0,.int .i64 0,.int .i64 0]::Γ) (fun w=>RS tInt w nv y):=hSu.mono fun w h=>by
   have:=(h.at_ k hka).2
   rw [happ,Int.toNat_natCast,←hnv,←hy] at this
   exact this
  have hco0:=qa9 hg hopl
  repeat (first|refine qaa ?_|(refine qaf ?_;clear hw;intro p w hw)|(refine qai ?_;clear hw;intro w hw))
  obtain⟨p8,hp8⟩:∃ p8,p8=p:=⟨p,rfl⟩
  subst hp8
  replace hw:Sat w0 w (Box p8 180 [.int .i64 (op:Int),nv]::OS tEnt 230 h2 xs2::Box q 154 [a,b,c,d,.pointer (some pe),.pointer (some pg),.pointer (some pr),gv2,hv2,wv2,h2,.int .i64 ((T2).ord:Nat),bdv,bnv,.int .i64 ((T2).ex.length:Nat)]::OS tInt 3 gv2 (T2).g::OS tInt 3 hv2 ((T2).st.map A.H)::OS tBool 4 wv2 (T2).wt::RegH pr A.t.vars (T2).st (T2).lk::RdH (fun w=>RSuc w A.t z sl us)::OS tInt 3 sv z::Box px 47 [.int .i64 0,.slice none 0 0,.int .i64 0,.int .i64 0]::Γ):=by rw [←hen];exact hw
  refine qbu ?_
  clear hw
  intro w hw
  have ht4:=hKt w [_,_,_,_,_,_,_] hw
  have hdr4:=ht4.ops.rs
  have hdl4:=ht4.ops.len
  have hco:(eget tOp vs op).cost=opC A.t op:=(ht4.ops.at_ op hopl).cost
  repeat refine qaa ?_
  rw [hco]
  have hTlg:T2.g.length=T2.st.length:=hTI.ai.lg
  have hTlw:T2.wt.length=T2.st.length:=hTI.ai.lw
  have hTn:=hTG.n
  have hgd:T2.g.getD i tInt.dflt=S.gi i:=hTg
  have hgn:0≤S.gi i:=hI.ai.nn i hi1
  have hTst:=qse hg hTI (by omega) hN
  have hTco:=hTI.co
  have hp2l:=hp2.length_eq
  refine qas [.op 0,.op 1,.op 2,.op 3,.op 4,.op 5,.op 6,.op 7,.op 8,.op 9,.op 10,.op 11,.op 12,.op 13,.op 14,.op 15,.op 16,.op 17] hw (by kernel_rfl) ?_;clear hw;intro w hw
  repeat refine qaa ?_
  rw [hgd]
  have hw2:Sat w0 w (OS tEnt 230 h2 xs2::Box q 154 [a,b,c,d,.pointer (some pe),.pointer (some pg),.pointer (some pr),gv2,hv2,wv2,h2,.int .i64 ((T2).ord:Nat),bdv,bnv,.int .i64 ((T2).ex.length:Nat)]::OS tInt 3 gv2 (T2).g::OS tInt 3 hv2 ((T2).st.map A.H)::OS tBool 4 wv2 (T2).wt::RegH pr A.t.vars (T2).st (T2).lk::Box p8 180 [.int .i64 (op:Int),nv]::RdH (fun w=>RSuc w A.t z sl us)::OS tInt 3 sv z::Box px 47 [.int .i64 0,.slice none 0 0,.int .i64 0,.int .i64 0]::Γ):=hw.selG
  refine qac rfl (qgK (S:=T2) (s:=y) (g:=S.gi i+opC A.t op) (par:=i) (op:=op) (cost:=opC A.t op) hH hvl hh2 hp2 (by omega) hTI.ai.nd hTst hTlg hTlw hTI.ll hxo (by omega) (by omega) (by omega) (.inr ⟨by omega,by omega⟩) hbd (hKn.more _) (hKe.more _) hw2) ?_
  clear hw hw2
  have hst:T2.reach A y (S.gi i+opC A.t op) ⟨i,op,opC A.t op⟩=expA A i z ((succsL A.t z).take (k+1)) S1:=by
   rw [qm3 hkl,hop,qo7,←hT2]
   unfold stepA
   rw [hTg,←hy]
  have hex2:(T2.reach A y (S.gi i+opC A.t op) ⟨i,op,opC A.t op⟩).ex=T2.ex:=qlw
  rintro _ w ⟨rfl,h3,xs3,gv3,hv3,wv3,hh3,hp3,hw⟩
  refine⟨_,rfl,?_⟩
  rw [←hex2] at hw
  rw [hst] at hp3 hw
  repeat refine qaa ?_
  exact⟨(k+1,xs3,h3,gv3,hv3,wv3),⟨rfl,trivial⟩,agr,⟨by omega,hh3,hp3,hw.selG⟩,by simp only;omega⟩
 have hke:k=(succsL A.t z).length:=by omega
 rw [hke,List.take_of_length_le (Nat.le_refl _)] at hT2
 rw [←hT2] at hrun hEx
 repeat refine qaa ?_
 obtain⟨r1,_⟩:=hI.expand hH hn hno
 have hRn:RInv A T2:=by
  have h1:=qfI hH ⟨c0,hc0,hI⟩ hn hno
  rw [hEx] at h1;exact h1
 have hexT:T2.ex.length=S.ex.length+1:=by rw [hTe,hexl]
 exact⟨(f,T2,xs2,h2,gv2,hv2,wv2),trivial,agr,⟨hrun,by simp only;omega,by simp only;omega,hRn,hTq,hh2,hp2,hw.selG⟩,by simp only;omega⟩
end Go.Proofs.YtkmbenhffledpaaGreat
