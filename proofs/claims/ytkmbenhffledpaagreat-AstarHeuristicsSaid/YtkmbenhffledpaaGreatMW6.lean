/-
  Several texts as one: WEst2, WAReach, WRevI, WReg4.
-/
import Derived.Test.YtkmbenhffledpaaGreatMW5
import Derived.Test.YtkmbenhffledpaaGreatMW1
import Derived.Test.YtkmbenhffledpaaGreatMTA
import Derived.Test.YtkmbenhffledpaaGreatMW3
import Derived.Test.YtkmbenhffledpaaGreatMSlB
set_option linter.unusedSimpArgs false
set_option linter.unusedVariables false
/-
  Contracts of 'estimate.made', 'Blind', of the values of estimates, and of 'For'.
-/
namespace Go.Proofs.YtkmbenhffledpaaGreat
open Go.Sl Go
attribute [local irreducible] vc opsW opsD opV opW PureV ReadV Thn Blk
instance inWEst21:MethS Tryz.prog 107 "Value" 206 := ⟨by kernel_rfl⟩
def HVal (w:World) (h:Value) (t:TTask) (H:List Int→Int):Prop :=
 ∃ (T:Nat) (v u:Value) (f:Nat),h=.iface T v∧MethAt Tryz.prog T v "Value" f u ∧ CallT Tryz.prog f ∧ ∀ (w1 : World) (Γ : List HP) (sv : Value) (s : List Int), Sat w w1 Γ → RS tInt w1 sv s → StateOk t.vars s →
  Calls Tryz.prog f #[u,sv] w1 fun e w2=>e=.returned (.int .i64 (H s))∧Sat w1 w2 []
theorem HVal.at {w0 w:World}{Γ:List HP}{h:Value}{t:TTask}{H:List Int→Int}(k:HVal w0 h t H) (hw:Sat w0 w Γ):HVal w h t H:=by
 obtain⟨T,v,u,f,h1,h2,h3,h4⟩:=k
 exact⟨T,v,u,f,h1,h2,h3,fun w1 Δ sv s hs=>h4 w1 (Δ++Γ) sv s (hw.call hs)⟩
def REst (w:World) (p:Addr) (t:TTask) (H:List Int→Int):Prop:=∃ a b c d h vs,BoxR w p [a,b,c,d,h]∧RTask w a b c d vs t∧HVal w h t H
theorem REst.at {w0 w:World}{Γ:List HP}{p:Addr}{t:TTask}{H:List Int→Int}(k:REst w0 p t H) (hw:Sat w0 w Γ):REst w p t H:=by
 obtain⟨a,b,c,d,h,vs,h1,h2,h3⟩:=k
 exact⟨a,b,c,d,h,vs,h1.at hw,h2.at hw,h3.at hw⟩
open Classical in
noncomputable def estV (t:TTask) (H:List Int→Int) (s:List Int):Int:=if StateOk t.vars s then H s else inf
set_option maxRecDepth 8000 in
set_option maxHeartbeats 2000000 in
theorem qbb {w0:World}{p:Addr}{t:TTask}{H:List Int→Int}{sv:Value}{s:List Int}(he:REst w0 p t H) (hs:RS tInt w0 sv s) :
  Calls Tryz.prog 12 #[.pointer (some p),sv] w0 fun e w'=>e=.returned (.int .i64 (estV t H s))∧Sat w0 w' []:=by
 obtain⟨a,b,c,d,h,vs,h1,h2,h3⟩:=he
 have ha:=h2.vars
 have hw:=Sat.start w0
 refine qab (args:=[.pointer (some p),sv]) mixed Tryz.func12 rfl (by kernel_rfl) (Nat.le_of_ble_eq_true rfl) ?_
 repeat refine qaa ?_
 refine qac rfl (qbd (ha.at hw) (hs.at hw)) ?_
 rintro _ w' ⟨⟨r,rfl,hr⟩,hk'⟩
 replace hw:=hw.call0 hk'
 clear hk'
 refine⟨_,rfl,?_⟩
 cases r
 ·have hn:estV t H s=inf:=if_neg fun h=>(by cases hr.2 h)
  repeat refine qaa ?_
  exact qae (v:=.int .i64 1125899906842624) rfl rfl ⟨by rw [hn],hw⟩
 have hok:=hr.1 rfl
 have hn:estV t H s=H s:=if_pos hok
 obtain⟨T,v,u,f,rfl,m1,m2,m3⟩:=h3.at hw
 repeat refine qaa ?_
 refine qmw m1 m2 rfl rfl (m3 _ [] sv s (Sat.start _) (hs.at hw) hok) ?_
 rintro _ w' ⟨rfl,hk'⟩
 replace hw:=hw.call0 hk'
 clear hk'
 refine⟨_,rfl,?_⟩
 repeat refine qaa ?_
 exact qae (v:=.int .i64 (H s)) rfl rfl ⟨by rw [hn],hw⟩
set_option maxRecDepth 8000 in
set_option maxHeartbeats 2000000 in
theorem qpN {w0:World}{p:Addr}{u t:TTask}{H:List Int→Int}{a b c d:Value}{vs:List OpV}(he:REst w0 p u H) (ht:RTask w0 a b c d vs t) :
  Calls Tryz.prog 31 #[.pointer (some p),.agg #[a,b,c,d]] w0 fun e w'=>(∃ r,e=.returned (.bool r)∧(r=true↔u=t))∧Sat w0 w' []:=by
 obtain⟨a2,b2,c2,d2,h,us,h1,h2,h3⟩:=he
 have hw:=Sat.start w0
 refine qab (args:=[.pointer (some p),.agg #[a,b,c,d]]) mixed Tryz.func31 rfl (by kernel_rfl) (Nat.le_of_ble_eq_true rfl) ?_
 repeat (first|refine qaa ?_|(refine qaf ?_;clear hw;intro p w hw))
 refine qas [.op 0,.op 1,.op 2,.op 3,.op 4,.op 5,.op 6,.op 7,.op 8,.op 9,.op 10] hw (by kernel_rfl) ?_;clear hw;intro w hw
 repeat refine qaa ?_
 refine qa2 rfl (qmC (k:=0) (n:=4) (vs:=[a2,b2,c2,d2]) rfl (h1.at hw) rfl rfl) ?_
 repeat refine qaa ?_
 refine qac rfl (qp5 (h2.at hw) (ht.at hw)) ?_
 rintro _ w' ⟨⟨r,rfl,hr⟩,hk'⟩
 replace hw:=hw.call0 hk'
 clear hk'
 refine⟨_,rfl,?_⟩
 repeat refine qaa ?_
 exact qae (v:=.bool r) rfl rfl ⟨⟨r,rfl,hr⟩,hw.sel⟩
def leastK (t:TTask) (k:Nat):Int:=(t.ops.take k).foldl (fun m o=>min m o.cost) inf
def leastC (t:TTask):Int:=leastK t t.ops.length
def blindH (t:TTask) (s:List Int):Int:=if HoldFs s t.goal then 0 else leastC t
set_option maxRecDepth 8000 in
theorem qk4 {w0:World}{gv sv:Value}{g:List Fact}{n:Int}{s:List Int}(hg:RS tFact w0 gv g) (hs:RS tInt w0 sv s) :
  Calls Tryz.prog 206 #[.agg #[gv,.int .i64 n],sv] w0 fun e w'=>e=.returned (.int .i64 (if HoldFs s g then 0 else n))∧Sat w0 w' []:=by
 have hw:=Sat.start w0
 refine qab (args:=[.agg #[gv,.int .i64 n],sv]) mixed Tryz.func206 rfl (by kernel_rfl) (Nat.le_of_ble_eq_true rfl) ?_
 repeat (first|refine qaa ?_|(refine qaf ?_;clear hw;intro p w hw))
 refine qac rfl (qcW (hg.at hw) (hs.at hw)) ?_
 rintro _ w' ⟨⟨r,rfl,hr⟩,hk'⟩
 replace hw:=hw.call0 hk'
 clear hk'
 refine⟨_,rfl,?_⟩
 cases r
 ·have hn:¬HoldFs s g:=fun h=>by have:=hr.2 h;cases this
  rw [if_neg hn]
  repeat refine qaa ?_
  exact qae (v:=.int .i64 n) rfl rfl ⟨rfl,hw.sel⟩
 ·rw [if_pos (hr.1 rfl)]
  repeat refine qaa ?_
  exact qae (v:=.int .i64 0) rfl rfl ⟨rfl,hw.sel⟩
set_option maxRecDepth 8000 in
set_option maxHeartbeats 2000000 in
theorem qdf {w0:World}{a b c d h:Value}{vs:List OpV}{t:TTask}{H:List Int→Int}(ht:RTask w0 a b c d vs t) (hg:GoodT t) (hh:∃ T v,h=.iface T v) :
  Calls Tryz.prog 33 #[.agg #[a,b,c,d],h,.nilIface] w0 fun e w'=>∃ p,e=.returned (.tuple #[.pointer (some p),.nilIface])∧Sat w0 w' [RdH fun w=>HVal w h t H→REst w p t H]:=by
 obtain⟨T,v,rfl⟩:=hh
 have hw:=Sat.start w0
 refine qab (args:=[.agg #[a,b,c,d],.iface T v,.nilIface]) mixed Tryz.func33 rfl (by kernel_rfl) (Nat.le_of_ble_eq_true rfl) ?_
 repeat (first|refine qaa ?_|(refine qaf ?_;clear hw;intro p w hw))
 refine qac rfl (qk5 (ht.at hw) hg) ?_
 rintro _ w' ⟨a2,b2,c2,d2,vs2,rfl,hk'⟩
 replace hw:=hw.call1 hk'
 clear hk'
 refine⟨_,rfl,?_⟩
 have ht2:=hw.rdE 0 rfl
 have o1:=ht2.vars.cells1
 have o2:=ht2.init.cells1
 have o3:=ht2.goal.cells1
 have o4:=ht2.ops.rs.cells1
 repeat refine qaa ?_
 refine qa8 (vs:=[(0,.agg #[a2,b2,c2,d2]),(1,.iface T v)]) (ls:=[(0,[a2,b2,c2,d2]),(1,[.iface T v])]) rfl rfl rfl ?_
 refine qaV (vs:=[a2,b2,c2,d2,.iface T v]) rfl hw ?_
 clear hw
 intro pe w hw
 repeat refine qaa ?_
 have hw1:Sat w0 w [RdH fun w=>HVal w (.iface T v) t H→REst w pe t H]:=by
  have hw2:Sat w0 w [Box pe 75 [a2,b2,c2,d2,.iface T v],RdH fun w=>RTask w a2 b2 c2 d2 vs2 t,Box p 26 (Value.agg #[a,b,c,d]).cells.toList]:=hw
  exact (Sat.rd (Δ:=[Box pe 75 [a2,b2,c2,d2,.iface T v],RdH fun w=>RTask w a2 b2 c2 d2 vs2 t]) (φ:=fun w=>HVal w (.iface T v) t H→REst w pe t H) (fun _ w h hh=>⟨a2,b2,c2,d2,.iface T v,vs2,h.boxR 0 rfl,h.rdE 1 rfl,hh⟩) hw2).sel
 exact qav (v:=.pointer (some pe)) (v':=.nilIface) rfl rfl rfl ⟨pe,rfl,hw1⟩
end Go.Proofs.YtkmbenhffledpaaGreat
/-
  Contract of A*'s 'search.reach'.
-/
namespace Go.Proofs.YtkmbenhffledpaaGreat
open Go.Sl Go
attribute [local irreducible] vc opsW opsD opV opW PureV ReadV Thn Blk
theorem qkH {α:Type}{l:List α}{n:Nat}{x y:α}(h:n=l.length):(l++[x]).set n y=l++[y]:=by
 subst h
 rw [List.set_append_right _ _ (Nat.le_refl _),Nat.sub_self];rfl
set_option maxRecDepth 8000 in
set_option maxHeartbeats 8000000 in
theorem qgK {w0 w:World}{Γ:List HP}{q pe pr:Addr}{a b c d pg bdv bnv exv h gv hv wv sv:Value}{xs:List Ent}{A:APar}{S:SA}{s:List Int}{g par op cost:Int}(hH:HOk A.t A.H) (hvl:A.t.vars.length≤64) (H:IsHeap tEnt.dflt elt xs) (hp:xs.Perm S.q) (hxl:xs.length<1099511627776)
  (hnd:S.st.Nodup) (hn:S.st.length<65536) (hlg:S.g.length=S.st.length) (hlw:S.wt.length=S.st.length) (hll:S.lk.length=S.st.length) (hok:StateOk A.t.vars s) (hg0:0≤g) (hg1:g≤1099511627776) (hord:S.ord<1099511627776) (hpar:par = -1∨(0≤par∧par<S.st.length))
  (hbd:(A.B=none∧bdv=.bool false)∨∃ bn:Int,A.B=some bn∧bdv=.bool true∧bnv=.int .i64 bn)
  (hs:Qty w0 Γ fun w=>RS tInt w sv s) (hE:Qty w0 Γ fun w=>REst w pe A.t A.H)
  (hw:Sat w0 w (OS tEnt 230 h xs::Box q 154 [a,b,c,d,.pointer (some pe),pg,.pointer (some pr),gv,hv,wv,h,.int .i64 (S.ord:Nat),bdv,bnv,exv]::OS tInt 3 gv S.g::OS tInt 3 hv (S.st.map A.H)::OS tBool 4 wv S.wt::RegH pr A.t.vars S.st S.lk::Γ)) :
  Calls Tryz.prog 90 #[.pointer (some q),sv,.int .i64 g,.int .i64 par,.int .i64 op,.int .i64 cost] w fun e w'=>e=.returned (.bool true)∧∃ h' xs' gv' hv' wv',IsHeap tEnt.dflt elt xs'∧xs'.Perm (S.reach A s g ⟨par,op,cost⟩).q ∧
   Sat w0 w' (OS tEnt 230 h' xs'::Box q 154 [a,b,c,d,.pointer (some pe),pg,.pointer (some pr),gv',hv',wv',h',.int .i64 ((S.reach A s g ⟨par,op,cost⟩).ord:Nat),bdv,bnv,exv]::OS tInt 3 gv' (S.reach A s g ⟨par,op,cost⟩).g::OS tInt 3 hv' ((S.reach A s g ⟨par,op,cost⟩).st.map A.H)::OS tBool 4 wv' (S.reach A s g ⟨par,op,cost⟩).wt::RegH pr A.t.vars (S.reach A s g ⟨par,op,cost⟩).st (S.reach A s g ⟨par,op,cost⟩).lk::Γ):=by
 refine qab (args:=[.pointer (some q),sv,.int .i64 g,.int .i64 par,.int .i64 op,.int .i64 cost]) mixed Tryz.func90 rfl (by kernel_rfl) (Nat.le_of_ble_eq_true rfl) ?_
 repeat refine qaa ?_
 replace hw:=hw.focus 5 rfl
 refine qac rfl (qnv hvl hnd hn (hs w [_,_,_,_,_,_] hw) hok hw) ?_
 clear hw
 have hcutW:∀ e w',((s∈S.st∧e=Ending.returned (.tuple #[.int .i64 (S.st.idxOf s:Int),.bool false,.nilIface])∧Sat w0 w' (RegH pr A.t.vars S.st S.lk::OS tEnt 230 h xs::Box q 154 [a,b,c,d,.pointer (some pe),pg,.pointer (some pr),gv,hv,wv,h,.int .i64 (S.ord:Nat),bdv,bnv,exv]::OS tInt 3 gv S.g::OS tInt 3 hv (S.st.map A.H)::OS tBool 4 wv S.wt::Γ))∨(s∉S.st∧e=Ending.returned (.tuple #[.int .i64 (S.st.length:Int),.bool true,.nilIface])∧Sat w0 w' (RegH pr A.t.vars (S.st++[s]) (S.lk++[dLnk])::OS tEnt 230 h xs::Box q 154 [a,b,c,d,.pointer (some pe),pg,.pointer (some pr),gv,hv,wv,h,.int .i64 (S.ord:Nat),bdv,bnv,exv]::OS tInt 3 gv S.g::OS tInt 3 hv (S.st.map A.H)::OS tBool 4 wv S.wt::Γ))) →
   ∃ (bo:Bool) (i:Nat) (st1:List (List Int)) (lk1:List Lnk),e=Ending.returned (.tuple #[.int .i64 (i:Int),.bool bo,.nilIface])∧(bo=decide (s∉S.st))∧(bo=false→i=S.st.idxOf s∧i<S.st.length∧st1=S.st∧lk1=S.lk)∧(bo=true→i=S.st.length∧st1=S.st++[s]∧lk1=S.lk++[dLnk]) ∧
    Sat w0 w' (RegH pr A.t.vars st1 lk1::OS tEnt 230 h xs::Box q 154 [a,b,c,d,.pointer (some pe),pg,.pointer (some pr),gv,hv,wv,h,.int .i64 (S.ord:Nat),bdv,bnv,exv]::OS tInt 3 gv S.g::OS tInt 3 hv (S.st.map A.H)::OS tBool 4 wv S.wt::Γ):=by
  rintro e w' (⟨hm,rfl,hw⟩|⟨hm,rfl,hw⟩)
  ·exact⟨false,_,_,_,rfl,by simp [hm],fun _=>⟨rfl,List.idxOf_lt_length_of_mem hm,rfl,rfl⟩,nofun,hw⟩
  ·exact⟨true,_,_,_,rfl,by simp [hm],nofun,fun _=>⟨rfl,rfl,rfl⟩,hw⟩
 rintro e w hh
 obtain⟨b0,i,st1,lk1,rfl,hb,hbf,hbt,hw⟩:=hcutW _ _ hh
 clear hcutW hh
 refine⟨_,rfl,?_⟩
 repeat refine qaY ?_
 refine qin ?_
 repeat refine qaY ?_
 refine qb0 [12,30,31,32,33,34,35,36,37,38,39,40,41,42,43,44,45,46,47,48,49,50,51,52,53,54,55,56,57,58,59,60,61,62,63,64,65,66,67,68,69,70,71,72] (G:=Value × Value × Value) (fun _=>[]) (fun v w=>∃ g1 w1,i<st1.length∧g1.length=st1.length∧w1.length=st1.length∧lk1.length=st1.length∧S.st.length≤st1.length∧st1.length≤65536∧st1.getD i []=s∧S.reach A s g ⟨par,op,cost⟩=⟨st1,g1.set i g,w1.set i (!cutA A s g),lk1.set i ⟨par,op,cost⟩,enqA A S i s g,enqO A S s g,S.ex,(S.reach A s g ⟨par,op,cost⟩).ts,S.clk+1⟩ ∧
  Sat w0 w (RegH pr A.t.vars st1 lk1::OS tEnt 230 h xs::Box q 154 [a,b,c,d,.pointer (some pe),pg,.pointer (some pr),v.1,v.2.1,v.2.2,h,.int .i64 (S.ord:Nat),bdv,bnv,exv]::OS tInt 3 v.1 g1::OS tInt 3 v.2.1 (st1.map A.H)::OS tBool 4 v.2.2 w1::Γ)) (fun _=>rfl) ?_ ?_
 ·cases b0 with
  | false =>
   obtain⟨e1,e2,e3,e4⟩:=hbf rfl
   have hm:s∈S.st:=by
    by_cases hm:s∈S.st
    ·exact hm
    ·simp [hm] at hb
   subst e3 e4
   have hil:i<S.g.length:=by omega
   have hgi:S.g.getD i tInt.dflt=S.gi i:=rfl
   have hsi:S.si i=s:=by
    show S.st.getD i []=s
    rw [e1,List.getD_eq_getElem?_getD,List.getElem?_eq_getElem (by omega)];exact List.getElem_idxOf (by omega)
   repeat refine qaa ?_
   refine go_if (fun h2 => ?_) (fun h2 => ?_)
   ·repeat refine qaa ?_
    have er:S.reach A s g ⟨par,op,cost⟩=S:=by
     unfold SA.reach
     rw [if_pos hm,←e1,if_pos (by omega)]
    exact qae (v:=.bool true) rfl rfl ⟨rfl,by rw [er];exact⟨h,xs,gv,hv,wv,H,hp,hw.selG⟩⟩
   have er:S.reach A s g ⟨par,op,cost⟩=S.low A i g ⟨par,op,cost⟩:=by
    unfold SA.reach
    rw [if_pos hm,←e1,if_neg (by omega)]
   repeat refine qaa ?_
   refine⟨(gv,hv,wv),trivial,agr,S.g,S.wt,e2,hlg,hlw,hll,Nat.le_refl _,by omega,hsi,?_,hw⟩
   rw [er];unfold SA.low;rw [hsi]
  | true =>
   obtain⟨e1,e3,e4⟩:=hbt rfl
   have hml:(S.st.map A.H).length=S.st.length:=List.length_map _
   have hev:estV A.t A.H s=A.H s:=if_pos hok
   have hm:s∉S.st:=by
    intro hm
    simp [hm] at hb
   subst e1 e3 e4
   have q1:S.st.length<(S.st++[s]).length:=by simp
   have q2:(S.g++[g]).length=(S.st++[s]).length:=by simp [hlg]
   have q3:(S.wt++[false]).length=(S.st++[s]).length:=by simp [hlw]
   have q4:(S.lk++[dLnk]).length=(S.st++[s]).length:=by simp [hll]
   have q5:S.st.length≤(S.st++[s]).length:=by simp
   have q6:(S.st++[s]).length≤65536:=by simp;omega
   have q7:(S.st++[s]).getD S.st.length []=s:=qbB rfl
   have q8:S.reach A s g ⟨par,op,cost⟩=⟨S.st++[s],(S.g++[g]).set S.st.length g,(S.wt++[false]).set S.st.length (!cutA A s g),(S.lk++[dLnk]).set S.st.length ⟨par,op,cost⟩,enqA A S S.st.length s g,enqO A S s g,S.ex,(S.reach A s g ⟨par,op,cost⟩).ts,S.clk+1⟩:=by
    rw [qkH hlg.symm,qkH hlw.symm,qkH hll.symm]
    unfold SA.reach;rw [if_neg hm];rfl
   have hmap:(S.st++[s]).map A.H=S.st.map A.H++[A.H s]:=by simp
   have hleaf:∀ (w:World) (gn hn wn:Value),BoxR w q [a,b,c,d,.pointer (some pe),pg,.pointer (some pr),gn,hn,wn,h,.int .i64 (S.ord:Nat),bdv,bnv,exv] →
     Sat w0 w (RegH pr A.t.vars (S.st++[s]) (S.lk++[dLnk])::OS tEnt 230 h xs::Box q 154 [a,b,c,d,.pointer (some pe),pg,.pointer (some pr),gn,hn,wn,h,.int .i64 (S.ord:Nat),bdv,bnv,exv]::OS tInt 3 gn (S.g++[g])::OS tInt 3 hn (S.st.map A.H++[A.H s])::OS tBool 4 wn (S.wt++[false])::Γ) →
     ∃ v:Value × Value × Value,Sat w0 w (RegH pr A.t.vars (S.st++[s]) (S.lk++[dLnk])::OS tEnt 230 h xs::Box q 154 [a,b,c,d,.pointer (some pe),pg,.pointer (some pr),v.1,v.2.1,v.2.2,h,.int .i64 (S.ord:Nat),bdv,bnv,exv]::OS tInt 3 v.1 (S.g++[g])::OS tInt 3 v.2.1 ((S.st++[s]).map A.H)::OS tBool 4 v.2.2 (S.wt++[false])::Γ) :=
    fun w gn hn wn _ h=>⟨(gn,hn,wn),by rw [hmap];exact h⟩
   repeat refine qaa ?_
   refine qeP (.step 0 [.op 0] (.step 1 [.op 1] (.step 2 [.op 2] (.step 3 [.op 3] (.step 4 [.op 4] (.step 5 [.op 5] (.step 7 [.op 7] (.step 10 [.op 10] (.step 11 [.op 11] (.step 12 [.op 12] (.step 14 [.op 14] (.step 15 [.op 15] (.step 16 [.op 16] (.step 18 [.op 18] (.step 22 [.op 22] (.step 23 [.op 23] (.step 24 [.op 24] (.step 6 [.op 6] (.step 13 [.op 13] (.step 17 [.op 17] (.step 25 [.op 25] (.alt 8 [.op 8,.chk 6,.chk 13,.chk 17,.chk 25] (.alt 9 [.op 9,.chk 13,.chk 17,.chk 25] (.alt 19 [.op 19,.chk 13,.chk 25] (.alt 20 [.op 20,.chk 13,.chk 25] (.alt 21 [.op 21,.chk 25] (.step 26 [.op 26,.chk 6,.chk 13,.chk 17,.chk 25] (.step 27 [.op 27] (.step 28 [.op 28] (.step 29 [.op 29] (.step 30 [.op 30] (.step 31 [.op 31] (.step 32 [.op 32] (.step 33 [.op 33] (.step 34 [.op 34] (.step 35 [.op 35] (.step 36 [.op 36] (.lin [])))))))))))) (.alt 26 [.op 26,.chk 6,.chk 13,.chk 17,.chk 25] (.step 21 [.op 21,.chk 25] (.step 27 [.op 27] (.step 28 [.op 28] (.step 29 [.op 29] (.step 30 [.op 30] (.step 31 [.op 31] (.step 32 [.op 32] (.step 33 [.op 33] (.step 34 [.op 34] (.step 35 [.op 35] (.step 36 [.op 36] (.lin [])))))))))))) (.stop))) (.alt 26 [.op 26,.chk 6,.chk 13,.chk 17,.chk 25] (.step 20 [.op 20,.chk 13,.chk 25] (.step 21 [.op 21,.chk 25] (.step 27 [.op 27] (.step 28 [.op 28] (.step 29 [.op 29] (.step 30 [.op 30] (.step 31 [.op 31] (.step 32 [.op 32] (.step 33 [.op 33] (.step 34 [.op 34] (.step 35 [.op 35] (.step 36 [.op 36] (.lin []))))))))))))) (.stop))) (.alt 26 [.op 26,.chk 6,.chk 13,.chk 17,.chk 25] (.step 19 [.op 19,.chk 13,.chk 25] (.step 20 [.op 20,.chk 13,.chk 25] (.step 21 [.op 21,.chk 25] (.step 27 [.op 27] (.step 28 [.op 28] (.step 29 [.op 29] (.step 30 [.op 30] (.step 31 [.op 31] (.step 32 [.op 32] (.step 33 [.op 33] (.step 34 [.op 34] (.step 35 [.op 35] (.step 36 [.op 36] (.lin [])))))))))))))) (.stop))) (.alt 26 [.op 26,.chk 6,.chk 13,.chk 17,.chk 25] (.step 9 [.op 9,.chk 13,.chk 17,.chk 25] (.step 19 [.op 19,.chk 13,.chk 25] (.step 20 [.op 20,.chk 13,.chk 25] (.step 21 [.op 21,.chk 25] (.step 27 [.op 27] (.step 28 [.op 28] (.step 29 [.op 29] (.step 30 [.op 30] (.step 31 [.op 31] (.step 32 [.op 32] (.step 33 [.op 33] (.step 34 [.op 34] (.step 35 [.op 35] (.step 36 [.op 36] (.lin []))))))))))))))) (.stop))) (.alt 26 [.op 26,.chk 6,.chk 13,.chk 17,.chk 25] (.step 8 [.op 8,.chk 6,.chk 13,.chk 17,.chk 25] (.step 9 [.op 9,.chk 13,.chk 17,.chk 25] (.step 19 [.op 19,.chk 13,.chk 25] (.step 20 [.op 20,.chk 13,.chk 25] (.step 21 [.op 21,.chk 25] (.step 27 [.op 27] (.step 28 [.op 28] (.step 29 [.op 29] (.step 30 [.op 30] (.step 31 [.op 31] (.step 32 [.op 32] (.step 33 [.op 33] (.step 34 [.op 34] (.step 35 [.op 35] (.step 36 [.op 36] (.lin [])))))))))))))))) (.stop)))))))))))))))))))))))) hw (by kernel_rfl) (by kernel_rfl) ?_;clear hw;intro w hw
   repeat refine qaa ?_
   refine qaw ?_ ?_
   ·repeat (first|refine qaa ?_|(refine qbl ?_;clear hw;intro s w hw))
    refine qaw ?_ ?_
    ·repeat (first|refine qaa ?_|(refine qbl ?_;clear hw;intro s w hw))
     refine qaw ?_ ?_
     ·repeat refine qaa ?_
      first
       | refine qac rfl (qbb (hE w [_,_,_,_,_,_,_] hw) (hs w [_,_,_,_,_,_,_] hw)) ?_
       | refine qac rfl (qbb (hE w [_,_,_,_,_,_,_,_] hw) (hs w [_,_,_,_,_,_,_,_] hw)) ?_
      rintro _ w' ⟨rfl,hk'⟩
      replace hw:=hw.call0 hk'
      clear hk'
      refine⟨_,rfl,?_⟩
      rw [hev]
      repeat refine qaa ?_
      refine qaw ?_ ?_
      ·repeat (first|refine qaa ?_|(refine qbl ?_;clear hw;intro s w hw))
       refine qaw ?_ ?_
       ·repeat (first|refine qaa ?_|(refine qbl ?_;clear hw;intro s w hw))
        refine qah tBool (x1:=false) rfl rfl rfl (Nat.le_of_ble_eq_true rfl) (Nat.zero_lt_succ _) hw ?_
        clear hw
        intro sW w hw
        repeat (first|refine qaa ?_|(refine qag ?_;clear hw;intro w hw)|(refine qbl ?_;clear hw;intro s w hw))
        simp only [List.set_cons_succ,List.set_cons_zero] at hw
        have hB:=boxRO (p:=q) hw
        obtain⟨v,hv2⟩:=hleaf _ _ _ _ hB hw.selG
        exact⟨v,trivial,agr,S.g++[g],S.wt++[false],q1,q2,q3,q4,q5,q6,q7,q8,hv2⟩
       ·refine qaw ?_ qaM
        repeat refine qaa ?_
        refine qah tBool (x1:=false) rfl rfl rfl (Nat.le_of_ble_eq_true rfl) (Nat.zero_lt_succ _) hw ?_
        clear hw
        intro sW w hw
        repeat (first|refine qaa ?_|(refine qag ?_;clear hw;intro w hw)|(refine qbl ?_;clear hw;intro s w hw))
        simp only [List.set_cons_succ,List.set_cons_zero] at hw
        have hB:=boxRO (p:=q) hw
        obtain⟨v,hv2⟩:=hleaf _ _ _ _ hB hw.selG
        exact⟨v,trivial,agr,S.g++[g],S.wt++[false],q1,q2,q3,q4,q5,q6,q7,q8,hv2⟩
      ·refine qaw ?_ qaM
       repeat refine qaa ?_
       refine qah tBool (x1:=false) rfl rfl rfl (Nat.le_of_ble_eq_true rfl) (Nat.zero_lt_succ _) hw ?_
       clear hw
       intro sW w hw
       repeat (first|refine qaa ?_|(refine qag ?_;clear hw;intro w hw)|(refine qbl ?_;clear hw;intro s w hw))
       simp only [List.set_cons_succ,List.set_cons_zero] at hw
       have hB:=boxRO (p:=q) hw
       obtain⟨v,hv2⟩:=hleaf _ _ _ _ hB hw.selG
       exact⟨v,trivial,agr,S.g++[g],S.wt++[false],q1,q2,q3,q4,q5,q6,q7,q8,hv2⟩
     ·refine qaw ?_ qaM
      repeat refine qaa ?_
      refine qah tBool (x1:=false) rfl rfl rfl (Nat.le_of_ble_eq_true rfl) (Nat.zero_lt_succ _) hw ?_
      clear hw
      intro sW w hw
      repeat refine qaa ?_
      first
       | refine qac rfl (qbb (hE w [_,_,_,_,_,_,_] hw) (hs w [_,_,_,_,_,_,_] hw)) ?_
       | refine qac rfl (qbb (hE w [_,_,_,_,_,_,_,_] hw) (hs w [_,_,_,_,_,_,_,_] hw)) ?_
      rintro _ w' ⟨rfl,hk'⟩
      replace hw:=hw.call0 hk'
      clear hk'
      refine⟨_,rfl,?_⟩
      rw [hev]
      repeat (first|refine qaa ?_|(refine qag ?_;clear hw;intro w hw)|(refine qbl ?_;clear hw;intro s w hw))
      simp only [List.set_cons_succ,List.set_cons_zero] at hw
      have hB:=boxRO (p:=q) hw
      obtain⟨v,hv2⟩:=hleaf _ _ _ _ hB hw.selG
      exact⟨v,trivial,agr,S.g++[g],S.wt++[false],q1,q2,q3,q4,q5,q6,q7,q8,hv2⟩
    ·refine qaw ?_ qaM
     repeat refine qaa ?_
     refine qah tBool (x1:=false) rfl rfl rfl (Nat.le_of_ble_eq_true rfl) (Nat.zero_lt_succ _) hw ?_
     clear hw
     intro sW w hw
     repeat (first|refine qaa ?_|(refine qbl ?_;clear hw;intro s w hw))
     first
      | refine qac rfl (qbb (hE w [_,_,_,_,_,_,_] hw) (hs w [_,_,_,_,_,_,_] hw)) ?_
      | refine qac rfl (qbb (hE w [_,_,_,_,_,_,_,_] hw) (hs w [_,_,_,_,_,_,_,_] hw)) ?_
     rintro _ w' ⟨rfl,hk'⟩
     replace hw:=hw.call0 hk'
     clear hk'
     refine⟨_,rfl,?_⟩
     rw [hev]
     repeat (first|refine qaa ?_|(refine qag ?_;clear hw;intro w hw)|(refine qbl ?_;clear hw;intro s w hw))
     simp only [List.set_cons_succ,List.set_cons_zero] at hw
     have hB:=boxRO (p:=q) hw
     obtain⟨v,hv2⟩:=hleaf _ _ _ _ hB hw.selG
     exact⟨v,trivial,agr,S.g++[g],S.wt++[false],q1,q2,q3,q4,q5,q6,q7,q8,hv2⟩
   ·refine qaw ?_ qaM
    repeat refine qaa ?_
    refine qah tBool (x1:=false) rfl rfl rfl (Nat.le_of_ble_eq_true rfl) (Nat.zero_lt_succ _) hw ?_
    clear hw
    intro sW w hw
    repeat (first|refine qaa ?_|(refine qbl ?_;clear hw;intro s w hw))
    first
     | refine qac rfl (qbb (hE w [_,_,_,_,_,_,_] hw) (hs w [_,_,_,_,_,_,_] hw)) ?_
     | refine qac rfl (qbb (hE w [_,_,_,_,_,_,_,_] hw) (hs w [_,_,_,_,_,_,_,_] hw)) ?_
    rintro _ w' ⟨rfl,hk'⟩
    replace hw:=hw.call0 hk'
    clear hk'
    refine⟨_,rfl,?_⟩
    rw [hev]
    repeat (first|refine qaa ?_|(refine qag ?_;clear hw;intro w hw)|(refine qbl ?_;clear hw;intro s w hw))
    simp only [List.set_cons_succ,List.set_cons_zero] at hw
    have hB:=boxRO (p:=q) hw
    obtain⟨v,hv2⟩:=hleaf _ _ _ _ hB hw.selG
    exact⟨v,trivial,agr,S.g++[g],S.wt++[false],q1,q2,q3,q4,q5,q6,q7,q8,hv2⟩
 clear hw
 rintro σ ⟨gv2,hv2,wv2⟩ w ⟨g1,w1,hi,hg1l,hw1l,hlk1,hsl,hst1,hsi,hre,hw⟩
 simp only at hw
 have hml:(st1.map A.H).length=st1.length:=List.length_map _
 have hhi:(st1.map A.H).getD i tInt.dflt=A.H s:=by
  rw [←hsi,List.getD_eq_getElem?_getD,List.getElem?_map,List.getElem?_eq_getElem hi,qaj hi];rfl
 have hHr:=hH.le s
 have hHn:=hH.nn s
 have einf:inf=1125899906842624:=rfl
 obtain⟨tt,htt⟩:∃ tt,tt=(S.reach A s g ⟨par,op,cost⟩).ts:=⟨_,rfl⟩
 rw [←htt] at hre
 obtain⟨hx,hhx⟩:∃ hx,hx=st1.map A.H:=⟨_,rfl⟩
 rw [←hhx] at hw hml hhi
 repeat (first|refine qaa ?_|(refine qai ?_;clear hw;intro w hw))
 refine qac rfl (qg4 hi hst1 (by omega) hw) ?_
 clear hw
 rintro _ w ⟨rfl,hw⟩
 refine⟨_,rfl,?_⟩
 by_cases hc1:A.H s=inf
 ·have hd:decide (hx.getD i tInt.dflt=1125899906842624)=true:=decide_eq_true (by omega)
  have hcut:cutA A s g=true:=by unfold cutA;rw [decide_eq_true hc1];rfl
  repeat refine qaa ?_
  simp only [hd,beq_self_eq_true,qal,qam,Bool.false_and,Bool.true_and,Bool.false_or,Bool.true_or,Bool.not_true,Bool.not_false,Bool.cond_true,Bool.cond_false,gv_fI,gv_tI]
  repeat (first|refine qaa ?_|(refine qai ?_;clear hw;intro w hw))
  rw [hhx] at hw
  unfold enqA enqO at hre
  rw [if_pos hcut,if_pos hcut,hcut] at hre
  have hw3:Sat w0 w (OS tEnt 230 h xs::Box q 154 [a,b,c,d,.pointer (some pe),pg,.pointer (some pr),gv2,hv2,wv2,h,.int .i64 (S.ord:Nat),bdv,bnv,exv]::OS tInt 3 gv2 (g1.set i g)::OS tInt 3 hv2 (st1.map A.H)::OS tBool 4 wv2 (w1.set i false)::RegH pr A.t.vars st1 (lk1.set i ⟨par,op,cost⟩)::Γ):=hw.selG
  try rw [hb1] at hw3
  try rw [hb2] at hw3
  exact qae (v:=.bool true) rfl rfl ⟨rfl,by rw [hre];exact⟨h,xs,gv2,hv2,wv2,H,hp,hw3⟩⟩
 have hd:decide (hx.getD i tInt.dflt=1125899906842624)=false:=decide_eq_false (by omega)
 rcases hbd with ⟨hB,hb1⟩|⟨bn,hB,hb1,hb2⟩
 ·have hcut:cutA A s g=false:=by unfold cutA;rw [decide_eq_false hc1,hB];rfl
  repeat refine qaa ?_
  simp only [hd,beq_self_eq_true,qal,qam,Bool.false_and,Bool.true_and,Bool.false_or,Bool.true_or,Bool.not_true,Bool.not_false,Bool.cond_true,Bool.cond_false,gv_fI,gv_tI]
  repeat refine qaa ?_
  simp only [hb1,beq_self_eq_true,qal,qam,Bool.false_and,Bool.true_and,Bool.false_or,Bool.true_or,Bool.not_true,Bool.not_false,Bool.cond_true,Bool.cond_false,gv_fI,gv_tI]
  repeat (first|refine qaa ?_|(refine qai ?_;clear hw;intro w hw))
  refine qas [.op 0,.op 1,.op 2,.op 3,.op 4,.op 5,.op 6,.op 7,.op 8,.op 9,.op 10,.op 11,.op 12,.op 13,.op 14,.op 15,.op 16] hw (by kernel_rfl) ?_;clear hw;intro w hw
  repeat refine qaa ?_
  refine qa8 (vs:=[(0,.int .i64 (g+hx.getD i tInt.dflt)),(1,.int .i64 (hx.getD i tInt.dflt)),(2,.int .i64 (S.ord:Nat)),(3,.int .i64 (i:Nat)),(4,.int .i64 g)]) (ls:=[(0,[.int .i64 (g+hx.getD i tInt.dflt)]),(1,[.int .i64 (hx.getD i tInt.dflt)]),(2,[.int .i64 (S.ord:Nat)]),(3,[.int .i64 (i:Nat)]),(4,[.int .i64 g])]) rfl rfl rfl ?_
  repeat refine qaa ?_
  have hw2:Sat w0 w (OS tEnt 230 h xs::Box q 154 [a,b,c,d,.pointer (some pe),pg,.pointer (some pr),gv2,hv2,wv2,h,.int .i64 (S.ord:Nat),bdv,bnv,exv]::OS tInt 3 gv2 (g1.set i g)::OS tInt 3 hv2 hx::OS tBool 4 wv2 (w1.set i true)::RegH pr A.t.vars st1 (lk1.set i ⟨par,op,cost⟩)::Γ):=hw.selG
  refine qac rfl (qdi (v:=⟨g+hx.getD i tInt.dflt,hx.getD i tInt.dflt,S.ord,i,g⟩) H hxl hw2) ?_
  clear hw hw2
  rintro _ w ⟨rfl,h',ys,hh,hpy,hw⟩
  refine⟨_,rfl,?_⟩
  repeat (first|refine qaa ?_|(refine qai ?_;clear hw;intro w hw))
  rw [hhx] at hw
  simp only [List.set_cons_succ,List.set_cons_zero] at hw
  rw [show ((S.ord:Int)+1)=((S.ord+1:Nat):Int) from rfl] at hw
  unfold enqA enqO at hre
  rw [if_neg (by rw [hcut];decide),if_neg (by rw [hcut];decide),hcut,←hhi,hhx] at hre
  rw [hhx] at hpy
  have hw3:Sat w0 w (OS tEnt 230 h' ys::Box q 154 [a,b,c,d,.pointer (some pe),pg,.pointer (some pr),gv2,hv2,wv2,h',.int .i64 ((S.ord+1):Nat),bdv,bnv,exv]::OS tInt 3 gv2 (g1.set i g)::OS tInt 3 hv2 (st1.map A.H)::OS tBool 4 wv2 (w1.set i true)::RegH pr A.t.vars st1 (lk1.set i ⟨par,op,cost⟩)::Γ):=hw
  try rw [hb1] at hw3
  try rw [hb2] at hw3
  have hpf:=hpy.trans ((hp.cons _).trans (qcy _ _).symm)
  exact qae (v:=.bool true) rfl rfl ⟨rfl,by rw [hre];exact⟨h',ys,gv2,hv2,wv2,hh,hpf,hw3⟩⟩
 ·by_cases hc2:bn<g+A.H s
  ·have hcut:cutA A s g=true:=by unfold cutA;rw [decide_eq_false hc1,hB];exact decide_eq_true hc2
   have hd2:decide (bn<g+hx.getD i tInt.dflt)=true:=decide_eq_true (by omega)
   repeat refine qaa ?_
   simp only [hd,beq_self_eq_true,qal,qam,Bool.false_and,Bool.true_and,Bool.false_or,Bool.true_or,Bool.not_true,Bool.not_false,Bool.cond_true,Bool.cond_false,gv_fI,gv_tI]
   repeat refine qaa ?_
   simp only [hb1,beq_self_eq_true,qal,qam,Bool.false_and,Bool.true_and,Bool.false_or,Bool.true_or,Bool.not_true,Bool.not_false,Bool.cond_true,Bool.cond_false,gv_fI,gv_tI]
   repeat refine qaa ?_
   rw [hb2]
   repeat refine qaa ?_
   simp only [hd2,beq_self_eq_true,qal,qam,Bool.false_and,Bool.true_and,Bool.false_or,Bool.true_or,Bool.not_true,Bool.not_false,Bool.cond_true,Bool.cond_false,gv_fI,gv_tI]
   repeat (first|refine qaa ?_|(refine qai ?_;clear hw;intro w hw))
   rw [hhx] at hw
   unfold enqA enqO at hre
   rw [if_pos hcut,if_pos hcut,hcut] at hre
   have hw3:Sat w0 w (OS tEnt 230 h xs::Box q 154 [a,b,c,d,.pointer (some pe),pg,.pointer (some pr),gv2,hv2,wv2,h,.int .i64 (S.ord:Nat),bdv,bnv,exv]::OS tInt 3 gv2 (g1.set i g)::OS tInt 3 hv2 (st1.map A.H)::OS tBool 4 wv2 (w1.set i false)::RegH pr A.t.vars st1 (lk1.set i ⟨par,op,cost⟩)::Γ):=hw.selG
   try rw [hb1] at hw3
   try rw [hb2] at hw3
   exact qae (v:=.bool true) rfl rfl ⟨rfl,by rw [hre];exact⟨h,xs,gv2,hv2,wv2,H,hp,hw3⟩⟩
  ·have hcut:cutA A s g=false:=by unfold cutA;rw [decide_eq_false hc1,hB];exact decide_eq_false hc2
   have hd2:decide (bn<g+hx.getD i tInt.dflt)=false:=decide_eq_false (by omega)
   repeat refine qaa ?_
   simp only [hd,beq_self_eq_true,qal,qam,Bool.false_and,Bool.true_and,Bool.false_or,Bool.true_or,Bool.not_true,Bool.not_false,Bool.cond_true,Bool.cond_false,gv_fI,gv_tI]
   repeat refine qaa ?_
   simp only [hb1,beq_self_eq_true,qal,qam,Bool.false_and,Bool.true_and,Bool.false_or,Bool.true_or,Bool.not_true,Bool.not_false,Bool.cond_true,Bool.cond_false,gv_fI,gv_tI]
   repeat refine qaa ?_
   rw [hb2]
   repeat refine qaa ?_
   simp only [hd2,beq_self_eq_true,qal,qam,Bool.false_and,Bool.true_and,Bool.false_or,Bool.true_or,Bool.not_true,Bool.not_false,Bool.cond_true,Bool.cond_false,gv_fI,gv_tI]
   repeat (first|refine qaa ?_|(refine qai ?_;clear hw;intro w hw))
   refine qas [.op 0,.op 1,.op 2,.op 3,.op 4,.op 5,.op 6,.op 7,.op 8,.op 9,.op 10,.op 11,.op 12,.op 13,.op 14,.op 15,.op 16] hw (by kernel_rfl) ?_;clear hw;intro w hw
   repeat refine qaa ?_
   refine qa8 (vs:=[(0,.int .i64 (g+hx.getD i tInt.dflt)),(1,.int .i64 (hx.getD i tInt.dflt)),(2,.int .i64 (S.ord:Nat)),(3,.int .i64 (i:Nat)),(4,.int .i64 g)]) (ls:=[(0,[.int .i64 (g+hx.getD i tInt.dflt)]),(1,[.int .i64 (hx.getD i tInt.dflt)]),(2,[.int .i64 (S.ord:Nat)]),(3,[.int .i64 (i:Nat)]),(4,[.int .i64 g])]) rfl rfl rfl ?_
   repeat refine qaa ?_
   have hw2:Sat w0 w (OS tEnt 230 h xs::Box q 154 [a,b,c,d,.pointer (some pe),pg,.pointer (some pr),gv2,hv2,wv2,h,.int .i64 (S.ord:Nat),bdv,bnv,exv]::OS tInt 3 gv2 (g1.set i g)::OS tInt 3 hv2 hx::OS tBool 4 wv2 (w1.set i true)::RegH pr A.t.vars st1 (lk1.set i ⟨par,op,cost⟩)::Γ):=hw.selG
   refine qac rfl (qdi (v:=⟨g+hx.getD i tInt.dflt,hx.getD i tInt.dflt,S.ord,i,g⟩) H hxl hw2) ?_
   clear hw hw2
   rintro _ w ⟨rfl,h',ys,hh,hpy,hw⟩
   refine⟨_,rfl,?_⟩
   repeat (first|refine qaa ?_|(refine qai ?_;clear hw;intro w hw))
   rw [hhx] at hw
   simp only [List.set_cons_succ,List.set_cons_zero] at hw
   rw [show ((S.ord:Int)+1)=((S.ord+1:Nat):Int) from rfl] at hw
   unfold enqA enqO at hre
   rw [if_neg (by rw [hcut];decide),if_neg (by rw [hcut];decide),hcut,←hhi,hhx] at hre
   rw [hhx] at hpy
   have hw3:Sat w0 w (OS tEnt 230 h' ys::Box q 154 [a,b,c,d,.pointer (some pe),pg,.pointer (some pr),gv2,hv2,wv2,h',.int .i64 ((S.ord+1):Nat),bdv,bnv,exv]::OS tInt 3 gv2 (g1.set i g)::OS tInt 3 hv2 (st1.map A.H)::OS tBool 4 wv2 (w1.set i true)::RegH pr A.t.vars st1 (lk1.set i ⟨par,op,cost⟩)::Γ):=hw
   try rw [hb1] at hw3
   try rw [hb2] at hw3
   have hpf:=hpy.trans ((hp.cons _).trans (qcy _ _).symm)
   exact qae (v:=.bool true) rfl rfl ⟨rfl,by rw [hre];exact⟨h',ys,gv2,hv2,wv2,hh,hpf,hw3⟩⟩
end Go.Proofs.YtkmbenhffledpaaGreat
/-
  Contract of 'slices.Reverse' over ints.
-/
namespace Go.Proofs.YtkmbenhffledpaaGreat
open Go.Sl Go
attribute [local irreducible] vc opsW opsD opV opW PureV ReadV Thn Blk
def revI (xs:List Int) (i:Nat):List Int:=(List.range xs.length).map fun (k:Nat)=>if k<i∨xs.length-1-i<k then xs.getD (xs.length-1-k) tInt.dflt else xs.getD k tInt.dflt
theorem qcK (xs:List Int) (i:Nat):(revI xs i).length=xs.length:=by simp [revI]
theorem qeE {xs:List Int}{i k:Nat}(h:k<xs.length):(revI xs i).getD k tInt.dflt=if k<i∨xs.length-1-i<k then xs.getD (xs.length-1-k) tInt.dflt else xs.getD k tInt.dflt:=by simp [revI,List.getD,h]
theorem qh6 {A B:List Int}(hl:A.length=B.length) (h:∀ i,i<A.length→A.getD i tInt.dflt=B.getD i tInt.dflt):A=B:=by
 apply List.ext_getElem hl
 intro i h1 h2
 have:=h i h1
 rwa [qaj h1,qaj h2] at this
theorem qlC {l:List Int}{i j:Nat}{x:Int}(hi:i<l.length):(l.set i x).getD j tInt.dflt=if j=i then x else l.getD j tInt.dflt:=by
 simp only [List.getD,List.getElem?_set]
 by_cases h:i=j
 ·subst h;simp [hi]
 ·rw [if_neg h,if_neg (Ne.symm h)]
theorem qn7 (xs:List Int):revI xs 0=xs:=qh6 (qcK xs 0) fun k hk=>by
 rw [qcK] at hk
 rw [qeE hk,if_neg (by omega)]
theorem qqi {xs:List Int}{i:Nat}(h:xs.length-1≤2*i) (hi:i≤xs.length):revI xs i=xs.reverse:=qh6 (by rw [qcK,List.length_reverse]) fun k hk=>by
 rw [qcK] at hk
 rw [qeE hk]
 have hr:xs.reverse.getD k tInt.dflt=xs.getD (xs.length-1-k) tInt.dflt:=by
  rw [qaj (by rw [List.length_reverse];exact hk),List.getElem_reverse,qaj (by omega)]
 rw [hr]
 split
 ·rfl
 ·rename_i hn
  have:k=xs.length-1-k:=by omega
  rw [←this]
theorem qn8 {xs:List Int}{i:Nat}(h:2*i<xs.length-1):((revI xs i).set i ((revI xs i).getD (xs.length-1-i) tInt.dflt)).set (xs.length-1-i) ((revI xs i).getD i tInt.dflt)=revI xs (i+1):=qh6 (by simp [revI]) fun k hk=>by
 have hl:=qcK xs i
 rw [List.length_set,List.length_set,hl] at hk
 rw [qlC (by rw [List.length_set,hl];omega),qlC (by rw [hl];omega),qeE (show i<xs.length by omega),qeE (show xs.length-1-i<xs.length by omega),qeE hk,qeE hk]
 by_cases e1:k=xs.length-1-i
 ·subst e1
  rw [if_pos rfl,if_neg (by omega),if_pos (by omega),show xs.length-1-(xs.length-1-i)=i by omega]
 ·rw [if_neg e1]
  by_cases e2:k=i
  ·subst e2
   rw [if_pos rfl,if_neg (by omega),if_pos (by omega)]
  ·rw [if_neg e2]
   by_cases e3:k<i∨xs.length-1-i<k
   ·rw [if_pos e3,if_pos (by omega)]
   ·rw [if_neg e3,if_neg (by omega)]
set_option maxRecDepth 8000 in
set_option maxHeartbeats 4000000 in
theorem qj6 {w0 w:World}{Γ:List HP}{v:Value}{xs:List Int}(hn:xs.length≤1048576) (hw:Sat w0 w (OS tInt 3 v xs::Γ)) :
  Calls Tryz.prog 129 #[v] w fun e w'=>e=.returned (.tuple #[])∧Sat w0 w' (OS tInt 3 v xs.reverse::Γ):=by
 refine qab (args:=[v]) mixed Tryz.func129 rfl (by kernel_rfl) (Nat.le_of_ble_eq_true rfl) ?_
 rw [←qn7 xs] at hw
 have h0:=qcK xs 0
 repeat refine qaa ?_
 refine qap [2,3,7,8,9,10,11,12,13,14,15,16,17,18,19,20,21,22,23,24,25,26,27] (G:=Nat) (fun i=>[(2,.int .i64 i),(3,.int .i64 ((xs.length:Int)-1-i))]) (fun i w=>i≤xs.length∧2*i≤xs.length+1∧Sat w0 w (OS tInt 3 v (revI xs i)::Γ)) (fun i=>xs.length-i) 0 (fun _=>rfl) ⟨rfl,by show Value.int .i64 (((revI xs 0).length:Int)-1)=Value.int .i64 ((xs.length:Int)-1-((0:Nat):Int));rw [h0];congr 1;omega,trivial⟩ ⟨Nat.zero_le _,by omega,hw⟩ ?_
 clear hw h0
 rintro σ i w ⟨hi,hi2,hw⟩
 have hl:=qcK xs i
 repeat refine qaa ?_
 refine go_if (fun h1 => ?_) (fun h1 => ?_)
 ·have hj:((xs.length:Int)-1-i).toNat=xs.length-1-i:=by omega
  have hl2:((revI xs i).set i ((revI xs i).getD ((xs.length:Int)-1-i).toNat tInt.dflt)).length=xs.length:=by rw [List.length_set,hl]
  repeat refine qaa ?_
  refine qas [.op 0,.op 1,.op 2,.op 3,.op 4,.op 5,.op 6,.op 7,.op 8,.op 9,.op 10,.op 11,.op 12,.op 13,.op 14,.op 15] hw (by kernel_rfl) ?_;clear hw;intro w hw
  repeat (first|refine qaa ?_|(refine qai ?_;clear hw;intro w hw))
  rw [hj,qn8 (by omega)] at hw
  exact⟨i+1,⟨rfl,by show Value.int .i64 ((xs.length:Int)-1-i-1)=Value.int .i64 ((xs.length:Int)-1-((i+1:Nat):Int));congr 1;omega,trivial⟩,agr,⟨by omega,by omega,hw⟩,by omega⟩
 repeat refine qaa ?_
 rw [qqi (by omega) hi] at hw
 exact qaz rfl ⟨rfl,hw⟩
end Go.Proofs.YtkmbenhffledpaaGreat
/-
  Contract of 'registry.Path'.
-/
namespace Go.Proofs.YtkmbenhffledpaaGreat
open Go.Sl Go
attribute [local irreducible] vc opsW opsD opV opW PureV ReadV Thn Blk
set_option maxRecDepth 8000 in
set_option maxHeartbeats 8000000 in
theorem qla {w0 w:World}{Γ:List HP}{pr:Addr}{vars:List Int}{st:List (List Int)}{lk:List Lnk}{i:Nat}{q:List Int}(hi:i<st.length) (hn:st.length≤65536) (hpar:ParOk lk st.length) (hL:LPath lk i q) (hq:q.length≤st.length) (hw:Sat w0 w (RegH pr vars st lk::Γ)) :
  Calls Tryz.prog 94 #[.pointer (some pr),.int .i64 (i:Int)] w fun e w'=>∃ pv,e=.returned (.tuple #[pv,.nilIface])∧Sat w0 w' (OS tInt 3 pv q::RegH pr vars st lk::Γ):=by
 obtain⟨pk,F,W,ev,mv,es,wsl,kv,bs,hI,hP,hw⟩:=Sat.regOpen hw
 have hel:=hI.el
 refine qab (args:=[.pointer (some pr),.int .i64 (i:Int)]) mixed Tryz.func94 rfl (by kernel_rfl) (Nat.le_of_ble_eq_true rfl) ?_
 have hd:decide (0≤(i:Int)∧(i:Int)<(es.length:Int))=true:=decide_eq_true (by omega)
 repeat refine qaa ?_
 refine qac rfl (qdD (boxRO (p:=pr) hw) (rsO (s:=ev) hw)) ?_
 rintro _ w' ⟨rfl,hk'⟩
 replace hw:=hw.call0 hk'
 clear hk'
 refine⟨_,rfl,?_⟩
 rw [hd]
 replace hw:=hw.nil (T:=tInt) (e:=3)
 repeat refine qaa ?_
 refine qfs [1,4,5,6,7,18,19,20,21,22,23,24,25,26,27,28,29,30,31,32,33,34,35,36,37,38,39,40,41,42,43,44,45,46,47] (G:=Nat) (H:=List Int) (I:=Value) (M:=List Int) (fun k _ ov _=>[(1,.int .i64 k),(6,ov)]) (fun k qk ov out w=>k<st.length∧LPath lk k qk∧qk++out.reverse=q∧Sat w0 w (OS tInt 3 ov out::Box pr 223 [.pointer (some pk),ev,mv]::RdH (fun w=>RPk w pk F W)::OS tREnt 237 ev es::RdH (EntF es wsl)::MapO kInt mv kv::RowsAt tInt 3 (kv.map (·.2)) bs::Γ)) (fun _ qk _ _=>qk.length) i q (.slice none 0 0) [] (fun _ _ _ _=>rfl) ⟨rfl,rfl,trivial⟩ ⟨hi,hL,by simp,hw⟩ ?_
 clear hw
 rintro σ k qk ov out w ⟨hk,hLk,hqk,hw⟩
 have hlen:qk.length+out.length=q.length:=by rw [←hqk];simp
 obtain⟨l1,l2,l3⟩:=hI.lnk k hk
 repeat refine qaa ?_
 refine qa2 rfl (qmA (T:=tREnt) (s:=ev) (xs:=es) (i:=k) (k:=1) (vs:=[.int .i64 (eget tREnt es k).par,.int .i64 (eget tREnt es k).op,.int .i64 (eget tREnt es k).cost]) rfl (rsO (s:=ev) hw) (by omega) rfl rfl) ?_
 rw [l1,l2,l3]
 repeat (first|refine qaa ?_|(refine qaf ?_;clear hw;intro p w hw)|(refine qai ?_;clear hw;intro w hw))
 cases hLk with
 | root hr =>
  have hd1:decide ((lk.getD k dLnk).par<0)=true:=decide_eq_true hr
  simp only [hd1]
  repeat refine qaa ?_
  refine qac rfl (qj6 (v:=ov) (xs:=out) (by simp at hlen;omega) hw.swap) ?_
  clear hw
  rintro _ w ⟨rfl,hw⟩
  refine⟨_,rfl,?_⟩
  repeat refine qaa ?_
  rw [List.nil_append] at hqk
  rw [hqk] at hw
  have hw2:Sat w0 w (Box pr 223 [.pointer (some pk),ev,mv]::RdH (fun w=>RPk w pk F W)::OS tREnt 237 ev es::RdH (EntF es wsl)::MapO kInt mv kv::RowsAt tInt 3 (kv.map (·.2)) bs::OS tInt 3 ov q::Γ):=hw.selG
  exact qav (v:=ov) (v':=.nilIface) rfl rfl rfl ⟨ov,rfl,(Sat.regClose hI hP hw2).swap⟩
 | @step _ p2 q2 hp2 hL2 =>
  have hp2n:p2<st.length:=by have:=hpar k hk;rw [hp2] at this;omega
  have hql:q2.length+1+out.length=q.length:=by simp at hlen;omega
  rw [hp2] at hw ⊢
  have hd1:decide ((p2:Int)<0)=false:=decide_eq_false (by omega)
  simp only [hd1]
  repeat (first|refine qaa ?_|(refine qaq ?_;clear hw;intro s w hw))
  refine go_if (fun h3 => ?_) (fun h3 => ?_)
  ·simp only [List.length_append,List.length_cons,List.length_nil] at h3
   omega
  repeat refine qaa ?_
  exact⟨p2,q2,s,out++[(lk.getD k dLnk).op],⟨rfl,rfl,trivial⟩,agr,⟨hp2n,hL2,by rw [←hqk,List.reverse_append];simp,hw.tail.tail⟩,by simp⟩
end Go.Proofs.YtkmbenhffledpaaGreat
