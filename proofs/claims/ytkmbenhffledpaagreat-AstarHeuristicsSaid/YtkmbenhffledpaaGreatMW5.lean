/-
  Several texts as one: WReg2, WReg3, WTRank, WEst.
-/
import Derived.Test.YtkmbenhffledpaaGreatMW4
import Derived.Test.YtkmbenhffledpaaGreatMSlB
import Derived.Test.YtkmbenhffledpaaGreatMTA
import Derived.Test.YtkmbenhffledpaaGreatMW2
import Derived.Test.YtkmbenhffledpaaGreatMW3
set_option linter.unusedSimpArgs false
set_option linter.unusedVariables false
/-
  Contract of 'registry.Add'.
-/
namespace Go.Proofs.YtkmbenhffledpaaGreat
open Go.Sl Go
attribute [local irreducible] vc opsW opsD opV opW PureV ReadV Thn Blk
theorem EntF.snoc {es:List REnt}{wsl:List (List Nat)}{e:REnt}{ws:List Nat}{w:World}(h:EntF es wsl w) (hl:es.length=wsl.length) (hv:RS tU64 w e.words ws):EntF (es++[e]) (wsl++[ws]) w:=fun i hi=>by
 rw [qaB]
 by_cases e:i<wsl.length
 ·rw [app_l (by omega),app_l e,←qaB];exact h i e
 ·have e2:i=wsl.length:=by simp at hi;omega
  rw [qbB (by omega),qbB e2];exact hv
set_option maxRecDepth 8000 in
set_option maxHeartbeats 8000000 in
theorem qnv {w0 w:World}{Γ:List HP}{pr:Addr}{sv:Value}{vars:List Int}{st:List (List Int)}{lk:List Lnk}{s:List Int}(hvl:vars.length≤64) (hnd:st.Nodup) (hn:st.length<65536)
  (hs:RS tInt w sv s) (hok:StateOk vars s) (hw:Sat w0 w (RegH pr vars st lk::Γ)) :
  Calls Tryz.prog 123 #[.pointer (some pr),sv] w fun e w' =>
   (s∈st∧e=.returned (.tuple #[.int .i64 (st.idxOf s:Int),.bool false,.nilIface])∧Sat w0 w' (RegH pr vars st lk::Γ)) ∨
   (s∉st∧e=.returned (.tuple #[.int .i64 (st.length:Int),.bool true,.nilIface])∧Sat w0 w' (RegH pr vars (st++[s]) (lk++[dLnk])::Γ)):=by
 obtain⟨pk,F,W,ev,mv,es,wsl,kv,bs,hI,hP,hw⟩:=Sat.regOpen hw
 have hel:=hI.el
 have hwl:=hI.wl
 refine qab (args:=[.pointer (some pr),sv]) mixed Tryz.func123 rfl (by kernel_rfl) (Nat.le_of_ble_eq_true rfl) ?_
 repeat refine qaa ?_
 refine qac rfl (qk7 hvl hI hP hnd (by omega) hs hok hw) ?_
 clear hw
 rintro _ w ⟨wv,ws,rfl,hp,hw⟩
 refine⟨_,rfl,?_⟩
 by_cases hm:s∈st
 ·have hid:idxI st s=(st.idxOf s:Int):=if_pos hm
  have hd:decide ((0:Int)≤(st.idxOf s:Int))=true:=decide_eq_true (by omega)
  rw [hid]
  repeat refine qaa ?_
  simp only [hd]
  repeat refine qaa ?_
  exact qgq (v1:=.int .i64 (st.idxOf s:Int)) (v2:=.bool false) (v3:=.nilIface) rfl rfl rfl rfl (.inl ⟨hm,rfl,Sat.regClose hI hP hw.tail⟩)
 have hid:idxI st s = -1:=if_neg hm
 have hd:decide ((65536:Int)≤(es.length:Int))=false:=decide_eq_false (by omega)
 rw [hid]
 have owv:=(rsO (s:=wv) hw).cells1
 have owv2:=(rsO (s:=wv) hw).one
 repeat refine qaa ?_
 simp only [hd]
 repeat refine qaa ?_
 refine qa8 (vs:=[(0,wv),(1,.agg #[.int .i64 (-1),.int .i64 (-1),.int .i64 0])]) (ls:=[(0,[wv]),(1,[.int .i64 (-1),.int .i64 (-1),.int .i64 0])]) rfl (by show [(0,wv.cells.toList),(1,_)]=_;rw [owv];rfl) rfl ?_
 refine qah tREnt (x1:=⟨wv,-1,-1,0⟩) rfl rfl rfl (Nat.le_of_ble_eq_true rfl) (Nat.zero_lt_succ _) hw ?_
 clear hw
 intro sl w hw
 have hone:∀ v∈tREnt.enc ⟨wv,-1,-1,0⟩,v.oneCell'=true:=by
  intro v hv
  simp only [tREnt,List.mem_cons,List.not_mem_nil,or_false] at hv
  rcases hv with rfl|rfl|rfl|rfl
  ·exact owv2
  ·rfl
  ·rfl
  ·rfl
 refine qaJ (s:=ev) (s2:=sl) inferInstance rfl rfl (rsO hw) rfl rfl (fun x hx v hv=>by rw [List.mem_singleton.1 hx] at hv;exact hone v hv) (by simp only [List.length_cons,List.length_nil];omega) (by unfold big;simp only [List.length_cons,List.length_nil];omega) hw ?_
 clear hw
 intro ev2 w hw
 have oev:=(rsO (s:=ev2) hw).one
 repeat (first|refine qaa ?_|(refine qai ?_;clear hw;intro w hw))
 have hw1:Sat w0 w (OS tU64 251 wv ws::RdH (EntF es wsl)::Box pr 223 [.pointer (some pk),ev2,mv]::RdH (fun w=>RPk w pk F W)::OS tREnt 237 ev2 (es++[⟨wv,-1,-1,0⟩])::MapO kInt mv kv::RowsAt tInt 3 (kv.map (·.2)) bs::Γ):=by
  have g1:Sat w0 w (OS tREnt 237 sl [⟨wv,-1,-1,0⟩]::OS tU64 251 wv ws::Box pr 223 [.pointer (some pk),ev2,mv]::RdH (fun w=>RPk w pk F W)::OS tREnt 237 ev2 (es++[⟨wv,-1,-1,0⟩])::RdH (EntF es wsl)::MapO kInt mv kv::RowsAt tInt 3 (kv.map (·.2)) bs::Γ):=hw
  exact g1.selG
 have hw2:=Sat.rd (Δ:=[OS tU64 251 wv ws,RdH (EntF es wsl)]) (φ:=EntF (es++[⟨wv,-1,-1,0⟩]) (wsl++[ws])) (fun _ w h=>(h.rdE 1 rfl).snoc (by omega) (h.rs 0 rfl)) hw1
 clear hw hw1
 have hw:=hw2
 clear hw2
 refine qas [.op 0,.op 1,.op 2,.op 3,.op 4,.op 5,.op 6,.op 7,.op 8,.op 9,.op 10,.op 11,.op 12,.chk 3,.chk 8,.chk 10,.op 13,.chk 3,.op 14] hw (by kernel_rfl) ?_;clear hw;intro w hw
 repeat refine qaa ?_
 refine qa2 rfl (qeq (m:=mv) (κ:=kInt) (q:=hshL ws) rfl rfl hw inferInstance) ?_
 cases hf:mfind (hshL ws) kv 0 with
 | none =>
  have hmg:(mget kv (hshL ws)).getD (.slice none 0 0)=.slice none 0 0:=by unfold mget;rw [hf];rfl
  have hx:hshL ws∉kv.map (·.1):=qeQ.1 hf
  have hmp:∀ v,mput kv (hshL ws) v=kv++[(hshL ws,v)]:=fun v=>by unfold mput;rw [hf]
  rw [hmg]
  refine qbn ?_
  refine qbY ?_
  refine qeK ?_
  refine qbn ?_
  refine qbY ?_
  refine qah tInt (x1:=(es.length:Int)) rfl rfl rfl (Nat.le_of_ble_eq_true rfl) (Nat.zero_lt_succ _) hw ?_
  clear hw
  intro so w hw
  refine qbn ?_
  refine qdG ?_
  refine qdG ?_
  refine qiz rfl (qeq (m:=mv) (κ:=kInt) (q:=hshL ws) rfl rfl hw inferInstance) hmg.symm ?_
  refine qbY ?_
  replace hw:=hw.nil (T:=tInt) (e:=3)
  refine qaJ (s:=.slice none 0 0) (s2:=so) (T:=tInt) (xs:=[]) inferInstance rfl rfl (rsO hw) rfl rfl (fun x hx v hv=>by rw [List.mem_singleton.1 hv];rfl) (by simp only [List.length_cons,List.length_nil];omega) (by unfold big;simp only [List.length_cons,List.length_nil];omega) hw ?_
  clear hw
  intro bv2 w hw
  refine qbn ?_
  refine qdG ?_
  refine qbY ?_
  refine qfa (m:=mv) (κ:=kInt) (q:=hshL ws) (v:=bv2) rfl rfl rfl hw inferInstance ?_
  clear hw
  intro w hw
  refine qbn ?_
  refine qdv ?_
  rw [hmp] at hw
  repeat refine qaa ?_
  have hw1:Sat w0 w (OS tInt 3 bv2 [(wsl.length:Int)]::RowsAt tInt 3 (kv.map (·.2)) bs::Box pr 223 [.pointer (some pk),ev2,mv]::RdH (fun w=>RPk w pk F W)::OS tREnt 237 ev2 (es++[⟨wv,-1,-1,0⟩])::RdH (EntF (es++[⟨wv,-1,-1,0⟩]) (wsl++[ws]))::MapO kInt mv (kv++[(hshL ws,bv2)])::Γ):=by
   have g1:Sat w0 w (OS tInt 3 bv2 [(es.length:Int)]::OS tInt 3 so [(es.length:Int)]::RdH (EntF (es++[⟨wv,-1,-1,0⟩]) (wsl++[ws]))::Box pr 223 [.pointer (some pk),ev2,mv]::RdH (fun w=>RPk w pk F W)::OS tREnt 237 ev2 (es++[⟨wv,-1,-1,0⟩])::MapO kInt mv (kv++[(hshL ws,bv2)])::RowsAt tInt 3 (kv.map (·.2)) bs::Γ):=hw
   rw [hel,←hwl] at g1
   exact g1.selG
  have hw2:=hw1.rowPush
  have hm2:kv.map (·.2)++[bv2]=(kv++[(hshL ws,bv2)]).map (·.2):=by rw [List.map_append];rfl
  rw [hm2] at hw2
  have hw3:Sat w0 w (Box pr 223 [.pointer (some pk),ev2,mv]::RdH (fun w=>RPk w pk F W)::OS tREnt 237 ev2 (es++[⟨wv,-1,-1,0⟩])::RdH (EntF (es++[⟨wv,-1,-1,0⟩]) (wsl++[ws]))::MapO kInt mv (kv++[(hshL ws,bv2)])::RowsAt tInt 3 ((kv++[(hshL ws,bv2)]).map (·.2)) (bs++[[(wsl.length:Int)]])::Γ):=hw2.selG
  exact qgq (v1:=.int .i64 (es.length:Int)) (v2:=.bool true) (v3:=.nilIface) rfl rfl rfl rfl (.inr ⟨hm,by rw [hel],Sat.regClose (hI.addB hok hp hx wv bv2) hP hw3⟩)
 | some q =>
  obtain⟨j,v⟩:=q
  obtain⟨_,hj⟩:=qdx hf
  rw [Nat.sub_zero] at hj
  have hjl:j<kv.length:=(List.getElem?_eq_some_iff.1 hj).1
  have hbl:=hI.bl
  have hmg:(mget kv (hshL ws)).getD (.slice none 0 0)=v:=by unfold mget;rw [hf];rfl
  have hmp:∀ u,mput kv (hshL ws) u=kv.set j (hshL ws,u):=fun u=>by unfold mput;rw [hf]
  have hvj:vget (kv.map (·.2)) j=v:=by rw [qa7];simp [List.getD,hj]
  have hrow:=hI.bk j _ v hj
  have hrl:=qma wsl (hshL ws)
  rw [←hrow] at hrl
  rw [hmg]
  refine qbn ?_
  refine qbY ?_
  refine qeK ?_
  refine qbn ?_
  refine qbY ?_
  refine qah tInt (x1:=(es.length:Int)) rfl rfl rfl (Nat.le_of_ble_eq_true rfl) (Nat.zero_lt_succ _) hw ?_
  clear hw
  intro so w hw
  refine qbn ?_
  refine qdG ?_
  refine qdG ?_
  refine qiz rfl (qeq (m:=mv) (κ:=kInt) (q:=hshL ws) rfl rfl hw inferInstance) hmg.symm ?_
  refine qbY ?_
  have hjb:j<bs.length:=by omega
  have hso:=rsO (s:=so) hw
  have gr:Sat w0 w (RowsAt tInt 3 (kv.map (·.2)) bs::OS tInt 3 so [(es.length:Int)]::RdH (EntF (es++[⟨wv,-1,-1,0⟩]) (wsl++[ws]))::Box pr 223 [.pointer (some pk),ev2,mv]::RdH (fun w=>RPk w pk F W)::OS tREnt 237 ev2 (es++[⟨wv,-1,-1,0⟩])::MapO kInt mv kv::Γ):=hw.focus 6 rfl
  have g0:=gr.rowOut hjb
  rw [hvj] at g0
  refine qaJ (s:=v) (s2:=so) (T:=tInt) (xs:=bs.getD j []) inferInstance rfl rfl hso rfl rfl (fun x hx v hv=>by rw [List.mem_singleton.1 hv];rfl) (by simp only [List.length_cons,List.length_nil];omega) (by unfold big;simp only [List.length_cons,List.length_nil];omega) g0 ?_
  clear hw g0 gr hso
  intro bv2 w hw
  replace hw:=Sat.rowIn hjb (by rw [List.length_map];omega) hw
  have hw1:Sat w0 w (OS tInt 3 so [(es.length:Int)]::RdH (EntF (es++[⟨wv,-1,-1,0⟩]) (wsl++[ws]))::Box pr 223 [.pointer (some pk),ev2,mv]::RdH (fun w=>RPk w pk F W)::OS tREnt 237 ev2 (es++[⟨wv,-1,-1,0⟩])::MapO kInt mv kv::RowsAt tInt 3 ((kv.map (·.2)).set j bv2) (bs.set j (bs.getD j []++[(es.length:Int)]))::Γ):=by
   have g1:Sat w0 w (RowsAt tInt 3 ((kv.map (·.2)).set j bv2) (bs.set j (bs.getD j []++[(es.length:Int)]))::OS tInt 3 so [(es.length:Int)]::RdH (EntF (es++[⟨wv,-1,-1,0⟩]) (wsl++[ws]))::Box pr 223 [.pointer (some pk),ev2,mv]::RdH (fun w=>RPk w pk F W)::OS tREnt 237 ev2 (es++[⟨wv,-1,-1,0⟩])::MapO kInt mv kv::Γ):=hw
   exact g1.selG
  clear hw
  have hw:=hw1
  clear hw1
  refine qbn ?_
  refine qdG ?_
  refine qbY ?_
  refine qfa (m:=mv) (κ:=kInt) (q:=hshL ws) (v:=bv2) rfl rfl rfl hw inferInstance ?_
  clear hw
  intro w hw
  refine qbn ?_
  refine qdv ?_
  rw [hmp] at hw
  repeat refine qaa ?_
  have hm2:(kv.map (·.2)).set j bv2=(kv.set j (hshL ws,bv2)).map (·.2):=by rw [List.map_set]
  have g1:Sat w0 w (OS tInt 3 so [(es.length:Int)]::RdH (EntF (es++[⟨wv,-1,-1,0⟩]) (wsl++[ws]))::Box pr 223 [.pointer (some pk),ev2,mv]::RdH (fun w=>RPk w pk F W)::OS tREnt 237 ev2 (es++[⟨wv,-1,-1,0⟩])::MapO kInt mv (kv.set j (hshL ws,bv2))::RowsAt tInt 3 ((kv.map (·.2)).set j bv2) (bs.set j (bs.getD j []++[(es.length:Int)]))::Γ):=hw
  rw [hm2,hel,←hwl] at g1
  have hw3:Sat w0 w (Box pr 223 [.pointer (some pk),ev2,mv]::RdH (fun w=>RPk w pk F W)::OS tREnt 237 ev2 (es++[⟨wv,-1,-1,0⟩])::RdH (EntF (es++[⟨wv,-1,-1,0⟩]) (wsl++[ws]))::MapO kInt mv (kv.set j (hshL ws,bv2))::RowsAt tInt 3 ((kv.set j (hshL ws,bv2)).map (·.2)) (bs.set j (bs.getD j []++[(wsl.length:Int)]))::Γ):=g1.selG
  exact qgq (v1:=.int .i64 (es.length:Int)) (v2:=.bool true) (v3:=.nilIface) rfl rfl rfl rfl (.inr ⟨hm,by rw [hel],Sat.regClose (hI.addA hok hp hj wv bv2) hP hw3⟩)
end Go.Proofs.YtkmbenhffledpaaGreat
/-
  Contracts of 'registry.State', 'SetLink' and 'Path'.
-/
namespace Go.Proofs.YtkmbenhffledpaaGreat
open Go.Sl Go
attribute [local irreducible] vc opsW opsD opV opW PureV ReadV Thn Blk
set_option maxRecDepth 8000 in
set_option maxHeartbeats 4000000 in
theorem qkj {w0 w:World}{Γ:List HP}{pr:Addr}{vars:List Int}{st:List (List Int)}{lk:List Lnk}{i:Nat}(hvl:vars.length≤64) (hi:i<st.length) (hn:st.length≤65536) (hw:Sat w0 w (RegH pr vars st lk::Γ)) :
  Calls Tryz.prog 92 #[.pointer (some pr),.int .i64 (i:Int)] w fun e w'=>∃ sv,e=.returned (.tuple #[sv,.nilIface])∧Sat w0 w' (OS tInt 3 sv (st.getD i [])::RegH pr vars st lk::Γ):=by
 obtain⟨pk,F,W,ev,mv,es,wsl,kv,bs,hI,hP,hw⟩:=Sat.regOpen hw
 have hel:=hI.el
 have hwl:=hI.wl
 refine qab (args:=[.pointer (some pr),.int .i64 (i:Int)]) mixed Tryz.func92 rfl (by kernel_rfl) (Nat.le_of_ble_eq_true rfl) ?_
 have hd:decide (0≤(i:Int)∧(i:Int)<(es.length:Int))=true:=decide_eq_true (by omega)
 repeat refine qaa ?_
 refine qac rfl (qdD (boxRO (p:=pr) hw) (rsO (s:=ev) hw)) ?_
 rintro _ w' ⟨rfl,hk'⟩
 replace hw:=hw.call0 hk'
 clear hk'
 refine⟨_,rfl,?_⟩
 rw [hd]
 repeat refine qaa ?_
 refine qas [.op 0,.op 1,.op 2,.op 3,.op 4,.op 5,.op 6,.op 7,.op 8,.op 9,.op 10,.op 11,.op 12,.op 13,.op 14,.op 15,.op 16] hw (by kernel_rfl) ?_;clear hw;intro w hw
 repeat refine qaa ?_
 have hEw:RS tU64 w (eget tREnt es i).words (wsl.getD i []):=(hw.rdE 3 rfl) i (by omega)
 refine qac rfl (qlc (hw.rdE 1 rfl) hP hvl hEw (hI.pk i hi) (hI.ok i hi)) ?_
 rintro _ w' ⟨sv,rfl,hk'⟩
 replace hw:=hw.call1 hk'
 clear hk'
 refine⟨_,rfl,?_⟩
 repeat refine qaa ?_
 have hw2:Sat w0 w' (Box pr 223 [.pointer (some pk),ev,mv]::RdH (fun w=>RPk w pk F W)::OS tREnt 237 ev es::RdH (EntF es wsl)::MapO kInt mv kv::RowsAt tInt 3 (kv.map (·.2)) bs::OS tInt 3 sv (st.getD i [])::Γ):=hw.selG
 exact qav (v:=sv) (v':=.nilIface) rfl rfl rfl ⟨sv,rfl,(Sat.regClose hI hP hw2).swap⟩
theorem EntF.setl {es:List REnt}{wsl:List (List Nat)}{i:Nat}{a b c:Int}{w:World}(h:EntF es wsl w):EntF (es.set i ⟨(eget tREnt es i).words,a,b,c⟩) wsl w:=fun j hj=>by
 by_cases e:j=i
 ·subst e
  by_cases hl:j<es.length
  ·rw [qaB,qbw hl,if_pos rfl];exact h j hj
  ·rw [List.set_eq_of_length_le (Nat.le_of_not_lt hl)];exact h j hj
 ·rw [qaB]
  have:(es.set i ⟨(eget tREnt es i).words,a,b,c⟩).getD j tREnt.dflt=es.getD j tREnt.dflt:=by simp only [List.getD];rw [List.getElem?_set_ne (Ne.symm e)]
  rw [this,←qaB];exact h j hj
set_option maxRecDepth 8000 in
set_option maxHeartbeats 4000000 in
theorem qg4 {w0 w:World}{Γ:List HP}{pr:Addr}{vars:List Int}{st:List (List Int)}{lk:List Lnk}{i:Nat}{par op cost:Int}(hi:i<st.length) (hn:st.length≤65536) (hp:par = -1∨(0≤par∧par<st.length)) (hw:Sat w0 w (RegH pr vars st lk::Γ)) :
  Calls Tryz.prog 124 #[.pointer (some pr),.int .i64 (i:Int),.int .i64 par,.int .i64 op,.int .i64 cost] w fun e w'=>e=.returned .nilIface∧Sat w0 w' (RegH pr vars st (lk.set i ⟨par,op,cost⟩)::Γ):=by
 obtain⟨pk,F,W,ev,mv,es,wsl,kv,bs,hI,hP,hw⟩:=Sat.regOpen hw
 have hel:=hI.el
 have hwl:=hI.wl
 refine qab (args:=[.pointer (some pr),.int .i64 (i:Int),.int .i64 par,.int .i64 op,.int .i64 cost]) mixed Tryz.func124 rfl (by kernel_rfl) (Nat.le_of_ble_eq_true rfl) ?_
 have hd:decide (0≤(i:Int)∧(i:Int)<(es.length:Int))=true:=decide_eq_true (by omega)
 repeat refine qaa ?_
 refine qac rfl (qdD (boxRO (p:=pr) hw) (rsO (s:=ev) hw)) ?_
 rintro _ w' ⟨rfl,hk'⟩
 replace hw:=hw.call0 hk'
 clear hk'
 refine⟨_,rfl,?_⟩
 rw [hd]
 by_cases hp1:par = -1
 ·have hd1:decide (par = -1)=true:=decide_eq_true hp1
  repeat refine qaa ?_
  simp only [hd1,beq_self_eq_true,qal,qam,Bool.false_and,Bool.true_and,Bool.false_or,Bool.true_or,Bool.not_true,Bool.not_false,Bool.cond_true,Bool.cond_false,gv_fI,gv_tI]
  repeat refine qaa ?_
  refine qhg (T:=tREnt) (s:=ev) (j:=i) (k:=1) (vs:=[.int .i64 par,.int .i64 op,.int .i64 cost]) (x':=⟨(eget tREnt es i).words,par,op,cost⟩) rfl rfl rfl rfl hw inferInstance (by omega) (Nat.le_refl 4) (by rw [qaB];rfl) ?_
  clear hw
  intro w hw
  repeat refine qaa ?_
  have hw2:Sat w0 w (RdH (EntF es wsl)::Box pr 223 [.pointer (some pk),ev,mv]::RdH (fun w=>RPk w pk F W)::OS tREnt 237 ev (es.set i ⟨(eget tREnt es i).words,par,op,cost⟩)::MapO kInt mv kv::RowsAt tInt 3 (kv.map (·.2)) bs::Γ):=hw.selG
  have hw3:=Sat.rd (Δ:=[RdH (EntF es wsl)]) (φ:=EntF (es.set i ⟨(eget tREnt es i).words,par,op,cost⟩) wsl) (fun _ w h=>EntF.setl (h.rdE 0 rfl)) hw2
  have hw4:Sat w0 w (Box pr 223 [.pointer (some pk),ev,mv]::RdH (fun w=>RPk w pk F W)::OS tREnt 237 ev (es.set i ⟨(eget tREnt es i).words,par,op,cost⟩)::RdH (EntF (es.set i ⟨(eget tREnt es i).words,par,op,cost⟩) wsl)::MapO kInt mv kv::RowsAt tInt 3 (kv.map (·.2)) bs::Γ):=hw3.selG
  exact qae (v:=.nilIface) rfl rfl ⟨rfl,Sat.regClose (hI.setl hi ⟨par,op,cost⟩) hP hw4⟩
 ·have hd1:decide (par = -1)=false:=decide_eq_false hp1
  have hd2:decide (0≤par∧par<(es.length:Int))=true:=decide_eq_true (by omega)
  repeat refine qaa ?_
  simp only [hd1,beq_self_eq_true,qal,qam,Bool.false_and,Bool.true_and,Bool.false_or,Bool.true_or,Bool.not_true,Bool.not_false,Bool.cond_true,Bool.cond_false,gv_fI,gv_tI]
  repeat refine qaa ?_
  refine qac rfl (qdD (boxRO (p:=pr) hw) (rsO (s:=ev) hw)) ?_
  rintro _ w' ⟨rfl,hk'⟩
  replace hw:=hw.call0 hk'
  clear hk'
  refine⟨_,rfl,?_⟩
  rw [hd2]
  repeat refine qaa ?_
  refine qhg (T:=tREnt) (s:=ev) (j:=i) (k:=1) (vs:=[.int .i64 par,.int .i64 op,.int .i64 cost]) (x':=⟨(eget tREnt es i).words,par,op,cost⟩) rfl rfl rfl rfl hw inferInstance (by omega) (Nat.le_refl 4) (by rw [qaB];rfl) ?_
  clear hw
  intro w hw
  repeat refine qaa ?_
  have hw2:Sat w0 w (RdH (EntF es wsl)::Box pr 223 [.pointer (some pk),ev,mv]::RdH (fun w=>RPk w pk F W)::OS tREnt 237 ev (es.set i ⟨(eget tREnt es i).words,par,op,cost⟩)::MapO kInt mv kv::RowsAt tInt 3 (kv.map (·.2)) bs::Γ):=hw.selG
  have hw3:=Sat.rd (Δ:=[RdH (EntF es wsl)]) (φ:=EntF (es.set i ⟨(eget tREnt es i).words,par,op,cost⟩) wsl) (fun _ w h=>EntF.setl (h.rdE 0 rfl)) hw2
  have hw4:Sat w0 w (Box pr 223 [.pointer (some pk),ev,mv]::RdH (fun w=>RPk w pk F W)::OS tREnt 237 ev (es.set i ⟨(eget tREnt es i).words,par,op,cost⟩)::RdH (EntF (es.set i ⟨(eget tREnt es i).words,par,op,cost⟩) wsl)::MapO kInt mv kv::RowsAt tInt 3 (kv.map (·.2)) bs::Γ):=hw3.selG
  exact qae (v:=.nilIface) rfl rfl ⟨rfl,Sat.regClose (hI.setl hi ⟨par,op,cost⟩) hP hw4⟩
end Go.Proofs.YtkmbenhffledpaaGreat
/-
  Contracts of 'task.States', 'task.counted', 'task.Rank'.
-/
namespace Go.Proofs.YtkmbenhffledpaaGreat
open Go.Sl Go
attribute [local irreducible] vc opsW opsD opV opW PureV ReadV Thn Blk
end Go.Proofs.YtkmbenhffledpaaGreat
/-
  Contract of 'estimate.copied': a task that shares no memory with another one.
-/
namespace Go.Proofs.YtkmbenhffledpaaGreat
open Go.Sl Go
attribute [local irreducible] vc opsW opsD opV opW PureV ReadV Thn Blk
set_option maxRecDepth 8000 in
theorem qbJ {w0:World}{a:Value}{xs:List Fact}(ha:RS tFact w0 a xs) (hn:xs.length≤1099511627776) :
  Calls Tryz.prog 55 #[a] w0 fun e w'=>∃ s,e=.returned s∧Sat w0 w' [OS tFact 77 s xs]:=by
 have hw:=Sat.start w0
 refine qab (args:=[a]) mixed Tryz.func55 rfl (by kernel_rfl) (Nat.le_of_ble_eq_true rfl) ?_
 repeat refine qaa ?_
 refine qac rfl (qbc ha hn) ?_
 rintro _ w' ⟨s,rfl,hk'⟩
 replace hw:=hw.call1 hk'
 clear hk'
 refine⟨_,rfl,?_⟩
 repeat refine qaa ?_
 exact qae (v:=s) rfl rfl ⟨_,rfl,hw⟩
structure EffI (E:List Eff) (us:List EffV) (j:Nat) (es:List EffV):Prop where
 len:es.length=E.length
 fld:∀ i,i<E.length→(eget tEff es i).var=(E.getD i dEff).var∧(eget tEff es i).val=(E.getD i dEff).val
 old:∀ i,j≤i→i<E.length→(eget tEff es i).when=(eget tEff us i).when
def EffW (E:List Eff) (j:Nat) (es:List EffV) (w:World):Prop:=∀ i,i<j→RS tFact w (eget tEff es i).when (E.getD i dEff).when
theorem qh2 {α:Type}{T:Ty α}{xs:List α}{i j:Nat}{x:α}(hj:j<xs.length):eget T (xs.set j x) i=if i=j then x else eget T xs i:=by
 rw [qaB,qaB]
 by_cases e:i=j
 ·subst e;rw [if_pos rfl];simp [List.getD,hj]
 ·rw [if_neg e];simp only [List.getD];rw [List.getElem?_set_ne (fun h=>e h.symm)]
theorem EffI.step {E:List Eff}{us es:List EffV}{j:Nat}(h:EffI E us j es) (hj:j<E.length) {s:Value}:EffI E us (j+1) (es.set j ⟨s,(eget tEff es j).var,(eget tEff es j).val⟩):=by
 have hl:=h.len
 refine⟨by simp [hl],fun i hi => ?_,fun i hi hi2 => ?_⟩
 ·rw [qh2 (by omega)]
  split
  ·rename_i e;rw [e];exact h.fld j hj
  ·exact h.fld i hi
 ·rw [qh2 (by omega),if_neg (by omega)]
  exact h.old i (by omega) hi2
theorem EffW.step {E:List Eff}{es:List EffV}{j:Nat}{w:World}(h:EffW E j es w) (hj:j<es.length) {s:Value}{a b:Int}(hs:RS tFact w s (E.getD j dEff).when):EffW E (j+1) (es.set j ⟨s,a,b⟩) w:=fun i hi=>by
 rw [qh2 hj]
 split
 ·rename_i e;subst e;exact hs
 ·exact h i (by omega)
def OpsF (t:TTask) (k:Nat) (ws:List OpV) (w:World):Prop:=∀ i,i<k→ROp w (eget tOp ws i) (t.ops.getD i dOp)
theorem qh3 {α:Type}{T:Ty α}{xs:List α}{x:α}{i:Nat}:eget T (xs++[x]) i=if i<xs.length then eget T xs i else if i=xs.length then x else T.dflt:=by
 rw [qaB,qaB]
 by_cases h:i<xs.length
 ·rw [if_pos h];simp [List.getD_eq_getElem?_getD,List.getElem?_append_left h]
 ·rw [if_neg h]
  by_cases e:i=xs.length
  ·subst e;rw [if_pos rfl];simp [List.getD_eq_getElem?_getD]
  ·rw [if_neg e];simp [List.getD_eq_getElem?_getD,List.getElem?_append_right (Nat.le_of_not_lt h),List.getElem?_cons,show ¬i-xs.length=0 by omega]
theorem OpsF.step {t:TTask}{k:Nat}{ws:List OpV}{w:World}{v:OpV}(h:OpsF t k ws w) (hl:ws.length=k) (hv:ROp w v (t.ops.getD k dOp)):OpsF t (k+1) (ws++[v]) w:=fun i hi=>by
 rw [qh3]
 by_cases e:i<k
 ·rw [if_pos (by omega)];exact h i e
 ·have e2:i=k:=by omega
  rw [if_neg (by omega),if_pos (by omega),e2];exact hv
theorem qmy {w:World}{s:Value}{us:List EffV}{E:List Eff}(h:REffs w s us E):∀ x∈us,∀ v∈tEff.enc x,v.oneCell'=true:=fun x hx v hv=>by
 obtain⟨i,hi,rfl⟩:=List.getElem_of_mem hx
 have h1:=(h.at_ i (by have:=h.len;omega)).one
 rw [qaB,qaj hi] at h1
 exact List.all_eq_true.1 h1 v hv
def HeadF (t:TTask) (a b c:Value) (w:World):Prop:=RS tInt w a t.vars∧RS tInt w b t.init∧RS tFact w c t.goal
set_option maxRecDepth 8000 in
set_option maxHeartbeats 4000000 in
theorem qk5 {w0:World}{a b c d:Value}{vs:List OpV}{t:TTask}(ht:RTask w0 a b c d vs t) (hg:GoodT t) :
  Calls Tryz.prog 69 #[.agg #[a,b,c,d]] w0 fun e w'=>∃ a2 b2 c2 d2 vs2,e=.returned (.agg #[a2,b2,c2,d2])∧Sat w0 w' [RdH fun w=>RTask w a2 b2 c2 d2 vs2 t]:=by
 have ht':=ht
 obtain⟨ha,hb,hc,hd⟩:=ht
 have hdr:=hd.rs
 have hdl:=hd.len
 have hol:=hg.ops
 have hvl:=hg.vars
 have hil:=hg.init.1
 have hgl:=qaI hg.goal
 have hw:=Sat.start w0
 refine qab (args:=[.agg #[a,b,c,d]]) mixed Tryz.func69 rfl (by kernel_rfl) (Nat.le_of_ble_eq_true rfl) ?_
 refine qbV ?_
 refine qaS ?_
 refine qcx ?_
 clear hw
 intro pt w hw
 replace hw:Sat w0 w [Box pt 26 [a,b,c,d]]:=hw
 refine qds ?_
 clear hw
 intro pr w hw
 repeat refine qaa ?_
 refine qb0 [7,8,9,10,11,12,13,14,15,16,3] (G:=Addr × Value × Value × Value) (fun g=>[(3,.pointer (some g.1))]) (fun g w=>Sat w0 w [Box g.1 26 [g.2.1,g.2.2.1,g.2.2.2,.slice none 0 0],OS tInt 3 g.2.1 t.vars,OS tInt 3 g.2.2.1 t.init,OS tFact 77 g.2.2.2 t.goal,Box pr 26 [.slice none 0 0,.slice none 0 0,.slice none 0 0,.slice none 0 0],Box pt 26 [a,b,c,d]]) (fun _=>rfl) ?_ ?_
 ·refine qeP (.step 0 [.op 0] (.step 3 [.op 3] (.step 6 [.op 6] (.step 1 [.op 1] (.step 4 [.op 4] (.step 7 [.op 7] (.alt 2 [.op 2,.chk 4,.chk 7] (.alt 5 [.op 5,.chk 7] (.alt 8 [.op 8] (.alt 9 [.op 9] (.step 10 [.op 10,.chk 1,.chk 4,.chk 7] (.step 11 [.op 11] (.lin []))) (.alt 10 [.op 10,.chk 1,.chk 4,.chk 7] (.step 9 [.op 9] (.step 11 [.op 11] (.lin []))) (.stop))) (.alt 10 [.op 10,.chk 1,.chk 4,.chk 7] (.step 8 [.op 8] (.step 9 [.op 9] (.step 11 [.op 11] (.lin [])))) (.stop))) (.alt 10 [.op 10,.chk 1,.chk 4,.chk 7] (.step 5 [.op 5,.chk 7] (.step 8 [.op 8] (.step 9 [.op 9] (.step 11 [.op 11] (.lin []))))) (.stop))) (.alt 10 [.op 10,.chk 1,.chk 4,.chk 7] (.step 2 [.op 2,.chk 4,.chk 7] (.step 5 [.op 5,.chk 7] (.step 8 [.op 8] (.step 9 [.op 9] (.step 11 [.op 11] (.lin [])))))) (.stop))))))))) hw (by kernel_rfl) (by kernel_rfl) ?_;clear hw;intro w hw
  repeat refine qaa ?_
  refine qaw ?_ (qaw ?_ qaM)
  ·repeat refine qaa ?_
   refine qac rfl (qax (ha.at hw) (by omega)) ?_
   rintro _ w' ⟨a2,rfl,hk'⟩
   replace hw:=hw.call1 hk'
   clear hk'
   refine⟨_,rfl,?_⟩
   repeat refine qaa ?_
   refine qaw ?_ (qaw ?_ qaM)
   ·repeat refine qaa ?_
    refine qac rfl (qax (hb.at hw) (by omega)) ?_
    rintro _ w' ⟨b2,rfl,hk'⟩
    replace hw:=hw.call1 hk'
    clear hk'
    refine⟨_,rfl,?_⟩
    repeat refine qaa ?_
    refine qaw ?_ (qaw ?_ qaM)
    ·repeat refine qaa ?_
     refine qac rfl (qbJ (hc.at hw) (by omega)) ?_
     rintro _ w' ⟨c2,rfl,hk'⟩
     replace hw:=hw.call1 hk'
     clear hk'
     refine⟨_,rfl,?_⟩
     repeat refine qaa ?_
     refine qaw ?_ (qaw ?_ qaM)
     ·repeat refine qaa ?_
      have oa:=(rsO (s:=a2) hw).one
      have ob:=(rsO (s:=b2) hw).one
      have oc:=(rsO (s:=c2) hw).one
      refine qaR (v1:=a2) (v2:=b2) (v3:=c2) rfl rfl rfl rfl (by simp only [List.all_cons,List.all_nil,oa,ob,oc];rfl) ?_
      repeat (first|refine qaa ?_|(refine qaf ?_;clear hw;intro p w hw))
      obtain⟨po,hpo⟩:∃ po,po=p:=⟨p,rfl⟩
      subst hpo
      repeat refine qaa ?_
      refine qat (n:=4) (p:=po) (vs:=[a2,b2,c2,.slice none 0 0]) rfl rfl hw inferInstance rfl rfl (by simp only [List.all_cons,List.all_nil,oa,ob,oc];rfl) ?_
      clear hw
      intro w hw
      repeat refine qaa ?_
      have hw2:Sat w0 w [Box po 26 [a2,b2,c2,.slice none 0 0],OS tInt 3 a2 t.vars,OS tInt 3 b2 t.init,OS tFact 77 c2 t.goal,Box pr 26 [.slice none 0 0,.slice none 0 0,.slice none 0 0,.slice none 0 0],Box pt 26 [a,b,c,d]]:=hw.sel
      exact⟨(po,a2,b2,c2),⟨rfl,trivial⟩,agr,hw2⟩
     ·repeat (first|refine qaa ?_|(refine qaf ?_;clear hw;intro p w hw))
      obtain⟨po,hpo⟩:∃ po,po=p:=⟨p,rfl⟩
      subst hpo
      repeat refine qaa ?_
      have oa:=(rsO (s:=a2) hw).one
      have ob:=(rsO (s:=b2) hw).one
      have oc:=(rsO (s:=c2) hw).one
      refine qaR (v1:=a2) (v2:=b2) (v3:=c2) rfl rfl rfl rfl (by simp only [List.all_cons,List.all_nil,oa,ob,oc];rfl) ?_
      repeat refine qaa ?_
      refine qat (n:=4) (p:=po) (vs:=[a2,b2,c2,.slice none 0 0]) rfl rfl hw inferInstance rfl rfl (by simp only [List.all_cons,List.all_nil,oa,ob,oc];rfl) ?_
      clear hw
      intro w hw
      repeat refine qaa ?_
      have hw2:Sat w0 w [Box po 26 [a2,b2,c2,.slice none 0 0],OS tInt 3 a2 t.vars,OS tInt 3 b2 t.init,OS tFact 77 c2 t.goal,Box pr 26 [.slice none 0 0,.slice none 0 0,.slice none 0 0,.slice none 0 0],Box pt 26 [a,b,c,d]]:=hw.sel
      exact⟨(po,a2,b2,c2),⟨rfl,trivial⟩,agr,hw2⟩
    ·repeat (first|refine qaa ?_|(refine qaf ?_;clear hw;intro p w hw))
     obtain⟨po,hpo⟩:∃ po,po=p:=⟨p,rfl⟩
     subst hpo
     repeat refine qaa ?_
     refine qac rfl (qbJ (hc.at hw) (by omega)) ?_
     rintro _ w' ⟨c2,rfl,hk'⟩
     replace hw:=hw.call1 hk'
     clear hk'
     refine⟨_,rfl,?_⟩
     repeat refine qaa ?_
     repeat refine qaa ?_
     have oa:=(rsO (s:=a2) hw).one
     have ob:=(rsO (s:=b2) hw).one
     have oc:=(rsO (s:=c2) hw).one
     refine qaR (v1:=a2) (v2:=b2) (v3:=c2) rfl rfl rfl rfl (by simp only [List.all_cons,List.all_nil,oa,ob,oc];rfl) ?_
     repeat refine qaa ?_
     refine qat (n:=4) (p:=po) (vs:=[a2,b2,c2,.slice none 0 0]) rfl rfl hw inferInstance rfl rfl (by simp only [List.all_cons,List.all_nil,oa,ob,oc];rfl) ?_
     clear hw
     intro w hw
     repeat refine qaa ?_
     have hw2:Sat w0 w [Box po 26 [a2,b2,c2,.slice none 0 0],OS tInt 3 a2 t.vars,OS tInt 3 b2 t.init,OS tFact 77 c2 t.goal,Box pr 26 [.slice none 0 0,.slice none 0 0,.slice none 0 0,.slice none 0 0],Box pt 26 [a,b,c,d]]:=hw.sel
     exact⟨(po,a2,b2,c2),⟨rfl,trivial⟩,agr,hw2⟩
   ·repeat (first|refine qaa ?_|(refine qaf ?_;clear hw;intro p w hw))
    obtain⟨po,hpo⟩:∃ po,po=p:=⟨p,rfl⟩
    subst hpo
    repeat refine qaa ?_
    refine qac rfl (qax (hb.at hw) (by omega)) ?_
    rintro _ w' ⟨b2,rfl,hk'⟩
    replace hw:=hw.call1 hk'
    clear hk'
    refine⟨_,rfl,?_⟩
    repeat refine qaa ?_
    repeat refine qaa ?_
    refine qac rfl (qbJ (hc.at hw) (by omega)) ?_
    rintro _ w' ⟨c2,rfl,hk'⟩
    replace hw:=hw.call1 hk'
    clear hk'
    refine⟨_,rfl,?_⟩
    repeat refine qaa ?_
    repeat refine qaa ?_
    have oa:=(rsO (s:=a2) hw).one
    have ob:=(rsO (s:=b2) hw).one
    have oc:=(rsO (s:=c2) hw).one
    refine qaR (v1:=a2) (v2:=b2) (v3:=c2) rfl rfl rfl rfl (by simp only [List.all_cons,List.all_nil,oa,ob,oc];rfl) ?_
    repeat refine qaa ?_
    refine qat (n:=4) (p:=po) (vs:=[a2,b2,c2,.slice none 0 0]) rfl rfl hw inferInstance rfl rfl (by simp only [List.all_cons,List.all_nil,oa,ob,oc];rfl) ?_
    clear hw
    intro w hw
    repeat refine qaa ?_
    have hw2:Sat w0 w [Box po 26 [a2,b2,c2,.slice none 0 0],OS tInt 3 a2 t.vars,OS tInt 3 b2 t.init,OS tFact 77 c2 t.goal,Box pr 26 [.slice none 0 0,.slice none 0 0,.slice none 0 0,.slice none 0 0],Box pt 26 [a,b,c,d]]:=hw.sel
    exact⟨(po,a2,b2,c2),⟨rfl,trivial⟩,agr,hw2⟩
  ·repeat (first|refine qaa ?_|(refine qaf ?_;clear hw;intro p w hw))
   obtain⟨po,hpo⟩:∃ po,po=p:=⟨p,rfl⟩
   subst hpo
   repeat refine qaa ?_
   refine qac rfl (qax (ha.at hw) (by omega)) ?_
   rintro _ w' ⟨a2,rfl,hk'⟩
   replace hw:=hw.call1 hk'
   clear hk'
   refine⟨_,rfl,?_⟩
   repeat refine qaa ?_
   repeat refine qaa ?_
   refine qac rfl (qax (hb.at hw) (by omega)) ?_
   rintro _ w' ⟨b2,rfl,hk'⟩
   replace hw:=hw.call1 hk'
   clear hk'
   refine⟨_,rfl,?_⟩
   repeat refine qaa ?_
   repeat refine qaa ?_
   refine qac rfl (qbJ (hc.at hw) (by omega)) ?_
   rintro _ w' ⟨c2,rfl,hk'⟩
   replace hw:=hw.call1 hk'
   clear hk'
   refine⟨_,rfl,?_⟩
   repeat refine qaa ?_
   repeat refine qaa ?_
   have oa:=(rsO (s:=a2) hw).one
   have ob:=(rsO (s:=b2) hw).one
   have oc:=(rsO (s:=c2) hw).one
   refine qaR (v1:=a2) (v2:=b2) (v3:=c2) rfl rfl rfl rfl (by simp only [List.all_cons,List.all_nil,oa,ob,oc];rfl) ?_
   repeat refine qaa ?_
   refine qat (n:=4) (p:=po) (vs:=[a2,b2,c2,.slice none 0 0]) rfl rfl hw inferInstance rfl rfl (by simp only [List.all_cons,List.all_nil,oa,ob,oc];rfl) ?_
   clear hw
   intro w hw
   repeat refine qaa ?_
   have hw2:Sat w0 w [Box po 26 [a2,b2,c2,.slice none 0 0],OS tInt 3 a2 t.vars,OS tInt 3 b2 t.init,OS tFact 77 c2 t.goal,Box pr 26 [.slice none 0 0,.slice none 0 0,.slice none 0 0,.slice none 0 0],Box pt 26 [a,b,c,d]]:=hw.sel
   exact⟨(po,a2,b2,c2),⟨rfl,trivial⟩,agr,hw2⟩
 clear hw
 rintro σ0 ⟨po,a2,b2,c2⟩ w hw
 simp only at hw
 have hw1:Sat w0 w [OS tOp 56 (.slice none 0 0) [],RdH (OpsF t 0 []),RdH (HeadF t a2 b2 c2),Box po 26 [a2,b2,c2,.slice none 0 0],Box pr 26 [.slice none 0 0,.slice none 0 0,.slice none 0 0,.slice none 0 0],Box pt 26 [a,b,c,d]]:=by
  have hw2:Sat w0 w [OS tInt 3 a2 t.vars,OS tInt 3 b2 t.init,OS tFact 77 c2 t.goal,Box po 26 [a2,b2,c2,.slice none 0 0],Box pr 26 [.slice none 0 0,.slice none 0 0,.slice none 0 0,.slice none 0 0],Box pt 26 [a,b,c,d]]:=hw.sel
  have hw3:=Sat.rd (Δ:=[OS tInt 3 a2 t.vars,OS tInt 3 b2 t.init,OS tFact 77 c2 t.goal]) (φ:=HeadF t a2 b2 c2) (fun _ w h=>⟨h.rs 0 rfl,h.rs 1 rfl,h.rs 2 rfl⟩) hw2
  exact (Sat.rd0 (φ:=OpsF t 0 []) (fun w i hi=>absurd hi (Nat.not_lt_zero _)) hw3).nil
 clear hw
 have hw:=hw1
 clear hw1
 repeat refine qaa ?_
 refine qay [5,6,20,21,22,23,24,25,26,27,28,29,30,31,32,33,34,35,36,37,38,39,40,41,42,43,44,45,46,47,48,49,50,51,52,53,54,55,56,57] (G:=Nat) (H:=Value) (I:=List OpV) (fun k _ _=>[(20,.int .i64 k)]) (fun k dv ws w=>k≤t.ops.length∧ws.length=k∧Sat w0 w [OS tOp 56 dv ws,RdH (OpsF t k ws),RdH (HeadF t a2 b2 c2),Box po 26 [a2,b2,c2,dv],Box pr 26 [.slice none 0 0,.slice none 0 0,.slice none 0 0,.slice none 0 0],Box pt 26 [a,b,c,d]]) (fun k _ _=>t.ops.length-k) 0 (.slice none 0 0) [] (fun _ _ _=>rfl) ⟨rfl,trivial⟩ ⟨Nat.zero_le _,rfl,hw⟩ ?_
 clear hw
 rintro σ k dv ws w ⟨hk,hwl,hw⟩
 repeat refine qaa ?_
 refine go_if (fun h1 => ?_) (fun h1 => ?_)
 ·have hkl:k<t.ops.length:=by omega
  have hop:=hd.at_ k hkl
  have hone:=hop.one
  have hpre:=hop.pre
  have hgo:=hg.op k hkl
  have hpl:=qaI hgo.pre
  have hel:=hgo.effs
  obtain⟨us,hus⟩:=hop.effs
  have husr:=hus.rs
  have husl:=hus.len
  repeat (first|refine qaa ?_|(refine qaf ?_;clear hw;intro p w hw)|(refine qai ?_;clear hw;intro w hw))
  obtain⟨p5,hp5⟩:∃ p5,p5=p:=⟨p,rfl⟩
  subst hp5
  refine qas [.op 0,.op 1,.op 3,.op 4,.op 2,.chk 4,.op 6,.op 5,.op 7,.op 8,.op 9] hw (by kernel_rfl) ?_;clear hw;intro w hw
  repeat refine qaa ?_
  refine qac rfl (qbJ (hpre.at hw) (by omega)) ?_
  rintro _ w' ⟨pv,rfl,hk'⟩
  replace hw:=hw.call1 hk'
  clear hk'
  refine⟨_,rfl,?_⟩
  repeat refine qaa ?_
  refine qac rfl (qk9 (husr.at hw) (by omega) (qmy hus)) ?_
  rintro _ w' ⟨ev,rfl,hk'⟩
  replace hw:=hw.call1 hk'
  clear hk'
  refine⟨_,rfl,?_⟩
  have opv:=(rsO (s:=pv) hw).one
  have oev:=(rsO (s:=ev) hw).one
  repeat refine qaa ?_
  refine qhs (k:=2) (p:=p5) (v:=pv) rfl rfl opv hw inferInstance (by rw [tOp.ok];decide) ?_
  clear hw
  intro w hw
  repeat refine qaa ?_
  refine qhs (k:=3) (p:=p5) (v:=ev) rfl rfl oev hw inferInstance (by rw [List.length_set,tOp.ok];decide) ?_
  clear hw
  intro w hw
  have hw1:Sat w0 w [RdH (EffW (t.ops.getD k dOp).effs 0 us),OS tEff 80 ev us,Box p5 56 (tOp.enc ⟨(eget tOp vs k).name,(eget tOp vs k).cost,pv,ev⟩),OS tFact 77 pv (t.ops.getD k dOp).pre,OS tOp 56 dv ws,RdH (OpsF t k ws),RdH (HeadF t a2 b2 c2),Box po 26 [a2,b2,c2,dv],Box pr 26 [.slice none 0 0,.slice none 0 0,.slice none 0 0,.slice none 0 0],Box pt 26 [a,b,c,d]]:=by
   have hw2:Sat w0 w [OS tEff 80 ev us,OS tFact 77 pv (t.ops.getD k dOp).pre,Box p5 56 (tOp.enc ⟨(eget tOp vs k).name,(eget tOp vs k).cost,pv,ev⟩),OS tOp 56 dv ws,RdH (OpsF t k ws),RdH (HeadF t a2 b2 c2),Box po 26 [a2,b2,c2,dv],Box pr 26 [.slice none 0 0,.slice none 0 0,.slice none 0 0,.slice none 0 0],Box pt 26 [a,b,c,d]]:=hw
   exact (Sat.rd0 (φ:=EffW (t.ops.getD k dOp).effs 0 us) (fun w i hi=>absurd hi (Nat.not_lt_zero _)) hw2).sel
  clear hw
  have hw:=hw1
  clear hw1
  have hE0:EffI (t.ops.getD k dOp).effs us 0 us:=⟨husl,fun i hi=>⟨(hus.at_ i hi).var,(hus.at_ i hi).val⟩,fun i _ _=>rfl⟩
  repeat refine qaa ?_
  refine qao [6,35,36,37,38,39,40,41,42,43,44,45,46,47,48,49,50] (G:=Nat) (H:=List EffV) (fun j _=>[(35,.int .i64 j)]) (fun j es w=>j≤(t.ops.getD k dOp).effs.length∧EffI (t.ops.getD k dOp).effs us j es∧Sat w0 w [RdH (EffW (t.ops.getD k dOp).effs j es),OS tEff 80 ev es,Box p5 56 (tOp.enc ⟨(eget tOp vs k).name,(eget tOp vs k).cost,pv,ev⟩),OS tFact 77 pv (t.ops.getD k dOp).pre,OS tOp 56 dv ws,RdH (OpsF t k ws),RdH (HeadF t a2 b2 c2),Box po 26 [a2,b2,c2,dv],Box pr 26 [.slice none 0 0,.slice none 0 0,.slice none 0 0,.slice none 0 0],Box pt 26 [a,b,c,d]]) (fun j _=>(t.ops.getD k dOp).effs.length-j) 0 us (fun _ _=>rfl) ⟨rfl,trivial⟩ ⟨Nat.zero_le _,hE0,hw⟩ ?_
  clear hw
  rintro σ1 j es w ⟨hj,hE,hw⟩
  have hesl:=hE.len
  repeat refine qaa ?_
  refine go_if (fun h2 => ?_) (fun h2 => ?_)
  ·have hjl:j<(t.ops.getD k dOp).effs.length:=by omega
   have hue:=hus.at_ j hjl
   have hfj:=hE.fld j hjl
   have hoj:=hE.old j (Nat.le_refl _) hjl
   have hfl:=qaI (hgo.eff j hjl).1
   have hwhen:RS tFact w0 (eget tEff es j).when ((t.ops.getD k dOp).effs.getD j dEff).when:=by rw [hoj];exact hue.when
   repeat refine qaa ?_
   refine qas [.op 0,.op 1,.op 2,.op 3,.op 4,.op 5,.op 6,.op 7,.op 8,.op 9,.chk 1,.op 10,.op 11,.op 12] hw (by kernel_rfl) ?_;clear hw;intro w hw
   repeat refine qaa ?_
   refine qac rfl (qbJ (hwhen.at hw) (by omega)) ?_
   rintro _ w' ⟨fv,rfl,hk'⟩
   replace hw:=hw.call1 hk'
   clear hk'
   refine⟨_,rfl,?_⟩
   have ofv:=(rsO (s:=fv) hw).one
   repeat refine qaa ?_
   refine qjH (T:=tEff) (s:=ev) (j:=j) (k:=0) (v:=fv) (x':=⟨fv,(eget tEff es j).var,(eget tEff es j).val⟩) rfl rfl ofv hw inferInstance (by omega) (Nat.zero_lt_succ _) (by rw [←qaB];rfl) ?_
   clear hw
   intro w hw
   have hw1:Sat w0 w [RdH (EffW (t.ops.getD k dOp).effs (j+1) (es.set j ⟨fv,(eget tEff es j).var,(eget tEff es j).val⟩)),OS tEff 80 ev (es.set j ⟨fv,(eget tEff es j).var,(eget tEff es j).val⟩),Box p5 56 (tOp.enc ⟨(eget tOp vs k).name,(eget tOp vs k).cost,pv,ev⟩),OS tFact 77 pv (t.ops.getD k dOp).pre,OS tOp 56 dv ws,RdH (OpsF t k ws),RdH (HeadF t a2 b2 c2),Box po 26 [a2,b2,c2,dv],Box pr 26 [.slice none 0 0,.slice none 0 0,.slice none 0 0,.slice none 0 0],Box pt 26 [a,b,c,d]]:=by
    have hw2:Sat w0 w [OS tFact 77 fv ((t.ops.getD k dOp).effs.getD j dEff).when,RdH (EffW (t.ops.getD k dOp).effs j es),OS tEff 80 ev (es.set j ⟨fv,(eget tEff es j).var,(eget tEff es j).val⟩),Box p5 56 (tOp.enc ⟨(eget tOp vs k).name,(eget tOp vs k).cost,pv,ev⟩),OS tFact 77 pv (t.ops.getD k dOp).pre,OS tOp 56 dv ws,RdH (OpsF t k ws),RdH (HeadF t a2 b2 c2),Box po 26 [a2,b2,c2,dv],Box pr 26 [.slice none 0 0,.slice none 0 0,.slice none 0 0,.slice none 0 0],Box pt 26 [a,b,c,d]]:=hw
    exact Sat.rd2 (χ:=EffW (t.ops.getD k dOp).effs (j+1) (es.set j ⟨fv,(eget tEff es j).var,(eget tEff es j).val⟩)) (fun w h1 h2=>h2.step (by omega) h1) (Sat.rd (Δ:=[OS tFact 77 fv ((t.ops.getD k dOp).effs.getD j dEff).when]) (φ:=fun w=>RS tFact w fv ((t.ops.getD k dOp).effs.getD j dEff).when) (fun _ _ h=>h.rs 0 rfl) hw2)
   repeat refine qaa ?_
   exact⟨j+1,_,⟨rfl,trivial⟩,agr,⟨by omega,hE.step hjl,hw1⟩,by omega⟩
  have hje:j=(t.ops.getD k dOp).effs.length:=by omega
  subst hje
  obtain⟨vo,hvo⟩:∃ vo:OpV,vo=⟨(eget tOp vs k).name,(eget tOp vs k).cost,pv,ev⟩:=⟨_,rfl⟩
  rw [←hvo] at hw
  have hvo1:∀ v∈tOp.enc vo,v.oneCell'=true:=by
   rw [hvo]
   intro v hv
   simp only [tOp,List.mem_cons,List.not_mem_nil,or_false] at hv
   rcases hv with rfl|rfl|rfl|rfl
   ·rfl
   ·rfl
   ·exact opv
   ·exact oev
  have hw1:Sat w0 w [RdH fun w=>ROp w vo (t.ops.getD k dOp),Box p5 56 (tOp.enc vo),OS tOp 56 dv ws,RdH (OpsF t k ws),RdH (HeadF t a2 b2 c2),Box po 26 [a2,b2,c2,dv],Box pr 26 [.slice none 0 0,.slice none 0 0,.slice none 0 0,.slice none 0 0],Box pt 26 [a,b,c,d]]:=by
   have hw2:Sat w0 w [RdH (EffW (t.ops.getD k dOp).effs (t.ops.getD k dOp).effs.length es),OS tEff 80 ev es,OS tFact 77 pv (t.ops.getD k dOp).pre,Box p5 56 (tOp.enc vo),OS tOp 56 dv ws,RdH (OpsF t k ws),RdH (HeadF t a2 b2 c2),Box po 26 [a2,b2,c2,dv],Box pr 26 [.slice none 0 0,.slice none 0 0,.slice none 0 0,.slice none 0 0],Box pt 26 [a,b,c,d]]:=hw.sel
   refine Sat.rd (Δ:=[RdH (EffW (t.ops.getD k dOp).effs (t.ops.getD k dOp).effs.length es),OS tEff 80 ev es,OS tFact 77 pv (t.ops.getD k dOp).pre]) (φ:=fun w=>ROp w vo (t.ops.getD k dOp)) (fun _ w h => ?_) hw2
   have hff:=h.rdE 0 rfl
   rw [hvo]
   exact⟨hop.name,hop.size,hop.cost,h.rs 2 rfl,es,h.rs 1 rfl,hE.len,fun i hi=>⟨(hE.fld i hi).1,(hE.fld i hi).2,hff i hi⟩⟩
  clear hw
  have hw:=hw1
  clear hw1
  repeat refine qaa ?_
  refine qah tOp (x1:=vo) rfl rfl rfl (Nat.le_of_ble_eq_true rfl) (Nat.zero_lt_succ _) hw ?_
  clear hw
  intro bs w hw
  repeat refine qaa ?_
  refine qaJ (s:=dv) (s2:=bs) inferInstance rfl rfl (rsO hw) rfl rfl (fun x hx v hv=>by rw [List.mem_singleton.1 hx] at hv;exact hvo1 v hv) (by simp only [List.length_cons,List.length_nil];omega) (by unfold big;simp only [List.length_cons,List.length_nil];omega) hw ?_
  clear hw
  intro dv2 w hw
  have odv:=(rsO (s:=dv2) hw).one
  repeat (first|refine qaa ?_|(refine qai ?_;clear hw;intro w hw))
  have hw1:Sat w0 w [OS tOp 56 dv2 (ws++[vo]),RdH (OpsF t (k+1) (ws++[vo])),RdH (HeadF t a2 b2 c2),Box po 26 [a2,b2,c2,dv2],Box pr 26 [.slice none 0 0,.slice none 0 0,.slice none 0 0,.slice none 0 0],Box pt 26 [a,b,c,d]]:=by
   have hw2:Sat w0 w [OS tOp 56 bs [vo],RdH fun w=>ROp w vo (t.ops.getD k dOp),Box p5 56 (tOp.enc vo),OS tOp 56 dv2 (ws++[vo]),RdH (OpsF t k ws),RdH (HeadF t a2 b2 c2),Box po 26 [a2,b2,c2,dv2],Box pr 26 [.slice none 0 0,.slice none 0 0,.slice none 0 0,.slice none 0 0],Box pt 26 [a,b,c,d]]:=hw
   have hw3:Sat w0 w [RdH fun w=>ROp w vo (t.ops.getD k dOp),RdH (OpsF t k ws),OS tOp 56 dv2 (ws++[vo]),RdH (HeadF t a2 b2 c2),Box po 26 [a2,b2,c2,dv2],Box pr 26 [.slice none 0 0,.slice none 0 0,.slice none 0 0,.slice none 0 0],Box pt 26 [a,b,c,d]]:=hw2.sel
   exact (Sat.rd2 (χ:=OpsF t (k+1) (ws++[vo])) (fun w h1 h2=>h2.step hwl h1) hw3).swap
  exact⟨k+1,_,_,⟨rfl,trivial⟩,agr,⟨by omega,by simp [hwl],hw1⟩,by omega⟩
 have hke:k=t.ops.length:=by omega
 subst hke
 have odv:=(rsO (s:=dv) hw).one
 have hw1:Sat w0 w [RdH fun w=>RTask w a2 b2 c2 dv ws t,Box po 26 [a2,b2,c2,dv],Box pr 26 [.slice none 0 0,.slice none 0 0,.slice none 0 0,.slice none 0 0],Box pt 26 [a,b,c,d]] :=
  Sat.rd (Δ:=[OS tOp 56 dv ws,RdH (OpsF t t.ops.length ws),RdH (HeadF t a2 b2 c2)]) (φ:=fun w=>RTask w a2 b2 c2 dv ws t) (fun _ w h=>⟨(h.rdE 2 rfl).1,(h.rdE 2 rfl).2.1,(h.rdE 2 rfl).2.2,h.rs 0 rfl,hwl,h.rdE 1 rfl⟩) hw
 clear hw
 have hw:=hw1
 clear hw1
 have ht2:=hw.rdE 0 rfl
 have o1:=ht2.vars.one
 have o2:=ht2.init.one
 have o3:=ht2.goal.one
 repeat refine qaa ?_
 refine qat (n:=4) (p:=pr) (vs:=[a2,b2,c2,dv]) rfl rfl hw inferInstance rfl rfl (by simp only [List.all_cons,List.all_nil,o1,o2,o3,odv];rfl) ?_
 clear hw
 intro w hw
 repeat refine qaa ?_
 exact qip (p:=pr) (vs:=[a2,b2,c2,dv]) rfl rfl rfl (hw.boxR 2 rfl) ⟨a2,b2,c2,dv,ws,rfl,hw.sel⟩
end Go.Proofs.YtkmbenhffledpaaGreat
