
/-
  Contract of 'registry.Add'.
-/
import Derived.Test.YtegndanecnicaaaGreatWReg
set_option linter.unusedSimpArgs false
set_option linter.unusedVariables false
namespace Go.Proofs.YtegndanecnicaaaGreat
open Go.Sl Go
attribute [local irreducible] vc opsW opsD opV opW PureV ReadV Thn Blk
theorem EntF.snoc {es : List REnt} {wsl : List (List Nat)} {e : REnt} {ws : List Nat} {w : World} (h : EntF es wsl w) (hl : es.length = wsl.length) (hv : RS tU64 w e.words ws) : EntF (es ++ [e]) (wsl ++ [ws]) w := fun i hi => by
  rw [eget_eq]
  by_cases e : i < wsl.length
  · rw [app_l (by omega), app_l e, ← eget_eq]; exact h i e
  · have e2 : i = wsl.length := by simp at hi; omega
    rw [app_at (by omega), app_at e2]; exact hv
set_option maxRecDepth 8000 in
set_option maxHeartbeats 8000000 in
theorem rgAdd_spec {w0 w : World} {Γ : List HP} {pr : Addr} {sv : Value} {vars : List Int} {st : List (List Int)} {lk : List Lnk} {s : List Int} (hvl : vars.length ≤ 64) (hnd : st.Nodup) (hn : st.length < 65536)
    (hs : RS tInt w sv s) (hok : StateOk vars s) (hw : Sat w0 w (RegH pr vars st lk :: Γ)) :
    Calls Tryz.prog 81 #[.pointer (some pr), sv] w fun e w' =>
      (s ∈ st ∧ e = .returned (.tuple #[.int .i64 (st.idxOf s : Int), .bool false, .nilIface]) ∧ Sat w0 w' (RegH pr vars st lk :: Γ)) ∨
      (s ∉ st ∧ e = .returned (.tuple #[.int .i64 (st.length : Int), .bool true, .nilIface]) ∧ Sat w0 w' (RegH pr vars (st ++ [s]) (lk ++ [dLnk]) :: Γ)) := by
  obtain ⟨pk, F, W, ev, mv, es, wsl, kv, bs, hI, hP, hw⟩ := Sat.regOpen hw
  have hel := hI.el
  have hwl := hI.wl
  refine calls_of_vc (args := [.pointer (some pr), sv]) mixed Tryz.func81 rfl (by kernel_rfl) (Nat.le_of_ble_eq_true rfl) ?_
  repeat (first | refine go_run ?_ | (refine go_newP ?_; clear hw; intro p w hw) | (refine go_newWr ?_; clear hw; intro w hw) | (refine go_newS ?_; clear hw; intro s w hw))
  refine st_call rfl (rgFind_spec hvl hI hP hnd (by omega) hs hok hw) ?_
  clear hw
  rintro _ w ⟨wv, ws, rfl, hp, hw⟩
  refine ⟨_, rfl, ?_⟩
  by_cases hm : s ∈ st
  · have hid : idxI st s = (st.idxOf s : Int) := if_pos hm
    have hd : decide ((0 : Int) ≤ (st.idxOf s : Int)) = true := decide_eq_true (by omega)
    rw [hid]
    repeat (first | refine go_run ?_ | (refine go_newP ?_; clear hw; intro p w hw) | (refine go_newWr ?_; clear hw; intro w hw) | (refine go_newS ?_; clear hw; intro s w hw))
    simp only [hd]
    repeat (first | refine go_run ?_ | (refine go_newP ?_; clear hw; intro p w hw) | (refine go_newWr ?_; clear hw; intro w hw) | (refine go_newS ?_; clear hw; intro s w hw))
    exact res_three (v1 := .int .i64 (st.idxOf s : Int)) (v2 := .bool false) (v3 := .nilIface) rfl rfl rfl rfl (.inl ⟨hm, rfl, Sat.regClose hI hP hw.tail⟩)
  have hid : idxI st s = -1 := if_neg hm
  have hd : decide ((65536 : Int) ≤ (es.length : Int)) = false := decide_eq_false (by omega)
  rw [hid]
  have owv := (rsO (s := wv) hw).cells1
  have owv2 := (rsO (s := wv) hw).one
  repeat (first | refine go_run ?_ | (refine go_newP ?_; clear hw; intro p w hw) | (refine go_newWr ?_; clear hw; intro w hw) | (refine go_newS ?_; clear hw; intro s w hw))
  simp only [hd]
  repeat (first | refine go_run ?_ | (refine go_newP ?_; clear hw; intro p w hw) | (refine go_newWr ?_; clear hw; intro w hw) | (refine go_newS ?_; clear hw; intro s w hw))
  refine st_buildN (vs := [(0, wv), (1, .agg #[.int .i64 (-1), .int .i64 (-1), .int .i64 0])]) (ls := [(0, [wv]), (1, [.int .i64 (-1), .int .i64 (-1), .int .i64 0])]) rfl (by show [(0, wv.cells.toList), (1, _)] = _; rw [owv]; rfl) rfl ?_
  refine st_buildSlice1 tREnt (x1 := ⟨wv, -1, -1, 0⟩) rfl rfl rfl (Nat.le_of_ble_eq_true rfl) (Nat.zero_lt_succ _) hw ?_
  clear hw
  intro sl w hw
  have hone : ∀ v ∈ tREnt.enc ⟨wv, -1, -1, 0⟩, v.oneCell' = true := by
    intro v hv
    simp only [tREnt, List.mem_cons, List.not_mem_nil, or_false] at hv
    rcases hv with rfl | rfl | rfl | rfl
    · exact owv2
    · rfl
    · rfl
    · rfl
  refine st_append (s := ev) (s2 := sl) inferInstance rfl rfl (rsO hw) rfl rfl (fun x hx v hv => by rw [List.mem_singleton.1 hx] at hv; exact hone v hv) (by simp only [List.length_cons, List.length_nil]; omega) (by unfold big; simp only [List.length_cons, List.length_nil]; omega) hw ?_
  clear hw
  intro ev2 w hw
  have oev := (rsO (s := ev2) hw).one
  repeat (first | refine go_run ?_ | (refine go_newP ?_; clear hw; intro p w hw) | (refine go_newWr ?_; clear hw; intro w hw) | (refine go_newS ?_; clear hw; intro s w hw))
  have hw1 : Sat w0 w (OS tU64 198 wv ws :: RdH (EntF es wsl) :: Box pr 157 [.pointer (some pk), ev2, mv] :: RdH (fun w => RPk w pk F W) :: OS tREnt 171 ev2 (es ++ [⟨wv, -1, -1, 0⟩]) :: MapO kInt mv kv :: RowsAt tInt 3 (kv.map (·.2)) bs :: Γ) := by
    have g1 : Sat w0 w (OS tREnt 171 sl [⟨wv, -1, -1, 0⟩] :: OS tU64 198 wv ws :: Box pr 157 [.pointer (some pk), ev2, mv] :: RdH (fun w => RPk w pk F W) :: OS tREnt 171 ev2 (es ++ [⟨wv, -1, -1, 0⟩]) :: RdH (EntF es wsl) :: MapO kInt mv kv :: RowsAt tInt 3 (kv.map (·.2)) bs :: Γ) := hw
    exact g1.selG
  have hw2 := Sat.rd (Δ := [OS tU64 198 wv ws, RdH (EntF es wsl)]) (φ := EntF (es ++ [⟨wv, -1, -1, 0⟩]) (wsl ++ [ws])) (fun _ w h => (h.rdE 1 rfl).snoc (by omega) (h.rs 0 rfl)) hw1
  clear hw hw1
  have hw := hw2
  clear hw2
  refine vc_plan [.op 0, .op 1, .op 2, .op 3, .op 4, .op 5, .op 6, .op 7, .op 8, .op 9, .op 10, .op 11, .op 12, .chk 3, .chk 8, .chk 10, .op 13, .chk 3, .op 14] hw (by kernel_rfl) ?_; clear hw; intro w hw
  repeat (first | refine go_run ?_ | (refine go_newP ?_; clear hw; intro p w hw) | (refine go_newWr ?_; clear hw; intro w hw) | (refine go_newS ?_; clear hw; intro s w hw))
  refine step_read rfl (rv_lookup (m := mv) (κ := kInt) (q := hshL ws) rfl rfl hw inferInstance) ?_
  cases hf : mfind (hshL ws) kv 0 with
  | none =>
    have hmg : (mget kv (hshL ws)).getD (.slice none 0 0) = .slice none 0 0 := by unfold mget; rw [hf]; rfl
    have hx : hshL ws ∉ kv.map (·.1) := mfind_none.1 hf
    have hmp : ∀ v, mput kv (hshL ws) v = kv ++ [(hshL ws, v)] := fun v => by unfold mput; rw [hf]
    rw [hmg]
    refine ops_nil ?_
    refine opsD_op ?_
    refine go_pure ?_
    refine ops_nil ?_
    refine opsD_op ?_
    refine st_buildSlice1 tInt (x1 := (es.length : Int)) rfl rfl rfl (Nat.le_of_ble_eq_true rfl) (Nat.zero_lt_succ _) hw ?_
    clear hw
    intro so w hw
    refine ops_nil ?_
    refine go_chk ?_
    refine go_chk ?_
    refine opsD_chk rfl (rv_lookup (m := mv) (κ := kInt) (q := hshL ws) rfl rfl hw inferInstance) hmg.symm ?_
    refine opsD_op ?_
    replace hw := hw.nil (T := tInt) (e := 3)
    refine st_append (s := .slice none 0 0) (s2 := so) (T := tInt) (xs := []) inferInstance rfl rfl (rsO hw) rfl rfl (fun x hx v hv => by rw [List.mem_singleton.1 hv]; rfl) (by simp only [List.length_cons, List.length_nil]; omega) (by unfold big; simp only [List.length_cons, List.length_nil]; omega) hw ?_
    clear hw
    intro bv2 w hw
    refine ops_nil ?_
    refine go_chk ?_
    refine opsD_op ?_
    refine st_mapUpdate (m := mv) (κ := kInt) (q := hshL ws) (v := bv2) rfl rfl rfl hw inferInstance ?_
    clear hw
    intro w hw
    refine ops_nil ?_
    refine opsD_nil ?_
    rw [hmp] at hw
    repeat (first | refine go_run ?_ | (refine go_newP ?_; clear hw; intro p w hw) | (refine go_newWr ?_; clear hw; intro w hw) | (refine go_newS ?_; clear hw; intro s w hw))
    have hw1 : Sat w0 w (OS tInt 3 bv2 [(wsl.length : Int)] :: RowsAt tInt 3 (kv.map (·.2)) bs :: Box pr 157 [.pointer (some pk), ev2, mv] :: RdH (fun w => RPk w pk F W) :: OS tREnt 171 ev2 (es ++ [⟨wv, -1, -1, 0⟩]) :: RdH (EntF (es ++ [⟨wv, -1, -1, 0⟩]) (wsl ++ [ws])) :: MapO kInt mv (kv ++ [(hshL ws, bv2)]) :: Γ) := by
      have g1 : Sat w0 w (OS tInt 3 bv2 [(es.length : Int)] :: OS tInt 3 so [(es.length : Int)] :: RdH (EntF (es ++ [⟨wv, -1, -1, 0⟩]) (wsl ++ [ws])) :: Box pr 157 [.pointer (some pk), ev2, mv] :: RdH (fun w => RPk w pk F W) :: OS tREnt 171 ev2 (es ++ [⟨wv, -1, -1, 0⟩]) :: MapO kInt mv (kv ++ [(hshL ws, bv2)]) :: RowsAt tInt 3 (kv.map (·.2)) bs :: Γ) := hw
      rw [hel, ← hwl] at g1
      exact g1.selG
    have hw2 := hw1.rowPush
    have hm2 : kv.map (·.2) ++ [bv2] = (kv ++ [(hshL ws, bv2)]).map (·.2) := by rw [List.map_append]; rfl
    rw [hm2] at hw2
    have hw3 : Sat w0 w (Box pr 157 [.pointer (some pk), ev2, mv] :: RdH (fun w => RPk w pk F W) :: OS tREnt 171 ev2 (es ++ [⟨wv, -1, -1, 0⟩]) :: RdH (EntF (es ++ [⟨wv, -1, -1, 0⟩]) (wsl ++ [ws])) :: MapO kInt mv (kv ++ [(hshL ws, bv2)]) :: RowsAt tInt 3 ((kv ++ [(hshL ws, bv2)]).map (·.2)) (bs ++ [[(wsl.length : Int)]]) :: Γ) := hw2.selG
    exact res_three (v1 := .int .i64 (es.length : Int)) (v2 := .bool true) (v3 := .nilIface) rfl rfl rfl rfl (.inr ⟨hm, by rw [hel], Sat.regClose (hI.addB hok hp hx wv bv2) hP hw3⟩)
  | some q =>
    obtain ⟨j, v⟩ := q
    obtain ⟨_, hj⟩ := mfind_some hf
    rw [Nat.sub_zero] at hj
    have hjl : j < kv.length := (List.getElem?_eq_some_iff.1 hj).1
    have hbl := hI.bl
    have hmg : (mget kv (hshL ws)).getD (.slice none 0 0) = v := by unfold mget; rw [hf]; rfl
    have hmp : ∀ u, mput kv (hshL ws) u = kv.set j (hshL ws, u) := fun u => by unfold mput; rw [hf]
    have hvj : vget (kv.map (·.2)) j = v := by rw [vget_eq]; simp [List.getD, hj]
    have hrow := hI.bk j _ v hj
    have hrl := hids_len wsl (hshL ws)
    rw [← hrow] at hrl
    rw [hmg]
    refine ops_nil ?_
    refine opsD_op ?_
    refine go_pure ?_
    refine ops_nil ?_
    refine opsD_op ?_
    refine st_buildSlice1 tInt (x1 := (es.length : Int)) rfl rfl rfl (Nat.le_of_ble_eq_true rfl) (Nat.zero_lt_succ _) hw ?_
    clear hw
    intro so w hw
    refine ops_nil ?_
    refine go_chk ?_
    refine go_chk ?_
    refine opsD_chk rfl (rv_lookup (m := mv) (κ := kInt) (q := hshL ws) rfl rfl hw inferInstance) hmg.symm ?_
    refine opsD_op ?_
    have hjb : j < bs.length := by omega
    have hso := rsO (s := so) hw
    have gr : Sat w0 w (RowsAt tInt 3 (kv.map (·.2)) bs :: OS tInt 3 so [(es.length : Int)] :: RdH (EntF (es ++ [⟨wv, -1, -1, 0⟩]) (wsl ++ [ws])) :: Box pr 157 [.pointer (some pk), ev2, mv] :: RdH (fun w => RPk w pk F W) :: OS tREnt 171 ev2 (es ++ [⟨wv, -1, -1, 0⟩]) :: MapO kInt mv kv :: Γ) := hw.focus 6 rfl
    have g0 := gr.rowOut hjb
    rw [hvj] at g0
    refine st_append (s := v) (s2 := so) (T := tInt) (xs := bs.getD j []) inferInstance rfl rfl hso rfl rfl (fun x hx v hv => by rw [List.mem_singleton.1 hv]; rfl) (by simp only [List.length_cons, List.length_nil]; omega) (by unfold big; simp only [List.length_cons, List.length_nil]; omega) g0 ?_
    clear hw g0 gr hso
    intro bv2 w hw
    replace hw := Sat.rowIn hjb (by rw [List.length_map]; omega) hw
    have hw1 : Sat w0 w (OS tInt 3 so [(es.length : Int)] :: RdH (EntF (es ++ [⟨wv, -1, -1, 0⟩]) (wsl ++ [ws])) :: Box pr 157 [.pointer (some pk), ev2, mv] :: RdH (fun w => RPk w pk F W) :: OS tREnt 171 ev2 (es ++ [⟨wv, -1, -1, 0⟩]) :: MapO kInt mv kv :: RowsAt tInt 3 ((kv.map (·.2)).set j bv2) (bs.set j (bs.getD j [] ++ [(es.length : Int)])) :: Γ) := by
      have g1 : Sat w0 w (RowsAt tInt 3 ((kv.map (·.2)).set j bv2) (bs.set j (bs.getD j [] ++ [(es.length : Int)])) :: OS tInt 3 so [(es.length : Int)] :: RdH (EntF (es ++ [⟨wv, -1, -1, 0⟩]) (wsl ++ [ws])) :: Box pr 157 [.pointer (some pk), ev2, mv] :: RdH (fun w => RPk w pk F W) :: OS tREnt 171 ev2 (es ++ [⟨wv, -1, -1, 0⟩]) :: MapO kInt mv kv :: Γ) := hw
      exact g1.selG
    clear hw
    have hw := hw1
    clear hw1
    refine ops_nil ?_
    refine go_chk ?_
    refine opsD_op ?_
    refine st_mapUpdate (m := mv) (κ := kInt) (q := hshL ws) (v := bv2) rfl rfl rfl hw inferInstance ?_
    clear hw
    intro w hw
    refine ops_nil ?_
    refine opsD_nil ?_
    rw [hmp] at hw
    repeat (first | refine go_run ?_ | (refine go_newP ?_; clear hw; intro p w hw) | (refine go_newWr ?_; clear hw; intro w hw) | (refine go_newS ?_; clear hw; intro s w hw))
    have hm2 : (kv.map (·.2)).set j bv2 = (kv.set j (hshL ws, bv2)).map (·.2) := by rw [List.map_set]
    have g1 : Sat w0 w (OS tInt 3 so [(es.length : Int)] :: RdH (EntF (es ++ [⟨wv, -1, -1, 0⟩]) (wsl ++ [ws])) :: Box pr 157 [.pointer (some pk), ev2, mv] :: RdH (fun w => RPk w pk F W) :: OS tREnt 171 ev2 (es ++ [⟨wv, -1, -1, 0⟩]) :: MapO kInt mv (kv.set j (hshL ws, bv2)) :: RowsAt tInt 3 ((kv.map (·.2)).set j bv2) (bs.set j (bs.getD j [] ++ [(es.length : Int)])) :: Γ) := hw
    rw [hm2, hel, ← hwl] at g1
    have hw3 : Sat w0 w (Box pr 157 [.pointer (some pk), ev2, mv] :: RdH (fun w => RPk w pk F W) :: OS tREnt 171 ev2 (es ++ [⟨wv, -1, -1, 0⟩]) :: RdH (EntF (es ++ [⟨wv, -1, -1, 0⟩]) (wsl ++ [ws])) :: MapO kInt mv (kv.set j (hshL ws, bv2)) :: RowsAt tInt 3 ((kv.set j (hshL ws, bv2)).map (·.2)) (bs.set j (bs.getD j [] ++ [(wsl.length : Int)])) :: Γ) := g1.selG
    exact res_three (v1 := .int .i64 (es.length : Int)) (v2 := .bool true) (v3 := .nilIface) rfl rfl rfl rfl (.inr ⟨hm, by rw [hel], Sat.regClose (hI.addA hok hp hj wv bv2) hP hw3⟩)
end Go.Proofs.YtegndanecnicaaaGreat
