
/-
  Contract of 'registry.Path'.
-/
import Derived.Test.YtegndanecnicaaaGreatWReg3
import Derived.Test.YtegndanecnicaaaGreatWRevI
set_option linter.unusedSimpArgs false
set_option linter.unusedVariables false
namespace Go.Proofs.YtegndanecnicaaaGreat
open Go.Sl Go
attribute [local irreducible] vc opsW opsD opV opW PureV ReadV Thn Blk
set_option maxRecDepth 8000 in
set_option maxHeartbeats 8000000 in
theorem rgPath_spec {w0 w : World} {Γ : List HP} {pr : Addr} {vars : List Int} {st : List (List Int)} {lk : List Lnk} {i : Nat} {q : List Int} (hi : i < st.length) (hn : st.length ≤ 65536) (hpar : ParOk lk st.length) (hL : LPath lk i q) (hq : q.length ≤ st.length) (hw : Sat w0 w (RegH pr vars st lk :: Γ)) :
    Calls Tryz.prog 66 #[.pointer (some pr), .int .i64 (i : Int)] w fun e w' => ∃ pv, e = .returned (.tuple #[pv, .nilIface]) ∧ Sat w0 w' (OS tInt 3 pv q :: RegH pr vars st lk :: Γ) := by
  obtain ⟨pk, F, W, ev, mv, es, wsl, kv, bs, hI, hP, hw⟩ := Sat.regOpen hw
  have hel := hI.el
  refine calls_of_vc (args := [.pointer (some pr), .int .i64 (i : Int)]) mixed Tryz.func66 rfl (by kernel_rfl) (Nat.le_of_ble_eq_true rfl) ?_
  have hd : decide (0 ≤ (i : Int) ∧ (i : Int) < (es.length : Int)) = true := decide_eq_true (by omega)
  repeat (first | refine go_run ?_ | (refine go_newP ?_; clear hw; intro p w hw) | (refine go_newWr ?_; clear hw; intro w hw) | (refine go_newS ?_; clear hw; intro s w hw))
  refine st_call rfl (rgHas_spec (boxRO (p := pr) hw) (rsO (s := ev) hw)) ?_
  rintro _ w' ⟨rfl, hk'⟩
  replace hw := hw.call0 hk'
  clear hk'
  refine ⟨_, rfl, ?_⟩
  rw [hd]
  replace hw := hw.nil (T := tInt) (e := 3)
  repeat (first | refine go_run ?_ | (refine go_newP ?_; clear hw; intro p w hw) | (refine go_newWr ?_; clear hw; intro w hw) | (refine go_newS ?_; clear hw; intro s w hw))
  refine vc_loop4 [1, 4, 5, 6, 7, 18, 19, 20, 21, 22, 23, 24, 25, 26, 27, 28, 29, 30, 31, 32, 33, 34, 35, 36, 37, 38, 39, 40, 41, 42, 43, 44, 45, 46, 47] (G := Nat) (H := List Int) (I := Value) (M := List Int) (fun k _ ov _ => [(1, .int .i64 k), (6, ov)]) (fun k qk ov out w => k < st.length ∧ LPath lk k qk ∧ qk ++ out.reverse = q ∧ Sat w0 w (OS tInt 3 ov out :: Box pr 157 [.pointer (some pk), ev, mv] :: RdH (fun w => RPk w pk F W) :: OS tREnt 171 ev es :: RdH (EntF es wsl) :: MapO kInt mv kv :: RowsAt tInt 3 (kv.map (·.2)) bs :: Γ)) (fun _ qk _ _ => qk.length) i q (.slice none 0 0) [] (fun _ _ _ _ => rfl) ⟨rfl, rfl, trivial⟩ ⟨hi, hL, by simp, hw⟩ ?_
  clear hw
  rintro σ k qk ov out w ⟨hk, hLk, hqk, hw⟩
  have hlen : qk.length + out.length = q.length := by rw [← hqk]; simp
  obtain ⟨l1, l2, l3⟩ := hI.lnk k hk
  repeat (first | refine go_run ?_ | (refine go_newP ?_; clear hw; intro p w hw) | (refine go_newWr ?_; clear hw; intro w hw) | (refine go_newS ?_; clear hw; intro s w hw))
  refine step_read rfl (rv_elemSub (T := tREnt) (s := ev) (xs := es) (i := k) (k := 1) (vs := [.int .i64 (eget tREnt es k).par, .int .i64 (eget tREnt es k).op, .int .i64 (eget tREnt es k).cost]) rfl (rsO (s := ev) hw) (by omega) rfl rfl) ?_
  rw [l1, l2, l3]
  repeat (first | refine go_run ?_ | (refine go_newP ?_; clear hw; intro p w hw) | (refine go_newWr ?_; clear hw; intro w hw) | (refine go_newS ?_; clear hw; intro s w hw))
  cases hLk with
  | root hr =>
    have hd1 : decide ((lk.getD k dLnk).par < 0) = true := decide_eq_true hr
    simp only [hd1]
    repeat (first | refine go_run ?_ | (refine go_newP ?_; clear hw; intro p w hw) | (refine go_newWr ?_; clear hw; intro w hw) | (refine go_newS ?_; clear hw; intro s w hw))
    refine st_call rfl (Reverse_spec (v := ov) (xs := out) (by simp at hlen; omega) hw.swap) ?_
    clear hw
    rintro _ w ⟨rfl, hw⟩
    refine ⟨_, rfl, ?_⟩
    repeat (first | refine go_run ?_ | (refine go_newP ?_; clear hw; intro p w hw) | (refine go_newWr ?_; clear hw; intro w hw) | (refine go_newS ?_; clear hw; intro s w hw))
    rw [List.nil_append] at hqk
    rw [hqk] at hw
    have hw2 : Sat w0 w (Box pr 157 [.pointer (some pk), ev, mv] :: RdH (fun w => RPk w pk F W) :: OS tREnt 171 ev es :: RdH (EntF es wsl) :: MapO kInt mv kv :: RowsAt tInt 3 (kv.map (·.2)) bs :: OS tInt 3 ov q :: Γ) := hw.selG
    exact res_two (v := ov) (v' := .nilIface) rfl rfl rfl ⟨ov, rfl, (Sat.regClose hI hP hw2).swap⟩
  | @step _ p2 q2 hp2 hL2 =>
    have hp2n : p2 < st.length := by have := hpar k hk; rw [hp2] at this; omega
    have hql : q2.length + 1 + out.length = q.length := by simp at hlen; omega
    rw [hp2] at hw ⊢
    have hd1 : decide ((p2 : Int) < 0) = false := decide_eq_false (by omega)
    simp only [hd1]
    repeat (first | refine go_run ?_ | (refine go_newP ?_; clear hw; intro p w hw) | (refine go_newWr ?_; clear hw; intro w hw) | (refine go_newS ?_; clear hw; intro s w hw))
    refine go_if (fun h3 => ?_) (fun h3 => ?_)
    · simp only [List.length_append, List.length_cons, List.length_nil] at h3
      omega
    repeat (first | refine go_run ?_ | (refine go_newP ?_; clear hw; intro p w hw) | (refine go_newWr ?_; clear hw; intro w hw) | (refine go_newS ?_; clear hw; intro s w hw))
    exact ⟨p2, q2, s, out ++ [(lk.getD k dLnk).op], ⟨rfl, rfl, trivial⟩, by repeat (first | exact agree_refl | (apply agree_upd rfl) | (apply agree_mix rfl) | (apply agree_sets rfl)), ⟨hp2n, hL2, by rw [← hqk, List.reverse_append]; simp, hw.tail.tail⟩, by simp⟩
end Go.Proofs.YtegndanecnicaaaGreat
