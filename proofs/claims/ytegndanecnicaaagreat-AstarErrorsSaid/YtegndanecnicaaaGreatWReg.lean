
/-
  Contracts of package 'registry': New, has, find.
-/
import Derived.Test.YtegndanecnicaaaGreatWPack2
import Derived.Test.YtegndanecnicaaaGreatMTA
import Derived.Test.YtegndanecnicaaaGreatMSlB
set_option linter.unusedSimpArgs false
set_option linter.unusedVariables false
namespace Go.Proofs.YtegndanecnicaaaGreat
open Go.Sl Go
attribute [local irreducible] vc opsW opsD opV opW PureV ReadV Thn Blk
instance rgMapT : MapT Tryz.prog 154 3 22 := ⟨by kernel_rfl⟩
instance rgZero : ZeroV Tryz.prog 22 (.slice none 0 0) := ⟨by kernel_rfl⟩
set_option maxRecDepth 8000 in
set_option maxHeartbeats 2000000 in
theorem EqualU_spec {w0 : World} {xa xb : Value} {A B : List Nat} (hA : RS tU64 w0 xa A) (hB : RS tU64 w0 xb B) :
    Calls Tryz.prog 109 #[xa, xb] w0 fun e w' => (∃ r, e = .returned (.bool r) ∧ (r = true ↔ A = B)) ∧ Sat w0 w' [] := by
  have hAb := hA.big
  have hBb := hB.big
  have hw := Sat.start w0
  refine calls_of_vc (args := [xa, xb]) mixed Tryz.func109 rfl (by kernel_rfl) (Nat.le_of_ble_eq_true rfl) ?_
  repeat (first | refine go_run ?_ | (refine go_newP ?_; clear hw; intro p w hw) | (refine go_newW ?_; clear hw; intro w hw) | (refine go_newS ?_; clear hw; intro s w hw))
  refine go_if (fun h1 => ?_) (fun h1 => ?_)
  · repeat (first | refine go_run ?_ | (refine go_newP ?_; clear hw; intro p w hw) | (refine go_newW ?_; clear hw; intro w hw) | (refine go_newS ?_; clear hw; intro s w hw))
    exact res_one (v := .bool false) rfl rfl ⟨⟨false, rfl, iffF fun e => by rw [e] at h1; omega⟩, hw.sel⟩
  repeat (first | refine go_run ?_ | (refine go_newP ?_; clear hw; intro p w hw) | (refine go_newW ?_; clear hw; intro w hw) | (refine go_newS ?_; clear hw; intro s w hw))
  refine vc_loop [4, 5, 13, 14, 15, 16, 17, 18, 19, 20, 21, 22, 23, 24, 25] (G := Nat) (fun i => [(13, .int .i64 i)]) (fun i w => i ≤ A.length ∧ (∀ m, m < i → A.getD m tU64.dflt = B.getD m tU64.dflt) ∧ Sat w0 w []) (fun i => A.length - i) 0 (fun _ => rfl) ⟨rfl, trivial⟩ ⟨Nat.zero_le _, fun i hi => absurd hi (Nat.not_lt_zero _), hw.sel⟩ ?_
  clear hw
  rintro σ i w ⟨hi, hno, hw⟩
  repeat (first | refine go_run ?_ | (refine go_newP ?_; clear hw; intro p w hw) | (refine go_newW ?_; clear hw; intro w hw) | (refine go_newS ?_; clear hw; intro s w hw))
  refine go_if (fun h2 => ?_) (fun h2 => ?_)
  · have hil : i < A.length := by omega
    by_cases h3 : A.getD i tU64.dflt = B.getD i tU64.dflt
    · have hd : decide (((A.getD i tU64.dflt : Nat) : Int) = ((B.getD i tU64.dflt : Nat) : Int)) = true := decide_eq_true (by rw [h3])
      repeat (first | refine go_runC ?_ | (refine go_newP ?_; clear hw; intro p w hw) | (refine go_newW ?_; clear hw; intro w hw) | (refine go_newS ?_; clear hw; intro s w hw))
      simp only [hd, Bool.not_true]
      repeat (first | refine go_run ?_ | (refine go_newP ?_; clear hw; intro p w hw) | (refine go_newW ?_; clear hw; intro w hw) | (refine go_newS ?_; clear hw; intro s w hw))
      refine ⟨i + 1, ⟨rfl, trivial⟩, by repeat (first | exact agree_refl | (apply agree_upd rfl) | (apply agree_mix rfl) | (apply agree_sets rfl)), ⟨by omega, fun m hm => ?_, hw.sel⟩, by omega⟩
      by_cases e : m = i
      · subst e; exact h3
      · exact hno m (by omega)
    · have hd : decide (((A.getD i tU64.dflt : Nat) : Int) = ((B.getD i tU64.dflt : Nat) : Int)) = false := decide_eq_false fun e => h3 (by omega)
      repeat (first | refine go_runC ?_ | (refine go_newP ?_; clear hw; intro p w hw) | (refine go_newW ?_; clear hw; intro w hw) | (refine go_newS ?_; clear hw; intro s w hw))
      simp only [hd, Bool.not_false]
      repeat (first | refine go_run ?_ | (refine go_newP ?_; clear hw; intro p w hw) | (refine go_newW ?_; clear hw; intro w hw) | (refine go_newS ?_; clear hw; intro s w hw))
      exact res_one (v := .bool false) rfl rfl ⟨⟨false, rfl, iffF fun e => h3 (by rw [e])⟩, hw.sel⟩
  have hie : i = A.length := by omega
  subst hie
  repeat (first | refine go_run ?_ | (refine go_newP ?_; clear hw; intro p w hw) | (refine go_newW ?_; clear hw; intro w hw) | (refine go_newS ?_; clear hw; intro s w hw))
  exact res_one (v := .bool true) rfl rfl ⟨⟨true, rfl, ⟨fun _ => list_eq (d := tU64.dflt) (by omega) fun m hm => hno m hm, fun _ => rfl⟩⟩, hw.sel⟩
/-- The words of the first states. -/
def EntF (es : List REnt) (wsl : List (List Nat)) (w : World) : Prop := ∀ i, i < wsl.length → RS tU64 w (eget tREnt es i).words (wsl.getD i [])
def RegH (pr : Addr) (vars : List Int) (st : List (List Int)) (lk : List Lnk) : HP := fun h => ∃ pk F W ev mv es wsl kv bs, RegI vars F W st lk es wsl kv bs ∧ PkOk vars vars.length F W ∧ Pack (Box pr 157 [.pointer (some pk), ev, mv] :: RdH (fun w => RPk w pk F W) :: OS tREnt 171 ev es :: RdH (EntF es wsl) :: MapO kInt mv kv :: RowsAt tInt 3 (kv.map (·.2)) bs :: []) h
theorem Sat.regOpen {w0 w : World} {Γ : List HP} {pr : Addr} {vars : List Int} {st : List (List Int)} {lk : List Lnk} (h : Sat w0 w (RegH pr vars st lk :: Γ)) : ∃ pk F W ev mv es wsl kv bs, RegI vars F W st lk es wsl kv bs ∧ PkOk vars vars.length F W ∧ Sat w0 w (Box pr 157 [.pointer (some pk), ev, mv] :: RdH (fun w => RPk w pk F W) :: OS tREnt 171 ev es :: RdH (EntF es wsl) :: MapO kInt mv kv :: RowsAt tInt 3 (kv.map (·.2)) bs :: Γ) := by
  obtain ⟨h1, h2, d, s1, s2, ⟨pk, F, W, ev, mv, es, wsl, kv, bs, hI, hP, a⟩, g⟩ := h.sat
  have h3 : Sat w0 w (Pack (Box pr 157 [.pointer (some pk), ev, mv] :: RdH (fun w => RPk w pk F W) :: OS tREnt 171 ev es :: RdH (EntF es wsl) :: MapO kInt mv kv :: RowsAt tInt 3 (kv.map (·.2)) bs :: []) :: Γ) := ⟨h.below, h1, h2, d, s1, s2, a, g⟩
  exact ⟨pk, F, W, ev, mv, es, wsl, kv, bs, hI, hP, h3.unpack⟩
theorem Sat.regClose {w0 w : World} {Γ : List HP} {pr pk : Addr} {vars : List Int} {st : List (List Int)} {lk : List Lnk} {F : List Fld} {W : Nat} {ev mv : Value} {es : List REnt} {wsl : List (List Nat)} {kv : List (Int × Value)} {bs : List (List Int)} (hI : RegI vars F W st lk es wsl kv bs) (hP : PkOk vars vars.length F W) (h : Sat w0 w (Box pr 157 [.pointer (some pk), ev, mv] :: RdH (fun w => RPk w pk F W) :: OS tREnt 171 ev es :: RdH (EntF es wsl) :: MapO kInt mv kv :: RowsAt tInt 3 (kv.map (·.2)) bs :: Γ)) : Sat w0 w (RegH pr vars st lk :: Γ) := by
  have h2 : Sat w0 w ([Box pr 157 [.pointer (some pk), ev, mv], RdH (fun w => RPk w pk F W), OS tREnt 171 ev es, RdH (EntF es wsl), MapO kInt mv kv, RowsAt tInt 3 (kv.map (·.2)) bs] ++ Γ) := h
  exact (h2.pack).mono fun p a => ⟨pk, F, W, ev, mv, es, wsl, kv, bs, hI, hP, a⟩
theorem map_one {w0 w : World} {Γ : List HP} {α : Type} {κ : α → Value} {m : Value} {kv : List (α × Value)} {i : Nat} (hw : Sat w0 w Γ) (hi : Γ[i]? = some (MapO κ m kv)) : m.oneCell' = true := by
  obtain ⟨b, es, clock, rfl, _⟩ := map_of hw hi
  rfl
set_option maxRecDepth 8000 in
set_option maxHeartbeats 2000000 in
theorem rgNew_spec {w0 : World} {av : Value} {vars : List Int} (ha : RS tInt w0 av vars) (hvl : vars.length ≤ 64) (hd : ∀ i, i < vars.length → 1 ≤ vars.getD i tInt.dflt ∧ vars.getD i tInt.dflt ≤ 64) :
    Calls Tryz.prog 62 #[av] w0 fun e w' => ∃ p, e = .returned (.tuple #[.pointer (some p), .nilIface]) ∧ Sat w0 w' [RegH p vars [] []] := by
  have hw := Sat.start w0
  refine calls_of_vc (args := [av]) mixed Tryz.func62 rfl (by kernel_rfl) (Nat.le_of_ble_eq_true rfl) ?_
  repeat (first | refine go_run ?_ | (refine go_newP ?_; clear hw; intro p w hw) | (refine go_newW ?_; clear hw; intro w hw) | (refine go_newS ?_; clear hw; intro s w hw))
  refine st_call rfl (pkNew_spec (ha.at hw) hvl hd) ?_
  rintro _ w' ⟨pk, F, W, rfl, hP, hk'⟩
  replace hw := hw.call1 hk'
  clear hk'
  refine ⟨_, rfl, ?_⟩
  repeat (first | refine go_run ?_ | (refine go_newP ?_; clear hw; intro p w hw) | (refine go_newWr ?_; clear hw; intro w hw) | (refine go_newS ?_; clear hw; intro s w hw))
  refine st_makeMap kInt hw ?_
  clear hw
  intro mv w hw
  repeat (first | refine go_run ?_ | (refine go_newP ?_; clear hw; intro p w hw) | (refine go_newWr ?_; clear hw; intro w hw) | (refine go_newS ?_; clear hw; intro s w hw))
  have om := map_one (i := 0) hw rfl
  refine st_build2 (v1 := .pointer (some pk)) (v2 := mv) rfl rfl rfl (by simp only [List.all_cons, List.all_nil, om]; rfl) ?_
  refine st_boxAggNew (vs := [.pointer (some pk), .slice none 0 0, mv]) rfl hw ?_
  clear hw
  intro pr w hw
  repeat (first | refine go_run ?_ | (refine go_newP ?_; clear hw; intro p w hw) | (refine go_newWr ?_; clear hw; intro w hw) | (refine go_newS ?_; clear hw; intro s w hw))
  have hw1 : Sat w0 w (Box pr 157 [.pointer (some pk), (.slice none 0 0), mv] :: RdH (fun w => RPk w pk F W) :: OS tREnt 171 (.slice none 0 0) ([] : List REnt) :: RdH (EntF ([] : List REnt) ([] : List (List Nat))) :: MapO kInt mv ([] : List (Int × Value)) :: RowsAt tInt 3 (([] : List (Int × Value)).map (·.2)) ([] : List (List Int)) :: []) := by
    have g1 : Sat w0 w [Box pr 157 [.pointer (some pk), .slice none 0 0, mv], MapO kInt mv [], RdH fun w => RPk w pk F W] := hw
    have g2 := ((Sat.rd0 (φ := EntF [] []) (fun w i hi => absurd hi (Nat.not_lt_zero _)) g1).nil (T := tREnt) (e := 171)).rows0 (T := tInt) (e := 3)
    have g3 : Sat w0 w [Box pr 157 [.pointer (some pk), .slice none 0 0, mv], RdH (fun w => RPk w pk F W), OS tREnt 171 (.slice none 0 0) [], RdH (EntF [] []), MapO kInt mv [], RowsAt tInt 3 [] []] := g2.selG
    exact g3
  exact res_two (v := .pointer (some pr)) (v' := .nilIface) rfl rfl rfl ⟨pr, rfl, Sat.regClose (RegI.zero vars F W) hP hw1⟩
set_option maxRecDepth 8000 in
theorem rgHas_spec {w0 : World} {pr : Addr} {c0 ev c2 : Value} {es : List REnt} {z : Int} (hb : BoxR w0 pr [c0, ev, c2]) (hr : RS tREnt w0 ev es) :
    Calls Tryz.prog 85 #[.pointer (some pr), .int .i64 z] w0 fun e w' => e = .returned (.bool (decide (0 ≤ z ∧ z < es.length))) ∧ Sat w0 w' [] := by
  have hw := Sat.start w0
  refine calls_of_vc (args := [.pointer (some pr), .int .i64 z]) mixed Tryz.func85 rfl (by kernel_rfl) (Nat.le_of_ble_eq_true rfl) ?_
  by_cases h0 : 0 ≤ z
  · have hd : decide (0 ≤ z) = true := decide_eq_true h0
    repeat (first | refine go_run ?_ | (refine go_newP ?_; clear hw; intro p w hw) | (refine go_newWr ?_; clear hw; intro w hw) | (refine go_newS ?_; clear hw; intro s w hw))
    simp only [hd, beq_self_eq_true, beq_tfI, beq_ftI, Bool.false_and, Bool.true_and, Bool.false_or, Bool.true_or, Bool.not_true, Bool.not_false, Bool.cond_true, Bool.cond_false, gv_fI, gv_tI]
    repeat (first | refine go_run ?_ | (refine go_newP ?_; clear hw; intro p w hw) | (refine go_newWr ?_; clear hw; intro w hw) | (refine go_newS ?_; clear hw; intro s w hw))
    exact res_one (v := .bool (decide (z < es.length))) rfl rfl ⟨by rw [show decide (z < (es.length : Int)) = decide (0 ≤ z ∧ z < (es.length : Int)) from decide_eq_decide.2 ⟨fun h => ⟨h0, h⟩, fun h => h.2⟩], hw⟩
  · have hd : decide (0 ≤ z) = false := decide_eq_false h0
    repeat (first | refine go_run ?_ | (refine go_newP ?_; clear hw; intro p w hw) | (refine go_newWr ?_; clear hw; intro w hw) | (refine go_newS ?_; clear hw; intro s w hw))
    simp only [hd, beq_self_eq_true, beq_tfI, beq_ftI, Bool.false_and, Bool.true_and, Bool.false_or, Bool.true_or, Bool.not_true, Bool.not_false, Bool.cond_true, Bool.cond_false, gv_fI, gv_tI]
    repeat (first | refine go_run ?_ | (refine go_newP ?_; clear hw; intro p w hw) | (refine go_newWr ?_; clear hw; intro w hw) | (refine go_newS ?_; clear hw; intro s w hw))
    exact res_one (v := .bool false) rfl rfl ⟨by rw [show decide (0 ≤ z ∧ z < (es.length : Int)) = false from decide_eq_false fun h => h0 h.1], hw⟩
theorem bucket_rs {w0 w : World} {Γ : List HP} {vars : List Int} {st : List (List Int)} {lk : List Lnk} {F : List Fld} {W : Nat} {es : List REnt} {wsl : List (List Nat)} {kv : List (Int × Value)} {bs : List (List Int)} (hI : RegI vars F W st lk es wsl kv bs) (hw : Sat w0 w (RowsAt tInt 3 (kv.map (·.2)) bs :: Γ)) (x : Int) : RS tInt w ((mget kv x).getD (.slice none 0 0)) (hids wsl x) := by
  cases hm : mget kv x with
  | none =>
    rw [hI.none (mget_none.1 hm)]
    exact RS.nil
  | some v =>
    cases hf : mfind x kv 0 with
    | none => unfold mget at hm; rw [hf] at hm; cases hm
    | some q =>
      obtain ⟨j, v'⟩ := q
      have hv : v' = v := by unfold mget at hm; rw [hf] at hm; exact Option.some.inj hm
      subst hv
      obtain ⟨_, hj⟩ := mfind_some hf
      rw [Nat.sub_zero] at hj
      have hjl : j < kv.length := (List.getElem?_eq_some_iff.1 hj).1
      have h1 := hw.row (i := j) (by rw [hI.bl]; exact hjl)
      rw [hI.bk j x v' hj] at h1
      have h2 : vget (kv.map (·.2)) j = v' := by
        rw [vget_eq]; simp [List.getD, hj]
      rw [h2] at h1
      exact h1
/-- The number of a state; -1 where it has none. -/
def idxI (st : List (List Int)) (s : List Int) : Int := if s ∈ st then (st.idxOf s : Int) else -1
set_option maxRecDepth 8000 in
set_option maxHeartbeats 8000000 in
theorem rgFind_spec {w0 w : World} {Γ : List HP} {pr pk : Addr} {sv ev mv : Value} {vars : List Int} {st : List (List Int)} {lk : List Lnk} {F : List Fld} {W : Nat} {es : List REnt} {wsl : List (List Nat)} {kv : List (Int × Value)} {bs : List (List Int)} {s : List Int} (hvl : vars.length ≤ 64) (hI : RegI vars F W st lk es wsl kv bs) (hP : PkOk vars vars.length F W) (hnd : st.Nodup) (hn : st.length ≤ 65536)
    (hs : RS tInt w sv s) (hok : StateOk vars s) (hw : Sat w0 w (Box pr 157 [.pointer (some pk), ev, mv] :: RdH (fun w => RPk w pk F W) :: OS tREnt 171 ev es :: RdH (EntF es wsl) :: MapO kInt mv kv :: RowsAt tInt 3 (kv.map (·.2)) bs :: Γ)) :
    Calls Tryz.prog 97 #[.pointer (some pr), sv] w fun e w' => ∃ wv ws, e = .returned (.tuple #[wv, .int .i64 (hshL ws), .int .i64 (idxI st s), .nilIface]) ∧ Pkd F s W vars.length ws ∧ Sat w0 w' (OS tU64 198 wv ws :: Box pr 157 [.pointer (some pk), ev, mv] :: RdH (fun w => RPk w pk F W) :: OS tREnt 171 ev es :: RdH (EntF es wsl) :: MapO kInt mv kv :: RowsAt tInt 3 (kv.map (·.2)) bs :: Γ) := by
  have hel := hI.el
  have hwl := hI.wl
  refine calls_of_vc (args := [.pointer (some pr), sv]) mixed Tryz.func97 rfl (by kernel_rfl) (Nat.le_of_ble_eq_true rfl) ?_
  repeat (first | refine go_run ?_ | (refine go_newP ?_; clear hw; intro p w hw) | (refine go_newWr ?_; clear hw; intro w hw) | (refine go_newS ?_; clear hw; intro s w hw))
  refine st_call rfl (Pack_spec (hw.rdE 1 rfl) hP hvl hs hok) ?_
  rintro _ w' ⟨wv, ws, rfl, hp, hk'⟩
  replace hw := hw.call1 hk'
  clear hk'
  refine ⟨_, rfl, ?_⟩
  have hlt : ∀ x, x < ws.length → ws.getD x 0 < 18446744073709551616 := fun x hx => hp.lt hP hok (Nat.le_refl _) (by rw [← hp.len]; exact hx)
  repeat (first | refine go_run ?_ | (refine go_newP ?_; clear hw; intro p w hw) | (refine go_newWr ?_; clear hw; intro w hw) | (refine go_newS ?_; clear hw; intro s w hw))
  refine st_call rfl (Hash_spec (rsO (s := wv) hw) hlt) ?_
  rintro _ w' ⟨rfl, hk'⟩
  replace hw := hw.call0 hk'
  clear hk'
  refine ⟨_, rfl, ?_⟩
  repeat (first | refine go_run ?_ | (refine go_newP ?_; clear hw; intro p w hw) | (refine go_newWr ?_; clear hw; intro w hw) | (refine go_newS ?_; clear hw; intro s w hw))
  refine step_read rfl (rv_lookup (m := mv) (κ := kInt) (q := hshL ws) rfl rfl hw inferInstance) ?_
  obtain ⟨bv, hbv⟩ : ∃ bv, bv = (mget kv (hshL ws)).getD (.slice none 0 0) := ⟨_, rfl⟩
  rw [← hbv]
  have hB : ∀ w1, Sat w0 w1 (OS tU64 198 wv ws :: Box pr 157 [.pointer (some pk), ev, mv] :: RdH (fun w => RPk w pk F W) :: OS tREnt 171 ev es :: RdH (EntF es wsl) :: MapO kInt mv kv :: RowsAt tInt 3 (kv.map (·.2)) bs :: Γ) → RS tInt w1 bv (hids wsl (hshL ws)) := fun w1 h => by
    rw [hbv]; exact bucket_rs hI (h.focus 6 rfl) _
  have hB0 := hB _ hw
  have hhl := hids_len wsl (hshL ws)
  repeat (first | refine go_run ?_ | (refine go_newP ?_; clear hw; intro p w hw) | (refine go_newWr ?_; clear hw; intro w hw) | (refine go_newS ?_; clear hw; intro s w hw))
  refine vc_loop [4, 5, 6, 7, 12, 38, 39, 40, 41, 42, 43, 44, 45, 46, 47, 48, 49, 50, 51, 52, 53, 54, 55] (G := Nat) (fun x => [(38, .int .i64 x)]) (fun x w => x ≤ (hids wsl (hshL ws)).length ∧ (∀ m, m < x → wsl.getD ((hids wsl (hshL ws)).getD m tInt.dflt).toNat [] ≠ ws) ∧ Sat w0 w (OS tU64 198 wv ws :: Box pr 157 [.pointer (some pk), ev, mv] :: RdH (fun w => RPk w pk F W) :: OS tREnt 171 ev es :: RdH (EntF es wsl) :: MapO kInt mv kv :: RowsAt tInt 3 (kv.map (·.2)) bs :: Γ)) (fun x => (hids wsl (hshL ws)).length - x) 0 (fun _ => rfl) ⟨rfl, trivial⟩ ⟨Nat.zero_le _, fun m hm => absurd hm (Nat.not_lt_zero _), hw⟩ ?_
  clear hw hB0
  rintro σ x w ⟨hx, hno, hw⟩
  have hB0 := hB _ hw
  repeat (first | refine go_run ?_ | (refine go_newP ?_; clear hw; intro p w hw) | (refine go_newW ?_; clear hw; intro w hw) | (refine go_newS ?_; clear hw; intro s w hw))
  refine go_if (fun h1 => ?_) (fun h1 => ?_)
  · have hxl : x < (hids wsl (hshL ws)).length := by omega
    obtain ⟨i, hie, hil, hih⟩ := mem_hids.1 (mem_getD tInt.dflt hxl)
    have hib : ((hids wsl (hshL ws)).getD x tInt.dflt).toNat = i := by rw [hie]; rfl
    have hb0 : 0 ≤ (hids wsl (hshL ws)).getD x tInt.dflt ∧ (hids wsl (hshL ws)).getD x tInt.dflt < (es.length : Int) := by rw [hie]; omega
    repeat (first | refine go_run ?_ | (refine go_newP ?_; clear hw; intro p w hw) | (refine go_newWr ?_; clear hw; intro w hw) | (refine go_newS ?_; clear hw; intro s w hw))
    have hEw : RS tU64 w (eget tREnt es ((hids wsl (hshL ws)).getD x tInt.dflt).toNat).words (wsl.getD i []) := by
      rw [hib]; exact (hw.rdE 4 rfl) i hil
    refine st_call rfl (EqualU_spec hEw (rsO (s := wv) hw)) ?_
    rintro _ w' ⟨⟨r, rfl, hr⟩, hk'⟩
    replace hw := hw.call0 hk'
    clear hk'
    refine ⟨_, rfl, ?_⟩
    cases r
    · have hne : wsl.getD i [] ≠ ws := fun e => by cases hr.2 e
      repeat (first | refine go_run ?_ | (refine go_newP ?_; clear hw; intro p w hw) | (refine go_newW ?_; clear hw; intro w hw) | (refine go_newS ?_; clear hw; intro s w hw))
      refine ⟨x + 1, ⟨rfl, trivial⟩, by repeat (first | exact agree_refl | (apply agree_upd rfl) | (apply agree_mix rfl) | (apply agree_sets rfl)), ⟨by omega, fun m hm => ?_, hw⟩, by omega⟩
      by_cases e : m = x
      · rw [e, hib]; exact hne
      · exact hno m (by omega)
    · have heq := hr.1 rfl
      have hst := hI.same hP hok hp (i := i) (by omega) heq
      have hmem : s ∈ st := by rw [← hst]; exact mem_getD [] (by omega)
      have hidx : idxI st s = (hids wsl (hshL ws)).getD x tInt.dflt := by
        unfold idxI
        rw [if_pos hmem, hie]
        obtain ⟨k1, k2⟩ := idx_at hmem
        rw [nodup_at hnd k1 (show i < st.length by omega) (by rw [k2, hst])]
      repeat (first | refine go_run ?_ | (refine go_newP ?_; clear hw; intro p w hw) | (refine go_newW ?_; clear hw; intro w hw) | (refine go_newS ?_; clear hw; intro s w hw))
      exact res_four (v1 := wv) (v2 := .int .i64 (hshL ws)) (v3 := .int .i64 ((hids wsl (hshL ws)).getD x tInt.dflt)) (v4 := .nilIface) rfl rfl rfl rfl rfl ⟨wv, ws, by rw [hidx], hp, hw⟩
  have hno2 : s ∉ st := fun hmem => by
    obtain ⟨k1, k2⟩ := idx_at hmem
    obtain ⟨k3, k4⟩ := hI.hit hp k1 k2
    obtain ⟨m, hm, he⟩ := List.getElem_of_mem k4
    refine hno m (by omega) ?_
    rw [getD_at hm, he]
    exact k3
  have hidx : idxI st s = -1 := by unfold idxI; rw [if_neg hno2]
  repeat (first | refine go_run ?_ | (refine go_newP ?_; clear hw; intro p w hw) | (refine go_newW ?_; clear hw; intro w hw) | (refine go_newS ?_; clear hw; intro s w hw))
  exact res_four (v1 := wv) (v2 := .int .i64 (hshL ws)) (v3 := .int .i64 (-1)) (v4 := .nilIface) rfl rfl rfl rfl rfl ⟨wv, ws, by rw [hidx], hp, hw⟩
end Go.Proofs.YtegndanecnicaaaGreat
