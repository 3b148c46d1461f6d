/-
  Several texts as one: WReg, WReg2, WReg3, WTRank.
-/
import Derived.Test.YtegndanecnicaaaGreatMW4
import Derived.Test.YtegndanecnicaaaGreatMTA
import Derived.Test.YtegndanecnicaaaGreatMSlB
import Derived.Test.YtegndanecnicaaaGreatMW2
import Derived.Test.YtegndanecnicaaaGreatMW3
set_option linter.unusedSimpArgs false
set_option linter.unusedVariables false

/-
  Contracts of package 'registry': New, has, find.
-/
namespace Go.Proofs.YtegndanecnicaaaGreat
open Go.Sl Go
attribute [local irreducible] vc opsW opsD opV opW PureV ReadV Thn Blk
instance rgMapT : MapT Tryz.prog 154 3 22 := ⟨by kernel_rfl⟩
instance rgZero : ZeroV Tryz.prog 22 (.slice none 0 0) := ⟨by kernel_rfl⟩
set_option maxRecDepth 8000 in
set_option maxHeartbeats 2000000 in
theorem EqualU_spec {w0 : World} {xa xb : Value} {A B : List Nat} (hA : RS tU64 w0 xa A) (hB : RS tU64 w0 xb B) :
    Calls Tryz.prog 109 #[xa, xb] w0 fun e w' => (∃ r, e = .returned (.bool r) ∧ (r = true ↔ A = B)) ∧ Sat w0 w' [] := by
  have hAb := hA.big
  have hBb := hB.big
  have hw := Sat.start w0
  refine calls_of_vc (args := [xa, xb]) mixed Tryz.func109 rfl (by kernel_rfl) (Nat.le_of_ble_eq_true rfl) ?_
  repeat (first | refine go_run ?_ | (refine go_newP ?_; clear hw; intro p w hw) | (refine go_newW ?_; clear hw; intro w hw) | (refine go_newS ?_; clear hw; intro s w hw))
  refine go_if (fun h1 => ?_) (fun h1 => ?_)
  · repeat (first | refine go_run ?_ | (refine go_newP ?_; clear hw; intro p w hw) | (refine go_newW ?_; clear hw; intro w hw) | (refine go_newS ?_; clear hw; intro s w hw))
    exact res_one (v := .bool false) rfl rfl ⟨⟨false, rfl, iffF fun e => by rw [e] at h1; omega⟩, hw.sel⟩
  repeat (first | refine go_run ?_ | (refine go_newP ?_; clear hw; intro p w hw) | (refine go_newW ?_; clear hw; intro w hw) | (refine go_newS ?_; clear hw; intro s w hw))
  refine vc_loop [4, 5, 13, 14, 15, 16, 17, 18, 19, 20, 21, 22, 23, 24, 25] (G := Nat) (fun i => [(13, .int .i64 i)]) (fun i w => i ≤ A.length ∧ (∀ m, m < i → A.getD m tU64.dflt = B.getD m tU64.dflt) ∧ Sat w0 w []) (fun i => A.length - i) 0 (fun _ => rfl) ⟨rfl, trivial⟩ ⟨Nat.zero_le _, fun i hi => absurd hi (Nat.not_lt_zero _), hw.sel⟩ ?_
  clear hw
  rintro σ i w ⟨hi, hno, hw⟩
  repeat (first | refine go_run ?_ | (refine go_newP ?_; clear hw; intro p w hw) | (refine go_newW ?_; clear hw; intro w hw) | (refine go_newS ?_; clear hw; intro s w hw))
  refine go_if (fun h2 => ?_) (fun h2 => ?_)
  · have hil : i < A.length := by omega
    by_cases h3 : A.getD i tU64.dflt = B.getD i tU64.dflt
    · have hd : decide (((A.getD i tU64.dflt : Nat) : Int) = ((B.getD i tU64.dflt : Nat) : Int)) = true := decide_eq_true (by rw [h3])
      repeat (first | refine go_runC ?_ | (refine go_newP ?_; clear hw; intro p w hw) | (refine go_newW ?_; clear hw; intro w hw) | (refine go_newS ?_; clear hw; intro s w hw))
      simp only [hd, Bool.not_true]
      repeat (first | refine go_run ?_ | (refine go_newP ?_; clear hw; intro p w hw) | (refine go_newW ?_; clear hw; intro w hw) | (refine go_newS ?_; clear hw; intro s w hw))
      refine ⟨i + 1, ⟨rfl, trivial⟩, by repeat (first | exact agree_refl | (apply agree_upd rfl) | (apply agree_mix rfl) | (apply agree_sets rfl)), ⟨by omega, fun m hm => ?_, hw.sel⟩, by omega⟩
      by_cases e : m = i
      · subst e; exact h3
      · exact hno m (by omega)
    · have hd : decide (((A.getD i tU64.dflt : Nat) : Int) = ((B.getD i tU64.dflt : Nat) : Int)) = false := decide_eq_false fun e => h3 (by omega)
      repeat (first | refine go_runC ?_ | (refine go_newP ?_; clear hw; intro p w hw) | (refine go_newW ?_; clear hw; intro w hw) | (refine go_newS ?_; clear hw; intro s w hw))
      simp only [hd, Bool.not_false]
      repeat (first | refine go_run ?_ | (refine go_newP ?_; clear hw; intro p w hw) | (refine go_newW ?_; clear hw; intro w hw) | (refine go_newS ?_; clear hw; intro s w hw))
      exact res_one (v := .bool false) rfl rfl ⟨⟨false, rfl, iffF fun e => h3 (by rw [e])⟩, hw.sel⟩
  have hie : i = A.length := by omega
  subst hie
  repeat (first | refine go_run ?_ | (refine go_newP ?_; clear hw; intro p w hw) | (refine go_newW ?_; clear hw; intro w hw) | (refine go_newS ?_; clear hw; intro s w hw))
  exact res_one (v := .bool true) rfl rfl ⟨⟨true, rfl, ⟨fun _ => list_eq (d := tU64.dflt) (by omega) fun m hm => hno m hm, fun _ => rfl⟩⟩, hw.sel⟩
/-- The words of the first states. -/
def EntF (es : List REnt) (wsl : List (List Nat)) (w : World) : Prop := ∀ i, i < wsl.length → RS tU64 w (eget tREnt es i).words (wsl.getD i [])
def RegH (pr : Addr) (vars : List Int) (st : List (List Int)) (lk : List Lnk) : HP := fun h => ∃ pk F W ev mv es wsl kv bs, RegI vars F W st lk es wsl kv bs ∧ PkOk vars vars.length F W ∧ Pack (Box pr 157 [.pointer (some pk), ev, mv] :: RdH (fun w => RPk w pk F W) :: OS tREnt 171 ev es :: RdH (EntF es wsl) :: MapO kInt mv kv :: RowsAt tInt 3 (kv.map (·.2)) bs :: []) h
theorem Sat.regOpen {w0 w : World} {Γ : List HP} {pr : Addr} {vars : List Int} {st : List (List Int)} {lk : List Lnk} (h : Sat w0 w (RegH pr vars st lk :: Γ)) : ∃ pk F W ev mv es wsl kv bs, RegI vars F W st lk es wsl kv bs ∧ PkOk vars vars.length F W ∧ Sat w0 w (Box pr 157 [.pointer (some pk), ev, mv] :: RdH (fun w => RPk w pk F W) :: OS tREnt 171 ev es :: RdH (EntF es wsl) :: MapO kInt mv kv :: RowsAt tInt 3 (kv.map (·.2)) bs :: Γ) := by
  obtain ⟨h1, h2, d, s1, s2, ⟨pk, F, W, ev, mv, es, wsl, kv, bs, hI, hP, a⟩, g⟩ := h.sat
  have h3 : Sat w0 w (Pack (Box pr 157 [.pointer (some pk), ev, mv] :: RdH (fun w => RPk w pk F W) :: OS tREnt 171 ev es :: RdH (EntF es wsl) :: MapO kInt mv kv :: RowsAt tInt 3 (kv.map (·.2)) bs :: []) :: Γ) := ⟨h.below, h1, h2, d, s1, s2, a, g⟩
  exact ⟨pk, F, W, ev, mv, es, wsl, kv, bs, hI, hP, h3.unpack⟩
theorem Sat.regClose {w0 w : World} {Γ : List HP} {pr pk : Addr} {vars : List Int} {st : List (List Int)} {lk : List Lnk} {F : List Fld} {W : Nat} {ev mv : Value} {es : List REnt} {wsl : List (List Nat)} {kv : List (Int × Value)} {bs : List (List Int)} (hI : RegI vars F W st lk es wsl kv bs) (hP : PkOk vars vars.length F W) (h : Sat w0 w (Box pr 157 [.pointer (some pk), ev, mv] :: RdH (fun w => RPk w pk F W) :: OS tREnt 171 ev es :: RdH (EntF es wsl) :: MapO kInt mv kv :: RowsAt tInt 3 (kv.map (·.2)) bs :: Γ)) : Sat w0 w (RegH pr vars st lk :: Γ) := by
  have h2 : Sat w0 w ([Box pr 157 [.pointer (some pk), ev, mv], RdH (fun w => RPk w pk F W), OS tREnt 171 ev es, RdH (EntF es wsl), MapO kInt mv kv, RowsAt tInt 3 (kv.map (·.2)) bs] ++ Γ) := h
  exact (h2.pack).mono fun p a => ⟨pk, F, W, ev, mv, es, wsl, kv, bs, hI, hP, a⟩
theorem map_one {w0 w : World} {Γ : List HP} {α : Type} {κ : α → Value} {m : Value} {kv : List (α × Value)} {i : Nat} (hw : Sat w0 w Γ) (hi : Γ[i]? = some (MapO κ m kv)) : m.oneCell' = true := by
  obtain ⟨b, es, clock, rfl, _⟩ := map_of hw hi
  rfl
set_option maxRecDepth 8000 in
set_option maxHeartbeats 2000000 in
theorem rgNew_spec {w0 : World} {av : Value} {vars : List Int} (ha : RS tInt w0 av vars) (hvl : vars.length ≤ 64) (hd : ∀ i, i < vars.length → 1 ≤ vars.getD i tInt.dflt ∧ vars.getD i tInt.dflt ≤ 64) :
    Calls Tryz.prog 62 #[av] w0 fun e w' => ∃ p, e = .returned (.tuple #[.pointer (some p), .nilIface]) ∧ Sat w0 w' [RegH p vars [] []] := by
  have hw := Sat.start w0
  refine calls_of_vc (args := [av]) mixed Tryz.func62 rfl (by kernel_rfl) (Nat.le_of_ble_eq_true rfl) ?_
  repeat (first | refine go_run ?_ | (refine go_newP ?_; clear hw; intro p w hw) | (refine go_newW ?_; clear hw; intro w hw) | (refine go_newS ?_; clear hw; intro s w hw))
  refine st_call rfl (pkNew_spec (ha.at hw) hvl hd) ?_
  rintro _ w' ⟨pk, F, W, rfl, hP, hk'⟩
  replace hw := hw.call1 hk'
  clear hk'
  refine ⟨_, rfl, ?_⟩
  repeat (first | refine go_run ?_ | (refine go_newP ?_; clear hw; intro p w hw) | (refine go_newWr ?_; clear hw; intro w hw) | (refine go_newS ?_; clear hw; intro s w hw))
  refine st_makeMap kInt hw ?_
  clear hw
  intro mv w hw
  repeat (first | refine go_run ?_ | (refine go_newP ?_; clear hw; intro p w hw) | (refine go_newWr ?_; clear hw; intro w hw) | (refine go_newS ?_; clear hw; intro s w hw))
  have om := map_one (i := 0) hw rfl
  refine st_build2 (v1 := .pointer (some pk)) (v2 := mv) rfl rfl rfl (by simp only [List.all_cons, List.all_nil, om]; rfl) ?_
  refine st_boxAggNew (vs := [.pointer (some pk), .slice none 0 0, mv]) rfl hw ?_
  clear hw
  intro pr w hw
  repeat (first | refine go_run ?_ | (refine go_newP ?_; clear hw; intro p w hw) | (refine go_newWr ?_; clear hw; intro w hw) | (refine go_newS ?_; clear hw; intro s w hw))
  have hw1 : Sat w0 w (Box pr 157 [.pointer (some pk), (.slice none 0 0), mv] :: RdH (fun w => RPk w pk F W) :: OS tREnt 171 (.slice none 0 0) ([] : List REnt) :: RdH (EntF ([] : List REnt) ([] : List (List Nat))) :: MapO kInt mv ([] : List (Int × Value)) :: RowsAt tInt 3 (([] : List (Int × Value)).map (·.2)) ([] : List (List Int)) :: []) := by
    have g1 : Sat w0 w [Box pr 157 [.pointer (some pk), .slice none 0 0, mv], MapO kInt mv [], RdH fun w => RPk w pk F W] := hw
    have g2 := ((Sat.rd0 (φ := EntF [] []) (fun w i hi => absurd hi (Nat.not_lt_zero _)) g1).nil (T := tREnt) (e := 171)).rows0 (T := tInt) (e := 3)
    have g3 : Sat w0 w [Box pr 157 [.pointer (some pk), .slice none 0 0, mv], RdH (fun w => RPk w pk F W), OS tREnt 171 (.slice none 0 0) [], RdH (EntF [] []), MapO kInt mv [], RowsAt tInt 3 [] []] := g2.selG
    exact g3
  exact res_two (v := .pointer (some pr)) (v' := .nilIface) rfl rfl rfl ⟨pr, rfl, Sat.regClose (RegI.zero vars F W) hP hw1⟩
set_option maxRecDepth 8000 in
theorem rgHas_spec {w0 : World} {pr : Addr} {c0 ev c2 : Value} {es : List REnt} {z : Int} (hb : BoxR w0 pr [c0, ev, c2]) (hr : RS tREnt w0 ev es) :
    Calls Tryz.prog 85 #[.pointer (some pr), .int .i64 z] w0 fun e w' => e = .returned (.bool (decide (0 ≤ z ∧ z < es.length))) ∧ Sat w0 w' [] := by
  have hw := Sat.start w0
  refine calls_of_vc (args := [.pointer (some pr), .int .i64 z]) mixed Tryz.func85 rfl (by kernel_rfl) (Nat.le_of_ble_eq_true rfl) ?_
  by_cases h0 : 0 ≤ z
  · have hd : decide (0 ≤ z) = true := decide_eq_true h0
    repeat (first | refine go_run ?_ | (refine go_newP ?_; clear hw; intro p w hw) | (refine go_newWr ?_; clear hw; intro w hw) | (refine go_newS ?_; clear hw; intro s w hw))
    simp only [hd, beq_self_eq_true, beq_tfI, beq_ftI, Bool.false_and, Bool.true_and, Bool.false_or, Bool.true_or, Bool.not_true, Bool.not_false, Bool.cond_true, Bool.cond_false, gv_fI, gv_tI]
    repeat (first | refine go_run ?_ | (refine go_newP ?_; clear hw; intro p w hw) | (refine go_newWr ?_; clear hw; intro w hw) | (refine go_newS ?_; clear hw; intro s w hw))
    exact res_one (v := .bool (decide (z < es.length))) rfl rfl ⟨by rw [show decide (z < (es.length : Int)) = decide (0 ≤ z ∧ z < (es.length : Int)) from decide_eq_decide.2 ⟨fun h => ⟨h0, h⟩, fun h => h.2⟩], hw⟩
  · have hd : decide (0 ≤ z) = false := decide_eq_false h0
    repeat (first | refine go_run ?_ | (refine go_newP ?_; clear hw; intro p w hw) | (refine go_newWr ?_; clear hw; intro w hw) | (refine go_newS ?_; clear hw; intro s w hw))
    simp only [hd, beq_self_eq_true, beq_tfI, beq_ftI, Bool.false_and, Bool.true_and, Bool.false_or, Bool.true_or, Bool.not_true, Bool.not_false, Bool.cond_true, Bool.cond_false, gv_fI, gv_tI]
    repeat (first | refine go_run ?_ | (refine go_newP ?_; clear hw; intro p w hw) | (refine go_newWr ?_; clear hw; intro w hw) | (refine go_newS ?_; clear hw; intro s w hw))
    exact res_one (v := .bool false) rfl rfl ⟨by rw [show decide (0 ≤ z ∧ z < (es.length : Int)) = false from decide_eq_false fun h => h0 h.1], hw⟩
theorem bucket_rs {w0 w : World} {Γ : List HP} {vars : List Int} {st : List (List Int)} {lk : List Lnk} {F : List Fld} {W : Nat} {es : List REnt} {wsl : List (List Nat)} {kv : List (Int × Value)} {bs : List (List Int)} (hI : RegI vars F W st lk es wsl kv bs) (hw : Sat w0 w (RowsAt tInt 3 (kv.map (·.2)) bs :: Γ)) (x : Int) : RS tInt w ((mget kv x).getD (.slice none 0 0)) (hids wsl x) := by
  cases hm : mget kv x with
  | none =>
    rw [hI.none (mget_none.1 hm)]
    exact RS.nil
  | some v =>
    cases hf : mfind x kv 0 with
    | none => unfold mget at hm; rw [hf] at hm; cases hm
    | some q =>
      obtain ⟨j, v'⟩ := q
      have hv : v' = v := by unfold mget at hm; rw [hf] at hm; exact Option.some.inj hm
      subst hv
      obtain ⟨_, hj⟩ := mfind_some hf
      rw [Nat.sub_zero] at hj
      have hjl : j < kv.length := (List.getElem?_eq_some_iff.1 hj).1
      have h1 := hw.row (i := j) (by rw [hI.bl]; exact hjl)
      rw [hI.bk j x v' hj] at h1
      have h2 : vget (kv.map (·.2)) j = v' := by
        rw [vget_eq]; simp [List.getD, hj]
      rw [h2] at h1
      exact h1
/-- The number of a state; -1 where it has none. -/
def idxI (st : List (List Int)) (s : List Int) : Int := if s ∈ st then (st.idxOf s : Int) else -1
set_option maxRecDepth 8000 in
set_option maxHeartbeats 8000000 in
theorem rgFind_spec {w0 w : World} {Γ : List HP} {pr pk : Addr} {sv ev mv : Value} {vars : List Int} {st : List (List Int)} {lk : List Lnk} {F : List Fld} {W : Nat} {es : List REnt} {wsl : List (List Nat)} {kv : List (Int × Value)} {bs : List (List Int)} {s : List Int} (hvl : vars.length ≤ 64) (hI : RegI vars F W st lk es wsl kv bs) (hP : PkOk vars vars.length F W) (hnd : st.Nodup) (hn : st.length ≤ 65536)
    (hs : RS tInt w sv s) (hok : StateOk vars s) (hw : Sat w0 w (Box pr 157 [.pointer (some pk), ev, mv] :: RdH (fun w => RPk w pk F W) :: OS tREnt 171 ev es :: RdH (EntF es wsl) :: MapO kInt mv kv :: RowsAt tInt 3 (kv.map (·.2)) bs :: Γ)) :
    Calls Tryz.prog 97 #[.pointer (some pr), sv] w fun e w' => ∃ wv ws, e = .returned (.tuple #[wv, .int .i64 (hshL ws), .int .i64 (idxI st s), .nilIface]) ∧ Pkd F s W vars.length ws ∧ Sat w0 w' (OS tU64 198 wv ws :: Box pr 157 [.pointer (some pk), ev, mv] :: RdH (fun w => RPk w pk F W) :: OS tREnt 171 ev es :: RdH (EntF es wsl) :: MapO kInt mv kv :: RowsAt tInt 3 (kv.map (·.2)) bs :: Γ) := by
  have hel := hI.el
  have hwl := hI.wl
  refine calls_of_vc (args := [.pointer (some pr), sv]) mixed Tryz.func97 rfl (by kernel_rfl) (Nat.le_of_ble_eq_true rfl) ?_
  repeat (first | refine go_run ?_ | (refine go_newP ?_; clear hw; intro p w hw) | (refine go_newWr ?_; clear hw; intro w hw) | (refine go_newS ?_; clear hw; intro s w hw))
  refine st_call rfl (Pack_spec (hw.rdE 1 rfl) hP hvl hs hok) ?_
  rintro _ w' ⟨wv, ws, rfl, hp, hk'⟩
  replace hw := hw.call1 hk'
  clear hk'
  refine ⟨_, rfl, ?_⟩
  have hlt : ∀ x, x < ws.length → ws.getD x 0 < 18446744073709551616 := fun x hx => hp.lt hP hok (Nat.le_refl _) (by rw [← hp.len]; exact hx)
  repeat (first | refine go_run ?_ | (refine go_newP ?_; clear hw; intro p w hw) | (refine go_newWr ?_; clear hw; intro w hw) | (refine go_newS ?_; clear hw; intro s w hw))
  refine st_call rfl (Hash_spec (rsO (s := wv) hw) hlt) ?_
  rintro _ w' ⟨rfl, hk'⟩
  replace hw := hw.call0 hk'
  clear hk'
  refine ⟨_, rfl, ?_⟩
  repeat (first | refine go_run ?_ | (refine go_newP ?_; clear hw; intro p w hw) | (refine go_newWr ?_; clear hw; intro w hw) | (refine go_newS ?_; clear hw; intro s w hw))
  refine step_read rfl (rv_lookup (m := mv) (κ := kInt) (q := hshL ws) rfl rfl hw inferInstance) ?_
  obtain ⟨bv, hbv⟩ : ∃ bv, bv = (mget kv (hshL ws)).getD (.slice none 0 0) := ⟨_, rfl⟩
  rw [← hbv]
  have hB : ∀ w1, Sat w0 w1 (OS tU64 198 wv ws :: Box pr 157 [.pointer (some pk), ev, mv] :: RdH (fun w => RPk w pk F W) :: OS tREnt 171 ev es :: RdH (EntF es wsl) :: MapO kInt mv kv :: RowsAt tInt 3 (kv.map (·.2)) bs :: Γ) → RS tInt w1 bv (hids wsl (hshL ws)) := fun w1 h => by
    rw [hbv]; exact bucket_rs hI (h.focus 6 rfl) _
  have hB0 := hB _ hw
  have hhl := hids_len wsl (hshL ws)
  repeat (first | refine go_run ?_ | (refine go_newP ?_; clear hw; intro p w hw) | (refine go_newWr ?_; clear hw; intro w hw) | (refine go_newS ?_; clear hw; intro s w hw))
  refine vc_loop [4, 5, 6, 7, 12, 38, 39, 40, 41, 42, 43, 44, 45, 46, 47, 48, 49, 50, 51, 52, 53, 54, 55] (G := Nat) (fun x => [(38, .int .i64 x)]) (fun x w => x ≤ (hids wsl (hshL ws)).length ∧ (∀ m, m < x → wsl.getD ((hids wsl (hshL ws)).getD m tInt.dflt).toNat [] ≠ ws) ∧ Sat w0 w (OS tU64 198 wv ws :: Box pr 157 [.pointer (some pk), ev, mv] :: RdH (fun w => RPk w pk F W) :: OS tREnt 171 ev es :: RdH (EntF es wsl) :: MapO kInt mv kv :: RowsAt tInt 3 (kv.map (·.2)) bs :: Γ)) (fun x => (hids wsl (hshL ws)).length - x) 0 (fun _ => rfl) ⟨rfl, trivial⟩ ⟨Nat.zero_le _, fun m hm => absurd hm (Nat.not_lt_zero _), hw⟩ ?_
  clear hw hB0
  rintro σ x w ⟨hx, hno, hw⟩
  have hB0 := hB _ hw
  repeat (first | refine go_run ?_ | (refine go_newP ?_; clear hw; intro p w hw) | (refine go_newW ?_; clear hw; intro w hw) | (refine go_newS ?_; clear hw; intro s w hw))
  refine go_if (fun h1 => ?_) (fun h1 => ?_)
  · have hxl : x < (hids wsl (hshL ws)).length := by omega
    obtain ⟨i, hie, hil, hih⟩ := mem_hids.1 (mem_getD tInt.dflt hxl)
    have hib : ((hids wsl (hshL ws)).getD x tInt.dflt).toNat = i := by rw [hie]; rfl
    have hb0 : 0 ≤ (hids wsl (hshL ws)).getD x tInt.dflt ∧ (hids wsl (hshL ws)).getD x tInt.dflt < (es.length : Int) := by rw [hie]; omega
    repeat (first | refine go_run ?_ | (refine go_newP ?_; clear hw; intro p w hw) | (refine go_newWr ?_; clear hw; intro w hw) | (refine go_newS ?_; clear hw; intro s w hw))
    have hEw : RS tU64 w (eget tREnt es ((hids wsl (hshL ws)).getD x tInt.dflt).toNat).words (wsl.getD i []) := by
      rw [hib]; exact (hw.rdE 4 rfl) i hil
    refine st_call rfl (EqualU_spec hEw (rsO (s := wv) hw)) ?_
    rintro _ w' ⟨⟨r, rfl, hr⟩, hk'⟩
    replace hw := hw.call0 hk'
    clear hk'
    refine ⟨_, rfl, ?_⟩
    cases r
    · have hne : wsl.getD i [] ≠ ws := fun e => by cases hr.2 e
      repeat (first | refine go_run ?_ | (refine go_newP ?_; clear hw; intro p w hw) | (refine go_newW ?_; clear hw; intro w hw) | (refine go_newS ?_; clear hw; intro s w hw))
      refine ⟨x + 1, ⟨rfl, trivial⟩, by repeat (first | exact agree_refl | (apply agree_upd rfl) | (apply agree_mix rfl) | (apply agree_sets rfl)), ⟨by omega, fun m hm => ?_, hw⟩, by omega⟩
      by_cases e : m = x
      · rw [e, hib]; exact hne
      · exact hno m (by omega)
    · have heq := hr.1 rfl
      have hst := hI.same hP hok hp (i := i) (by omega) heq
      have hmem : s ∈ st := by rw [← hst]; exact mem_getD [] (by omega)
      have hidx : idxI st s = (hids wsl (hshL ws)).getD x tInt.dflt := by
        unfold idxI
        rw [if_pos hmem, hie]
        obtain ⟨k1, k2⟩ := idx_at hmem
        rw [nodup_at hnd k1 (show i < st.length by omega) (by rw [k2, hst])]
      repeat (first | refine go_run ?_ | (refine go_newP ?_; clear hw; intro p w hw) | (refine go_newW ?_; clear hw; intro w hw) | (refine go_newS ?_; clear hw; intro s w hw))
      exact res_four (v1 := wv) (v2 := .int .i64 (hshL ws)) (v3 := .int .i64 ((hids wsl (hshL ws)).getD x tInt.dflt)) (v4 := .nilIface) rfl rfl rfl rfl rfl ⟨wv, ws, by rw [hidx], hp, hw⟩
  have hno2 : s ∉ st := fun hmem => by
    obtain ⟨k1, k2⟩ := idx_at hmem
    obtain ⟨k3, k4⟩ := hI.hit hp k1 k2
    obtain ⟨m, hm, he⟩ := List.getElem_of_mem k4
    refine hno m (by omega) ?_
    rw [getD_at hm, he]
    exact k3
  have hidx : idxI st s = -1 := by unfold idxI; rw [if_neg hno2]
  repeat (first | refine go_run ?_ | (refine go_newP ?_; clear hw; intro p w hw) | (refine go_newW ?_; clear hw; intro w hw) | (refine go_newS ?_; clear hw; intro s w hw))
  exact res_four (v1 := wv) (v2 := .int .i64 (hshL ws)) (v3 := .int .i64 (-1)) (v4 := .nilIface) rfl rfl rfl rfl rfl ⟨wv, ws, by rw [hidx], hp, hw⟩
end Go.Proofs.YtegndanecnicaaaGreat

/-
  Contract of 'registry.Add'.
-/
namespace Go.Proofs.YtegndanecnicaaaGreat
open Go.Sl Go
attribute [local irreducible] vc opsW opsD opV opW PureV ReadV Thn Blk
theorem EntF.snoc {es : List REnt} {wsl : List (List Nat)} {e : REnt} {ws : List Nat} {w : World} (h : EntF es wsl w) (hl : es.length = wsl.length) (hv : RS tU64 w e.words ws) : EntF (es ++ [e]) (wsl ++ [ws]) w := fun i hi => by
  rw [eget_eq]
  by_cases e : i < wsl.length
  · rw [app_l (by omega), app_l e, ← eget_eq]; exact h i e
  · have e2 : i = wsl.length := by simp at hi; omega
    rw [app_at (by omega), app_at e2]; exact hv
set_option maxRecDepth 8000 in
set_option maxHeartbeats 8000000 in
theorem rgAdd_spec {w0 w : World} {Γ : List HP} {pr : Addr} {sv : Value} {vars : List Int} {st : List (List Int)} {lk : List Lnk} {s : List Int} (hvl : vars.length ≤ 64) (hnd : st.Nodup) (hn : st.length < 65536)
    (hs : RS tInt w sv s) (hok : StateOk vars s) (hw : Sat w0 w (RegH pr vars st lk :: Γ)) :
    Calls Tryz.prog 81 #[.pointer (some pr), sv] w fun e w' =>
      (s ∈ st ∧ e = .returned (.tuple #[.int .i64 (st.idxOf s : Int), .bool false, .nilIface]) ∧ Sat w0 w' (RegH pr vars st lk :: Γ)) ∨
      (s ∉ st ∧ e = .returned (.tuple #[.int .i64 (st.length : Int), .bool true, .nilIface]) ∧ Sat w0 w' (RegH pr vars (st ++ [s]) (lk ++ [dLnk]) :: Γ)) := by
  obtain ⟨pk, F, W, ev, mv, es, wsl, kv, bs, hI, hP, hw⟩ := Sat.regOpen hw
  have hel := hI.el
  have hwl := hI.wl
  refine calls_of_vc (args := [.pointer (some pr), sv]) mixed Tryz.func81 rfl (by kernel_rfl) (Nat.le_of_ble_eq_true rfl) ?_
  repeat (first | refine go_run ?_ | (refine go_newP ?_; clear hw; intro p w hw) | (refine go_newWr ?_; clear hw; intro w hw) | (refine go_newS ?_; clear hw; intro s w hw))
  refine st_call rfl (rgFind_spec hvl hI hP hnd (by omega) hs hok hw) ?_
  clear hw
  rintro _ w ⟨wv, ws, rfl, hp, hw⟩
  refine ⟨_, rfl, ?_⟩
  by_cases hm : s ∈ st
  · have hid : idxI st s = (st.idxOf s : Int) := if_pos hm
    have hd : decide ((0 : Int) ≤ (st.idxOf s : Int)) = true := decide_eq_true (by omega)
    rw [hid]
    repeat (first | refine go_run ?_ | (refine go_newP ?_; clear hw; intro p w hw) | (refine go_newWr ?_; clear hw; intro w hw) | (refine go_newS ?_; clear hw; intro s w hw))
    simp only [hd]
    repeat (first | refine go_run ?_ | (refine go_newP ?_; clear hw; intro p w hw) | (refine go_newWr ?_; clear hw; intro w hw) | (refine go_newS ?_; clear hw; intro s w hw))
    exact res_three (v1 := .int .i64 (st.idxOf s : Int)) (v2 := .bool false) (v3 := .nilIface) rfl rfl rfl rfl (.inl ⟨hm, rfl, Sat.regClose hI hP hw.tail⟩)
  have hid : idxI st s = -1 := if_neg hm
  have hd : decide ((65536 : Int) ≤ (es.length : Int)) = false := decide_eq_false (by omega)
  rw [hid]
  have owv := (rsO (s := wv) hw).cells1
  have owv2 := (rsO (s := wv) hw).one
  repeat (first | refine go_run ?_ | (refine go_newP ?_; clear hw; intro p w hw) | (refine go_newWr ?_; clear hw; intro w hw) | (refine go_newS ?_; clear hw; intro s w hw))
  simp only [hd]
  repeat (first | refine go_run ?_ | (refine go_newP ?_; clear hw; intro p w hw) | (refine go_newWr ?_; clear hw; intro w hw) | (refine go_newS ?_; clear hw; intro s w hw))
  refine st_buildN (vs := [(0, wv), (1, .agg #[.int .i64 (-1), .int .i64 (-1), .int .i64 0])]) (ls := [(0, [wv]), (1, [.int .i64 (-1), .int .i64 (-1), .int .i64 0])]) rfl (by show [(0, wv.cells.toList), (1, _)] = _; rw [owv]; rfl) rfl ?_
  refine st_buildSlice1 tREnt (x1 := ⟨wv, -1, -1, 0⟩) rfl rfl rfl (Nat.le_of_ble_eq_true rfl) (Nat.zero_lt_succ _) hw ?_
  clear hw
  intro sl w hw
  have hone : ∀ v ∈ tREnt.enc ⟨wv, -1, -1, 0⟩, v.oneCell' = true := by
    intro v hv
    simp only [tREnt, List.mem_cons, List.not_mem_nil, or_false] at hv
    rcases hv with rfl | rfl | rfl | rfl
    · exact owv2
    · rfl
    · rfl
    · rfl
  refine st_append (s := ev) (s2 := sl) inferInstance rfl rfl (rsO hw) rfl rfl (fun x hx v hv => by rw [List.mem_singleton.1 hx] at hv; exact hone v hv) (by simp only [List.length_cons, List.length_nil]; omega) (by unfold big; simp only [List.length_cons, List.length_nil]; omega) hw ?_
  clear hw
  intro ev2 w hw
  have oev := (rsO (s := ev2) hw).one
  repeat (first | refine go_run ?_ | (refine go_newP ?_; clear hw; intro p w hw) | (refine go_newWr ?_; clear hw; intro w hw) | (refine go_newS ?_; clear hw; intro s w hw))
  have hw1 : Sat w0 w (OS tU64 198 wv ws :: RdH (EntF es wsl) :: Box pr 157 [.pointer (some pk), ev2, mv] :: RdH (fun w => RPk w pk F W) :: OS tREnt 171 ev2 (es ++ [⟨wv, -1, -1, 0⟩]) :: MapO kInt mv kv :: RowsAt tInt 3 (kv.map (·.2)) bs :: Γ) := by
    have g1 : Sat w0 w (OS tREnt 171 sl [⟨wv, -1, -1, 0⟩] :: OS tU64 198 wv ws :: Box pr 157 [.pointer (some pk), ev2, mv] :: RdH (fun w => RPk w pk F W) :: OS tREnt 171 ev2 (es ++ [⟨wv, -1, -1, 0⟩]) :: RdH (EntF es wsl) :: MapO kInt mv kv :: RowsAt tInt 3 (kv.map (·.2)) bs :: Γ) := hw
    exact g1.selG
  have hw2 := Sat.rd (Δ := [OS tU64 198 wv ws, RdH (EntF es wsl)]) (φ := EntF (es ++ [⟨wv, -1, -1, 0⟩]) (wsl ++ [ws])) (fun _ w h => (h.rdE 1 rfl).snoc (by omega) (h.rs 0 rfl)) hw1
  clear hw hw1
  have hw := hw2
  clear hw2
  refine vc_plan [.op 0, .op 1, .op 2, .op 3, .op 4, .op 5, .op 6, .op 7, .op 8, .op 9, .op 10, .op 11, .op 12, .chk 3, .chk 8, .chk 10, .op 13, .chk 3, .op 14] hw (by kernel_rfl) ?_; clear hw; intro w hw
  repeat (first | refine go_run ?_ | (refine go_newP ?_; clear hw; intro p w hw) | (refine go_newWr ?_; clear hw; intro w hw) | (refine go_newS ?_; clear hw; intro s w hw))
  refine step_read rfl (rv_lookup (m := mv) (κ := kInt) (q := hshL ws) rfl rfl hw inferInstance) ?_
  cases hf : mfind (hshL ws) kv 0 with
  | none =>
    have hmg : (mget kv (hshL ws)).getD (.slice none 0 0) = .slice none 0 0 := by unfold mget; rw [hf]; rfl
    have hx : hshL ws ∉ kv.map (·.1) := mfind_none.1 hf
    have hmp : ∀ v, mput kv (hshL ws) v = kv ++ [(hshL ws, v)] := fun v => by unfold mput; rw [hf]
    rw [hmg]
    refine ops_nil ?_
    refine opsD_op ?_
    refine go_pure ?_
    refine ops_nil ?_
    refine opsD_op ?_
    refine st_buildSlice1 tInt (x1 := (es.length : Int)) rfl rfl rfl (Nat.le_of_ble_eq_true rfl) (Nat.zero_lt_succ _) hw ?_
    clear hw
    intro so w hw
    refine ops_nil ?_
    refine go_chk ?_
    refine go_chk ?_
    refine opsD_chk rfl (rv_lookup (m := mv) (κ := kInt) (q := hshL ws) rfl rfl hw inferInstance) hmg.symm ?_
    refine opsD_op ?_
    replace hw := hw.nil (T := tInt) (e := 3)
    refine st_append (s := .slice none 0 0) (s2 := so) (T := tInt) (xs := []) inferInstance rfl rfl (rsO hw) rfl rfl (fun x hx v hv => by rw [List.mem_singleton.1 hv]; rfl) (by simp only [List.length_cons, List.length_nil]; omega) (by unfold big; simp only [List.length_cons, List.length_nil]; omega) hw ?_
    clear hw
    intro bv2 w hw
    refine ops_nil ?_
    refine go_chk ?_
    refine opsD_op ?_
    refine st_mapUpdate (m := mv) (κ := kInt) (q := hshL ws) (v := bv2) rfl rfl rfl hw inferInstance ?_
    clear hw
    intro w hw
    refine ops_nil ?_
    refine opsD_nil ?_
    rw [hmp] at hw
    repeat (first | refine go_run ?_ | (refine go_newP ?_; clear hw; intro p w hw) | (refine go_newWr ?_; clear hw; intro w hw) | (refine go_newS ?_; clear hw; intro s w hw))
    have hw1 : Sat w0 w (OS tInt 3 bv2 [(wsl.length : Int)] :: RowsAt tInt 3 (kv.map (·.2)) bs :: Box pr 157 [.pointer (some pk), ev2, mv] :: RdH (fun w => RPk w pk F W) :: OS tREnt 171 ev2 (es ++ [⟨wv, -1, -1, 0⟩]) :: RdH (EntF (es ++ [⟨wv, -1, -1, 0⟩]) (wsl ++ [ws])) :: MapO kInt mv (kv ++ [(hshL ws, bv2)]) :: Γ) := by
      have g1 : Sat w0 w (OS tInt 3 bv2 [(es.length : Int)] :: OS tInt 3 so [(es.length : Int)] :: RdH (EntF (es ++ [⟨wv, -1, -1, 0⟩]) (wsl ++ [ws])) :: Box pr 157 [.pointer (some pk), ev2, mv] :: RdH (fun w => RPk w pk F W) :: OS tREnt 171 ev2 (es ++ [⟨wv, -1, -1, 0⟩]) :: MapO kInt mv (kv ++ [(hshL ws, bv2)]) :: RowsAt tInt 3 (kv.map (·.2)) bs :: Γ) := hw
      rw [hel, ← hwl] at g1
      exact g1.selG
    have hw2 := hw1.rowPush
    have hm2 : kv.map (·.2) ++ [bv2] = (kv ++ [(hshL ws, bv2)]).map (·.2) := by rw [List.map_append]; rfl
    rw [hm2] at hw2
    have hw3 : Sat w0 w (Box pr 157 [.pointer (some pk), ev2, mv] :: RdH (fun w => RPk w pk F W) :: OS tREnt 171 ev2 (es ++ [⟨wv, -1, -1, 0⟩]) :: RdH (EntF (es ++ [⟨wv, -1, -1, 0⟩]) (wsl ++ [ws])) :: MapO kInt mv (kv ++ [(hshL ws, bv2)]) :: RowsAt tInt 3 ((kv ++ [(hshL ws, bv2)]).map (·.2)) (bs ++ [[(wsl.length : Int)]]) :: Γ) := hw2.selG
    exact res_three (v1 := .int .i64 (es.length : Int)) (v2 := .bool true) (v3 := .nilIface) rfl rfl rfl rfl (.inr ⟨hm, by rw [hel], Sat.regClose (hI.addB hok hp hx wv bv2) hP hw3⟩)
  | some q =>
    obtain ⟨j, v⟩ := q
    obtain ⟨_, hj⟩ := mfind_some hf
    rw [Nat.sub_zero] at hj
    have hjl : j < kv.length := (List.getElem?_eq_some_iff.1 hj).1
    have hbl := hI.bl
    have hmg : (mget kv (hshL ws)).getD (.slice none 0 0) = v := by unfold mget; rw [hf]; rfl
    have hmp : ∀ u, mput kv (hshL ws) u = kv.set j (hshL ws, u) := fun u => by unfold mput; rw [hf]
    have hvj : vget (kv.map (·.2)) j = v := by rw [vget_eq]; simp [List.getD, hj]
    have hrow := hI.bk j _ v hj
    have hrl := hids_len wsl (hshL ws)
    rw [← hrow] at hrl
    rw [hmg]
    refine ops_nil ?_
    refine opsD_op ?_
    refine go_pure ?_
    refine ops_nil ?_
    refine opsD_op ?_
    refine st_buildSlice1 tInt (x1 := (es.length : Int)) rfl rfl rfl (Nat.le_of_ble_eq_true rfl) (Nat.zero_lt_succ _) hw ?_
    clear hw
    intro so w hw
    refine ops_nil ?_
    refine go_chk ?_
    refine go_chk ?_
    refine opsD_chk rfl (rv_lookup (m := mv) (κ := kInt) (q := hshL ws) rfl rfl hw inferInstance) hmg.symm ?_
    refine opsD_op ?_
    have hjb : j < bs.length := by omega
    have hso := rsO (s := so) hw
    have gr : Sat w0 w (RowsAt tInt 3 (kv.map (·.2)) bs :: OS tInt 3 so [(es.length : Int)] :: RdH (EntF (es ++ [⟨wv, -1, -1, 0⟩]) (wsl ++ [ws])) :: Box pr 157 [.pointer (some pk), ev2, mv] :: RdH (fun w => RPk w pk F W) :: OS tREnt 171 ev2 (es ++ [⟨wv, -1, -1, 0⟩]) :: MapO kInt mv kv :: Γ) := hw.focus 6 rfl
    have g0 := gr.rowOut hjb
    rw [hvj] at g0
    refine st_append (s := v) (s2 := so) (T := tInt) (xs := bs.getD j []) inferInstance rfl rfl hso rfl rfl (fun x hx v hv => by rw [List.mem_singleton.1 hv]; rfl) (by simp only [List.length_cons, List.length_nil]; omega) (by unfold big; simp only [List.length_cons, List.length_nil]; omega) g0 ?_
    clear hw g0 gr hso
    intro bv2 w hw
    replace hw := Sat.rowIn hjb (by rw [List.length_map]; omega) hw
    have hw1 : Sat w0 w (OS tInt 3 so [(es.length : Int)] :: RdH (EntF (es ++ [⟨wv, -1, -1, 0⟩]) (wsl ++ [ws])) :: Box pr 157 [.pointer (some pk), ev2, mv] :: RdH (fun w => RPk w pk F W) :: OS tREnt 171 ev2 (es ++ [⟨wv, -1, -1, 0⟩]) :: MapO kInt mv kv :: RowsAt tInt 3 ((kv.map (·.2)).set j bv2) (bs.set j (bs.getD j [] ++ [(es.length : Int)])) :: Γ) := by
      have g1 : Sat w0 w (RowsAt tInt 3 ((kv.map (·.2)).set j bv2) (bs.set j (bs.getD j [] ++ [(es.length : Int)])) :: OS tInt 3 so [(es.length : Int)] :: RdH (EntF (es ++ [⟨wv, -1, -1, 0⟩]) (wsl ++ [ws])) :: Box pr 157 [.pointer (some pk), ev2, mv] :: RdH (fun w => RPk w pk F W) :: OS tREnt 171 ev2 (es ++ [⟨wv, -1, -1, 0⟩]) :: MapO kInt mv kv :: Γ) := hw
      exact g1.selG
    clear hw
    have hw := hw1
    clear hw1
    refine ops_nil ?_
    refine go_chk ?_
    refine opsD_op ?_
    refine st_mapUpdate (m := mv) (κ := kInt) (q := hshL ws) (v := bv2) rfl rfl rfl hw inferInstance ?_
    clear hw
    intro w hw
    refine ops_nil ?_
    refine opsD_nil ?_
    rw [hmp] at hw
    repeat (first | refine go_run ?_ | (refine go_newP ?_; clear hw; intro p w hw) | (refine go_newWr ?_; clear hw; intro w hw) | (refine go_newS ?_; clear hw; intro s w hw))
    have hm2 : (kv.map (·.2)).set j bv2 = (kv.set j (hshL ws, bv2)).map (·.2) := by rw [List.map_set]
    have g1 : Sat w0 w (OS tInt 3 so [(es.length : Int)] :: RdH (EntF (es ++ [⟨wv, -1, -1, 0⟩]) (wsl ++ [ws])) :: Box pr 157 [.pointer (some pk), ev2, mv] :: RdH (fun w => RPk w pk F W) :: OS tREnt 171 ev2 (es ++ [⟨wv, -1, -1, 0⟩]) :: MapO kInt mv (kv.set j (hshL ws, bv2)) :: RowsAt tInt 3 ((kv.map (·.2)).set j bv2) (bs.set j (bs.getD j [] ++ [(es.length : Int)])) :: Γ) := hw
    rw [hm2, hel, ← hwl] at g1
    have hw3 : Sat w0 w (Box pr 157 [.pointer (some pk), ev2, mv] :: RdH (fun w => RPk w pk F W) :: OS tREnt 171 ev2 (es ++ [⟨wv, -1, -1, 0⟩]) :: RdH (EntF (es ++ [⟨wv, -1, -1, 0⟩]) (wsl ++ [ws])) :: MapO kInt mv (kv.set j (hshL ws, bv2)) :: RowsAt tInt 3 ((kv.set j (hshL ws, bv2)).map (·.2)) (bs.set j (bs.getD j [] ++ [(wsl.length : Int)])) :: Γ) := g1.selG
    exact res_three (v1 := .int .i64 (es.length : Int)) (v2 := .bool true) (v3 := .nilIface) rfl rfl rfl rfl (.inr ⟨hm, by rw [hel], Sat.regClose (hI.addA hok hp hj wv bv2) hP hw3⟩)
end Go.Proofs.YtegndanecnicaaaGreat

/-
  Contracts of 'registry.State', 'SetLink' and 'Path'.
-/
namespace Go.Proofs.YtegndanecnicaaaGreat
open Go.Sl Go
attribute [local irreducible] vc opsW opsD opV opW PureV ReadV Thn Blk
set_option maxRecDepth 8000 in
set_option maxHeartbeats 4000000 in
theorem rgState_spec {w0 w : World} {Γ : List HP} {pr : Addr} {vars : List Int} {st : List (List Int)} {lk : List Lnk} {i : Nat} (hvl : vars.length ≤ 64) (hi : i < st.length) (hn : st.length ≤ 65536) (hw : Sat w0 w (RegH pr vars st lk :: Γ)) :
    Calls Tryz.prog 65 #[.pointer (some pr), .int .i64 (i : Int)] w fun e w' => ∃ sv, e = .returned (.tuple #[sv, .nilIface]) ∧ Sat w0 w' (OS tInt 3 sv (st.getD i []) :: RegH pr vars st lk :: Γ) := by
  obtain ⟨pk, F, W, ev, mv, es, wsl, kv, bs, hI, hP, hw⟩ := Sat.regOpen hw
  have hel := hI.el
  have hwl := hI.wl
  refine calls_of_vc (args := [.pointer (some pr), .int .i64 (i : Int)]) mixed Tryz.func65 rfl (by kernel_rfl) (Nat.le_of_ble_eq_true rfl) ?_
  have hd : decide (0 ≤ (i : Int) ∧ (i : Int) < (es.length : Int)) = true := decide_eq_true (by omega)
  repeat (first | refine go_run ?_ | (refine go_newP ?_; clear hw; intro p w hw) | (refine go_newWr ?_; clear hw; intro w hw) | (refine go_newS ?_; clear hw; intro s w hw))
  refine st_call rfl (rgHas_spec (boxRO (p := pr) hw) (rsO (s := ev) hw)) ?_
  rintro _ w' ⟨rfl, hk'⟩
  replace hw := hw.call0 hk'
  clear hk'
  refine ⟨_, rfl, ?_⟩
  rw [hd]
  repeat (first | refine go_run ?_ | (refine go_newP ?_; clear hw; intro p w hw) | (refine go_newWr ?_; clear hw; intro w hw) | (refine go_newS ?_; clear hw; intro s w hw))
  refine vc_plan [.op 0, .op 1, .op 2, .op 3, .op 4, .op 5, .op 6, .op 7, .op 8, .op 9, .op 10, .op 11, .op 12, .op 13, .op 14, .op 15, .op 16] hw (by kernel_rfl) ?_; clear hw; intro w hw
  repeat (first | refine go_run ?_ | (refine go_newP ?_; clear hw; intro p w hw) | (refine go_newWr ?_; clear hw; intro w hw) | (refine go_newS ?_; clear hw; intro s w hw))
  have hEw : RS tU64 w (eget tREnt es i).words (wsl.getD i []) := (hw.rdE 3 rfl) i (by omega)
  refine st_call rfl (Unpack_spec (hw.rdE 1 rfl) hP hvl hEw (hI.pk i hi) (hI.ok i hi)) ?_
  rintro _ w' ⟨sv, rfl, hk'⟩
  replace hw := hw.call1 hk'
  clear hk'
  refine ⟨_, rfl, ?_⟩
  repeat (first | refine go_run ?_ | (refine go_newP ?_; clear hw; intro p w hw) | (refine go_newWr ?_; clear hw; intro w hw) | (refine go_newS ?_; clear hw; intro s w hw))
  have hw2 : Sat w0 w' (Box pr 157 [.pointer (some pk), ev, mv] :: RdH (fun w => RPk w pk F W) :: OS tREnt 171 ev es :: RdH (EntF es wsl) :: MapO kInt mv kv :: RowsAt tInt 3 (kv.map (·.2)) bs :: OS tInt 3 sv (st.getD i []) :: Γ) := hw.selG
  exact res_two (v := sv) (v' := .nilIface) rfl rfl rfl ⟨sv, rfl, (Sat.regClose hI hP hw2).swap⟩
theorem EntF.setl {es : List REnt} {wsl : List (List Nat)} {i : Nat} {a b c : Int} {w : World} (h : EntF es wsl w) : EntF (es.set i ⟨(eget tREnt es i).words, a, b, c⟩) wsl w := fun j hj => by
  by_cases e : j = i
  · subst e
    by_cases hl : j < es.length
    · rw [eget_eq, set_at hl, if_pos rfl]; exact h j hj
    · rw [List.set_eq_of_length_le (Nat.le_of_not_lt hl)]; exact h j hj
  · rw [eget_eq]
    have : (es.set i ⟨(eget tREnt es i).words, a, b, c⟩).getD j tREnt.dflt = es.getD j tREnt.dflt := by simp only [List.getD]; rw [List.getElem?_set_ne (Ne.symm e)]
    rw [this, ← eget_eq]; exact h j hj
set_option maxRecDepth 8000 in
set_option maxHeartbeats 4000000 in
theorem rgSetLink_spec {w0 w : World} {Γ : List HP} {pr : Addr} {vars : List Int} {st : List (List Int)} {lk : List Lnk} {i : Nat} {par op cost : Int} (hi : i < st.length) (hn : st.length ≤ 65536) (hp : par = -1 ∨ (0 ≤ par ∧ par < st.length)) (hw : Sat w0 w (RegH pr vars st lk :: Γ)) :
    Calls Tryz.prog 82 #[.pointer (some pr), .int .i64 (i : Int), .int .i64 par, .int .i64 op, .int .i64 cost] w fun e w' => e = .returned .nilIface ∧ Sat w0 w' (RegH pr vars st (lk.set i ⟨par, op, cost⟩) :: Γ) := by
  obtain ⟨pk, F, W, ev, mv, es, wsl, kv, bs, hI, hP, hw⟩ := Sat.regOpen hw
  have hel := hI.el
  have hwl := hI.wl
  refine calls_of_vc (args := [.pointer (some pr), .int .i64 (i : Int), .int .i64 par, .int .i64 op, .int .i64 cost]) mixed Tryz.func82 rfl (by kernel_rfl) (Nat.le_of_ble_eq_true rfl) ?_
  have hd : decide (0 ≤ (i : Int) ∧ (i : Int) < (es.length : Int)) = true := decide_eq_true (by omega)
  repeat (first | refine go_run ?_ | (refine go_newP ?_; clear hw; intro p w hw) | (refine go_newWr ?_; clear hw; intro w hw) | (refine go_newS ?_; clear hw; intro s w hw))
  refine st_call rfl (rgHas_spec (boxRO (p := pr) hw) (rsO (s := ev) hw)) ?_
  rintro _ w' ⟨rfl, hk'⟩
  replace hw := hw.call0 hk'
  clear hk'
  refine ⟨_, rfl, ?_⟩
  rw [hd]
  by_cases hp1 : par = -1
  · have hd1 : decide (par = -1) = true := decide_eq_true hp1
    repeat (first | refine go_run ?_ | (refine go_newP ?_; clear hw; intro p w hw) | (refine go_newWr ?_; clear hw; intro w hw) | (refine go_newS ?_; clear hw; intro s w hw))
    simp only [hd1, beq_self_eq_true, beq_tfI, beq_ftI, Bool.false_and, Bool.true_and, Bool.false_or, Bool.true_or, Bool.not_true, Bool.not_false, Bool.cond_true, Bool.cond_false, gv_fI, gv_tI]
    repeat (first | refine go_run ?_ | (refine go_newP ?_; clear hw; intro p w hw) | (refine go_newWr ?_; clear hw; intro w hw) | (refine go_newS ?_; clear hw; intro s w hw))
    refine st_elemSub (T := tREnt) (s := ev) (j := i) (k := 1) (vs := [.int .i64 par, .int .i64 op, .int .i64 cost]) (x' := ⟨(eget tREnt es i).words, par, op, cost⟩) rfl rfl rfl rfl hw inferInstance (by omega) (Nat.le_refl 4) (by rw [eget_eq]; rfl) ?_
    clear hw
    intro w hw
    repeat (first | refine go_run ?_ | (refine go_newP ?_; clear hw; intro p w hw) | (refine go_newWr ?_; clear hw; intro w hw) | (refine go_newS ?_; clear hw; intro s w hw))
    have hw2 : Sat w0 w (RdH (EntF es wsl) :: Box pr 157 [.pointer (some pk), ev, mv] :: RdH (fun w => RPk w pk F W) :: OS tREnt 171 ev (es.set i ⟨(eget tREnt es i).words, par, op, cost⟩) :: MapO kInt mv kv :: RowsAt tInt 3 (kv.map (·.2)) bs :: Γ) := hw.selG
    have hw3 := Sat.rd (Δ := [RdH (EntF es wsl)]) (φ := EntF (es.set i ⟨(eget tREnt es i).words, par, op, cost⟩) wsl) (fun _ w h => EntF.setl (h.rdE 0 rfl)) hw2
    have hw4 : Sat w0 w (Box pr 157 [.pointer (some pk), ev, mv] :: RdH (fun w => RPk w pk F W) :: OS tREnt 171 ev (es.set i ⟨(eget tREnt es i).words, par, op, cost⟩) :: RdH (EntF (es.set i ⟨(eget tREnt es i).words, par, op, cost⟩) wsl) :: MapO kInt mv kv :: RowsAt tInt 3 (kv.map (·.2)) bs :: Γ) := hw3.selG
    exact res_one (v := .nilIface) rfl rfl ⟨rfl, Sat.regClose (hI.setl hi ⟨par, op, cost⟩) hP hw4⟩
  · have hd1 : decide (par = -1) = false := decide_eq_false hp1
    have hd2 : decide (0 ≤ par ∧ par < (es.length : Int)) = true := decide_eq_true (by omega)
    repeat (first | refine go_run ?_ | (refine go_newP ?_; clear hw; intro p w hw) | (refine go_newWr ?_; clear hw; intro w hw) | (refine go_newS ?_; clear hw; intro s w hw))
    simp only [hd1, beq_self_eq_true, beq_tfI, beq_ftI, Bool.false_and, Bool.true_and, Bool.false_or, Bool.true_or, Bool.not_true, Bool.not_false, Bool.cond_true, Bool.cond_false, gv_fI, gv_tI]
    repeat (first | refine go_run ?_ | (refine go_newP ?_; clear hw; intro p w hw) | (refine go_newWr ?_; clear hw; intro w hw) | (refine go_newS ?_; clear hw; intro s w hw))
    refine st_call rfl (rgHas_spec (boxRO (p := pr) hw) (rsO (s := ev) hw)) ?_
    rintro _ w' ⟨rfl, hk'⟩
    replace hw := hw.call0 hk'
    clear hk'
    refine ⟨_, rfl, ?_⟩
    rw [hd2]
    repeat (first | refine go_run ?_ | (refine go_newP ?_; clear hw; intro p w hw) | (refine go_newWr ?_; clear hw; intro w hw) | (refine go_newS ?_; clear hw; intro s w hw))
    refine st_elemSub (T := tREnt) (s := ev) (j := i) (k := 1) (vs := [.int .i64 par, .int .i64 op, .int .i64 cost]) (x' := ⟨(eget tREnt es i).words, par, op, cost⟩) rfl rfl rfl rfl hw inferInstance (by omega) (Nat.le_refl 4) (by rw [eget_eq]; rfl) ?_
    clear hw
    intro w hw
    repeat (first | refine go_run ?_ | (refine go_newP ?_; clear hw; intro p w hw) | (refine go_newWr ?_; clear hw; intro w hw) | (refine go_newS ?_; clear hw; intro s w hw))
    have hw2 : Sat w0 w (RdH (EntF es wsl) :: Box pr 157 [.pointer (some pk), ev, mv] :: RdH (fun w => RPk w pk F W) :: OS tREnt 171 ev (es.set i ⟨(eget tREnt es i).words, par, op, cost⟩) :: MapO kInt mv kv :: RowsAt tInt 3 (kv.map (·.2)) bs :: Γ) := hw.selG
    have hw3 := Sat.rd (Δ := [RdH (EntF es wsl)]) (φ := EntF (es.set i ⟨(eget tREnt es i).words, par, op, cost⟩) wsl) (fun _ w h => EntF.setl (h.rdE 0 rfl)) hw2
    have hw4 : Sat w0 w (Box pr 157 [.pointer (some pk), ev, mv] :: RdH (fun w => RPk w pk F W) :: OS tREnt 171 ev (es.set i ⟨(eget tREnt es i).words, par, op, cost⟩) :: RdH (EntF (es.set i ⟨(eget tREnt es i).words, par, op, cost⟩) wsl) :: MapO kInt mv kv :: RowsAt tInt 3 (kv.map (·.2)) bs :: Γ) := hw3.selG
    exact res_one (v := .nilIface) rfl rfl ⟨rfl, Sat.regClose (hI.setl hi ⟨par, op, cost⟩) hP hw4⟩
end Go.Proofs.YtegndanecnicaaaGreat

/-
  Contracts of 'task.States', 'task.counted', 'task.Rank'.
-/
namespace Go.Proofs.YtegndanecnicaaaGreat
open Go.Sl Go
attribute [local irreducible] vc opsW opsD opV opW PureV ReadV Thn Blk

def capI (x : Int) : Int := if 65537 < x then 65537 else x
theorem capI_step {P k : Int} (hP : 1 ≤ P) (hk : 1 ≤ k) (hk2 : k ≤ 64) : 0 ≤ capI P * k ∧ capI P * k ≤ 4194368 ∧ capI (capI P * k) = capI (P * k) := by
  unfold capI
  split
  · rename_i h
    have h1 : 65537 * k ≤ P * k := Int.mul_le_mul_of_nonneg_right (by omega) (by omega)
    refine ⟨by omega, by omega, ?_⟩
    by_cases e : k = 1
    · subst e; rw [if_neg (by omega), if_pos (by omega)]; rfl
    · rw [if_pos (by omega), if_pos (by omega)]
  · rename_i h
    have h1 : P * k ≤ 65537 * 64 := Int.mul_le_mul (by omega) hk2 (by omega) (by omega)
    have h2 : 0 ≤ P * k := Int.mul_nonneg (by omega) (by omega)
    exact ⟨h2, by omega, rfl⟩
noncomputable def nStates (t : TTask) : Int := if checkT t = 0 then capI (prodL t.vars) else 0

set_option maxRecDepth 8000 in
theorem tStates_spec {w0 : World} {a b c d : Value} {vs : List OpV} {t : TTask} (ht : RTask w0 a b c d vs t) :
    Calls Tryz.prog 47 #[.agg #[a, b, c, d]] w0 fun e w' => e = .returned (.int .i64 (nStates t)) ∧ Sat w0 w' [] := by
  have ht' := ht
  obtain ⟨ha, hb, hc, hd⟩ := ht
  have hla := ha.big
  have hw := Sat.start w0
  refine calls_of_vc (args := [.agg #[a, b, c, d]]) mixed Tryz.func47 rfl (by kernel_rfl) (Nat.le_of_ble_eq_true rfl) ?_
  repeat (first | refine go_run ?_ | (refine go_newP ?_; clear hw; intro p w hw) | (refine go_newW ?_; clear hw; intro w hw) | (refine go_newS ?_; clear hw; intro s w hw))
  obtain ⟨pt, hpt⟩ : ∃ pt, pt = p := ⟨p, rfl⟩
  subst hpt
  refine st_call rfl (Check_spec (ht'.at hw)) ?_
  rintro _ w' ⟨rfl, hk'⟩
  replace hw := hw.call0 hk'
  clear hk'
  refine ⟨_, rfl, ?_⟩
  by_cases hk : checkT t = 0
  · rw [errV_zero hk]
    have hg := (good_iff t).1 hk
    repeat (first | refine go_run ?_ | (refine go_newP ?_; clear hw; intro p w hw) | (refine go_newW ?_; clear hw; intro w hw) | (refine go_newS ?_; clear hw; intro s w hw))
    refine vc_loop2 [3, 5, 12, 13, 14, 15, 16, 17, 18, 19, 20] (G := Nat) (H := Int) (fun k n => [(12, .int .i64 k), (3, .int .i64 n)]) (fun k n w => k ≤ t.vars.length ∧ n = capI (prodL (t.vars.take k)) ∧ Sat w0 w [Box pt 26 [a, b, c, d]]) (fun k _ => t.vars.length - k) 0 1 (fun _ _ => rfl) ⟨rfl, rfl, trivial⟩ ⟨Nat.zero_le _, rfl, hw⟩ ?_
    clear hw
    rintro σ k n w ⟨hkl, hn, hw⟩
    repeat (first | refine go_run ?_ | (refine go_newP ?_; clear hw; intro p w hw) | (refine go_newW ?_; clear hw; intro w hw) | (refine go_newS ?_; clear hw; intro s w hw))
    refine go_if (fun h1 => ?_) (fun h1 => ?_)
    · have hk2 : k < t.vars.length := by omega
      have hd := hg.dom k hk2
      have hs := capI_step (P := prodL (t.vars.take k)) (prodL_pos fun x hx => hg.pos x (List.mem_of_mem_take hx)) hd.1 hd.2
      rw [← hn] at hs
      obtain ⟨b0, b1, b2⟩ := hs
      repeat (first | refine go_run ?_ | (refine go_newP ?_; clear hw; intro p w hw) | (refine go_newW ?_; clear hw; intro w hw) | (refine go_newS ?_; clear hw; intro s w hw))
      refine ⟨k + 1, _, ⟨rfl, rfl, trivial⟩, by repeat (first | exact agree_refl | (apply agree_upd rfl) | (apply agree_mix rfl) | (apply agree_sets rfl)), ⟨by omega, ?_, hw⟩, by omega⟩
      rw [take_snoc tInt.dflt hk2, prodL_snoc, ← b2]; rfl
    · repeat (first | refine go_run ?_ | (refine go_newP ?_; clear hw; intro p w hw) | (refine go_newW ?_; clear hw; intro w hw) | (refine go_newS ?_; clear hw; intro s w hw))
      refine res_one (v := .int .i64 n) rfl rfl ⟨?_, hw.tail⟩
      rw [List.take_of_length_le (by omega)] at hn
      rw [hn, nStates, if_pos hk]
  · rw [errV_some hk]
    repeat (first | refine go_run ?_ | (refine go_newP ?_; clear hw; intro p w hw) | (refine go_newW ?_; clear hw; intro w hw) | (refine go_newS ?_; clear hw; intro s w hw))
    exact res_one (v := .int .i64 0) rfl rfl ⟨by rw [nStates, if_neg hk], hw.tail⟩

/-- The error of a function that counts the states. -/
noncomputable def cErr (t : TTask) : Int := if checkT t ≠ 0 then checkT t else if 65536 < prodL t.vars then 5 else 0
set_option maxRecDepth 8000 in
theorem counted_spec {w0 : World} {a b c d : Value} {vs : List OpV} {t : TTask} (ht : RTask w0 a b c d vs t) :
    Calls Tryz.prog 160 #[.agg #[a, b, c, d]] w0 fun e w' => e = .returned (.tuple #[.int .i64 (if cErr t = 0 then prodL t.vars else 0), errV (cErr t)]) ∧ Sat w0 w' [] := by
  have hw := Sat.start w0
  refine calls_of_vc (args := [.agg #[a, b, c, d]]) mixed Tryz.func160 rfl (by kernel_rfl) (Nat.le_of_ble_eq_true rfl) ?_
  repeat (first | refine go_run ?_ | (refine go_newP ?_; clear hw; intro p w hw) | (refine go_newW ?_; clear hw; intro w hw) | (refine go_newS ?_; clear hw; intro s w hw))
  refine st_call rfl (Check_spec (ht.at hw)) ?_
  rintro _ w' ⟨rfl, hk'⟩
  replace hw := hw.call0 hk'
  clear hk'
  refine ⟨_, rfl, ?_⟩
  by_cases hk : checkT t = 0
  · rw [errV_zero hk]
    repeat (first | refine go_run ?_ | (refine go_newP ?_; clear hw; intro p w hw) | (refine go_newW ?_; clear hw; intro w hw) | (refine go_newS ?_; clear hw; intro s w hw))
    refine st_call rfl (tStates_spec (ht.at hw)) ?_
    rintro _ w' ⟨rfl, hk'⟩
    replace hw := hw.call0 hk'
    clear hk'
    refine ⟨_, rfl, ?_⟩
    rw [nStates, if_pos hk]
    by_cases hB : prodL t.vars ≤ 65536
    · have he : cErr t = 0 := by rw [cErr, if_neg (by simp [hk]), if_neg (by omega)]
      rw [show capI (prodL t.vars) = prodL t.vars by rw [capI, if_neg (by omega)]]
      repeat (first | refine go_run ?_ | (refine go_newP ?_; clear hw; intro p w hw) | (refine go_newW ?_; clear hw; intro w hw) | (refine go_newS ?_; clear hw; intro s w hw))
      refine go_if (fun h1 => ?_) (fun h1 => ?_)
      · omega
      · repeat (first | refine go_run ?_ | (refine go_newP ?_; clear hw; intro p w hw) | (refine go_newW ?_; clear hw; intro w hw) | (refine go_newS ?_; clear hw; intro s w hw))
        rw [he, if_pos rfl]
        exact res_two (v := .int .i64 (prodL t.vars)) (v' := errV 0) rfl rfl (by rw [errV_zero rfl]; rfl) ⟨rfl, hw.tail⟩
    · have he : cErr t = 5 := by rw [cErr, if_neg (by simp [hk]), if_pos (by omega)]
      have h65 : capI (prodL t.vars) = 65537 := by rw [capI]; split <;> omega
      rw [h65]
      repeat (first | refine go_run ?_ | (refine go_newP ?_; clear hw; intro p w hw) | (refine go_newW ?_; clear hw; intro w hw) | (refine go_newS ?_; clear hw; intro s w hw))
      rw [he, if_neg (by decide)]
      exact res_two (v := .int .i64 0) (v' := errV 5) rfl rfl (by rw [errV_some (by decide)]; rfl) ⟨rfl, hw.tail⟩
  · rw [errV_some hk]
    have he : cErr t = checkT t := by rw [cErr, if_pos hk]
    repeat (first | refine go_run ?_ | (refine go_newP ?_; clear hw; intro p w hw) | (refine go_newW ?_; clear hw; intro w hw) | (refine go_newS ?_; clear hw; intro s w hw))
    rw [he, if_neg hk]
    exact res_two (v := .int .i64 0) (v' := errV (checkT t)) rfl rfl (by rw [errV_some hk]; rfl) ⟨rfl, hw.tail⟩

noncomputable def rkErr (t : TTask) (s : List Int) : Int := if cErr t ≠ 0 then cErr t else @ite _ (StateOk t.vars s) (Classical.propDecidable _) 0 2
set_option maxRecDepth 8000 in
theorem tRank_spec {w0 : World} {a b c d sv : Value} {vs : List OpV} {t : TTask} {s : List Int} (ht : RTask w0 a b c d vs t) (hs : RS tInt w0 sv s) :
    Calls Tryz.prog 159 #[.agg #[a, b, c, d], sv] w0 fun e w' => e = .returned (.tuple #[.int .i64 (if rkErr t s = 0 then rankL t.vars s else 0), errV (rkErr t s)]) ∧ Sat w0 w' [] := by
  have ht' := ht
  obtain ⟨ha, hb, hc, hd⟩ := ht
  have hla := ha.big
  have hls := hs.big
  have hw := Sat.start w0
  refine calls_of_vc (args := [.agg #[a, b, c, d], sv]) mixed Tryz.func159 rfl (by kernel_rfl) (Nat.le_of_ble_eq_true rfl) ?_
  repeat (first | refine go_run ?_ | (refine go_newP ?_; clear hw; intro p w hw) | (refine go_newW ?_; clear hw; intro w hw) | (refine go_newS ?_; clear hw; intro s w hw))
  obtain ⟨pt, hpt⟩ : ∃ pt, pt = p := ⟨p, rfl⟩
  subst hpt
  refine st_call rfl (counted_spec (ht'.at hw)) ?_
  rintro _ w' ⟨rfl, hk'⟩
  replace hw := hw.call0 hk'
  clear hk'
  refine ⟨_, rfl, ?_⟩
  by_cases hk : cErr t = 0
  · rw [errV_zero hk, if_pos hk]
    have hch : checkT t = 0 := by
      unfold cErr at hk
      split at hk
      · exact hk
      · rename_i h; simpa using h
    have hB : prodL t.vars ≤ 65536 := by
      rw [cErr, if_neg (by simp [hch])] at hk
      split at hk
      · cases hk
      · omega
    have hg := (good_iff t).1 hch
    repeat (first | refine go_run ?_ | (refine go_newP ?_; clear hw; intro p w hw) | (refine go_newW ?_; clear hw; intro w hw) | (refine go_newS ?_; clear hw; intro s w hw))
    refine st_call rfl (tProper_spec (ha.at hw) (hs.at hw)) ?_
    rintro _ w' ⟨⟨r, rfl, hr⟩, hk'⟩
    replace hw := hw.call0 hk'
    clear hk'
    refine ⟨_, rfl, ?_⟩
    cases r with
    | false =>
      have hno : ¬ StateOk t.vars s := fun h => by have := hr.2 h; cases this
      have he : rkErr t s = 2 := by rw [rkErr, if_neg (by simp [hk]), if_neg hno]
      repeat (first | refine go_run ?_ | (refine go_newP ?_; clear hw; intro p w hw) | (refine go_newW ?_; clear hw; intro w hw) | (refine go_newS ?_; clear hw; intro s w hw))
      rw [he, if_neg (by decide)]
      exact res_two (v := .int .i64 0) (v' := errV 2) rfl rfl (by rw [errV_some (by decide)]; rfl) ⟨rfl, hw.tail⟩
    | true =>
      have hok := hr.1 rfl
      have hsl := hok.1
      have he : rkErr t s = 0 := by rw [rkErr, if_neg (by simp [hk]), if_pos hok]
      repeat (first | refine go_run ?_ | (refine go_newP ?_; clear hw; intro p w hw) | (refine go_newW ?_; clear hw; intro w hw) | (refine go_newS ?_; clear hw; intro s w hw))
      refine vc_loop2 [8, 9, 10, 27, 28, 29, 30, 31, 32, 33, 34, 35, 36, 37, 38, 39, 40, 41] (G := Nat) (H := Int) (fun k n => [(27, .int .i64 k), (8, .int .i64 n)]) (fun k n w => k ≤ s.length ∧ n = rankL (t.vars.take k) (s.take k) ∧ Sat w0 w [Box pt 26 [a, b, c, d]]) (fun k _ => s.length - k) 0 0 (fun _ _ => rfl) ⟨rfl, rfl, trivial⟩ ⟨Nat.zero_le _, rfl, hw⟩ ?_
      clear hw
      rintro σ k n w ⟨hkl, hn, hw⟩
      repeat (first | refine go_run ?_ | (refine go_newP ?_; clear hw; intro p w hw) | (refine go_newW ?_; clear hw; intro w hw) | (refine go_newS ?_; clear hw; intro s w hw))
      refine go_if (fun h1 => ?_) (fun h1 => ?_)
      · have hk2 : k < s.length := by omega
        have hst := rankL_step hok hg.pos hk2
        have htk := rankL_take hok hk2
        have hrr := hok.2 k hk2
        rw [← hn] at hst htk
        repeat (first | refine go_run ?_ | (refine go_newP ?_; clear hw; intro p w hw) | (refine go_newW ?_; clear hw; intro w hw) | (refine go_newS ?_; clear hw; intro s w hw))
        exact ⟨k + 1, _, ⟨rfl, rfl, trivial⟩, by repeat (first | exact agree_refl | (apply agree_upd rfl) | (apply agree_mix rfl) | (apply agree_sets rfl)), ⟨by omega, htk.symm, hw⟩, by omega⟩
      · repeat (first | refine go_run ?_ | (refine go_newP ?_; clear hw; intro p w hw) | (refine go_newW ?_; clear hw; intro w hw) | (refine go_newS ?_; clear hw; intro s w hw))
        rw [he, if_pos rfl]
        refine res_two (v := .int .i64 n) (v' := errV 0) rfl rfl (by rw [errV_zero rfl]; rfl) ⟨?_, hw.tail⟩
        rw [List.take_of_length_le (by omega), List.take_of_length_le (by omega)] at hn
        rw [hn]
  · rw [errV_some hk]
    have he : rkErr t s = cErr t := by rw [rkErr, if_pos hk]
    repeat (first | refine go_run ?_ | (refine go_newP ?_; clear hw; intro p w hw) | (refine go_newW ?_; clear hw; intro w hw) | (refine go_newS ?_; clear hw; intro s w hw))
    rw [he, if_neg hk]
    exact res_two (v := .int .i64 0) (v' := errV (cErr t)) rfl rfl (by rw [errV_some hk]; rfl) ⟨rfl, hw.tail⟩
end Go.Proofs.YtegndanecnicaaaGreat
