
/-
  Contract of A*'s 'search.run'.
-/
import Derived.Test.YtegndanecnicaaaGreatMW6
import Derived.Test.YtegndanecnicaaaGreatMW7
import Derived.Test.YtegndanecnicaaaGreatWSucG
import Derived.Test.YtegndanecnicaaaGreatMW3
import Derived.Test.YtegndanecnicaaaGreatTAstC
set_option linter.unusedSimpArgs false
set_option linter.unusedVariables false
namespace Go.Proofs.YtegndanecnicaaaGreat
open Go.Sl Go
attribute [local irreducible] vc opsW opsD opV opW PureV ReadV Thn Blk
theorem enq_len {A : APar} {S : SA} {i : Nat} {s : List Int} {g : Int} (h : S.q.length ≤ S.ord) : (enqA A S i s g).length ≤ enqO A S s g := by
  unfold enqA enqO
  split
  · exact h
  · rw [(insE_perm _ _).length_eq, List.length_cons]; omega
theorem reach_q {A : APar} {S : SA} {s : List Int} {g : Int} {l : Lnk} (h : S.q.length ≤ S.ord) : (S.reach A s g l).q.length ≤ (S.reach A s g l).ord := by
  unfold SA.reach
  split
  · split
    · exact h
    · exact enq_len h
  · exact enq_len h
theorem expA_q {A : APar} {i : Nat} {z : List Int} : ∀ (l : List Nat) {S : SA}, S.q.length ≤ S.ord → (expA A i z l S).q.length ≤ (expA A i z l S).ord
  | [], _, h => h
  | op :: l, S, h => expA_q l (S := stepA A i z S op) (reach_q h)
theorem next_q {S : SA} {x : Ent} {q : List Ent} (h : S.q.length ≤ S.ord) (hn : nextE S.wt S.g S.q = some (x, q)) : q.length ≤ S.ord := by
  obtain ⟨dr, h1, _⟩ := nextE_some hn
  rw [h1] at h
  simp at h; omega
theorem few_st {A : APar} {S : SA} {exi : Nat → Prop} {c lim : Nat} (hg : GoodT A.t) (h : SInv A S exi c) (hc : c ≤ 1 + lim * A.t.ops.length) (hN : prodL A.t.vars ≤ 512 ∨ 1 + lim * A.t.ops.length < 65536) : S.st.length < 65536 := by
  rcases hN with hN | hN
  · have h1 := h.few
    have h2 : (statesL A.t.vars).length = (prodL A.t.vars).toNat := statesL_len hg.pos
    omega
  · have := h.cn; omega
theorem Sat.only {w0 w : World} {P : HP} {Γ : List HP} (h : Sat w0 w (P :: Γ)) : Sat w0 w [P] := h.tailMono fun _ _ => trivial
theorem expA_snoc {A : APar} {i op : Nat} {z : List Int} {l : List Nat} {S : SA} : expA A i z (l ++ [op]) S = stepA A i z (expA A i z l S) op := by simp [expA]
theorem take_snocN {l : List Nat} {k : Nat} (h : k < l.length) : l.take (k + 1) = l.take k ++ [l[k]] := by rw [List.take_add_one, List.getElem?_eq_getElem h]; rfl
set_option maxRecDepth 8000 in
set_option maxHeartbeats 16000000 in
theorem arun_spec {w0 w : World} {Γ : List HP} {q pe pg pr : Addr} {a b c d bdv bnv : Value} {vs : List OpV} {A : APar} {L : Int} {lim : Nat} (hlim : lim = L.toNat) (hH : HOk A.t A.H) (hL : L ≤ 1048576) (hN : prodL A.t.vars ≤ 512 ∨ 1 + lim * A.t.ops.length < 65536)
    (hbd : (A.B = none ∧ bdv = .bool false) ∨ ∃ bn : Int, A.B = some bn ∧ bdv = .bool true ∧ bnv = .int .i64 bn)
    (ht : Kept w0 Γ fun w => RTask w a b c d vs A.t) (hE : Kept w0 Γ fun w => REst w pe A.t A.H) (hG : Kept w0 Γ fun w => RGen w pg A.t)
    (hw : Sat w0 w (Box q 82 [a, b, c, d, .pointer (some pe), .pointer (some pg), .pointer (some pr), .slice none 0 0, .slice none 0 0, .slice none 0 0, .slice none 0 0, .int .i64 0, bdv, bnv, .int .i64 0] :: RegH pr A.t.vars [] [] :: Γ)) :
    Calls Tryz.prog 36 #[.pointer (some q), .int .i64 L] w fun e w' => ∃ pv p, e = .returned (.tuple #[.agg #[.int .i64 (vdA (srchA A lim).1), pv, .int .i64 (coL A.t p), .int .i64 (srchA A lim).2.ex.length], .nilIface]) ∧ PlanR (srchA A lim) p ∧ Sat w0 w' (OS tInt 3 pv p :: Γ) := by
  have hg := hH.good
  have hvl : A.t.vars.length ≤ 64 := hg.vars
  have hops := hg.ops
  have hlb : lim ≤ 1048576 := by omega
  refine calls_of_vc (args := [.pointer (some q), .int .i64 L]) mixed Tryz.func36 rfl (by kernel_rfl) (Nat.le_of_ble_eq_true rfl) ?_
  repeat (first | refine go_run ?_ | (refine go_newP ?_; clear hw; intro p w hw) | (refine go_newWr ?_; clear hw; intro w hw) | (refine go_newS ?_; clear hw; intro s w hw))
  obtain ⟨px, hpx⟩ : ∃ px, px = p := ⟨p, rfl⟩
  subst hpx
  have hw2 : Sat w0 w (OS tEnt 164 (.slice none 0 0) [] :: Box q 82 [a, b, c, d, .pointer (some pe), .pointer (some pg), .pointer (some pr), .slice none 0 0, .slice none 0 0, .slice none 0 0, .slice none 0 0, .int .i64 0, bdv, bnv, .int .i64 0] :: OS tInt 3 (.slice none 0 0) [] :: OS tInt 3 (.slice none 0 0) [] :: OS tBool 4 (.slice none 0 0) [] :: RegH pr A.t.vars [] [] :: Box px 38 [.int .i64 0, .slice none 0 0, .int .i64 0, .int .i64 0] :: Γ) := ((((hw.nil (T := tBool) (e := 4)).nil (T := tInt) (e := 3)).nil (T := tInt) (e := 3)).nil (T := tEnt) (e := 164)).selG
  have hw3 : Sat w0 w (OS tEnt 164 (.slice none 0 0) ([] : List Ent) :: Box q 82 [a, b, c, d, .pointer (some pe), .pointer (some pg), .pointer (some pr), (.slice none 0 0), (.slice none 0 0), (.slice none 0 0), (.slice none 0 0), .int .i64 ((SA.zero).ord : Nat), bdv, bnv, .int .i64 ((SA.zero).ex.length : Nat)] :: OS tInt 3 (.slice none 0 0) (SA.zero).g :: OS tInt 3 (.slice none 0 0) ((SA.zero).st.map A.H) :: OS tBool 4 (.slice none 0 0) (SA.zero).wt :: RegH pr A.t.vars (SA.zero).st (SA.zero).lk :: Box px 38 [.int .i64 0, .slice none 0 0, .int .i64 0, .int .i64 0] :: Γ) := hw2
  refine st_call rfl (areach_spec (S := SA.zero) (s := A.t.init) (g := 0) (par := -1) (op := -1) (cost := 0) hH hvl isHeap_nil (.refl _) (by decide) List.nodup_nil (by decide) rfl rfl rfl hg.init (by decide) (by decide) (by decide) (.inl rfl) hbd ((ht.more (Box px 38 [.int .i64 0, .slice none 0 0, .int .i64 0, .int .i64 0])).mono fun w h => h.init) (hE.more (Box px 38 [.int .i64 0, .slice none 0 0, .int .i64 0, .int .i64 0])) hw3) ?_
  clear hw hw2 hw3
  have e0 : SA.zero.reach A A.t.init 0 ⟨-1, -1, 0⟩ = startA A := by
    unfold SA.reach; rw [if_neg (show ¬ A.t.init ∈ SA.zero.st from List.not_mem_nil)]; rfl
  rw [e0]
  rintro _ w ⟨rfl, h0, xs0, gv0, hv0, wv0, hh0, hp0, hw0⟩
  refine ⟨_, rfl, ?_⟩
  have hw : Sat w0 w (OS tEnt 164 h0 xs0 :: Box q 82 [a, b, c, d, .pointer (some pe), .pointer (some pg), .pointer (some pr), gv0, hv0, wv0, h0, .int .i64 (((startA A)).ord : Nat), bdv, bnv, .int .i64 (((startA A)).ex.length : Nat)] :: OS tInt 3 gv0 ((startA A)).g :: OS tInt 3 hv0 (((startA A)).st.map A.H) :: OS tBool 4 wv0 ((startA A)).wt :: RegH pr A.t.vars ((startA A)).st ((startA A)).lk :: Box px 38 [.int .i64 0, .slice none 0 0, .int .i64 0, .int .i64 0] :: Γ) := hw0
  clear hw0
  repeat (first | refine go_run ?_ | (refine go_newP ?_; clear hw; intro p w hw) | (refine go_newWr ?_; clear hw; intro w hw) | (refine go_newS ?_; clear hw; intro s w hw))
  refine vc_loop [5, 6, 7, 8, 9, 10, 11, 13, 14, 24, 25, 26, 27, 28, 29, 30, 31, 32, 33, 34, 35, 36, 37, 38, 39, 40, 41, 42, 43, 44, 45, 46, 47, 48, 49, 50, 51, 52, 53, 54, 55, 56, 57, 58, 59, 60, 61, 62, 63, 64, 65, 66, 67, 68, 69, 70, 71, 72, 73, 74, 75, 76, 77, 78, 79, 80, 81, 82, 83, 84, 85, 86, 87, 88, 89, 90, 91, 92, 93, 94, 95, 96, 97, 98, 99, 100, 101, 102, 103, 104, 105, 106, 107, 108, 109, 110, 111, 112, 113, 114, 115, 116, 117, 118, 119, 120, 121, 122, 123, 124, 125, 126, 127, 128, 129, 130, 131, 132, 133, 134, 135, 136, 137, 138, 139, 140, 141] (G := Nat × SA × List Ent × Value × Value × Value × Value) (fun _ => [])
    (fun x w => runA A lim x.1 x.2.1 = srchA A lim ∧ x.1 + x.2.1.ex.length = lim + 1 ∧ x.2.1.ex.length ≤ lim ∧ RInv A x.2.1 ∧ x.2.1.q.length ≤ x.2.1.ord ∧ IsHeap tEnt.dflt elt x.2.2.1 ∧ x.2.2.1.Perm x.2.1.q ∧
      Sat w0 w (OS tEnt 164 x.2.2.2.1 x.2.2.1 :: Box q 82 [a, b, c, d, .pointer (some pe), .pointer (some pg), .pointer (some pr), x.2.2.2.2.1, x.2.2.2.2.2.1, x.2.2.2.2.2.2, x.2.2.2.1, .int .i64 ((x.2.1).ord : Nat), bdv, bnv, .int .i64 ((x.2.1).ex.length : Nat)] :: OS tInt 3 x.2.2.2.2.1 (x.2.1).g :: OS tInt 3 x.2.2.2.2.2.1 ((x.2.1).st.map A.H) :: OS tBool 4 x.2.2.2.2.2.2 (x.2.1).wt :: RegH pr A.t.vars (x.2.1).st (x.2.1).lk :: Box px 38 [.int .i64 0, .slice none 0 0, .int .i64 0, .int .i64 0] :: Γ))
    (fun x => x.1) (lim + 1, startA A, xs0, h0, gv0, hv0, wv0) (fun _ => rfl) trivial ⟨rfl, rfl, Nat.zero_le _, rinv_start hH, enq_len (S := SA.zero) (Nat.le_refl _), hh0, hp0, hw⟩ ?_
  clear hw hh0 hp0
  rintro σ ⟨f, S, xs, h, gv, hv, wv⟩ w ⟨hrun, hfe, hex, hR, hql, hh, hp, hw⟩
  simp only at hrun hfe hex hR hql hh hp hw
  obtain ⟨c0, hc0, hI⟩ := hR
  have hcl : c0 ≤ 1 + lim * A.t.ops.length := Nat.le_trans hc0 (Nat.add_le_add_left (Nat.mul_le_mul_right _ hex) 1)
  have hcb : 1 + lim * A.t.ops.length ≤ 1 + 1048576 * 4096 := Nat.add_le_add_left (Nat.mul_le_mul hlb hops) 1
  have hst := few_st hg hI hcl hN
  have hlg : S.g.length = S.st.length := hI.ai.lg
  have hlw : S.wt.length = S.st.length := hI.ai.lw
  have hco := hI.co
  have hpl := hp.length_eq
  obtain ⟨f, rfl⟩ : ∃ f', f = f' + 1 := ⟨f - 1, by omega⟩
  repeat (first | refine go_run ?_ | (refine go_newP ?_; clear hw; intro p w hw) | (refine go_newWr ?_; clear hw; intro w hw) | (refine go_newS ?_; clear hw; intro s w hw))
  have hw2 : Sat w0 w (OS tEnt 164 h xs :: Box q 82 [a, b, c, d, .pointer (some pe), .pointer (some pg), .pointer (some pr), gv, hv, wv, h, .int .i64 (S.ord : Nat), bdv, bnv, .int .i64 (S.ex.length : Nat)] :: OS tInt 3 gv S.g :: OS tBool 4 wv S.wt :: OS tInt 3 hv (S.st.map A.H) :: RegH pr A.t.vars S.st S.lk :: Box px 38 [.int .i64 0, .slice none 0 0, .int .i64 0, .int .i64 0] :: Γ) := hw.selG
  refine st_call rfl (anext_spec hh (by omega) hp hI.qs (by omega) (fun x hx => ⟨(hI.qe x hx).id0, by have := (hI.qe x hx).id1; omega⟩) hw2) ?_
  clear hw hw2
  rintro _ w ⟨h', hcase⟩
  rcases hcase with ⟨hn, rfl, hw⟩ | ⟨x, q1, ys, hn, rfl, hys, hyp, hw⟩
  · rw [runA_none hn] at hrun
    refine ⟨_, rfl, ?_⟩
    repeat (first | refine go_run ?_ | (refine go_newP ?_; clear hw; intro p w hw) | (refine go_newWr ?_; clear hw; intro w hw) | (refine go_newS ?_; clear hw; intro s w hw))
    have hfin : Sat w0 w (OS tInt 3 (.slice none 0 0) [] :: Γ) := (hw.nil (T := tInt) (e := 3)).selG
    exact res_cellTmp (p := px) (vs := [.int .i64 2, .slice none 0 0, .int .i64 0, .int .i64 (S.ex.length : Nat)]) rfl rfl rfl rfl (hw.boxR 6 rfl) ⟨_, [], by rw [← hrun]; rfl, by rw [← hrun]; rfl, hfin⟩
  have T := hI.next hn
  have hidx := T.id
  obtain ⟨i, hi⟩ : ∃ i : Nat, i = x.id.toNat := ⟨_, rfl⟩
  have hi1 := T.i1
  rw [← hi] at hi1 hidx
  rw [hidx, Int.toNat_natCast] at hw
  rw [hidx]
  refine ⟨_, rfl, ?_⟩
  have hok : StateOk A.t.vars (S.st.getD i []) := hI.ai.ok i hi1
  repeat (first | refine go_run ?_ | (refine go_newP ?_; clear hw; intro p w hw) | (refine go_newWr ?_; clear hw; intro w hw) | (refine go_newS ?_; clear hw; intro s w hw))
  have hw2 : Sat w0 w (RegH pr A.t.vars S.st S.lk :: OS tEnt 164 h' ys :: Box q 82 [a, b, c, d, .pointer (some pe), .pointer (some pg), .pointer (some pr), gv, hv, wv, h', .int .i64 (S.ord : Nat), bdv, bnv, .int .i64 (S.ex.length : Nat)] :: OS tInt 3 gv S.g :: OS tBool 4 wv (S.wt.set i false) :: OS tInt 3 hv (S.st.map A.H) :: Box px 38 [.int .i64 0, .slice none 0 0, .int .i64 0, .int .i64 0] :: Γ) := hw.selG
  refine st_call rfl (rgState_spec hvl hi1 (by omega) hw2) ?_
  clear hw hw2
  rintro _ w ⟨sv, rfl, hw⟩
  refine ⟨_, rfl, ?_⟩
  repeat (first | refine go_run ?_ | (refine go_newP ?_; clear hw; intro p w hw) | (refine go_newWr ?_; clear hw; intro w hw) | (refine go_newS ?_; clear hw; intro s w hw))
  refine st_call rfl (tHolds_spec (ht w [_, _, _, _, _, _, _, _] hw).goal (hw.rs 0 rfl)) ?_
  rintro _ w' ⟨⟨r, rfl, hr⟩, hk'⟩
  replace hw := hw.call0 hk'
  clear hk'
  refine ⟨_, rfl, ?_⟩
  cases r
  rotate_left
  · have hgo : HoldFs (S.si x.id.toNat) A.t.goal := by rw [← hi]; exact hr.1 rfl
    rw [runA_solved hn hgo] at hrun
    obtain ⟨p, hP1, hP2, hP3, hP4, hP5⟩ := sol_ok hg hH hI hn hgo
    rw [← hi] at hP1
    repeat (first | refine go_run ?_ | (refine go_newP ?_; clear hw; intro p w hw) | (refine go_newWr ?_; clear hw; intro w hw) | (refine go_newS ?_; clear hw; intro s w hw))
    have hw2 : Sat w0 w' (RegH pr A.t.vars S.st S.lk :: OS tEnt 164 h' ys :: Box q 82 [a, b, c, d, .pointer (some pe), .pointer (some pg), .pointer (some pr), gv, hv, wv, h', .int .i64 (S.ord : Nat), bdv, bnv, .int .i64 (S.ex.length : Nat)] :: OS tInt 3 gv S.g :: OS tBool 4 wv (S.wt.set i false) :: OS tInt 3 hv (S.st.map A.H) :: Box px 38 [.int .i64 0, .slice none 0 0, .int .i64 0, .int .i64 0] :: Γ) := hw.selG
    refine st_call rfl (rgPath_spec hi1 (by omega) hI.parOk hP1 hP2 hw2) ?_
    clear hw hw2
    rintro _ w ⟨pv, rfl, hw⟩
    refine ⟨_, rfl, ?_⟩
    repeat (first | refine go_run ?_ | (refine go_newP ?_; clear hw; intro p w hw) | (refine go_newWr ?_; clear hw; intro w hw) | (refine go_newS ?_; clear hw; intro s w hw))
    refine vc_plan [.op 0, .op 2, .op 3, .op 5, .op 6, .op 7, .op 8, .op 1, .chk 8, .op 4, .chk 8, .op 9, .op 10, .op 11] hw (by kernel_rfl) ?_; clear hw; intro w hw
    repeat (first | refine go_run ?_ | (refine go_newP ?_; clear hw; intro p w hw) | (refine go_newWr ?_; clear hw; intro w hw) | (refine go_newS ?_; clear hw; intro s w hw))
    refine st_call rfl (Clone_spec (a := pv) (xs := p) (rsO (s := pv) hw) (by omega)) ?_
    rintro _ w' ⟨cv, rfl, hk'⟩
    replace hw := hw.call1 hk'
    clear hk'
    refine ⟨_, rfl, ?_⟩
    repeat (first | refine go_run ?_ | (refine go_newP ?_; clear hw; intro p w hw) | (refine go_newWr ?_; clear hw; intro w hw) | (refine go_newS ?_; clear hw; intro s w hw))
    refine st_call rfl (acost_spec (ht w' [_, _, _, _, _, _, _, _, _] hw) hg (boxRO (p := q) hw) (rsO (s := pv) hw) hP3 (by omega)) ?_
    rintro _ w' ⟨rfl, hk'⟩
    replace hw := hw.call0 hk'
    clear hk'
    refine ⟨_, rfl, ?_⟩
    have ocv := (rsO (s := cv) hw).one
    repeat (first | refine go_run ?_ | (refine go_newP ?_; clear hw; intro p w hw) | (refine go_newWr ?_; clear hw; intro w hw) | (refine go_newS ?_; clear hw; intro s w hw))
    refine st_build4 (v1 := .int .i64 1) (v2 := cv) (v3 := .int .i64 (coL A.t p)) (v4 := .int .i64 (S.ex.length : Nat)) rfl rfl rfl rfl rfl (by simp only [List.all_cons, List.all_nil, ocv]; rfl) ?_
    repeat (first | refine go_run ?_ | (refine go_newP ?_; clear hw; intro p w hw) | (refine go_newS ?_; clear hw; intro s w hw))
    refine st_boxAgg (n := 4) (p := px) (vs := [.int .i64 1, cv, .int .i64 (coL A.t p), .int .i64 (S.ex.length : Nat)]) rfl rfl hw inferInstance rfl rfl (by simp only [List.all_cons, List.all_nil, ocv]; rfl) ?_
    clear hw
    intro w hw
    repeat (first | refine go_run ?_ | (refine go_newP ?_; clear hw; intro p w hw) | (refine go_newWr ?_; clear hw; intro w hw) | (refine go_newS ?_; clear hw; intro s w hw))
    have hfin : Sat w0 w (OS tInt 3 cv p :: Γ) := hw.selG
    exact res_cellTmp (p := px) (vs := [.int .i64 1, cv, .int .i64 (coL A.t p), .int .i64 (S.ex.length : Nat)]) rfl rfl rfl rfl (hw.boxR 8 rfl) ⟨cv, p, by rw [← hrun]; rfl, by rw [← hrun, ← hi]; exact hP1, hfin⟩
  have hno : ¬ HoldFs (S.si x.id.toNat) A.t.goal := by rw [← hi]; exact fun h => by cases hr.2 h
  repeat (first | refine go_run ?_ | (refine go_newP ?_; clear hw; intro p w hw) | (refine go_newWr ?_; clear hw; intro w hw) | (refine go_newS ?_; clear hw; intro s w hw))
  refine go_if (fun h1 => ?_) (fun h1 => ?_)
  · rw [runA_unknown hn hno (by omega)] at hrun
    repeat (first | refine go_run ?_ | (refine go_newP ?_; clear hw; intro p w hw) | (refine go_newWr ?_; clear hw; intro w hw) | (refine go_newS ?_; clear hw; intro s w hw))
    have hfin : Sat w0 w (OS tInt 3 (.slice none 0 0) [] :: Γ) := (hw.nil (T := tInt) (e := 3)).selG
    exact res_cellTmp (p := px) (vs := [.int .i64 3, .slice none 0 0, .int .i64 0, .int .i64 (S.ex.length : Nat)]) rfl rfl rfl rfl (hw.boxR 7 rfl) ⟨_, [], by rw [← hrun]; rfl, by rw [← hrun]; rfl, hfin⟩
  have hl : ¬ lim ≤ S.ex.length := by omega
  rw [runA_more hn hno hl] at hrun
  repeat (first | refine go_run ?_ | (refine go_newP ?_; clear hw; intro p w hw) | (refine go_newWr ?_; clear hw; intro w hw) | (refine go_newS ?_; clear hw; intro s w hw))
  refine st_call rfl (Successors_spec (hG w [_, _, _, _, _, _, _, _] hw) hg (hw.rs 0 rfl) hok) ?_
  rintro _ w' ⟨sl, us, rfl, hk'⟩
  replace hw := hw.call1 hk'
  clear hk'
  refine ⟨_, rfl, ?_⟩
  simp only [List.set_cons_succ, List.set_cons_zero] at hw
  rw [show ((S.ex.length : Int) + 1) = ((S.ex.length + 1 : Nat) : Int) from rfl] at hw
  obtain ⟨z, hz⟩ : ∃ z, z = S.st.getD i [] := ⟨_, rfl⟩
  rw [← hz] at hw hok hr
  obtain ⟨S1, hS1⟩ : ∃ S1, S1 = (S.pop x q1).mark x.id.toNat := ⟨_, rfl⟩
  obtain ⟨m1, m2⟩ := hI.marked T
  rw [← hS1, ← hi] at m1
  rw [← hi, List.length_cons] at m2
  have hexl : S1.ex.length = S.ex.length + 1 := by rw [hS1]; rfl
  have hS1g : S1.gi i = S.gi i := by rw [hS1]; rfl
  have hS1n : S1.st.length = S.st.length := by rw [hS1]; rfl
  have hS1s : S1.si i = z := by rw [hS1, hz]; rfl
  have hS1q : S1.q.length ≤ S1.ord := by rw [hS1]; show q1.length ≤ S.ord; exact next_q hql hn
  have hEx : expN A S x q1 = expA A i z (succsL A.t z) S1 := by rw [hS1, hz]; unfold expN; rw [← hi]; rfl
  rw [hEx] at hrun
  have hw2 : Sat w0 w' (OS tEnt 164 h' ys :: Box q 82 [a, b, c, d, .pointer (some pe), .pointer (some pg), .pointer (some pr), gv, hv, wv, h', .int .i64 (S.ord : Nat), bdv, bnv, .int .i64 ((S.ex.length + 1 : Nat) : Int)] :: OS tInt 3 gv S.g :: OS tInt 3 hv (S.st.map A.H) :: OS tBool 4 wv (S.wt.set i false) :: RegH pr A.t.vars S.st S.lk :: RdH (fun w => RSuc w A.t z sl us) :: OS tInt 3 sv z :: Box px 38 [.int .i64 0, .slice none 0 0, .int .i64 0, .int .i64 0] :: Γ) := hw.selG
  clear hw
  have hw : Sat w0 w' (OS tEnt 164 h' ys :: Box q 82 [a, b, c, d, .pointer (some pe), .pointer (some pg), .pointer (some pr), gv, hv, wv, h', .int .i64 ((S1).ord : Nat), bdv, bnv, .int .i64 ((S1).ex.length : Nat)] :: OS tInt 3 gv (S1).g :: OS tInt 3 hv ((S1).st.map A.H) :: OS tBool 4 wv (S1).wt :: RegH pr A.t.vars (S1).st (S1).lk :: RdH (fun w => RSuc w A.t z sl us) :: OS tInt 3 sv z :: Box px 38 [.int .i64 0, .slice none 0 0, .int .i64 0, .int .i64 0] :: Γ) := by rw [hi] at hw2; rw [hS1]; exact hw2
  clear hw2
  have hyp1 : ys.Perm S1.q := by rw [hS1]; exact hyp
  have hSu : Kept w0 (RdH (fun w => RSuc w A.t z sl us) :: OS tInt 3 sv z :: Box px 38 [.int .i64 0, .slice none 0 0, .int .i64 0, .int .i64 0] :: Γ) (fun w => RSuc w A.t z sl us) := Kept.rd
  have hKt : Kept w0 (RdH (fun w => RSuc w A.t z sl us) :: OS tInt 3 sv z :: Box px 38 [.int .i64 0, .slice none 0 0, .int .i64 0, .int .i64 0] :: Γ) (fun w => RTask w a b c d vs A.t) := ((ht.more _).more _).more _
  have hKe : Kept w0 (RdH (fun w => RSuc w A.t z sl us) :: OS tInt 3 sv z :: Box px 38 [.int .i64 0, .slice none 0 0, .int .i64 0, .int .i64 0] :: Γ) (fun w => REst w pe A.t A.H) := ((hE.more _).more _).more _
  have hsu0 := hSu w' [_, _, _, _, _, _] hw
  have hsur := hsu0.rs
  have hsul := hsu0.len
  have hall : (appL A.t z).length = (succsL A.t z).length := by unfold appL; rw [List.length_map]
  have hsl := succs_len A.t z
  have hsteps : ∀ k, k ≤ (succsL A.t z).length → SInv A (expA A i z ((succsL A.t z).take k) S1) (· = i) (c0 + k) ∧ Grown S1 (expA A i z ((succsL A.t z).take k) S1) ∧ (expA A i z ((succsL A.t z).take k) S1).gi i = S.gi i := fun k hk => by
    obtain ⟨j1, j2, j3, _⟩ := SInv.steps (i := i) (z := z) hH ((succsL A.t z).take k) m1 (by omega) hS1s (fun op hop => mem_succsL.1 (List.mem_of_mem_take hop)) (by rw [hS1g, hexl]; exact m2)
    rw [List.length_take, Nat.min_eq_left hk] at j1
    exact ⟨j1, j2, j3.trans hS1g⟩
  have hcn : c0 + (succsL A.t z).length ≤ 1 + lim * A.t.ops.length := by
    have h1 : (S.ex.length + 1) * A.t.ops.length ≤ lim * A.t.ops.length := Nat.mul_le_mul_right _ (by omega)
    rw [Nat.succ_mul] at h1
    omega
  repeat (first | refine go_run ?_ | (refine go_newP ?_; clear hw; intro p w hw) | (refine go_newWr ?_; clear hw; intro w hw) | (refine go_newS ?_; clear hw; intro s w hw))
  refine vc_loop [5, 13, 14, 104, 105, 106, 107, 108, 109, 110, 111, 112, 113, 114, 115, 116, 117, 118, 119, 120, 121, 122, 123, 124, 125, 126, 127, 128, 129, 130, 131, 132, 133, 134, 135, 136, 137, 138, 139, 140, 141] (G := Nat × List Ent × Value × Value × Value × Value) (fun x => [(104, .int .i64 x.1)])
    (fun x w => x.1 ≤ (succsL A.t z).length ∧ IsHeap tEnt.dflt elt x.2.1 ∧ x.2.1.Perm (expA A i z ((succsL A.t z).take x.1) S1).q ∧
      Sat w0 w (OS tEnt 164 x.2.2.1 x.2.1 :: Box q 82 [a, b, c, d, .pointer (some pe), .pointer (some pg), .pointer (some pr), x.2.2.2.1, x.2.2.2.2.1, x.2.2.2.2.2, x.2.2.1, .int .i64 (((expA A i z ((succsL A.t z).take x.1) S1)).ord : Nat), bdv, bnv, .int .i64 (((expA A i z ((succsL A.t z).take x.1) S1)).ex.length : Nat)] :: OS tInt 3 x.2.2.2.1 ((expA A i z ((succsL A.t z).take x.1) S1)).g :: OS tInt 3 x.2.2.2.2.1 (((expA A i z ((succsL A.t z).take x.1) S1)).st.map A.H) :: OS tBool 4 x.2.2.2.2.2 ((expA A i z ((succsL A.t z).take x.1) S1)).wt :: RegH pr A.t.vars ((expA A i z ((succsL A.t z).take x.1) S1)).st ((expA A i z ((succsL A.t z).take x.1) S1)).lk :: RdH (fun w => RSuc w A.t z sl us) :: OS tInt 3 sv z :: Box px 38 [.int .i64 0, .slice none 0 0, .int .i64 0, .int .i64 0] :: Γ))
    (fun x => (succsL A.t z).length - x.1) (0, ys, h', gv, hv, wv) (fun _ => rfl) ⟨rfl, trivial⟩ ⟨Nat.zero_le _, hys, hyp1, hw⟩ ?_
  clear hw hys hyp1
  rintro σ2 ⟨k, xs2, h2, gv2, hv2, wv2⟩ w ⟨hk, hh2, hp2, hw⟩
  simp only at hk hh2 hp2 hw
  obtain ⟨hTI, hTG, hTg⟩ := hsteps k hk
  have hTq := expA_q (A := A) (i := i) (z := z) ((succsL A.t z).take k) hS1q
  have hTe := expA_ex (A := A) (i := i) (z := z) ((succsL A.t z).take k) (S := S1)
  obtain ⟨T2, hT2⟩ : ∃ T2, T2 = expA A i z ((succsL A.t z).take k) S1 := ⟨_, rfl⟩
  rw [← hT2] at hw hp2 hTI hTG hTg hTq hTe
  have hsuw := hSu w [_, _, _, _, _, _] hw
  have hsuwr := hsuw.rs
  repeat (first | refine go_run ?_ | (refine go_newP ?_; clear hw; intro p w hw) | (refine go_newWr ?_; clear hw; intro w hw) | (refine go_newS ?_; clear hw; intro s w hw))
  refine go_if (fun h3 => ?_) (fun h3 => ?_)
  · have hkl : k < (succsL A.t z).length := by omega
    have hka : k < (appL A.t z).length := by omega
    obtain ⟨op, hop⟩ : ∃ op : Nat, (succsL A.t z)[k] = op := ⟨_, rfl⟩
    have hopm : op ∈ succsL A.t z := by rw [← hop]; exact List.getElem_mem hkl
    obtain ⟨hopl, hopa⟩ := mem_succsL.1 hopm
    have happ : (appL A.t z).getD k tInt.dflt = (op : Int) := by
      unfold appL
      rw [getD_at (by rw [List.length_map]; exact hkl), List.getElem_map, hop]
    obtain ⟨hu1, hu2⟩ := hsuw.at_ k hka
    rw [happ] at hu1 hu2
    rw [Int.toNat_natCast] at hu2
    have hxo := succT_ok hg hok hopl
    have ouk := hu2.one
    have houk : (tSuc.enc (eget tSuc us k)).all Value.oneCell' = true := by
      show ((Value.int .i64 (eget tSuc us k).op).oneCell' && ((eget tSuc us k).st.oneCell' && true)) = true
      rw [ouk]; rfl
    obtain ⟨nv, hnv⟩ : ∃ nv, nv = (eget tSuc us k).st := ⟨_, rfl⟩
    rw [← hnv] at hu2 ouk
    have hen : tSuc.enc (eget tSuc us k) = [.int .i64 (op : Int), nv] := by
      show [Value.int .i64 (eget tSuc us k).op, (eget tSuc us k).st] = _
      rw [hu1, hnv]
    obtain ⟨y, hy⟩ : ∃ y : List Int, y = succT A.t z op := ⟨_, rfl⟩
    rw [← hy] at hu2 hxo
    have hKn : Kept w0 (RdH (fun w => RSuc w A.t z sl us) :: OS tInt 3 sv z :: Box px 38 [.int .i64 0, .slice none 0 0, .int .i64 0, .int .i64 0] :: Γ) (fun w => RS tInt w nv y) := hSu.mono fun w h => by
      have := (h.at_ k hka).2
      rw [happ, Int.toNat_natCast, ← hnv, ← hy] at this
      exact this
    have hco0 := opC_rng hg hopl
    repeat (first | refine go_run ?_ | (refine go_newP ?_; clear hw; intro p w hw) | (refine go_newWr ?_; clear hw; intro w hw) | (refine go_newS ?_; clear hw; intro s w hw))
    obtain ⟨p8, hp8⟩ : ∃ p8, p8 = p := ⟨p, rfl⟩
    subst hp8
    replace hw : Sat w0 w (Box p8 132 [.int .i64 (op : Int), nv] :: OS tEnt 164 h2 xs2 :: Box q 82 [a, b, c, d, .pointer (some pe), .pointer (some pg), .pointer (some pr), gv2, hv2, wv2, h2, .int .i64 ((T2).ord : Nat), bdv, bnv, .int .i64 ((T2).ex.length : Nat)] :: OS tInt 3 gv2 (T2).g :: OS tInt 3 hv2 ((T2).st.map A.H) :: OS tBool 4 wv2 (T2).wt :: RegH pr A.t.vars (T2).st (T2).lk :: RdH (fun w => RSuc w A.t z sl us) :: OS tInt 3 sv z :: Box px 38 [.int .i64 0, .slice none 0 0, .int .i64 0, .int .i64 0] :: Γ) := by rw [← hen]; exact hw
    refine go_draw ?_
    clear hw
    intro w hw
    have ht4 := hKt w [_, _, _, _, _, _, _] hw
    have hdr4 := ht4.ops.rs
    have hdl4 := ht4.ops.len
    have hco : (eget tOp vs op).cost = opC A.t op := (ht4.ops.at_ op hopl).cost
    repeat (first | refine go_run ?_ | (refine go_newP ?_; clear hw; intro p w hw) | (refine go_newWr ?_; clear hw; intro w hw) | (refine go_newS ?_; clear hw; intro s w hw))
    rw [hco]
    have hTlg : T2.g.length = T2.st.length := hTI.ai.lg
    have hTlw : T2.wt.length = T2.st.length := hTI.ai.lw
    have hTn := hTG.n
    have hgd : T2.g.getD i tInt.dflt = S.gi i := hTg
    have hgn : 0 ≤ S.gi i := hI.ai.nn i hi1
    have hTst := few_st hg hTI (by omega) hN
    have hTco := hTI.co
    have hp2l := hp2.length_eq
    refine vc_plan [.op 0, .op 1, .op 2, .op 3, .op 4, .op 5, .op 6, .op 7, .op 8, .op 9, .op 10, .op 11, .op 12, .op 13, .op 14, .op 15, .op 16, .op 17] hw (by kernel_rfl) ?_; clear hw; intro w hw
    repeat (first | refine go_run ?_ | (refine go_newP ?_; clear hw; intro p w hw) | (refine go_newWr ?_; clear hw; intro w hw) | (refine go_newS ?_; clear hw; intro s w hw))
    rw [hgd]
    have hw2 : Sat w0 w (OS tEnt 164 h2 xs2 :: Box q 82 [a, b, c, d, .pointer (some pe), .pointer (some pg), .pointer (some pr), gv2, hv2, wv2, h2, .int .i64 ((T2).ord : Nat), bdv, bnv, .int .i64 ((T2).ex.length : Nat)] :: OS tInt 3 gv2 (T2).g :: OS tInt 3 hv2 ((T2).st.map A.H) :: OS tBool 4 wv2 (T2).wt :: RegH pr A.t.vars (T2).st (T2).lk :: Box p8 132 [.int .i64 (op : Int), nv] :: RdH (fun w => RSuc w A.t z sl us) :: OS tInt 3 sv z :: Box px 38 [.int .i64 0, .slice none 0 0, .int .i64 0, .int .i64 0] :: Γ) := hw.selG
    refine st_call rfl (areach_spec (S := T2) (s := y) (g := S.gi i + opC A.t op) (par := i) (op := op) (cost := opC A.t op) hH hvl hh2 hp2 (by omega) hTI.ai.nd hTst hTlg hTlw hTI.ll hxo (by omega) (by omega) (by omega) (.inr ⟨by omega, by omega⟩) hbd (hKn.more _) (hKe.more _) hw2) ?_
    clear hw hw2
    have hst : T2.reach A y (S.gi i + opC A.t op) ⟨i, op, opC A.t op⟩ = expA A i z ((succsL A.t z).take (k + 1)) S1 := by
      rw [take_snocN hkl, hop, expA_snoc, ← hT2]
      unfold stepA
      rw [hTg, ← hy]
    have hex2 : (T2.reach A y (S.gi i + opC A.t op) ⟨i, op, opC A.t op⟩).ex = T2.ex := reach_ex
    rintro _ w ⟨rfl, h3, xs3, gv3, hv3, wv3, hh3, hp3, hw⟩
    refine ⟨_, rfl, ?_⟩
    rw [← hex2] at hw
    rw [hst] at hp3 hw
    repeat (first | refine go_run ?_ | (refine go_newP ?_; clear hw; intro p w hw) | (refine go_newWr ?_; clear hw; intro w hw) | (refine go_newS ?_; clear hw; intro s w hw))
    exact ⟨(k + 1, xs3, h3, gv3, hv3, wv3), ⟨rfl, trivial⟩, by repeat (first | exact agree_refl | (apply agree_upd rfl) | (apply agree_mix rfl) | (apply agree_sets rfl)), ⟨by omega, hh3, hp3, hw.selG⟩, by simp only; omega⟩
  have hke : k = (succsL A.t z).length := by omega
  rw [hke, List.take_of_length_le (Nat.le_refl _)] at hT2
  rw [← hT2] at hrun hEx
  repeat (first | refine go_run ?_ | (refine go_newP ?_; clear hw; intro p w hw) | (refine go_newW ?_; clear hw; intro w hw) | (refine go_newS ?_; clear hw; intro s w hw))
  obtain ⟨r1, _⟩ := hI.expand hH hn hno
  have hRn : RInv A T2 := by
    have h1 := rinv_step hH ⟨c0, hc0, hI⟩ hn hno
    rw [hEx] at h1; exact h1
  have hexT : T2.ex.length = S.ex.length + 1 := by rw [hTe, hexl]
  exact ⟨(f, T2, xs2, h2, gv2, hv2, wv2), trivial, by repeat (first | exact agree_refl | (apply agree_upd rfl) | (apply agree_mix rfl) | (apply agree_sets rfl)), ⟨hrun, by simp only; omega, by simp only; omega, hRn, hTq, hh2, hp2, hw.selG⟩, by simp only; omega⟩
end Go.Proofs.YtegndanecnicaaaGreat
