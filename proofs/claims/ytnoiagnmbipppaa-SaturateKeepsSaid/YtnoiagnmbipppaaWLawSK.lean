
/-
  The statement 'SaturateKeeps' returns true.
-/
import Derived.Test.YtnoiagnmbipppaaWPicked
import Derived.Test.YtnoiagnmbipppaaTMix
set_option linter.unusedSimpArgs false
set_option linter.unusedVariables false
namespace Go.Proofs.Ytnoiagnmbipppaa
open Go.Sl Go
attribute [local irreducible] vc opsW opsD opV opW PureV ReadV Thn Blk

theorem mixK_of {L : List Int} {g : Nat → Int} : mixK L.length (fun i => L.getD i tInt.dflt) g 0 = L := by
  apply List.ext_getElem (by simp [mixK])
  intro i h1 h2
  simp [mixK, List.getD, h2]
theorem getD_set_ge {α : Type} {Q : List α} {k i : Nat} {x d : α} (h : k < i) : (Q.set k x).getD i d = Q.getD i d := by
  simp [List.getD_eq_getElem?_getD, List.getElem?_set, show ¬ k = i by omega]

set_option maxRecDepth 8000 in
set_option maxHeartbeats 8000000 in
theorem SaturateKeeps_walk {w0 : World} {a b c d xv : Value} {vs : List OpV} {t : TTask} {xs : List Int} (ht : RTask w0 a b c d vs t) (hx : RS tU16 w0 xv xs) :
    Calls Try.prog 10 #[.agg #[a, b, c, d], xv] w0 fun e w' => e = .returned (.bool true) ∧ Sat w0 w' [] := by
  have ht' := ht
  obtain ⟨ha, hb, hc, hd⟩ := ht
  have hrs := hd.rs
  have hdl := hd.len
  have hll := hrs.big
  have hw := Sat.start w0
  refine calls_of_vc (args := [.agg #[a, b, c, d], xv]) mixed Try.func10 rfl (by kernel_rfl) (Nat.le_of_ble_eq_true rfl) ?_
  repeat (first | refine go_run ?_ | (refine go_newP ?_; clear hw; intro p w hw) | (refine go_newWr ?_; clear hw; intro w hw) | (refine go_newS ?_; clear hw; intro s w hw))
  obtain ⟨pt, hpt⟩ : ∃ pt, pt = p := ⟨p, rfl⟩
  subst hpt
  refine st_call rfl (picked_spec (ht'.at hw) (hx.at hw)) ?_
  rintro _ w' (⟨_, rfl, hk'⟩ | ⟨hpk, lv, ls, rfl, hk'⟩)
  · replace hw := hw.call0 hk'
    clear hk'
    refine ⟨_, rfl, ?_⟩
    repeat (first | refine go_run ?_ | (refine go_newP ?_; clear hw; intro p w hw) | (refine go_newW ?_; clear hw; intro w hw) | (refine go_newS ?_; clear hw; intro s w hw))
    refine st_call rfl sawake_spec ?_
    rintro _ w' ⟨rfl, hk'⟩
    replace hw := hw.call0 hk'
    clear hk'
    refine ⟨_, rfl, ?_⟩
    repeat (first | refine go_run ?_ | (refine go_newP ?_; clear hw; intro p w hw) | (refine go_newW ?_; clear hw; intro w hw) | (refine go_newS ?_; clear hw; intro s w hw))
    exact res_one (v := .bool true) rfl rfl ⟨rfl, sat_none hw⟩
  replace hw := hw.call2 hk'
  clear hk'
  refine ⟨_, rfl, ?_⟩
  have hs := hpk.1
  have hg := hs.good
  have hV := hs.vars
  have hO := hs.ops
  have hM := hs.many
  have hlen : (statesL t.vars).length ≤ 512 := by rw [statesL_len hg.pos]; omega
  have hne := hpk.nerr
  have hpe := hpk.err
  have hL6 : (pickLs t xs).length ≤ 6 := by rw [pickLs_len]; exact hpk.2.1
  have hin : ∀ k, k < (pickLs t xs).length → InV t.vars ((pickLs t xs).getD k []) := fun k hk => PickOk.inV (by rw [pickLs_len] at hk; exact hk)
  have hsm : ∀ k, k < (pickLs t xs).length → cntL t.vars ((pickLs t xs).getD k []) ≤ 64 := fun k hk => by
    rw [pickLs_len] at hk
    rw [pickLs_at hk]; exact hpk.2.2 k hk
  obtain ⟨Ls, hLs⟩ : ∃ Ls, Ls = pickLs t xs := ⟨_, rfl⟩
  rw [← hLs] at hw hne hpe hL6 hin hsm
  have hlsl := hw.rowsLen
  repeat (first | refine go_run ?_ | (refine go_newP ?_; clear hw; intro p w hw) | (refine go_newW ?_; clear hw; intro w hw) | (refine go_newS ?_; clear hw; intro s w hw))
  refine st_call rfl sawake_spec ?_
  rintro _ w' ⟨rfl, hk'⟩
  replace hw := hw.call0 hk'
  clear hk'
  refine ⟨_, rfl, ?_⟩
  repeat (first | refine go_run ?_ | (refine go_newP ?_; clear hw; intro p w hw) | (refine go_newW ?_; clear hw; intro w hw) | (refine go_newS ?_; clear hw; intro s w hw))
  refine st_call rfl (New_spec (s := lv) (ss := ls) (Ls := Ls) (ht'.at hw) ⟨hw.rs 1 rfl, hw.rowsLen, fun i hi => hw.row hi⟩ (fun _ _ _ => hpe)) ?_
  rintro _ w' (⟨h1, _⟩ | ⟨_, _, _, _, pp, Ds, Ps, rfl, hR, hk'⟩)
  · exact absurd hne h1
  replace hw := hw.call1 hk'
  clear hk'
  refine ⟨_, rfl, ?_⟩
  have hSC : SatC t Ls Ds Ps := ⟨hR, hg, hin, hsm, by omega⟩
  have hPl := hR.pl
  have hpc := fun k (hk : k < Ls.length) => part_cost hSC hk
  repeat (first | refine go_run ?_ | (refine go_newP ?_; clear hw; intro p w hw) | (refine go_newW ?_; clear hw; intro w hw) | (refine go_newS ?_; clear hw; intro s w hw))
  refine st_call rfl (Parts_spec (hw.rdE 0 rfl) (by omega) (fun i hi => by have := (hpc i (by omega)).1; omega)) ?_
  rintro _ w' ⟨pv, ps, rfl, hk'⟩
  replace hw := hw.call2 hk'
  clear hk'
  refine ⟨_, rfl, ?_⟩
  have hpsl := hw.rowsLen
  repeat (first | refine go_run ?_ | (refine go_newP ?_; clear hw; intro p w hw) | (refine go_newW ?_; clear hw; intro w hw) | (refine go_newS ?_; clear hw; intro s w hw))
  have hw1 : Sat w0 w' [RowsAt tInt 3 ps Ps, OS tVal 22 pv ps, RowsAt tInt 3 [] (Ps.take 0), OS tVal 22 (.slice none 0 0) [], RdH (fun w => RPt w pp t Ls Ds Ps), RowsAt tInt 3 ls Ls, OS tVal 22 lv ls, Box pt 26 [a, b, c, d]] := by
    have h0 : Sat w0 w' [RowsAt tInt 3 ps Ps, OS tVal 22 pv ps, RdH (fun w => RPt w pp t Ls Ds Ps), RowsAt tInt 3 ls Ls, OS tVal 22 lv ls, Box pt 26 [a, b, c, d]] := hw
    have h1 := (h0.nil (T := tVal) (e := 22)).rows0 (T := tInt) (e := 3)
    have h2 : Sat w0 w' [RowsAt tInt 3 ps Ps, OS tVal 22 pv ps, RowsAt tInt 3 [] [], OS tVal 22 (.slice none 0 0) [], RdH (fun w => RPt w pp t Ls Ds Ps), RowsAt tInt 3 ls Ls, OS tVal 22 lv ls, Box pt 26 [a, b, c, d]] := h1.sel
    exact h2
  clear hw
  refine vc_loop [9, 11, 12, 43, 44, 45, 46, 47, 48, 49, 50, 51, 52, 53, 54, 55, 56, 57, 58, 59, 60, 61, 62] (G := Nat × Value × List Value × List (List Int)) (fun x => [(43, .int .i64 x.1), (9, x.2.1)]) (fun x w => x.1 ≤ Ps.length ∧ x.2.2.1.length = x.1 ∧ x.2.2.2.length = Ps.length ∧ (∀ i, x.1 ≤ i → x.2.2.2.getD i [] = Ps.getD i []) ∧ Sat w0 w [RowsAt tInt 3 ps x.2.2.2, OS tVal 22 pv ps, RowsAt tInt 3 x.2.2.1 (Ps.take x.1), OS tVal 22 x.2.1 x.2.2.1, RdH (fun w => RPt w pp t Ls Ds Ps), RowsAt tInt 3 ls Ls, OS tVal 22 lv ls, Box pt 26 [a, b, c, d]]) (fun x => Ps.length - x.1) (0, .slice none 0 0, [], Ps) (fun _ => rfl) ⟨rfl, rfl, trivial⟩ ⟨Nat.zero_le _, rfl, rfl, fun _ _ => rfl, hw1⟩ ?_
  clear hw1
  rintro σ ⟨k, bv, bs, Qs⟩ w ⟨hk, hbl, hql, hqe, hw⟩
  simp only at hk hbl hql hqe hw
  repeat (first | refine go_run ?_ | (refine go_newP ?_; clear hw; intro p w hw) | (refine go_newW ?_; clear hw; intro w hw) | (refine go_newS ?_; clear hw; intro s w hw))
  refine go_if (fun h2 => ?_) (fun h2 => ?_)
  · have hkl : k < Ps.length := by omega
    obtain ⟨hp1, hp2, hp3⟩ := hpc k (by omega)
    obtain ⟨L, hL⟩ : ∃ L, L = Ps.getD k [] := ⟨_, rfl⟩
    have hqk := hqe k (Nat.le_refl _)
    rw [← hL] at hp1 hqk
    repeat (first | refine go_run ?_ | (refine go_newP ?_; clear hw; intro p w hw) | (refine go_newW ?_; clear hw; intro w hw) | (refine go_newS ?_; clear hw; intro s w hw))
    refine st_buildSlice0 tInt hw ?_
    clear hw
    intro s0 w hw
    repeat (first | refine go_run ?_ | (refine go_newP ?_; clear hw; intro p w hw) | (refine go_newW ?_; clear hw; intro w hw) | (refine go_newS ?_; clear hw; intro s w hw))
    have hrow : RS tInt w (vget ps k) L := by rw [← hqk]; exact (hw.focus 1 rfl).row (by omega)
    refine st_append (s := s0) (s2 := vget ps k) inferInstance rfl rfl hrow rfl rfl (fun x hx v hv => by rw [List.mem_singleton.1 hv]; rfl) (by simp only [List.length_nil]; omega) (by unfold big; simp only [List.length_nil]; omega) hw ?_
    clear hw
    intro cv w hw
    rw [List.nil_append] at hw
    repeat (first | refine go_run ?_ | (refine go_newP ?_; clear hw; intro p w hw) | (refine go_newW ?_; clear hw; intro w hw) | (refine go_newS ?_; clear hw; intro s w hw))
    obtain ⟨bv2, hbv⟩ : ∃ bv2, bv2 = s := ⟨s, rfl⟩
    subst hbv
    have hw2 : Sat w0 w [OS tInt 3 cv L, RowsAt tInt 3 bs (Ps.take k), OS tVal 22 bv2 (bs ++ [cv]), RowsAt tInt 3 ps Qs, OS tVal 22 pv ps, RdH (fun w => RPt w pp t Ls Ds Ps), RowsAt tInt 3 ls Ls, OS tVal 22 lv ls, Box pt 26 [a, b, c, d]] := by
      have hw1 := hw.tail
      exact hw1.sel
    have hw3 := hw2.rowPush
    rw [hL, ← take_snoc [] hkl] at hw3
    have hw4 : Sat w0 w [RowsAt tInt 3 ps Qs, OS tVal 22 pv ps, RowsAt tInt 3 (bs ++ [cv]) (Ps.take (k + 1)), OS tVal 22 bv2 (bs ++ [cv]), RdH (fun w => RPt w pp t Ls Ds Ps), RowsAt tInt 3 ls Ls, OS tVal 22 lv ls, Box pt 26 [a, b, c, d]] := hw3.sel
    have hw5 := hw4.rowOut (i := k) (by omega)
    rw [hqk] at hw5
    rw [← mixK_of (L := L) (g := fun _ => -7)] at hw5
    clear hw hw2 hw3 hw4 hrow
    refine vc_loop [12, 55, 56, 57, 58, 59, 60, 61] (G := Nat) (fun j => [(55, .int .i64 j)]) (fun j w => j ≤ L.length ∧ Sat w0 w (OS tInt 3 (vget ps k) (mixK L.length (fun i => L.getD i tInt.dflt) (fun _ => -7) j) :: ((List.zipWith (OS tInt 3) ps Qs).eraseIdx k ++ [OS tVal 22 pv ps, RowsAt tInt 3 (bs ++ [cv]) (Ps.take (k + 1)), OS tVal 22 bv2 (bs ++ [cv]), RdH (fun w => RPt w pp t Ls Ds Ps), RowsAt tInt 3 ls Ls, OS tVal 22 lv ls, Box pt 26 [a, b, c, d]]))) (fun j => L.length - j) 0 (fun _ => rfl) ⟨rfl, trivial⟩ ⟨Nat.zero_le _, hw5⟩ ?_
    clear hw5
    rintro σ1 j w ⟨hj, hw⟩
    have hml := mixK_len L.length (fun i => L.getD i tInt.dflt) (fun _ => -7) j
    repeat (first | refine go_run ?_ | (refine go_newP ?_; clear hw; intro p w hw) | (refine go_newW ?_; clear hw; intro w hw) | (refine go_newS ?_; clear hw; intro s w hw))
    refine go_if (fun h3 => ?_) (fun h3 => ?_)
    · have hjl : j < L.length := by omega
      repeat (first | refine go_run ?_ | (refine go_newP ?_; clear hw; intro p w hw) | (refine go_newW ?_; clear hw; intro w hw) | (refine go_newS ?_; clear hw; intro s w hw))
      have e := mixK_set (n := L.length) (f := (fun i => L.getD i tInt.dflt)) (g := fun _ => -7) (j := j)
      rw [e] at hw
      exact ⟨j + 1, ⟨rfl, trivial⟩, by repeat (first | exact agree_refl | (apply agree_upd rfl) | (apply agree_mix rfl) | (apply agree_sets rfl)), ⟨by omega, hw⟩, by omega⟩
    have hje : j = L.length := by omega
    subst hje
    have hw6 := Sat.rowIn (i := k) (by omega) (by omega) hw
    have e1 : ps.set k (vget ps k) = ps := by
      apply List.ext_getElem (by simp)
      intro i h1 h2
      rw [List.getElem_set]
      split
      · rename_i e; subst e; simp [vget_eq, List.getD, h2]
      · rfl
    rw [e1] at hw6
    repeat (first | refine go_run ?_ | (refine go_newP ?_; clear hw; intro p w hw) | (refine go_newW ?_; clear hw; intro w hw) | (refine go_newS ?_; clear hw; intro s w hw))
    exact ⟨(k + 1, bv2, bs ++ [cv], Qs.set k (mixK L.length (fun i => L.getD i tInt.dflt) (fun _ => -7) L.length)), ⟨rfl, rfl, trivial⟩, by repeat (first | exact agree_refl | (apply agree_upd rfl) | (apply agree_mix rfl) | (apply agree_sets rfl)), ⟨by simp only; omega, by simp only [List.length_append, List.length_cons, List.length_nil]; omega, by simp only [List.length_set]; exact hql, fun i hi => by simp only at hi ⊢; rw [getD_set_ge (by omega)]; exact hqe i (by omega), hw6⟩, by simp only; omega⟩
  have hke : k = Ps.length := by omega
  subst hke
  rw [List.take_length] at hw
  repeat (first | refine go_run ?_ | (refine go_newP ?_; clear hw; intro p w hw) | (refine go_newW ?_; clear hw; intro w hw) | (refine go_newS ?_; clear hw; intro s w hw))
  have hw1 : Sat w0 w [RowsAt tInt 3 ls Ls, OS tVal 22 lv ls, RowsAt tInt 3 bs Ps, OS tVal 22 bv bs, RdH (fun w => RPt w pp t Ls Ds Ps), Box pt 26 [a, b, c, d]] := hw.sel
  clear hw
  have hw := hw1
  clear hw1
  refine st_call rfl (PValue_spec (hw.rdE 4 rfl) hR (by omega) hpe (hb.at hw)) ?_
  rintro _ w' ⟨rfl, hk'⟩
  replace hw := hw.call0 hk'
  clear hk'
  refine ⟨_, rfl, ?_⟩
  repeat (first | refine go_run ?_ | (refine go_newP ?_; clear hw; intro p w hw) | (refine go_newW ?_; clear hw; intro w hw) | (refine go_newS ?_; clear hw; intro s w hw))
  refine vc_loop [15, 16, 69, 70, 71, 72, 73, 74, 75, 76, 77, 78, 79, 80, 81, 82, 83, 84, 85] (G := Nat × List (List Int)) (fun x => [(69, .int .i64 x.1)]) (fun x w => x.1 ≤ Ls.length ∧ x.2.length = Ls.length ∧ (∀ i, x.1 ≤ i → x.2.getD i [] = Ls.getD i []) ∧ Sat w0 w [RowsAt tInt 3 ls x.2, OS tVal 22 lv ls, RowsAt tInt 3 bs Ps, OS tVal 22 bv bs, RdH (fun w => RPt w pp t Ls Ds Ps), Box pt 26 [a, b, c, d]]) (fun x => Ls.length - x.1) (0, Ls) (fun _ => rfl) ⟨rfl, trivial⟩ ⟨Nat.zero_le _, rfl, fun _ _ => rfl, hw⟩ ?_
  clear hw
  rintro σ2 ⟨k, Rs⟩ w ⟨hk, hrl, hre, hw⟩
  simp only at hk hrl hre hw
  repeat (first | refine go_run ?_ | (refine go_newP ?_; clear hw; intro p w hw) | (refine go_newW ?_; clear hw; intro w hw) | (refine go_newS ?_; clear hw; intro s w hw))
  refine go_if (fun h4 => ?_) (fun h4 => ?_)
  · have hkl : k < Ls.length := by omega
    obtain ⟨L, hL⟩ : ∃ L, L = Ls.getD k [] := ⟨_, rfl⟩
    have hmem := (hin k hkl).mem
    have hLl := (hin k hkl).len
    have hrk := hre k (Nat.le_refl _)
    rw [← hL] at hmem hrk hLl
    have hrow : RS tInt w (vget ls k) L := by rw [← hrk]; exact (hw.focus 0 rfl).row (by omega)
    repeat (first | refine go_run ?_ | (refine go_newP ?_; clear hw; intro p w hw) | (refine go_newW ?_; clear hw; intro w hw) | (refine go_newS ?_; clear hw; intro s w hw))
    have hw5 := hw.rowOut (i := k) (by omega)
    rw [hrk] at hw5
    rw [← mixK_of (L := L) (g := fun i => L.getD i tInt.dflt + 1)] at hw5
    clear hw hrow
    refine vc_loop [16, 75, 76, 77, 78, 79, 80, 81, 82, 83, 84] (G := Nat) (fun j => [(75, .int .i64 j)]) (fun j w => j ≤ L.length ∧ Sat w0 w (OS tInt 3 (vget ls k) (mixK L.length (fun i => L.getD i tInt.dflt) (fun i => L.getD i tInt.dflt + 1) j) :: ((List.zipWith (OS tInt 3) ls Rs).eraseIdx k ++ [OS tVal 22 lv ls, RowsAt tInt 3 bs Ps, OS tVal 22 bv bs, RdH (fun w => RPt w pp t Ls Ds Ps), Box pt 26 [a, b, c, d]]))) (fun j => L.length - j) 0 (fun _ => rfl) ⟨rfl, trivial⟩ ⟨Nat.zero_le _, hw5⟩ ?_
    clear hw5
    rintro σ3 j w ⟨hj, hw⟩
    have hml := mixK_len L.length (fun i => L.getD i tInt.dflt) (fun i => L.getD i tInt.dflt + 1) j
    repeat (first | refine go_run ?_ | (refine go_newP ?_; clear hw; intro p w hw) | (refine go_newW ?_; clear hw; intro w hw) | (refine go_newS ?_; clear hw; intro s w hw))
    refine go_if (fun h5 => ?_) (fun h5 => ?_)
    · have hjl : j < L.length := by omega
      have hb1 := hmem _ (mem_getD tInt.dflt hjl)
      have hat := mixK_at (n := L.length) (f := (fun i => L.getD i tInt.dflt)) (g := fun i => L.getD i tInt.dflt + 1) hjl
      repeat (first | refine go_run ?_ | (refine go_newP ?_; clear hw; intro p w hw) | (refine go_newW ?_; clear hw; intro w hw) | (refine go_newS ?_; clear hw; intro s w hw))
      have e := mixK_set (n := L.length) (f := (fun i => L.getD i tInt.dflt)) (g := fun i => L.getD i tInt.dflt + 1) (j := j)
      rw [hat, e] at hw
      exact ⟨j + 1, ⟨rfl, trivial⟩, by repeat (first | exact agree_refl | (apply agree_upd rfl) | (apply agree_mix rfl) | (apply agree_sets rfl)), ⟨by omega, hw⟩, by omega⟩
    have hje : j = L.length := by omega
    subst hje
    have hw6 := Sat.rowIn (i := k) (by omega) (by omega) hw
    have e1 : ls.set k (vget ls k) = ls := by
      apply List.ext_getElem (by simp)
      intro i h1 h2
      rw [List.getElem_set]
      split
      · rename_i e; subst e; simp [vget_eq, List.getD, h2]
      · rfl
    rw [e1] at hw6
    repeat (first | refine go_run ?_ | (refine go_newP ?_; clear hw; intro p w hw) | (refine go_newW ?_; clear hw; intro w hw) | (refine go_newS ?_; clear hw; intro s w hw))
    exact ⟨(k + 1, Rs.set k (mixK L.length (fun i => L.getD i tInt.dflt) (fun i => L.getD i tInt.dflt + 1) L.length)), ⟨rfl, trivial⟩, by repeat (first | exact agree_refl | (apply agree_upd rfl) | (apply agree_mix rfl) | (apply agree_sets rfl)), ⟨by simp only; omega, by simp only [List.length_set]; exact hrl, fun i hi => by simp only at hi ⊢; rw [getD_set_ge (by omega)]; exact hre i (by omega), hw6⟩, by simp only; omega⟩
  have hke : k = Ls.length := by omega
  subst hke
  repeat (first | refine go_run ?_ | (refine go_newP ?_; clear hw; intro p w hw) | (refine go_newW ?_; clear hw; intro w hw) | (refine go_newS ?_; clear hw; intro s w hw))
  refine st_call rfl (Parts_spec (hw.rdE 4 rfl) (by omega) (fun i hi => by have := (hpc i (by omega)).1; omega)) ?_
  rintro _ w' ⟨pv2, ps2, rfl, hk'⟩
  replace hw := hw.call2 hk'
  clear hk'
  refine ⟨_, rfl, ?_⟩
  have hpsl2 := hw.rowsLen
  repeat (first | refine go_run ?_ | (refine go_newP ?_; clear hw; intro p w hw) | (refine go_newWr ?_; clear hw; intro w hw) | (refine go_newS ?_; clear hw; intro s w hw))
  have hd1 : decide ((ps2.length : Int) = (bs.length : Int)) = true := decide_eq_true (by omega)
  simp only [hd1, Bool.not_true, gvff, gvtt]
  repeat (first | refine go_run ?_ | (refine go_newP ?_; clear hw; intro p w hw) | (refine go_newWr ?_; clear hw; intro w hw) | (refine go_newS ?_; clear hw; intro s w hw))
  refine st_call rfl (PValue_spec (hw.rdE 6 rfl) hR (by omega) hpe (hb.at hw)) ?_
  rintro _ w' ⟨rfl, hk'⟩
  replace hw := hw.call0 hk'
  clear hk'
  refine ⟨_, rfl, ?_⟩
  repeat (first | refine go_runC ?_ | (refine go_newP ?_; clear hw; intro p w hw) | (refine go_newW ?_; clear hw; intro w hw) | (refine go_newS ?_; clear hw; intro s w hw))
  simp only [decide_true, Bool.not_true, Bool.or_self, gvff]
  repeat (first | refine go_run ?_ | (refine go_newP ?_; clear hw; intro p w hw) | (refine go_newW ?_; clear hw; intro w hw) | (refine go_newS ?_; clear hw; intro s w hw))
  have hw : Sat w0 w' [RowsAt tInt 3 ps2 Ps, OS tVal 22 pv2 ps2, RowsAt tInt 3 bs Ps, OS tVal 22 bv bs, Box pt 26 [a, b, c, d]] := by
    have hw2 : Sat w0 w' [RowsAt tInt 3 ps2 Ps, OS tVal 22 pv2 ps2, RowsAt tInt 3 ls Rs, OS tVal 22 lv ls, RowsAt tInt 3 bs Ps, OS tVal 22 bv bs, RdH (fun w => RPt w pp t Ls Ds Ps), Box pt 26 [a, b, c, d]] := hw
    exact hw2.sel
  refine vc_loop [4, 18, 103, 104, 105, 106, 107, 108, 109, 110, 111, 112, 113, 114, 115, 116] (G := Nat) (fun k => [(103, .int .i64 k)]) (fun k w => k ≤ Ps.length ∧ Sat w0 w [RowsAt tInt 3 ps2 Ps, OS tVal 22 pv2 ps2, RowsAt tInt 3 bs Ps, OS tVal 22 bv bs, Box pt 26 [a, b, c, d]]) (fun k => Ps.length - k) 0 (fun _ => rfl) ⟨rfl, trivial⟩ ⟨Nat.zero_le _, hw⟩ ?_
  clear hw
  rintro σ4 k w ⟨hk, hw⟩
  repeat (first | refine go_run ?_ | (refine go_newP ?_; clear hw; intro p w hw) | (refine go_newW ?_; clear hw; intro w hw) | (refine go_newS ?_; clear hw; intro s w hw))
  refine go_if (fun h6 => ?_) (fun h6 => ?_)
  · have hkl : k < Ps.length := by omega
    repeat (first | refine go_run ?_ | (refine go_newP ?_; clear hw; intro p w hw) | (refine go_newWr ?_; clear hw; intro w hw) | (refine go_newS ?_; clear hw; intro s w hw))
    refine vc_plan [.op 0, .op 1, .op 2, .op 3, .op 4, .op 5, .op 6, .op 7, .op 8, .op 9] hw (by kernel_rfl) ?_; clear hw; intro w hw
    repeat (first | refine go_run ?_ | (refine go_newP ?_; clear hw; intro p w hw) | (refine go_newWr ?_; clear hw; intro w hw) | (refine go_newS ?_; clear hw; intro s w hw))
    refine st_call rfl (Ints_spec (a := vget ps2 k) (b := vget bs k) ((hw.focus 0 rfl).row hkl) ((hw.focus 2 rfl).row hkl)) ?_
    rintro _ w' ⟨⟨r, rfl, hr⟩, hk'⟩
    replace hw := hw.call0 hk'
    clear hk'
    obtain rfl : r = true := hr.2 rfl
    clear hr
    refine ⟨_, rfl, ?_⟩
    repeat (first | refine go_run ?_ | (refine go_newP ?_; clear hw; intro p w hw) | (refine go_newW ?_; clear hw; intro w hw) | (refine go_newS ?_; clear hw; intro s w hw))
    exact ⟨k + 1, ⟨rfl, trivial⟩, by repeat (first | exact agree_refl | (apply agree_upd rfl) | (apply agree_mix rfl) | (apply agree_sets rfl)), ⟨by omega, hw⟩, by omega⟩
  · repeat (first | refine go_run ?_ | (refine go_newP ?_; clear hw; intro p w hw) | (refine go_newW ?_; clear hw; intro w hw) | (refine go_newS ?_; clear hw; intro s w hw))
    exact res_one (v := .bool true) rfl rfl ⟨rfl, sat_none hw⟩
end Go.Proofs.Ytnoiagnmbipppaa
