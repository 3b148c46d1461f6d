
/-
  Contract of 'patterns.New'.
-/
import Derived.Test.YtemnlcnjpjdoaaaGreatDoorWPat2
import Derived.Test.YtemnlcnjpjdoaaaGreatDoorMTA
import Derived.Test.YtemnlcnjpjdoaaaGreatDoorWSatNew
set_option linter.unusedSimpArgs false
set_option linter.unusedVariables false
namespace Go.Proofs.YtemnlcnjpjdoaaaGreatDoor
open Go.Sl Go
attribute [local irreducible] vc opsW opsD opV opW PureV ReadV Thn Blk
/-- What is read of databases and cliques. -/
def RCan (w : World) (p : Addr) (t : TTask) (Ls Ds Cs : List (List Int)) : Prop := ∃ vv dv cv qs fs, BoxR w p [vv, dv, cv] ∧ RS tInt w vv t.vars ∧ RS tVal w dv qs ∧ DbF t Ls qs Ds w ∧ RLs w cv fs Cs
open Classical in
/-- The error of a list of patterns, without that of their databases. -/
noncomputable def clqErr (t : TTask) (Ls : List (List Int)) : Int := if lErr t Ls ≠ 0 then lErr t Ls else if 32 < Ls.length then 5 else if 0 < Ls.length ∧ ClqFull Ls.length (nbA Ls.length (arcP t Ls Ls.length)) then 10 else 0
theorem clqErr_l {t : TTask} {Ls : List (List Int)} (h : lErr t Ls ≠ 0) : clqErr t Ls = lErr t Ls := by rw [clqErr, if_pos h]
theorem clqErr_5 {t : TTask} {Ls : List (List Int)} (h : lErr t Ls = 0) (h1 : 32 < Ls.length) : clqErr t Ls = 5 := by rw [clqErr, if_neg (by simp [h]), if_pos h1]
theorem clqErr_10 {t : TTask} {Ls : List (List Int)} (h : lErr t Ls = 0) (h0 : 0 < Ls.length) (h1 : Ls.length ≤ 32) (hf : ClqFull Ls.length (nbA Ls.length (arcP t Ls Ls.length))) : clqErr t Ls = 10 := by rw [clqErr, if_neg (by simp [h]), if_neg (by omega), if_pos ⟨h0, hf⟩]
theorem clqErr_nil {t : TTask} {Ls : List (List Int)} (h : lErr t Ls = 0) (h0 : Ls.length = 0) : clqErr t Ls = 0 := by rw [clqErr, if_neg (by simp [h]), if_neg (by omega), if_neg (by omega)]
theorem clq_not_full {n : Nat} {N : Nat → Nat} {Cs : List (List Int)} (hc : CliqL n N Cs) (hl : Cs.length ≤ 4096) : ¬ ClqFull n N := by
  rintro ⟨M, hd, hml, hm⟩
  have h1 := bits_nodup hd hm
  have h2 := sub_len h1 (M := Cs) fun x hx => by
    obtain ⟨C, hC, rfl⟩ := List.mem_map.1 hx
    exact (hc _).2 ⟨C, hm C hC, rfl⟩
  rw [List.length_map] at h2
  omega
theorem clqErr_no {t : TTask} {Ls Cs : List (List Int)} (h : lErr t Ls = 0) (h1 : Ls.length ≤ 32) (hc : CliqL Ls.length (nbA Ls.length (arcP t Ls Ls.length)) Cs) (hl : Cs.length ≤ 4096) : clqErr t Ls = 0 := by rw [clqErr, if_neg (by simp [h]), if_neg (by omega), if_neg (fun hh => clq_not_full hc hl hh.2)]
set_option maxRecDepth 8000 in
set_option maxHeartbeats 8000000 in
theorem paNew_spec {w0 : World} {a b c d s : Value} {vs : List OpV} {t : TTask} {ss : List Value} {Ls : List (List Int)} (ht : RTask w0 a b c d vs t) (hl : RLs w0 s ss Ls) (hT : TabB w0) :
    Calls Tryz.prog 15 #[.agg #[a, b, c, d], s] w0 fun e w' =>
      (clqErr t Ls ≠ 0 ∧ e = .returned (.tuple #[.pointer none, errV (clqErr t Ls)]) ∧ Sat w0 w' []) ∨
      (clqErr t Ls = 0 ∧ (∃ k, k < Ls.length ∧ (∀ i, i < k → bErr t (Ls.getD i []) [] = 0) ∧ bErr t (Ls.getD k []) [] ≠ 0 ∧ e = .returned (.tuple #[.pointer none, errV (bErr t (Ls.getD k []) [])])) ∧ Sat w0 w' []) ∨
      (clqErr t Ls = 0 ∧ lErr t Ls = 0 ∧ Ls.length ≤ 32 ∧ (∀ i, i < Ls.length → bErr t (Ls.getD i []) [] = 0) ∧ ∃ p Ds Cs, e = .returned (.tuple #[.pointer (some p), .nilIface]) ∧ (Ls = [] → Cs = []) ∧ (Ls ≠ [] → CliqL Ls.length (nbA Ls.length (arcP t Ls Ls.length)) Cs) ∧ Cs.length ≤ 4096 ∧ Ds.length = Ls.length ∧ (∀ i, i < Ls.length → DistOk (pEdges t (Ls.getD i [])) (csU t []) (GoalPK t (Ls.getD i [])) (cntL t.vars (Ls.getD i [])).toNat (Ds.getD i [])) ∧ Sat w0 w' [RdH fun w => RCan w p t Ls Ds Cs]) := by
  have ht' := ht
  obtain ⟨ha, hb, hc, hd⟩ := ht
  have hlr := hl.rs
  have hln := hl.len
  have hlb := hlr.big
  have hw := Sat.start w0
  refine calls_of_vc (args := [.agg #[a, b, c, d], s]) mixed Tryz.func15 rfl (by kernel_rfl) (Nat.le_of_ble_eq_true rfl) ?_
  repeat (first | refine go_run ?_ | (refine go_newP ?_; clear hw; intro p w hw) | (refine go_newW ?_; clear hw; intro w hw) | (refine go_newS ?_; clear hw; intro s w hw))
  obtain ⟨pt, hpt⟩ : ∃ pt, pt = p := ⟨p, rfl⟩
  subst hpt
  refine st_call rfl (paCliques_spec (ht'.at hw) (hl.at hw) (hT.at hw)) ?_
  rintro _ w' hR
  rcases hR with ⟨hk, rfl, hk'⟩ | ⟨hk, h32, rfl, hk'⟩ | ⟨hk, hz, rfl, hk'⟩ | ⟨hk, h0, h32, hF, rfl, hk'⟩ | ⟨hk, h0, h32, fv, fs, Cs, rfl, hlex, hcl, hcnt, hk'⟩
  · have hce := clqErr_l hk
    replace hw := hw.call0 hk'
    refine ⟨_, rfl, ?_⟩
    rw [hce, errV_some hk]
    repeat (first | refine go_run ?_ | (refine go_newP ?_; clear hw; intro p w hw) | (refine go_newW ?_; clear hw; intro w hw) | (refine go_newS ?_; clear hw; intro s w hw))
    exact res_two (v := .pointer none) (v' := .iface 85 (.int .i64 (lErr t Ls))) rfl rfl rfl (.inl ⟨hk, rfl, hw.sel⟩)
  · have hce := clqErr_5 hk h32
    replace hw := hw.call0 hk'
    refine ⟨_, rfl, ?_⟩
    rw [hce]
    repeat (first | refine go_run ?_ | (refine go_newP ?_; clear hw; intro p w hw) | (refine go_newW ?_; clear hw; intro w hw) | (refine go_newS ?_; clear hw; intro s w hw))
    exact res_two (v := .pointer none) (v' := errV 5) rfl rfl rfl (.inl ⟨by decide, rfl, hw.sel⟩)
  · have hce := clqErr_nil hk hz
    have h32 : Ls.length ≤ 32 := by omega
    replace hw := ((hw.call0 hk').nil (T := tVal) (e := 22)).rows0 (T := tInt) (e := 3)
    clear hk'
    refine ⟨_, rfl, ?_⟩
    have hg : GoodT t := (good_iff t).1 (by
      by_cases h : checkT t = 0
      · exact h
      · exact absurd hk (by rw [lErr, if_pos h]; exact h))
    have hvb : t.vars.length ≤ 1099511627776 := by have := hg.vars; omega
    repeat (first | refine go_run ?_ | (refine go_newP ?_; clear hw; intro p w hw) | (refine go_newW ?_; clear hw; intro w hw) | (refine go_newS ?_; clear hw; intro s w hw))
    refine st_call rfl (Clone_spec (ha.at hw) hvb) ?_
    rintro _ w' ⟨vv, rfl, hk'⟩
    replace hw := hw.call1 hk'
    clear hk'
    refine ⟨_, rfl, ?_⟩
    have ovv := (hw.rs 0 rfl).one
    have ofv := (hw.rs 2 rfl).one
    repeat (first | refine go_run ?_ | (refine go_newP ?_; clear hw; intro p w hw) | (refine go_newW ?_; clear hw; intro w hw) | (refine go_newS ?_; clear hw; intro s w hw))
    refine st_build2 (v1 := vv) (v2 := .slice none 0 0) rfl rfl rfl (by simp only [List.all_cons, List.all_nil, ovv, ofv]; rfl) ?_
    refine st_boxAggNew (vs := [vv, .slice none 0 0, .slice none 0 0]) rfl hw ?_
    clear hw
    intro pp w hw
    repeat (first | refine go_run ?_ | (refine go_newP ?_; clear hw; intro p w hw) | (refine go_newW ?_; clear hw; intro w hw) | (refine go_newS ?_; clear hw; intro s w hw))
    have hw1 : Sat w0 w [RdH (DbF t Ls [] []), OS tVal 60 (.slice none 0 0) [], Box pp 92 [vv, .slice none 0 0, .slice none 0 0], OS tInt 3 vv t.vars, RowsAt tInt 3 [] [], OS tVal 22 (.slice none 0 0) [], Box pt 26 [a, b, c, d]] := by
      have hw2 : Sat w0 w [Box pp 92 [vv, .slice none 0 0, .slice none 0 0], OS tInt 3 vv t.vars, RowsAt tInt 3 [] [], OS tVal 22 (.slice none 0 0) [], Box pt 26 [a, b, c, d]] := hw
      have hw3 := Sat.rd0 (φ := DbF t Ls [] []) (fun w => ⟨rfl, fun i hi => absurd hi (Nat.not_lt_zero _)⟩) (hw2.nil (T := tVal) (e := 60))
      exact hw3.sel
    clear hw
    refine vc_loop [4, 5, 10, 11, 12, 30, 31, 32, 33, 34, 35, 36, 37, 38, 39, 40, 41, 42, 43, 44, 45, 46, 47, 48, 49, 50, 51, 52, 53] (G := Nat × Value × List Value × List (List Int)) (fun x => [(30, .int .i64 x.1)]) (fun x w => x.1 ≤ Ls.length ∧ x.2.2.1.length = x.1 ∧ x.2.2.2.length = x.1 ∧ (∀ i, i < x.1 → bErr t (Ls.getD i []) [] = 0 ∧ DistOk (pEdges t (Ls.getD i [])) (csU t []) (GoalPK t (Ls.getD i [])) (cntL t.vars (Ls.getD i [])).toNat (x.2.2.2.getD i [])) ∧ Sat w0 w [RdH (DbF t Ls x.2.2.1 x.2.2.2), OS tVal 60 x.2.1 x.2.2.1, Box pp 92 [vv, x.2.1, .slice none 0 0], OS tInt 3 vv t.vars, RowsAt tInt 3 [] [], OS tVal 22 (.slice none 0 0) [], Box pt 26 [a, b, c, d]]) (fun x => Ls.length - x.1) (0, .slice none 0 0, [], []) (fun _ => rfl) ⟨rfl, trivial⟩ ⟨Nat.zero_le _, rfl, rfl, fun i hi => absurd hi (Nat.not_lt_zero _), hw1⟩ ?_
    clear hw1
    rintro σ ⟨k, dv, qs, Ds⟩ w ⟨hk1, hql, hDl, hD, hw⟩
    simp only at hk1 hql hDl hD hw
    repeat (first | refine go_run ?_ | (refine go_newP ?_; clear hw; intro p w hw) | (refine go_newW ?_; clear hw; intro w hw) | (refine go_newS ?_; clear hw; intro s w hw))
    refine go_if (fun h1 => ?_) (fun h1 => ?_)
    · have hkl : k < Ls.length := by omega
      have hrk := hl.at_ k hkl
      repeat (first | refine go_run ?_ | (refine go_newP ?_; clear hw; intro p w hw) | (refine go_newW ?_; clear hw; intro w hw) | (refine go_newS ?_; clear hw; intro s w hw))
      refine st_call rfl (Build_spec (kv := .slice none 0 0) (vp := vget ss k) (L := Ls.getD k []) (cs := []) (ht'.at hw) (hrk.at hw) RS.nil) ?_
      rintro _ w' (⟨hb, rfl, hk'⟩ | ⟨hb, hp, _, _, q, D, rfl, hDk, hk'⟩)
      · replace hw := hw.call0 hk'
        clear hk'
        refine ⟨_, rfl, ?_⟩
        rw [errV_some hb]
        repeat (first | refine go_run ?_ | (refine go_newP ?_; clear hw; intro p w hw) | (refine go_newW ?_; clear hw; intro w hw) | (refine go_newS ?_; clear hw; intro s w hw))
        exact res_two (v := .pointer none) (v' := .iface 85 (.int .i64 (bErr t (Ls.getD k []) []))) rfl rfl rfl (.inr (.inl ⟨hce, ⟨k, hkl, fun i hi => (hD i hi).1, hb, by rw [errV_some hb]⟩, hw.sel⟩))
      · replace hw := hw.call1 hk'
        clear hk'
        refine ⟨_, rfl, ?_⟩
        have hqb : qs.length ≤ 32 := by omega
        repeat (first | refine go_run ?_ | (refine go_newP ?_; clear hw; intro p w hw) | (refine go_newW ?_; clear hw; intro w hw) | (refine go_newS ?_; clear hw; intro s w hw))
        obtain ⟨dv2, hdv2⟩ : ∃ dv2, dv2 = s := ⟨s, rfl⟩
        subst hdv2
        have hw1 : Sat w0 w [DbO q (dbI t (Ls.getD k []) D), RdH (DbF t Ls qs Ds), OS tVal 60 dv2 (qs ++ [.pointer (some q)]), Box pp 92 [vv, dv2, .slice none 0 0], OS tInt 3 vv t.vars, RowsAt tInt 3 [] [], OS tVal 22 (.slice none 0 0) [], Box pt 26 [a, b, c, d]] := hw.tail
        have hw3 := Sat.rd2 (χ := DbF t Ls (qs ++ [.pointer (some q)]) (Ds ++ [D])) (fun w h1 h2 => h2.snoc (by rw [hDl]; exact h1)) (Sat.rd (Δ := [DbO q (dbI t (Ls.getD k []) D)]) (φ := fun w => RDb w q (dbI t (Ls.getD k []) D)) (fun _ _ h => satRdb h 0 rfl) hw1)
        refine ⟨(k + 1, dv2, qs ++ [.pointer (some q)], Ds ++ [D]), ⟨rfl, trivial⟩, by repeat (first | exact agree_refl | (apply agree_upd rfl) | (apply agree_mix rfl) | (apply agree_sets rfl)), ⟨by omega, by simp [hql], by simp [hDl], fun i hi => ?_, hw3.sel⟩, by simp only; omega⟩
        by_cases h : i = k
        · subst h
          refine ⟨hb, ?_⟩
          rw [show (Ds ++ [D]).getD i [] = D by simp [List.getD, List.getElem?_append, hDl]]
          exact hDk
        · have := hD i (by omega)
          rw [show (Ds ++ [D]).getD i [] = Ds.getD i [] by simp [List.getD, List.getElem?_append, show i < Ds.length by omega]]
          exact this
    · have hke : k = Ls.length := by omega
      subst hke
      repeat (first | refine go_run ?_ | (refine go_newP ?_; clear hw; intro p w hw) | (refine go_newW ?_; clear hw; intro w hw) | (refine go_newS ?_; clear hw; intro s w hw))
      have hw1 : Sat w0 w [RdH (DbF t Ls qs Ds), OS tVal 60 dv qs, Box pp 92 [vv, dv, .slice none 0 0], OS tInt 3 vv t.vars, RowsAt tInt 3 [] [], OS tVal 22 (.slice none 0 0) []] := hw.sel
      have hw2 := Sat.rd (Δ := [RdH (DbF t Ls qs Ds), OS tVal 60 dv qs, Box pp 92 [vv, dv, .slice none 0 0], OS tInt 3 vv t.vars, RowsAt tInt 3 [] [], OS tVal 22 (.slice none 0 0) []]) (Γ := []) (φ := fun w => RCan w pp t Ls Ds []) (fun _ w h => ⟨vv, dv, .slice none 0 0, qs, [], h.boxR 2 rfl, h.rs 3 rfl, h.rs 1 rfl, h.rdE 0 rfl, h.rs 5 rfl, (h.focus 4 rfl).rowsLen, fun i hi => (h.focus 4 rfl).row hi⟩) hw1
      exact res_two (v := .pointer (some pp)) (v' := .nilIface) rfl rfl rfl (.inr (.inr ⟨hce, hk, h32, fun i hi => (hD i hi).1, pp, Ds, [], rfl, fun _ => rfl, fun h => absurd (List.eq_nil_of_length_eq_zero hz) h, Nat.zero_le _, hDl, fun i hi => (hD i hi).2, hw2⟩))
  · have hce := clqErr_10 hk h0 h32 hF
    replace hw := hw.call0 hk'
    refine ⟨_, rfl, ?_⟩
    rw [hce]
    repeat (first | refine go_run ?_ | (refine go_newP ?_; clear hw; intro p w hw) | (refine go_newW ?_; clear hw; intro w hw) | (refine go_newS ?_; clear hw; intro s w hw))
    exact res_two (v := .pointer none) (v' := errV 10) rfl rfl rfl (.inl ⟨by decide, rfl, hw.sel⟩)
  · have hce := clqErr_no hk h32 hcl hcnt
    replace hw := hw.call2 hk'
    clear hk'
    refine ⟨_, rfl, ?_⟩
    have hg : GoodT t := (good_iff t).1 (by
      by_cases h : checkT t = 0
      · exact h
      · exact absurd hk (by rw [lErr, if_pos h]; exact h))
    have hvb : t.vars.length ≤ 1099511627776 := by have := hg.vars; omega
    repeat (first | refine go_run ?_ | (refine go_newP ?_; clear hw; intro p w hw) | (refine go_newW ?_; clear hw; intro w hw) | (refine go_newS ?_; clear hw; intro s w hw))
    refine st_call rfl (Clone_spec (ha.at hw) hvb) ?_
    rintro _ w' ⟨vv, rfl, hk'⟩
    replace hw := hw.call1 hk'
    clear hk'
    refine ⟨_, rfl, ?_⟩
    have ovv := (hw.rs 0 rfl).one
    have ofv := (hw.rs 2 rfl).one
    repeat (first | refine go_run ?_ | (refine go_newP ?_; clear hw; intro p w hw) | (refine go_newW ?_; clear hw; intro w hw) | (refine go_newS ?_; clear hw; intro s w hw))
    refine st_build2 (v1 := vv) (v2 := fv) rfl rfl rfl (by simp only [List.all_cons, List.all_nil, ovv, ofv]; rfl) ?_
    refine st_boxAggNew (vs := [vv, .slice none 0 0, fv]) rfl hw ?_
    clear hw
    intro pp w hw
    repeat (first | refine go_run ?_ | (refine go_newP ?_; clear hw; intro p w hw) | (refine go_newW ?_; clear hw; intro w hw) | (refine go_newS ?_; clear hw; intro s w hw))
    have hw1 : Sat w0 w [RdH (DbF t Ls [] []), OS tVal 60 (.slice none 0 0) [], Box pp 92 [vv, .slice none 0 0, fv], OS tInt 3 vv t.vars, RowsAt tInt 3 fs Cs, OS tVal 22 fv fs, Box pt 26 [a, b, c, d]] := by
      have hw2 : Sat w0 w [Box pp 92 [vv, .slice none 0 0, fv], OS tInt 3 vv t.vars, RowsAt tInt 3 fs Cs, OS tVal 22 fv fs, Box pt 26 [a, b, c, d]] := hw
      have hw3 := Sat.rd0 (φ := DbF t Ls [] []) (fun w => ⟨rfl, fun i hi => absurd hi (Nat.not_lt_zero _)⟩) (hw2.nil (T := tVal) (e := 60))
      exact hw3.sel
    clear hw
    refine vc_loop [4, 5, 10, 11, 12, 30, 31, 32, 33, 34, 35, 36, 37, 38, 39, 40, 41, 42, 43, 44, 45, 46, 47, 48, 49, 50, 51, 52, 53] (G := Nat × Value × List Value × List (List Int)) (fun x => [(30, .int .i64 x.1)]) (fun x w => x.1 ≤ Ls.length ∧ x.2.2.1.length = x.1 ∧ x.2.2.2.length = x.1 ∧ (∀ i, i < x.1 → bErr t (Ls.getD i []) [] = 0 ∧ DistOk (pEdges t (Ls.getD i [])) (csU t []) (GoalPK t (Ls.getD i [])) (cntL t.vars (Ls.getD i [])).toNat (x.2.2.2.getD i [])) ∧ Sat w0 w [RdH (DbF t Ls x.2.2.1 x.2.2.2), OS tVal 60 x.2.1 x.2.2.1, Box pp 92 [vv, x.2.1, fv], OS tInt 3 vv t.vars, RowsAt tInt 3 fs Cs, OS tVal 22 fv fs, Box pt 26 [a, b, c, d]]) (fun x => Ls.length - x.1) (0, .slice none 0 0, [], []) (fun _ => rfl) ⟨rfl, trivial⟩ ⟨Nat.zero_le _, rfl, rfl, fun i hi => absurd hi (Nat.not_lt_zero _), hw1⟩ ?_
    clear hw1
    rintro σ ⟨k, dv, qs, Ds⟩ w ⟨hk1, hql, hDl, hD, hw⟩
    simp only at hk1 hql hDl hD hw
    repeat (first | refine go_run ?_ | (refine go_newP ?_; clear hw; intro p w hw) | (refine go_newW ?_; clear hw; intro w hw) | (refine go_newS ?_; clear hw; intro s w hw))
    refine go_if (fun h1 => ?_) (fun h1 => ?_)
    · have hkl : k < Ls.length := by omega
      have hrk := hl.at_ k hkl
      repeat (first | refine go_run ?_ | (refine go_newP ?_; clear hw; intro p w hw) | (refine go_newW ?_; clear hw; intro w hw) | (refine go_newS ?_; clear hw; intro s w hw))
      refine st_call rfl (Build_spec (kv := .slice none 0 0) (vp := vget ss k) (L := Ls.getD k []) (cs := []) (ht'.at hw) (hrk.at hw) RS.nil) ?_
      rintro _ w' (⟨hb, rfl, hk'⟩ | ⟨hb, hp, _, _, q, D, rfl, hDk, hk'⟩)
      · replace hw := hw.call0 hk'
        clear hk'
        refine ⟨_, rfl, ?_⟩
        rw [errV_some hb]
        repeat (first | refine go_run ?_ | (refine go_newP ?_; clear hw; intro p w hw) | (refine go_newW ?_; clear hw; intro w hw) | (refine go_newS ?_; clear hw; intro s w hw))
        exact res_two (v := .pointer none) (v' := .iface 85 (.int .i64 (bErr t (Ls.getD k []) []))) rfl rfl rfl (.inr (.inl ⟨hce, ⟨k, hkl, fun i hi => (hD i hi).1, hb, by rw [errV_some hb]⟩, hw.sel⟩))
      · replace hw := hw.call1 hk'
        clear hk'
        refine ⟨_, rfl, ?_⟩
        have hqb : qs.length ≤ 32 := by omega
        repeat (first | refine go_run ?_ | (refine go_newP ?_; clear hw; intro p w hw) | (refine go_newW ?_; clear hw; intro w hw) | (refine go_newS ?_; clear hw; intro s w hw))
        obtain ⟨dv2, hdv2⟩ : ∃ dv2, dv2 = s := ⟨s, rfl⟩
        subst hdv2
        have hw1 : Sat w0 w [DbO q (dbI t (Ls.getD k []) D), RdH (DbF t Ls qs Ds), OS tVal 60 dv2 (qs ++ [.pointer (some q)]), Box pp 92 [vv, dv2, fv], OS tInt 3 vv t.vars, RowsAt tInt 3 fs Cs, OS tVal 22 fv fs, Box pt 26 [a, b, c, d]] := hw.tail
        have hw3 := Sat.rd2 (χ := DbF t Ls (qs ++ [.pointer (some q)]) (Ds ++ [D])) (fun w h1 h2 => h2.snoc (by rw [hDl]; exact h1)) (Sat.rd (Δ := [DbO q (dbI t (Ls.getD k []) D)]) (φ := fun w => RDb w q (dbI t (Ls.getD k []) D)) (fun _ _ h => satRdb h 0 rfl) hw1)
        refine ⟨(k + 1, dv2, qs ++ [.pointer (some q)], Ds ++ [D]), ⟨rfl, trivial⟩, by repeat (first | exact agree_refl | (apply agree_upd rfl) | (apply agree_mix rfl) | (apply agree_sets rfl)), ⟨by omega, by simp [hql], by simp [hDl], fun i hi => ?_, hw3.sel⟩, by simp only; omega⟩
        by_cases h : i = k
        · subst h
          refine ⟨hb, ?_⟩
          rw [show (Ds ++ [D]).getD i [] = D by simp [List.getD, List.getElem?_append, hDl]]
          exact hDk
        · have := hD i (by omega)
          rw [show (Ds ++ [D]).getD i [] = Ds.getD i [] by simp [List.getD, List.getElem?_append, show i < Ds.length by omega]]
          exact this
    · have hke : k = Ls.length := by omega
      subst hke
      repeat (first | refine go_run ?_ | (refine go_newP ?_; clear hw; intro p w hw) | (refine go_newW ?_; clear hw; intro w hw) | (refine go_newS ?_; clear hw; intro s w hw))
      have hw1 : Sat w0 w [RdH (DbF t Ls qs Ds), OS tVal 60 dv qs, Box pp 92 [vv, dv, fv], OS tInt 3 vv t.vars, RowsAt tInt 3 fs Cs, OS tVal 22 fv fs] := hw.sel
      have hw2 := Sat.rd (Δ := [RdH (DbF t Ls qs Ds), OS tVal 60 dv qs, Box pp 92 [vv, dv, fv], OS tInt 3 vv t.vars, RowsAt tInt 3 fs Cs, OS tVal 22 fv fs]) (Γ := []) (φ := fun w => RCan w pp t Ls Ds Cs) (fun _ w h => ⟨vv, dv, fv, qs, fs, h.boxR 2 rfl, h.rs 3 rfl, h.rs 1 rfl, h.rdE 0 rfl, h.rs 5 rfl, (h.focus 4 rfl).rowsLen, fun i hi => (h.focus 4 rfl).row hi⟩) hw1
      exact res_two (v := .pointer (some pp)) (v' := .nilIface) rfl rfl rfl (.inr (.inr ⟨hce, hk, h32, fun i hi => (hD i hi).1, pp, Ds, Cs, rfl, fun h => absurd (show Ls.length = 0 by rw [h]; rfl) (by omega), fun _ => hcl, hcnt, hDl, fun i hi => (hD i hi).2, hw2⟩))
end Go.Proofs.YtemnlcnjpjdoaaaGreatDoor
