
/-
  The statement 'PatternsErrors' returns true.
-/
import Derived.Test.YtemnlcnjpjdoaaaGreatDoorW42c
import Derived.Test.YtemnlcnjpjdoaaaGreatDoorWPat
set_option linter.unusedSimpArgs false
set_option linter.unusedVariables false
namespace Go.Proofs.YtemnlcnjpjdoaaaGreatDoor
open Go.Sl Go
attribute [local irreducible] vc opsW opsD opV opW PureV ReadV Thn Blk
instance : IntT Tryz.prog 5 .u8 := ⟨by kernel_rfl⟩
instance : IntT Tryz.prog 3 .i64 := ⟨by kernel_rfl⟩
theorem beq_tfM : (true == false) = false := rfl
theorem beq_ftM : (false == true) = false := rfl
theorem gv_fM (v : Value) : gv false v = undef := by unfold gv; rfl
theorem gv_tM (v : Value) : gv true v = v := gv_true rfl
theorem ls_at (k : Nat) (L : List Int) (i : Nat) (hi : i < k + 1) : (List.replicate k ([] : List Int) ++ [L]).getD i [] = if i = k then L else [] := by
  split
  · rename_i e; exact getD_app_at (by simp [e])
  · rename_i e; rw [getD_app_l (by simp; omega)]; simp [List.getD, show i < k by omega]
theorem ls_len (k : Nat) (L : List Int) : (List.replicate k ([] : List Int) ++ [L]).length = k + 1 := by simp
theorem nil_pat (vars : List Int) : PatOk vars [] := (⟨fun v hv => by simp at hv, List.Pairwise.nil⟩ : InV vars []).pat
theorem want_c {t : TTask} {L : List Int} (h : checkT t ≠ 0) : lErr t [[], L] = checkT t := by unfold lErr; rw [if_pos h]
theorem want_2 {t : TTask} {L : List Int} (h : checkT t = 0) (hp : ¬ PatOk t.vars L) : lErr t [[], L] = 2 := by
  unfold lErr
  rw [if_neg (by simp [h]), if_neg (fun hh => hp (lErr_two.1 hh).2)]
theorem want_0 {t : TTask} {L : List Int} (h : checkT t = 0) (hp : PatOk t.vars L) : lErr t [[], L] = 0 := by
  unfold lErr
  rw [if_neg (by simp [h]), if_pos (lErr_two.2 ⟨nil_pat _, hp⟩)]
theorem want_ok {t : TTask} {L : List Int} (h : lErr t [[], L] = 0) : GoodT t ∧ PatOk t.vars L := by
  by_cases hc : checkT t = 0
  · by_cases hp : PatOk t.vars L
    · exact ⟨(good_iff t).1 hc, hp⟩
    · rw [want_2 hc hp] at h; cases h
  · rw [want_c hc] at h; exact absurd h hc
theorem lErr_ls {t : TTask} {L : List Int} {k : Nat} : lErr t (List.replicate k [] ++ [L]) = lErr t [[], L] := by
  by_cases hc : checkT t = 0
  · by_cases hp : PatOk t.vars L
    · rw [want_0 hc hp]
      unfold lErr
      rw [if_neg (by simp [hc]), if_pos]
      intro i hi
      rw [ls_len] at hi
      rw [ls_at k L i hi]
      split
      · exact hp
      · exact nil_pat _
    · rw [want_2 hc hp]
      unfold lErr
      rw [if_neg (by simp [hc]), if_neg]
      intro hh
      have := hh k (by rw [ls_len]; omega)
      rw [ls_at k L k (by omega), if_pos rfl] at this
      exact hp this
  · rw [want_c hc]
    unfold lErr
    rw [if_pos hc]
theorem ls_full {t : TTask} {L : List Int} {k : Nat} : ¬ ClqFull (List.replicate k [] ++ [L]).length (nbA (List.replicate k [] ++ [L]).length (arcP t (List.replicate k [] ++ [L]) (List.replicate k [] ++ [L]).length)) := by
  refine whole_not_full fun u v hu hv huv => ?_
  refine ((addG t (List.replicate k [] ++ [L])).add u v hu hv).2 ⟨huv, ?_⟩
  rw [ls_len] at hu hv
  rw [ls_at k L u hu, ls_at k L v hv]
  rintro op ho ⟨h1, h2⟩
  by_cases e : u = k
  · rw [if_neg (fun h => huv (e.trans h.symm))] at h2
    obtain ⟨x, _, hx⟩ := h2
    simp at hx
  · rw [if_neg e] at h1
    obtain ⟨x, _, hx⟩ := h1
    simp at hx
theorem clqErr_ls {t : TTask} {L : List Int} {k : Nat} : clqErr t (List.replicate k [] ++ [L]) = if lErr t [[], L] ≠ 0 then lErr t [[], L] else if 32 < k + 1 then 5 else 0 := by
  unfold clqErr
  rw [lErr_ls, ls_len]
  have h2 := ls_full (t := t) (L := L) (k := k)
  rw [ls_len] at h2
  split
  · rfl
  · split
    · rfl
    · rw [if_neg (fun h => h2 h.2)]
theorem ls_pats {t : TTask} {L : List Int} {k : Nat} (hs : SmallT t) (hp : PatOk t.vars L) (hc : cntL t.vars L ≤ 64) (hk : k + 1 ≤ 32) : PatsOk t (List.replicate k [] ++ [L]) where
  small := hs
  len := by rw [ls_len]; exact hk
  inv := fun i hi => by
    rw [ls_len] at hi
    rw [ls_at k L i hi]
    split
    · exact hp.inV
    · exact ⟨fun v hv => by simp at hv, List.Pairwise.nil⟩
  cnt := fun i hi => by
    rw [ls_len] at hi
    rw [ls_at k L i hi]
    split
    · exact hc
    · show (1 : Int) ≤ 64
      decide
  full := fun _ => ls_full
set_option maxRecDepth 8000 in
theorem paCliques_code {w0 : World} {a b c d s : Value} {vs : List OpV} {t : TTask} {ss : List Value} {Ls : List (List Int)} (ht : RTask w0 a b c d vs t) (hl : RLs w0 s ss Ls) (hT : TabB w0) :
    Calls Tryz.prog 29 #[.agg #[a, b, c, d], s] w0 fun e w' => ∃ fv, e = .returned (.tuple #[fv, errV (clqErr t Ls)]) ∧ Sat w0 w' [] := by
  refine (paCliques_spec ht hl hT).mono fun e w' h => ?_
  rcases h with ⟨h, he, hk⟩ | ⟨h, h1, he, hk⟩ | ⟨h, hz, he, hk⟩ | ⟨h, h0, h1, hf, he, hk⟩ | ⟨h, h0, h1, fv, fs, Cs, he, _, hc, hl, hk⟩
  · exact ⟨_, by rw [clqErr_l h]; exact he, hk⟩
  · exact ⟨_, by rw [clqErr_5 h h1]; exact he, hk⟩
  · exact ⟨_, by rw [clqErr_nil h hz, errV_zero rfl]; exact he, hk⟩
  · exact ⟨_, by rw [clqErr_10 h h0 h1 hf]; exact he, hk⟩
  · exact ⟨_, by rw [clqErr_no h h1 hc hl, errV_zero rfl]; exact he, hk.tail.tail⟩
set_option maxRecDepth 8000 in
theorem paNew_code {w0 : World} {a b c d s : Value} {vs : List OpV} {t : TTask} {ss : List Value} {Ls : List (List Int)} (ht : RTask w0 a b c d vs t) (hl : RLs w0 s ss Ls) (hT : TabB w0) (hp : clqErr t Ls = 0 → PatsOk t Ls) :
    Calls Tryz.prog 15 #[.agg #[a, b, c, d], s] w0 fun e w' => (clqErr t Ls ≠ 0 ∧ e = .returned (.tuple #[.pointer none, errV (clqErr t Ls)]) ∧ Sat w0 w' []) ∨ (clqErr t Ls = 0 ∧ ∃ p Ds Cs, e = .returned (.tuple #[.pointer (some p), .nilIface]) ∧ CanOk t Ls Ds Cs ∧ Sat w0 w' [RdH fun w => RCan w p t Ls Ds Cs]) := by
  by_cases h : clqErr t Ls = 0
  · exact (paNew_ok ht hl hT (hp h)).mono fun e w' hh => .inr ⟨h, hh⟩
  · refine (paNew_spec ht hl hT).mono fun e w' hh => ?_
    rcases hh with hh | ⟨h0, _⟩ | ⟨h0, _⟩
    · exact .inl hh
    · exact absurd h0 h
    · exact absurd h0 h
set_option maxRecDepth 8000 in
set_option maxHeartbeats 4000000 in
theorem PatternsErrors_walk {w0 : World} {a b c d vp : Value} {vs : List OpV} {t : TTask} {L : List Int} {many : Int} (ht : RTask w0 a b c d vs t) (hp : RS tInt w0 vp L) (hm0 : 0 ≤ many) (hm1 : many ≤ 255) (hT : TabB w0) :
    Calls Tryz.prog 8 #[.agg #[a, b, c, d], vp, .int .u8 many] w0 fun e w' => e = .returned (.bool true) ∧ Sat w0 w' [] := by
  have ht' := ht
  obtain ⟨ha, hb, hc, hd⟩ := ht
  have hrs := hd.rs
  have hdl := hd.len
  have hll := hrs.big
  have hpb := hp.big
  have hmm : 0 ≤ many.tmod 40 ∧ many.tmod 40 ≤ 39 := by rw [Int.tmod_eq_emod_of_nonneg hm0]; omega
  have hw := Sat.start w0
  refine calls_of_vc (args := [.agg #[a, b, c, d], vp, .int .u8 many]) mixed Tryz.func8 rfl (by kernel_rfl) (Nat.le_of_ble_eq_true rfl) ?_
  repeat (first | refine go_run ?_ | (refine go_newP ?_; clear hw; intro p w hw) | (refine go_newW ?_; clear hw; intro w hw) | (refine go_newS ?_; clear hw; intro s w hw))
  obtain ⟨pt, hpt⟩ : ∃ pt, pt = p := ⟨p, rfl⟩
  subst hpt
  refine go_case (fun h100 => ?_) (fun h100 => ?_)
  · simp only [h100, gvff, gvtt]; (try simp only [beq_iff_eq, Bool.and_eq_true, Bool.or_eq_true, decide_eq_true_eq, decide_eq_false_iff_not, Bool.not_eq_true, Bool.not_eq_false, Bool.not_eq_eq_eq_not, Bool.not_true, Bool.not_false, Bool.and_eq_false_iff, Bool.or_eq_false_iff, bne_iff_ne, ne_eq, Int.not_lt, Int.not_le, Nat.not_lt, Nat.not_le] at h100)
    repeat (first | refine go_run ?_ | (refine go_newP ?_; clear hw; intro p w hw) | (refine go_newW ?_; clear hw; intro w hw) | (refine go_newS ?_; clear hw; intro s w hw))
    refine st_call rfl (awake42_spec (hT.at hw)) ?_
    rintro _ w' ⟨rfl, hk'⟩
    replace hw := hw.call0 hk'
    clear hk'
    refine ⟨_, rfl, ?_⟩
    repeat (first | refine go_run ?_ | (refine go_newP ?_; clear hw; intro p w hw) | (refine go_newW ?_; clear hw; intro w hw) | (refine go_newS ?_; clear hw; intro s w hw))
    exact res_one (v := .bool true) rfl rfl ⟨rfl, sat_none hw⟩
  simp only [h100, gvff, gvtt]; (try simp only [beq_iff_eq, Bool.and_eq_true, Bool.or_eq_true, decide_eq_true_eq, decide_eq_false_iff_not, Bool.not_eq_true, Bool.not_eq_false, Bool.not_eq_eq_eq_not, Bool.not_true, Bool.not_false, Bool.and_eq_false_iff, Bool.or_eq_false_iff, bne_iff_ne, ne_eq, Int.not_lt, Int.not_le, Nat.not_lt, Nat.not_le] at h100)
  repeat (first | refine go_run ?_ | (refine go_newP ?_; clear hw; intro p w hw) | (refine go_newW ?_; clear hw; intro w hw) | (refine go_newS ?_; clear hw; intro s w hw))
  refine st_call rfl (awake42_spec (hT.at hw)) ?_
  rintro _ w' ⟨rfl, hk'⟩
  replace hw := hw.call0 hk'
  clear hk'
  refine ⟨_, rfl, ?_⟩
  repeat (first | refine go_run ?_ | (refine go_newP ?_; clear hw; intro p w hw) | (refine go_newW ?_; clear hw; intro w hw) | (refine go_newS ?_; clear hw; intro s w hw))
  refine vc_loop [6, 8, 42, 43, 44, 45, 46, 47, 48, 49, 50, 51, 52, 53, 54, 55, 56] (G := Nat) (fun k => [(42, .int .i64 k)]) (fun k w => k ≤ t.ops.length ∧ Sat w0 w [Box pt 26 [a, b, c, d]]) (fun k => t.ops.length - k) 0 (fun _ => rfl) ⟨rfl, trivial⟩ ⟨Nat.zero_le _, hw⟩ ?_
  clear hw
  rintro σ k w ⟨hk, hw⟩
  repeat (first | refine go_run ?_ | (refine go_newP ?_; clear hw; intro p w hw) | (refine go_newW ?_; clear hw; intro w hw) | (refine go_newS ?_; clear hw; intro s w hw))
  refine go_if (fun h1 => ?_) (fun h1 => ?_)
  · have hkl : k < t.ops.length := by omega
    have hop := hd.at_ k hkl
    have hone := hop.one
    have hpre := hop.pre
    obtain ⟨es, hes⟩ := hop.effs
    have hesr := hes.rs
    repeat (first | refine go_run ?_ | (refine go_newP ?_; clear hw; intro p w hw) | (refine go_newW ?_; clear hw; intro w hw) | (refine go_newS ?_; clear hw; intro s w hw))
    refine go_if (fun h2 => ?_) (fun h2 => ?_)
    · repeat (first | refine go_run ?_ | (refine go_newP ?_; clear hw; intro p w hw) | (refine go_newW ?_; clear hw; intro w hw) | (refine go_newS ?_; clear hw; intro s w hw))
      exact res_one (v := .bool true) rfl rfl ⟨rfl, sat_none hw⟩
    · repeat (first | refine go_run ?_ | (refine go_newP ?_; clear hw; intro p w hw) | (refine go_newW ?_; clear hw; intro w hw) | (refine go_newS ?_; clear hw; intro s w hw))
      exact ⟨k + 1, ⟨rfl, trivial⟩, by repeat (first | exact agree_refl | (apply agree_upd rfl) | (apply agree_mix rfl) | (apply agree_sets rfl)), ⟨by omega, hw.tail⟩, by omega⟩
  repeat (first | refine go_run ?_ | (refine go_newP ?_; clear hw; intro p w hw) | (refine go_newW ?_; clear hw; intro w hw) | (refine go_newS ?_; clear hw; intro s w hw))
  refine st_call rfl CValue_nil ?_
  rintro _ w' ⟨rfl, hk'⟩
  replace hw := hw.call0 hk'
  clear hk'
  refine ⟨_, rfl, ?_⟩
  repeat (first | refine go_run ?_ | (refine go_newP ?_; clear hw; intro p w hw) | (refine go_newW ?_; clear hw; intro w hw) | (refine go_newS ?_; clear hw; intro s w hw))
  refine st_call rfl (Good_spec (ht'.at hw)) ?_
  rintro _ w' ⟨⟨r, rfl, hr⟩, hk'⟩
  replace hw := hw.call0 hk'
  clear hk'
  refine ⟨_, rfl, ?_⟩
  repeat (first | refine go_runC ?_ | (refine go_newP ?_; clear hw; intro p w hw) | (refine go_newW ?_; clear hw; intro w hw) | (refine go_newS ?_; clear hw; intro s w hw))
  refine vc_cut [63, 64, 65, 66, 67, 68, 69, 10] (G := Unit) (fun _ => [(10, .int .i64 (lErr t [[], L]))]) (fun _ w => Sat w0 w [Box pt 26 [a, b, c, d]]) (fun _ => rfl) ?_ ?_
  · cases r
    · have hch : checkT t ≠ 0 := fun h => by have := hr.2 ((good_iff t).1 h); cases this
      repeat (first | refine go_run ?_ | (refine go_newP ?_; clear hw; intro p w hw) | (refine go_newW ?_; clear hw; intro w hw) | (refine go_newS ?_; clear hw; intro s w hw))
      refine st_call rfl (Check_spec (ht'.at hw)) ?_
      rintro _ w' ⟨rfl, hk'⟩
      replace hw := hw.call0 hk'
      clear hk'
      refine ⟨_, rfl, ?_⟩
      repeat (first | refine go_run ?_ | (refine go_newP ?_; clear hw; intro p w hw) | (refine go_newW ?_; clear hw; intro w hw) | (refine go_newS ?_; clear hw; intro s w hw))
      refine st_call rfl (Num_spec (checkT t)) ?_
      rintro _ w' ⟨rfl, hk'⟩
      replace hw := hw.call0 hk'
      clear hk'
      refine ⟨_, rfl, ?_⟩
      repeat (first | refine go_run ?_ | (refine go_newP ?_; clear hw; intro p w hw) | (refine go_newW ?_; clear hw; intro w hw) | (refine go_newS ?_; clear hw; intro s w hw))
      exact ⟨(), ⟨by rw [want_c hch]; rfl, trivial⟩, by repeat (first | exact agree_refl | (apply agree_upd rfl) | (apply agree_mix rfl) | (apply agree_sets rfl)), hw⟩
    · have hch : checkT t = 0 := (good_iff t).2 (hr.1 rfl)
      repeat (first | refine go_run ?_ | (refine go_newP ?_; clear hw; intro p w hw) | (refine go_newW ?_; clear hw; intro w hw) | (refine go_newS ?_; clear hw; intro s w hw))
      refine st_call rfl (rPattern_spec (va := vp) (ht'.at hw) (hp.at hw)) ?_
      rintro _ w' ⟨⟨r2, rfl, hr2⟩, hk'⟩
      replace hw := hw.call0 hk'
      clear hk'
      refine ⟨_, rfl, ?_⟩
      cases r2
      · have hno : ¬ PatOk t.vars L := fun h => by have := hr2.2 h; cases this
        repeat (first | refine go_run ?_ | (refine go_newP ?_; clear hw; intro p w hw) | (refine go_newW ?_; clear hw; intro w hw) | (refine go_newS ?_; clear hw; intro s w hw))
        exact ⟨(), ⟨by rw [want_2 hch hno]; rfl, trivial⟩, by repeat (first | exact agree_refl | (apply agree_upd rfl) | (apply agree_mix rfl) | (apply agree_sets rfl)), hw⟩
      · repeat (first | refine go_run ?_ | (refine go_newP ?_; clear hw; intro p w hw) | (refine go_newW ?_; clear hw; intro w hw) | (refine go_newS ?_; clear hw; intro s w hw))
        exact ⟨(), ⟨by rw [want_0 hch (hr2.1 rfl)]; rfl, trivial⟩, by repeat (first | exact agree_refl | (apply agree_upd rfl) | (apply agree_mix rfl) | (apply agree_sets rfl)), hw⟩
  clear hw
  rintro σ0 _ w hw
  repeat (first | refine go_run ?_ | (refine go_newP ?_; clear hw; intro p w hw) | (refine go_newW ?_; clear hw; intro w hw) | (refine go_newS ?_; clear hw; intro s w hw))
  refine step_pure rfl (pv_conv (ks := .u8) (n := many) rfl (by omega) (by omega)) ?_
  repeat (first | refine go_run ?_ | (refine go_newP ?_; clear hw; intro p w hw) | (refine go_newW ?_; clear hw; intro w hw) | (refine go_newS ?_; clear hw; intro s w hw))
  have cvp := hp.cells1
  have ovp := hp.one
  obtain ⟨av, hav⟩ : ∃ av, av = s := ⟨s, rfl⟩
  subst hav
  have hrl : ∀ w, Sat w0 w [OS tVal 22 av (List.replicate (many.tmod 40).toNat (Value.slice none 0 0) ++ [vp]), Box pt 26 [a, b, c, d]] → RLs w av (List.replicate (many.tmod 40).toNat (Value.slice none 0 0) ++ [vp]) (List.replicate (many.tmod 40).toNat [] ++ [L]) := fun w hw => ⟨hw.rs 0 rfl, by simp, fun i hi => by
    rw [ls_at _ _ _ (by rw [ls_len] at hi; exact hi)]
    split
    · rename_i e
      rw [vget_app_at (by simp [e])]
      exact hp.at hw
    · rename_i e
      rw [ls_len] at hi
      rw [vget_app_l (by simp; omega), vget_eq]
      have : (List.replicate (many.tmod 40).toNat (Value.slice none 0 0)).getD i undef = .slice none 0 0 := by simp [List.getD, show i < (many.tmod 40).toNat by omega]
      rw [this]
      exact RS.nil⟩
  have hw1 : Sat w0 w [OS tVal 22 av (List.replicate (many.tmod 40).toNat (Value.slice none 0 0) ++ [vp]), Box pt 26 [a, b, c, d]] := hw.tail
  clear hw
  have hw := hw1
  clear hw1
  refine st_call rfl (Additive_spec (xa := .slice none 0 0) (xb := vp) (A := []) (B := L) (ht'.at hw) RS.nil (hp.at hw)) ?_
  rintro _ w' ⟨⟨r3, rfl, _⟩, hk'⟩
  replace hw := hw.call0 hk'
  clear hk'
  generalize hev : errV (lErr t [[], L]) = ev
  refine ⟨_, rfl, ?_⟩
  repeat (first | refine go_run ?_ | (refine go_newP ?_; clear hw; intro p w hw) | (refine go_newW ?_; clear hw; intro w hw) | (refine go_newS ?_; clear hw; intro s w hw))
  refine st_call rfl (paCliques_code (s := av) (ss := (List.replicate (many.tmod 40).toNat (Value.slice none 0 0) ++ [vp])) (Ls := (List.replicate (many.tmod 40).toNat [] ++ [L])) (ht'.at hw) (hrl _ hw) (hT.at hw)) ?_
  rintro _ w' ⟨fv, rfl, hk'⟩
  replace hw := hw.call0 hk'
  clear hk'
  generalize hev2 : errV (clqErr t (List.replicate (many.tmod 40).toNat [] ++ [L])) = ev2
  refine ⟨_, rfl, ?_⟩
  repeat (first | refine go_run ?_ | (refine go_newP ?_; clear hw; intro p w hw) | (refine go_newW ?_; clear hw; intro w hw) | (refine go_newS ?_; clear hw; intro s w hw))
  refine st_call rfl (hev ▸ Num_spec (lErr t [[], L])) ?_
  rintro _ w' ⟨rfl, hk'⟩
  replace hw := hw.call0 hk'
  clear hk'
  refine ⟨_, rfl, ?_⟩
  repeat (first | refine go_run ?_ | (refine go_newP ?_; clear hw; intro p w hw) | (refine go_newWr ?_; clear hw; intro w hw) | (refine go_newS ?_; clear hw; intro s w hw))
  simp only [decide_true, beq_self_eq_true, beq_tfM, beq_ftM, Bool.false_and, Bool.true_and, Bool.not_true, Bool.not_false, Bool.cond_true, Bool.cond_false, gv_fM, gv_tM]
  repeat (first | refine go_run ?_ | (refine go_newP ?_; clear hw; intro p w hw) | (refine go_newWr ?_; clear hw; intro w hw) | (refine go_newS ?_; clear hw; intro s w hw))
  by_cases hz : lErr t [[], L] = 0
  rotate_left
  · have hce : clqErr t (List.replicate (many.tmod 40).toNat [] ++ [L]) = lErr t [[], L] := by rw [clqErr_ls, if_pos hz]
    have hpats : clqErr t (List.replicate (many.tmod 40).toNat [] ++ [L]) = 0 → PatsOk t (List.replicate (many.tmod 40).toNat [] ++ [L]) := fun h => absurd (hce.symm.trans h) hz
    have hdz : decide (lErr t [[], L] = 0) = false := decide_eq_false hz
    simp only [hdz, beq_self_eq_true, beq_tfM, beq_ftM, Bool.false_and, Bool.true_and, Bool.not_true, Bool.not_false, Bool.cond_true, Bool.cond_false, gv_fM, gv_tM]
    repeat (first | refine go_run ?_ | (refine go_newP ?_; clear hw; intro p w hw) | (refine go_newWr ?_; clear hw; intro w hw) | (refine go_newS ?_; clear hw; intro s w hw))
    refine st_call rfl (hev2 ▸ Num_spec (clqErr t (List.replicate (many.tmod 40).toNat [] ++ [L]))) ?_
    rintro _ w' ⟨rfl, hk'⟩
    replace hw := hw.call0 hk'
    clear hk'
    rw [hce]
    refine ⟨_, rfl, ?_⟩
    repeat (first | refine go_run ?_ | (refine go_newP ?_; clear hw; intro p w hw) | (refine go_newWr ?_; clear hw; intro w hw) | (refine go_newS ?_; clear hw; intro s w hw))
    simp only [decide_true, beq_self_eq_true, beq_tfM, beq_ftM, Bool.false_and, Bool.true_and, Bool.not_true, Bool.not_false, Bool.cond_true, Bool.cond_false, gv_fM, gv_tM]
    repeat (first | refine go_run ?_ | (refine go_newP ?_; clear hw; intro p w hw) | (refine go_newWr ?_; clear hw; intro w hw) | (refine go_newS ?_; clear hw; intro s w hw))
    simp only [hdz, beq_self_eq_true, beq_tfM, beq_ftM, Bool.false_and, Bool.true_and, Bool.not_true, Bool.not_false, Bool.cond_true, Bool.cond_false, gv_fM, gv_tM]
    repeat (first | refine go_run ?_ | (refine go_newP ?_; clear hw; intro p w hw) | (refine go_newWr ?_; clear hw; intro w hw) | (refine go_newS ?_; clear hw; intro s w hw))
    refine st_call rfl (paNew_code (s := av) (ss := (List.replicate (many.tmod 40).toNat (Value.slice none 0 0) ++ [vp])) (Ls := (List.replicate (many.tmod 40).toNat [] ++ [L])) (ht'.at hw) (hrl _ hw) (hT.at hw) hpats) ?_
    rintro _ w' (⟨_, rfl, hk'⟩ | ⟨h1, _⟩)
    rotate_left
    · exact absurd h1 (by rw [hce]; exact hz)
    replace hw := hw.call0 hk'
    clear hk'
    generalize hev3 : errV (clqErr t (List.replicate (many.tmod 40).toNat [] ++ [L])) = ev3
    refine ⟨_, rfl, ?_⟩
    repeat (first | refine go_run ?_ | (refine go_newP ?_; clear hw; intro p w hw) | (refine go_newWr ?_; clear hw; intro w hw) | (refine go_newS ?_; clear hw; intro s w hw))
    refine st_call rfl (hev3 ▸ Num_spec (clqErr t (List.replicate (many.tmod 40).toNat [] ++ [L]))) ?_
    rintro _ w' ⟨rfl, hk'⟩
    replace hw := hw.call0 hk'
    clear hk'
    rw [hce]
    refine ⟨_, rfl, ?_⟩
    repeat (first | refine go_run ?_ | (refine go_newP ?_; clear hw; intro p w hw) | (refine go_newWr ?_; clear hw; intro w hw) | (refine go_newS ?_; clear hw; intro s w hw))
    simp only [decide_true, hdz, beq_self_eq_true, beq_tfM, beq_ftM, Bool.false_and, Bool.true_and, Bool.not_true, Bool.not_false, Bool.cond_true, Bool.cond_false, gv_fM, gv_tM, Option.isNone_none]
    repeat (first | refine go_run ?_ | (refine go_newP ?_; clear hw; intro p w hw) | (refine go_newWr ?_; clear hw; intro w hw) | (refine go_newS ?_; clear hw; intro s w hw))
    simp only [decide_true, hdz, beq_self_eq_true, beq_tfM, beq_ftM, Bool.false_and, Bool.true_and, Bool.not_true, Bool.not_false, Bool.cond_true, Bool.cond_false, gv_fM, gv_tM, Option.isNone_none]
    repeat (first | refine go_run ?_ | (refine go_newP ?_; clear hw; intro p w hw) | (refine go_newWr ?_; clear hw; intro w hw) | (refine go_newS ?_; clear hw; intro s w hw))
    exact res_one (v := .bool true) rfl rfl ⟨rfl, sat_none hw⟩
  by_cases h32 : 32 < (many.tmod 40).toNat + 1
  · have hce : clqErr t (List.replicate (many.tmod 40).toNat [] ++ [L]) = 5 := by rw [clqErr_ls, if_neg (fun h => h hz), if_pos h32]
    have hpats : clqErr t (List.replicate (many.tmod 40).toNat [] ++ [L]) = 0 → PatsOk t (List.replicate (many.tmod 40).toNat [] ++ [L]) := fun h => absurd (hce.symm.trans h) (by decide)
    have hdz0 : decide (lErr t [[], L] = 0) = true := decide_eq_true hz
    have hd32 : decide (many.tmod 40 + 1 > 32) = true := decide_eq_true (by omega)
    have hdz : decide ((5 : Int) = 0) = false := rfl
    simp only [hdz0, hd32, beq_self_eq_true, beq_tfM, beq_ftM, Bool.false_and, Bool.true_and, Bool.not_true, Bool.not_false, Bool.cond_true, Bool.cond_false, gv_fM, gv_tM]
    repeat (first | refine go_run ?_ | (refine go_newP ?_; clear hw; intro p w hw) | (refine go_newWr ?_; clear hw; intro w hw) | (refine go_newS ?_; clear hw; intro s w hw))
    refine st_call rfl (hev2 ▸ Num_spec (clqErr t (List.replicate (many.tmod 40).toNat [] ++ [L]))) ?_
    rintro _ w' ⟨rfl, hk'⟩
    replace hw := hw.call0 hk'
    clear hk'
    rw [hce]
    refine ⟨_, rfl, ?_⟩
    repeat (first | refine go_run ?_ | (refine go_newP ?_; clear hw; intro p w hw) | (refine go_newWr ?_; clear hw; intro w hw) | (refine go_newS ?_; clear hw; intro s w hw))
    try simp only [decide_true, beq_self_eq_true, beq_tfM, beq_ftM, Bool.false_and, Bool.true_and, Bool.not_true, Bool.not_false, Bool.cond_true, Bool.cond_false, gv_fM, gv_tM]
    repeat (first | refine go_run ?_ | (refine go_newP ?_; clear hw; intro p w hw) | (refine go_newWr ?_; clear hw; intro w hw) | (refine go_newS ?_; clear hw; intro s w hw))
    try simp only [hdz, beq_self_eq_true, beq_tfM, beq_ftM, Bool.false_and, Bool.true_and, Bool.not_true, Bool.not_false, Bool.cond_true, Bool.cond_false, gv_fM, gv_tM]
    repeat (first | refine go_run ?_ | (refine go_newP ?_; clear hw; intro p w hw) | (refine go_newWr ?_; clear hw; intro w hw) | (refine go_newS ?_; clear hw; intro s w hw))
    refine st_call rfl (paNew_code (s := av) (ss := (List.replicate (many.tmod 40).toNat (Value.slice none 0 0) ++ [vp])) (Ls := (List.replicate (many.tmod 40).toNat [] ++ [L])) (ht'.at hw) (hrl _ hw) (hT.at hw) hpats) ?_
    rintro _ w' (⟨_, rfl, hk'⟩ | ⟨h1, _⟩)
    rotate_left
    · exact absurd h1 (by rw [hce]; decide)
    replace hw := hw.call0 hk'
    clear hk'
    generalize hev3 : errV (clqErr t (List.replicate (many.tmod 40).toNat [] ++ [L])) = ev3
    refine ⟨_, rfl, ?_⟩
    repeat (first | refine go_run ?_ | (refine go_newP ?_; clear hw; intro p w hw) | (refine go_newWr ?_; clear hw; intro w hw) | (refine go_newS ?_; clear hw; intro s w hw))
    refine st_call rfl (hev3 ▸ Num_spec (clqErr t (List.replicate (many.tmod 40).toNat [] ++ [L]))) ?_
    rintro _ w' ⟨rfl, hk'⟩
    replace hw := hw.call0 hk'
    clear hk'
    rw [hce]
    refine ⟨_, rfl, ?_⟩
    repeat (first | refine go_run ?_ | (refine go_newP ?_; clear hw; intro p w hw) | (refine go_newWr ?_; clear hw; intro w hw) | (refine go_newS ?_; clear hw; intro s w hw))
    try simp only [decide_true, hdz, beq_self_eq_true, beq_tfM, beq_ftM, Bool.false_and, Bool.true_and, Bool.not_true, Bool.not_false, Bool.cond_true, Bool.cond_false, gv_fM, gv_tM, Option.isNone_none]
    repeat (first | refine go_run ?_ | (refine go_newP ?_; clear hw; intro p w hw) | (refine go_newWr ?_; clear hw; intro w hw) | (refine go_newS ?_; clear hw; intro s w hw))
    try simp only [decide_true, hdz, beq_self_eq_true, beq_tfM, beq_ftM, Bool.false_and, Bool.true_and, Bool.not_true, Bool.not_false, Bool.cond_true, Bool.cond_false, gv_fM, gv_tM, Option.isNone_none]
    repeat (first | refine go_run ?_ | (refine go_newP ?_; clear hw; intro p w hw) | (refine go_newWr ?_; clear hw; intro w hw) | (refine go_newS ?_; clear hw; intro s w hw))
    exact res_one (v := .bool true) rfl rfl ⟨rfl, sat_none hw⟩
  have hce : clqErr t (List.replicate (many.tmod 40).toNat [] ++ [L]) = 0 := by rw [clqErr_ls, if_neg (fun h => h hz), if_neg h32]
  have hdz0 : decide (lErr t [[], L] = 0) = true := decide_eq_true hz
  have hd32 : decide (many.tmod 40 + 1 > 32) = false := decide_eq_false (by omega)
  obtain ⟨hg, hpat⟩ := want_ok hz
  simp only [hdz0, hd32, beq_self_eq_true, beq_tfM, beq_ftM, Bool.false_and, Bool.true_and, Bool.not_true, Bool.not_false, Bool.cond_true, Bool.cond_false, gv_fM, gv_tM]
  repeat (first | refine go_run ?_ | (refine go_newP ?_; clear hw; intro p w hw) | (refine go_newWr ?_; clear hw; intro w hw) | (refine go_newS ?_; clear hw; intro s w hw))
  refine st_call rfl (hev2 ▸ Num_spec (clqErr t (List.replicate (many.tmod 40).toNat [] ++ [L]))) ?_
  rintro _ w' ⟨rfl, hk'⟩
  replace hw := hw.call0 hk'
  clear hk'
  rw [hce]
  refine ⟨_, rfl, ?_⟩
  have hd0 : decide ((0 : Int) = lErr t [[], L]) = true := decide_eq_true hz.symm
  repeat (first | refine go_run ?_ | (refine go_newP ?_; clear hw; intro p w hw) | (refine go_newWr ?_; clear hw; intro w hw) | (refine go_newS ?_; clear hw; intro s w hw))
  simp only [hd0, beq_self_eq_true, beq_tfM, beq_ftM, Bool.false_and, Bool.true_and, Bool.not_true, Bool.not_false, Bool.cond_true, Bool.cond_false, gv_fM, gv_tM]
  repeat (first | refine go_run ?_ | (refine go_newP ?_; clear hw; intro p w hw) | (refine go_newWr ?_; clear hw; intro w hw) | (refine go_newS ?_; clear hw; intro s w hw))
  simp only [hdz0, beq_self_eq_true, beq_tfM, beq_ftM, Bool.false_and, Bool.true_and, Bool.not_true, Bool.not_false, Bool.cond_true, Bool.cond_false, gv_fM, gv_tM]
  repeat (first | refine go_run ?_ | (refine go_newP ?_; clear hw; intro p w hw) | (refine go_newWr ?_; clear hw; intro w hw) | (refine go_newS ?_; clear hw; intro s w hw))
  refine st_call rfl (Small_spec (ht'.at hw)) ?_
  rintro _ w' ⟨⟨r4, rfl, hr4⟩, hk'⟩
  replace hw := hw.call0 hk'
  clear hk'
  refine ⟨_, rfl, ?_⟩
  cases r4
  · repeat (first | refine go_run ?_ | (refine go_newP ?_; clear hw; intro p w hw) | (refine go_newWr ?_; clear hw; intro w hw) | (refine go_newS ?_; clear hw; intro s w hw))
    exact res_one (v := .bool true) rfl rfl ⟨rfl, sat_none hw⟩
  have hs := hr4.1 rfl
  have hM := hs.many
  have hcn := cntL_le hg.pos hpat.inV
  repeat (first | refine go_run ?_ | (refine go_newP ?_; clear hw; intro p w hw) | (refine go_newWr ?_; clear hw; intro w hw) | (refine go_newS ?_; clear hw; intro s w hw))
  refine st_call rfl (rMany_spec (va := vp) (ht'.at hw) (hp.at hw) hg.pos hpat.inV.mem (by omega)) ?_
  rintro _ w' ⟨rfl, hk'⟩
  replace hw := hw.call0 hk'
  clear hk'
  refine ⟨_, rfl, ?_⟩
  by_cases hc64 : 64 < cntL t.vars L
  · have hd64 : decide (cntL t.vars L > 64) = true := decide_eq_true hc64
    repeat (first | refine go_run ?_ | (refine go_newP ?_; clear hw; intro p w hw) | (refine go_newWr ?_; clear hw; intro w hw) | (refine go_newS ?_; clear hw; intro s w hw))
    simp only [hd64, beq_self_eq_true, beq_tfM, beq_ftM, Bool.false_and, Bool.true_and, Bool.not_true, Bool.not_false, Bool.cond_true, Bool.cond_false, gv_fM, gv_tM]
    repeat (first | refine go_run ?_ | (refine go_newP ?_; clear hw; intro p w hw) | (refine go_newWr ?_; clear hw; intro w hw) | (refine go_newS ?_; clear hw; intro s w hw))
    exact res_one (v := .bool true) rfl rfl ⟨rfl, sat_none hw⟩
  have hd64 : decide (cntL t.vars L > 64) = false := decide_eq_false hc64
  repeat (first | refine go_run ?_ | (refine go_newP ?_; clear hw; intro p w hw) | (refine go_newWr ?_; clear hw; intro w hw) | (refine go_newS ?_; clear hw; intro s w hw))
  simp only [hd64, beq_self_eq_true, beq_tfM, beq_ftM, Bool.false_and, Bool.true_and, Bool.not_true, Bool.not_false, Bool.cond_true, Bool.cond_false, gv_fM, gv_tM]
  repeat (first | refine go_run ?_ | (refine go_newP ?_; clear hw; intro p w hw) | (refine go_newWr ?_; clear hw; intro w hw) | (refine go_newS ?_; clear hw; intro s w hw))
  have hpats : clqErr t (List.replicate (many.tmod 40).toNat [] ++ [L]) = 0 → PatsOk t (List.replicate (many.tmod 40).toNat [] ++ [L]) := fun _ => ls_pats hs hpat (by omega) (by omega)
  refine st_call rfl (paNew_code (s := av) (ss := (List.replicate (many.tmod 40).toNat (Value.slice none 0 0) ++ [vp])) (Ls := (List.replicate (many.tmod 40).toNat [] ++ [L])) (ht'.at hw) (hrl _ hw) (hT.at hw) hpats) ?_
  rintro _ w' (⟨h1, _⟩ | ⟨_, pc, Ds, Cs, rfl, hC, hk'⟩)
  · exact absurd hce h1
  replace hw := hw.call1 hk'
  clear hk'
  refine ⟨_, rfl, ?_⟩
  repeat (first | refine go_run ?_ | (refine go_newP ?_; clear hw; intro p w hw) | (refine go_newWr ?_; clear hw; intro w hw) | (refine go_newS ?_; clear hw; intro s w hw))
  refine st_call rfl (Num_spec 0) ?_
  rintro _ w' ⟨rfl, hk'⟩
  replace hw := hw.call0 hk'
  clear hk'
  refine ⟨_, rfl, ?_⟩
  have hil := hg.init.1
  have hvl := hs.vars
  have hibl : t.init.length ≤ 100 := by omega
  have hnot : ¬ StateOk t.vars ([0] ++ t.init) := fun h => by
    have := h.1
    simp at this
    omega
  repeat (first | refine go_run ?_ | (refine go_newP ?_; clear hw; intro p w hw) | (refine go_newWr ?_; clear hw; intro w hw) | (refine go_newS ?_; clear hw; intro s w hw))
  simp only [hd0, hdz0, beq_self_eq_true, beq_tfM, beq_ftM, Bool.false_and, Bool.true_and, Bool.not_true, Bool.not_false, Bool.cond_true, Bool.cond_false, gv_fM, gv_tM]
  repeat (first | refine go_run ?_ | (refine go_newP ?_; clear hw; intro p w hw) | (refine go_newWr ?_; clear hw; intro w hw) | (refine go_newS ?_; clear hw; intro s w hw))
  simp only [beq_self_eq_true, beq_tfM, beq_ftM, Bool.false_and, Bool.true_and, Bool.not_true, Bool.not_false, Bool.cond_true, Bool.cond_false, gv_fM, gv_tM, Option.isNone_some]
  repeat (first | refine go_run ?_ | (refine go_newP ?_; clear hw; intro p w hw) | (refine go_newW ?_; clear hw; intro w hw) | (refine go_newS ?_; clear hw; intro s w hw))
  refine st_call rfl (CValue_ok (p := pc) (sv := s) (s := [0] ++ t.init) (hw.rdE 1 rfl) hC (rsO hw)) ?_
  rintro _ w' ⟨rfl, hk'⟩
  replace hw := hw.call0 hk'
  clear hk'
  rw [canW_no hnot]
  refine ⟨_, rfl, ?_⟩
  repeat (first | refine go_run ?_ | (refine go_newP ?_; clear hw; intro p w hw) | (refine go_newWr ?_; clear hw; intro w hw) | (refine go_newS ?_; clear hw; intro s w hw))
  simp only [beq_self_eq_true, beq_tfM, beq_ftM, Bool.false_and, Bool.true_and, Bool.not_true, Bool.not_false, Bool.cond_true, Bool.cond_false, gv_fM, gv_tM, Option.isNone_some]
  exact res_one (v := .bool true) rfl rfl ⟨rfl, sat_none hw⟩
end Go.Proofs.YtemnlcnjpjdoaaaGreatDoor
