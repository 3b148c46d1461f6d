
/-
  Contract of 'idastar.run': all rounds.
-/
import Derived.Test.YtkmbenhffledpaaGreatWVis
import Derived.Test.YtkmbenhffledpaaGreatMSlB
import Derived.Test.YtkmbenhffledpaaGreatMTA
set_option linter.unusedSimpArgs false
set_option linter.unusedVariables false
namespace Go.Proofs.YtkmbenhffledpaaGreat
open Go.Sl Go
attribute [local irreducible] vc opsW opsD opV opW PureV ReadV Thn Blk
def vdC : IR → Int | .goOn => 2 | .solved => 1 | .unknown => 3
def plR (R : IR × ISt × List Int) : List Int := match R.1 with | .solved => R.2.1.path | _ => []
def coR (t : TTask) (R : IR × ISt × List Int) : Int := match R.1 with | .solved => coL t R.2.1.path | _ => 0
/-- The estimate of a run: a given one, or the blind one. -/
def EstG (w0 : World) (ev : Value) (t : TTask) (H : List Int → Int) : Prop := (ev = .pointer none ∧ H = blindH t) ∨ ∃ pe, ev = .pointer (some pe) ∧ REst w0 pe t H
set_option maxRecDepth 8000 in
set_option maxHeartbeats 16000000 in
theorem run_ok_spec {w0 : World} {a b c d ev : Value} {vs : List OpV} {t : TTask} {H : List Int → Int} {L : Int} (ht : RTask w0 a b c d vs t) (hH : HOk t H) (he : EstG w0 ev t H) (hL : L ≤ 1048576) :
    Calls Tryz.prog 47 #[.agg #[a, b, c, d], ev, .int .i64 L] w0 fun e w' => ∃ px pv bv, e = .returned (.tuple #[.pointer (some px), .agg #[.int .i64 (vdC (runR t H L.toNat).1), pv, .int .i64 (coR t (runR t H L.toNat)), .int .i64 (runR t H L.toNat).2.1.exp], .nilIface]) ∧
      Sat w0 w' [RdH (fun w => w.cell? (px.add 12) = some bv), OS tInt 3 pv (plR (runR t H L.toNat)), OS tInt 3 bv (runR t H L.toNat).2.2] := by
  have hg := hH.good
  have hch := (good_iff t).2 hg
  have hw := Sat.start w0
  obtain ⟨ea, hea⟩ : ∃ ea : Option Addr, ev = .pointer ea := by
    rcases he with ⟨rfl, _⟩ | ⟨pe, rfl, _⟩
    · exact ⟨none, rfl⟩
    · exact ⟨some pe, rfl⟩
  subst hea
  refine calls_of_vc (args := [.agg #[a, b, c, d], .pointer ea, .int .i64 L]) mixed Tryz.func47 rfl (by kernel_rfl) (Nat.le_of_ble_eq_true rfl) ?_
  refine vc_seq ?_
  refine vc_region ?_
  refine go_box ?_
  clear hw
  intro pt w hw
  replace hw : Sat w0 w [Box pt 26 [a, b, c, d]] := hw
  repeat (first | refine go_run ?_ | (refine go_newP ?_; clear hw; intro p w hw) | (refine go_newWr ?_; clear hw; intro w hw) | (refine go_newS ?_; clear hw; intro s w hw))
  obtain ⟨pr, hpr⟩ : ∃ pr, pr = p := ⟨p, rfl⟩
  subst hpr
  refine st_call rfl (Check_spec (ht.at hw)) ?_
  rintro _ w' ⟨rfl, hk'⟩
  replace hw := hw.call0 hk'
  clear hk'
  refine ⟨_, rfl, ?_⟩
  rw [errV_zero hch]
  repeat (first | refine go_run ?_ | (refine go_newP ?_; clear hw; intro p w hw) | (refine go_newWr ?_; clear hw; intro w hw) | (refine go_newS ?_; clear hw; intro s w hw))
  refine vc_cut [28, 29, 27, 30, 31, 10, 11, 32, 33, 34, 35, 36, 1] (G := Addr) (fun pe => [(1, .pointer (some pe))]) (fun pe w => ∃ Γe, Kept w0 Γe (fun w => REst w pe t H) ∧ Sat w0 w (Box pr 47 [.int .i64 0, .slice none 0 0, .int .i64 0, .int .i64 0] :: Box pt 26 [a, b, c, d] :: Γe)) (fun _ => rfl) ?_ ?_
  · rcases he with ⟨h1, hHb⟩ | ⟨pe, h1, hest⟩
    · have h2 : ea = none := by injection h1
      subst h2
      repeat (first | refine go_run ?_ | (refine go_newP ?_; clear hw; intro p w hw) | (refine go_newWr ?_; clear hw; intro w hw) | (refine go_newS ?_; clear hw; intro s w hw))
      refine st_call rfl (Blind_spec (ht.at hw) hg) ?_
      rintro _ w' ⟨pe, rfl, hk'⟩
      replace hw := hw.call1 hk'
      clear hk'
      refine ⟨_, rfl, ?_⟩
      repeat (first | refine go_run ?_ | (refine go_newP ?_; clear hw; intro p w hw) | (refine go_newWr ?_; clear hw; intro w hw) | (refine go_newS ?_; clear hw; intro s w hw))
      refine ⟨pe, ⟨rfl, trivial⟩, by repeat (first | exact agree_refl | (apply agree_upd rfl) | (apply agree_mix rfl) | (apply agree_sets rfl)), [RdH fun w => REst w pe t H], Kept.rd, ?_⟩
      rw [hHb]
      exact hw.sel
    · have h2 : ea = some pe := by injection h1
      subst h2
      repeat (first | refine go_run ?_ | (refine go_newP ?_; clear hw; intro p w hw) | (refine go_newWr ?_; clear hw; intro w hw) | (refine go_newS ?_; clear hw; intro s w hw))
      exact ⟨pe, ⟨rfl, trivial⟩, by repeat (first | exact agree_refl | (apply agree_upd rfl) | (apply agree_mix rfl) | (apply agree_sets rfl)), [], Kept.of fun w Γ' h => hest.at h, hw⟩
  clear hw
  rintro σ0 pe w ⟨Γe, hKe, hw⟩
  have hKt : ∀ (Γ : List HP), Kept w0 Γ fun w => RTask w a b c d vs t := fun Γ => Kept.of fun w Γ' h => ht.at h
  repeat (first | refine go_run ?_ | (refine go_newP ?_; clear hw; intro p w hw) | (refine go_newWr ?_; clear hw; intro w hw) | (refine go_newS ?_; clear hw; intro s w hw))
  refine st_call rfl (eFor_spec (hKe w [_, _] hw) (ht.at hw)) ?_
  rintro _ w' ⟨⟨r, rfl, hr⟩, hk'⟩
  replace hw := hw.call0 hk'
  clear hk'
  refine ⟨_, rfl, ?_⟩
  have hrt : r = true := hr.2 rfl
  subst hrt
  repeat (first | refine go_run ?_ | (refine go_newP ?_; clear hw; intro p w hw) | (refine go_newWr ?_; clear hw; intro w hw) | (refine go_newS ?_; clear hw; intro s w hw))
  refine st_call rfl (sNew_spec (ht.at hw) hg) ?_
  rintro _ w' ⟨pg, rfl, hk'⟩
  replace hw := hw.call1 hk'
  clear hk'
  refine ⟨_, rfl, ?_⟩
  have o1 := (ht.vars.at hw).cells1
  have o2 := (ht.init.at hw).cells1
  have o3 := (ht.goal.at hw).cells1
  have o4 := (ht.ops.rs.at hw).cells1
  repeat (first | refine go_run ?_ | (refine go_newP ?_; clear hw; intro p w hw) | (refine go_newWr ?_; clear hw; intro w hw) | (refine go_newS ?_; clear hw; intro s w hw))
  have hmx : (if 0 > L then 0 else L) = ((L.toNat : Nat) : Int) := by split <;> omega
  rw [hmx]
  obtain ⟨lim, hlim⟩ : ∃ lim, lim = L.toNat := ⟨_, rfl⟩
  rw [← hlim]
  have hlb : lim ≤ 1048576 := by omega
  refine st_buildN (vs := [(0, .agg #[a, b, c, d]), (1, .pointer (some pe)), (2, .pointer (some pg)), (3, .int .i64 (lim : Int))]) (ls := [(0, [a, b, c, d]), (1, [.pointer (some pe)]), (2, [.pointer (some pg)]), (3, [.int .i64 (lim : Int)])]) rfl rfl rfl ?_
  refine st_boxAggNew (vs := seaC a b c d pe pg (lim : Int) 0 0 0 (.map none) nilS nilS) rfl hw ?_
  clear hw
  intro px w hw
  have hini := hg.init
  have hest : estV t H t.init = H t.init := if_pos hini
  repeat (first | refine go_run ?_ | (refine go_newP ?_; clear hw; intro p w hw) | (refine go_newWr ?_; clear hw; intro w hw) | (refine go_newS ?_; clear hw; intro s w hw))
  refine st_call rfl (eValue_spec (hKe w [_, _, _, _] hw) (ht.init.at hw)) ?_
  rintro _ w' ⟨rfl, hk'⟩
  replace hw := hw.call0 hk'
  clear hk'
  refine ⟨_, rfl, ?_⟩
  rw [hest]
  repeat (first | refine go_run ?_ | (refine go_newP ?_; clear hw; intro p w hw) | (refine go_newWr ?_; clear hw; intro w hw) | (refine go_newS ?_; clear hw; intro s w hw))
  refine vc_cut [68, 69, 70, 71] (G := Unit) (fun _ => []) (fun _ w => Sat w0 w (OS tInt 3 nilS [] :: Box px 139 (seaC a b c d pe pg (lim : Int) (0 : Int) 0 (first0 t H) (.map none) nilS nilS) :: RdH (fun w => RGen w pg t) :: Box pr 47 [.int .i64 0, .slice none 0 0, .int .i64 0, .int .i64 0] :: Box pt 26 [a, b, c, d] :: Γe)) (fun _ => rfl) ?_ ?_
  · by_cases h1 : H t.init < inf
    · have hf : first0 t H = H t.init := if_pos h1
      rw [hf]
      have hd : decide (H t.init < 1125899906842624) = true := decide_eq_true h1
      rw [hd]
      repeat (first | refine go_run ?_ | (refine go_newP ?_; clear hw; intro p w hw) | (refine go_newWr ?_; clear hw; intro w hw) | (refine go_newS ?_; clear hw; intro s w hw))
      exact ⟨(), trivial, by repeat (first | exact agree_refl | (apply agree_upd rfl) | (apply agree_mix rfl) | (apply agree_sets rfl)), hw.nil⟩
    · have hf : first0 t H = big62 := if_neg h1
      rw [hf]
      have hd : decide (H t.init < 1125899906842624) = false := decide_eq_false h1
      rw [hd]
      repeat (first | refine go_run ?_ | (refine go_newP ?_; clear hw; intro p w hw) | (refine go_newWr ?_; clear hw; intro w hw) | (refine go_newS ?_; clear hw; intro s w hw))
      exact ⟨(), trivial, by repeat (first | exact agree_refl | (apply agree_upd rfl) | (apply agree_mix rfl) | (apply agree_sets rfl)), hw.nil⟩
  clear hw
  rintro σ1 _ w hw
  have hn0 := first_ok (lim := lim) hH
  repeat (first | refine go_run ?_ | (refine go_newP ?_; clear hw; intro p w hw) | (refine go_newWr ?_; clear hw; intro w hw) | (refine go_newS ?_; clear hw; intro s w hw))
  refine vc_loop [6, 8, 16, 18, 72, 73, 74, 75, 76, 77, 78, 79, 80, 81, 82, 83, 84, 85, 86, 87, 88, 89, 90, 91, 92, 93, 94, 95, 96, 97, 98, 99, 100, 101, 102, 103, 104, 105, 106, 107, 108, 109, 110, 111, 112, 113, 114, 115, 116, 117, 118, 119, 120, 121, 122, 123, 124, 125, 126, 127, 128, 129, 130, 131, 132, 133, 134, 135, 136, 137, 138, 139, 140, 141, 142, 143, 144, 145, 146, 147, 148, 149, 150] (G := Nat × Int × Nat × Value × Value × Value × Int × List Int) (fun x => [])
    (fun x w => runF t H lim x.1 x.2.1 x.2.2.1 x.2.2.2.2.2.2.2 = runR t H lim ∧ x.2.2.1 ≤ lim ∧ lim - x.2.2.1 < x.1 ∧ 0 ≤ x.2.1 ∧ x.2.2.2.2.2.2.2.length ≤ x.2.2.1 ∧
      Sat w0 w (OS tInt 3 x.2.2.2.2.1 x.2.2.2.2.2.2.2 :: Box px 139 (seaC a b c d pe pg (lim : Int) (x.2.2.1 : Int) x.2.2.2.2.2.2.1 x.2.1 x.2.2.2.1 x.2.2.2.2.2.1 x.2.2.2.2.1) :: RdH (fun w => RGen w pg t) :: Box pr 47 [.int .i64 0, .slice none 0 0, .int .i64 0, .int .i64 0] :: Box pt 26 [a, b, c, d] :: Γe))
    (fun x => x.1) (lim + 1, first0 t H, 0, .map none, nilS, nilS, 0, []) (fun _ => rfl) trivial ⟨rfl, Nat.zero_le _, by simp only; omega, hn0.nn, Nat.le_refl _, hw⟩ ?_
  clear hw
  rintro σ2 ⟨f, next, e, mv0, bv, pv0, bnd, bs⟩ w ⟨hrun, hel, hef, hnn, hbl, hw⟩
  simp only at hrun hel hef hnn hbl hw
  repeat (first | refine go_run ?_ | (refine go_newP ?_; clear hw; intro p w hw) | (refine go_newW ?_; clear hw; intro w hw) | (refine go_newS ?_; clear hw; intro s w hw))
  refine go_if (fun h1 => ?_) (fun h1 => ?_)
  · have hb : next < big62 := h1
    obtain ⟨f, rfl⟩ : ∃ f', f = f' + 1 := ⟨f - 1, by omega⟩
    repeat (first | refine go_run ?_ | (refine go_newP ?_; clear hw; intro p w hw) | (refine go_newWr ?_; clear hw; intro w hw) | (refine go_newS ?_; clear hw; intro s w hw))
    refine vc_plan [.op 0, .op 1, .op 2, .op 3, .op 4, .op 5, .op 6, .op 7, .op 8, .op 9, .chk 4, .op 10, .op 11, .op 12, .op 13] hw (by kernel_rfl) ?_; clear hw; intro w hw
    repeat (first | refine go_run ?_ | (refine go_newP ?_; clear hw; intro p w hw) | (refine go_newWr ?_; clear hw; intro w hw) | (refine go_newS ?_; clear hw; intro s w hw))
    obtain ⟨bv2, hbv2⟩ : ∃ bv2, bv2 = s := ⟨s, rfl⟩
    subst hbv2
    refine st_makeMap kStr hw ?_
    clear hw
    intro mv w hw
    obtain ⟨bm, _, _, hmv, _, _⟩ := map_of (i := 0) hw rfl
    subst hmv
    repeat (first | refine go_run ?_ | (refine go_newP ?_; clear hw; intro p w hw) | (refine go_newWr ?_; clear hw; intro w hw) | (refine go_newS ?_; clear hw; intro s w hw))
    have hw1 : Sat w0 w (Box px 139 (seaC a b c d pe pg (lim : Int) ((start0 e).exp : Int) next (start0 e).next (.map (some bm)) nilS bv2) :: MapO kStr (.map (some bm)) [] :: OS tInt 3 nilS (start0 e).path :: OS tInt 3 bv2 (bs ++ [next]) :: RdH (fun w => RGen w pg t) :: Box pr 47 [.int .i64 0, .slice none 0 0, .int .i64 0, .int .i64 0] :: Box pt 26 [a, b, c, d] :: Γe) := by
      have h0 : Sat w0 w (MapO kStr (.map (some bm)) [] :: OS tInt 3 bv2 (bs ++ [next]) :: Box px 139 (seaC a b c d pe pg (lim : Int) (e : Int) next big62 (.map (some bm)) nilS bv2) :: RdH (fun w => RGen w pg t) :: Box pr 47 [.int .i64 0, .slice none 0 0, .int .i64 0, .int .i64 0] :: Box pt 26 [a, b, c, d] :: Γe) := (hw.focus 1 rfl).tail
      have h1 : Sat w0 w (Box px 139 (seaC a b c d pe pg (lim : Int) (e : Int) next big62 (.map (some bm)) nilS bv2) :: MapO kStr (.map (some bm)) [] :: OS tInt 3 bv2 (bs ++ [next]) :: RdH (fun w => RGen w pg t) :: Box pr 47 [.int .i64 0, .slice none 0 0, .int .i64 0, .int .i64 0] :: Box pt 26 [a, b, c, d] :: Γe) := h0.focus 2 rfl
      have h2 : Sat w0 w (Box px 139 (seaC a b c d pe pg (lim : Int) (e : Int) next big62 (.map (some bm)) nilS bv2) :: OS tInt 3 nilS [] :: MapO kStr (.map (some bm)) [] :: OS tInt 3 bv2 (bs ++ [next]) :: RdH (fun w => RGen w pg t) :: Box pr 47 [.int .i64 0, .slice none 0 0, .int .i64 0, .int .i64 0] :: Box pt 26 [a, b, c, d] :: Γe) := h1.nil.swap
      exact h2.tailMono fun _ x => x.swap
    have hE : VEnv w0 (OS tInt 3 bv2 (bs ++ [next]) :: RdH (fun w => RGen w pg t) :: Box pr 47 [.int .i64 0, .slice none 0 0, .int .i64 0, .int .i64 0] :: Box pt 26 [a, b, c, d] :: Γe) t H a b c d vs pe pg :=
      ⟨hKt _, (((hKe.more (Box pt 26 [a, b, c, d])).more (Box pr 47 [.int .i64 0, .slice none 0 0, .int .i64 0, .int .i64 0])).more (RdH fun w => RGen w pg t)).more _, Kept.rd.more _⟩
    have hpre : VPre t lim (lim + 1) t.init 0 (start0 e) := ⟨hini, Int.le_refl _, by show (0 : Int) ≤ (e : Int) * 1048576; omega, hel, by show lim - e < lim + 1; omega, Nat.zero_le _⟩
    refine st_call rfl (visit_spec hH hlb (bound := next) (lim + 1) w0 w _ px pe pg a b c d (.map (some bm)) nilS bv2 b vs [] t.init 0 (start0 e) hE (Kept.of fun w Γ' h => ht.init.at h) hpre (VisR.start _) hw1) ?_
    clear hw hw1
    rintro _ w ⟨rfl, pv1, kv1, hV1, hw⟩
    refine ⟨_, rfl, ?_⟩
    have hmono := vis_mono ⟨t, H, lim, next⟩ (lim + 1) t.init 0 (start0 e) hel
    cases hv : visF ⟨t, H, lim, next⟩ (lim + 1) t.init 0 (start0 e) with
    | mk r S =>
      rw [hv] at hV1 hw hmono
      have hR := round_ok hH hnn hb hlb hel hv
      cases hrr : r with
      | goOn =>
        rw [hrr] at hv hR
        rw [runF_more hb hv] at hrun
        simp only at hw
        repeat (first | refine go_run ?_ | (refine go_newP ?_; clear hw; intro p w hw) | (refine go_newW ?_; clear hw; intro w hw) | (refine go_newS ?_; clear hw; intro s w hw))
        have h0 : Sat w0 w (OS tInt 3 bv2 (bs ++ [next]) :: Box px 139 (seaC a b c d pe pg (lim : Int) (S.exp : Int) next S.next (.map (some bm)) pv1 bv2) :: MapO kStr (.map (some bm)) kv1 :: OS tInt 3 pv1 S.path :: RdH (fun w => RGen w pg t) :: Box pr 47 [.int .i64 0, .slice none 0 0, .int .i64 0, .int .i64 0] :: Box pt 26 [a, b, c, d] :: Γe) := hw.focus 3 rfl
        have h2 := h0.tailMono fun _ x => SatL.cons_mono (fun _ y => y) (fun _ y => y.tail.tail) x
        have q1 := hR.lt rfl
        have q2 := hR.lm
        have q3 := hR.asc rfl
        exact ⟨(f, S.next, S.exp, .map (some bm), bv2, pv1, next, bs ++ [next]), trivial, by repeat (first | exact agree_refl | (apply agree_upd rfl) | (apply agree_mix rfl) | (apply agree_sets rfl)), ⟨hrun, q2, by simp only; omega, by simp only; omega, by simp only [List.length_append, List.length_cons, List.length_nil]; omega, h2⟩, by simp only; omega⟩
      | solved =>
        rw [hrr] at hv hR
        rw [runF_fin hb hv (by decide)] at hrun
        simp only at hw
        repeat (first | refine go_run ?_ | (refine go_newP ?_; clear hw; intro p w hw) | (refine go_newW ?_; clear hw; intro w hw) | (refine go_newS ?_; clear hw; intro s w hw))
        obtain ⟨c0, hP, hcb, hD⟩ := hR.sol rfl
        have q2 := hR.lm
        have hpl : S.path.length ≤ lim := by
          have h0 := hmono.2.2.2.2
          have h1 : S.path.length + e ≤ 0 + S.exp := h0
          omega
        have hdr := ht.ops.rs
        have hdl := ht.ops.len
        refine vc_loop2 [16, 18, 118, 119, 120, 121, 122, 123, 124, 125, 126, 127, 128, 129, 130] (G := Nat) (H := Int) (fun k m => [(118, .int .i64 k), (16, .int .i64 m)]) (fun k m w => k ≤ S.path.length ∧ m = coL t (S.path.take k) ∧ Sat w0 w (Box px 139 (seaC a b c d pe pg (lim : Int) (S.exp : Int) next S.next (.map (some bm)) pv1 bv2) :: MapO kStr (.map (some bm)) kv1 :: OS tInt 3 pv1 S.path :: OS tInt 3 bv2 (bs ++ [next]) :: RdH (fun w => RGen w pg t) :: Box pr 47 [.int .i64 0, .slice none 0 0, .int .i64 0, .int .i64 0] :: Box pt 26 [a, b, c, d] :: Γe)) (fun k _ => S.path.length - k) 0 0 (fun _ _ => rfl) ⟨rfl, rfl, trivial⟩ ⟨Nat.zero_le _, rfl, hw⟩ ?_
        clear hw
        rintro σ3 k m w ⟨hk, hm, hw⟩
        repeat (first | refine go_run ?_ | (refine go_newP ?_; clear hw; intro p w hw) | (refine go_newW ?_; clear hw; intro w hw) | (refine go_newS ?_; clear hw; intro s w hw))
        refine go_if (fun h2 => ?_) (fun h2 => ?_)
        · have hkl : k < S.path.length := by omega
          obtain ⟨p1, p2, p3⟩ := hP.at_ hkl
          have hcr := coL_rng hg hP (k := k) (by omega)
          rw [← hm] at hcr
          have hco : (eget tOp vs (S.path.getD k tInt.dflt).toNat).cost = opC t (S.path.getD k tInt.dflt).toNat := (ht.ops.at_ _ p2).cost
          have hcr2 := opC_rng hg p2
          repeat (first | refine go_run ?_ | (refine go_newP ?_; clear hw; intro p w hw) | (refine go_newW ?_; clear hw; intro w hw) | (refine go_newS ?_; clear hw; intro s w hw))
          refine ⟨k + 1, _, ⟨rfl, rfl, trivial⟩, by repeat (first | exact agree_refl | (apply agree_upd rfl) | (apply agree_mix rfl) | (apply agree_sets rfl)), ⟨by omega, ?_, hw⟩, by omega⟩
          rw [take_snoc tInt.dflt hkl, coL_snoc, ← hm, hco]
        have hke : k = S.path.length := by omega
        subst hke
        rw [List.take_of_length_le (Nat.le_refl _)] at hm
        repeat (first | refine go_run ?_ | (refine go_newP ?_; clear hw; intro p w hw) | (refine go_newWr ?_; clear hw; intro w hw) | (refine go_newS ?_; clear hw; intro s w hw))
        refine vc_plan [.op 0, .op 1, .op 2, .op 3, .op 4, .op 6, .op 7, .op 8, .op 9, .op 10, .op 5, .chk 10, .op 12, .op 11, .op 13, .op 14] hw (by kernel_rfl) ?_; clear hw; intro w hw
        repeat (first | refine go_run ?_ | (refine go_newP ?_; clear hw; intro p w hw) | (refine go_newWr ?_; clear hw; intro w hw) | (refine go_newS ?_; clear hw; intro s w hw))
        refine st_call rfl (Clone_spec (a := pv1) (xs := S.path) (rsO (s := pv1) hw) (by omega)) ?_
        rintro _ w' ⟨cv, rfl, hk'⟩
        replace hw := hw.call1 hk'
        clear hk'
        refine ⟨_, rfl, ?_⟩
        have ocv := (rsO (s := cv) hw).one
        repeat (first | refine go_run ?_ | (refine go_newP ?_; clear hw; intro p w hw) | (refine go_newWr ?_; clear hw; intro w hw) | (refine go_newS ?_; clear hw; intro s w hw))
        refine st_build4 (v1 := .int .i64 1) (v2 := cv) (v3 := .int .i64 m) (v4 := .int .i64 S.exp) rfl rfl rfl rfl rfl (by simp only [List.all_cons, List.all_nil, ocv]; rfl) ?_
        repeat (first | refine go_run ?_ | (refine go_newP ?_; clear hw; intro p w hw) | (refine go_newS ?_; clear hw; intro s w hw))
        refine st_boxAgg (n := 4) (p := pr) (vs := [.int .i64 1, cv, .int .i64 m, .int .i64 S.exp]) rfl rfl hw inferInstance rfl rfl (by simp only [List.all_cons, List.all_nil, ocv]; rfl) ?_
        clear hw
        intro w hw
        repeat (first | refine go_run ?_ | (refine go_newP ?_; clear hw; intro p w hw) | (refine go_newWr ?_; clear hw; intro w hw) | (refine go_newS ?_; clear hw; intro s w hw))
        have hfin : Sat w0 w [RdH (fun w => w.cell? (px.add 12) = some bv2), OS tInt 3 cv S.path, OS tInt 3 bv2 (bs ++ [next])] := by
          have h1 : Sat w0 w [Box px 139 (seaC a b c d pe pg (lim : Int) (S.exp : Int) next S.next (.map (some bm)) pv1 bv2), OS tInt 3 cv S.path, OS tInt 3 bv2 (bs ++ [next])] := hw.sel
          exact Sat.rd (Δ := [Box px 139 (seaC a b c d pe pg (lim : Int) (S.exp : Int) next S.next (.map (some bm)) pv1 bv2)]) (φ := fun w => w.cell? (px.add 12) = some bv2) (fun _ w h => h.boxR 0 rfl 12 _ rfl) h1
        rw [← hrun]
        exact res_tct (p := pr) (vs := [.int .i64 1, cv, .int .i64 m, .int .i64 S.exp]) rfl rfl rfl rfl rfl (hw.boxR 6 rfl) ⟨px, cv, bv2, by rw [hm]; rfl, hfin⟩
      | unknown =>
        rw [hrr] at hv hR
        rw [runF_fin hb hv (by decide)] at hrun
        simp only at hw
        repeat (first | refine go_run ?_ | (refine go_newP ?_; clear hw; intro p w hw) | (refine go_newWr ?_; clear hw; intro w hw) | (refine go_newS ?_; clear hw; intro s w hw))
        refine vc_plan [.op 0, .op 1, .op 2, .op 3, .op 4, .op 5, .op 6, .op 7, .op 8] hw (by kernel_rfl) ?_; clear hw; intro w hw
        repeat (first | refine go_run ?_ | (refine go_newP ?_; clear hw; intro p w hw) | (refine go_newWr ?_; clear hw; intro w hw) | (refine go_newS ?_; clear hw; intro s w hw))
        have hfin : Sat w0 w [RdH (fun w => w.cell? (px.add 12) = some bv2), OS tInt 3 nilS [], OS tInt 3 bv2 (bs ++ [next])] := by
          have h1 : Sat w0 w [Box px 139 (seaC a b c d pe pg (lim : Int) (S.exp : Int) next S.next (.map (some bm)) pv1 bv2), OS tInt 3 bv2 (bs ++ [next])] := hw.sel
          exact ((Sat.rd (Δ := [Box px 139 (seaC a b c d pe pg (lim : Int) (S.exp : Int) next S.next (.map (some bm)) pv1 bv2)]) (φ := fun w => w.cell? (px.add 12) = some bv2) (fun _ w h => h.boxR 0 rfl 12 _ rfl) h1).nil (T := tInt) (e := 3)).swap
        rw [← hrun]
        exact res_tct (p := pr) (vs := [.int .i64 3, nilS, .int .i64 0, .int .i64 S.exp]) rfl rfl rfl rfl rfl (hw.boxR 5 rfl) ⟨px, nilS, bv2, rfl, hfin⟩
  have hb : ¬ next < big62 := Int.not_lt.2 h1
  obtain ⟨f, rfl⟩ : ∃ f', f = f' + 1 := ⟨f - 1, by omega⟩
  rw [runF_end hb] at hrun
  rw [← hrun]
  repeat (first | refine go_run ?_ | (refine go_newP ?_; clear hw; intro p w hw) | (refine go_newWr ?_; clear hw; intro w hw) | (refine go_newS ?_; clear hw; intro s w hw))
  refine vc_plan [.op 0, .op 1, .op 2, .op 3, .op 4, .op 5, .op 6, .op 7, .op 8] hw (by kernel_rfl) ?_; clear hw; intro w hw
  repeat (first | refine go_run ?_ | (refine go_newP ?_; clear hw; intro p w hw) | (refine go_newWr ?_; clear hw; intro w hw) | (refine go_newS ?_; clear hw; intro s w hw))
  have hfin : Sat w0 w [RdH (fun w => w.cell? (px.add 12) = some bv), OS tInt 3 nilS [], OS tInt 3 bv bs] := by
    have h1 : Sat w0 w [Box px 139 (seaC a b c d pe pg (lim : Int) (e : Int) bnd next mv0 pv0 bv), OS tInt 3 bv bs] := hw.sel
    exact ((Sat.rd (Δ := [Box px 139 (seaC a b c d pe pg (lim : Int) (e : Int) bnd next mv0 pv0 bv)]) (φ := fun w => w.cell? (px.add 12) = some bv) (fun _ w h => h.boxR 0 rfl 12 _ rfl) h1).nil (T := tInt) (e := 3)).swap
  exact res_tct (p := pr) (vs := [.int .i64 2, nilS, .int .i64 0, .int .i64 e]) rfl rfl rfl rfl rfl (hw.boxR 3 rfl) ⟨px, nilS, bv, rfl, hfin⟩
set_option maxRecDepth 8000 in
set_option maxHeartbeats 4000000 in
theorem Search_spec {w0 : World} {a b c d ev : Value} {vs : List OpV} {t : TTask} {H : List Int → Int} {L : Int} (ht : RTask w0 a b c d vs t) (hH : HOk t H) (he : EstG w0 ev t H) (hL : L ≤ 1048576) :
    Calls Tryz.prog 19 #[.agg #[a, b, c, d], ev, .int .i64 L] w0 fun e w' => ∃ pv, e = .returned (.tuple #[.agg #[.int .i64 (vdC (runR t H L.toNat).1), pv, .int .i64 (coR t (runR t H L.toNat)), .int .i64 (runR t H L.toNat).2.1.exp], .nilIface]) ∧ Sat w0 w' [OS tInt 3 pv (plR (runR t H L.toNat))] := by
  have hw := Sat.start w0
  refine calls_of_vc (args := [.agg #[a, b, c, d], ev, .int .i64 L]) mixed Tryz.func19 rfl (by kernel_rfl) (Nat.le_of_ble_eq_true rfl) ?_
  refine vc_seq ?_
  refine vc_region ?_
  refine go_box ?_
  clear hw
  intro pt w hw
  replace hw : Sat w0 w [Box pt 26 [a, b, c, d]] := hw
  repeat (first | refine go_run ?_ | (refine go_newP ?_; clear hw; intro p w hw) | (refine go_newWr ?_; clear hw; intro w hw) | (refine go_newS ?_; clear hw; intro s w hw))
  obtain ⟨pr, hpr⟩ : ∃ pr, pr = p := ⟨p, rfl⟩
  subst hpr
  have he2 : EstG w ev t H := by
    rcases he with ⟨h1, h2⟩ | ⟨pe, h1, h2⟩
    · exact .inl ⟨h1, h2⟩
    · exact .inr ⟨pe, h1, h2.at hw⟩
  refine st_call rfl (run_ok_spec (ht.at hw) hH he2 hL) ?_
  rintro _ w' ⟨px, pv, bv, rfl, hk'⟩
  replace hw : Sat w0 w' [RdH (fun w => w.cell? (px.add 12) = some bv), OS tInt 3 pv (plR (runR t H L.toNat)), OS tInt 3 bv (runR t H L.toNat).2.2, Box pr 47 [.int .i64 0, .slice none 0 0, .int .i64 0, .int .i64 0], Box pt 26 [a, b, c, d]] := hw.call hk'
  clear hk'
  refine ⟨_, rfl, ?_⟩
  have opv := (hw.rs 1 rfl).one
  repeat (first | refine go_run ?_ | (refine go_newP ?_; clear hw; intro p w hw) | (refine go_newS ?_; clear hw; intro s w hw))
  obtain ⟨p9, hp9⟩ : ∃ p9, p9 = p := ⟨p, rfl⟩
  subst hp9
  refine st_boxAgg (n := 4) (p := p9) (vs := [.int .i64 (vdC (runR t H L.toNat).1), pv, .int .i64 (coR t (runR t H L.toNat)), .int .i64 (runR t H L.toNat).2.1.exp]) rfl rfl hw inferInstance rfl rfl (by simp only [List.all_cons, List.all_nil, opv]; rfl) ?_
  clear hw
  intro w hw
  repeat (first | refine go_run ?_ | (refine go_newP ?_; clear hw; intro p w hw) | (refine go_newS ?_; clear hw; intro s w hw))
  refine st_boxAgg (n := 4) (p := pr) (vs := [.int .i64 (vdC (runR t H L.toNat).1), pv, .int .i64 (coR t (runR t H L.toNat)), .int .i64 (runR t H L.toNat).2.1.exp]) rfl rfl hw inferInstance rfl rfl (by simp only [List.all_cons, List.all_nil, opv]; rfl) ?_
  clear hw
  intro w hw
  repeat (first | refine go_run ?_ | (refine go_newP ?_; clear hw; intro p w hw) | (refine go_newW ?_; clear hw; intro w hw) | (refine go_newS ?_; clear hw; intro s w hw))
  exact res_cellTmp (p := pr) (vs := [.int .i64 (vdC (runR t H L.toNat).1), pv, .int .i64 (coR t (runR t H L.toNat)), .int .i64 (runR t H L.toNat).2.1.exp]) rfl rfl rfl rfl (hw.boxR 4 rfl) ⟨pv, rfl, hw.sel⟩
set_option maxRecDepth 8000 in
set_option maxHeartbeats 4000000 in
theorem Rounds_spec {w0 : World} {a b c d ev : Value} {vs : List OpV} {t : TTask} {H : List Int → Int} {L : Int} (ht : RTask w0 a b c d vs t) (hH : HOk t H) (he : EstG w0 ev t H) (hL : L ≤ 1048576) :
    Calls Tryz.prog 45 #[.agg #[a, b, c, d], ev, .int .i64 L] w0 fun e w' =>
      ((runR t H L.toNat).1 = .unknown ∧ e = .returned (.tuple #[nilS, errV 10]) ∧ Sat w0 w' []) ∨
      ((runR t H L.toNat).1 ≠ .unknown ∧ ∃ bv, e = .returned (.tuple #[bv, .nilIface]) ∧ Sat w0 w' [OS tInt 3 bv (runR t H L.toNat).2.2]) := by
  have hw := Sat.start w0
  refine calls_of_vc (args := [.agg #[a, b, c, d], ev, .int .i64 L]) mixed Tryz.func45 rfl (by kernel_rfl) (Nat.le_of_ble_eq_true rfl) ?_
  repeat (first | refine go_run ?_ | (refine go_newP ?_; clear hw; intro p w hw) | (refine go_newWr ?_; clear hw; intro w hw) | (refine go_newS ?_; clear hw; intro s w hw))
  obtain ⟨pt, hpt⟩ : ∃ pt, pt = p := ⟨p, rfl⟩
  subst hpt
  have he2 : EstG w ev t H := by
    rcases he with ⟨h1, h2⟩ | ⟨pe, h1, h2⟩
    · exact .inl ⟨h1, h2⟩
    · exact .inr ⟨pe, h1, h2.at hw⟩
  refine st_call rfl (run_ok_spec (ht.at hw) hH he2 hL) ?_
  rintro _ w' ⟨px, pv, bv, rfl, hk'⟩
  replace hw : Sat w0 w' [RdH (fun w => w.cell? (px.add 12) = some bv), OS tInt 3 pv (plR (runR t H L.toNat)), OS tInt 3 bv (runR t H L.toNat).2.2, Box pt 26 [a, b, c, d]] := hw.call hk'
  clear hk'
  refine ⟨_, rfl, ?_⟩
  have opv := (hw.rs 1 rfl).one
  cases hvd : (runR t H L.toNat).1 with
  | unknown =>
    repeat (first | refine go_run ?_ | (refine go_newP ?_; clear hw; intro p w hw) | (refine go_newS ?_; clear hw; intro s w hw))
    obtain ⟨p9, hp9⟩ : ∃ p9, p9 = p := ⟨p, rfl⟩
    subst hp9
    refine st_boxAgg (n := 4) (p := p9) (vs := [.int .i64 3, pv, .int .i64 (coR t (runR t H L.toNat)), .int .i64 (runR t H L.toNat).2.1.exp]) rfl rfl hw inferInstance rfl rfl (by simp only [List.all_cons, List.all_nil, opv]; rfl) ?_
    clear hw
    intro w hw
    repeat (first | refine go_run ?_ | (refine go_newP ?_; clear hw; intro p w hw) | (refine go_newW ?_; clear hw; intro w hw) | (refine go_newS ?_; clear hw; intro s w hw))
    exact res_two (v := nilS) (v' := .iface 116 (.int .i64 10)) rfl rfl rfl (.inl ⟨rfl, rfl, hw.sel⟩)
  | goOn =>
    repeat (first | refine go_run ?_ | (refine go_newP ?_; clear hw; intro p w hw) | (refine go_newS ?_; clear hw; intro s w hw))
    obtain ⟨p9, hp9⟩ : ∃ p9, p9 = p := ⟨p, rfl⟩
    subst hp9
    refine st_boxAgg (n := 4) (p := p9) (vs := [.int .i64 2, pv, .int .i64 (coR t (runR t H L.toNat)), .int .i64 (runR t H L.toNat).2.1.exp]) rfl rfl hw inferInstance rfl rfl (by simp only [List.all_cons, List.all_nil, opv]; rfl) ?_
    clear hw
    intro w hw
    repeat (first | refine go_run ?_ | (refine go_newP ?_; clear hw; intro p w hw) | (refine go_newW ?_; clear hw; intro w hw) | (refine go_newS ?_; clear hw; intro s w hw))
    refine step_read rfl (rv_cell rfl (hw.rdE 1 rfl)) ?_
    repeat (first | refine go_run ?_ | (refine go_newP ?_; clear hw; intro p w hw) | (refine go_newW ?_; clear hw; intro w hw) | (refine go_newS ?_; clear hw; intro s w hw))
    exact res_two (v := bv) (v' := .nilIface) rfl rfl rfl (.inr ⟨by decide, bv, rfl, hw.sel⟩)
  | solved =>
    repeat (first | refine go_run ?_ | (refine go_newP ?_; clear hw; intro p w hw) | (refine go_newS ?_; clear hw; intro s w hw))
    obtain ⟨p9, hp9⟩ : ∃ p9, p9 = p := ⟨p, rfl⟩
    subst hp9
    refine st_boxAgg (n := 4) (p := p9) (vs := [.int .i64 1, pv, .int .i64 (coR t (runR t H L.toNat)), .int .i64 (runR t H L.toNat).2.1.exp]) rfl rfl hw inferInstance rfl rfl (by simp only [List.all_cons, List.all_nil, opv]; rfl) ?_
    clear hw
    intro w hw
    repeat (first | refine go_run ?_ | (refine go_newP ?_; clear hw; intro p w hw) | (refine go_newW ?_; clear hw; intro w hw) | (refine go_newS ?_; clear hw; intro s w hw))
    refine step_read rfl (rv_cell rfl (hw.rdE 1 rfl)) ?_
    repeat (first | refine go_run ?_ | (refine go_newP ?_; clear hw; intro p w hw) | (refine go_newW ?_; clear hw; intro w hw) | (refine go_newS ?_; clear hw; intro s w hw))
    exact res_two (v := bv) (v' := .nilIface) rfl rfl rfl (.inr ⟨by decide, bv, rfl, hw.sel⟩)
end Go.Proofs.YtkmbenhffledpaaGreat
