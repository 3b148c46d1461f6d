
/-
  Contract of 'patterns.Cliques'.
-/
import Derived.Test.YtemnlcnjpjdoaaaGreatDoorWPat1
import Derived.Test.YtemnlcnjpjdoaaaGreatDoorTPat
import Derived.Test.YtemnlcnjpjdoaaaGreatDoorWCliques
set_option linter.unusedSimpArgs false
set_option linter.unusedVariables false
namespace Go.Proofs.YtemnlcnjpjdoaaaGreatDoor
open Go.Sl Go
attribute [local irreducible] vc opsW opsD opV opW PureV ReadV Thn Blk
set_option maxRecDepth 8000 in
set_option maxHeartbeats 8000000 in
theorem paCliques_spec {w0 : World} {a b c d s : Value} {vs : List OpV} {t : TTask} {ss : List Value} {Ls : List (List Int)} (ht : RTask w0 a b c d vs t) (hl : RLs w0 s ss Ls) (hT : TabB w0) :
    Calls Tryz.prog 29 #[.agg #[a, b, c, d], s] w0 fun e w' =>
      (lErr t Ls ≠ 0 ∧ e = .returned (.tuple #[.slice none 0 0, errV (lErr t Ls)]) ∧ Sat w0 w' []) ∨
      (lErr t Ls = 0 ∧ 32 < Ls.length ∧ e = .returned (.tuple #[.slice none 0 0, errV 5]) ∧ Sat w0 w' []) ∨
      (lErr t Ls = 0 ∧ Ls.length = 0 ∧ e = .returned (.tuple #[.slice none 0 0, .nilIface]) ∧ Sat w0 w' []) ∨
      (lErr t Ls = 0 ∧ 0 < Ls.length ∧ Ls.length ≤ 32 ∧ ClqFull Ls.length (nbA Ls.length (arcP t Ls Ls.length)) ∧ e = .returned (.tuple #[.slice none 0 0, errV 10]) ∧ Sat w0 w' []) ∨
      (lErr t Ls = 0 ∧ 0 < Ls.length ∧ Ls.length ≤ 32 ∧ ∃ fv fs Cs, e = .returned (.tuple #[fv, .nilIface]) ∧ LexS Cs ∧ CliqL Ls.length (nbA Ls.length (arcP t Ls Ls.length)) Cs ∧ Cs.length ≤ 4096 ∧ Sat w0 w' [RowsAt tInt 3 fs Cs, OS tVal 22 fv fs]) := by
  have hlr := hl.rs
  have hln := hl.len
  have hlb := hlr.big
  have hw := Sat.start w0
  refine calls_of_vc (args := [.agg #[a, b, c, d], s]) mixed Tryz.func29 rfl (by kernel_rfl) (Nat.le_of_ble_eq_true rfl) ?_
  repeat (first | refine go_run ?_ | (refine go_newP ?_; clear hw; intro p w hw) | (refine go_newW ?_; clear hw; intro w hw) | (refine go_newS ?_; clear hw; intro s w hw))
  obtain ⟨pt, hpt⟩ : ∃ pt, pt = p := ⟨p, rfl⟩
  subst hpt
  refine st_call rfl (pachk_spec (ht.at hw) (hl.at hw)) ?_
  rintro _ w' ⟨rfl, hk'⟩
  replace hw := hw.call0 hk'
  clear hk'
  refine ⟨_, rfl, ?_⟩
  by_cases hk : lErr t Ls = 0
  rotate_left
  · rw [errV_some hk]
    repeat (first | refine go_run ?_ | (refine go_newP ?_; clear hw; intro p w hw) | (refine go_newW ?_; clear hw; intro w hw) | (refine go_newS ?_; clear hw; intro s w hw))
    exact res_two (v := .slice none 0 0) (v' := .iface 85 (.int .i64 (lErr t Ls))) rfl rfl rfl (.inl ⟨hk, rfl, hw.sel⟩)
  rw [errV_zero hk]
  repeat (first | refine go_run ?_ | (refine go_newP ?_; clear hw; intro p w hw) | (refine go_newW ?_; clear hw; intro w hw) | (refine go_newS ?_; clear hw; intro s w hw))
  refine go_if (fun h32 => ?_) (fun h32 => ?_)
  · repeat (first | refine go_run ?_ | (refine go_newP ?_; clear hw; intro p w hw) | (refine go_newW ?_; clear hw; intro w hw) | (refine go_newS ?_; clear hw; intro s w hw))
    exact res_two (v := .slice none 0 0) (v' := .iface 85 (.int .i64 5)) rfl rfl rfl (.inr (.inl ⟨hk, by omega, by rw [errV_some (by decide)], hw.sel⟩))
  repeat (first | refine go_run ?_ | (refine go_newP ?_; clear hw; intro p w hw) | (refine go_newW ?_; clear hw; intro w hw) | (refine go_newS ?_; clear hw; intro s w hw))
  refine go_if (fun h0 => ?_) (fun h0 => ?_)
  · repeat (first | refine go_run ?_ | (refine go_newP ?_; clear hw; intro p w hw) | (refine go_newW ?_; clear hw; intro w hw) | (refine go_newS ?_; clear hw; intro s w hw))
    exact res_two (v := .slice none 0 0) (v' := .nilIface) rfl rfl rfl (.inr (.inr (.inl ⟨hk, by omega, rfl, hw.sel⟩)))
  have hn32 : Ls.length ≤ 32 := by omega
  have hn0 : 0 < Ls.length := by omega
  repeat (first | refine go_run ?_ | (refine go_newP ?_; clear hw; intro p w hw) | (refine go_newW ?_; clear hw; intro w hw) | (refine go_newS ?_; clear hw; intro s w hw))
  have hw1 : Sat w0 w' [OS tArc 82 (.slice none 0 0) (arcP t Ls 0), Box pt 26 [a, b, c, d]] := hw.nil (T := tArc) (e := 82)
  clear hw
  refine vc_loop2 [7, 8, 9, 10, 26, 27, 28, 29, 30, 31, 32, 33, 34, 35, 36, 37, 38, 39, 40, 41, 42, 43, 44, 45, 46, 47, 48, 49] (G := Nat) (H := Value) (fun i av => [(26, .int .i64 i), (7, av)]) (fun i av w => i ≤ Ls.length ∧ Sat w0 w [OS tArc 82 av (arcP t Ls i), Box pt 26 [a, b, c, d]]) (fun i _ => Ls.length - i) 0 (.slice none 0 0) (fun _ _ => rfl) ⟨rfl, rfl, trivial⟩ ⟨Nat.zero_le _, hw1⟩ ?_
  clear hw1
  rintro σ i av w ⟨hi, hw⟩
  repeat (first | refine go_run ?_ | (refine go_newP ?_; clear hw; intro p w hw) | (refine go_newW ?_; clear hw; intro w hw) | (refine go_newS ?_; clear hw; intro s w hw))
  refine go_if (fun h1 => ?_) (fun h1 => ?_)
  · have hil : i < Ls.length := by omega
    have hpl := arcP_len (t := t) (Ls := Ls) i (by omega)
    repeat (first | refine go_run ?_ | (refine go_newP ?_; clear hw; intro p w hw) | (refine go_newW ?_; clear hw; intro w hw) | (refine go_newS ?_; clear hw; intro s w hw))
    have hw1 : Sat w0 w [OS tArc 82 av (arcP t Ls i ++ arcR t Ls i 0), Box pt 26 [a, b, c, d]] := by rw [show arcR t Ls i 0 = [] from rfl, List.append_nil]; exact hw
    clear hw
    refine vc_loop2 [7, 10, 32, 33, 34, 35, 36, 37, 38, 39, 40, 41, 42, 43, 44, 45, 46, 47, 48] (G := Nat) (H := Value) (fun k av => [(32, .int .i64 k), (7, av)]) (fun k av w => k ≤ i ∧ Sat w0 w [OS tArc 82 av (arcP t Ls i ++ arcR t Ls i k), Box pt 26 [a, b, c, d]]) (fun k _ => i - k) 0 av (fun _ _ => rfl) ⟨rfl, rfl, trivial⟩ ⟨Nat.zero_le _, hw1⟩ ?_
    clear hw1
    rintro σ1 k av1 w ⟨hk1, hw⟩
    repeat (first | refine go_run ?_ | (refine go_newP ?_; clear hw; intro p w hw) | (refine go_newW ?_; clear hw; intro w hw) | (refine go_newS ?_; clear hw; intro s w hw))
    refine go_if (fun h2 => ?_) (fun h2 => ?_)
    · have hki : k < i := by omega
      have hrl := arcR_len (t := t) (Ls := Ls) (i := i) k
      have hkl : k < Ls.length := by omega
      repeat (first | refine go_run ?_ | (refine go_newP ?_; clear hw; intro p w hw) | (refine go_newWr ?_; clear hw; intro w hw) | (refine go_newS ?_; clear hw; intro s w hw))
      refine vc_plan [.op 0, .op 1, .op 2, .op 3, .op 4, .op 5, .op 6] hw (by kernel_rfl) ?_; clear hw; intro w hw
      repeat (first | refine go_run ?_ | (refine go_newP ?_; clear hw; intro p w hw) | (refine go_newWr ?_; clear hw; intro w hw) | (refine go_newS ?_; clear hw; intro s w hw))
      have hal : (arcP t Ls i ++ arcR t Ls i k).length ≤ 4096 := by rw [List.length_append]; omega
      refine st_call rfl (additive_spec (ht.at hw) ((hl.at_ i hil).at hw) ((hl.at_ k hkl).at hw)) ?_
      rintro _ w' ⟨⟨r, rfl, hr⟩, hk'⟩
      replace hw := hw.call0 hk'
      clear hk'
      refine ⟨_, rfl, ?_⟩
      cases r
      · repeat (first | refine go_run ?_ | (refine go_newP ?_; clear hw; intro p w hw) | (refine go_newW ?_; clear hw; intro w hw) | (refine go_newS ?_; clear hw; intro s w hw))
        exact ⟨k + 1, av1, ⟨rfl, rfl, trivial⟩, by repeat (first | exact agree_refl | (apply agree_upd rfl) | (apply agree_mix rfl) | (apply agree_sets rfl)), ⟨by omega, by rw [arcR_out (fun h => by have := hr.2 h; cases this)]; exact hw⟩, by omega⟩
      · repeat (first | refine go_run ?_ | (refine go_newP ?_; clear hw; intro p w hw) | (refine go_newW ?_; clear hw; intro w hw) | (refine go_newS ?_; clear hw; intro s w hw))
        refine st_buildSlice1 tArc (x1 := ⟨(k : Int), (i : Int), 1⟩) rfl rfl rfl (Nat.le_of_ble_eq_true rfl) (Nat.zero_lt_succ _) hw ?_
        clear hw
        intro bs w hw
        refine st_append (s := av1) (s2 := bs) inferInstance rfl rfl (rsO hw) rfl rfl (fun y hy v hv => by
          rw [List.mem_singleton.1 hy] at hv
          simp only [tArc, List.mem_cons, List.not_mem_nil, or_false] at hv
          rcases hv with rfl | rfl | rfl <;> rfl) (by simp only [List.length_cons, List.length_nil]; omega) (by unfold big; simp only [List.length_cons, List.length_nil]; omega) hw ?_
        clear hw
        intro s' w hw
        repeat (first | refine go_run ?_ | (refine go_newP ?_; clear hw; intro p w hw) | (refine go_newW ?_; clear hw; intro w hw) | (refine go_newS ?_; clear hw; intro s w hw))
        refine ⟨k + 1, s', ⟨rfl, rfl, trivial⟩, by repeat (first | exact agree_refl | (apply agree_upd rfl) | (apply agree_mix rfl) | (apply agree_sets rfl)), ⟨by omega, ?_⟩, by omega⟩
        rw [arcR_in (hr.1 rfl), ← List.append_assoc]
        exact hw.tail
    · have hke : k = i := by omega
      subst hke
      rw [arcP_succ] at hw
      repeat (first | refine go_run ?_ | (refine go_newP ?_; clear hw; intro p w hw) | (refine go_newW ?_; clear hw; intro w hw) | (refine go_newS ?_; clear hw; intro s w hw))
      exact ⟨k + 1, av1, ⟨rfl, rfl, trivial⟩, by repeat (first | exact agree_refl | (apply agree_upd rfl) | (apply agree_mix rfl) | (apply agree_sets rfl)), ⟨by omega, hw⟩, by omega⟩
  · have hie : i = Ls.length := by omega
    subst hie
    have hck := arcP_check (t := t) (Ls := Ls) hn32
    repeat (first | refine go_run ?_ | (refine go_newP ?_; clear hw; intro p w hw) | (refine go_newW ?_; clear hw; intro w hw) | (refine go_newS ?_; clear hw; intro s w hw))
    obtain ⟨z, hz⟩ : ∃ z : Nat, z = Ls.length := ⟨_, rfl⟩
    rw [← hz] at hck hw
    refine st_call rfl (Cliques_spec (n := (ss.length : Int)) (a := av) (arcs := arcP t Ls z) (rsO hw) (hT.at hw)) ?_
    rw [hln, ← hz]
    rintro _ w' hR
    rw [Int.toNat_natCast] at hR
    rw [hz] at hR hck hw ⊢
    clear hz
    rcases hR with ⟨hc, _⟩ | ⟨_, h32, _⟩ | ⟨_, hz, _⟩ | ⟨_, h0, _, hF, rfl, hk'⟩ | ⟨_, h0, _, fv, fs, Cs, rfl, hlex, hcl, hcnt, hk'⟩
    · exact absurd hck hc
    · exfalso; omega
    · exfalso; omega
    · replace hw := hw.call0 hk'
      clear hk'
      refine ⟨_, rfl, ?_⟩
      repeat (first | refine go_run ?_ | (refine go_newP ?_; clear hw; intro p w hw) | (refine go_newW ?_; clear hw; intro w hw) | (refine go_newS ?_; clear hw; intro s w hw))
      exact res_two (v := .slice none 0 0) (v' := errV 10) rfl rfl rfl (.inr (.inr (.inr (.inl ⟨hk, hn0, hn32, hF, rfl, hw.sel⟩))))
    · replace hw := hw.call2 hk'
      clear hk'
      refine ⟨_, rfl, ?_⟩
      repeat (first | refine go_run ?_ | (refine go_newP ?_; clear hw; intro p w hw) | (refine go_newW ?_; clear hw; intro w hw) | (refine go_newS ?_; clear hw; intro s w hw))
      exact res_two (v := fv) (v' := .nilIface) rfl rfl rfl (.inr (.inr (.inr (.inr ⟨hk, hn0, hn32, fv, fs, Cs, rfl, hlex, hcl, hcnt, hw.sel⟩))))
end Go.Proofs.YtemnlcnjpjdoaaaGreatDoor
