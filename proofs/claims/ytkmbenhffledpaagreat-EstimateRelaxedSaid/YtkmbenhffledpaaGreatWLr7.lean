
/-
  Contract of reference 35's 'Arcs'.
-/
import Derived.Test.YtkmbenhffledpaaGreatWLr6
set_option linter.unusedSimpArgs false
set_option linter.unusedVariables false
namespace Go.Proofs.YtkmbenhffledpaaGreat
open Go.Sl Go
attribute [local irreducible] vc opsW opsD opV opW PureV ReadV Thn Blk
def tRA : Ty RArc := ⟨6, fun a => [.bool a.start, .int .i64 a.src.var, .int .i64 a.src.val, .int .i64 a.dst.var, .int .i64 a.dst.val, .int .i64 a.op], fun _ => rfl, ⟨false, ⟨0, 0⟩, ⟨0, 0⟩, 0⟩⟩
instance oneRA : OneT tRA := ⟨fun x v hv => by simp only [tRA, List.mem_cons, List.not_mem_nil, or_false] at hv; rcases hv with rfl | rfl | rfl | rfl | rfl | rfl <;> rfl⟩
set_option maxRecDepth 8000 in
set_option maxHeartbeats 8000000 in
theorem r35Arcs_spec {w0 : World} {a b c d vv : Value} {vs : List OpV} {t : TTask} {V : List Int} (ht : RTask w0 a b c d vs t) (hg : GoodT t) (hv : RVals w0 vv t.vars V) :
    Calls Tryz.prog 39 #[.agg #[a, b, c, d], vv] w0 fun e w' => ∃ av A, e = .returned av ∧ RArcs t V t.ops.length 0 A ∧ Sat w0 w' [OS tRA 88 av A] := by
  have hdr := ht.ops.rs
  have hdl := ht.ops.len
  have hol := hg.ops
  have hvl := hg.vars
  have hw := Sat.start w0
  refine calls_of_vc (args := [.agg #[a, b, c, d], vv]) mixed Tryz.func39 rfl (by kernel_rfl) (Nat.le_of_ble_eq_true rfl) ?_
  repeat (first | refine go_run ?_ | (refine go_newP ?_; clear hw; intro p w hw) | (refine go_newW ?_; clear hw; intro w hw) | (refine go_newS ?_; clear hw; intro s w hw))
  obtain ⟨pt, hpt⟩ : ∃ pt, pt = p := ⟨p, rfl⟩
  subst hpt
  replace hw := hw.nil (T := tRA) (e := 88)
  refine vc_loop3 [5, 6, 7, 8, 9, 10, 11, 15, 16, 17, 18, 19, 20, 21, 22, 23, 24, 25, 26, 27, 28, 29, 30, 31, 32, 33, 34, 35, 36, 37, 38, 39, 40, 41, 42, 43, 44, 45, 46, 47, 48, 49, 50, 51, 52, 53, 54, 55, 56, 57, 58, 59] (G := Nat) (H := Value) (I := List RArc) (fun k av _ => [(15, .int .i64 k), (5, av)]) (fun k av A w => k ≤ t.ops.length ∧ RArcs t V k 0 A ∧ Sat w0 w [OS tRA 88 av A, Box pt 26 [a, b, c, d]]) (fun k _ _ => t.ops.length - k) 0 (.slice none 0 0) [] (fun _ _ _ => rfl) ⟨rfl, rfl, trivial⟩ ⟨Nat.zero_le _, RArcs.zero t V, hw⟩ ?_
  clear hw
  rintro σ k av A w ⟨hk, hA, hw⟩
  repeat (first | refine go_run ?_ | (refine go_newP ?_; clear hw; intro p w hw) | (refine go_newW ?_; clear hw; intro w hw) | (refine go_newS ?_; clear hw; intro s w hw))
  refine go_if (fun h1 => ?_) (fun h1 => ?_)
  · have hkl : k < t.ops.length := by omega
    have hop := ht.ops.at_ k hkl
    have hoo := hg.op k hkl
    have hone := hop.one
    obtain ⟨es, hes⟩ := hop.effs
    have hesr := hes.rs
    have hesl := hes.len
    have heb := hoo.effs
    repeat (first | refine go_run ?_ | (refine go_newP ?_; clear hw; intro p w hw) | (refine go_newW ?_; clear hw; intro w hw) | (refine go_newS ?_; clear hw; intro s w hw))
    obtain ⟨po, hpo⟩ : ∃ po, po = p := ⟨p, rfl⟩
    subst hpo
    have hw1 : Sat w0 w [Box po 56 (tOp.enc (eget tOp vs k)), OS tRA 88 av A, Box pt 26 [a, b, c, d]] := hw
    clear hw
    have hw := hw1
    clear hw1
    refine vc_loop3 [5, 8, 9, 10, 11, 23, 24, 25, 26, 27, 28, 29, 30, 31, 32, 33, 34, 35, 36, 37, 38, 39, 40, 41, 42, 43, 44, 45, 46, 47, 48, 49, 50, 51, 52, 53, 54, 55, 56, 57, 58] (G := Nat) (H := Value) (I := List RArc) (fun j av _ => [(23, .int .i64 j), (5, av)]) (fun j av A w => j ≤ (t.ops.getD k dOp).effs.length ∧ RArcs t V k j A ∧ Sat w0 w [Box po 56 (tOp.enc (eget tOp vs k)), OS tRA 88 av A, Box pt 26 [a, b, c, d]]) (fun j _ _ => (t.ops.getD k dOp).effs.length - j) 0 av A (fun _ _ _ => rfl) ⟨rfl, rfl, trivial⟩ ⟨Nat.zero_le _, hA, hw⟩ ?_
    clear hw hA
    rintro σ1 j av A w ⟨hj, hA, hw⟩
    have hAl := hA.len
    repeat (first | refine go_run ?_ | (refine go_newP ?_; clear hw; intro p w hw) | (refine go_newW ?_; clear hw; intro w hw) | (refine go_newS ?_; clear hw; intro s w hw))
    refine go_if (fun h2 => ?_) (fun h2 => ?_)
    · have hjl : j < (t.ops.getD k dOp).effs.length := by omega
      have hue := hes.at_ j hjl
      have hue1 := hue.var
      have hue2 := hue.val
      have hueo := hue.one
      obtain ⟨x0, x1, x2, x3⟩ := rTo_ok hg hkl hjl
      have hnok := rNeed_ok hg hkl hjl
      have hnl := rNeed_len hg hkl hjl
      have hen : tEff.enc (eget tEff es j) = [(eget tEff es j).when, .int .i64 (rTo (t.ops.getD k dOp) j).var, .int .i64 (rTo (t.ops.getD k dOp) j).val] := by
        show [(eget tEff es j).when, .int .i64 (eget tEff es j).var, .int .i64 (eget tEff es j).val] = _
        rw [hue1, hue2]; rfl
      obtain ⟨to, hto⟩ : ∃ to, to = rTo (t.ops.getD k dOp) j := ⟨_, rfl⟩
      repeat (first | refine go_run ?_ | (refine go_newP ?_; clear hw; intro p w hw) | (refine go_newW ?_; clear hw; intro w hw) | (refine go_newS ?_; clear hw; intro s w hw))
      obtain ⟨p9, hp9⟩ : ∃ p9, p9 = p := ⟨p, rfl⟩
      subst hp9
      refine st_call rfl (r34Needs_spec (hop.at hw) hoo hvl hjl) ?_
      rintro _ w' ⟨nv, rfl, hk'⟩
      replace hw := hw.call1 hk'
      clear hk'
      refine ⟨_, rfl, ?_⟩
      rw [hen, ← hto] at hw
      replace hw : Sat w0 w' [OS tFact 77 nv (rNeed (t.ops.getD k dOp) j), Box p9 80 [(eget tEff es j).when, .int .i64 to.var, .int .i64 to.val], Box po 56 (tOp.enc (eget tOp vs k)), OS tRA 88 av A, Box pt 26 [a, b, c, d]] := hw
      repeat (first | refine go_run ?_ | (refine go_newP ?_; clear hw; intro p w hw) | (refine go_newW ?_; clear hw; intro w hw) | (refine go_newS ?_; clear hw; intro s w hw))
      obtain ⟨p11, hp11⟩ : ∃ p11, p11 = p := ⟨p, rfl⟩
      subst hp11
      replace hw : Sat w0 w [Box p11 77 [.int .i64 to.var, .int .i64 to.val], OS tFact 77 nv (rNeed (t.ops.getD k dOp) j), Box p9 80 [(eget tEff es j).when, .int .i64 to.var, .int .i64 to.val], Box po 56 (tOp.enc (eget tOp vs k)), OS tRA 88 av A, Box pt 26 [a, b, c, d]] := hw
      by_cases hn0 : (rNeed (t.ops.getD k dOp) j) = []
      · have hl0 : ((rNeed (t.ops.getD k dOp) j)).length = 0 := by rw [hn0]; rfl
        refine go_if (fun h3 => ?_) (fun h3 => ?_)
        · repeat (first | refine go_run ?_ | (refine go_newP ?_; clear hw; intro p w hw) | (refine go_newW ?_; clear hw; intro w hw) | (refine go_newS ?_; clear hw; intro s w hw))
          refine st_buildN (vs := [(0, .bool true), (2, .agg #[.int .i64 to.var, .int .i64 to.val]), (3, .int .i64 (k : Int))]) (ls := [(0, [.bool true]), (2, [.int .i64 to.var, .int .i64 to.val]), (3, [.int .i64 (k : Int)])]) rfl rfl rfl ?_
          refine st_buildSlice1 tRA (x1 := ⟨true, ⟨0, 0⟩, to, k⟩) rfl rfl rfl (Nat.le_of_ble_eq_true rfl) (Nat.zero_lt_succ _) hw ?_
          clear hw
          intro s0 w hw
          repeat (first | refine go_run ?_ | (refine go_newP ?_; clear hw; intro p w hw) | (refine go_newW ?_; clear hw; intro w hw) | (refine go_newS ?_; clear hw; intro s w hw))
          obtain ⟨av2, hav2⟩ : ∃ av2, av2 = s := ⟨s, rfl⟩
          subst hav2
          exact ⟨j + 1, av2, _, ⟨rfl, rfl, trivial⟩, by repeat (first | exact agree_refl | (apply agree_upd rfl) | (apply agree_mix rfl) | (apply agree_sets rfl)), ⟨by omega, hA.snoc (a := ⟨true, ⟨0, 0⟩, to, k⟩) hkl hjl ⟨rfl, hto, by rw [hn0]; exact (by decide : (0 : Int) < inf), .inl ⟨hn0, rfl⟩⟩, hw.sel⟩, by omega⟩
        · omega
      · have hl0 : ((rNeed (t.ops.getD k dOp) j)).length ≠ 0 := fun h => hn0 (List.length_eq_zero_iff.1 h)
        refine go_if (fun h3 => ?_) (fun h3 => ?_)
        · omega
        repeat (first | refine go_run ?_ | (refine go_newP ?_; clear hw; intro p w hw) | (refine go_newW ?_; clear hw; intro w hw) | (refine go_newS ?_; clear hw; intro s w hw))
        refine st_call rfl (r34Greatest_spec (hv.at hw) (rsO (s := nv) hw) hnok) ?_
        rintro _ w' ⟨rfl, hk'⟩
        replace hw := hw.call0 hk'
        clear hk'
        refine ⟨_, rfl, ?_⟩
        repeat (first | refine go_run ?_ | (refine go_newP ?_; clear hw; intro p w hw) | (refine go_newW ?_; clear hw; intro w hw) | (refine go_newS ?_; clear hw; intro s w hw))
        refine go_if (fun h4 => ?_) (fun h4 => ?_)
        · repeat (first | refine go_run ?_ | (refine go_newP ?_; clear hw; intro p w hw) | (refine go_newWr ?_; clear hw; intro w hw) | (refine go_newS ?_; clear hw; intro s w hw))
          refine vc_plan [.op 0, .op 1, .op 2, .op 4, .op 5, .op 3, .chk 4, .op 6, .op 7, .op 8, .op 9] hw (by kernel_rfl) ?_; clear hw; intro w hw
          repeat (first | refine go_run ?_ | (refine go_newP ?_; clear hw; intro p w hw) | (refine go_newWr ?_; clear hw; intro w hw) | (refine go_newS ?_; clear hw; intro s w hw))
          refine st_call rfl (r35Greatest_spec hg.pos (hv.at hw) (rsO (s := nv) hw) hn0 hnok) ?_
          rintro _ w' ⟨f, rfl, hgf, hk'⟩
          replace hw := hw.call0 hk'
          clear hk'
          refine ⟨_, rfl, ?_⟩
          repeat (first | refine go_run ?_ | (refine go_newP ?_; clear hw; intro p w hw) | (refine go_newWr ?_; clear hw; intro w hw) | (refine go_newS ?_; clear hw; intro s w hw))
          refine st_buildN (vs := [(1, .agg #[.int .i64 f.var, .int .i64 f.val]), (2, .agg #[.int .i64 to.var, .int .i64 to.val]), (3, .int .i64 (k : Int))]) (ls := [(1, [.int .i64 f.var, .int .i64 f.val]), (2, [.int .i64 to.var, .int .i64 to.val]), (3, [.int .i64 (k : Int)])]) rfl rfl rfl ?_
          repeat (first | refine go_run ?_ | (refine go_newP ?_; clear hw; intro p w hw) | (refine go_newWr ?_; clear hw; intro w hw) | (refine go_newS ?_; clear hw; intro s w hw))
          refine st_buildSlice1 tRA (x1 := ⟨false, f, to, k⟩) rfl rfl rfl (Nat.le_of_ble_eq_true rfl) (Nat.zero_lt_succ _) hw ?_
          clear hw
          intro s0 w hw
          repeat (first | refine go_run ?_ | (refine go_newP ?_; clear hw; intro p w hw) | (refine go_newWr ?_; clear hw; intro w hw) | (refine go_newS ?_; clear hw; intro s w hw))
          obtain ⟨av2, hav2⟩ : ∃ av2, av2 = s := ⟨s, rfl⟩
          subst hav2
          exact ⟨j + 1, av2, _, ⟨rfl, rfl, trivial⟩, by repeat (first | exact agree_refl | (apply agree_upd rfl) | (apply agree_mix rfl) | (apply agree_sets rfl)), ⟨by omega, hA.snoc (a := ⟨false, f, to, k⟩) hkl hjl ⟨rfl, hto, h4, .inr ⟨hn0, rfl, hgf⟩⟩, hw.sel⟩, by omega⟩
        · repeat (first | refine go_run ?_ | (refine go_newP ?_; clear hw; intro p w hw) | (refine go_newW ?_; clear hw; intro w hw) | (refine go_newS ?_; clear hw; intro s w hw))
          exact ⟨j + 1, av, A, ⟨rfl, rfl, trivial⟩, by repeat (first | exact agree_refl | (apply agree_upd rfl) | (apply agree_mix rfl) | (apply agree_sets rfl)), ⟨by omega, hA.none (Int.not_lt.2 h4), hw.sel⟩, by omega⟩
    have hje : j = (t.ops.getD k dOp).effs.length := by omega
    subst hje
    repeat (first | refine go_run ?_ | (refine go_newP ?_; clear hw; intro p w hw) | (refine go_newW ?_; clear hw; intro w hw) | (refine go_newS ?_; clear hw; intro s w hw))
    exact ⟨k + 1, av, A, ⟨rfl, rfl, trivial⟩, by repeat (first | exact agree_refl | (apply agree_upd rfl) | (apply agree_mix rfl) | (apply agree_sets rfl)), ⟨by omega, hA.next hg hkl, hw.sel⟩, by omega⟩
  have hke : k = t.ops.length := by omega
  subst hke
  repeat (first | refine go_run ?_ | (refine go_newP ?_; clear hw; intro p w hw) | (refine go_newW ?_; clear hw; intro w hw) | (refine go_newS ?_; clear hw; intro s w hw))
  exact res_one (v := av) rfl rfl ⟨av, A, rfl, hA, hw.sel⟩
end Go.Proofs.YtkmbenhffledpaaGreat
