
/-
  Contract of LM-cut's 'arcs'.
-/
import Derived.Test.YtkmbenhffledpaaGreatWLm2
import Derived.Test.YtkmbenhffledpaaGreatTCut5
set_option linter.unusedSimpArgs false
set_option linter.unusedVariables false
namespace Go.Proofs.YtkmbenhffledpaaGreat
open Go.Sl Go
attribute [local irreducible] vc opsW opsD opV opW PureV ReadV Thn Blk
set_option maxRecDepth 8000 in
set_option maxHeartbeats 8000000 in
theorem larcs_spec {w0 : World} {pr : Addr} {a fv gv cv0 lv vv : Value} {us : List CUV} {t : TTask} {V : List Int} (hr : LcR w0 pr t a fv gv cv0 lv us) (hg : GoodT t) (hv : RS tInt w0 vv V) (hVl : V.length = factN t) (hV : ∀ g : Int, 0 ≤ g → g < factN t → 0 ≤ dg V g) :
    Calls Tryz.prog 202 #[.pointer (some pr), vv] w0 fun e w' => ∃ av, e = .returned av ∧ Sat w0 w' [OS tLArc 336 av (arcsT t V)] := by
  obtain ⟨hb, hvr, hfr, hgr, hcr, hlr, hll, hF⟩ := hr
  have hN := factN_le hg
  have hol := hg.ops
  have hUl : (unT t).length ≤ 64 * t.ops.length := unK_len hg (k := t.ops.length) (Nat.le_refl _)
  have hw := Sat.start w0
  refine calls_of_vc (args := [.pointer (some pr), vv]) mixed Tryz.func202 rfl (by kernel_rfl) (Nat.le_of_ble_eq_true rfl) ?_
  replace hw := hw.nil (T := tLArc) (e := 336)
  rw [← arcK_zero t V] at hw
  repeat (first | refine go_run ?_ | (refine go_newP ?_; clear hw; intro p w hw) | (refine go_newW ?_; clear hw; intro w hw) | (refine go_newS ?_; clear hw; intro s w hw))
  refine vc_loop2 [5, 7, 13, 14, 15, 16, 17, 18, 19, 20, 21, 22, 23, 24, 25, 26, 27, 28, 29, 30, 31, 32, 33, 34] (G := Nat) (H := Value) (fun k av => [(13, .int .i64 k), (5, av)]) (fun k av w => k ≤ (unT t).length ∧ Sat w0 w [OS tLArc 336 av (arcK t V k)]) (fun k _ => (unT t).length - k) 0 (.slice none 0 0) (fun _ _ => rfl) ⟨rfl, rfl, trivial⟩ ⟨Nat.zero_le _, hw⟩ ?_
  clear hw
  rintro σ k av w ⟨hk, hw⟩
  have hal := arcK_len t V k
  repeat (first | refine go_run ?_ | (refine go_newP ?_; clear hw; intro p w hw) | (refine go_newW ?_; clear hw; intro w hw) | (refine go_newS ?_; clear hw; intro s w hw))
  refine go_if (fun h1 => ?_) (fun h1 => ?_)
  · have hkl : k < (unT t).length := by omega
    obtain ⟨c1, c2, L, c3, c4⟩ := hF k hkl
    obtain ⟨op, hop, hopl⟩ := un_opR hkl
    have hU := unT_ok hg
    have hn : ∀ f ∈ L, 0 ≤ f ∧ f < factN t := fun f hf => hU.needs k hkl f ((c4 f).1 hf)
    have hnd : ∀ f ∈ L, 0 ≤ f ∧ 0 ≤ dg V f := fun f hf => ⟨(hn f hf).1, hV f (hn f hf).1 (hn f hf).2⟩
    have hsame := hiV_same c4 hnd
    have hgs := grtI_same (V := V) c4 fun f hf => (hn f hf).1
    have hsucc := arcK_succ t V k
    obtain ⟨mk, hmke⟩ : ∃ mk, mk = (un (unT t) k).makes := ⟨_, rfl⟩
    rw [← hmke] at c2
    have ouk := c3.one
    have houk : (tCU.enc (eget tCU us k)).all Value.oneCell' = true := by
      show ((Value.int .i64 (eget tCU us k).op).oneCell' && ((Value.int .i64 (eget tCU us k).makes).oneCell' && ((eget tCU us k).needs.oneCell' && true))) = true
      rw [ouk]; rfl
    have hen : tCU.enc (eget tCU us k) = [.int .i64 (op : Int), .int .i64 mk, (eget tCU us k).needs] := by
      show [Value.int .i64 (eget tCU us k).op, Value.int .i64 (eget tCU us k).makes, (eget tCU us k).needs] = _
      rw [c1, c2, hop]
    repeat (first | refine go_run ?_ | (refine go_newP ?_; clear hw; intro p w hw) | (refine go_newW ?_; clear hw; intro w hw) | (refine go_newS ?_; clear hw; intro s w hw))
    refine st_call rfl (lhighest_spec (lv := (eget tCU us k).needs) (c3.at hw) (hv.at hw) fun f hf => ⟨(hn f hf).1, by have := (hn f hf).2; omega⟩) ?_
    rintro _ w' ⟨rfl, hk'⟩
    replace hw := hw.call0 hk'
    clear hk'
    refine ⟨_, rfl, ?_⟩
    obtain ⟨p7, hp7⟩ : ∃ p7, p7 = p := ⟨p, rfl⟩
    subst hp7
    replace hw : Sat w0 w' [Box p7 135 [.int .i64 (op : Int), .int .i64 mk, (eget tCU us k).needs], OS tLArc 336 av (arcK t V k)] := by rw [← hen]; exact hw
    repeat (first | refine go_run ?_ | (refine go_newP ?_; clear hw; intro p w hw) | (refine go_newWr ?_; clear hw; intro w hw) | (refine go_newS ?_; clear hw; intro s w hw))
    refine go_if (fun h2 => ?_) (fun h2 => ?_)
    · have hlt : hiV V (un (unT t) k).needs < inf := by rw [← hsame]; exact h2
      rw [arcU, if_pos hlt] at hsucc
      repeat (first | refine go_run ?_ | (refine go_newP ?_; clear hw; intro p w hw) | (refine go_newWr ?_; clear hw; intro w hw) | (refine go_newS ?_; clear hw; intro s w hw))
      refine vc_plan [.op 0, .op 1, .op 2, .op 3, .op 5, .op 6, .op 7, .op 8, .op 4, .chk 6, .chk 8, .op 9, .op 10, .op 11, .op 12] hw (by kernel_rfl) ?_; clear hw; intro w hw
      repeat (first | refine go_run ?_ | (refine go_newP ?_; clear hw; intro p w hw) | (refine go_newWr ?_; clear hw; intro w hw) | (refine go_newS ?_; clear hw; intro s w hw))
      refine st_call rfl (lgreatest_spec (lv := (eget tCU us k).needs) (c3.at hw) (hv.at hw) fun f hf => ⟨(hn f hf).1, by have := (hn f hf).2; omega⟩) ?_
      rintro _ w' ⟨rfl, hk'⟩
      replace hw := hw.call0 hk'
      clear hk'
      refine ⟨_, rfl, ?_⟩
      repeat (first | refine go_run ?_ | (refine go_newP ?_; clear hw; intro p w hw) | (refine go_newWr ?_; clear hw; intro w hw) | (refine go_newS ?_; clear hw; intro s w hw))
      refine st_buildSlice1 tLArc (x1 := ⟨grtI V L, mk, op⟩) rfl rfl rfl (Nat.le_of_ble_eq_true rfl) (Nat.zero_lt_succ _) hw ?_
      clear hw
      intro sl w hw
      repeat (first | refine go_run ?_ | (refine go_newP ?_; clear hw; intro p w hw) | (refine go_newWr ?_; clear hw; intro w hw) | (refine go_newS ?_; clear hw; intro s w hw))
      obtain ⟨av2, hav2⟩ : ∃ av2, av2 = s := ⟨s, rfl⟩
      subst hav2
      rw [hgs, hmke, ← hop, ← hsucc] at hw
      exact ⟨k + 1, av2, ⟨rfl, rfl, trivial⟩, by repeat (first | exact agree_refl | (apply agree_upd rfl) | (apply agree_mix rfl) | (apply agree_sets rfl)), ⟨by omega, hw.tail.tail⟩, by omega⟩
    · have hlt : ¬ hiV V (un (unT t) k).needs < inf := by rw [← hsame]; exact Int.not_lt.2 h2
      rw [arcU, if_neg hlt, List.append_nil] at hsucc
      repeat (first | refine go_run ?_ | (refine go_newP ?_; clear hw; intro p w hw) | (refine go_newWr ?_; clear hw; intro w hw) | (refine go_newS ?_; clear hw; intro s w hw))
      exact ⟨k + 1, av, ⟨rfl, rfl, trivial⟩, by repeat (first | exact agree_refl | (apply agree_upd rfl) | (apply agree_mix rfl) | (apply agree_sets rfl)), ⟨by omega, by rw [hsucc]; exact hw.tail⟩, by omega⟩
  have hke : k = (unT t).length := by omega
  subst hke
  repeat (first | refine go_run ?_ | (refine go_newP ?_; clear hw; intro p w hw) | (refine go_newW ?_; clear hw; intro w hw) | (refine go_newS ?_; clear hw; intro s w hw))
  exact res_one (v := av) rfl rfl ⟨av, rfl, hw⟩
end Go.Proofs.YtkmbenhffledpaaGreat
