
/-
  Contract of 'pack.Unpack'.
-/
import Derived.Test.YtegndanecnicaaaGreatWPack
import Derived.Test.YtegndanecnicaaaGreatMTA
set_option linter.unusedSimpArgs false
set_option linter.unusedVariables false
namespace Go.Proofs.YtegndanecnicaaaGreat
open Go.Sl Go
attribute [local irreducible] vc opsW opsD opV opW PureV ReadV Thn Blk
set_option maxRecDepth 8000 in
theorem CloneU_spec {w0 : World} {a : Value} {xs : List Nat} (ha : RS tU64 w0 a xs) (hn : xs.length ≤ 1048576) :
    Calls Tryz.prog 100 #[a] w0 fun e w' => ∃ s, e = .returned s ∧ Sat w0 w' [OS tU64 198 s xs] := by
  have hw := Sat.start w0
  obtain ⟨ad, cap, hs⟩ := ha.shape
  subst hs
  refine calls_of_vc (args := [.slice ad xs.length cap]) mixed Tryz.func100 rfl (by kernel_rfl) (Nat.le_of_ble_eq_true rfl) ?_
  repeat (first | refine go_run ?_ | (refine go_newP ?_; clear hw; intro p w hw) | (refine go_newW ?_; clear hw; intro w hw) | (refine go_newS ?_; clear hw; intro s w hw))
  refine step_pure rfl (pv_eqlNilS (a := ad) (n := xs.length) (c := cap) rfl) ?_
  cases ad with
  | none =>
    have h0 : xs = [] := by
      rcases Nat.eq_zero_or_pos xs.length with h | h
      · exact List.eq_nil_of_length_eq_zero h
      · obtain ⟨p, c2, he, _⟩ := ha.some (by decide) h
        cases he
    subst h0
    repeat (first | refine go_run ?_ | (refine go_newP ?_; clear hw; intro p w hw) | (refine go_newW ?_; clear hw; intro w hw) | (refine go_newS ?_; clear hw; intro s w hw))
    exact res_one (v := .slice none 0 0) rfl rfl ⟨_, rfl, hw.nil⟩
  | some p =>
    repeat (first | refine go_run ?_ | (refine go_newP ?_; clear hw; intro p w hw) | (refine go_newW ?_; clear hw; intro w hw) | (refine go_newS ?_; clear hw; intro s w hw))
    refine st_buildSlice0 tU64 hw ?_
    clear hw
    intro s1 w hw
    repeat (first | refine go_run ?_ | (refine go_newP ?_; clear hw; intro p w hw) | (refine go_newW ?_; clear hw; intro w hw) | (refine go_newS ?_; clear hw; intro s w hw))
    rw [List.nil_append] at hw
    exact res_one (v := s) rfl rfl ⟨_, rfl, hw⟩
set_option maxRecDepth 8000 in
set_option maxHeartbeats 8000000 in
theorem Unpack_spec {w0 : World} {p : Addr} {wv : Value} {z : List Int} {ws : List Nat} {vars : List Int} {F : List Fld} {W : Nat} (hr : RPk w0 p F W) (hk : PkOk vars vars.length F W) (hvl : vars.length ≤ 64) (hws : RS tU64 w0 wv ws) (hp : Pkd F z W vars.length ws) (hok : StateOk vars z) :
    Calls Tryz.prog 86 #[.pointer (some p), wv] w0 fun e w' => ∃ sv, e = .returned (.tuple #[sv, .nilIface]) ∧ Sat w0 w' [OS tInt 3 sv z] := by
  obtain ⟨⟨fv, hbx, hF⟩, h6⟩ := hr
  have hFl := hk.len
  have hzl := hok.1
  have hW1 := hk.w1
  have hW2 := hk.w2
  have hwl := hp.len
  have hlt : ∀ x, x < ws.length → ws.getD x 0 < 18446744073709551616 := fun x hx => hp.lt hk hok (Nat.le_refl _) (by omega)
  have hw := Sat.start w0
  refine calls_of_vc (args := [.pointer (some p), wv]) mixed Tryz.func86 rfl (by kernel_rfl) (Nat.le_of_ble_eq_true rfl) ?_
  have hd0 : decide ((ws.length : Int) = (W : Int)) = true := decide_eq_true (by omega)
  repeat (first | refine go_run ?_ | (refine go_newP ?_; clear hw; intro p w hw) | (refine go_newWr ?_; clear hw; intro w hw) | (refine go_newS ?_; clear hw; intro s w hw))
  simp only [hd0, Bool.not_true]
  repeat (first | refine go_run ?_ | (refine go_newP ?_; clear hw; intro p w hw) | (refine go_newWr ?_; clear hw; intro w hw) | (refine go_newS ?_; clear hw; intro s w hw))
  refine st_call rfl (CloneU_spec (hws.at hw) (by omega)) ?_
  rintro _ w' ⟨rv, rfl, hk'⟩
  replace hw := hw.call1 hk'
  clear hk'
  refine ⟨_, rfl, ?_⟩
  obtain ⟨ov, hov⟩ : ∃ ov, ov = s := ⟨s, rfl⟩
  subst hov
  have hr0 : (List.replicate ((F.length : Nat) : Int).toNat (0 : Int)).length = F.length := by simp
  have hw1 : Sat w0 w' [OS tInt 3 ov (fillL vars.length (fun i => z.getD i tInt.dflt) 0), OS tU64 198 rv ws] := by
    rw [Int.toNat_natCast, hFl, ← fillL_zero vars.length (fun i => z.getD i tInt.dflt)] at hw
    exact hw.swap
  clear hw
  have hw := hw1
  clear hw1
  repeat (first | refine go_run ?_ | (refine go_newP ?_; clear hw; intro p w hw) | (refine go_newWr ?_; clear hw; intro w hw) | (refine go_newS ?_; clear hw; intro s w hw))
  refine vc_loop2 [4, 5, 8, 9, 36, 37, 38, 39, 40, 41, 42, 43, 44, 45, 46, 47, 48, 49, 50, 51, 52, 53, 54, 55, 56, 57, 58, 59, 60, 61, 62, 63, 64] (G := Nat) (H := List Nat) (fun k _ => [(36, .int .i64 k)]) (fun k rs w => k ≤ vars.length ∧ RstI F ws k rs ∧ Sat w0 w [OS tInt 3 ov (fillL vars.length (fun i => z.getD i tInt.dflt) k), OS tU64 198 rv rs]) (fun k _ => vars.length - k) 0 ws (fun _ _ => rfl) ⟨rfl, trivial⟩ ⟨Nat.zero_le _, RstI.zero F ws, hw⟩ ?_
  clear hw
  rintro σ k rs w ⟨hkl, hR, hw⟩
  have hml := fillL_len vars.length (fun i => z.getD i tInt.dflt) k
  repeat (first | refine go_run ?_ | (refine go_newP ?_; clear hw; intro p w hw) | (refine go_newW ?_; clear hw; intro w hw) | (refine go_newS ?_; clear hw; intro s w hw))
  refine go_if (fun h1 => ?_) (fun h1 => ?_)
  · have hki : k < vars.length := by omega
    have hzk := hok.2 k (by omega)
    have hsz := hk.size k hki
    have hwd := hk.wd k hki
    have hg6 := h6 k (by omega)
    have hrl := hR.len
    have hget := hp.get hk hok hki
    have hzn : (((ws.getD (fld F k).word 0 &&& maskF (fld F k)) / 2 ^ (fld F k).bit : Nat) : Int) = z.getD k tInt.dflt := by rw [hget, Int.toNat_of_nonneg hzk.1]
    have hd1 : decide (((fld F k).size : Int) ≤ z.getD k tInt.dflt) = false := decide_eq_false (by omega)
    repeat (first | refine go_run ?_ | (refine go_newP ?_; clear hw; intro p w hw) | (refine go_newWr ?_; clear hw; intro w hw) | (refine go_newS ?_; clear hw; intro s w hw))
    obtain ⟨p9, hp9⟩ : ∃ p9, p9 = p := ⟨p, rfl⟩
    subst hp9
    replace hw : Sat w0 w [Box p9 186 (tFld.enc (fld F k)), OS tInt 3 ov (fillL vars.length (fun i => z.getD i tInt.dflt) k), OS tU64 198 rv rs] := hw
    refine st_call rfl (fget_spec (f := fld F k) hwd.2 hg6 (hws.at hw) (by omega) (hlt _ (by omega))) ?_
    rintro _ w' ⟨rfl, hk'⟩
    replace hw := hw.call0 hk'
    clear hk'
    refine ⟨_, rfl, ?_⟩
    rw [hzn]
    repeat (first | refine go_run ?_ | (refine go_newP ?_; clear hw; intro p w hw) | (refine go_newWr ?_; clear hw; intro w hw) | (refine go_newS ?_; clear hw; intro s w hw))
    rw [show z.getD k tInt.dflt = (fun i => z.getD i tInt.dflt) k from rfl, fillL_set] at hw
    have hml2 := fillL_len vars.length (fun i => z.getD i tInt.dflt) (k + 1)
    have hat := fillL_at (f := fun i => z.getD i tInt.dflt) hki (Nat.lt_succ_self k)
    refine go_draw ?_
    clear hw
    intro w hw
    repeat (first | refine go_run ?_ | (refine go_newP ?_; clear hw; intro p w hw) | (refine go_newWr ?_; clear hw; intro w hw) | (refine go_newS ?_; clear hw; intro s w hw))
    rw [hat]
    simp only [hd1]
    repeat (first | refine go_run ?_ | (refine go_newP ?_; clear hw; intro p w hw) | (refine go_newWr ?_; clear hw; intro w hw) | (refine go_newS ?_; clear hw; intro s w hw))
    refine vc_plan [.op 0, .op 1, .op 2, .op 3, .op 4, .op 5, .op 6, .chk 2, .chk 4, .op 7, .op 8, .op 9] hw (by kernel_rfl) ?_; clear hw; intro w hw
    repeat (first | refine go_run ?_ | (refine go_newP ?_; clear hw; intro p w hw) | (refine go_newWr ?_; clear hw; intro w hw) | (refine go_newS ?_; clear hw; intro s w hw))
    refine st_call rfl (mask_spec (f := fld F k) hwd.2 hg6) ?_
    rintro _ w' ⟨rfl, hk'⟩
    replace hw := hw.call0 hk'
    clear hk'
    refine ⟨_, rfl, ?_⟩
    repeat (first | refine go_run ?_ | (refine go_newP ?_; clear hw; intro p w hw) | (refine go_newWr ?_; clear hw; intro w hw) | (refine go_newS ?_; clear hw; intro s w hw))
    have hmk := maskF_lt hwd.2
    have hrs := hR.lt hlt (x := (fld F k).word) (by omega)
    refine step_pure rfl (pv_andNot64 (a := rs.getD (fld F k).word tU64.dflt) (b := maskF (fld F k)) rfl rfl hrs hmk) ?_
    repeat (first | refine go_run ?_ | (refine go_newP ?_; clear hw; intro p w hw) | (refine go_newWr ?_; clear hw; intro w hw) | (refine go_newS ?_; clear hw; intro s w hw))
    exact ⟨k + 1, _, ⟨rfl, trivial⟩, by repeat (first | exact agree_refl | (apply agree_upd rfl) | (apply agree_mix rfl) | (apply agree_sets rfl)), ⟨by omega, hR.next (by omega) hwd.2 hlt, hw.tail⟩, by omega⟩
  have hke : k = vars.length := by omega
  subst hke
  have hrl := hR.len
  have hfin : fillL vars.length (fun i => z.getD i tInt.dflt) vars.length = z := by
    refine List.ext_getElem (by rw [fillL_len, hzl]) fun i h2 h3 => ?_
    rw [fillL_len] at h2
    rw [← getD_at (d := tInt.dflt) (by rw [fillL_len]; exact h2), fillL_at h2 h2, getD_at h3]
  rw [hfin] at hw
  repeat (first | refine go_run ?_ | (refine go_newP ?_; clear hw; intro p w hw) | (refine go_newWr ?_; clear hw; intro w hw) | (refine go_newS ?_; clear hw; intro s w hw))
  refine vc_loop [4, 5, 11, 67, 68, 69, 70, 71, 72, 73, 74] (G := Nat) (fun x => [(67, .int .i64 x)]) (fun x w => x ≤ rs.length ∧ Sat w0 w [OS tInt 3 ov z, OS tU64 198 rv rs]) (fun x => rs.length - x) 0 (fun _ => rfl) ⟨rfl, trivial⟩ ⟨Nat.zero_le _, hw⟩ ?_
  clear hw
  rintro σ1 x w ⟨hx, hw⟩
  repeat (first | refine go_run ?_ | (refine go_newP ?_; clear hw; intro p w hw) | (refine go_newW ?_; clear hw; intro w hw) | (refine go_newS ?_; clear hw; intro s w hw))
  refine go_if (fun h2 => ?_) (fun h2 => ?_)
  · have hxl : x < rs.length := by omega
    have hz0 : ((rs.getD x tU64.dflt : Nat) : Int) = 0 := by
      have := hR.end_ hk hok hp hxl
      rw [show rs.getD x tU64.dflt = rs.getD x 0 from rfl, this]; rfl
    repeat (first | refine go_run ?_ | (refine go_newP ?_; clear hw; intro p w hw) | (refine go_newWr ?_; clear hw; intro w hw) | (refine go_newS ?_; clear hw; intro s w hw))
    rw [hz0]
    repeat (first | refine go_run ?_ | (refine go_newP ?_; clear hw; intro p w hw) | (refine go_newW ?_; clear hw; intro w hw) | (refine go_newS ?_; clear hw; intro s w hw))
    exact ⟨x + 1, ⟨rfl, trivial⟩, by repeat (first | exact agree_refl | (apply agree_upd rfl) | (apply agree_mix rfl) | (apply agree_sets rfl)), ⟨by omega, hw⟩, by omega⟩
  repeat (first | refine go_run ?_ | (refine go_newP ?_; clear hw; intro p w hw) | (refine go_newW ?_; clear hw; intro w hw) | (refine go_newS ?_; clear hw; intro s w hw))
  exact res_two (v := ov) (v' := .nilIface) rfl rfl rfl ⟨ov, rfl, hw.sel⟩
end Go.Proofs.YtegndanecnicaaaGreat
