
/-
  Contracts of package 'pack': New, Pack, Unpack, Hash.
-/
import Derived.Test.YtegndanecnicaaaGreatMTA
import Derived.Test.YtegndanecnicaaaGreatMSlB
import Derived.Test.YtegndanecnicaaaGreatMW3
import Derived.Test.YtegndanecnicaaaGreatMW2
set_option linter.unusedSimpArgs false
set_option linter.unusedVariables false
namespace Go.Proofs.YtegndanecnicaaaGreat
open Go.Sl Go
attribute [local irreducible] vc opsW opsD opV opW PureV ReadV Thn Blk
instance pkIntI : IntT Tryz.prog 3 .i64 := ⟨by kernel_rfl⟩
instance pkIntU : IntT Tryz.prog 198 .u64 := ⟨by kernel_rfl⟩
/-- A packer, as it is read. -/
structure RPk (w : World) (p : Addr) (F : List Fld) (W : Nat) : Prop where
  ex : ∃ fv, BoxR w p [fv, .int .i64 (W : Int)] ∧ RS tFld w fv F
  w6 : ∀ i, i < F.length → (fld F i).width ≤ 6
theorem RPk.at {w0 w : World} {Γ : List HP} {p : Addr} {F : List Fld} {W : Nat} (h : RPk w0 p F W) (hw : Sat w0 w Γ) : RPk w p F W := by
  obtain ⟨fv, h1, h2⟩ := h.ex
  exact ⟨⟨fv, h1.at hw, h2.at hw⟩, h.w6⟩
theorem pow6 {k : Nat} (h : k ≤ 6) : 1 ≤ 2 ^ k ∧ 2 ^ k ≤ 64 := ⟨Nat.one_le_two_pow, Nat.le_trans (Nat.pow_le_pow_right (by decide) h) (by decide)⟩
set_option maxRecDepth 8000 in
theorem mask_spec {w0 : World} {f : Fld} (h : f.bit + f.width ≤ 64) (h6 : f.width ≤ 6) :
    Calls Tryz.prog 102 #[.agg (tFld.enc f).toArray] w0 fun e w' => e = .returned (u64 (maskF f)) ∧ Sat w0 w' [] := by
  obtain ⟨g1, g2⟩ := pow6 h6
  have e1 : 1 * 2 ^ f.width % 18446744073709551616 = 2 ^ f.width := by rw [Nat.one_mul, Nat.mod_eq_of_lt (by omega)]
  have e2 : (2 ^ f.width - 1) * 2 ^ f.bit % 18446744073709551616 = maskF f := Nat.mod_eq_of_lt (maskF_lt h)
  have hw := Sat.start w0
  refine calls_of_vc (args := [.agg (tFld.enc f).toArray]) mixed Tryz.func102 rfl (by kernel_rfl) (Nat.le_of_ble_eq_true rfl) ?_
  repeat (first | refine go_run ?_ | (refine go_newP ?_; clear hw; intro p w hw) | (refine go_newW ?_; clear hw; intro w hw) | (refine go_newS ?_; clear hw; intro s w hw))
  refine step_pure rfl (pv_shl64 (a := 1) (b := f.width) rfl rfl (by omega)) ?_
  rw [e1]
  refine step_pure rfl (pv_sub64 (a := 2 ^ f.width) (b := 1) rfl rfl g1 (by omega)) ?_
  repeat (first | refine go_run ?_ | (refine go_newP ?_; clear hw; intro p w hw) | (refine go_newW ?_; clear hw; intro w hw) | (refine go_newS ?_; clear hw; intro s w hw))
  refine step_pure rfl (pv_shl64 (a := 2 ^ f.width - 1) (b := f.bit) rfl rfl (by omega)) ?_
  rw [e2]
  repeat (first | refine go_run ?_ | (refine go_newP ?_; clear hw; intro p w hw) | (refine go_newW ?_; clear hw; intro w hw) | (refine go_newS ?_; clear hw; intro s w hw))
  exact res_one (v := u64 (maskF f)) rfl rfl ⟨rfl, hw.sel⟩
set_option maxRecDepth 8000 in
theorem fget_spec {w0 : World} {f : Fld} {wv : Value} {ws : List Nat} (h : f.bit + f.width ≤ 64) (h6 : f.width ≤ 6) (hws : RS tU64 w0 wv ws) (hi : f.word < ws.length) (hlt : ws.getD f.word 0 < 18446744073709551616) :
    Calls Tryz.prog 101 #[.agg (tFld.enc f).toArray, wv] w0 fun e w' => e = .returned (.int .i64 ((((ws.getD f.word 0) &&& maskF f) / 2 ^ f.bit : Nat) : Int)) ∧ Sat w0 w' [] := by
  have hml := maskF_lt h
  have hw := Sat.start w0
  refine calls_of_vc (args := [.agg (tFld.enc f).toArray, wv]) mixed Tryz.func101 rfl (by kernel_rfl) (Nat.le_of_ble_eq_true rfl) ?_
  repeat (first | refine go_run ?_ | (refine go_newP ?_; clear hw; intro p w hw) | (refine go_newWr ?_; clear hw; intro w hw) | (refine go_newS ?_; clear hw; intro s w hw))
  refine vc_plan [.op 0, .op 1, .op 2, .op 3, .op 4, .op 5, .op 8, .op 9, .op 6, .chk 2, .chk 4, .chk 9, .op 7, .op 10, .op 11, .op 12] hw (by kernel_rfl) ?_; clear hw; intro w hw
  repeat (first | refine go_run ?_ | (refine go_newP ?_; clear hw; intro p w hw) | (refine go_newWr ?_; clear hw; intro w hw) | (refine go_newS ?_; clear hw; intro s w hw))
  refine st_call rfl (mask_spec h h6) ?_
  rintro _ w' ⟨rfl, hk'⟩
  replace hw := hw.call0 hk'
  clear hk'
  refine ⟨_, rfl, ?_⟩
  repeat (first | refine go_run ?_ | (refine go_newP ?_; clear hw; intro p w hw) | (refine go_newWr ?_; clear hw; intro w hw) | (refine go_newS ?_; clear hw; intro s w hw))
  refine step_pure rfl (pv_and64 (a := ws.getD f.word tU64.dflt) (b := maskF f) rfl rfl hlt hml) ?_
  repeat (first | refine go_run ?_ | (refine go_newP ?_; clear hw; intro p w hw) | (refine go_newWr ?_; clear hw; intro w hw) | (refine go_newS ?_; clear hw; intro s w hw))
  refine step_pure rfl (pv_shr64 (a := ws.getD f.word tU64.dflt &&& maskF f) (b := f.bit) rfl rfl (by omega)) ?_
  have hsm : (ws.getD f.word tU64.dflt &&& maskF f) / 2 ^ f.bit ≤ 63 := by
    have h1 : (ws.getD f.word tU64.dflt &&& maskF f) ≤ maskF f := Nat.and_le_right
    have h2 : (ws.getD f.word tU64.dflt &&& maskF f) / 2 ^ f.bit ≤ maskF f / 2 ^ f.bit := Nat.div_le_div_right h1
    have h3 : maskF f / 2 ^ f.bit = 2 ^ f.width - 1 := by unfold maskF; exact Nat.mul_div_cancel _ (Nat.two_pow_pos _)
    have := (pow6 h6).2
    omega
  obtain ⟨q, hq⟩ : ∃ q, q = (ws.getD f.word tU64.dflt &&& maskF f) / 2 ^ f.bit := ⟨_, rfl⟩
  rw [← hq] at hsm ⊢
  repeat (first | refine go_run ?_ | (refine go_newP ?_; clear hw; intro p w hw) | (refine go_newWr ?_; clear hw; intro w hw) | (refine go_newS ?_; clear hw; intro s w hw))
  refine step_pure rfl (pv_conv (ks := .u64) (n := (q : Int)) rfl (by omega) (by omega)) ?_
  repeat (first | refine go_run ?_ | (refine go_newP ?_; clear hw; intro p w hw) | (refine go_newWr ?_; clear hw; intro w hw) | (refine go_newS ?_; clear hw; intro s w hw))
  exact res_one (v := .int .i64 (q : Int)) rfl rfl ⟨by rw [hq]; rfl, hw.sel⟩
theorem hshS_eq {h x M : Nat} (hM : M = (h ^^^ x) * 13787848793156543929 % 18446744073709551616) : M ^^^ (M / 2 ^ 29) = hshS h x := by
  subst hM; unfold hshS; rfl
attribute [local irreducible] hshK hshS hshL
set_option maxRecDepth 8000 in
set_option maxHeartbeats 4000000 in
theorem Hash_spec {w0 : World} {p : Addr} {wv : Value} {ws : List Nat} (hws : RS tU64 w0 wv ws) (hlt : ∀ x, x < ws.length → ws.getD x 0 < 18446744073709551616) :
    Calls Tryz.prog 108 #[.pointer (some p), wv] w0 fun e w' => e = .returned (.int .i64 (hshL ws)) ∧ Sat w0 w' [] := by
  have hb := hws.big
  have hw := Sat.start w0
  refine calls_of_vc (args := [.pointer (some p), wv]) mixed Tryz.func108 rfl (by kernel_rfl) (Nat.le_of_ble_eq_true rfl) ?_
  repeat (first | refine go_run ?_ | (refine go_newP ?_; clear hw; intro p w hw) | (refine go_newW ?_; clear hw; intro w hw) | (refine go_newS ?_; clear hw; intro s w hw))
  refine step_pure rfl (pv_convU (n := ws.length) rfl (by omega)) ?_
  refine step_pure rfl (pv_add64 (a := ws.length) (b := 11400714819323198485) rfl rfl) ?_
  have h0 := hshK_zero ws
  rw [← h0]
  repeat (first | refine go_run ?_ | (refine go_newP ?_; clear hw; intro p w hw) | (refine go_newWr ?_; clear hw; intro w hw) | (refine go_newS ?_; clear hw; intro s w hw))
  refine vc_loop [5, 7, 16, 17, 18, 19, 20, 21, 22, 23, 24, 25, 26, 27, 28, 29] (G := Nat) (fun k => [(16, .int .i64 k), (5, u64 (hshK ws k))]) (fun k w => k ≤ ws.length ∧ Sat w0 w []) (fun k => ws.length - k) 0 (fun _ => rfl) ⟨rfl, rfl, trivial⟩ ⟨Nat.zero_le _, hw⟩ ?_
  clear hw
  rintro σ k w ⟨hk, hw⟩
  repeat (first | refine go_run ?_ | (refine go_newP ?_; clear hw; intro p w hw) | (refine go_newW ?_; clear hw; intro w hw) | (refine go_newS ?_; clear hw; intro s w hw))
  refine go_if (fun h1 => ?_) (fun h1 => ?_)
  · have hkl : k < ws.length := by omega
    have hkk := hshK_lt ws (k := k) hk
    have hwk := hlt k hkl
    have hs := hshK_succ hkl
    repeat (first | refine go_run ?_ | (refine go_newP ?_; clear hw; intro p w hw) | (refine go_newWr ?_; clear hw; intro w hw) | (refine go_newS ?_; clear hw; intro s w hw))
    refine step_pure rfl (pv_xor64 (a := hshK ws k) (b := ws.getD k tU64.dflt) rfl rfl hkk hwk) ?_
    repeat (first | refine go_run ?_ | (refine go_newP ?_; clear hw; intro p w hw) | (refine go_newWr ?_; clear hw; intro w hw) | (refine go_newS ?_; clear hw; intro s w hw))
    refine step_pure rfl (pv_mul64 (a := hshK ws k ^^^ ws.getD k tU64.dflt) (b := 13787848793156543929) rfl rfl) ?_
    obtain ⟨M, hM⟩ : ∃ M, M = (hshK ws k ^^^ ws.getD k tU64.dflt) * 13787848793156543929 % 18446744073709551616 := ⟨_, rfl⟩
    have hMl : M < 18446744073709551616 := by rw [hM]; exact mod_lt64 _
    rw [← hM]
    repeat (first | refine go_run ?_ | (refine go_newP ?_; clear hw; intro p w hw) | (refine go_newWr ?_; clear hw; intro w hw) | (refine go_newS ?_; clear hw; intro s w hw))
    refine step_pure rfl (pv_shr64 (a := M) (b := 29) rfl rfl (by omega)) ?_
    refine step_pure rfl (pv_xor64 (a := M) (b := M / 2 ^ 29) rfl rfl hMl (Nat.lt_of_le_of_lt (Nat.div_le_self _ _) hMl)) ?_
    rw [hshS_eq hM, ← hs]
    repeat (first | refine go_run ?_ | (refine go_newP ?_; clear hw; intro p w hw) | (refine go_newWr ?_; clear hw; intro w hw) | (refine go_newS ?_; clear hw; intro s w hw))
    exact ⟨k + 1, ⟨rfl, rfl, trivial⟩, by repeat (first | exact agree_refl | (apply agree_upd rfl) | (apply agree_mix rfl) | (apply agree_sets rfl)), ⟨by omega, hw⟩, by omega⟩
  have hke : k = ws.length := by omega
  rw [hke]
  have hkk := hshK_lt ws (k := ws.length) (Nat.le_refl _)
  have hres : hshL ws = ((hshK ws ws.length / 2 ^ 2 : Nat) : Int) := by unfold hshL; rfl
  rw [hres]
  generalize hshK ws ws.length = K at hkk ⊢
  repeat (first | refine go_run ?_ | (refine go_newP ?_; clear hw; intro p w hw) | (refine go_newWr ?_; clear hw; intro w hw) | (refine go_newS ?_; clear hw; intro s w hw))
  refine step_pure rfl (pv_shr64 (a := K) (b := 2) rfl rfl (by omega)) ?_
  have hq : K / 2 ^ 2 < 4611686018427387904 := by omega
  generalize K / 2 ^ 2 = q at hq ⊢
  repeat (first | refine go_run ?_ | (refine go_newP ?_; clear hw; intro p w hw) | (refine go_newWr ?_; clear hw; intro w hw) | (refine go_newS ?_; clear hw; intro s w hw))
  refine step_pure rfl (pv_conv (ks := .u64) (n := (q : Int)) rfl (by omega) (by omega)) ?_
  repeat (first | refine go_run ?_ | (refine go_newP ?_; clear hw; intro p w hw) | (refine go_newWr ?_; clear hw; intro w hw) | (refine go_newS ?_; clear hw; intro s w hw))
  exact res_one (v := .int .i64 (q : Int)) rfl rfl ⟨rfl, hw⟩
set_option maxRecDepth 8000 in
set_option maxHeartbeats 8000000 in
theorem Pack_spec {w0 : World} {p : Addr} {sv : Value} {s : List Int} {vars : List Int} {F : List Fld} {W : Nat} (hr : RPk w0 p F W) (hk : PkOk vars vars.length F W) (hvl : vars.length ≤ 64) (hs : RS tInt w0 sv s) (hok : StateOk vars s) :
    Calls Tryz.prog 107 #[.pointer (some p), sv] w0 fun e w' => ∃ wv ws, e = .returned (.tuple #[wv, .nilIface]) ∧ Pkd F s W vars.length ws ∧ Sat w0 w' [OS tU64 198 wv ws] := by
  obtain ⟨⟨fv, hbx, hF⟩, h6⟩ := hr
  have hFl := hk.len
  have hsl := hok.1
  have hW1 := hk.w1
  have hW2 := hk.w2
  have hw := Sat.start w0
  refine calls_of_vc (args := [.pointer (some p), sv]) mixed Tryz.func107 rfl (by kernel_rfl) (Nat.le_of_ble_eq_true rfl) ?_
  have hd0 : decide ((s.length : Int) = (F.length : Int)) = true := decide_eq_true (by omega)
  repeat (first | refine go_run ?_ | (refine go_newP ?_; clear hw; intro p w hw) | (refine go_newWr ?_; clear hw; intro w hw) | (refine go_newS ?_; clear hw; intro s w hw))
  simp only [hd0, Bool.not_true]
  repeat (first | refine go_run ?_ | (refine go_newP ?_; clear hw; intro p w hw) | (refine go_newWr ?_; clear hw; intro w hw) | (refine go_newS ?_; clear hw; intro s w hw))
  refine st_make tU64 0 (n := (W : Int)) rfl rfl rfl rfl (by omega) (by omega) (by omega) hw ?_
  clear hw
  intro wv w hw
  rw [Int.toNat_natCast] at hw
  repeat (first | refine go_run ?_ | (refine go_newP ?_; clear hw; intro p w hw) | (refine go_newWr ?_; clear hw; intro w hw) | (refine go_newS ?_; clear hw; intro s w hw))
  refine vc_loop2 [4, 5, 7, 8, 31, 32, 33, 34, 35, 36, 37, 38, 39, 40, 41, 42, 43, 44, 45, 46, 47, 48, 49, 50, 51, 52, 53, 54, 55, 56, 57, 58, 59, 60, 61, 62, 63, 64, 65, 66] (G := Nat) (H := List Nat) (fun k _ => [(31, .int .i64 k)]) (fun k ws w => k ≤ vars.length ∧ Pkd F s W k ws ∧ Sat w0 w [OS tU64 198 wv ws]) (fun k _ => vars.length - k) 0 (List.replicate W 0) (fun _ _ => rfl) ⟨rfl, trivial⟩ ⟨Nat.zero_le _, Pkd.zero F s W, hw⟩ ?_
  clear hw
  rintro σ k ws w ⟨hkl, hp, hw⟩
  repeat (first | refine go_run ?_ | (refine go_newP ?_; clear hw; intro p w hw) | (refine go_newW ?_; clear hw; intro w hw) | (refine go_newS ?_; clear hw; intro s w hw))
  refine go_if (fun h1 => ?_) (fun h1 => ?_)
  · have hki : k < vars.length := by omega
    have hsk := hok.2 k (by omega)
    have hsz := hk.size k hki
    have hwd := hk.wd k hki
    have hshl := hk.shl hok hki
    have hwl := hp.len
    have hlt := hp.lt hk hok (Nat.le_of_lt hki) hwd.1
    have hv6 := hk.val_lt hok hki
    have hp6 := pow6 (h6 k (by omega))
    have hd1 : decide (s.getD k tInt.dflt < 0) = false := decide_eq_false (by omega)
    have hd2 : decide (((fld F k).size : Int) ≤ s.getD k tInt.dflt) = false := decide_eq_false (by omega)
    repeat (first | refine go_run ?_ | (refine go_newP ?_; clear hw; intro p w hw) | (refine go_newWr ?_; clear hw; intro w hw) | (refine go_newS ?_; clear hw; intro s w hw))
    obtain ⟨p8, hp8⟩ : ∃ p8, p8 = p := ⟨p, rfl⟩
    subst hp8
    replace hw : Sat w0 w [Box p8 186 (tFld.enc (fld F k)), OS tU64 198 wv ws] := hw
    refine go_draw ?_
    clear hw
    intro w hw
    repeat (first | refine go_run ?_ | (refine go_newP ?_; clear hw; intro p w hw) | (refine go_newWr ?_; clear hw; intro w hw) | (refine go_newS ?_; clear hw; intro s w hw))
    simp only [hd1, hd2, beq_self_eq_true, beq_tfI, beq_ftI, Bool.false_and, Bool.true_and, Bool.false_or, Bool.true_or, Bool.not_true, Bool.not_false, Bool.cond_true, Bool.cond_false, gv_fI, gv_tI]
    repeat (first | refine go_run ?_ | (refine go_newP ?_; clear hw; intro p w hw) | (refine go_newWr ?_; clear hw; intro w hw) | (refine go_newS ?_; clear hw; intro s w hw))
    refine vc_plan [.op 0, .op 1, .op 2, .op 3, .op 4, .op 5, .op 6, .op 7, .op 8, .op 9, .op 10, .op 11, .op 12, .op 13, .op 14, .op 15] hw (by kernel_rfl) ?_; clear hw; intro w hw
    repeat (first | refine go_run ?_ | (refine go_newP ?_; clear hw; intro p w hw) | (refine go_newWr ?_; clear hw; intro w hw) | (refine go_newS ?_; clear hw; intro s w hw))
    refine step_pure rfl (pv_convUi (z := s.getD k tInt.dflt) rfl (by omega) (by omega)) ?_
    repeat (first | refine go_run ?_ | (refine go_newP ?_; clear hw; intro p w hw) | (refine go_newWr ?_; clear hw; intro w hw) | (refine go_newS ?_; clear hw; intro s w hw))
    refine step_pure rfl (pv_shl64 (a := (s.getD k tInt.dflt).toNat) (b := (fld F k).bit) rfl rfl (by omega)) ?_
    rw [Nat.mod_eq_of_lt hshl]
    repeat (first | refine go_run ?_ | (refine go_newP ?_; clear hw; intro p w hw) | (refine go_newWr ?_; clear hw; intro w hw) | (refine go_newS ?_; clear hw; intro s w hw))
    refine step_pure rfl (pv_or64 (a := ws.getD (fld F k).word tU64.dflt) (b := (s.getD k tInt.dflt).toNat * 2 ^ (fld F k).bit) rfl rfl hlt hshl) ?_
    repeat (first | refine go_run ?_ | (refine go_newP ?_; clear hw; intro p w hw) | (refine go_newWr ?_; clear hw; intro w hw) | (refine go_newS ?_; clear hw; intro s w hw))
    exact ⟨k + 1, _, ⟨rfl, trivial⟩, by repeat (first | exact agree_refl | (apply agree_upd rfl) | (apply agree_mix rfl) | (apply agree_sets rfl)), ⟨by omega, hp.next hk hki, hw.tail⟩, by omega⟩
  have hke : k = vars.length := by omega
  subst hke
  repeat (first | refine go_run ?_ | (refine go_newP ?_; clear hw; intro p w hw) | (refine go_newWr ?_; clear hw; intro w hw) | (refine go_newS ?_; clear hw; intro s w hw))
  exact res_two (v := wv) (v' := .nilIface) rfl rfl rfl ⟨wv, ws, rfl, hp, hw⟩
set_option maxRecDepth 8000 in
set_option maxHeartbeats 8000000 in
theorem pkNew_spec {w0 : World} {av : Value} {vars : List Int} (ha : RS tInt w0 av vars) (hvl : vars.length ≤ 64) (hd : ∀ i, i < vars.length → 1 ≤ vars.getD i tInt.dflt ∧ vars.getD i tInt.dflt ≤ 64) :
    Calls Tryz.prog 80 #[av] w0 fun e w' => ∃ p F W, e = .returned (.tuple #[.pointer (some p), .nilIface]) ∧ PkOk vars vars.length F W ∧ Sat w0 w' [RdH fun w => RPk w p F W] := by
  have hw := Sat.start w0
  refine calls_of_vc (args := [av]) mixed Tryz.func80 rfl (by kernel_rfl) (Nat.le_of_ble_eq_true rfl) ?_
  have hd0 : decide ((64 : Int) < (vars.length : Int)) = false := decide_eq_false (by omega)
  repeat (first | refine go_run ?_ | (refine go_newP ?_; clear hw; intro p w hw) | (refine go_newWr ?_; clear hw; intro w hw) | (refine go_newS ?_; clear hw; intro s w hw))
  simp only [hd0]
  repeat (first | refine go_run ?_ | (refine go_newP ?_; clear hw; intro p w hw) | (refine go_newW ?_; clear hw; intro w hw) | (refine go_newS ?_; clear hw; intro s w hw))
  obtain ⟨p4, hp4⟩ : ∃ p4, p4 = p := ⟨p, rfl⟩
  subst hp4
  have hw1 : Sat w0 w [OS tFld 186 (.slice none 0 0) [], Box p4 184 [.slice none 0 0, .int .i64 ((1 : Nat) : Int)]] := Sat.nil (T := tFld) (e := 186) hw
  clear hw
  have hw := hw1
  clear hw1
  refine vc_loop2 [2, 3, 5, 7, 8, 17, 18, 19, 20, 21, 22, 23, 24, 25, 26, 27, 28, 29, 30, 31, 32, 33, 34, 35, 36, 37, 38, 39, 40, 41, 42, 43, 44, 45, 46, 47, 48, 49, 50, 51, 52, 53, 54, 55, 56, 57, 58, 59, 60, 61, 62, 63, 64, 65, 66] (G := Nat) (H := Nat) (fun k bit => [(17, .int .i64 k), (5, .int .i64 bit)]) (fun k bit w => k ≤ vars.length ∧ ∃ fv F W, PkI vars k F W bit ∧ (∀ i, i < F.length → (fld F i).width ≤ 6) ∧ Sat w0 w [OS tFld 186 fv F, Box p4 184 [fv, .int .i64 (W : Int)]]) (fun k _ => vars.length - k) 0 0 (fun _ _ => rfl) ⟨rfl, rfl, trivial⟩ ⟨Nat.zero_le _, _, [], 1, PkI.zero vars, fun i hi => absurd hi (Nat.not_lt_zero _), hw⟩ ?_
  clear hw
  rintro σ k bit w ⟨hk, fv, F, W, hI, h6, hw⟩
  repeat (first | refine go_run ?_ | (refine go_newP ?_; clear hw; intro p w hw) | (refine go_newW ?_; clear hw; intro w hw) | (refine go_newS ?_; clear hw; intro s w hw))
  refine go_if (fun h1 => ?_) (fun h1 => ?_)
  · have hkl : k < vars.length := by omega
    have hdk := hd k hkl
    obtain ⟨n, hn⟩ : ∃ n : Nat, vars.getD k tInt.dflt = (n : Int) := ⟨(vars.getD k tInt.dflt).toNat, by omega⟩
    have hb64 := hI.b64
    have hFl := hI.len
    have hW2 := hI.w2
    have hW1 := hI.w1
    have hd1 : decide (vars.getD k tInt.dflt < 1) = false := decide_eq_false (by omega)
    have hd2 : decide ((64 : Int) < vars.getD k tInt.dflt) = false := decide_eq_false (by omega)
    repeat (first | refine go_run ?_ | (refine go_newP ?_; clear hw; intro p w hw) | (refine go_newWr ?_; clear hw; intro w hw) | (refine go_newS ?_; clear hw; intro s w hw))
    simp only [hd1, hd2, beq_self_eq_true, beq_tfI, beq_ftI, Bool.false_and, Bool.true_and, Bool.false_or, Bool.true_or, Bool.not_true, Bool.not_false, Bool.cond_true, Bool.cond_false, gv_fI, gv_tI]
    repeat (first | refine go_run ?_ | (refine go_newP ?_; clear hw; intro p w hw) | (refine go_newWr ?_; clear hw; intro w hw) | (refine go_newS ?_; clear hw; intro s w hw))
    refine vc_loop [8, 28, 29, 30, 31, 32, 33] (G := Nat) (fun wi => [(8, .int .i64 wi)]) (fun wi w => wi ≤ 6 ∧ Sat w0 w [OS tFld 186 fv F, Box p4 184 [fv, .int .i64 (W : Int)]]) (fun wi => 6 - wi) 0 (fun _ => rfl) ⟨rfl, trivial⟩ ⟨by omega, hw⟩ ?_
    clear hw
    rintro σ1 wi w ⟨hwi, hw⟩
    obtain ⟨g1, g2⟩ := pow6 hwi
    repeat (first | refine go_run ?_ | (refine go_newP ?_; clear hw; intro p w hw) | (refine go_newWr ?_; clear hw; intro w hw) | (refine go_newS ?_; clear hw; intro s w hw))
    refine step_pure rfl (pv_shlI (a := 1) (b := wi) rfl rfl (by omega) (by omega)) ?_
    rw [Nat.one_mul]
    repeat (first | refine go_run ?_ | (refine go_newP ?_; clear hw; intro p w hw) | (refine go_newWr ?_; clear hw; intro w hw) | (refine go_newS ?_; clear hw; intro s w hw))
    refine go_if (fun h2 => ?_) (fun h2 => ?_)
    · have hw6 : wi < 6 := Nat.lt_of_not_le fun h => by
        have : wi = 6 := by omega
        subst this
        omega
      repeat (first | refine go_run ?_ | (refine go_newP ?_; clear hw; intro p w hw) | (refine go_newW ?_; clear hw; intro w hw) | (refine go_newS ?_; clear hw; intro s w hw))
      exact ⟨wi + 1, ⟨rfl, trivial⟩, by repeat (first | exact agree_refl | (apply agree_upd rfl) | (apply agree_mix rfl) | (apply agree_sets rfl)), ⟨by omega, hw⟩, by omega⟩
    have hnf : n ≤ 2 ^ wi := by omega
    repeat (first | refine go_run ?_ | (refine go_newP ?_; clear hw; intro p w hw) | (refine go_newWr ?_; clear hw; intro w hw) | (refine go_newS ?_; clear hw; intro s w hw))
    refine go_if (fun h3 => ?_) (fun h3 => ?_)
    · repeat (first | refine go_run ?_ | (refine go_newP ?_; clear hw; intro p w hw) | (refine go_newWr ?_; clear hw; intro w hw) | (refine go_newS ?_; clear hw; intro s w hw))
      obtain ⟨W', hW'⟩ : ∃ W', W' = W + 1 := ⟨_, rfl⟩
      obtain ⟨b', hb'⟩ : ∃ b' : Nat, b' = 0 := ⟨_, rfl⟩
      have hc : (W' = W ∧ b' = bit) ∨ (W' = W + 1 ∧ b' = 0) := .inr ⟨hW', hb'⟩
      have hb4 : b' + wi ≤ 64 := by omega
      have hw1 : Sat w0 w [OS tFld 186 fv F, Box p4 184 [fv, .int .i64 (W' : Int)]] := by
        rw [hW']; exact hw
      clear hw
      have hw := hw1
      clear hw1
      have hz : Value.int .i64 0 = Value.int .i64 (b' : Int) := by rw [hb']; rfl
      rw [hz]
      repeat (first | refine go_run ?_ | (refine go_newP ?_; clear hw; intro p w hw) | (refine go_newWr ?_; clear hw; intro w hw) | (refine go_newS ?_; clear hw; intro s w hw))
      refine vc_plan [.op 0, .op 1, .op 2, .op 3, .op 4, .op 5, .op 6, .op 7, .op 8, .op 9, .op 10, .op 11, .op 12, .op 13, .chk 4, .op 14, .chk 4, .op 15, .op 16, .op 17, .op 18] hw (by kernel_rfl) ?_; clear hw; intro w hw
      repeat (first | refine go_run ?_ | (refine go_newP ?_; clear hw; intro p w hw) | (refine go_newWr ?_; clear hw; intro w hw) | (refine go_newS ?_; clear hw; intro s w hw))
      refine st_build4 (v1 := .int .i64 ((W' : Int) - 1)) (v2 := .int .i64 (b' : Int)) (v3 := .int .i64 (wi : Int)) (v4 := .int .i64 (vars.getD k tInt.dflt)) rfl rfl rfl rfl rfl rfl ?_
      repeat (first | refine go_run ?_ | (refine go_newP ?_; clear hw; intro p w hw) | (refine go_newWr ?_; clear hw; intro w hw) | (refine go_newS ?_; clear hw; intro s w hw))
      have hw1e : ((W' : Int) - 1) = ((W' - 1 : Nat) : Int) := by omega
      refine st_buildSlice1 tFld (x1 := ⟨W' - 1, b', wi, n⟩) rfl (by show [Value.int .i64 ((W' : Int) - 1), .int .i64 (b' : Int), .int .i64 (wi : Int), .int .i64 (vars.getD k tInt.dflt)] = _; rw [hw1e, hn]; rfl) rfl (Nat.le_of_ble_eq_true rfl) (Nat.zero_lt_succ _) hw ?_
      clear hw
      intro sl w hw
      repeat (first | refine go_run ?_ | (refine go_newP ?_; clear hw; intro p w hw) | (refine go_newWr ?_; clear hw; intro w hw) | (refine go_newS ?_; clear hw; intro s w hw))
      have hI2 := hI.next (W' := W') (b' := b') (wi := wi) (n := n) hn.symm hnf hb4 hc (by omega)
      have h62 : ∀ i, i < (F ++ [(⟨W' - 1, b', wi, n⟩ : Fld)]).length → (fld (F ++ [(⟨W' - 1, b', wi, n⟩ : Fld)]) i).width ≤ 6 := fun i hi => by
        rw [fld_app]
        by_cases e : i < F.length
        · rw [if_pos e]; exact h6 i e
        · rw [if_neg e, if_pos (by simp at hi; omega)]; exact hwi
      exact ⟨k + 1, b' + wi, ⟨rfl, rfl, trivial⟩, by repeat (first | exact agree_refl | (apply agree_upd rfl) | (apply agree_mix rfl) | (apply agree_sets rfl)), ⟨by omega, s, _, W', hI2, h62, hw.tail⟩, by omega⟩
    · obtain ⟨W', hW'⟩ : ∃ W', W' = W := ⟨_, rfl⟩
      obtain ⟨b', hb'⟩ : ∃ b' : Nat, b' = bit := ⟨_, rfl⟩
      have hc : (W' = W ∧ b' = bit) ∨ (W' = W + 1 ∧ b' = 0) := .inl ⟨hW', hb'⟩
      have hb4 : b' + wi ≤ 64 := by omega
      rw [← hW'] at hw
      rw [← hb']
      repeat (first | refine go_run ?_ | (refine go_newP ?_; clear hw; intro p w hw) | (refine go_newWr ?_; clear hw; intro w hw) | (refine go_newS ?_; clear hw; intro s w hw))
      refine vc_plan [.op 0, .op 1, .op 2, .op 3, .op 4, .op 5, .op 6, .op 7, .op 8, .op 9, .op 10, .op 11, .op 12, .op 13, .chk 4, .op 14, .chk 4, .op 15, .op 16, .op 17, .op 18] hw (by kernel_rfl) ?_; clear hw; intro w hw
      repeat (first | refine go_run ?_ | (refine go_newP ?_; clear hw; intro p w hw) | (refine go_newWr ?_; clear hw; intro w hw) | (refine go_newS ?_; clear hw; intro s w hw))
      refine st_build4 (v1 := .int .i64 ((W' : Int) - 1)) (v2 := .int .i64 (b' : Int)) (v3 := .int .i64 (wi : Int)) (v4 := .int .i64 (vars.getD k tInt.dflt)) rfl rfl rfl rfl rfl rfl ?_
      repeat (first | refine go_run ?_ | (refine go_newP ?_; clear hw; intro p w hw) | (refine go_newWr ?_; clear hw; intro w hw) | (refine go_newS ?_; clear hw; intro s w hw))
      have hw1e : ((W' : Int) - 1) = ((W' - 1 : Nat) : Int) := by omega
      refine st_buildSlice1 tFld (x1 := ⟨W' - 1, b', wi, n⟩) rfl (by show [Value.int .i64 ((W' : Int) - 1), .int .i64 (b' : Int), .int .i64 (wi : Int), .int .i64 (vars.getD k tInt.dflt)] = _; rw [hw1e, hn]; rfl) rfl (Nat.le_of_ble_eq_true rfl) (Nat.zero_lt_succ _) hw ?_
      clear hw
      intro sl w hw
      repeat (first | refine go_run ?_ | (refine go_newP ?_; clear hw; intro p w hw) | (refine go_newWr ?_; clear hw; intro w hw) | (refine go_newS ?_; clear hw; intro s w hw))
      have hI2 := hI.next (W' := W') (b' := b') (wi := wi) (n := n) hn.symm hnf hb4 hc (by omega)
      have h62 : ∀ i, i < (F ++ [(⟨W' - 1, b', wi, n⟩ : Fld)]).length → (fld (F ++ [(⟨W' - 1, b', wi, n⟩ : Fld)]) i).width ≤ 6 := fun i hi => by
        rw [fld_app]
        by_cases e : i < F.length
        · rw [if_pos e]; exact h6 i e
        · rw [if_neg e, if_pos (by simp at hi; omega)]; exact hwi
      exact ⟨k + 1, b' + wi, ⟨rfl, rfl, trivial⟩, by repeat (first | exact agree_refl | (apply agree_upd rfl) | (apply agree_mix rfl) | (apply agree_sets rfl)), ⟨by omega, s, _, W', hI2, h62, hw.tail⟩, by omega⟩
  have hke : k = vars.length := by omega
  subst hke
  repeat (first | refine go_run ?_ | (refine go_newP ?_; clear hw; intro p w hw) | (refine go_newWr ?_; clear hw; intro w hw) | (refine go_newS ?_; clear hw; intro s w hw))
  have hw3 := Sat.rd (Δ := [OS tFld 186 fv F, Box p4 184 [fv, .int .i64 (W : Int)]]) (φ := fun w => RPk w p4 F W) (Γ := []) (fun _ w h => ⟨⟨fv, h.boxR 1 rfl, h.rs 0 rfl⟩, h6⟩) hw
  exact res_two (v := .pointer (some p4)) (v' := .nilIface) rfl rfl rfl ⟨p4, F, W, rfl, hI.toPkOk, hw3⟩
end Go.Proofs.YtegndanecnicaaaGreat
