
/-
  Contract of the search for maximal cliques.
-/
import Derived.Test.YtemnlcnjpjdoaaaGreatDoorMW1
import Derived.Test.YtemnlcnjpjdoaaaGreatDoorMTA
set_option linter.unusedSimpArgs false
set_option linter.unusedVariables false
namespace Go.Proofs.YtemnlcnjpjdoaaaGreatDoor
open Go.Sl Go
attribute [local irreducible] vc opsW opsD opV opW PureV ReadV Thn Blk
theorem bit_test {R k : Nat} : decide (((R / 2 ^ k &&& 1 : Nat) : Int) = 1) = R.testBit k := by
  rw [Nat.testBit_eq_decide_div_mod_eq, Nat.and_one_is_mod]
  exact decide_eq_decide.2 (by omega)
theorem lt64_of {n a : Nat} (hn : n ≤ 32) (h : ∀ v, ib a v → v < n) : a < 18446744073709551616 := by
  have h1 := lt_of_bits h
  have h2 : 2 ^ n ≤ 2 ^ 32 := Nat.pow_le_pow_right (by decide) hn
  omega
set_option maxRecDepth 8000 in
set_option maxHeartbeats 8000000 in
theorem find_spec {w0 : World} {pf : Addr} {nv : Value} {near : List Nat} (hn : near.length ≤ 32) (hG : Gr near.length (fun u => near.getD u tU64.dflt)) (hT : TabB w0) : ∀ (P R X : Nat) {w : World} {fv : Value} {fs : List Value} {Fs : List (List Int)}, BI near.length (fun u => near.getD u tU64.dflt) R P X → Fs.length ≤ 4096 → Sat w0 w [OS tVal 22 fv fs, RowsAt tInt 3 fs Fs, Box pf 146 [nv, fv], OS tU64 147 nv near] →
    Calls Tryz.prog 81 #[.pointer (some pf), u64 R, u64 P, u64 X] w fun e w' => ∃ r M fv' fs', e = .returned (.bool r) ∧ FindOk near.length (fun u => near.getD u tU64.dflt) R P Fs.length r M ∧ Sat w0 w' [OS tVal 22 fv' fs', RowsAt tInt 3 fs' (Fs ++ M.map fun C => bitsK C near.length), Box pf 146 [nv, fv'], OS tU64 147 nv near] := by
  intro P
  induction P using Nat.strongRecOn with
  | _ P ih =>
  intro R X w fv fs Fs hB hl hw
  have hfl := (hw.focus 1 rfl).rowsLen
  have hRl := lt64_of hn hB.rb
  have hPl := lt64_of hn hB.pb
  have hXl := lt64_of hn hB.xb
  have hPX : P ||| X < 18446744073709551616 := by have := Nat.or_lt_two_pow (n := 64) hPl hXl; omega
  have hNl : ∀ u, near.getD u tU64.dflt < 18446744073709551616 := fun u => lt64_of hn (hG.bd u)
  refine calls_of_vc (args := [.pointer (some pf), u64 R, u64 P, u64 X]) mixed Tryz.func81 rfl (by kernel_rfl) (Nat.le_of_ble_eq_true rfl) ?_
  repeat (first | refine go_runC ?_ | (refine go_newP ?_; clear hw; intro p w hw) | (refine go_newW ?_; clear hw; intro w hw) | (refine go_newS ?_; clear hw; intro s w hw))
  refine step_pure rfl (pv_or64 (a := P) (b := X) rfl rfl hPl hXl) ?_
  repeat (first | refine go_runC ?_ | (refine go_newP ?_; clear hw; intro p w hw) | (refine go_newW ?_; clear hw; intro w hw) | (refine go_newS ?_; clear hw; intro s w hw))
  by_cases h0 : P ||| X = 0
  · have hd0 : decide (((P ||| X : Nat) : Int) = 0) = true := decide_eq_true (by omega)
    simp only [hd0]
    repeat (first | refine go_run ?_ | (refine go_newP ?_; clear hw; intro p w hw) | (refine go_newW ?_; clear hw; intro w hw) | (refine go_newS ?_; clear hw; intro s w hw))
    have hw1 := hw.nil (T := tInt) (e := 3)
    clear hw
    refine vc_loop2 [9, 10, 27, 28, 29, 30, 31, 32, 33, 34, 35, 36, 37, 38, 39] (G := Nat) (H := Value) (fun k lv => [(27, .int .i64 k), (9, lv)]) (fun k lv w => k ≤ near.length ∧ Sat w0 w [OS tInt 3 lv (bitsK R k), OS tVal 22 fv fs, RowsAt tInt 3 fs Fs, Box pf 146 [nv, fv], OS tU64 147 nv near]) (fun k _ => near.length - k) 0 (.slice none 0 0) (fun _ _ => rfl) ⟨rfl, rfl, trivial⟩ ⟨Nat.zero_le _, hw1⟩ ?_
    clear hw1
    rintro σ k lv w ⟨hk, hw⟩
    repeat (first | refine go_run ?_ | (refine go_newP ?_; clear hw; intro p w hw) | (refine go_newW ?_; clear hw; intro w hw) | (refine go_newS ?_; clear hw; intro s w hw))
    refine go_if (fun h1 => ?_) (fun h1 => ?_)
    · have hkl : k < near.length := by omega
      have hbl := bitsK_len R k
      repeat (first | refine go_run ?_ | (refine go_newP ?_; clear hw; intro p w hw) | (refine go_newW ?_; clear hw; intro w hw) | (refine go_newS ?_; clear hw; intro s w hw))
      refine step_pure rfl (pv_shr64 (a := R) (b := k) (k := .i64) rfl rfl (by omega)) ?_
      refine step_pure rfl (pv_and64 (a := R / 2 ^ k) (b := 1) rfl rfl (Nat.lt_of_le_of_lt (Nat.div_le_self _ _) hRl) (by decide)) ?_
      repeat (first | refine go_runC ?_ | (refine go_newP ?_; clear hw; intro p w hw) | (refine go_newW ?_; clear hw; intro w hw) | (refine go_newS ?_; clear hw; intro s w hw))
      simp only [bit_test]
      by_cases hb : ib R k
      · simp only [show R.testBit k = true from hb]
        repeat (first | refine go_run ?_ | (refine go_newP ?_; clear hw; intro p w hw) | (refine go_newW ?_; clear hw; intro w hw) | (refine go_newS ?_; clear hw; intro s w hw))
        rw [← bitsK_in hb] at hw
        exact ⟨k + 1, s, ⟨rfl, rfl, trivial⟩, by repeat (first | exact agree_refl | (apply agree_upd rfl) | (apply agree_mix rfl) | (apply agree_sets rfl)), ⟨by omega, hw.sel⟩, by omega⟩
      · simp only [Bool.eq_false_iff.2 hb]
        repeat (first | refine go_run ?_ | (refine go_newP ?_; clear hw; intro p w hw) | (refine go_newW ?_; clear hw; intro w hw) | (refine go_newS ?_; clear hw; intro s w hw))
        rw [← bitsK_out hb] at hw
        exact ⟨k + 1, _, ⟨rfl, rfl, trivial⟩, by repeat (first | exact agree_refl | (apply agree_upd rfl) | (apply agree_mix rfl) | (apply agree_sets rfl)), ⟨by omega, hw⟩, by omega⟩
    have hke : k = near.length := by omega
    subst hke
    have hP0 : P = 0 := zero_none fun v hv => none_zero h0 v (ib_orN.2 (.inl hv))
    have hX0 : X = 0 := zero_none fun v hv => none_zero h0 v (ib_orN.2 (.inr hv))
    repeat (first | refine go_run ?_ | (refine go_newP ?_; clear hw; intro p w hw) | (refine go_newW ?_; clear hw; intro w hw) | (refine go_newS ?_; clear hw; intro s w hw))
    obtain ⟨fv2, hfv⟩ : ∃ fv2, fv2 = s := ⟨s, rfl⟩
    subst hfv
    have hw2 : Sat w0 w [OS tInt 3 lv (bitsK R near.length), RowsAt tInt 3 fs Fs, OS tVal 22 fv2 (fs ++ [lv]), Box pf 146 [nv, fv2], OS tU64 147 nv near] := by
      have hw1 : Sat w0 w [OS tInt 3 lv (bitsK R near.length), OS tVal 22 fv2 (fs ++ [lv]), RowsAt tInt 3 fs Fs, Box pf 146 [nv, fv2], OS tU64 147 nv near] := hw.tail
      exact hw1.sel
    have hw3 := hw2.rowPush
    have hw4 : Sat w0 w [OS tVal 22 fv2 (fs ++ [lv]), RowsAt tInt 3 (fs ++ [lv]) (Fs ++ [bitsK R near.length]), Box pf 146 [nv, fv2], OS tU64 147 nv near] := hw3.sel
    refine res_one (v := .bool (decide (((fs ++ [lv]).length : Int) ≤ 4096))) rfl rfl ⟨_, [R], fv2, fs ++ [lv], ?_, FindOk.base hB hP0 hX0 hl, hw4⟩
    congr 2
    exact decide_eq_decide.2 (by simp only [List.length_append, List.length_cons, List.length_nil]; omega)
  have hd0 : decide (((P ||| X : Nat) : Int) = 0) = false := decide_eq_false (by omega)
  simp only [hd0]
  repeat (first | refine go_run ?_ | (refine go_newP ?_; clear hw; intro p w hw) | (refine go_newW ?_; clear hw; intro w hw) | (refine go_newS ?_; clear hw; intro s w hw))
  refine step_pure rfl (pv_or64 (a := P) (b := X) rfl rfl hPl hXl) ?_
  repeat (first | refine go_runC ?_ | (refine go_newP ?_; clear hw; intro p w hw) | (refine go_newW ?_; clear hw; intro w hw) | (refine go_newS ?_; clear hw; intro s w hw))
  refine vc_loop [11, 12, 13, 14, 15, 59, 60, 61, 62, 63, 64, 65, 66, 67, 68, 69, 70, 71, 72, 73, 74, 75, 76, 77, 78, 79, 80, 81] (G := Nat × Nat × Int) (fun y => [(13, u64 y.1), (11, .int .i64 (y.2.1 : Int)), (12, .int .i64 y.2.2)]) (fun y w => y.1 < 18446744073709551616 ∧ (∀ v, ib y.1 v → ib P v ∨ ib X v) ∧ ((y.2.2 = -1 ∧ y.1 = P ||| X) ∨ (0 ≤ y.2.2 ∧ y.2.2 ≤ 127 ∧ (ib P y.2.1 ∨ ib X y.2.1))) ∧ Sat w0 w [OS tVal 22 fv fs, RowsAt tInt 3 fs Fs, Box pf 146 [nv, fv], OS tU64 147 nv near]) (fun y => y.1) (P ||| X, 0, -1) (fun _ => rfl) ⟨rfl, rfl, rfl, trivial⟩ ⟨hPX, fun v hv => ib_orN.1 hv, .inl ⟨rfl, rfl⟩, hw⟩ ?_
  clear hw
  rintro σ ⟨x, piv, best⟩ w ⟨hx, hsub, hpb, hw⟩
  simp only at hx hsub hpb hw
  repeat (first | refine go_runC ?_ | (refine go_newP ?_; clear hw; intro p w hw) | (refine go_newW ?_; clear hw; intro w hw) | (refine go_newS ?_; clear hw; intro s w hw))
  by_cases hx0 : x = 0
  rotate_left
  · have hd1 : decide ((x : Int) = 0) = false := decide_eq_false (by omega)
    simp only [hd1, Bool.not_false]
    obtain ⟨v, hv⟩ := low_exists hx0
    have hvpx := hsub v hv.1
    have hvn : v < near.length := by
      rcases hvpx with h | h
      · exact hB.pb v h
      · exact hB.xb v h
    repeat (first | refine go_run ?_ | (refine go_newP ?_; clear hw; intro p w hw) | (refine go_newW ?_; clear hw; intro w hw) | (refine go_newS ?_; clear hw; intro s w hw))
    refine st_call rfl (tz_spec hw hT hx hv) ?_
    rintro _ w' ⟨rfl, rfl⟩
    refine ⟨_, rfl, ?_⟩
    repeat (first | refine go_runC ?_ | (refine go_newP ?_; clear hw; intro p w hw) | (refine go_newW ?_; clear hw; intro w hw) | (refine go_newS ?_; clear hw; intro s w hw))
    refine step_pure rfl (pv_and64 (a := P) (b := near.getD v tU64.dflt) rfl rfl hPl (hNl v)) ?_
    refine st_call rfl (ones_spec (Nat.lt_of_le_of_lt Nat.and_le_left hPl)) ?_
    rintro _ w' ⟨⟨kk, rfl, hk0, hk1⟩, rfl⟩
    refine ⟨_, rfl, ?_⟩
    repeat (first | refine go_runC ?_ | (refine go_newP ?_; clear hw; intro p w hw) | (refine go_newW ?_; clear hw; intro w hw) | (refine go_newS ?_; clear hw; intro s w hw))
    have hlt := strip_lt hx0
    have hst := fun u => low_strip hv u
    refine go_if (fun h2 => ?_) (fun h2 => ?_)
    · repeat (first | refine go_run ?_ | (refine go_newP ?_; clear hw; intro p w hw) | (refine go_newW ?_; clear hw; intro w hw) | (refine go_newS ?_; clear hw; intro s w hw))
      refine step_pure rfl (pv_sub64 (a := x) (b := 1) rfl rfl (by omega) hx) ?_
      refine step_pure rfl (pv_and64 (a := x) (b := x - 1) rfl rfl hx (by omega)) ?_
      repeat (first | refine go_run ?_ | (refine go_newP ?_; clear hw; intro p w hw) | (refine go_newW ?_; clear hw; intro w hw) | (refine go_newS ?_; clear hw; intro s w hw))
      exact ⟨(x &&& (x - 1), v, kk), ⟨rfl, rfl, rfl, trivial⟩, by repeat (first | exact agree_refl | (apply agree_upd rfl) | (apply agree_mix rfl) | (apply agree_sets rfl)), ⟨by simp only; omega, fun u hu => hsub u ((hst u).1 hu).1, .inr ⟨hk0, hk1, hvpx⟩, hw⟩, hlt⟩
    · repeat (first | refine go_run ?_ | (refine go_newP ?_; clear hw; intro p w hw) | (refine go_newW ?_; clear hw; intro w hw) | (refine go_newS ?_; clear hw; intro s w hw))
      refine step_pure rfl (pv_sub64 (a := x) (b := 1) rfl rfl (by omega) hx) ?_
      refine step_pure rfl (pv_and64 (a := x) (b := x - 1) rfl rfl hx (by omega)) ?_
      repeat (first | refine go_run ?_ | (refine go_newP ?_; clear hw; intro p w hw) | (refine go_newW ?_; clear hw; intro w hw) | (refine go_newS ?_; clear hw; intro s w hw))
      refine ⟨(x &&& (x - 1), piv, best), ⟨rfl, rfl, rfl, trivial⟩, by repeat (first | exact agree_refl | (apply agree_upd rfl) | (apply agree_mix rfl) | (apply agree_sets rfl)), ⟨by simp only; omega, fun u hu => hsub u ((hst u).1 hu).1, ?_, hw⟩, hlt⟩
      rcases hpb with ⟨e1, _⟩ | hpb
      · exfalso; omega
      · exact .inr hpb
  have hd1 : decide ((x : Int) = 0) = true := decide_eq_true (by omega)
  have hpv : ib P piv ∨ ib X piv := by
    rcases hpb with ⟨_, e2⟩ | hpb
    · exact absurd (e2.symm.trans hx0) h0
    · exact hpb.2.2
  have hpn : piv < near.length := by
    rcases hpv with h | h
    · exact hB.pb _ h
    · exact hB.xb _ h
  simp only [hd1, Bool.not_true]
  repeat (first | refine go_run ?_ | (refine go_newP ?_; clear hw; intro p w hw) | (refine go_newW ?_; clear hw; intro w hw) | (refine go_newS ?_; clear hw; intro s w hw))
  refine step_pure rfl (pv_andNot64 (a := P) (b := near.getD piv tU64.dflt) rfl rfl hPl (hNl piv)) ?_
  repeat (first | refine go_run ?_ | (refine go_newP ?_; clear hw; intro p w hw) | (refine go_newW ?_; clear hw; intro w hw) | (refine go_newS ?_; clear hw; intro s w hw))
  have hF0 : FI near.length (fun u => near.getD u tU64.dflt) R P Fs.length (P &&& nb64 (near.getD piv tU64.dflt)) P X [] := FI.start hG hB hpv (fun v => ib_out hPl (hNl piv)) hl
  have hw1 : Sat w0 w [OS tVal 22 fv fs, RowsAt tInt 3 fs (Fs ++ ([] : List Nat).map fun C => bitsK C near.length), Box pf 146 [nv, fv], OS tU64 147 nv near] := by
    rw [List.map_nil, List.append_nil]; exact hw
  clear hw
  refine vc_loop [2, 3, 8, 16, 17, 91, 92, 93, 94, 95, 96, 97, 98, 99, 100, 101, 102, 103, 104, 105, 106, 107, 108, 109, 110, 111, 112, 113, 114, 115, 116, 117, 118, 119, 120, 121, 122, 123, 124, 125, 126, 127, 128, 129, 130, 131] (G := Nat × Nat × Nat × List Nat × Value × List Value) (fun y => [(16, u64 y.1), (2, u64 y.2.1), (3, u64 y.2.2.1)]) (fun y w => FI near.length (fun u => near.getD u tU64.dflt) R P Fs.length y.1 y.2.1 y.2.2.1 y.2.2.2.1 ∧ Sat w0 w [OS tVal 22 y.2.2.2.2.1 y.2.2.2.2.2, RowsAt tInt 3 y.2.2.2.2.2 (Fs ++ y.2.2.2.1.map fun C => bitsK C near.length), Box pf 146 [nv, y.2.2.2.2.1], OS tU64 147 nv near]) (fun y => y.1) (P &&& nb64 (near.getD piv tU64.dflt), P, X, [], fv, fs) (fun _ => rfl) ⟨rfl, rfl, rfl, trivial⟩ ⟨hF0, hw1⟩ ?_
  clear hw1 hx hsub hpb hx0 hd1
  rintro σ1 ⟨q, pp, xx, M, fv, fs⟩ w ⟨hF, hw⟩
  simp only at hF hw
  have hql := lt64_of hn fun v hv => hF.bi.pb v (hF.qp v hv)
  have hpl := lt64_of hn hF.bi.pb
  have hxl := lt64_of hn hF.bi.xb
  repeat (first | refine go_runC ?_ | (refine go_newP ?_; clear hw; intro p w hw) | (refine go_newW ?_; clear hw; intro w hw) | (refine go_newS ?_; clear hw; intro s w hw))
  by_cases hq0 : q = 0
  · have hd1 : decide ((q : Int) = 0) = true := decide_eq_true (by omega)
    simp only [hd1, Bool.not_true]
    repeat (first | refine go_run ?_ | (refine go_newP ?_; clear hw; intro p w hw) | (refine go_newW ?_; clear hw; intro w hw) | (refine go_newS ?_; clear hw; intro s w hw))
    exact res_one (v := .bool true) rfl rfl ⟨true, M, fv, fs, rfl, hF.done hq0, hw⟩
  have hd1 : decide ((q : Int) = 0) = false := decide_eq_false (by omega)
  simp only [hd1, Bool.not_false]
  obtain ⟨v, hv⟩ := low_exists hq0
  have hvp := hF.qp v hv.1
  have hvn := hF.bi.pb v hvp
  repeat (first | refine go_run ?_ | (refine go_newP ?_; clear hw; intro p w hw) | (refine go_newW ?_; clear hw; intro w hw) | (refine go_newS ?_; clear hw; intro s w hw))
  refine st_call rfl (tz_spec hw hT hql hv) ?_
  rintro _ w' ⟨rfl, rfl⟩
  refine ⟨_, rfl, ?_⟩
  have h2v : 2 ^ v < 18446744073709551616 := lt64_of hn fun u hu => by rw [ib_two.1 hu]; exact hvn
  have h1v : 1 * 2 ^ v % 18446744073709551616 = 2 ^ v := by rw [Nat.one_mul, Nat.mod_eq_of_lt h2v]
  have hnv : ¬ ib (near.getD v tU64.dflt) v := hG.irr v
  have hR1 : ∀ u, ib (R ||| 2 ^ v) u ↔ ib R u ∨ u = v := fun u => by rw [ib_orN, ib_two]
  have hP1 : ∀ u, ib (pp &&& near.getD v tU64.dflt) u ↔ ib pp u ∧ ib (near.getD v tU64.dflt) u := fun u => ib_and
  have hX1 : ∀ u, ib (xx &&& near.getD v tU64.dflt) u ↔ ib xx u ∧ ib (near.getD v tU64.dflt) u := fun u => ib_and
  have hml : (Fs ++ M.map fun C => bitsK C near.length).length = Fs.length + M.length := by simp
  repeat (first | refine go_run ?_ | (refine go_newP ?_; clear hw; intro p w hw) | (refine go_newWr ?_; clear hw; intro w hw) | (refine go_newS ?_; clear hw; intro s w hw))
  refine vc_plan [.op 0, .op 1, .op 2, .op 3, .op 4, .op 5, .op 6, .op 7, .op 8, .op 9, .op 10, .op 11, .op 12, .op 13, .op 14, .op 15, .op 16, .op 17, .op 18, .op 19, .op 20, .op 21, .op 22, .op 23, .op 24] hw (by kernel_rfl) ?_; clear hw; intro w hw
  repeat (first | refine go_run ?_ | (refine go_newP ?_; clear hw; intro p w hw) | (refine go_newWr ?_; clear hw; intro w hw) | (refine go_newS ?_; clear hw; intro s w hw))
  refine step_pure rfl (pv_shl64 (a := 1) (b := v) (k := .i64) rfl rfl (by omega)) ?_
  rw [h1v]
  repeat (first | refine go_run ?_ | (refine go_newP ?_; clear hw; intro p w hw) | (refine go_newWr ?_; clear hw; intro w hw) | (refine go_newS ?_; clear hw; intro s w hw))
  refine step_pure rfl (pv_or64 (a := R) (b := 2 ^ v) rfl rfl hRl h2v) ?_
  repeat (first | refine go_run ?_ | (refine go_newP ?_; clear hw; intro p w hw) | (refine go_newWr ?_; clear hw; intro w hw) | (refine go_newS ?_; clear hw; intro s w hw))
  refine step_pure rfl (pv_and64 (a := pp) (b := near.getD v tU64.dflt) rfl rfl hpl (hNl v)) ?_
  repeat (first | refine go_run ?_ | (refine go_newP ?_; clear hw; intro p w hw) | (refine go_newWr ?_; clear hw; intro w hw) | (refine go_newS ?_; clear hw; intro s w hw))
  refine step_pure rfl (pv_and64 (a := xx) (b := near.getD v tU64.dflt) rfl rfl hxl (hNl v)) ?_
  repeat (first | refine go_run ?_ | (refine go_newP ?_; clear hw; intro p w hw) | (refine go_newWr ?_; clear hw; intro w hw) | (refine go_newS ?_; clear hw; intro s w hw))
  refine st_call rfl (ih (pp &&& near.getD v tU64.dflt) (Nat.lt_of_lt_of_le (and_lt hvp hnv) hF.ple) (R ||| 2 ^ v) (xx &&& near.getD v tU64.dflt) (hF.bi.child hG hvp hR1 hP1 hX1) (by rw [hml]; exact hF.le) hw) ?_
  clear hw
  rintro _ w ⟨r, M1, fv2, fs2, rfl, hf, hw⟩
  rw [hml] at hf
  rw [List.append_assoc, ← List.map_append] at hw
  refine ⟨_, rfl, ?_⟩
  cases r
  · repeat (first | refine go_run ?_ | (refine go_newP ?_; clear hw; intro p w hw) | (refine go_newW ?_; clear hw; intro w hw) | (refine go_newS ?_; clear hw; intro s w hw))
    exact res_one (v := .bool false) rfl rfl ⟨false, M ++ M1, fv2, fs2, rfl, hF.fail hG hv.1 hR1 hP1 hf, hw⟩
  repeat (first | refine go_run ?_ | (refine go_newP ?_; clear hw; intro p w hw) | (refine go_newW ?_; clear hw; intro w hw) | (refine go_newS ?_; clear hw; intro s w hw))
  refine step_pure rfl (pv_shl64 (a := 1) (b := v) (k := .i64) rfl rfl (by omega)) ?_
  rw [h1v]
  refine step_pure rfl (pv_andNot64 (a := pp) (b := 2 ^ v) rfl rfl hpl h2v) ?_
  repeat (first | refine go_run ?_ | (refine go_newP ?_; clear hw; intro p w hw) | (refine go_newW ?_; clear hw; intro w hw) | (refine go_newS ?_; clear hw; intro s w hw))
  refine step_pure rfl (pv_shl64 (a := 1) (b := v) (k := .i64) rfl rfl (by omega)) ?_
  rw [h1v]
  refine step_pure rfl (pv_or64 (a := xx) (b := 2 ^ v) rfl rfl hxl h2v) ?_
  repeat (first | refine go_run ?_ | (refine go_newP ?_; clear hw; intro p w hw) | (refine go_newW ?_; clear hw; intro w hw) | (refine go_newS ?_; clear hw; intro s w hw))
  refine step_pure rfl (pv_sub64 (a := q) (b := 1) rfl rfl (by omega) hql) ?_
  refine step_pure rfl (pv_and64 (a := q) (b := q - 1) rfl rfl hql (by omega)) ?_
  repeat (first | refine go_run ?_ | (refine go_newP ?_; clear hw; intro p w hw) | (refine go_newW ?_; clear hw; intro w hw) | (refine go_newS ?_; clear hw; intro s w hw))
  exact ⟨(q &&& (q - 1), pp &&& nb64 (2 ^ v), xx ||| 2 ^ v, M ++ M1, fv2, fs2), ⟨rfl, rfl, rfl, trivial⟩, by repeat (first | exact agree_refl | (apply agree_upd rfl) | (apply agree_mix rfl) | (apply agree_sets rfl)), ⟨hF.step hG hv.1 hR1 hP1 hf (fun u => by rw [ib_out hpl h2v, ib_two]) (fun u => by rw [ib_orN, ib_two]) (fun u => low_strip hv u) Nat.and_le_left, hw⟩, strip_lt hq0⟩
end Go.Proofs.YtemnlcnjpjdoaaaGreatDoor
