
/-
  Contract of 'graph.Cliques'.
-/
import Derived.Test.YtemnlcnjpjdoaaaGreatDoorWCheckG
import Derived.Test.YtemnlcnjpjdoaaaGreatDoorWFind
import Derived.Test.YtemnlcnjpjdoaaaGreatDoorWSortC
import Derived.Test.YtemnlcnjpjdoaaaGreatDoorMTA
set_option linter.unusedSimpArgs false
set_option linter.unusedVariables false
namespace Go.Proofs.YtemnlcnjpjdoaaaGreatDoor
open Go.Sl Go
attribute [local irreducible] vc opsW opsD opV opW PureV ReadV Thn Blk
theorem all_bits (n v : Nat) : ib (2 ^ n - 1) v ↔ v < n := by unfold ib; rw [Nat.testBit_two_pow_sub_one, decide_eq_true_eq]
theorem bi_all {n : Nat} {N : Nat → Nat} : BI n N 0 (2 ^ n - 1) 0 where
  rb v hv := absurd hv (none_zero rfl v)
  pb v hv := (all_bits n v).1 hv
  xb v hv := absurd hv (none_zero rfl v)
  clq u v hu := absurd hu (none_zero rfl u)
  adj u _ r hr := absurd hr (none_zero rfl r)
  all u hu _ := .inl ((all_bits n u).2 hu)
theorem cand_all {n : Nat} {N : Nat → Nat} {C : Nat} : Cand n N 0 (2 ^ n - 1) C ↔ MaxC n N C :=
  ⟨fun h => h.mx, fun h => ⟨h, fun v hv => absurd hv (none_zero rfl v), fun v hv => .inr ((all_bits n v).2 (h.bd v hv))⟩⟩
theorem bits_nodup {n : Nat} {N : Nat → Nat} {M : List Nat} (hd : M.Nodup) (hm : ∀ C ∈ M, MaxC n N C) : (M.map fun C => bitsK C n).Nodup := by
  refine List.pairwise_map.2 (List.Pairwise.imp_of_mem (fun ha hb hne e => ?_) hd)
  exact hne (bitsK_inj (hm _ ha).bd (hm _ hb).bd e)
/-- What the list of cliques is, or why there is none. -/
def ClqFull (n : Nat) (N : Nat → Nat) : Prop := ∃ M : List Nat, M.Nodup ∧ M.length = 4097 ∧ ∀ C ∈ M, MaxC n N C
set_option maxRecDepth 8000 in
set_option maxHeartbeats 4000000 in
theorem Cliques_spec {w0 : World} {n : Int} {a : Value} {arcs : List Arc} (ha : RS tArc w0 a arcs) (hT : TabB w0) :
    Calls Tryz.prog 58 #[.int .i64 n, a] w0 fun e w' =>
      (checkCode n arcs ≠ 0 ∧ e = .returned (.tuple #[.slice none 0 0, errV (checkCode n arcs)]) ∧ Sat w0 w' []) ∨
      (checkCode n arcs = 0 ∧ 32 < n ∧ e = .returned (.tuple #[.slice none 0 0, errV 5]) ∧ Sat w0 w' []) ∨
      (checkCode n arcs = 0 ∧ n = 0 ∧ e = .returned (.tuple #[.slice none 0 0, .nilIface]) ∧ Sat w0 w' []) ∨
      (checkCode n arcs = 0 ∧ 0 < n ∧ n ≤ 32 ∧ ClqFull n.toNat (nbA n.toNat arcs) ∧ e = .returned (.tuple #[.slice none 0 0, errV 10]) ∧ Sat w0 w' []) ∨
      (checkCode n arcs = 0 ∧ 0 < n ∧ n ≤ 32 ∧ ∃ fv fs Cs, e = .returned (.tuple #[fv, .nilIface]) ∧ LexS Cs ∧ CliqL n.toNat (nbA n.toNat arcs) Cs ∧ Cs.length ≤ 4096 ∧ Sat w0 w' [RowsAt tInt 3 fs Cs, OS tVal 22 fv fs]) := by
  have hla := ha.big
  have hw := Sat.start w0
  refine calls_of_vc (args := [.int .i64 n, a]) mixed Tryz.func58 rfl (by kernel_rfl) (Nat.le_of_ble_eq_true rfl) ?_
  repeat (first | refine go_run ?_ | (refine go_newP ?_; clear hw; intro p w hw) | (refine go_newW ?_; clear hw; intro w hw) | (refine go_newS ?_; clear hw; intro s w hw))
  refine st_call rfl (gcheck_spec ha) ?_
  rintro _ w' ⟨rfl, hk'⟩
  replace hw := hw.call0 hk'
  clear hk'
  refine ⟨_, rfl, ?_⟩
  by_cases hc : checkCode n arcs = 0
  rotate_left
  · rw [errV_some hc]
    repeat (first | refine go_run ?_ | (refine go_newP ?_; clear hw; intro p w hw) | (refine go_newW ?_; clear hw; intro w hw) | (refine go_newS ?_; clear hw; intro s w hw))
    exact res_two (v := .slice none 0 0) (v' := .iface 85 (.int .i64 (checkCode n arcs))) rfl rfl rfl (.inl ⟨hc, rfl, hw⟩)
  rw [errV_zero hc]
  obtain ⟨hn0, hn1, hal, hok⟩ := of_checkCode hc
  have hok2 : ∀ a ∈ arcs, arcOk (n.toNat : Int) a := by rw [Int.toNat_of_nonneg hn0]; exact hok
  repeat (first | refine go_run ?_ | (refine go_newP ?_; clear hw; intro p w hw) | (refine go_newW ?_; clear hw; intro w hw) | (refine go_newS ?_; clear hw; intro s w hw))
  refine go_if (fun h1 => ?_) (fun h1 => ?_)
  · repeat (first | refine go_run ?_ | (refine go_newP ?_; clear hw; intro p w hw) | (refine go_newW ?_; clear hw; intro w hw) | (refine go_newS ?_; clear hw; intro s w hw))
    exact res_two (v := .slice none 0 0) (v' := .iface 85 (.int .i64 5)) rfl rfl rfl (.inr (.inl ⟨hc, h1, by rw [errV_some (by decide)], hw⟩))
  repeat (first | refine go_run ?_ | (refine go_newP ?_; clear hw; intro p w hw) | (refine go_newW ?_; clear hw; intro w hw) | (refine go_newS ?_; clear hw; intro s w hw))
  refine go_if (fun h2 => ?_) (fun h2 => ?_)
  · repeat (first | refine go_run ?_ | (refine go_newP ?_; clear hw; intro p w hw) | (refine go_newW ?_; clear hw; intro w hw) | (refine go_newS ?_; clear hw; intro s w hw))
    exact res_two (v := .slice none 0 0) (v' := .nilIface) rfl rfl rfl (.inr (.inr (.inl ⟨hc, h2, rfl, hw⟩)))
  repeat (first | refine go_run ?_ | (refine go_newP ?_; clear hw; intro p w hw) | (refine go_newW ?_; clear hw; intro w hw) | (refine go_newS ?_; clear hw; intro s w hw))
  refine st_make tU64 0 (n := n) rfl rfl rfl rfl hn0 (by omega) (by omega) hw ?_
  clear hw
  intro nv w hw
  have onv := (hw.rs 0 rfl).one
  refine st_build1 (v1 := nv) rfl rfl (by simp only [List.all_cons, List.all_nil, onv]; rfl) ?_
  refine st_boxAggNew (vs := [nv, .slice none 0 0]) rfl hw ?_
  clear hw
  intro pf w hw
  repeat (first | refine go_run ?_ | (refine go_newP ?_; clear hw; intro p w hw) | (refine go_newW ?_; clear hw; intro w hw) | (refine go_newS ?_; clear hw; intro s w hw))
  have hw1 : Sat w0 w [Box pf 146 [nv, .slice none 0 0], OS tU64 147 nv (nearK n.toNat arcs 0)] := hw
  clear hw
  refine vc_loop [9, 27, 28, 29, 30, 31, 32, 33, 34, 35, 36, 37, 38, 39, 40, 41, 42, 43, 44, 45, 46, 47, 48, 49, 50, 51, 52, 53, 54, 55, 56, 57, 58, 59, 60, 61, 62] (G := Nat) (fun k => [(27, .int .i64 k)]) (fun k w => k ≤ arcs.length ∧ Sat w0 w [Box pf 146 [nv, .slice none 0 0], OS tU64 147 nv (nearK n.toNat arcs k)]) (fun k => arcs.length - k) 0 (fun _ => rfl) ⟨rfl, trivial⟩ ⟨Nat.zero_le _, hw1⟩ ?_
  clear hw1
  rintro σ k w ⟨hk, hw⟩
  repeat (first | refine go_run ?_ | (refine go_newP ?_; clear hw; intro p w hw) | (refine go_newW ?_; clear hw; intro w hw) | (refine go_newS ?_; clear hw; intro s w hw))
  refine go_if (fun h3 => ?_) (fun h3 => ?_)
  · have hkl : k < arcs.length := by omega
    have hak := hok _ (mem_getD tArc.dflt hkl)
    unfold arcOk at hak
    have hNl := nearK_len (n := n.toNat) (arcs := arcs) k (by omega)
    have hNb : ∀ x, (nearK n.toNat arcs k).getD x tU64.dflt < 18446744073709551616 := fun x => by
      have h1 := nearK_lt (n := n.toNat) (x := x) hok2 (show k ≤ arcs.length by omega)
      have h2 : 2 ^ n.toNat ≤ 2 ^ 32 := Nat.pow_le_pow_right (by decide) (by omega)
      omega
    have hpw : ∀ u : Nat, (u : Int) < n → 1 * 2 ^ u % 18446744073709551616 = 2 ^ u ∧ 2 ^ u < 18446744073709551616 := fun u hu => by
      have h2 : 2 ^ u < 2 ^ 64 := Nat.pow_lt_pow_right (by decide) (by omega)
      exact ⟨by rw [Nat.one_mul, Nat.mod_eq_of_lt h2], h2⟩
    repeat (first | refine go_runC ?_ | (refine go_newP ?_; clear hw; intro p w hw) | (refine go_newW ?_; clear hw; intro w hw) | (refine go_newS ?_; clear hw; intro s w hw))
    by_cases he : (arcs.getD k tArc.dflt).src = (arcs.getD k tArc.dflt).dst
    · have hd0 : decide ((arcs.getD k tArc.dflt).src = (arcs.getD k tArc.dflt).dst) = true := decide_eq_true he
      simp only [hd0, Bool.not_true]
      repeat (first | refine go_run ?_ | (refine go_newP ?_; clear hw; intro p w hw) | (refine go_newW ?_; clear hw; intro w hw) | (refine go_newS ?_; clear hw; intro s w hw))
      have hst : stepN (nearK n.toNat arcs k) (arcs.getD k tArc.dflt) = (nearK n.toNat arcs k) := if_pos he
      rw [← nearK_succ hkl] at hst
      rw [← hst] at hw
      exact ⟨k + 1, ⟨rfl, trivial⟩, by repeat (first | exact agree_refl | (apply agree_upd rfl) | (apply agree_mix rfl) | (apply agree_sets rfl)), ⟨by omega, hw.tail⟩, by omega⟩
    have hd0 : decide ((arcs.getD k tArc.dflt).src = (arcs.getD k tArc.dflt).dst) = false := decide_eq_false he
    simp only [hd0, Bool.not_false]
    have hst : stepN (nearK n.toNat arcs k) (arcs.getD k tArc.dflt) = setN (setN (nearK n.toNat arcs k) (arcs.getD k tArc.dflt).src.toNat (arcs.getD k tArc.dflt).dst.toNat) (arcs.getD k tArc.dflt).dst.toNat (arcs.getD k tArc.dflt).src.toNat := if_neg he
    rw [← nearK_succ hkl] at hst
    obtain ⟨e1, e2⟩ := hpw (arcs.getD k tArc.dflt).dst.toNat (by omega)
    obtain ⟨e3, e4⟩ := hpw (arcs.getD k tArc.dflt).src.toNat (by omega)
    repeat (first | refine go_run ?_ | (refine go_newP ?_; clear hw; intro p w hw) | (refine go_newWr ?_; clear hw; intro w hw) | (refine go_newS ?_; clear hw; intro s w hw))
    refine vc_plan [.op 0, .op 1, .op 2, .op 3, .op 4, .op 5, .op 6, .op 7, .op 8, .op 9, .op 10, .op 11, .op 12, .op 13] hw (by kernel_rfl) ?_; clear hw; intro w hw
    repeat (first | refine go_run ?_ | (refine go_newP ?_; clear hw; intro p w hw) | (refine go_newWr ?_; clear hw; intro w hw) | (refine go_newS ?_; clear hw; intro s w hw))
    refine step_pure rfl (pv_shl64 (a := 1) (b := (arcs.getD k tArc.dflt).dst.toNat) (k := .i64) rfl (by rw [Int.toNat_of_nonneg hak.2.2.1]; rfl) (by omega)) ?_
    rw [e1]
    repeat (first | refine go_run ?_ | (refine go_newP ?_; clear hw; intro p w hw) | (refine go_newWr ?_; clear hw; intro w hw) | (refine go_newS ?_; clear hw; intro s w hw))
    refine step_pure rfl (pv_or64 (a := (nearK n.toNat arcs k).getD (arcs.getD k tArc.dflt).src.toNat tU64.dflt) (b := 2 ^ (arcs.getD k tArc.dflt).dst.toNat) rfl rfl (hNb _) e2) ?_
    repeat (first | refine go_run ?_ | (refine go_newP ?_; clear hw; intro p w hw) | (refine go_newWr ?_; clear hw; intro w hw) | (refine go_newS ?_; clear hw; intro s w hw))
    have hL1 := setN_len (nearK n.toNat arcs k) (arcs.getD k tArc.dflt).src.toNat (arcs.getD k tArc.dflt).dst.toNat
    have hb1 : ∀ x, (setN (nearK n.toNat arcs k) (arcs.getD k tArc.dflt).src.toNat (arcs.getD k tArc.dflt).dst.toNat).getD x tU64.dflt < 18446744073709551616 := fun x => lt64_of (n := n.toNat) (by omega) fun v hv => by
      rcases (setN_bit (by omega)).1 hv with h | ⟨_, h⟩
      · exact (AdjA.lt (arcs := arcs.take k) (fun a ha => hok2 a (List.mem_of_mem_take ha)) ((nearK_bit hok2 k (by omega)).1 h)).2
      · omega
    have hw : Sat w0 w [Box p 82 (tArc.enc (arcs.getD k tArc.dflt)), Box pf 146 [nv, .slice none 0 0], OS tU64 147 nv (setN (nearK n.toNat arcs k) (arcs.getD k tArc.dflt).src.toNat (arcs.getD k tArc.dflt).dst.toNat)] := hw
    refine vc_plan [.op 0, .op 1, .op 2, .op 3, .op 4, .op 5, .op 6, .op 7, .op 8, .op 9, .op 10, .op 11, .op 12, .op 13] hw (by kernel_rfl) ?_; clear hw; intro w hw
    repeat (first | refine go_run ?_ | (refine go_newP ?_; clear hw; intro p w hw) | (refine go_newWr ?_; clear hw; intro w hw) | (refine go_newS ?_; clear hw; intro s w hw))
    refine step_pure rfl (pv_shl64 (a := 1) (b := (arcs.getD k tArc.dflt).src.toNat) (k := .i64) rfl (by rw [Int.toNat_of_nonneg hak.1]; rfl) (by omega)) ?_
    rw [e3]
    repeat (first | refine go_run ?_ | (refine go_newP ?_; clear hw; intro p w hw) | (refine go_newWr ?_; clear hw; intro w hw) | (refine go_newS ?_; clear hw; intro s w hw))
    refine step_pure rfl (pv_or64 (a := (setN (nearK n.toNat arcs k) (arcs.getD k tArc.dflt).src.toNat (arcs.getD k tArc.dflt).dst.toNat).getD (arcs.getD k tArc.dflt).dst.toNat tU64.dflt) (b := 2 ^ (arcs.getD k tArc.dflt).src.toNat) rfl rfl (hb1 _) e4) ?_
    repeat (first | refine go_run ?_ | (refine go_newP ?_; clear hw; intro p w hw) | (refine go_newWr ?_; clear hw; intro w hw) | (refine go_newS ?_; clear hw; intro s w hw))
    have hw : Sat w0 w [Box p 82 (tArc.enc (arcs.getD k tArc.dflt)), Box pf 146 [nv, .slice none 0 0], OS tU64 147 nv (setN (setN (nearK n.toNat arcs k) (arcs.getD k tArc.dflt).src.toNat (arcs.getD k tArc.dflt).dst.toNat) (arcs.getD k tArc.dflt).dst.toNat (arcs.getD k tArc.dflt).src.toNat)] := hw
    rw [← hst] at hw
    exact ⟨k + 1, ⟨rfl, trivial⟩, by repeat (first | exact agree_refl | (apply agree_upd rfl) | (apply agree_mix rfl) | (apply agree_sets rfl)), ⟨by omega, hw.tail⟩, by omega⟩
  have hke : k = arcs.length := by omega
  subst hke
  have hG : Gr n.toNat (nbA n.toNat arcs) := nbA_gr hok2
  have hNl : (nearA n.toNat arcs).length = n.toNat := nearK_len _ (Nat.le_refl _)
  have hpn : 2 ^ n.toNat < 18446744073709551616 := by
    have h2 : 2 ^ n.toNat ≤ 2 ^ 32 := Nat.pow_le_pow_right (by decide) (by omega)
    omega
  have hp1 : 1 * 2 ^ n.toNat % 18446744073709551616 = 2 ^ n.toNat := by rw [Nat.one_mul, Nat.mod_eq_of_lt hpn]
  have hp0 : 1 ≤ 2 ^ n.toNat := Nat.two_pow_pos _
  have hw1 : Sat w0 w [OS tVal 22 (.slice none 0 0) [], RowsAt tInt 3 [] [], Box pf 146 [nv, .slice none 0 0], OS tU64 147 nv (nearA n.toNat arcs)] := by
    have h1 := (hw.rows0 (T := tInt) (e := 3)).nil (T := tVal) (e := 22)
    exact h1
  clear hw
  have hw := hw1
  clear hw1
  repeat (first | refine go_run ?_ | (refine go_newP ?_; clear hw; intro p w hw) | (refine go_newW ?_; clear hw; intro w hw) | (refine go_newS ?_; clear hw; intro s w hw))
  refine step_pure rfl (pv_shl64 (a := 1) (b := n.toNat) (k := .i64) rfl (by rw [Int.toNat_of_nonneg hn0]; rfl) (by omega)) ?_
  rw [hp1]
  refine step_pure rfl (pv_sub64 (a := 2 ^ n.toNat) (b := 1) rfl rfl hp0 hpn) ?_
  have hF := find_spec (w0 := w0) (pf := pf) (nv := nv) (near := nearA n.toNat arcs) (by omega) (by rw [hNl]; exact hG) hT (2 ^ n.toNat - 1) 0 0 (w := w) (fv := .slice none 0 0) (fs := []) (Fs := []) (by rw [hNl]; exact bi_all) (Nat.zero_le _) hw
  refine st_call rfl hF ?_
  clear hw hF
  rintro _ w ⟨r, M, fv, fs, rfl, hf, hw⟩
  rw [hNl] at hf hw
  replace hf : FindOk n.toNat (nbA n.toNat arcs) 0 (2 ^ n.toNat - 1) 0 r M := hf
  rw [List.nil_append] at hw
  have hmx : ∀ C ∈ M, MaxC n.toNat (nbA n.toNat arcs) C := fun C hC => cand_all.1 (hf.mem C hC)
  refine ⟨_, rfl, ?_⟩
  cases r
  · repeat (first | refine go_run ?_ | (refine go_newP ?_; clear hw; intro p w hw) | (refine go_newW ?_; clear hw; intro w hw) | (refine go_newS ?_; clear hw; intro s w hw))
    exact res_two (v := .slice none 0 0) (v' := .iface 85 (.int .i64 10)) rfl rfl rfl (.inr (.inr (.inr (.inl ⟨hc, by omega, h1, ⟨M, hf.nd, by have := hf.gt rfl; omega, hmx⟩, by rw [errV_some (by decide)], hw.sel⟩))))
  have hml := hf.le rfl
  have hM0 : M ≠ [] := fun e => by
    obtain ⟨C, hC, _⟩ := clq_grow hG _ 0 ⟨fun v hv => absurd hv (none_zero rfl v), fun u v hu => absurd hu (none_zero rfl u)⟩ (Nat.le_refl _)
    have := hf.all rfl C (cand_all.2 hC)
    rw [e] at this; simp at this
  have hM1 : 0 < M.length := List.length_pos_iff.2 hM0
  have hnd := bits_nodup hf.nd hmx
  have hlm : (M.map fun C => bitsK C n.toNat).length = M.length := List.length_map _
  repeat (first | refine go_run ?_ | (refine go_newP ?_; clear hw; intro p w hw) | (refine go_newW ?_; clear hw; intro w hw) | (refine go_newS ?_; clear hw; intro s w hw))
  refine st_call rfl (SortF_spec (fv := fv) (fs := fs) (Fs := M.map fun C => bitsK C n.toNat) hw hnd (by omega) (by omega)) ?_
  clear hw
  rintro _ w ⟨rfl, is, hperm, hlex, hw⟩
  refine ⟨_, rfl, ?_⟩
  repeat (first | refine go_run ?_ | (refine go_newP ?_; clear hw; intro p w hw) | (refine go_newW ?_; clear hw; intro w hw) | (refine go_newS ?_; clear hw; intro s w hw))
  refine res_two (v := fv) (v' := .nilIface) rfl rfl rfl (.inr (.inr (.inr (.inr ⟨hc, by omega, h1, fv, is.map (vget fs), _, rfl, hlex, fun l => ?_, ?_, hw.sel⟩))))
  · rw [List.mem_map]
    constructor
    · rintro ⟨i, hi, rfl⟩
      have hi2 : i < (M.map fun C => bitsK C n.toNat).length := List.mem_range.1 (hperm.mem_iff.1 hi)
      have := mem_getD [] hi2
      obtain ⟨C, hC, e⟩ := List.mem_map.1 this
      exact ⟨C, hmx C hC, e.symm⟩
    · rintro ⟨C, hC, rfl⟩
      have h5 : bitsK C n.toNat ∈ M.map fun C => bitsK C n.toNat := List.mem_map.2 ⟨C, hf.all rfl C (cand_all.2 hC), rfl⟩
      obtain ⟨i, hi, e⟩ := List.getElem_of_mem h5
      refine ⟨i, hperm.mem_iff.2 (List.mem_range.2 hi), ?_⟩
      rw [getD_at hi, e]
  · rw [List.length_map, hperm.length_eq, List.length_range]; omega
end Go.Proofs.YtemnlcnjpjdoaaaGreatDoor
