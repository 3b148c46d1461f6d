
/-
  The statement 'PatternsSums' returns true.
-/
import Derived.Test.YtemnlcnjpjdoaaaDoorW42c
import Derived.Test.YtemnlcnjpjdoaaaDoorMSlB
set_option linter.unusedSimpArgs false
set_option linter.unusedVariables false
namespace Go.Proofs.YtemnlcnjpjdoaaaDoor
open Go.Sl Go
attribute [local irreducible] vc opsW opsD opV opW PureV ReadV Thn Blk
theorem beq_tfS : (true == false) = false := rfl
theorem beq_ftS : (false == true) = false := rfl
theorem gv_fS (v : Value) : gv false v = undef := by unfold gv; rfl
theorem gv_tS (v : Value) : gv true v = v := gv_true rfl
instance : IntT Tryd.prog 29 .u16 := ⟨by kernel_rfl⟩
instance : IntT Tryd.prog 3 .i64 := ⟨by kernel_rfl⟩
/-- An operator of one effect, without facts and conditions. -/
theorem rop_ind0 {w0 w : World} {ev : Value} {cost k : Int} (hw : Sat w0 w [OS tEff 33 ev [⟨.slice none 0 0, k, 1⟩]]) : ROp w ⟨ByteArray.empty, cost, .slice none 0 0, ev⟩ ⟨ByteArray.empty, cost, [], [⟨[], k, 1⟩]⟩ := by
  refine ⟨rfl, Nat.le_of_ble_eq_true rfl, rfl, RS.nil, [⟨.slice none 0 0, k, 1⟩], hw.rs 0 rfl, rfl, fun j hj => ?_⟩
  have h0 : j = 0 := by simp at hj; exact hj
  subst h0
  rw [eget_eq]
  exact ⟨rfl, rfl, RS.nil⟩
theorem sums_bd {f : Nat → Int} : ∀ {n : Nat}, (∀ k, k < n → 0 ≤ f k ∧ f k ≤ 65535) → 0 ≤ sumV f n ∧ sumV f n ≤ n * 65535
  | 0, _ => ⟨by simp [sumV], by simp [sumV]⟩
  | n + 1, h => by
    have ih := sums_bd (f := f) (n := n) fun k hk => h k (by omega)
    have hn := h n (by omega)
    rw [sumV_succ]
    omega
set_option maxRecDepth 8000 in
set_option maxHeartbeats 8000000 in
theorem PatternsSums_walk {w0 : World} {xv : Value} {xs : List Int} {size : Int} (hx : RS tU16 w0 xv xs) (hxr : ∀ x ∈ xs, 0 ≤ x ∧ x ≤ 65535) (hT : TabB w0) :
    Calls Tryd.prog 3 #[xv, .int .i64 size] w0 fun e w' => e = .returned (.bool true) ∧ Sat w0 w' [] := by
  have hxb := hx.big
  have hcr : ∀ k, k < xs.length → 0 ≤ (fun (v : Nat) => xs.getD v tU16.dflt) k ∧ (fun (v : Nat) => xs.getD v tU16.dflt) k ≤ 65535 := fun k hk => hxr _ (mem_getD tU16.dflt hk)
  have hw := Sat.start w0
  refine calls_of_vc (args := [xv, .int .i64 size]) mixed Tryd.func3 rfl (by kernel_rfl) (Nat.le_of_ble_eq_true rfl) ?_
  repeat (first | refine go_run ?_ | (refine go_newP ?_; clear hw; intro p w hw) | (refine go_newW ?_; clear hw; intro w hw) | (refine go_newS ?_; clear hw; intro s w hw))
  refine go_case (fun h100 => ?_) (fun h100 => ?_)
  · simp only [h100, gvff, gvtt]; (try simp only [beq_iff_eq, Bool.and_eq_true, Bool.or_eq_true, decide_eq_true_eq, decide_eq_false_iff_not, Bool.not_eq_true, Bool.not_eq_false, Bool.not_eq_eq_eq_not, Bool.not_true, Bool.not_false, Bool.and_eq_false_iff, Bool.or_eq_false_iff, bne_iff_ne, ne_eq, Int.not_lt, Int.not_le, Nat.not_lt, Nat.not_le] at h100)
    repeat (first | refine go_run ?_ | (refine go_newP ?_; clear hw; intro p w hw) | (refine go_newW ?_; clear hw; intro w hw) | (refine go_newS ?_; clear hw; intro s w hw))
    refine st_call rfl (awake42_spec (hT.at hw)) ?_
    rintro _ w' ⟨rfl, hk'⟩
    replace hw := hw.call0 hk'
    clear hk'
    refine ⟨_, rfl, ?_⟩
    repeat (first | refine go_run ?_ | (refine go_newP ?_; clear hw; intro p w hw) | (refine go_newW ?_; clear hw; intro w hw) | (refine go_newS ?_; clear hw; intro s w hw))
    exact res_one (v := .bool true) rfl rfl ⟨rfl, sat_none hw⟩
  simp only [h100, gvff, gvtt]; (try simp only [beq_iff_eq, Bool.and_eq_true, Bool.or_eq_true, decide_eq_true_eq, decide_eq_false_iff_not, Bool.not_eq_true, Bool.not_eq_false, Bool.not_eq_eq_eq_not, Bool.not_true, Bool.not_false, Bool.and_eq_false_iff, Bool.or_eq_false_iff, bne_iff_ne, ne_eq, Int.not_lt, Int.not_le, Nat.not_lt, Nat.not_le] at h100)
  repeat (first | refine go_run ?_ | (refine go_newP ?_; clear hw; intro p w hw) | (refine go_newW ?_; clear hw; intro w hw) | (refine go_newS ?_; clear hw; intro s w hw))
  refine st_call rfl (awake42_spec (hT.at hw)) ?_
  rintro _ w' ⟨rfl, hk'⟩
  replace hw := hw.call0 hk'
  clear hk'
  refine ⟨_, rfl, ?_⟩
  repeat (first | refine go_run ?_ | (refine go_newP ?_; clear hw; intro p w hw) | (refine go_newW ?_; clear hw; intro w hw) | (refine go_newS ?_; clear hw; intro s w hw))
  obtain ⟨p1, hp1⟩ : ∃ p1, p1 = p := ⟨p, rfl⟩
  subst hp1
  have hw1 := Sat.rd0 (φ := OpsF [] (indT 0 (fun (v : Nat) => xs.getD v tU16.dflt) fun _ => []).ops) (fun w => ⟨rfl, fun i hi => absurd hi (Nat.not_lt_zero _)⟩) hw
  clear hw
  have hw2 : Sat w0 w [OS tInt 3 (.slice none 0 0) (indT 0 (fun (v : Nat) => xs.getD v tU16.dflt) fun _ => []).vars, OS tInt 3 (.slice none 0 0) (indT 0 (fun (v : Nat) => xs.getD v tU16.dflt) fun _ => []).init, OS tFact 31 (.slice none 0 0) (indT 0 (fun (v : Nat) => xs.getD v tU16.dflt) fun _ => []).goal, OS tOp 36 (.slice none 0 0) [], RdH (OpsF [] (indT 0 (fun (v : Nat) => xs.getD v tU16.dflt) fun _ => []).ops), Box p1 28 [.slice none 0 0, .slice none 0 0, .slice none 0 0, .slice none 0 0]] := (((hw1.nil (T := tOp) (e := 36)).nil (T := tFact) (e := 31)).nil (T := tInt) (e := 3)).nil (T := tInt) (e := 3)
  clear hw1
  refine vc_loop [6, 7, 8, 23, 24, 25, 26, 27, 28, 29, 30, 31, 32, 33, 34, 35, 36, 37, 38, 39, 40, 41, 42, 43, 44, 45, 46, 47, 48, 49, 50, 51, 52, 53, 54, 55, 56, 57, 58, 59, 60] (G := Nat × Value × Value × Value × Value × List OpV) (fun x => [(23, .int .i64 x.1), (6, .int .i64 (sumV (fun (v : Nat) => xs.getD v tU16.dflt) x.1))]) (fun x w => x.1 ≤ xs.length ∧ x.2.2.2.2.2.length = x.1 ∧ match x with | (k, sv, iv, gv, ov, vs) => Sat w0 w [OS tInt 3 sv (indT k (fun (v : Nat) => xs.getD v tU16.dflt) fun _ => []).vars, OS tInt 3 iv (indT k (fun (v : Nat) => xs.getD v tU16.dflt) fun _ => []).init, OS tFact 31 gv (indT k (fun (v : Nat) => xs.getD v tU16.dflt) fun _ => []).goal, OS tOp 36 ov vs, RdH (OpsF vs (indT k (fun (v : Nat) => xs.getD v tU16.dflt) fun _ => []).ops), Box p1 28 [sv, iv, gv, ov]]) (fun x => xs.length - x.1) (0, .slice none 0 0, .slice none 0 0, .slice none 0 0, .slice none 0 0, []) (fun _ => rfl) ⟨rfl, rfl, trivial⟩ ⟨Nat.zero_le _, rfl, hw2⟩ ?_
  clear hw2
  rintro σ ⟨k, sv, iv, gv, ov, vs⟩ w ⟨hk, hvl, hw⟩
  simp only at hk hvl hw
  have hl1 : (indT k (fun (v : Nat) => xs.getD v tU16.dflt) fun _ => []).vars.length = k := by simp [indT]
  have hl2 : (indT k (fun (v : Nat) => xs.getD v tU16.dflt) fun _ => []).init.length = k := by simp [indT]
  have hl3 : (indT k (fun (v : Nat) => xs.getD v tU16.dflt) fun _ => []).goal.length = k := by simp [indT]
  have hsb := sums_bd (f := (fun (v : Nat) => xs.getD v tU16.dflt)) (n := k) fun j hj => hcr j (by omega)
  repeat (first | refine go_run ?_ | (refine go_newP ?_; clear hw; intro p w hw) | (refine go_newW ?_; clear hw; intro w hw) | (refine go_newS ?_; clear hw; intro s w hw))
  refine go_if (fun h1 => ?_) (fun h1 => ?_)
  · have hkl : k < xs.length := by omega
    have hck := hcr k hkl
    simp only at hck
    repeat (first | refine go_run ?_ | (refine go_newP ?_; clear hw; intro p w hw) | (refine go_newWr ?_; clear hw; intro w hw) | (refine go_newS ?_; clear hw; intro s w hw))
    refine vc_cut [28, 29, 30, 31, 32, 33, 34, 35, 36, 37, 38, 39, 40, 41, 42, 43, 44] (G := Value × Value × Value) (fun _ => []) (fun g w => Sat w0 w [OS tInt 3 g.1 ((indT k (fun (v : Nat) => xs.getD v tU16.dflt) fun _ => []).vars ++ [2]), OS tInt 3 g.2.1 ((indT k (fun (v : Nat) => xs.getD v tU16.dflt) fun _ => []).init ++ [0]), OS tFact 31 g.2.2 ((indT k (fun (v : Nat) => xs.getD v tU16.dflt) fun _ => []).goal ++ [⟨(k : Int), 1⟩]), OS tOp 36 ov vs, RdH (OpsF vs (indT k (fun (v : Nat) => xs.getD v tU16.dflt) fun _ => []).ops), Box p1 28 [g.1, g.2.1, g.2.2, ov]]) (fun _ => rfl) ?_ ?_
    · refine vc_tree (.step 0 [.op 0] (.step 4 [.op 4] (.step 8 [.op 8] (.step 10 [.op 10] (.step 1 [.op 1] (.step 5 [.op 5] (.step 9 [.op 9] (.alt 2 [.op 2, .chk 1, .chk 5, .chk 9] (.alt 3 [.op 3, .chk 5, .chk 9] (.step 14 [.op 14] (.alt 6 [.op 6, .chk 1, .chk 5, .chk 9] (.alt 7 [.op 7, .chk 9] (.step 11 [.op 11, .chk 1, .chk 5, .chk 9] (.step 12 [.op 12, .chk 1, .chk 5, .chk 9] (.step 13 [.op 13] (.step 15 [.op 15] (.step 16 [.op 16] (.step 17 [.op 17] (.step 18 [.op 18] (.step 19 [.op 19] (.lin []))))))))) (.alt 11 [.op 11, .chk 1, .chk 5, .chk 9] (.alt 7 [.op 7, .chk 9] (.step 12 [.op 12, .chk 1, .chk 5, .chk 9] (.step 13 [.op 13] (.step 15 [.op 15] (.step 16 [.op 16] (.step 17 [.op 17] (.step 18 [.op 18] (.step 19 [.op 19] (.lin [])))))))) (.alt 12 [.op 12, .chk 1, .chk 5, .chk 9] (.step 7 [.op 7, .chk 9] (.step 13 [.op 13] (.step 15 [.op 15] (.step 16 [.op 16] (.step 17 [.op 17] (.step 18 [.op 18] (.step 19 [.op 19] (.lin [])))))))) (.stop))) (.stop))) (.alt 11 [.op 11, .chk 1, .chk 5, .chk 9] (.alt 6 [.op 6, .chk 1, .chk 5, .chk 9] (.alt 7 [.op 7, .chk 9] (.step 12 [.op 12, .chk 1, .chk 5, .chk 9] (.step 13 [.op 13] (.step 15 [.op 15] (.step 16 [.op 16] (.step 17 [.op 17] (.step 18 [.op 18] (.step 19 [.op 19] (.lin [])))))))) (.alt 12 [.op 12, .chk 1, .chk 5, .chk 9] (.step 7 [.op 7, .chk 9] (.step 13 [.op 13] (.step 15 [.op 15] (.step 16 [.op 16] (.step 17 [.op 17] (.step 18 [.op 18] (.step 19 [.op 19] (.lin [])))))))) (.stop))) (.alt 12 [.op 12, .chk 1, .chk 5, .chk 9] (.step 6 [.op 6, .chk 1, .chk 5, .chk 9] (.step 7 [.op 7, .chk 9] (.step 13 [.op 13] (.step 15 [.op 15] (.step 16 [.op 16] (.step 17 [.op 17] (.step 18 [.op 18] (.step 19 [.op 19] (.lin []))))))))) (.stop))) (.stop)))) (.alt 6 [.op 6, .chk 1, .chk 5, .chk 9] (.alt 3 [.op 3, .chk 5, .chk 9] (.step 14 [.op 14] (.alt 7 [.op 7, .chk 9] (.step 11 [.op 11, .chk 1, .chk 5, .chk 9] (.step 12 [.op 12, .chk 1, .chk 5, .chk 9] (.step 13 [.op 13] (.step 15 [.op 15] (.step 16 [.op 16] (.step 17 [.op 17] (.step 18 [.op 18] (.step 19 [.op 19] (.lin []))))))))) (.alt 11 [.op 11, .chk 1, .chk 5, .chk 9] (.alt 7 [.op 7, .chk 9] (.step 12 [.op 12, .chk 1, .chk 5, .chk 9] (.step 13 [.op 13] (.step 15 [.op 15] (.step 16 [.op 16] (.step 17 [.op 17] (.step 18 [.op 18] (.step 19 [.op 19] (.lin [])))))))) (.alt 12 [.op 12, .chk 1, .chk 5, .chk 9] (.step 7 [.op 7, .chk 9] (.step 13 [.op 13] (.step 15 [.op 15] (.step 16 [.op 16] (.step 17 [.op 17] (.step 18 [.op 18] (.step 19 [.op 19] (.lin [])))))))) (.stop))) (.stop)))) (.alt 11 [.op 11, .chk 1, .chk 5, .chk 9] (.alt 3 [.op 3, .chk 5, .chk 9] (.step 14 [.op 14] (.alt 7 [.op 7, .chk 9] (.step 12 [.op 12, .chk 1, .chk 5, .chk 9] (.step 13 [.op 13] (.step 15 [.op 15] (.step 16 [.op 16] (.step 17 [.op 17] (.step 18 [.op 18] (.step 19 [.op 19] (.lin [])))))))) (.alt 12 [.op 12, .chk 1, .chk 5, .chk 9] (.step 7 [.op 7, .chk 9] (.step 13 [.op 13] (.step 15 [.op 15] (.step 16 [.op 16] (.step 17 [.op 17] (.step 18 [.op 18] (.step 19 [.op 19] (.lin [])))))))) (.stop)))) (.alt 12 [.op 12, .chk 1, .chk 5, .chk 9] (.step 3 [.op 3, .chk 5, .chk 9] (.step 14 [.op 14] (.step 7 [.op 7, .chk 9] (.step 13 [.op 13] (.step 15 [.op 15] (.step 16 [.op 16] (.step 17 [.op 17] (.step 18 [.op 18] (.step 19 [.op 19] (.lin [])))))))))) (.stop))) (.stop))) (.alt 11 [.op 11, .chk 1, .chk 5, .chk 9] (.alt 3 [.op 3, .chk 5, .chk 9] (.step 14 [.op 14] (.alt 6 [.op 6, .chk 1, .chk 5, .chk 9] (.alt 7 [.op 7, .chk 9] (.step 12 [.op 12, .chk 1, .chk 5, .chk 9] (.step 13 [.op 13] (.step 15 [.op 15] (.step 16 [.op 16] (.step 17 [.op 17] (.step 18 [.op 18] (.step 19 [.op 19] (.lin [])))))))) (.alt 12 [.op 12, .chk 1, .chk 5, .chk 9] (.step 7 [.op 7, .chk 9] (.step 13 [.op 13] (.step 15 [.op 15] (.step 16 [.op 16] (.step 17 [.op 17] (.step 18 [.op 18] (.step 19 [.op 19] (.lin [])))))))) (.stop))) (.alt 12 [.op 12, .chk 1, .chk 5, .chk 9] (.step 6 [.op 6, .chk 1, .chk 5, .chk 9] (.step 7 [.op 7, .chk 9] (.step 13 [.op 13] (.step 15 [.op 15] (.step 16 [.op 16] (.step 17 [.op 17] (.step 18 [.op 18] (.step 19 [.op 19] (.lin []))))))))) (.stop)))) (.alt 6 [.op 6, .chk 1, .chk 5, .chk 9] (.alt 3 [.op 3, .chk 5, .chk 9] (.step 14 [.op 14] (.alt 7 [.op 7, .chk 9] (.step 12 [.op 12, .chk 1, .chk 5, .chk 9] (.step 13 [.op 13] (.step 15 [.op 15] (.step 16 [.op 16] (.step 17 [.op 17] (.step 18 [.op 18] (.step 19 [.op 19] (.lin [])))))))) (.alt 12 [.op 12, .chk 1, .chk 5, .chk 9] (.step 7 [.op 7, .chk 9] (.step 13 [.op 13] (.step 15 [.op 15] (.step 16 [.op 16] (.step 17 [.op 17] (.step 18 [.op 18] (.step 19 [.op 19] (.lin [])))))))) (.stop)))) (.alt 12 [.op 12, .chk 1, .chk 5, .chk 9] (.step 3 [.op 3, .chk 5, .chk 9] (.step 14 [.op 14] (.step 7 [.op 7, .chk 9] (.step 13 [.op 13] (.step 15 [.op 15] (.step 16 [.op 16] (.step 17 [.op 17] (.step 18 [.op 18] (.step 19 [.op 19] (.lin [])))))))))) (.stop))) (.alt 12 [.op 12, .chk 1, .chk 5, .chk 9] (.alt 3 [.op 3, .chk 5, .chk 9] (.step 14 [.op 14] (.step 6 [.op 6, .chk 1, .chk 5, .chk 9] (.step 7 [.op 7, .chk 9] (.step 13 [.op 13] (.step 15 [.op 15] (.step 16 [.op 16] (.step 17 [.op 17] (.step 18 [.op 18] (.step 19 [.op 19] (.lin [])))))))))) (.alt 6 [.op 6, .chk 1, .chk 5, .chk 9] (.step 3 [.op 3, .chk 5, .chk 9] (.step 14 [.op 14] (.step 7 [.op 7, .chk 9] (.step 13 [.op 13] (.step 15 [.op 15] (.step 16 [.op 16] (.step 17 [.op 17] (.step 18 [.op 18] (.step 19 [.op 19] (.lin [])))))))))) (.stop))) (.stop)))) (.stop)))) (.alt 6 [.op 6, .chk 1, .chk 5, .chk 9] (.alt 2 [.op 2, .chk 1, .chk 5, .chk 9] (.alt 3 [.op 3, .chk 5, .chk 9] (.step 14 [.op 14] (.alt 7 [.op 7, .chk 9] (.step 11 [.op 11, .chk 1, .chk 5, .chk 9] (.step 12 [.op 12, .chk 1, .chk 5, .chk 9] (.step 13 [.op 13] (.step 15 [.op 15] (.step 16 [.op 16] (.step 17 [.op 17] (.step 18 [.op 18] (.step 19 [.op 19] (.lin []))))))))) (.alt 11 [.op 11, .chk 1, .chk 5, .chk 9] (.alt 7 [.op 7, .chk 9] (.step 12 [.op 12, .chk 1, .chk 5, .chk 9] (.step 13 [.op 13] (.step 15 [.op 15] (.step 16 [.op 16] (.step 17 [.op 17] (.step 18 [.op 18] (.step 19 [.op 19] (.lin [])))))))) (.alt 12 [.op 12, .chk 1, .chk 5, .chk 9] (.step 7 [.op 7, .chk 9] (.step 13 [.op 13] (.step 15 [.op 15] (.step 16 [.op 16] (.step 17 [.op 17] (.step 18 [.op 18] (.step 19 [.op 19] (.lin [])))))))) (.stop))) (.stop)))) (.alt 11 [.op 11, .chk 1, .chk 5, .chk 9] (.alt 3 [.op 3, .chk 5, .chk 9] (.step 14 [.op 14] (.alt 7 [.op 7, .chk 9] (.step 12 [.op 12, .chk 1, .chk 5, .chk 9] (.step 13 [.op 13] (.step 15 [.op 15] (.step 16 [.op 16] (.step 17 [.op 17] (.step 18 [.op 18] (.step 19 [.op 19] (.lin [])))))))) (.alt 12 [.op 12, .chk 1, .chk 5, .chk 9] (.step 7 [.op 7, .chk 9] (.step 13 [.op 13] (.step 15 [.op 15] (.step 16 [.op 16] (.step 17 [.op 17] (.step 18 [.op 18] (.step 19 [.op 19] (.lin [])))))))) (.stop)))) (.alt 12 [.op 12, .chk 1, .chk 5, .chk 9] (.step 3 [.op 3, .chk 5, .chk 9] (.step 14 [.op 14] (.step 7 [.op 7, .chk 9] (.step 13 [.op 13] (.step 15 [.op 15] (.step 16 [.op 16] (.step 17 [.op 17] (.step 18 [.op 18] (.step 19 [.op 19] (.lin [])))))))))) (.stop))) (.stop))) (.alt 11 [.op 11, .chk 1, .chk 5, .chk 9] (.alt 2 [.op 2, .chk 1, .chk 5, .chk 9] (.alt 3 [.op 3, .chk 5, .chk 9] (.step 14 [.op 14] (.alt 7 [.op 7, .chk 9] (.step 12 [.op 12, .chk 1, .chk 5, .chk 9] (.step 13 [.op 13] (.step 15 [.op 15] (.step 16 [.op 16] (.step 17 [.op 17] (.step 18 [.op 18] (.step 19 [.op 19] (.lin [])))))))) (.alt 12 [.op 12, .chk 1, .chk 5, .chk 9] (.step 7 [.op 7, .chk 9] (.step 13 [.op 13] (.step 15 [.op 15] (.step 16 [.op 16] (.step 17 [.op 17] (.step 18 [.op 18] (.step 19 [.op 19] (.lin [])))))))) (.stop)))) (.alt 12 [.op 12, .chk 1, .chk 5, .chk 9] (.step 3 [.op 3, .chk 5, .chk 9] (.step 14 [.op 14] (.step 7 [.op 7, .chk 9] (.step 13 [.op 13] (.step 15 [.op 15] (.step 16 [.op 16] (.step 17 [.op 17] (.step 18 [.op 18] (.step 19 [.op 19] (.lin [])))))))))) (.stop))) (.alt 12 [.op 12, .chk 1, .chk 5, .chk 9] (.step 2 [.op 2, .chk 1, .chk 5, .chk 9] (.step 3 [.op 3, .chk 5, .chk 9] (.step 14 [.op 14] (.step 7 [.op 7, .chk 9] (.step 13 [.op 13] (.step 15 [.op 15] (.step 16 [.op 16] (.step 17 [.op 17] (.step 18 [.op 18] (.step 19 [.op 19] (.lin []))))))))))) (.stop))) (.stop))) (.alt 11 [.op 11, .chk 1, .chk 5, .chk 9] (.alt 2 [.op 2, .chk 1, .chk 5, .chk 9] (.alt 3 [.op 3, .chk 5, .chk 9] (.step 14 [.op 14] (.alt 6 [.op 6, .chk 1, .chk 5, .chk 9] (.alt 7 [.op 7, .chk 9] (.step 12 [.op 12, .chk 1, .chk 5, .chk 9] (.step 13 [.op 13] (.step 15 [.op 15] (.step 16 [.op 16] (.step 17 [.op 17] (.step 18 [.op 18] (.step 19 [.op 19] (.lin [])))))))) (.alt 12 [.op 12, .chk 1, .chk 5, .chk 9] (.step 7 [.op 7, .chk 9] (.step 13 [.op 13] (.step 15 [.op 15] (.step 16 [.op 16] (.step 17 [.op 17] (.step 18 [.op 18] (.step 19 [.op 19] (.lin [])))))))) (.stop))) (.alt 12 [.op 12, .chk 1, .chk 5, .chk 9] (.step 6 [.op 6, .chk 1, .chk 5, .chk 9] (.step 7 [.op 7, .chk 9] (.step 13 [.op 13] (.step 15 [.op 15] (.step 16 [.op 16] (.step 17 [.op 17] (.step 18 [.op 18] (.step 19 [.op 19] (.lin []))))))))) (.stop)))) (.alt 6 [.op 6, .chk 1, .chk 5, .chk 9] (.alt 3 [.op 3, .chk 5, .chk 9] (.step 14 [.op 14] (.alt 7 [.op 7, .chk 9] (.step 12 [.op 12, .chk 1, .chk 5, .chk 9] (.step 13 [.op 13] (.step 15 [.op 15] (.step 16 [.op 16] (.step 17 [.op 17] (.step 18 [.op 18] (.step 19 [.op 19] (.lin [])))))))) (.alt 12 [.op 12, .chk 1, .chk 5, .chk 9] (.step 7 [.op 7, .chk 9] (.step 13 [.op 13] (.step 15 [.op 15] (.step 16 [.op 16] (.step 17 [.op 17] (.step 18 [.op 18] (.step 19 [.op 19] (.lin [])))))))) (.stop)))) (.alt 12 [.op 12, .chk 1, .chk 5, .chk 9] (.step 3 [.op 3, .chk 5, .chk 9] (.step 14 [.op 14] (.step 7 [.op 7, .chk 9] (.step 13 [.op 13] (.step 15 [.op 15] (.step 16 [.op 16] (.step 17 [.op 17] (.step 18 [.op 18] (.step 19 [.op 19] (.lin [])))))))))) (.stop))) (.alt 12 [.op 12, .chk 1, .chk 5, .chk 9] (.alt 3 [.op 3, .chk 5, .chk 9] (.step 14 [.op 14] (.step 6 [.op 6, .chk 1, .chk 5, .chk 9] (.step 7 [.op 7, .chk 9] (.step 13 [.op 13] (.step 15 [.op 15] (.step 16 [.op 16] (.step 17 [.op 17] (.step 18 [.op 18] (.step 19 [.op 19] (.lin [])))))))))) (.alt 6 [.op 6, .chk 1, .chk 5, .chk 9] (.step 3 [.op 3, .chk 5, .chk 9] (.step 14 [.op 14] (.step 7 [.op 7, .chk 9] (.step 13 [.op 13] (.step 15 [.op 15] (.step 16 [.op 16] (.step 17 [.op 17] (.step 18 [.op 18] (.step 19 [.op 19] (.lin [])))))))))) (.stop))) (.stop)))) (.alt 6 [.op 6, .chk 1, .chk 5, .chk 9] (.alt 2 [.op 2, .chk 1, .chk 5, .chk 9] (.alt 3 [.op 3, .chk 5, .chk 9] (.step 14 [.op 14] (.alt 7 [.op 7, .chk 9] (.step 12 [.op 12, .chk 1, .chk 5, .chk 9] (.step 13 [.op 13] (.step 15 [.op 15] (.step 16 [.op 16] (.step 17 [.op 17] (.step 18 [.op 18] (.step 19 [.op 19] (.lin [])))))))) (.alt 12 [.op 12, .chk 1, .chk 5, .chk 9] (.step 7 [.op 7, .chk 9] (.step 13 [.op 13] (.step 15 [.op 15] (.step 16 [.op 16] (.step 17 [.op 17] (.step 18 [.op 18] (.step 19 [.op 19] (.lin [])))))))) (.stop)))) (.alt 12 [.op 12, .chk 1, .chk 5, .chk 9] (.step 3 [.op 3, .chk 5, .chk 9] (.step 14 [.op 14] (.step 7 [.op 7, .chk 9] (.step 13 [.op 13] (.step 15 [.op 15] (.step 16 [.op 16] (.step 17 [.op 17] (.step 18 [.op 18] (.step 19 [.op 19] (.lin [])))))))))) (.stop))) (.alt 12 [.op 12, .chk 1, .chk 5, .chk 9] (.step 2 [.op 2, .chk 1, .chk 5, .chk 9] (.step 3 [.op 3, .chk 5, .chk 9] (.step 14 [.op 14] (.step 7 [.op 7, .chk 9] (.step 13 [.op 13] (.step 15 [.op 15] (.step 16 [.op 16] (.step 17 [.op 17] (.step 18 [.op 18] (.step 19 [.op 19] (.lin []))))))))))) (.stop))) (.alt 12 [.op 12, .chk 1, .chk 5, .chk 9] (.alt 2 [.op 2, .chk 1, .chk 5, .chk 9] (.alt 3 [.op 3, .chk 5, .chk 9] (.step 14 [.op 14] (.step 6 [.op 6, .chk 1, .chk 5, .chk 9] (.step 7 [.op 7, .chk 9] (.step 13 [.op 13] (.step 15 [.op 15] (.step 16 [.op 16] (.step 17 [.op 17] (.step 18 [.op 18] (.step 19 [.op 19] (.lin [])))))))))) (.alt 6 [.op 6, .chk 1, .chk 5, .chk 9] (.step 3 [.op 3, .chk 5, .chk 9] (.step 14 [.op 14] (.step 7 [.op 7, .chk 9] (.step 13 [.op 13] (.step 15 [.op 15] (.step 16 [.op 16] (.step 17 [.op 17] (.step 18 [.op 18] (.step 19 [.op 19] (.lin [])))))))))) (.stop))) (.alt 6 [.op 6, .chk 1, .chk 5, .chk 9] (.step 2 [.op 2, .chk 1, .chk 5, .chk 9] (.step 3 [.op 3, .chk 5, .chk 9] (.step 14 [.op 14] (.step 7 [.op 7, .chk 9] (.step 13 [.op 13] (.step 15 [.op 15] (.step 16 [.op 16] (.step 17 [.op 17] (.step 18 [.op 18] (.step 19 [.op 19] (.lin []))))))))))) (.stop))) (.stop)))) (.stop))))))))))) hw (by kernel_rfl) (by kernel_rfl) ?_; clear hw; intro w hw
      repeat' (first | refine go_run ?_ | (refine go_newWr ?_; clear hw; intro w hw) | (refine go_newS ?_; clear hw; intro s w hw) | (refine go_newW ?_; clear hw; intro w hw) | refine opsT_alt ?_ ?_ | exact opsT_stop | (refine st_buildSlice1 tFact (x1 := ⟨(k : Int), 1⟩) rfl rfl rfl (Nat.le_of_ble_eq_true rfl) (Nat.zero_lt_succ _) hw ?_; clear hw; intro s w hw))
      all_goals exact ⟨(_, _, _), trivial, by repeat (first | exact agree_refl | (apply agree_upd rfl) | (apply agree_mix rfl) | (apply agree_sets rfl)), hw.tail.tail.tail⟩
    clear hw
    rintro σ1 ⟨sv1, iv1, gv1⟩ w hw
    simp only at hw
    repeat (first | refine go_run ?_ | (refine go_newP ?_; clear hw; intro p w hw) | (refine go_newW ?_; clear hw; intro w hw) | (refine go_newS ?_; clear hw; intro s w hw))
    refine step_pure rfl (pv_conv (ks := .u16) (n := xs.getD k tU16.dflt) rfl (by omega) (by omega)) ?_
    repeat (first | refine go_run ?_ | (refine go_newP ?_; clear hw; intro p w hw) | (refine go_newW ?_; clear hw; intro w hw) | (refine go_newS ?_; clear hw; intro s w hw))
    refine st_buildSlice1 tEff (x1 := ⟨.slice none 0 0, k, 1⟩) rfl rfl rfl (Nat.le_of_ble_eq_true rfl) (Nat.zero_lt_succ _) hw ?_
    clear hw
    intro se w hw
    have oe := (hw.rs 0 rfl).one
    refine st_build2 (v1 := .int .i64 (xs.getD k tU16.dflt)) (v2 := se) rfl rfl rfl (by simp only [List.all_cons, List.all_nil, oe]; rfl) ?_
    refine st_buildSlice1 tOp (x1 := ⟨ByteArray.empty, xs.getD k tU16.dflt, .slice none 0 0, se⟩) rfl rfl rfl (Nat.le_of_ble_eq_true rfl) (Nat.zero_lt_succ _) hw ?_
    clear hw
    intro so w hw
    refine st_append (s := ov) (s2 := so) inferInstance rfl rfl (rsO hw) rfl rfl (fun x hx v hv => ?_) (by simp only [List.length_cons, List.length_nil]; omega) (by unfold big; simp only [List.length_cons, List.length_nil]; omega) hw ?_
    · rw [List.mem_singleton.1 hx] at hv
      simp only [tOp, List.mem_cons, List.not_mem_nil, or_false] at hv
      rcases hv with rfl | rfl | rfl | rfl
      · rfl
      · rfl
      · rfl
      · exact oe
    clear hw
    intro ov2 w hw
    repeat (first | refine go_run ?_ | (refine go_newP ?_; clear hw; intro p w hw) | (refine go_newW ?_; clear hw; intro w hw) | (refine go_newS ?_; clear hw; intro s w hw))
    refine step_pure rfl (pv_conv (ks := .u16) (n := xs.getD k tU16.dflt) rfl (by omega) (by omega)) ?_
    refine step_pure rfl (pv_add (a := sumV (fun (v : Nat) => xs.getD v tU16.dflt) k) (b := xs.getD k tU16.dflt) rfl rfl (by omega) (by omega)) ?_
    repeat (first | refine go_run ?_ | (refine go_newP ?_; clear hw; intro p w hw) | (refine go_newW ?_; clear hw; intro w hw) | (refine go_newS ?_; clear hw; intro s w hw))
    have hw1 : Sat w0 w [OS tEff 33 se [⟨.slice none 0 0, k, 1⟩], RdH (OpsF vs (indT k (fun (v : Nat) => xs.getD v tU16.dflt) fun _ => []).ops), OS tInt 3 sv1 ((indT k (fun (v : Nat) => xs.getD v tU16.dflt) fun _ => []).vars ++ [2]), OS tInt 3 iv1 ((indT k (fun (v : Nat) => xs.getD v tU16.dflt) fun _ => []).init ++ [0]), OS tFact 31 gv1 ((indT k (fun (v : Nat) => xs.getD v tU16.dflt) fun _ => []).goal ++ [⟨(k : Int), 1⟩]), OS tOp 36 ov2 (vs ++ [⟨ByteArray.empty, xs.getD k tU16.dflt, .slice none 0 0, se⟩]), Box p1 28 [sv1, iv1, gv1, ov2]] := by
      have hw2 : Sat w0 w [OS tOp 36 so [⟨ByteArray.empty, xs.getD k tU16.dflt, .slice none 0 0, se⟩], OS tEff 33 se [⟨.slice none 0 0, k, 1⟩], OS tInt 3 sv1 ((indT k (fun (v : Nat) => xs.getD v tU16.dflt) fun _ => []).vars ++ [2]), OS tInt 3 iv1 ((indT k (fun (v : Nat) => xs.getD v tU16.dflt) fun _ => []).init ++ [0]), OS tFact 31 gv1 ((indT k (fun (v : Nat) => xs.getD v tU16.dflt) fun _ => []).goal ++ [⟨(k : Int), 1⟩]), OS tOp 36 ov2 (vs ++ [⟨ByteArray.empty, xs.getD k tU16.dflt, .slice none 0 0, se⟩]), RdH (OpsF vs (indT k (fun (v : Nat) => xs.getD v tU16.dflt) fun _ => []).ops), Box p1 28 [sv1, iv1, gv1, ov2]] := hw
      exact hw2.sel
    clear hw
    have hw3 := Sat.rd2 (χ := OpsF (vs ++ [⟨ByteArray.empty, xs.getD k tU16.dflt, .slice none 0 0, se⟩]) (indT (k + 1) (fun (v : Nat) => xs.getD v tU16.dflt) fun _ => []).ops) (fun w h1 h2 => by rw [indT_succ_ops]; exact h2.snoc h1) (Sat.rd (φ := fun w => ROp w ⟨ByteArray.empty, xs.getD k tU16.dflt, .slice none 0 0, se⟩ ⟨ByteArray.empty, xs.getD k tU16.dflt, [], [⟨[], k, 1⟩]⟩) (Δ := [OS tEff 33 se [⟨.slice none 0 0, k, 1⟩]]) (fun _ _ hw => rop_ind0 hw) hw1)
    rw [← indT_succ_vars, ← indT_succ_init, ← indT_succ_goal] at hw3
    have hw4 : Sat w0 w [OS tInt 3 sv1 (indT (k + 1) (fun (v : Nat) => xs.getD v tU16.dflt) fun _ => []).vars, OS tInt 3 iv1 (indT (k + 1) (fun (v : Nat) => xs.getD v tU16.dflt) fun _ => []).init, OS tFact 31 gv1 (indT (k + 1) (fun (v : Nat) => xs.getD v tU16.dflt) fun _ => []).goal, OS tOp 36 ov2 (vs ++ [⟨ByteArray.empty, xs.getD k tU16.dflt, .slice none 0 0, se⟩]), RdH (OpsF (vs ++ [⟨ByteArray.empty, xs.getD k tU16.dflt, .slice none 0 0, se⟩]) (indT (k + 1) (fun (v : Nat) => xs.getD v tU16.dflt) fun _ => []).ops), Box p1 28 [sv1, iv1, gv1, ov2]] := hw3.sel
    exact ⟨(k + 1, sv1, iv1, gv1, ov2, vs ++ [⟨ByteArray.empty, xs.getD k tU16.dflt, .slice none 0 0, se⟩]), ⟨rfl, by simp only [sumV_succ]; rfl, trivial⟩, by repeat (first | exact agree_refl | (apply agree_upd rfl) | (apply agree_mix rfl) | (apply agree_sets rfl)), ⟨by simp only; omega, by simp [hvl], hw4⟩, by simp only; omega⟩
  have hke : k = xs.length := by omega
  subst hke
  have h6 : xs.length ≤ 6 := by omega
  have hI : Ind (indT xs.length (fun (v : Nat) => xs.getD v tU16.dflt) fun _ => []) := indT_ok (by omega) (fun v hv => by have := hcr v hv; simp only at this; omega) fun _ _ => .inl rfl
  have hn12 : (indT xs.length (fun (v : Nat) => xs.getD v tU16.dflt) fun _ => []).vars.length ≤ 12 := by rw [indT_vars]; omega
  have hsys := indT_sys hI size
  have hpo := indT_pats hI h6
  have hin : StateOk (indT xs.length (fun (v : Nat) => xs.getD v tU16.dflt) fun _ => []).vars (indT xs.length (fun (v : Nat) => xs.getD v tU16.dflt) fun _ => []).init := hI.good.init
  have hval : ∀ Ds Cs, CanOk (indT xs.length (fun (v : Nat) => xs.getD v tU16.dflt) fun _ => []) (singles xs.length) Ds Cs → canW (indT xs.length (fun (v : Nat) => xs.getD v tU16.dflt) fun _ => []) (singles xs.length) Ds Cs (indT xs.length (fun (v : Nat) => xs.getD v tU16.dflt) fun _ => []).init = sumV (fun (v : Nat) => xs.getD v tU16.dflt) xs.length := fun Ds Cs hC => by
    rw [canW_ok hin, indT_val hI hC hin]
    exact sumV_congr fun v hv => by
      have e : sg (indT xs.length (fun (v : Nat) => xs.getD v tU16.dflt) fun _ => []).init (v : Int) = 0 := by rw [sg_of]; exact rep_at hv
      rw [if_pos e]
  generalize (indT xs.length (fun (v : Nat) => xs.getD v tU16.dflt) fun _ => []) = TT at hw hI hn12 hsys hpo hin hval
  have hg := hI.good
  have hRT : ∀ w, Sat w0 w [OS tInt 3 sv TT.vars, OS tInt 3 iv TT.init, OS tFact 31 gv TT.goal, OS tOp 36 ov vs, RdH (OpsF vs TT.ops), Box p1 28 [sv, iv, gv, ov]] → RTask w sv iv gv ov vs TT := fun w h => ⟨h.rs 0 rfl, h.rs 1 rfl, h.rs 2 rfl, ⟨h.rs 3 rfl, (h.rdE 4 rfl).1, (h.rdE 4 rfl).2⟩⟩
  repeat (first | refine go_run ?_ | (refine go_newP ?_; clear hw; intro p w hw) | (refine go_newW ?_; clear hw; intro w hw) | (refine go_newS ?_; clear hw; intro s w hw))
  refine st_call rfl (Systematic_spec (size := size) (hRT _ hw) hg hn12) ?_
  rintro _ w' ⟨lv, ls, rfl, hk'⟩
  replace hw := hw.call2 hk'
  clear hk'
  rw [hsys] at hw
  refine ⟨_, rfl, ?_⟩
  repeat (first | refine go_run ?_ | (refine go_newP ?_; clear hw; intro p w hw) | (refine go_newW ?_; clear hw; intro w hw) | (refine go_newS ?_; clear hw; intro s w hw))
  refine st_call rfl (paNew_ok (s := lv) (ss := ls) (Ls := singles xs.length) (hRT _ hw.tail.tail) ⟨hw.rs 1 rfl, hw.rowsLen, fun i hi => hw.row hi⟩ (hT.at hw) hpo) ?_
  rintro _ w' ⟨pc, Ds, Cs, rfl, hC, hk'⟩
  replace hw := hw.call1 hk'
  clear hk'
  refine ⟨_, rfl, ?_⟩
  have hsl := hw.tail.rowsLen
  rw [singles_len] at hsl
  have hd2 : decide ((ls.length : Int) = xs.length) = true := decide_eq_true (by omega)
  repeat (first | refine go_run ?_ | (refine go_newP ?_; clear hw; intro p w hw) | (refine go_newWr ?_; clear hw; intro w hw) | (refine go_newS ?_; clear hw; intro s w hw))
  simp only [hd2, beq_self_eq_true, beq_tfS, beq_ftS, Bool.false_and, Bool.true_and, Bool.not_true, Bool.not_false, Bool.cond_true, Bool.cond_false, gv_fS, gv_tS]
  repeat (first | refine go_run ?_ | (refine go_newP ?_; clear hw; intro p w hw) | (refine go_newWr ?_; clear hw; intro w hw) | (refine go_newS ?_; clear hw; intro s w hw))
  refine st_call rfl (CValue_ok (p := pc) (sv := iv) (s := TT.init) (hw.rdE 0 rfl) hC (rsO (s := iv) hw)) ?_
  rintro _ w' ⟨rfl, hk'⟩
  replace hw := hw.call0 hk'
  clear hk'
  rw [hval _ _ hC]
  refine ⟨_, rfl, ?_⟩
  repeat (first | refine go_run ?_ | (refine go_newP ?_; clear hw; intro p w hw) | (refine go_newWr ?_; clear hw; intro w hw) | (refine go_newS ?_; clear hw; intro s w hw))
  simp only [decide_true, beq_self_eq_true, beq_tfS, beq_ftS, Bool.false_and, Bool.true_and, Bool.not_true, Bool.not_false, Bool.cond_true, Bool.cond_false, gv_fS, gv_tS]
  exact res_one (v := .bool true) rfl rfl ⟨rfl, sat_none hw⟩
end Go.Proofs.YtemnlcnjpjdoaaaDoor
