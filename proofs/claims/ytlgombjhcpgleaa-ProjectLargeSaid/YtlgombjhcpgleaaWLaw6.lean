/-
  The statement 'ProjectLarge' returns true.
-/
import Derived.Test.YtlgombjhcpgleaaTLarge
import Derived.Test.YtlgombjhcpgleaaSlNum
namespace Go.Proofs.Ytlgombjhcpgleaa
open Go.Sl Go
attribute [local irreducible] vc opsW opsD opV opW PureV ReadV Thn Blk

instance : IntT Try.prog 5 .u8 := ⟨by kernel_rfl⟩
instance : IntT Try.prog 3 .i64 := ⟨by kernel_rfl⟩
theorem rep_succ {α : Type} (n : Nat) (x : α) : List.replicate n x ++ [x] = List.replicate (n + 1) x := List.replicate_succ'.symm
theorem lgVars_succ (n m : Nat) (k : Int) : lgVars n m k ++ [16] = lgVars n (m + 1) k := by simp [lgVars, List.replicate_succ']
theorem lgVars_zero (n : Nat) (k : Int) : lgVars n 0 k = List.replicate n k := by simp [lgVars]

theorem pow16 {i : Nat} (h : i ≤ 4) : 0 ≤ (16 : Int) ^ i ∧ (16 : Int) ^ i ≤ 65536 := by
  have : i = 0 ∨ i = 1 ∨ i = 2 ∨ i = 3 ∨ i = 4 := by omega
  rcases this with rfl | rfl | rfl | rfl | rfl <;> decide
theorem powk {k : Int} (h1 : 1 ≤ k) (h2 : k ≤ 64) : ∀ {i : Nat}, i ≤ 4 → 1 ≤ k ^ i ∧ k ^ i ≤ 16777216 := by
  have key : ∀ i : Nat, 1 ≤ k ^ i ∧ k ^ i ≤ 64 ^ i := by
    intro i
    induction i with
    | zero => simp
    | succ i ih =>
      rw [Int.pow_succ, Int.pow_succ]
      have a := Int.mul_le_mul ih.1 h1 (by omega) (by omega)
      have b := Int.mul_le_mul ih.2 h2 (by omega) (by omega)
      exact ⟨by omega, b⟩
  intro i hi
  have h64 : (64 : Int) ^ i ≤ 16777216 := by
    have : i = 0 ∨ i = 1 ∨ i = 2 ∨ i = 3 ∨ i = 4 := by omega
    rcases this with rfl | rfl | rfl | rfl | rfl <;> decide
  have := key i
  omega

set_option maxRecDepth 8000 in
set_option maxHeartbeats 4000000 in
theorem ProjectLarge_walk {w0 : World} {x y z : Int} (hx : 0 ≤ x ∧ x ≤ 255) (hy : 0 ≤ y ∧ y ≤ 255) (hz : 0 ≤ z ∧ z ≤ 255) :
    Calls Try.prog 8 #[.int .u8 x, .int .u8 y, .int .u8 z] w0 fun e w' => e = .returned (.bool true) ∧ Sat w0 w' [] := by
  have hw := Sat.start w0
  refine calls_of_vc (args := [.int .u8 x, .int .u8 y, .int .u8 z]) mixed Try.func8 rfl (by kernel_rfl) (Nat.le_of_ble_eq_true rfl) ?_
  repeat (first | refine go_run ?_ | (refine go_newP ?_; clear hw; intro p w hw) | (refine go_newW ?_; clear hw; intro w hw) | (refine go_newS ?_; clear hw; intro s w hw))
  refine st_call rfl awake_spec ?_
  rintro _ w' ⟨rfl, hk'⟩
  replace hw := hw.call0 hk'
  clear hk'
  refine ⟨_, rfl, ?_⟩
  have x1 := Int.tmod_nonneg 4 hx.1
  have x2 := Int.tmod_lt_of_pos x (show (0 : Int) < 4 by decide)
  have y1 := Int.tmod_nonneg 64 hy.1
  have y2 := Int.tmod_lt_of_pos y (show (0 : Int) < 64 by decide)
  have z1 := Int.tmod_nonneg 5 hz.1
  have z2 := Int.tmod_lt_of_pos z (show (0 : Int) < 5 by decide)
  repeat (first | refine go_run ?_ | (refine go_newP ?_; clear hw; intro p w hw) | (refine go_newW ?_; clear hw; intro w hw) | (refine go_newS ?_; clear hw; intro s w hw))
  refine step_pure rfl (pv_conv (n := x) rfl (by omega) (by omega)) ?_
  repeat (first | refine go_run ?_ | (refine go_newP ?_; clear hw; intro p w hw) | (refine go_newW ?_; clear hw; intro w hw) | (refine go_newS ?_; clear hw; intro s w hw))
  refine step_pure rfl (pv_conv (n := y) rfl (by omega) (by omega)) ?_
  repeat (first | refine go_run ?_ | (refine go_newP ?_; clear hw; intro p w hw) | (refine go_newW ?_; clear hw; intro w hw) | (refine go_newS ?_; clear hw; intro s w hw))
  refine step_pure rfl (pv_conv (n := z) rfl (by omega) (by omega)) ?_
  obtain ⟨n, hn⟩ : ∃ n : Nat, (n : Int) = x.tmod 4 + 1 := ⟨(x.tmod 4 + 1).toNat, by omega⟩
  obtain ⟨k, hk⟩ : ∃ k : Int, k = y.tmod 64 + 1 := ⟨_, rfl⟩
  obtain ⟨m, hm⟩ : ∃ m : Nat, (m : Int) = z.tmod 5 := ⟨(z.tmod 5).toNat, by omega⟩
  rw [← hn, ← hk]
  repeat (first | refine go_run ?_ | (refine go_newP ?_; clear hw; intro p w hw) | (refine go_newWr ?_; clear hw; intro w hw) | (refine go_newS ?_; clear hw; intro s w hw))
  rw [← hm]
  obtain ⟨pt, hpt⟩ : ∃ pt, pt = p := ⟨p, rfl⟩
  subst hpt
  have hn1 : 1 ≤ n := by omega
  have hn4 : n ≤ 4 := by omega
  have hm4 : m ≤ 4 := by omega
  have hk1 : 1 ≤ k := by omega
  have hk2 : k ≤ 64 := by omega
  have hg := lg_good (m := m) hn1 hn4 hm4 hk1 hk2
  have hL := lg_inV n m k
  repeat (first | refine go_run ?_ | (refine go_newP ?_; clear hw; intro p w hw) | (refine go_newW ?_; clear hw; intro w hw) | (refine go_newS ?_; clear hw; intro s w hw))
  have hw1 := ((hw.nil (T := tInt) (e := 3)).nil (T := tInt) (e := 3)).nil (T := tInt) (e := 3)
  clear hw
  refine vc_loop4 [11, 12, 35, 36, 37, 38, 39, 40, 41, 42, 43, 44, 45, 46, 47, 48, 49, 50, 51, 52, 53] (G := Nat) (H := Value) (I := Value) (M := Value) (fun j pv _ _ => [(35, .int .i64 j), (11, pv)]) (fun j pv iv vv w => j ≤ n ∧ Sat w0 w [OS tInt 3 pv (upTo (j : Int)), OS tInt 3 iv (List.replicate j 0), OS tInt 3 vv (List.replicate j k), Box pt 26 [vv, iv, .slice none 0 0, .slice none 0 0]]) (fun j _ _ _ => n - j) 0 (.slice none 0 0) (.slice none 0 0) (.slice none 0 0) (fun _ _ _ _ => rfl) ⟨rfl, rfl, trivial⟩ ⟨Nat.zero_le _, hw1⟩ ?_
  clear hw1
  rintro σ j pv iv vv w ⟨hj, hw⟩
  repeat (first | refine go_run ?_ | (refine go_newP ?_; clear hw; intro p w hw) | (refine go_newW ?_; clear hw; intro w hw) | (refine go_newS ?_; clear hw; intro s w hw))
  refine go_if (fun h1 => ?_) (fun h1 => ?_)
  · have hul := upTo_len (j : Int)
    have hrl : (List.replicate j (0 : Int)).length = j := List.length_replicate
    have hrl2 : (List.replicate j k).length = j := List.length_replicate
    repeat (first | refine go_run ?_ | (refine go_newP ?_; clear hw; intro p w hw) | (refine go_newWr ?_; clear hw; intro w hw) | (refine go_newS ?_; clear hw; intro s w hw))
    refine vc_tree (.step 0 [.op 0] (.step 2 [.op 2] (.step 5 [.op 5] (.step 9 [.op 9] (.step 10 [.op 10] (.step 1 [.op 1] (.step 6 [.op 6] (.alt 3 [.op 3, .chk 1, .chk 6] (.alt 4 [.op 4, .chk 6] (.step 13 [.op 13] (.alt 7 [.op 7, .chk 1, .chk 6] (.alt 8 [.op 8] (.step 11 [.op 11, .chk 1, .chk 6] (.step 12 [.op 12] (.step 14 [.op 14] (.step 15 [.op 15] (.step 16 [.op 16] (.step 17 [.op 17] (.lin []))))))) (.alt 11 [.op 11, .chk 1, .chk 6] (.step 8 [.op 8] (.step 12 [.op 12] (.step 14 [.op 14] (.step 15 [.op 15] (.step 16 [.op 16] (.step 17 [.op 17] (.lin []))))))) (.stop))) (.alt 11 [.op 11, .chk 1, .chk 6] (.step 7 [.op 7, .chk 1, .chk 6] (.step 8 [.op 8] (.step 12 [.op 12] (.step 14 [.op 14] (.step 15 [.op 15] (.step 16 [.op 16] (.step 17 [.op 17] (.lin [])))))))) (.stop)))) (.alt 7 [.op 7, .chk 1, .chk 6] (.alt 4 [.op 4, .chk 6] (.step 13 [.op 13] (.alt 8 [.op 8] (.step 11 [.op 11, .chk 1, .chk 6] (.step 12 [.op 12] (.step 14 [.op 14] (.step 15 [.op 15] (.step 16 [.op 16] (.step 17 [.op 17] (.lin []))))))) (.alt 11 [.op 11, .chk 1, .chk 6] (.step 8 [.op 8] (.step 12 [.op 12] (.step 14 [.op 14] (.step 15 [.op 15] (.step 16 [.op 16] (.step 17 [.op 17] (.lin []))))))) (.stop)))) (.alt 11 [.op 11, .chk 1, .chk 6] (.step 4 [.op 4, .chk 6] (.step 13 [.op 13] (.step 8 [.op 8] (.step 12 [.op 12] (.step 14 [.op 14] (.step 15 [.op 15] (.step 16 [.op 16] (.step 17 [.op 17] (.lin []))))))))) (.stop))) (.alt 11 [.op 11, .chk 1, .chk 6] (.alt 4 [.op 4, .chk 6] (.step 13 [.op 13] (.step 7 [.op 7, .chk 1, .chk 6] (.step 8 [.op 8] (.step 12 [.op 12] (.step 14 [.op 14] (.step 15 [.op 15] (.step 16 [.op 16] (.step 17 [.op 17] (.lin []))))))))) (.alt 7 [.op 7, .chk 1, .chk 6] (.step 4 [.op 4, .chk 6] (.step 13 [.op 13] (.step 8 [.op 8] (.step 12 [.op 12] (.step 14 [.op 14] (.step 15 [.op 15] (.step 16 [.op 16] (.step 17 [.op 17] (.lin []))))))))) (.stop))) (.stop)))) (.alt 7 [.op 7, .chk 1, .chk 6] (.alt 3 [.op 3, .chk 1, .chk 6] (.alt 4 [.op 4, .chk 6] (.step 13 [.op 13] (.alt 8 [.op 8] (.step 11 [.op 11, .chk 1, .chk 6] (.step 12 [.op 12] (.step 14 [.op 14] (.step 15 [.op 15] (.step 16 [.op 16] (.step 17 [.op 17] (.lin []))))))) (.alt 11 [.op 11, .chk 1, .chk 6] (.step 8 [.op 8] (.step 12 [.op 12] (.step 14 [.op 14] (.step 15 [.op 15] (.step 16 [.op 16] (.step 17 [.op 17] (.lin []))))))) (.stop)))) (.alt 11 [.op 11, .chk 1, .chk 6] (.step 4 [.op 4, .chk 6] (.step 13 [.op 13] (.step 8 [.op 8] (.step 12 [.op 12] (.step 14 [.op 14] (.step 15 [.op 15] (.step 16 [.op 16] (.step 17 [.op 17] (.lin []))))))))) (.stop))) (.alt 11 [.op 11, .chk 1, .chk 6] (.step 3 [.op 3, .chk 1, .chk 6] (.step 4 [.op 4, .chk 6] (.step 13 [.op 13] (.step 8 [.op 8] (.step 12 [.op 12] (.step 14 [.op 14] (.step 15 [.op 15] (.step 16 [.op 16] (.step 17 [.op 17] (.lin [])))))))))) (.stop))) (.alt 11 [.op 11, .chk 1, .chk 6] (.alt 3 [.op 3, .chk 1, .chk 6] (.alt 4 [.op 4, .chk 6] (.step 13 [.op 13] (.step 7 [.op 7, .chk 1, .chk 6] (.step 8 [.op 8] (.step 12 [.op 12] (.step 14 [.op 14] (.step 15 [.op 15] (.step 16 [.op 16] (.step 17 [.op 17] (.lin []))))))))) (.alt 7 [.op 7, .chk 1, .chk 6] (.step 4 [.op 4, .chk 6] (.step 13 [.op 13] (.step 8 [.op 8] (.step 12 [.op 12] (.step 14 [.op 14] (.step 15 [.op 15] (.step 16 [.op 16] (.step 17 [.op 17] (.lin []))))))))) (.stop))) (.alt 7 [.op 7, .chk 1, .chk 6] (.step 3 [.op 3, .chk 1, .chk 6] (.step 4 [.op 4, .chk 6] (.step 13 [.op 13] (.step 8 [.op 8] (.step 12 [.op 12] (.step 14 [.op 14] (.step 15 [.op 15] (.step 16 [.op 16] (.step 17 [.op 17] (.lin [])))))))))) (.stop))) (.stop))))))))))) hw (by kernel_rfl) (by kernel_rfl) ?_; clear hw; intro w hw
    repeat' (first | refine go_run ?_ | (refine go_newWr ?_; clear hw; intro w hw) | (refine go_newS ?_; clear hw; intro s w hw) | refine opsT_alt ?_ ?_ | exact opsT_stop)
    all_goals (rw [← upTo_succ, rep_succ, rep_succ] at hw; exact ⟨j + 1, _, _, _, ⟨rfl, rfl, trivial⟩, by repeat (first | exact agree_refl | (apply agree_upd rfl) | (apply agree_mix rfl) | (apply agree_sets rfl)), ⟨by omega, hw.tail.tail.tail⟩, by omega⟩)
  have hje : j = n := by omega
  subst hje
  repeat (first | refine go_run ?_ | (refine go_newP ?_; clear hw; intro p w hw) | (refine go_newW ?_; clear hw; intro w hw) | (refine go_newS ?_; clear hw; intro s w hw))
  have hw1 := hw.nil (T := tFact) (e := 66)
  rw [show List.replicate j k = lgVars j 0 k from (lgVars_zero j k).symm] at hw1
  clear hw
  refine vc_loop4 [13, 14, 15, 55, 56, 57, 58, 59, 60, 61, 62, 63, 64, 65, 66, 67, 68, 69, 70, 71, 72, 73, 74, 75, 76, 77] (G := Nat) (H := Value) (I := Value) (M := Value) (fun i fv _ _ => [(55, .int .i64 i), (13, fv), (14, .int .i64 (16 ^ i))]) (fun i fv iv vv w => i ≤ m ∧ Sat w0 w [OS tFact 66 fv (lgWhen j i), OS tInt 3 pv (upTo (j : Int)), OS tInt 3 iv (List.replicate (j + i) 0), OS tInt 3 vv (lgVars j i k), Box pt 26 [vv, iv, .slice none 0 0, .slice none 0 0]]) (fun i _ _ _ => m - i) 0 (.slice none 0 0) iv vv (fun _ _ _ _ => rfl) ⟨rfl, rfl, rfl, trivial⟩ ⟨Nat.zero_le _, hw1⟩ ?_
  clear hw1
  rintro σ1 i fv iv vv w ⟨hi, hw⟩
  repeat (first | refine go_run ?_ | (refine go_newP ?_; clear hw; intro p w hw) | (refine go_newW ?_; clear hw; intro w hw) | (refine go_newS ?_; clear hw; intro s w hw))
  refine go_if (fun h2 => ?_) (fun h2 => ?_)
  · have hfl := lgWhen_len j i
    have hrl : (List.replicate (j + i) (0 : Int)).length = j + i := List.length_replicate
    have hrl2 := lgVars_len j i k
    obtain ⟨q1, q2⟩ := pow16 (i := i) (by omega)
    repeat (first | refine go_run ?_ | (refine go_newP ?_; clear hw; intro p w hw) | (refine go_newWr ?_; clear hw; intro w hw) | (refine go_newS ?_; clear hw; intro s w hw))
    refine vc_tree (.step 0 [.op 0] (.step 4 [.op 4] (.step 1 [.op 1] (.step 5 [.op 5] (.alt 2 [.op 2, .chk 1, .chk 5] (.alt 3 [.op 3, .chk 5] (.step 8 [.op 8] (.step 6 [.op 6, .chk 1, .chk 5] (.step 7 [.op 7] (.step 9 [.op 9] (.step 10 [.op 10] (.step 11 [.op 11] (.lin []))))))) (.alt 6 [.op 6, .chk 1, .chk 5] (.step 3 [.op 3, .chk 5] (.step 8 [.op 8] (.step 7 [.op 7] (.step 9 [.op 9] (.step 10 [.op 10] (.step 11 [.op 11] (.lin []))))))) (.stop))) (.alt 6 [.op 6, .chk 1, .chk 5] (.step 2 [.op 2, .chk 1, .chk 5] (.step 3 [.op 3, .chk 5] (.step 8 [.op 8] (.step 7 [.op 7] (.step 9 [.op 9] (.step 10 [.op 10] (.step 11 [.op 11] (.lin [])))))))) (.stop))))))) hw (by kernel_rfl) (by kernel_rfl) ?_; clear hw; intro w hw
    repeat' (first | refine go_run ?_ | (refine go_newWr ?_; clear hw; intro w hw) | (refine go_newS ?_; clear hw; intro s w hw) | refine opsT_alt ?_ ?_ | exact opsT_stop)
    all_goals refine st_buildSlice1 tFact (x1 := ⟨(j : Int) + i, 3⟩) rfl rfl rfl (Nat.le_of_ble_eq_true rfl) (Nat.zero_lt_succ _) hw ?_
    all_goals (clear hw; intro s9 w hw)
    all_goals repeat' (first | refine go_run ?_ | (refine go_newWr ?_; clear hw; intro w hw) | (refine go_newS ?_; clear hw; intro s w hw))
    all_goals (rw [← lgWhen_succ, rep_succ, lgVars_succ] at hw; exact ⟨i + 1, _, _, _, ⟨rfl, rfl, by rw [Int.pow_succ]; rfl, trivial⟩, by repeat (first | exact agree_refl | (apply agree_upd rfl) | (apply agree_mix rfl) | (apply agree_sets rfl)), ⟨by omega, hw.tail.tail.tail⟩, by omega⟩)
  have hie : i = m := by omega
  subst hie
  have o1 := (hw.rs 0 rfl).one
  have c1 : fv.cells.toList = [fv] := (hw.rs 0 rfl).cells1
  repeat (first | refine go_run ?_ | (refine go_newP ?_; clear hw; intro p w hw) | (refine go_newW ?_; clear hw; intro w hw) | (refine go_newS ?_; clear hw; intro s w hw))
  refine st_build3 (v1 := fv) (v2 := .int .i64 0) (v3 := .int .i64 (k - 1)) rfl rfl rfl rfl (by simp only [List.all_cons, List.all_nil, o1]; rfl) ?_
  refine st_buildSlice1 tEff (x1 := ⟨fv, 0, k - 1⟩) rfl rfl rfl (Nat.le_of_ble_eq_true rfl) (Nat.zero_lt_succ _) hw ?_
  clear hw
  intro ev w hw
  have o2 := (hw.rs 0 rfl).one
  refine st_build1 (v1 := ev) rfl rfl (by simp only [List.all_cons, List.all_nil, o2]; rfl) ?_
  refine st_buildSlice1 tOp (x1 := ⟨ByteArray.empty, 0, .slice none 0 0, ev⟩) rfl rfl rfl (Nat.le_of_ble_eq_true rfl) (Nat.zero_lt_succ _) hw ?_
  clear hw
  intro ov w hw
  repeat (first | refine go_run ?_ | (refine go_newP ?_; clear hw; intro p w hw) | (refine go_newW ?_; clear hw; intro w hw) | (refine go_newS ?_; clear hw; intro s w hw))
  refine vc_loop [16, 87, 88, 89, 90, 91, 92] (G := Nat) (fun u => [(87, .int .i64 u), (16, .int .i64 (k ^ u))]) (fun u w => u ≤ j ∧ Sat w0 w [OS tOp 62 ov [⟨ByteArray.empty, 0, .slice none 0 0, ev⟩], OS tEff 64 ev [⟨fv, 0, k - 1⟩], OS tFact 66 fv (lgWhen j i), OS tInt 3 pv (upTo (j : Int)), OS tInt 3 iv (List.replicate (j + i) 0), OS tInt 3 vv (lgVars j i k), Box pt 26 [vv, iv, .slice none 0 0, ov]]) (fun u => j - u) 0 (fun _ => rfl) ⟨rfl, by rw [Int.pow_zero]; rfl, trivial⟩ ⟨Nat.zero_le _, hw⟩ ?_
  clear hw
  rintro σ2 u w ⟨hu, hw⟩
  repeat (first | refine go_run ?_ | (refine go_newP ?_; clear hw; intro p w hw) | (refine go_newW ?_; clear hw; intro w hw) | (refine go_newS ?_; clear hw; intro s w hw))
  refine go_if (fun h3 => ?_) (fun h3 => ?_)
  · obtain ⟨q1, q2⟩ := powk hk1 hk2 (i := u + 1) (by omega)
    rw [Int.pow_succ] at q1 q2
    repeat (first | refine go_run ?_ | (refine go_newP ?_; clear hw; intro p w hw) | (refine go_newW ?_; clear hw; intro w hw) | (refine go_newS ?_; clear hw; intro s w hw))
    exact ⟨u + 1, ⟨rfl, by rw [Int.pow_succ]; rfl, trivial⟩, by repeat (first | exact agree_refl | (apply agree_upd rfl) | (apply agree_mix rfl) | (apply agree_sets rfl)), ⟨by omega, hw⟩, by omega⟩
  have hue : u = j := by omega
  subst hue
  have mk : ∀ w, Sat w0 w [OS tOp 62 ov [⟨ByteArray.empty, 0, .slice none 0 0, ev⟩], OS tEff 64 ev [⟨fv, 0, k - 1⟩], OS tFact 66 fv (lgWhen u i), OS tInt 3 pv (upTo (u : Int)), OS tInt 3 iv (List.replicate (u + i) 0), OS tInt 3 vv (lgVars u i k), Box pt 26 [vv, iv, .slice none 0 0, ov]] → RTask w vv iv (.slice none 0 0) ov [⟨ByteArray.empty, 0, .slice none 0 0, ev⟩] (lgT u i k) ∧ RS tInt w pv (upTo (u : Int)) ∧ RS tInt w iv (List.replicate (u + i) 0) := by
    intro w hw
    refine ⟨⟨hw.rs 5 rfl, hw.rs 4 rfl, RS.nil, ⟨hw.rs 0 rfl, rfl, fun a ha => ?_⟩⟩, hw.rs 3 rfl, hw.rs 4 rfl⟩
    have h0 : a = 0 := by change a < [lgOp u i k].length at ha; simpa using ha
    subst h0
    rw [eget_eq]
    refine ⟨rfl, Nat.le_of_ble_eq_true rfl, rfl, RS.nil, [⟨fv, 0, k - 1⟩], hw.rs 1 rfl, rfl, fun b hb => ?_⟩
    have h1 : b = 0 := by change b < [(⟨lgWhen u i, 0, k - 1⟩ : Eff)].length at hb; simpa using hb
    subst h1
    rw [eget_eq]
    exact ⟨rfl, rfl, hw.rs 2 rfl⟩
  have hpe := lg_err (k := k) hn1 hg hL
  have hix := lg_ix hg hL
  have hi0 := lg_idx u i k
  obtain ⟨hT, hpv, hiv⟩ := mk w hw
  obtain ⟨q1, q2⟩ := powk hk1 hk2 (i := u) (by omega)
  obtain ⟨q3, q4⟩ := pow16 (i := i) (by omega)
  by_cases hst : 4096 < k ^ u
  · rw [if_pos hst] at hpe hix
    repeat (first | refine go_run ?_ | (refine go_newP ?_; clear hw; intro p w hw) | (refine go_newW ?_; clear hw; intro w hw) | (refine go_newS ?_; clear hw; intro s w hw))
    refine st_call rfl (Project_spec (vp := pv) (L := upTo (u : Int)) hT hpv) ?_
    rintro _ w' ⟨cv, ev2, gv, rfl, hk'⟩
    obtain ⟨S, hS⟩ : ∃ S, S = sysE (lgT u i k) (upTo (u : Int)) (pErr (lgT u i k) (upTo (u : Int))) := ⟨_, rfl⟩
    rw [← hS] at hk' ⊢
    rw [hpe]
    have hw2 := hw.call hk'
    clear hk' hw hT hpv hiv
    have hw := hw2
    clear hw2
    refine ⟨_, rfl, ?_⟩
    have o1 := (hw.rs 0 rfl).one
    have o2 := (hw.rs 1 rfl).one
    have o3 := (hw.rs 2 rfl).one
    repeat (first | refine go_run ?_ | (refine go_newP ?_; clear hw; intro p w hw) | (refine go_newWs ?_; clear hw; intro w hw) | (refine go_newS ?_; clear hw; intro s w hw))
    refine st_boxAgg (n := 5) (p := p) (vs := [.int .i64 S.st, .int .i64 S.ini, cv, ev2, gv]) rfl rfl hw inferInstance rfl rfl (by simp only [List.all_cons, List.all_nil, o1, o2, o3]; rfl) ?_
    clear hw
    intro w hw
    obtain ⟨hT, hpv, hiv⟩ := mk w hw.tail.tail.tail.tail
    repeat (first | refine go_run ?_ | (refine go_newP ?_; clear hw; intro p w hw) | (refine go_newW ?_; clear hw; intro w hw) | (refine go_newS ?_; clear hw; intro s w hw))
    refine st_call rfl (pIndex_spec (va := pv) (sv := iv) (s := List.replicate (u + i) 0) hT hpv hiv) ?_
    rintro _ w' ⟨rfl, hk'⟩
    replace hw := hw.call0 hk'
    clear hk' hT hpv hiv
    rw [hix]
    refine ⟨_, rfl, ?_⟩
    repeat (first | refine go_run ?_ | (refine go_newP ?_; clear hw; intro p w hw) | (refine go_newW ?_; clear hw; intro w hw) | (refine go_newS ?_; clear hw; intro s w hw))
    refine go_if (fun h4 => ?_) (fun h4 => ?_)
    · repeat (first | refine go_run ?_ | (refine go_newP ?_; clear hw; intro p w hw) | (refine go_newW ?_; clear hw; intro w hw) | (refine go_newS ?_; clear hw; intro s w hw))
      refine st_call rfl (Is_spec 5 5) ?_
      rintro _ w' ⟨rfl, hk'⟩
      replace hw := hw.call0 hk'
      clear hk'
      refine ⟨_, rfl, ?_⟩
      repeat (first | refine go_run ?_ | (refine go_newP ?_; clear hw; intro p w hw) | (refine go_newW ?_; clear hw; intro w hw) | (refine go_newS ?_; clear hw; intro s w hw))
      refine st_call rfl (Is_spec 5 5) ?_
      rintro _ w' ⟨rfl, hk'⟩
      replace hw := hw.call0 hk'
      clear hk'
      refine ⟨_, rfl, ?_⟩
      repeat (first | refine go_run ?_ | (refine go_newP ?_; clear hw; intro p w hw) | (refine go_newW ?_; clear hw; intro w hw) | (refine go_newS ?_; clear hw; intro s w hw))
      exact res_one (v := .bool true) rfl rfl ⟨rfl, sat_none hw⟩
    · omega
  · rw [if_neg hst] at hpe hix
    by_cases hcb : (4096 : Int) < 16 ^ i
    · rw [if_pos hcb] at hpe
      repeat (first | refine go_run ?_ | (refine go_newP ?_; clear hw; intro p w hw) | (refine go_newW ?_; clear hw; intro w hw) | (refine go_newS ?_; clear hw; intro s w hw))
      refine st_call rfl (Project_spec (vp := pv) (L := upTo (u : Int)) hT hpv) ?_
      rintro _ w' ⟨cv, ev2, gv, rfl, hk'⟩
      obtain ⟨S, hS⟩ : ∃ S, S = sysE (lgT u i k) (upTo (u : Int)) (pErr (lgT u i k) (upTo (u : Int))) := ⟨_, rfl⟩
      rw [← hS] at hk' ⊢
      rw [hpe]
      have hw2 := hw.call hk'
      clear hk' hw hT hpv hiv
      have hw := hw2
      clear hw2
      refine ⟨_, rfl, ?_⟩
      have o1 := (hw.rs 0 rfl).one
      have o2 := (hw.rs 1 rfl).one
      have o3 := (hw.rs 2 rfl).one
      repeat (first | refine go_run ?_ | (refine go_newP ?_; clear hw; intro p w hw) | (refine go_newWs ?_; clear hw; intro w hw) | (refine go_newS ?_; clear hw; intro s w hw))
      refine st_boxAgg (n := 5) (p := p) (vs := [.int .i64 S.st, .int .i64 S.ini, cv, ev2, gv]) rfl rfl hw inferInstance rfl rfl (by simp only [List.all_cons, List.all_nil, o1, o2, o3]; rfl) ?_
      clear hw
      intro w hw
      obtain ⟨hT, hpv, hiv⟩ := mk w hw.tail.tail.tail.tail
      repeat (first | refine go_run ?_ | (refine go_newP ?_; clear hw; intro p w hw) | (refine go_newW ?_; clear hw; intro w hw) | (refine go_newS ?_; clear hw; intro s w hw))
      refine st_call rfl (pIndex_spec (va := pv) (sv := iv) (s := List.replicate (u + i) 0) hT hpv hiv) ?_
      rintro _ w' ⟨rfl, hk'⟩
      replace hw := hw.call0 hk'
      clear hk' hT hpv hiv
      rw [hix, if_pos rfl, errV_zero rfl, show idxL (lgT u i k).vars (upTo (u : Int)) (List.replicate (u + i) 0) = 0 from hi0]
      refine ⟨_, rfl, ?_⟩
      repeat (first | refine go_run ?_ | (refine go_newP ?_; clear hw; intro p w hw) | (refine go_newW ?_; clear hw; intro w hw) | (refine go_newS ?_; clear hw; intro s w hw))
      refine go_if (fun h4 => ?_) (fun h4 => ?_)
      · omega
      repeat (first | refine go_run ?_ | (refine go_newP ?_; clear hw; intro p w hw) | (refine go_newW ?_; clear hw; intro w hw) | (refine go_newS ?_; clear hw; intro s w hw))
      refine go_if (fun h5 => ?_) (fun h5 => ?_)
      · repeat (first | refine go_run ?_ | (refine go_newP ?_; clear hw; intro p w hw) | (refine go_newW ?_; clear hw; intro w hw) | (refine go_newS ?_; clear hw; intro s w hw))
        refine st_call rfl (Is_spec 5 5) ?_
        rintro _ w' ⟨rfl, hk'⟩
        replace hw := hw.call0 hk'
        clear hk'
        refine ⟨_, rfl, ?_⟩
        repeat (first | refine go_run ?_ | (refine go_newP ?_; clear hw; intro p w hw) | (refine go_newW ?_; clear hw; intro w hw) | (refine go_newS ?_; clear hw; intro s w hw))
        exact res_one (v := .bool true) rfl rfl ⟨rfl, sat_none hw⟩
      · omega
    · rw [if_neg hcb] at hpe
      repeat (first | refine go_run ?_ | (refine go_newP ?_; clear hw; intro p w hw) | (refine go_newW ?_; clear hw; intro w hw) | (refine go_newS ?_; clear hw; intro s w hw))
      refine st_call rfl (Project_spec (vp := pv) (L := upTo (u : Int)) hT hpv) ?_
      rintro _ w' ⟨cv, ev2, gv, rfl, hk'⟩
      obtain ⟨S, hS⟩ : ∃ S, S = sysE (lgT u i k) (upTo (u : Int)) (pErr (lgT u i k) (upTo (u : Int))) := ⟨_, rfl⟩
      rw [← hS] at hk' ⊢
      rw [hpe, errV_zero rfl]
      have hw2 := hw.call hk'
      clear hk' hw hT hpv hiv
      have hw := hw2
      clear hw2
      refine ⟨_, rfl, ?_⟩
      have o1 := (hw.rs 0 rfl).one
      have o2 := (hw.rs 1 rfl).one
      have o3 := (hw.rs 2 rfl).one
      repeat (first | refine go_run ?_ | (refine go_newP ?_; clear hw; intro p w hw) | (refine go_newWs ?_; clear hw; intro w hw) | (refine go_newS ?_; clear hw; intro s w hw))
      refine st_boxAgg (n := 5) (p := p) (vs := [.int .i64 S.st, .int .i64 S.ini, cv, ev2, gv]) rfl rfl hw inferInstance rfl rfl (by simp only [List.all_cons, List.all_nil, o1, o2, o3]; rfl) ?_
      clear hw
      intro w hw
      obtain ⟨hT, hpv, hiv⟩ := mk w hw.tail.tail.tail.tail
      repeat (first | refine go_run ?_ | (refine go_newP ?_; clear hw; intro p w hw) | (refine go_newW ?_; clear hw; intro w hw) | (refine go_newS ?_; clear hw; intro s w hw))
      refine st_call rfl (pIndex_spec (va := pv) (sv := iv) (s := List.replicate (u + i) 0) hT hpv hiv) ?_
      rintro _ w' ⟨rfl, hk'⟩
      replace hw := hw.call0 hk'
      clear hk' hT hpv hiv
      rw [hix, if_pos rfl, errV_zero rfl, show idxL (lgT u i k).vars (upTo (u : Int)) (List.replicate (u + i) 0) = 0 from hi0]
      refine ⟨_, rfl, ?_⟩
      repeat (first | refine go_run ?_ | (refine go_newP ?_; clear hw; intro p w hw) | (refine go_newW ?_; clear hw; intro w hw) | (refine go_newS ?_; clear hw; intro s w hw))
      refine go_if (fun h4 => ?_) (fun h4 => ?_)
      · omega
      repeat (first | refine go_run ?_ | (refine go_newP ?_; clear hw; intro p w hw) | (refine go_newW ?_; clear hw; intro w hw) | (refine go_newS ?_; clear hw; intro s w hw))
      refine go_if (fun h5 => ?_) (fun h5 => ?_)
      · omega
      repeat (first | refine go_run ?_ | (refine go_newP ?_; clear hw; intro p w hw) | (refine go_newW ?_; clear hw; intro w hw) | (refine go_newS ?_; clear hw; intro s w hw))
      exact res_one (v := .bool true) rfl rfl ⟨rfl, sat_none hw⟩
end Go.Proofs.Ytlgombjhcpgleaa
