
/-
  Contracts of 'succgen.New', 'collect', 'find', 'Applicable', 'Successors'.
-/
import Derived.Test.YtkmbenhffledpaaGreatWSucN
set_option linter.unusedSimpArgs false
set_option linter.unusedVariables false
namespace Go.Proofs.YtkmbenhffledpaaGreat
open Go.Sl Go
attribute [local irreducible] vc opsW opsD opV opW PureV ReadV Thn Blk
/-- A generator is read. -/
def RGen (w : World) (p : Addr) (t : TTask) : Prop := ∃ a b c d ra vs, BoxR w p [a, b, c, d, .pointer ra] ∧ RTask w a b c d vs t ∧ RNode t w (t.vars.length + 1) ra (upTo (t.ops.length : Int)) 0
theorem RGen.at {w0 w : World} {Γ : List HP} {p : Addr} {t : TTask} (h : RGen w0 p t) (hw : Sat w0 w Γ) : RGen w p t := by
  obtain ⟨a, b, c, d, ra, vs, h1, h2, h3⟩ := h
  exact ⟨a, b, c, d, ra, vs, h1.at hw, h2.at hw, h3.at hw⟩
theorem upTo_rng {n : Nat} : ∀ op ∈ upTo (n : Int), 0 ≤ op ∧ op < n := fun op h => by
  unfold upTo at h
  simp only [List.mem_map, List.mem_range, Int.toNat_natCast] at h
  obtain ⟨k, hk, rfl⟩ := h
  omega
set_option maxRecDepth 8000 in
set_option maxHeartbeats 4000000 in
theorem sNew_spec {w0 : World} {a b c d : Value} {vs : List OpV} {t : TTask} (ht : RTask w0 a b c d vs t) (hg : GoodT t) :
    Calls Tryz.prog 73 #[.agg #[a, b, c, d]] w0 fun e w' => ∃ p, e = .returned (.tuple #[.pointer (some p), .nilIface]) ∧ Sat w0 w' [RdH fun w => RGen w p t] := by
  have hol := hg.ops
  have hw := Sat.start w0
  refine calls_of_vc (args := [.agg #[a, b, c, d]]) mixed Tryz.func73 rfl (by kernel_rfl) (Nat.le_of_ble_eq_true rfl) ?_
  repeat (first | refine go_run ?_ | (refine go_newP ?_; clear hw; intro p w hw) | (refine go_newW ?_; clear hw; intro w hw) | (refine go_newS ?_; clear hw; intro s w hw))
  obtain ⟨pt, hpt⟩ : ∃ pt, pt = p := ⟨p, rfl⟩
  subst hpt
  refine st_call rfl (Check_spec (ht.at hw)) ?_
  rintro _ w' ⟨rfl, hk'⟩
  replace hw := hw.call0 hk'
  clear hk'
  refine ⟨_, rfl, ?_⟩
  rw [errV_zero ((good_iff t).2 hg)]
  repeat (first | refine go_run ?_ | (refine go_newP ?_; clear hw; intro p w hw) | (refine go_newW ?_; clear hw; intro w hw) | (refine go_newS ?_; clear hw; intro s w hw))
  refine st_call rfl (sCopied_spec (ht.at hw) hg) ?_
  rintro _ w' ⟨a2, b2, c2, d2, vs2, rfl, hk'⟩
  replace hw := hw.call1 hk'
  clear hk'
  refine ⟨_, rfl, ?_⟩
  repeat (first | refine go_run ?_ | (refine go_newP ?_; clear hw; intro p w hw) | (refine go_newW ?_; clear hw; intro w hw) | (refine go_newS ?_; clear hw; intro s w hw))
  refine st_buildN (vs := [(0, .agg #[a2, b2, c2, d2])]) (ls := [(0, [a2, b2, c2, d2])]) rfl rfl rfl ?_
  refine st_boxAggNew (vs := [a2, b2, c2, d2, .pointer none]) rfl hw ?_
  clear hw
  intro pg w hw
  have hw1 : Sat w0 w [OS tInt 3 (.slice none 0 0) (upTo ((0 : Nat) : Int)), Box pg 192 [a2, b2, c2, d2, .pointer none], RdH (fun w => RTask w a2 b2 c2 d2 vs2 t)] := by
    have h1 : Sat w0 w [Box pg 192 [a2, b2, c2, d2, .pointer none], RdH (fun w => RTask w a2 b2 c2 d2 vs2 t), Box pt 26 [a, b, c, d]] := hw
    have h2 : Sat w0 w [OS tInt 3 (.slice none 0 0) [], Box pg 192 [a2, b2, c2, d2, .pointer none], RdH (fun w => RTask w a2 b2 c2 d2 vs2 t)] := (h1.nil (T := tInt) (e := 3)).sel
    exact h2
  have ht2 : RTask w a2 b2 c2 d2 vs2 t := hw1.rdE 2 rfl
  have hd2 := ht2.ops.rs
  have hl2 := ht2.ops.len
  clear hw
  have hw := hw1
  clear hw1
  repeat (first | refine go_run ?_ | (refine go_newP ?_; clear hw; intro p w hw) | (refine go_newW ?_; clear hw; intro w hw) | (refine go_newS ?_; clear hw; intro s w hw))
  refine vc_loop2 [6, 7, 23, 24, 25, 26, 27, 28, 29, 30] (G := Nat) (H := Value) (fun k av => [(23, .int .i64 k), (6, av)]) (fun k av w => k ≤ t.ops.length ∧ Sat w0 w [OS tInt 3 av (upTo (k : Int)), Box pg 192 [a2, b2, c2, d2, .pointer none], RdH (fun w => RTask w a2 b2 c2 d2 vs2 t)]) (fun k _ => t.ops.length - k) 0 (.slice none 0 0) (fun _ _ => rfl) ⟨rfl, rfl, trivial⟩ ⟨Nat.zero_le _, hw⟩ ?_
  clear hw
  rintro σ k av w ⟨hk, hw⟩
  have hul : (upTo (k : Int)).length = k := by simp [upTo]
  repeat (first | refine go_run ?_ | (refine go_newP ?_; clear hw; intro p w hw) | (refine go_newW ?_; clear hw; intro w hw) | (refine go_newS ?_; clear hw; intro s w hw))
  refine go_if (fun h1 => ?_) (fun h1 => ?_)
  · have hkl : k < t.ops.length := by omega
    repeat (first | refine go_run ?_ | (refine go_newP ?_; clear hw; intro p w hw) | (refine go_newW ?_; clear hw; intro w hw) | (refine go_newS ?_; clear hw; intro s w hw))
    rw [← upTo_succ] at hw
    exact ⟨k + 1, _, ⟨rfl, rfl, trivial⟩, by repeat (first | exact agree_refl | (apply agree_upd rfl) | (apply agree_mix rfl) | (apply agree_sets rfl)), ⟨by omega, hw.tail⟩, by omega⟩
  have hke : k = t.ops.length := by omega
  subst hke
  repeat (first | refine go_run ?_ | (refine go_newP ?_; clear hw; intro p w hw) | (refine go_newW ?_; clear hw; intro w hw) | (refine go_newS ?_; clear hw; intro s w hw))
  have hG : GenT w pg t := ⟨a2, b2, c2, d2, _, vs2, hw.boxR 1 rfl, hw.rdE 2 rfl⟩
  refine st_call rfl (build_spec hg (t.vars.length + 1) _ pg av (upTo (t.ops.length : Int)) 0 hG (rsO hw) upTo_rng (by omega) (Nat.zero_le _) (by omega)) ?_
  rintro _ w' ⟨ra, rfl, hk'⟩
  replace hw := hw.call1 hk'
  clear hk'
  refine ⟨_, rfl, ?_⟩
  repeat (first | refine go_run ?_ | (refine go_newP ?_; clear hw; intro p w hw) | (refine go_newW ?_; clear hw; intro w hw) | (refine go_newS ?_; clear hw; intro s w hw))
  have h1 : Sat w0 w [RdH (fun w => RS tInt w av (upTo (t.ops.length : Int)) → RNode t w (t.vars.length + 1) ra (upTo (t.ops.length : Int)) 0), OS tInt 3 av (upTo (t.ops.length : Int)), Box pg 192 [a2, b2, c2, d2, .pointer ra], RdH (fun w => RTask w a2 b2 c2 d2 vs2 t)] := hw
  have h2 := Sat.rd (Γ := []) (Δ := [RdH (fun w => RS tInt w av (upTo (t.ops.length : Int)) → RNode t w (t.vars.length + 1) ra (upTo (t.ops.length : Int)) 0), OS tInt 3 av (upTo (t.ops.length : Int)), Box pg 192 [a2, b2, c2, d2, .pointer ra], RdH (fun w => RTask w a2 b2 c2 d2 vs2 t)]) (φ := fun w => RGen w pg t) (fun _ w h => ⟨a2, b2, c2, d2, ra, vs2, h.boxR 2 rfl, h.rdE 3 rfl, (h.rdE 0 rfl) (h.rs 1 rfl)⟩) h1
  exact res_two (v := .pointer (some pg)) (v' := .nilIface) rfl rfl rfl ⟨pg, rfl, h2⟩
theorem colV_len {t : TTask} {s : List Int} {f : Nat} {ops : List Int} {v : Nat} (hv : v ≤ t.vars.length) (hf : t.vars.length - v < f) : (colV t s f ops v).length ≤ ops.length := by
  rw [(colV_perm hv hf).length_eq]
  exact List.length_filter_le _ _
set_option maxRecDepth 8000 in
set_option maxHeartbeats 8000000 in
theorem collect_spec {t : TTask} {w0 : World} {sv : Value} {z : List Int} (hg : GoodT t) (hs : RS tInt w0 sv z) (hok : StateOk t.vars z) {wb : World} (hsb : ∃ Γ0, Sat w0 wb Γ0) : ∀ (f : Nat) (nv : Option Addr) (ops : List Int) (v : Nat) (w : World) (ov lv : Value) (out : List Int) (ll : List Bool) (Γ : List HP),
    RNode t w0 f nv ops v → v ≤ t.vars.length → t.vars.length - v < f → ll.length = t.vars.length → out.length + ops.length ≤ 8192 → Sat w0 w (OS tInt 3 ov out :: OS tBool 4 lv ll :: Γ) →
    Calls Tryz.prog 172 #[.pointer nv, ov, sv, lv] w fun e w' => ∃ ov' ll', e = .returned ov' ∧ ll'.length = t.vars.length ∧ Sat w0 w' (OS tInt 3 ov' (out ++ colV t z f ops v) :: OS tBool 4 lv ll' :: Γ) := by
  intro f
  induction f with
  | zero => intro nv ops v w ov lv out ll Γ hN; exact absurd hN id
  | succ f ih =>
    intro nv ops v w ov lv out ll Γ hN hv hf hll hlen hw
    have hvl := hg.vars
    obtain ⟨n1, n2, n3, n4⟩ := nextV_ok (t := t) (ops := ops) (f := t.vars.length - v) (v := v)
    rcases hN with ⟨he, rfl⟩ | ⟨hne, p, rfl, ⟨hnx, ov2, hb, hr⟩ | ⟨hnx, vv, ra, vl, hb, hr, hvl2, hrest, hch⟩⟩
    · have hcol : colV t z (f + 1) ops v = [] := by rw [colV, if_pos he]
      refine calls_of_vc (args := [.pointer none, ov, sv, lv]) mixed Tryz.func172 rfl (by kernel_rfl) (Nat.le_of_ble_eq_true rfl) ?_
      repeat (first | refine go_run ?_ | (refine go_newP ?_; clear hw; intro p w hw) | (refine go_newW ?_; clear hw; intro w hw) | (refine go_newS ?_; clear hw; intro s w hw))
      exact res_one (v := ov) rfl rfl ⟨ov, ll, rfl, hll, by rw [hcol, List.append_nil]; exact hw⟩
    · have hcol : colV t z (f + 1) ops v = ops := by rw [colV, if_neg hne, if_pos hnx]
      refine calls_of_vc (args := [.pointer (some p), ov, sv, lv]) mixed Tryz.func172 rfl (by kernel_rfl) (Nat.le_of_ble_eq_true rfl) ?_
      repeat (first | refine go_run ?_ | (refine go_newP ?_; clear hw; intro p w hw) | (refine go_newW ?_; clear hw; intro w hw) | (refine go_newS ?_; clear hw; intro s w hw))
      exact res_one (v := s) rfl rfl ⟨s, ll, rfl, hll, by rw [hcol]; exact hw⟩
    · refine calls_of_vc (args := [.pointer (some p), ov, sv, lv]) mixed Tryz.func172 rfl (by kernel_rfl) (Nat.le_of_ble_eq_true rfl) ?_
      have hzl := hok.1
      have hz := hok.2 (nxV t ops v) (by omega)
      obtain ⟨x, hx⟩ : ∃ x : Nat, z.getD (nxV t ops v) tInt.dflt = (x : Int) := ⟨(z.getD (nxV t ops v) tInt.dflt).toNat, by omega⟩
      have hxl : x < vl.length := by omega
      have hvml : (vl.map Value.pointer).length = vl.length := List.length_map _
      have hcol : colV t z (f + 1) ops v = colV t z f (byV t ops (nxV t ops v) (x : Int)) (nxV t ops v + 1) ++ colV t z f (restV t ops (nxV t ops v)) (nxV t ops v + 1) := by rw [colV, if_neg hne, if_neg (show ¬ nextV t ops (t.vars.length - v) v = t.vars.length from Nat.ne_of_lt hnx)]; rw [← hx]
      have hvg : vget (vl.map Value.pointer) x = .pointer (vl.getD x none) := by
        rw [vget_eq]
        simp [List.getD, hxl]
      have n1' : v ≤ nxV t ops v := n1
      have hfu : t.vars.length - (nxV t ops v + 1) < f := by omega
      have hc1 := colV_len (t := t) (s := z) (f := f) (ops := byV t ops (nxV t ops v) (x : Int)) (v := nxV t ops v + 1) (by omega) hfu
      have hb1 : (byV t ops (nxV t ops v) (x : Int)).length + (restV t ops (nxV t ops v)).length ≤ ops.length := by
        have key : ∀ l : List Int, (byV t l (nxV t ops v) (x : Int)).length + (restV t l (nxV t ops v)).length ≤ l.length := by
          intro l
          induction l with
          | nil => simp [byV, restV]
          | cons y l ih2 =>
            unfold byV restV at ih2 ⊢
            simp only [List.filter_cons]
            cases hp : preV t y (nxV t ops v) with
            | none =>
              rw [if_neg (by simp), if_pos (by rfl)]
              simp only [List.length_cons]; omega
            | some q =>
              by_cases e : q = (x : Int)
              · rw [if_pos (by simp [e]), if_neg (by simp)]
                simp only [List.length_cons]; omega
              · rw [if_neg (by simp [e]), if_neg (by simp)]
                exact Nat.le_succ_of_le ih2
        exact key ops
      repeat (first | refine go_run ?_ | (refine go_newP ?_; clear hw; intro p w hw) | (refine go_newW ?_; clear hw; intro w hw) | (refine go_newS ?_; clear hw; intro s w hw))
      refine vc_plan [.op 0, .op 1, .op 2, .op 3, .op 4, .op 5, .op 6, .op 7, .op 8, .op 9, .op 10, .op 11, .op 12, .op 13, .op 14, .op 15, .op 16, .op 17, .op 18, .op 19, .op 20, .chk 3, .op 21, .op 22, .op 23, .op 24] hw (by kernel_rfl) ?_; clear hw; intro w hw
      repeat (first | refine go_run ?_ | (refine go_newP ?_; clear hw; intro p w hw) | (refine go_newWr ?_; clear hw; intro w hw) | (refine go_newS ?_; clear hw; intro s w hw))
      have hvg' : vget (vl.map Value.pointer) (z.getD (nxV t ops v) tInt.dflt).toNat = .pointer (vl.getD x none) := by rw [hx, Int.toNat_natCast]; exact hvg
      rw [hvg']
      refine st_call rfl (ih (vl.getD x none) (byV t ops (nxV t ops v) (x : Int)) (nxV t ops v + 1) _ ov lv out _ Γ (hch x hxl) (by omega) hfu (by rw [List.length_set]; exact hll) (by omega) hw) ?_
      clear hw
      rintro _ w ⟨ov1, ll1, rfl, hl1, hw⟩
      refine ⟨_, rfl, ?_⟩
      repeat (first | refine go_run ?_ | (refine go_newP ?_; clear hw; intro p w hw) | (refine go_newWr ?_; clear hw; intro w hw) | (refine go_newS ?_; clear hw; intro s w hw))
      refine st_call rfl (ih ra (restV t ops (nxV t ops v)) (nxV t ops v + 1) _ ov1 lv _ ll1 Γ hrest (by omega) hfu hl1 (by rw [List.length_append]; omega) hw) ?_
      clear hw
      rintro _ w ⟨ov3, ll3, rfl, hl3, hw⟩
      refine ⟨_, rfl, ?_⟩
      repeat (first | refine go_run ?_ | (refine go_newP ?_; clear hw; intro p w hw) | (refine go_newWr ?_; clear hw; intro w hw) | (refine go_newS ?_; clear hw; intro s w hw))
      exact res_one (v := ov3) rfl rfl ⟨ov3, ll3, rfl, hl3, by rw [hcol, ← List.append_assoc]; exact hw⟩
/-- The applicable operators. -/
def appL (t : TTask) (s : List Int) : List Int := (succsL t s).map fun (o : Nat) => (o : Int)
open Classical in
theorem col_app {t : TTask} {s : List Int} (hg : GoodT t) (hok : StateOk t.vars s) : sortL (colV t s (t.vars.length + 1) (upTo (t.ops.length : Int)) 0) = appL t s := by
  refine sorted_eq ?_ (sortL_pw _) (succsL_asc t s)
  have h1 := colV_perm (t := t) (s := s) (f := t.vars.length + 1) (ops := upTo (t.ops.length : Int)) (v := 0) (Nat.zero_le _) (by omega)
  have h2 := app_list hg hok
  refine (List.mergeSort_perm _ _).trans (h1.trans ?_)
  rw [h2]
  exact List.Perm.refl _
theorem appL_rng {t : TTask} {s : List Int} : ∀ op ∈ appL t s, 0 ≤ op ∧ op < t.ops.length := fun op h => by
  unfold appL at h
  obtain ⟨k, hk, rfl⟩ := List.mem_map.1 h
  have := (mem_succsL.1 hk).1
  omega
theorem appL_len {t : TTask} {s : List Int} : (appL t s).length ≤ t.ops.length := by
  unfold appL succsL
  rw [List.length_map]
  have := List.length_filter_le (fun op => decide (AppT t s op)) (List.range t.ops.length)
  rwa [List.length_range] at this
set_option maxRecDepth 8000 in
set_option maxHeartbeats 8000000 in
theorem sFind_spec {t : TTask} {w0 : World} {pg : Addr} {sv : Value} {z : List Int} (hG : RGen w0 pg t) (hg : GoodT t) (hs : RS tInt w0 sv z) (hok : StateOk t.vars z) :
    Calls Tryz.prog 159 #[.pointer (some pg), sv] w0 fun e w' => ∃ ov m, e = .returned (.tuple #[ov, .int .i64 m]) ∧ Sat w0 w' [OS tInt 3 ov (appL t z)] := by
  obtain ⟨a, b, c, d, ra, vs, hb, ht, hN⟩ := hG
  have ha := ht.vars
  have hvl := hg.vars
  have hol := hg.ops
  have hzl := hok.1
  have hw := Sat.start w0
  refine calls_of_vc (args := [.pointer (some pg), sv]) mixed Tryz.func159 rfl (by kernel_rfl) (Nat.le_of_ble_eq_true rfl) ?_
  repeat (first | refine go_run ?_ | (refine go_newP ?_; clear hw; intro p w hw) | (refine go_newW ?_; clear hw; intro w hw) | (refine go_newS ?_; clear hw; intro s w hw))
  refine st_call rfl (tProper_spec (ha.at hw) (hs.at hw)) ?_
  rintro _ w' ⟨⟨r, rfl, hr⟩, hk'⟩
  replace hw := hw.call0 hk'
  clear hk'
  refine ⟨_, rfl, ?_⟩
  have hrt : r = true := hr.2 hok
  subst hrt
  repeat (first | refine go_run ?_ | (refine go_newP ?_; clear hw; intro p w hw) | (refine go_newW ?_; clear hw; intro w hw) | (refine go_newS ?_; clear hw; intro s w hw))
  have hw1 := hw.nil (T := tInt) (e := 3)
  refine st_call rfl (collect_spec hg hs hok (wb := w0) ⟨[], Sat.start w0⟩ (t.vars.length + 1) ra (upTo (t.ops.length : Int)) 0 _ (.slice none 0 0) s [] _ [] hN (Nat.zero_le _) (by omega) (by rw [List.length_replicate]; omega) (by rw [upTo_len]; simp; omega) hw1) ?_
  clear hw hw1
  rintro _ w ⟨ov, ll, rfl, hll, hw⟩
  refine ⟨_, rfl, ?_⟩
  rw [List.nil_append] at hw
  have hcl := colV_len (t := t) (s := z) (f := t.vars.length + 1) (ops := upTo (t.ops.length : Int)) (v := 0) (Nat.zero_le _) (by omega)
  have hupl := upTo_len (t.ops.length : Int)
  repeat (first | refine go_run ?_ | (refine go_newP ?_; clear hw; intro p w hw) | (refine go_newW ?_; clear hw; intro w hw) | (refine go_newS ?_; clear hw; intro s w hw))
  refine st_call rfl (Sort_spec (s := ov) hw (by omega)) ?_
  clear hw
  rintro _ w ⟨rfl, hw⟩
  refine ⟨_, rfl, ?_⟩
  rw [col_app hg hok] at hw
  repeat (first | refine go_run ?_ | (refine go_newP ?_; clear hw; intro p w hw) | (refine go_newW ?_; clear hw; intro w hw) | (refine go_newS ?_; clear hw; intro s w hw))
  refine vc_loop2 [8, 10, 37, 38, 39, 40, 41, 42, 43, 44] (G := Nat) (H := Int) (fun k m => [(37, .int .i64 k), (8, .int .i64 m)]) (fun k m w => k ≤ t.vars.length ∧ 0 ≤ m ∧ m ≤ k ∧ Sat w0 w [OS tInt 3 ov (appL t z), OS tBool 4 s ll]) (fun k _ => t.vars.length - k) 0 0 (fun _ _ => rfl) ⟨rfl, rfl, trivial⟩ ⟨Nat.zero_le _, Int.le_refl _, Int.le_refl _, hw⟩ ?_
  clear hw
  rintro σ k m w ⟨hk, hm0, hm1, hw⟩
  repeat (first | refine go_run ?_ | (refine go_newP ?_; clear hw; intro p w hw) | (refine go_newW ?_; clear hw; intro w hw) | (refine go_newS ?_; clear hw; intro s w hw))
  refine go_if (fun h1 => ?_) (fun h1 => ?_)
  · have hkl : k < t.vars.length := by omega
    repeat (first | refine go_run ?_ | (refine go_newP ?_; clear hw; intro p w hw) | (refine go_newW ?_; clear hw; intro w hw) | (refine go_newS ?_; clear hw; intro s w hw))
    cases hb9 : ll.getD k tBool.dflt
    · repeat (first | refine go_run ?_ | (refine go_newP ?_; clear hw; intro p w hw) | (refine go_newW ?_; clear hw; intro w hw) | (refine go_newS ?_; clear hw; intro s w hw))
      exact ⟨k + 1, m, ⟨rfl, rfl, trivial⟩, by repeat (first | exact agree_refl | (apply agree_upd rfl) | (apply agree_mix rfl) | (apply agree_sets rfl)), ⟨by omega, hm0, by omega, hw⟩, by omega⟩
    · repeat (first | refine go_run ?_ | (refine go_newP ?_; clear hw; intro p w hw) | (refine go_newW ?_; clear hw; intro w hw) | (refine go_newS ?_; clear hw; intro s w hw))
      exact ⟨k + 1, m + 1, ⟨rfl, rfl, trivial⟩, by repeat (first | exact agree_refl | (apply agree_upd rfl) | (apply agree_mix rfl) | (apply agree_sets rfl)), ⟨by omega, by omega, by omega, hw⟩, by omega⟩
  repeat (first | refine go_run ?_ | (refine go_newP ?_; clear hw; intro p w hw) | (refine go_newW ?_; clear hw; intro w hw) | (refine go_newS ?_; clear hw; intro s w hw))
  exact res_two (v := ov) (v' := .int .i64 m) rfl rfl rfl ⟨ov, m, rfl, hw.sel⟩
set_option maxRecDepth 8000 in
theorem Applicable_spec {t : TTask} {w0 : World} {pg : Addr} {sv : Value} {z : List Int} (hG : RGen w0 pg t) (hg : GoodT t) (hs : RS tInt w0 sv z) (hok : StateOk t.vars z) :
    Calls Tryz.prog 130 #[.pointer (some pg), sv] w0 fun e w' => ∃ ov, e = .returned ov ∧ Sat w0 w' [OS tInt 3 ov (appL t z)] := by
  have hw := Sat.start w0
  refine calls_of_vc (args := [.pointer (some pg), sv]) mixed Tryz.func130 rfl (by kernel_rfl) (Nat.le_of_ble_eq_true rfl) ?_
  repeat (first | refine go_run ?_ | (refine go_newP ?_; clear hw; intro p w hw) | (refine go_newW ?_; clear hw; intro w hw) | (refine go_newS ?_; clear hw; intro s w hw))
  refine st_call rfl (sFind_spec hG hg hs hok) ?_
  rintro _ w' ⟨ov, m, rfl, hk'⟩
  replace hw := hw.call1 hk'
  clear hk'
  refine ⟨_, rfl, ?_⟩
  repeat (first | refine go_run ?_ | (refine go_newP ?_; clear hw; intro p w hw) | (refine go_newW ?_; clear hw; intro w hw) | (refine go_newS ?_; clear hw; intro s w hw))
  exact res_one (v := ov) rfl rfl ⟨ov, rfl, hw⟩
/-! ### Successors -/
structure SucV where
  op : Int
  st : Value
def tSuc : Ty SucV := ⟨2, fun x => [.int .i64 x.op, x.st], fun _ => rfl, ⟨0, .slice none 0 0⟩⟩
instance inWSucG1 : ShutT tSuc := ⟨trivial⟩
/-- The first k successors are read. -/
def SucF (t : TTask) (z L : List Int) (k : Nat) (us : List SucV) (w : World) : Prop := ∀ i, i < k → (eget tSuc us i).op = L.getD i tInt.dflt ∧ RS tInt w (eget tSuc us i).st (succT t z (L.getD i tInt.dflt).toNat)
theorem SucF.step {t : TTask} {z L : List Int} {k : Nat} {us : List SucV} {w : World} {v : SucV} (h : SucF t z L k us w) (hl : us.length = k) (h1 : v.op = L.getD k tInt.dflt) (h2 : RS tInt w v.st (succT t z (L.getD k tInt.dflt).toNat)) : SucF t z L (k + 1) (us ++ [v]) w := fun i hi => by
  rw [eget_app]
  by_cases e : i < k
  · rw [if_pos (by omega)]; exact h i e
  · have e2 : i = k := by omega
    rw [if_neg (by omega), if_pos (by omega), e2]; exact ⟨h1, h2⟩
structure RSuc (w : World) (t : TTask) (z : List Int) (sl : Value) (us : List SucV) : Prop where
  rs : RS tSuc w sl us
  len : us.length = (appL t z).length
  at_ : SucF t z (appL t z) (appL t z).length us w
theorem RSuc.at {w0 w : World} {Γ : List HP} {t : TTask} {z : List Int} {sl : Value} {us : List SucV} (h : RSuc w0 t z sl us) (hw : Sat w0 w Γ) : RSuc w t z sl us := ⟨h.rs.at hw, h.len, fun i hi => ⟨(h.at_ i hi).1, (h.at_ i hi).2.at hw⟩⟩
set_option maxRecDepth 8000 in
set_option maxHeartbeats 8000000 in
theorem Successors_spec {t : TTask} {w0 : World} {pg : Addr} {sv : Value} {z : List Int} (hG : RGen w0 pg t) (hg : GoodT t) (hs : RS tInt w0 sv z) (hok : StateOk t.vars z) :
    Calls Tryz.prog 96 #[.pointer (some pg), sv] w0 fun e w' => ∃ sl us, e = .returned sl ∧ Sat w0 w' [RdH fun w => RSuc w t z sl us] := by
  have hG' := hG
  obtain ⟨a, b, c, d, ra, vs, hb, ht, hN⟩ := hG
  have hdr := ht.ops.rs
  have hdl := ht.ops.len
  have hvl := hg.vars
  have hol := hg.ops
  have hzl := hok.1
  have hal := appL_len (t := t) (s := z)
  have hw := Sat.start w0
  refine calls_of_vc (args := [.pointer (some pg), sv]) mixed Tryz.func96 rfl (by kernel_rfl) (Nat.le_of_ble_eq_true rfl) ?_
  repeat (first | refine go_run ?_ | (refine go_newP ?_; clear hw; intro p w hw) | (refine go_newW ?_; clear hw; intro w hw) | (refine go_newS ?_; clear hw; intro s w hw))
  refine st_call rfl (Applicable_spec (hG'.at hw) hg (hs.at hw) hok) ?_
  rintro _ w' ⟨ov, rfl, hk'⟩
  replace hw := hw.call1 hk'
  clear hk'
  refine ⟨_, rfl, ?_⟩
  have hw1 : Sat w0 w' [OS tSuc 180 (.slice none 0 0) [], RdH (SucF t z (appL t z) 0 []), OS tInt 3 ov (appL t z)] :=
    (Sat.rd0 (φ := SucF t z (appL t z) 0 []) (fun w i hi => absurd hi (Nat.not_lt_zero _)) hw).nil
  clear hw
  have hw := hw1
  clear hw1
  repeat (first | refine go_run ?_ | (refine go_newP ?_; clear hw; intro p w hw) | (refine go_newW ?_; clear hw; intro w hw) | (refine go_newS ?_; clear hw; intro s w hw))
  refine vc_loop3 [5, 7, 8, 10, 15, 16, 17, 18, 19, 20, 21, 22, 23, 24, 25, 26, 27, 28, 29, 30, 31, 32, 33, 34, 35, 36, 37, 38, 39, 40, 41, 42, 43, 44, 45, 46, 47, 48, 49, 50, 51, 52] (G := Nat) (H := Value) (I := List SucV) (fun k sl _ => [(15, .int .i64 k), (5, sl)]) (fun k sl us w => k ≤ (appL t z).length ∧ us.length = k ∧ Sat w0 w [OS tSuc 180 sl us, RdH (SucF t z (appL t z) k us), OS tInt 3 ov (appL t z)]) (fun k _ _ => (appL t z).length - k) 0 (.slice none 0 0) [] (fun _ _ _ => rfl) ⟨rfl, rfl, trivial⟩ ⟨Nat.zero_le _, rfl, hw⟩ ?_
  clear hw
  rintro σ k sl us w ⟨hk, hul, hw⟩
  repeat (first | refine go_run ?_ | (refine go_newP ?_; clear hw; intro p w hw) | (refine go_newW ?_; clear hw; intro w hw) | (refine go_newS ?_; clear hw; intro s w hw))
  refine go_if (fun h1 => ?_) (fun h1 => ?_)
  · have hkl : k < (appL t z).length := by omega
    have hopk := appL_rng _ (mem_getD tInt.dflt hkl)
    obtain ⟨o, hoe⟩ : ∃ o : Nat, (appL t z).getD k tInt.dflt = (o : Int) := ⟨((appL t z).getD k tInt.dflt).toNat, by omega⟩
    have hol2 : o < t.ops.length := by omega
    have hop := ht.ops.at_ o hol2
    have hoo := hg.op o hol2
    have heb := hoo.effs
    obtain ⟨es, hes⟩ := hop.effs
    have hesr := hes.rs
    have hesl := hes.len
    repeat (first | refine go_run ?_ | (refine go_newP ?_; clear hw; intro p w hw) | (refine go_newW ?_; clear hw; intro w hw) | (refine go_newS ?_; clear hw; intro s w hw))
    refine st_call rfl (Clone_spec (hs.at hw) (by omega)) ?_
    rintro _ w' ⟨nv, rfl, hk'⟩
    replace hw := hw.call1 hk'
    clear hk'
    refine ⟨_, rfl, ?_⟩
    rw [hoe]
    repeat (first | refine go_run ?_ | (refine go_newP ?_; clear hw; intro p w hw) | (refine go_newW ?_; clear hw; intro w hw) | (refine go_newS ?_; clear hw; intro s w hw))
    rw [show z = effsL z ((t.ops.getD o dOp).effs.take 0) from rfl] at hw
    refine vc_loop [10, 31, 32, 33, 34, 35, 36, 37, 38, 39, 40, 41, 42, 43, 44, 45] (G := Nat) (fun j => [(31, .int .i64 j)]) (fun j w => j ≤ (t.ops.getD o dOp).effs.length ∧ Sat w0 w [OS tInt 3 nv (effsL z ((t.ops.getD o dOp).effs.take j)), OS tSuc 180 sl us, RdH (SucF t z (appL t z) k us), OS tInt 3 ov (appL t z)]) (fun j => (t.ops.getD o dOp).effs.length - j) 0 (fun _ => rfl) ⟨rfl, trivial⟩ ⟨Nat.zero_le _, hw⟩ ?_
    clear hw
    rintro σ1 j w ⟨hj, hw⟩
    have hel := effsL_len z ((t.ops.getD o dOp).effs.take j)
    repeat (first | refine go_run ?_ | (refine go_newP ?_; clear hw; intro p w hw) | (refine go_newW ?_; clear hw; intro w hw) | (refine go_newS ?_; clear hw; intro s w hw))
    refine go_if (fun h2 => ?_) (fun h2 => ?_)
    · have hjl : j < (t.ops.getD o dOp).effs.length := by omega
      have hue := hes.at_ j hjl
      have huo := hue.one
      have huv := hue.var
      have hux := hue.val
      have hwhen := hue.when
      have her := effOk_range (hoo.eff j hjl)
      have htk := take_snoc dEff hjl
      repeat (first | refine go_run ?_ | (refine go_newP ?_; clear hw; intro p w hw) | (refine go_newW ?_; clear hw; intro w hw) | (refine go_newS ?_; clear hw; intro s w hw))
      refine st_call rfl (tHolds_spec (hwhen.at hw) (hs.at hw)) ?_
      rintro _ w' ⟨⟨r, rfl, hr⟩, hk'⟩
      replace hw := hw.call0 hk'
      clear hk'
      refine ⟨_, rfl, ?_⟩
      cases r
      · have hno : ¬ HoldFs z ((t.ops.getD o dOp).effs.getD j dEff).when := fun h => by cases hr.2 h
        repeat (first | refine go_run ?_ | (refine go_newP ?_; clear hw; intro p w hw) | (refine go_newW ?_; clear hw; intro w hw) | (refine go_newS ?_; clear hw; intro s w hw))
        refine ⟨j + 1, ⟨rfl, trivial⟩, by repeat (first | exact agree_refl | (apply agree_upd rfl) | (apply agree_mix rfl) | (apply agree_sets rfl)), ⟨by omega, ?_⟩, by omega⟩
        rw [htk, effsL_snoc, if_neg hno]
        exact hw.tail
      · have hyes := hr.1 rfl
        repeat (first | refine go_run ?_ | (refine go_newP ?_; clear hw; intro p w hw) | (refine go_newW ?_; clear hw; intro w hw) | (refine go_newS ?_; clear hw; intro s w hw))
        refine ⟨j + 1, ⟨rfl, trivial⟩, by repeat (first | exact agree_refl | (apply agree_upd rfl) | (apply agree_mix rfl) | (apply agree_sets rfl)), ⟨by omega, ?_⟩, by omega⟩
        rw [htk, effsL_snoc, if_pos hyes, ← huv, ← hux]
        exact hw.tail
    have hje : j = (t.ops.getD o dOp).effs.length := by omega
    subst hje
    rw [List.take_of_length_le (Nat.le_refl _)] at hw
    have onv := (rsO (s := nv) hw).one
    repeat (first | refine go_run ?_ | (refine go_newP ?_; clear hw; intro p w hw) | (refine go_newW ?_; clear hw; intro w hw) | (refine go_newS ?_; clear hw; intro s w hw))
    refine st_build2 (v1 := .int .i64 (o : Int)) (v2 := nv) rfl rfl rfl (by simp only [List.all_cons, List.all_nil, onv]; rfl) ?_
    refine st_buildSlice1 tSuc (x1 := ⟨(o : Int), nv⟩) rfl rfl rfl (Nat.le_of_ble_eq_true rfl) (Nat.zero_lt_succ _) hw ?_
    clear hw
    intro bs w hw
    repeat (first | refine go_run ?_ | (refine go_newP ?_; clear hw; intro p w hw) | (refine go_newWr ?_; clear hw; intro w hw) | (refine go_newS ?_; clear hw; intro s w hw))
    refine st_append (s := sl) (s2 := bs) inferInstance rfl rfl (rsO hw) rfl rfl (fun x hx v hv => by
      rw [List.mem_singleton.1 hx] at hv
      simp only [tSuc, List.mem_cons, List.not_mem_nil, or_false] at hv
      rcases hv with rfl | rfl
      · rfl
      · exact onv) (by simp only [List.length_cons, List.length_nil]; omega) (by unfold big; simp only [List.length_cons, List.length_nil]; omega) hw ?_
    clear hw
    intro sl2 w hw
    repeat (first | refine go_run ?_ | (refine go_newP ?_; clear hw; intro p w hw) | (refine go_newWr ?_; clear hw; intro w hw) | (refine go_newS ?_; clear hw; intro s w hw))
    have hw1 : Sat w0 w [OS tSuc 180 sl2 (us ++ [⟨(o : Int), nv⟩]), RdH (SucF t z (appL t z) (k + 1) (us ++ [⟨(o : Int), nv⟩])), OS tInt 3 ov (appL t z)] := by
      have h1 : Sat w0 w [OS tInt 3 nv (succT t z o), RdH (SucF t z (appL t z) k us), OS tSuc 180 sl2 (us ++ [⟨(o : Int), nv⟩]), OS tInt 3 ov (appL t z)] := by
        have h0 : Sat w0 w [OS tSuc 180 bs [⟨(o : Int), nv⟩], OS tInt 3 nv (succT t z o), OS tSuc 180 sl2 (us ++ [⟨(o : Int), nv⟩]), RdH (SucF t z (appL t z) k us), OS tInt 3 ov (appL t z)] := hw
        exact h0.sel
      have h2 := Sat.rd2 (χ := SucF t z (appL t z) (k + 1) (us ++ [⟨(o : Int), nv⟩])) (fun w h1 h2 => h2.step hul hoe.symm (by rw [hoe, Int.toNat_natCast]; exact h1)) (Sat.rd (Δ := [OS tInt 3 nv (succT t z o)]) (φ := fun w => RS tInt w nv (succT t z o)) (fun _ _ h => h.rs 0 rfl) h1)
      exact h2.swap
    exact ⟨k + 1, _, _, ⟨rfl, rfl, trivial⟩, by repeat (first | exact agree_refl | (apply agree_upd rfl) | (apply agree_mix rfl) | (apply agree_sets rfl)), ⟨by omega, by simp [hul], hw1⟩, by omega⟩
  have hke : k = (appL t z).length := by omega
  subst hke
  repeat (first | refine go_run ?_ | (refine go_newP ?_; clear hw; intro p w hw) | (refine go_newW ?_; clear hw; intro w hw) | (refine go_newS ?_; clear hw; intro s w hw))
  have hw2 := Sat.rd (Γ := []) (Δ := [OS tSuc 180 sl us, RdH (SucF t z (appL t z) (appL t z).length us), OS tInt 3 ov (appL t z)]) (φ := fun w => RSuc w t z sl us) (fun _ w h => ⟨h.rs 0 rfl, hul, h.rdE 1 rfl⟩) hw
  exact res_one (v := sl) rfl rfl ⟨sl, us, rfl, hw2⟩
end Go.Proofs.YtkmbenhffledpaaGreat
