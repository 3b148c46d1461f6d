
/-
  Contract of 'idastar.visit': a visit, as the plain recursion.
-/
import Derived.Test.YtkmbenhffledpaaGreatWSucG
import Derived.Test.YtkmbenhffledpaaGreatWEst3
import Derived.Test.YtkmbenhffledpaaGreatMTA
set_option linter.unusedSimpArgs false
set_option linter.unusedVariables false
namespace Go.Proofs.YtkmbenhffledpaaGreat
open Go.Sl Go
attribute [local irreducible] vc opsW opsD opV opW PureV ReadV Thn Blk
instance inWVis1 : MapT Tryz.prog 137 9 3 := ⟨by kernel_rfl⟩
instance inWVis2 : ZeroV Tryz.prog 3 (.int .i64 0) := ⟨by kernel_rfl⟩
def irC : IR → Int | .goOn => 0 | .solved => 1 | .unknown => 2
def seaC (a b c d : Value) (pe pg : Addr) (lim exp bound next : Int) (mv pv bv : Value) : List Value := [a, b, c, d, .pointer (some pe), .pointer (some pg), .int .i64 lim, .int .i64 exp, .int .i64 bound, .int .i64 next, mv, pv, bv]
theorem satRot3 {w0 w : World} {A B C D : HP} {Γ : List HP} (h : Sat w0 w (A :: B :: C :: D :: Γ)) : Sat w0 w (B :: C :: D :: A :: Γ) := by
  have h1 : Sat w0 w (B :: A :: C :: D :: Γ) := h.swap
  have h2 : Sat w0 w (B :: C :: A :: D :: Γ) := h1.tailMono fun _ x => x.swap
  exact h2.tailMono fun _ x => SatL.cons_mono (fun _ y => y) (fun _ y => y.swap) x
theorem satRot3' {w0 w : World} {A B C D : HP} {Γ : List HP} (h : Sat w0 w (B :: C :: D :: A :: Γ)) : Sat w0 w (A :: B :: C :: D :: Γ) := h.focus 3 rfl
/-- What a visit reads. -/
structure VEnv (w0 : World) (Γ : List HP) (t : TTask) (H : List Int → Int) (a b c d : Value) (vs : List OpV) (pe pg : Addr) : Prop where
  tk : Kept w0 Γ fun w => RTask w a b c d vs t
  est : Kept w0 Γ fun w => REst w pe t H
  gen : Kept w0 Γ fun w => RGen w pg t
theorem VEnv.more {w0 : World} {Γ : List HP} {t : TTask} {H : List Int → Int} {a b c d : Value} {vs : List OpV} {pe pg : Addr} (h : VEnv w0 Γ t H a b c d vs pe pg) (A : HP) : VEnv w0 (A :: Γ) t H a b c d vs pe pg := ⟨h.tk.more A, h.est.more A, h.gen.more A⟩
structure VPre (t : TTask) (lim f : Nat) (s : List Int) (g : Int) (S : ISt) : Prop where
  ok : StateOk t.vars s
  g0 : 0 ≤ g
  g1 : g ≤ (S.exp : Int) * 1048576
  e1 : S.exp ≤ lim
  fu : lim - S.exp < f
  pl : S.path.length ≤ S.exp
def VisitOk (t : TTask) (H : List Int → Int) (lim : Nat) (bound : Int) (f : Nat) : Prop :=
  ∀ (w0 w : World) (Γ : List HP) (px pe pg : Addr) (a b c d mv pv bv sv : Value) (vs : List OpV) (kv : List (ByteArray × Value)) (s : List Int) (g : Int) (S : ISt),
    VEnv w0 Γ t H a b c d vs pe pg → Kept w0 Γ (fun w => RS tInt w sv s) → VPre t lim f s g S → VisR t.vars kv S.vis →
    Sat w0 w (Box px 139 (seaC a b c d pe pg (lim : Int) (S.exp : Int) bound S.next mv pv bv) :: MapO kStr mv kv :: OS tInt 3 pv S.path :: Γ) →
    Calls Tryz.prog 74 #[.pointer (some px), sv, .int .i64 g] w fun e w' => e = .returned (.int .i64 (irC (visF ⟨t, H, lim, bound⟩ f s g S).1)) ∧ ∃ pv' kv', VisR t.vars kv' (visF ⟨t, H, lim, bound⟩ f s g S).2.vis ∧
      Sat w0 w' (Box px 139 (seaC a b c d pe pg (lim : Int) ((visF ⟨t, H, lim, bound⟩ f s g S).2.exp : Int) bound (visF ⟨t, H, lim, bound⟩ f s g S).2.next mv pv' bv) :: MapO kStr mv kv' :: OS tInt 3 pv' (visF ⟨t, H, lim, bound⟩ f s g S).2.path :: Γ)
set_option maxRecDepth 8000 in
set_option maxHeartbeats 16000000 in
theorem visit_step {t : TTask} {H : List Int → Int} {lim : Nat} {bound : Int} {f : Nat} (hH : HOk t H) (hlim : lim ≤ 1048576) (ih : VisitOk t H lim bound f) : VisitOk t H lim bound (f + 1) := by
  intro w0 w Γ px pe pg a b c d mv pv bv sv vs kv z g S hE hS hP hV hw
  have hg := hH.good
  obtain ⟨hok, hg0, hg1, he1, hfu, hpl⟩ := hP
  have hvl := hg.vars
  have hsl := hok.1
  have hbytes := state_bytes hg hok
  obtain ⟨I, hI⟩ : ∃ I : IPar, I = ⟨t, H, lim, bound⟩ := ⟨_, rfl⟩
  rw [← hI]
  have hIt : I.t = t := by rw [hI]
  have hIH : I.H = H := by rw [hI]
  have hIl : I.lim = lim := by rw [hI]
  have hIb : I.bound = bound := by rw [hI]
  refine calls_of_vc (args := [.pointer (some px), sv, .int .i64 g]) mixed Tryz.func74 rfl (by kernel_rfl) (Nat.le_of_ble_eq_true rfl) ?_
  repeat (first | refine go_run ?_ | (refine go_newP ?_; clear hw; intro p w hw) | (refine go_newWr ?_; clear hw; intro w hw) | (refine go_newS ?_; clear hw; intro s w hw))
  refine vc_plan [.op 0, .op 1, .op 2, .op 3, .op 4, .op 5, .chk 3, .op 6, .op 7] hw (by kernel_rfl) ?_; clear hw; intro w hw
  repeat (first | refine go_run ?_ | (refine go_newP ?_; clear hw; intro p w hw) | (refine go_newWr ?_; clear hw; intro w hw) | (refine go_newS ?_; clear hw; intro s w hw))
  have hs1 := hS w [_, _, _] hw
  refine st_call rfl (key_spec hs1 (by omega) hbytes) ?_
  rintro _ w' ⟨rfl, hk'⟩
  replace hw := hw.call0 hk'
  clear hk'
  refine ⟨_, rfl, ?_⟩
  repeat (first | refine go_run ?_ | (refine go_newP ?_; clear hw; intro p w hw) | (refine go_newWr ?_; clear hw; intro w hw) | (refine go_newS ?_; clear hw; intro s w hw))
  refine st_mapUpdate (m := mv) (κ := kStr) (q := bstr z) (v := .int .i64 g) rfl rfl rfl hw inferInstance ?_
  clear hw
  intro w hw
  have hV1 := hV.put hg hok g
  repeat (first | refine go_run ?_ | (refine go_newP ?_; clear hw; intro p w hw) | (refine go_newWr ?_; clear hw; intro w hw) | (refine go_newS ?_; clear hw; intro s w hw))
  have hs2 := hS w [_, _, _] hw
  have ht2 := hE.tk w [_, _, _] hw
  refine st_call rfl (tHolds_spec ht2.goal hs2) ?_
  rintro _ w' ⟨⟨r, rfl, hr⟩, hk'⟩
  replace hw := hw.call0 hk'
  clear hk'
  refine ⟨_, rfl, ?_⟩
  cases r
  rotate_left
  · have hh : HoldFs z t.goal := hr.1 rfl
    have hv : visF I (f + 1) z g S = (.solved, S.put z g) := by rw [visF, if_pos (by rw [hIt]; exact hh)]
    rw [hv]
    repeat (first | refine go_run ?_ | (refine go_newP ?_; clear hw; intro p w hw) | (refine go_newWr ?_; clear hw; intro w hw) | (refine go_newS ?_; clear hw; intro s w hw))
    exact res_one (v := .int .i64 1) rfl rfl ⟨rfl, pv, _, hV1, hw⟩
  have hno : ¬ HoldFs z t.goal := fun h => by cases hr.2 h
  repeat (first | refine go_run ?_ | (refine go_newP ?_; clear hw; intro p w hw) | (refine go_newW ?_; clear hw; intro w hw) | (refine go_newS ?_; clear hw; intro s w hw))
  refine go_if (fun h1 => ?_) (fun h1 => ?_)
  · have hl : lim ≤ S.exp := by omega
    have hv : visF I (f + 1) z g S = (.unknown, S.put z g) := by rw [visF, if_neg (by rw [hIt]; exact hno), if_pos (by rw [hIl]; exact hl)]
    rw [hv]
    repeat (first | refine go_run ?_ | (refine go_newP ?_; clear hw; intro p w hw) | (refine go_newW ?_; clear hw; intro w hw) | (refine go_newS ?_; clear hw; intro s w hw))
    exact res_one (v := .int .i64 2) rfl rfl ⟨rfl, pv, _, hV1, hw⟩
  have hl : S.exp < lim := by omega
  obtain ⟨S1, hS1⟩ : ∃ S1 : ISt, S1 = (S.put z g).tick := ⟨_, rfl⟩
  have hS1e : S1.exp = S.exp + 1 := by rw [hS1]; rfl
  have hS1n : S1.next = S.next := by rw [hS1]; rfl
  have hS1p : S1.path = S.path := by rw [hS1]; rfl
  have hS1v : S1.vis = (S.put z g).vis := by rw [hS1]; rfl
  have hv : visF I (f + 1) z g S = loopV I (visF I f) z g (succsL t z) S1 := by rw [visF, if_neg (by rw [hIt]; exact hno), if_neg (by rw [hIl]; omega), hS1, hIt]
  rw [hv]
  have hV1' : VisR t.vars (mput kv (bstr z) (.int .i64 g)) S1.vis := by rw [hS1v]; exact hV1
  repeat (first | refine go_run ?_ | (refine go_newP ?_; clear hw; intro p w hw) | (refine go_newW ?_; clear hw; intro w hw) | (refine go_newS ?_; clear hw; intro s w hw))
  have hs3 := hS w [_, _, _] hw
  have hg3 := hE.gen w [_, _, _] hw
  refine st_call rfl (Successors_spec hg3 hg hs3 hok) ?_
  rintro _ w' ⟨sl, us, rfl, hk'⟩
  replace hw := hw.call1 hk'
  clear hk'
  refine ⟨_, rfl, ?_⟩
  have hw1 : Sat w0 w' (Box px 139 (seaC a b c d pe pg (lim : Int) (S1.exp : Int) bound S1.next mv pv bv) :: MapO kStr mv (mput kv (bstr z) (.int .i64 g)) :: OS tInt 3 pv S1.path :: RdH (fun w => RSuc w t z sl us) :: Γ) := by
    rw [hS1e, hS1n, hS1p]
    exact satRot3 hw
  clear hw
  have hw := hw1
  clear hw1
  have hE2 := hE.more (RdH fun w => RSuc w t z sl us)
  have hSu : Kept w0 (RdH (fun w => RSuc w t z sl us) :: Γ) (fun w => RSuc w t z sl us) := Kept.rd
  have hsu0 := hSu w' [_, _, _] hw
  have hsur := hsu0.rs
  have hsul := hsu0.len
  have hall : (appL t z).length = (succsL t z).length := by unfold appL; rw [List.length_map]
  have hcap : (succsL t z).length ≤ 4096 := by have h1 := appL_len (t := t) (s := z); have h2 := hg.ops; omega
  repeat (first | refine go_run ?_ | (refine go_newP ?_; clear hw; intro p w hw) | (refine go_newW ?_; clear hw; intro w hw) | (refine go_newS ?_; clear hw; intro s w hw))
  refine vc_loop [6, 8, 9, 10, 11, 12, 13, 51, 52, 53, 54, 55, 56, 57, 58, 59, 60, 61, 62, 63, 64, 65, 66, 67, 68, 69, 70, 71, 72, 73, 74, 75, 76, 77, 78, 79, 80, 81, 82, 83, 84, 85, 86, 87, 88, 89, 90, 91, 92, 93, 94, 95, 96, 97, 98, 99, 100, 101, 102, 103, 104, 105, 106, 107, 108, 109, 110, 111, 112, 113, 114, 115, 116, 117, 118, 119, 120, 121, 122, 123, 124, 125, 126, 127, 128, 129, 130, 131, 132, 133, 134, 135, 136, 137, 138, 139, 140, 141, 142, 143, 144, 145] (G := Nat × ISt × Value × List (ByteArray × Value)) (fun x => [(51, .int .i64 x.1)])
    (fun x w => x.1 ≤ (succsL t z).length ∧ loopV I (visF I f) z g ((succsL t z).drop x.1) x.2.1 = loopV I (visF I f) z g (succsL t z) S1 ∧ S.exp + 1 ≤ x.2.1.exp ∧ x.2.1.exp ≤ lim ∧ x.2.1.path.length + 1 ≤ x.2.1.exp ∧ VisR t.vars x.2.2.2 x.2.1.vis ∧
      Sat w0 w (Box px 139 (seaC a b c d pe pg (lim : Int) (x.2.1.exp : Int) bound x.2.1.next mv x.2.2.1 bv) :: MapO kStr mv x.2.2.2 :: OS tInt 3 x.2.2.1 x.2.1.path :: RdH (fun w => RSuc w t z sl us) :: Γ))
    (fun x => (succsL t z).length - x.1) (0, S1, pv, mput kv (bstr z) (.int .i64 g)) (fun _ => rfl) ⟨rfl, trivial⟩ ⟨Nat.zero_le _, rfl, by simp only; omega, by simp only; omega, by simp only; rw [hS1p]; omega, hV1', hw⟩ ?_
  clear hw
  rintro σ ⟨k, T, pv1, kv1⟩ w ⟨hk, hlp, hTe, hTl, hTp, hTV, hw⟩
  simp only at hk hlp hTe hTl hTp hTV hw
  have hsuw := hSu w [_, _, _] hw
  have hsuwr := hsuw.rs
  repeat (first | refine go_run ?_ | (refine go_newP ?_; clear hw; intro p w hw) | (refine go_newW ?_; clear hw; intro w hw) | (refine go_newS ?_; clear hw; intro s w hw))
  refine go_if (fun h2 => ?_) (fun h2 => ?_)
  · have hkl : k < (succsL t z).length := by omega
    have hka : k < (appL t z).length := by omega
    obtain ⟨op, hop⟩ : ∃ op : Nat, (succsL t z)[k] = op := ⟨_, rfl⟩
    have hopm : op ∈ succsL t z := by rw [← hop]; exact List.getElem_mem hkl
    obtain ⟨hopl, hopa⟩ := mem_succsL.1 hopm
    have hdrop : (succsL t z).drop k = op :: (succsL t z).drop (k + 1) := by rw [← hop]; exact List.drop_eq_getElem_cons hkl
    rw [hdrop] at hlp
    have happ : (appL t z).getD k tInt.dflt = (op : Int) := by
      unfold appL
      rw [getD_at (by rw [List.length_map]; exact hkl), List.getElem_map, hop]
    obtain ⟨hu1, hu2⟩ := hsuw.at_ k hka
    rw [happ] at hu1 hu2
    rw [Int.toNat_natCast] at hu2
    have hxo := succT_ok hg hok hopl
    have ouk := hu2.one
    have houk : (tSuc.enc (eget tSuc us k)).all Value.oneCell' = true := by
      show ((Value.int .i64 (eget tSuc us k).op).oneCell' && ((eget tSuc us k).st.oneCell' && true)) = true
      rw [ouk]; rfl
    obtain ⟨nv, hnv⟩ : ∃ nv, nv = (eget tSuc us k).st := ⟨_, rfl⟩
    rw [← hnv] at hu2 ouk
    have hen : tSuc.enc (eget tSuc us k) = [.int .i64 (op : Int), nv] := by
      show [Value.int .i64 (eget tSuc us k).op, (eget tSuc us k).st] = _
      rw [hu1, hnv]
    obtain ⟨x, hx⟩ : ∃ x : List Int, x = succT t z op := ⟨_, rfl⟩
    rw [← hx] at hu2 hxo
    have hKn : Kept w0 (RdH (fun w => RSuc w t z sl us) :: Γ) (fun w => RS tInt w nv x) := hSu.mono fun w h => by
      have := (h.at_ k hka).2
      rw [happ, Int.toNat_natCast, ← hnv, ← hx] at this
      exact this
    have hco0 := opC_rng hg hopl
    repeat (first | refine go_run ?_ | (refine go_newP ?_; clear hw; intro p w hw) | (refine go_newWr ?_; clear hw; intro w hw) | (refine go_newS ?_; clear hw; intro s w hw))
    obtain ⟨p8, hp8⟩ : ∃ p8, p8 = p := ⟨p, rfl⟩
    subst hp8
    replace hw : Sat w0 w (Box p8 180 [.int .i64 (op : Int), nv] :: Box px 139 (seaC a b c d pe pg (lim : Int) (T.exp : Int) bound T.next mv pv1 bv) :: MapO kStr mv kv1 :: OS tInt 3 pv1 T.path :: RdH (fun w => RSuc w t z sl us) :: Γ) := by rw [← hen]; exact hw
    refine go_draw ?_
    clear hw
    intro w hw
    have ht4 := hE2.tk w [_, _, _, _] hw
    have hdr4 := ht4.ops.rs
    have hdl4 := ht4.ops.len
    have hco : (eget tOp vs op).cost = opC t op := (ht4.ops.at_ op hopl).cost
    repeat (first | refine go_run ?_ | (refine go_newP ?_; clear hw; intro p w hw) | (refine go_newWr ?_; clear hw; intro w hw) | (refine go_newS ?_; clear hw; intro s w hw))
    rw [hco]
    obtain ⟨n, hn⟩ : ∃ n : Int, n = g + opC t op := ⟨_, rfl⟩
    rw [← hn]
    have hn0 : 0 ≤ n := by omega
    have hn1 : n ≤ (T.exp : Int) * 1048576 := by omega
    have hxl := hxo.1
    refine vc_cut [68, 69, 70, 71, 72, 73, 74, 75, 67, 76, 77, 10, 11] (G := Bool × Value) (fun g => [(10, g.2), (11, .bool g.1)]) (fun g w => (g.1 = (T.vis x).isSome ∧ ∀ o, T.vis x = some o → g.2 = .int .i64 o) ∧ Sat w0 w (Box p8 180 [.int .i64 (op : Int), nv] :: Box px 139 (seaC a b c d pe pg (lim : Int) (T.exp : Int) bound T.next mv pv1 bv) :: MapO kStr mv kv1 :: OS tInt 3 pv1 T.path :: RdH (fun w => RSuc w t z sl us) :: Γ) ) (fun _ => rfl) ?_ ?_
    · refine vc_plan [.op 0, .op 1, .op 2, .op 3, .op 4, .op 5, .op 6, .chk 3, .op 7, .op 8, .op 9, .op 10, .op 11, .op 12] hw (by kernel_rfl) ?_; clear hw; intro w hw
      repeat (first | refine go_run ?_ | (refine go_newP ?_; clear hw; intro p w hw) | (refine go_newWr ?_; clear hw; intro w hw) | (refine go_newS ?_; clear hw; intro s w hw))
      refine st_call rfl (key_spec (hKn w [_, _, _, _] hw) (by omega) (state_bytes hg hxo)) ?_
      rintro _ w' ⟨rfl, hk'⟩
      replace hw := hw.call0 hk'
      clear hk'
      refine ⟨_, rfl, ?_⟩
      repeat (first | refine go_run ?_ | (refine go_newP ?_; clear hw; intro p w hw) | (refine go_newWr ?_; clear hw; intro w hw) | (refine go_newS ?_; clear hw; intro s w hw))
      refine step_read rfl (rv_lookupOk (m := mv) (κ := kStr) (q := bstr x) rfl rfl hw inferInstance) ?_
      repeat (first | refine go_run ?_ | (refine go_newP ?_; clear hw; intro p w hw) | (refine go_newWr ?_; clear hw; intro w hw) | (refine go_newS ?_; clear hw; intro s w hw))
      obtain ⟨m1, m2⟩ := hTV.old hxo
      exact ⟨(_, _), ⟨rfl, rfl, trivial⟩, by repeat (first | exact agree_refl | (apply agree_upd rfl) | (apply agree_mix rfl) | (apply agree_sets rfl)), ⟨m1, m2⟩, hw⟩
    clear hw
    rintro σ1 ⟨gb, gv0⟩ w ⟨⟨hgb, hgv⟩, hw⟩
    simp only at hgb hgv
    refine vc_seq ?_
    refine vc_cut [78, 79, 80, 81, 82, 83] (G := Unit) (fun _ => [(83, .bool (oldLe T.vis x n))]) (fun _ w => Sat w0 w (Box p8 180 [.int .i64 (op : Int), nv] :: Box px 139 (seaC a b c d pe pg (lim : Int) (T.exp : Int) bound T.next mv pv1 bv) :: MapO kStr mv kv1 :: OS tInt 3 pv1 T.path :: RdH (fun w => RSuc w t z sl us) :: Γ) ) (fun _ => rfl) ?_ ?_
    · cases hold : T.vis x with
      | none =>
        rw [hold] at hgb
        have hgb2 : gb = false := hgb
        subst hgb2
        have hol : oldLe T.vis x n = false := by unfold oldLe; rw [hold]
        rw [hol]
        repeat (first | refine go_run ?_ | (refine go_newP ?_; clear hw; intro p w hw) | (refine go_newWr ?_; clear hw; intro w hw) | (refine go_newS ?_; clear hw; intro s w hw))
        exact ⟨(), ⟨rfl, trivial⟩, by repeat (first | exact agree_refl | (apply agree_upd rfl) | (apply agree_mix rfl) | (apply agree_sets rfl)), hw⟩
      | some o =>
        rw [hold] at hgb
        have hgb2 : gb = true := hgb
        subst hgb2
        have hgv2 := hgv o hold
        subst hgv2
        have hol : oldLe T.vis x n = decide (o ≤ n) := by unfold oldLe; rw [hold]
        rw [hol]
        repeat (first | refine go_run ?_ | (refine go_newP ?_; clear hw; intro p w hw) | (refine go_newWr ?_; clear hw; intro w hw) | (refine go_newS ?_; clear hw; intro s w hw))
        exact ⟨(), ⟨rfl, trivial⟩, by repeat (first | exact agree_refl | (apply agree_upd rfl) | (apply agree_mix rfl) | (apply agree_sets rfl)), hw⟩
    clear hw
    rintro σ2 _ w hw
    have eI1 : succT I.t z op = x := by rw [hIt, hx]
    have eI2 : g + opC I.t op = n := by rw [hIt, hn]
    cases holdb : oldLe T.vis x n with
    | true =>
      rw [loopV_old (by rw [eI1, eI2]; exact holdb)] at hlp
      repeat (first | refine go_run ?_ | (refine go_newP ?_; clear hw; intro p w hw) | (refine go_newW ?_; clear hw; intro w hw) | (refine go_newS ?_; clear hw; intro s w hw))
      exact ⟨(k + 1, T, pv1, kv1), ⟨rfl, trivial⟩, by repeat (first | exact agree_refl | (apply agree_upd rfl) | (apply agree_mix rfl) | (apply agree_sets rfl)), ⟨by simp only; omega, hlp, hTe, hTl, hTp, hTV, hw.tail⟩, by simp only; omega⟩
    | false =>
      have hold2 : ¬ oldLe T.vis (succT I.t z op) (g + opC I.t op) = true := by rw [eI1, eI2, holdb]; decide
      have hHn := hH.nn x
      have hHl := hH.le x
      have hest : estV t H x = H x := if_pos hxo
      repeat (first | refine go_run ?_ | (refine go_newP ?_; clear hw; intro p w hw) | (refine go_newWr ?_; clear hw; intro w hw) | (refine go_newS ?_; clear hw; intro s w hw))
      refine vc_plan [.op 0, .op 1, .op 2, .op 3, .op 4, .op 5, .op 6, .op 7] hw (by kernel_rfl) ?_; clear hw; intro w hw
      repeat (first | refine go_run ?_ | (refine go_newP ?_; clear hw; intro p w hw) | (refine go_newWr ?_; clear hw; intro w hw) | (refine go_newS ?_; clear hw; intro s w hw))
      refine st_call rfl (eValue_spec (hE2.est w [_, _, _, _] hw) (hKn w [_, _, _, _] hw)) ?_
      rintro _ w' ⟨rfl, hk'⟩
      replace hw := hw.call0 hk'
      clear hk'
      refine ⟨_, rfl, ?_⟩
      rw [hest]
      repeat (first | refine go_run ?_ | (refine go_newP ?_; clear hw; intro p w hw) | (refine go_newW ?_; clear hw; intro w hw) | (refine go_newS ?_; clear hw; intro s w hw))
      refine go_if (fun h4 => ?_) (fun h4 => ?_)
      · rw [loopV_inf hold2 (by rw [eI1, hIH]; exact h4)] at hlp
        repeat (first | refine go_run ?_ | (refine go_newP ?_; clear hw; intro p w hw) | (refine go_newW ?_; clear hw; intro w hw) | (refine go_newS ?_; clear hw; intro s w hw))
        exact ⟨(k + 1, T, pv1, kv1), ⟨rfl, trivial⟩, by repeat (first | exact agree_refl | (apply agree_upd rfl) | (apply agree_mix rfl) | (apply agree_sets rfl)), ⟨by simp only; omega, hlp, hTe, hTl, hTp, hTV, hw.tail⟩, by simp only; omega⟩
      have hfin : ¬ inf ≤ I.H (succT I.t z op) := by rw [eI1, hIH]; exact Int.not_le.2 h4
      repeat (first | refine go_run ?_ | (refine go_newP ?_; clear hw; intro p w hw) | (refine go_newW ?_; clear hw; intro w hw) | (refine go_newS ?_; clear hw; intro s w hw))
      refine go_if (fun h5 => ?_) (fun h5 => ?_)
      · rw [loopV_cut hold2 hfin (by rw [eI1, eI2, hIH, hIb]; exact h5)] at hlp
        repeat (first | refine go_run ?_ | (refine go_newP ?_; clear hw; intro p w hw) | (refine go_newW ?_; clear hw; intro w hw) | (refine go_newS ?_; clear hw; intro s w hw))
        replace hw : Sat w0 w (Box p8 180 [.int .i64 (op : Int), nv] :: Box px 139 (seaC a b c d pe pg (lim : Int) ((T.cut (n + H x)).exp : Int) bound (T.cut (n + H x)).next mv pv1 bv) :: MapO kStr mv kv1 :: OS tInt 3 pv1 (T.cut (n + H x)).path :: RdH (fun w => RSuc w t z sl us) :: Γ) := by
          have e : (if n + H x < T.next then n + H x else T.next) = (T.cut (n + H x)).next := by show _ = min T.next (n + H x); split <;> omega
          rw [← e]; exact hw
        rw [eI1, eI2, hIH] at hlp
        exact ⟨(k + 1, T.cut (n + H x), pv1, kv1), ⟨rfl, trivial⟩, by repeat (first | exact agree_refl | (apply agree_upd rfl) | (apply agree_mix rfl) | (apply agree_sets rfl)), ⟨by simp only; omega, hlp, hTe, hTl, hTp, hTV, hw.tail⟩, by simp only; omega⟩
      have hin : ¬ I.bound < g + opC I.t op + I.H (succT I.t z op) := by rw [eI1, eI2, hIH, hIb]; exact Int.not_lt.2 h5
      repeat (first | refine go_run ?_ | (refine go_newP ?_; clear hw; intro p w hw) | (refine go_newWr ?_; clear hw; intro w hw) | (refine go_newS ?_; clear hw; intro s w hw))
      refine vc_plan [.op 0, .op 1, .op 2, .op 3, .op 4, .op 5, .op 6, .op 7, .chk 4, .op 8, .op 9, .op 10, .op 11] hw (by kernel_rfl) ?_; clear hw; intro w hw
      repeat (first | refine go_run ?_ | (refine go_newP ?_; clear hw; intro p w hw) | (refine go_newWr ?_; clear hw; intro w hw) | (refine go_newS ?_; clear hw; intro s w hw))
      obtain ⟨pv3, hpv3⟩ : ∃ pv3, pv3 = s := ⟨s, rfl⟩
      subst hpv3
      have hw1 : Sat w0 w (Box px 139 (seaC a b c d pe pg (lim : Int) ((T.push op).exp : Int) bound (T.push op).next mv pv3 bv) :: MapO kStr mv kv1 :: OS tInt 3 pv3 (T.push op).path :: RdH (fun w => RSuc w t z sl us) :: Γ) := hw.tail.tail
      have hpl2 : (T.push op).path.length = T.path.length + 1 := by show (T.path ++ [(op : Int)]).length = _; simp
      have hpre : VPre t lim f x n (T.push op) := ⟨hxo, hn0, hn1, hTl, by show lim - T.exp < f; omega, by rw [hpl2]; exact hTp⟩
      have hmono := vis_mono I f x n (T.push op) (by rw [hIl]; exact hTl)
      refine st_call rfl (ih w0 w (RdH (fun w => RSuc w t z sl us) :: Γ) px pe pg a b c d mv pv3 bv nv vs kv1 x n (T.push op) hE2 hKn hpre hTV hw1) ?_
      clear hw hw1
      rintro _ w ⟨rfl, pv2, kv2, hV2, hw⟩
      refine ⟨_, rfl, ?_⟩
      rw [← hI] at hV2 hw ⊢
      cases hr2 : visF I f x n (T.push op) with
      | mk r2 S2 =>
        rw [hr2] at hV2 hw hmono
        obtain ⟨q1, q2, q3, q4, q5⟩ := hmono
        have q1' : T.exp ≤ S2.exp := q1
        have q2' : S2.exp ≤ lim := by rw [← hIl]; exact q2
        cases hrr : r2 with
        | goOn =>
          rw [hrr] at q3 hr2
          have hp2 : S2.path = T.path ++ [(op : Int)] := q3 rfl
          have hpl3 : S2.path.length = T.path.length + 1 := by rw [hp2]; simp
          rw [loopV_go (S' := S2) hold2 hfin hin (by rw [eI1, eI2]; exact hr2)] at hlp
          simp only at hV2 hw
          repeat (first | refine go_run ?_ | (refine go_newP ?_; clear hw; intro p w hw) | (refine go_newWr ?_; clear hw; intro w hw) | (refine go_newS ?_; clear hw; intro s w hw))
          refine vc_plan [.op 0, .op 1, .op 2, .op 3, .op 4, .op 5, .op 6, .op 7, .op 8, .op 9, .op 10, .op 11, .op 12, .op 13, .op 14] hw (by kernel_rfl) ?_; clear hw; intro w hw
          repeat (first | refine go_run ?_ | (refine go_newP ?_; clear hw; intro p w hw) | (refine go_newWr ?_; clear hw; intro w hw) | (refine go_newS ?_; clear hw; intro s w hw))
          replace hw := Sat.sub (s := pv2) (xs := S2.path) hw inferInstance 0 (((S2.path.length : Nat) : Int) - 1).toNat (by omega) (by omega)
          have hcut : cut S2.path 0 (((S2.path.length : Nat) : Int) - 1).toNat = S2.pop.path := by
            show (S2.path.take _).drop 0 = S2.path.dropLast
            rw [List.drop_zero, List.dropLast_eq_take]
            congr 1
            omega
          rw [hcut] at hw
          obtain ⟨pv4, hpv4⟩ : ∃ pv4, pv4 = ssub pv2 tInt.sz 0 (((S2.path.length : Nat) : Int) - 1).toNat := ⟨_, rfl⟩
          rw [← hpv4] at hw
          have opv4 := (hw.rs 2 rfl).one
          refine st_box (k := 11) (p := px) (v := pv4) rfl (by rw [hpv4]; rfl) opv4 hw inferInstance (by show 11 < 13; decide) ?_
          clear hw
          intro w hw
          have hpl4 : S2.pop.path.length = T.path.length := by show S2.path.dropLast.length = _; rw [List.length_dropLast]; omega
          repeat (first | refine go_run ?_ | (refine go_newP ?_; clear hw; intro p w hw) | (refine go_newWr ?_; clear hw; intro w hw) | (refine go_newS ?_; clear hw; intro s w hw))
          exact ⟨(k + 1, S2.pop, pv4, kv2), ⟨rfl, trivial⟩, by repeat (first | exact agree_refl | (apply agree_upd rfl) | (apply agree_mix rfl) | (apply agree_sets rfl)), ⟨by simp only; omega, hlp, by show S.exp + 1 ≤ S2.exp; omega, q2', by show S2.pop.path.length + 1 ≤ S2.exp; omega, hV2, hw⟩, by simp only; omega⟩
        | solved =>
          rw [hrr] at hr2
          rw [loopV_stop (r := .solved) (S' := S2) hold2 hfin hin (by rw [eI1, eI2]; exact hr2) (by decide)] at hlp
          rw [← hlp]
          simp only at hV2 hw
          repeat (first | refine go_run ?_ | (refine go_newP ?_; clear hw; intro p w hw) | (refine go_newWr ?_; clear hw; intro w hw) | (refine go_newS ?_; clear hw; intro s w hw))
          exact res_one (v := .int .i64 1) rfl rfl ⟨rfl, pv2, kv2, hV2, (satRot3' hw).tail⟩
        | unknown =>
          rw [hrr] at hr2
          rw [loopV_stop (r := .unknown) (S' := S2) hold2 hfin hin (by rw [eI1, eI2]; exact hr2) (by decide)] at hlp
          rw [← hlp]
          simp only at hV2 hw
          repeat (first | refine go_run ?_ | (refine go_newP ?_; clear hw; intro p w hw) | (refine go_newWr ?_; clear hw; intro w hw) | (refine go_newS ?_; clear hw; intro s w hw))
          exact res_one (v := .int .i64 2) rfl rfl ⟨rfl, pv2, kv2, hV2, (satRot3' hw).tail⟩
  have hke : k = (succsL t z).length := by omega
  subst hke
  rw [List.drop_of_length_le (Nat.le_refl _), loopV_nil] at hlp
  rw [← hlp]
  repeat (first | refine go_run ?_ | (refine go_newP ?_; clear hw; intro p w hw) | (refine go_newW ?_; clear hw; intro w hw) | (refine go_newS ?_; clear hw; intro s w hw))
  exact res_one (v := .int .i64 0) rfl rfl ⟨rfl, pv1, kv1, hTV, (satRot3' hw).tail⟩
theorem visit_spec {t : TTask} {H : List Int → Int} {lim : Nat} {bound : Int} (hH : HOk t H) (hlim : lim ≤ 1048576) : ∀ f, VisitOk t H lim bound f
  | 0 => fun _ _ _ _ _ _ _ _ _ _ _ _ _ _ _ _ _ _ _ _ _ h _ _ => absurd h.fu (Nat.not_lt_zero _)
  | f + 1 => visit_step hH hlim (visit_spec hH hlim f)
end Go.Proofs.YtkmbenhffledpaaGreat
