
/-
  Contract of 'project.put': a range over 'slices.Backward'.
-/
import Derived.Test.YtnoiagnmbipppaaWBack
import Derived.Test.YtnoiagnmbipppaaMTA
set_option linter.unusedSimpArgs false
set_option linter.unusedVariables false
namespace Go.Proofs.Ytnoiagnmbipppaa
open Go.Sl Go
attribute [local irreducible] vc opsW opsD opV opW PureV ReadV Thn Blk

def sndB {Q : Int × Int → Prop} (x : { p : Int × Int // Q p }) : Int := x.1.2
theorem revP_snd (L : List Int) : (revP L L.length).map (·.2) = L.reverse := by
  apply List.ext_getElem (by simp [revP])
  intro i h1 h2
  have h3 : i < L.length := by simpa using h2
  simp only [revP, List.map_map, List.getElem_map, List.getElem_range, Function.comp_apply, List.getElem_reverse]
  rw [getD_at (by omega)]

theorem Backward_spec {w0 : World} {a : Value} :
    Calls Try.prog 79 #[a] w0 fun e w' => ∃ pb, e = .returned (.func (.func 90) #[] #[.pointer (some pb)]) ∧ Sat w0 w' [Box pb 22 a.cells.toList] := by
  have hw := Sat.start w0
  refine calls_of_vc (args := [a]) mixed Try.func79 rfl (by kernel_rfl) (Nat.le_of_ble_eq_true rfl) ?_
  repeat (first | refine go_run ?_ | (refine go_newP ?_; clear hw; intro p w hw) | (refine go_newW ?_; clear hw; intro w hw) | (refine go_newS ?_; clear hw; intro s w hw))
  exact res_one (v := .func (.func 90) #[] #[.pointer (some p)]) rfl rfl ⟨p, rfl, hw⟩

set_option maxRecDepth 8000 in
set_option maxHeartbeats 2000000 in
theorem put_spec {w0 w : World} {Γ : List HP} {a b c d va s : Value} {vs : List OpV} {t : TTask} {L st : List Int} {n : Int} (ht : RTask w0 a b c d vs t) (hL : RS tInt w0 va L) (hw : Sat w0 w (OS tInt 3 s st :: Γ))
    (hp : ∀ x ∈ t.vars, 1 ≤ x) (hv : ∀ v ∈ L, 0 ≤ v ∧ v < t.vars.length) (hst : st.length = t.vars.length) (hn : 0 ≤ n) (hn2 : n ≤ 1099511627776) :
    Calls Try.prog 68 #[.agg #[a, b, c, d], va, s, .int .i64 n] w fun e w' => e = .returned (.tuple #[]) ∧ Sat w0 w' (OS tInt 3 s (putS t.vars L st n) :: Γ) := by
  obtain ⟨ha, hb, hc, hd⟩ := ht
  have hla := ha.big
  have hlL := hL.big
  have hsc : s.cells.toList = [s] := (hw.rs 0 rfl).cells1
  have hvc : va.cells.toList = [va] := hL.cells1
  refine (callsIn_wide (n := 3)).1 (callsIn_of_wp_marks (F := Fence.wide) (n := 3) Try.func68 rfl trivial ?_)
  refine wpIn_vcSeq (ro := none) (n := 31) mixed (by kernel_rfl) (by simp only [Array.size_append, Array.size_replicate]; rfl) rfl ?_
  rw [show (#[.agg #[a, b, c, d], va, s, .int .i64 n] : Array Value) = [.agg #[a, b, c, d], va, s, .int .i64 n].toArray from rfl, fr_args]
  refine vc_region ?_
  refine go_box ?_
  clear hw
  intro pt w hw
  refine go_box ?_
  clear hw
  intro ps w hw
  refine go_box ?_
  clear hw
  intro pn w hw
  refine ops_nil ?_
  refine thn_normal ?_
  intro a1 hs1 hd1 hf1
  refine wpIn_vcSeq (ro := none) (n := 31) mixed (by kernel_rfl) hs1 hd1 ?_
  rw [hf1]
  repeat (first | refine go_run ?_ | (refine go_newP ?_; clear hw; intro p w hw) | (refine go_newW ?_; clear hw; intro w hw) | (refine go_newS ?_; clear hw; intro s w hw))
  refine st_call rfl (Backward_spec (a := va)) ?_
  rintro _ w' ⟨pb, rfl, hk'⟩
  replace hw := hw.call1 hk'
  clear hk'
  rw [hvc, hsc] at hw
  refine ⟨_, rfl, ?_⟩
  repeat (first | refine go_run ?_ | (refine go_newP ?_; clear hw; intro p w hw) | (refine go_newW ?_; clear hw; intro w hw) | (refine go_newS ?_; clear hw; intro s w hw))
  intro a2 hs2 hd2 hf2
  clear hf1 hd1 hs1
  refine wpIn_block ?_
  have hdx : a2.defers = [] := hd2
  obtain ⟨W0, hW0⟩ : ∃ W0, W0 = w' := ⟨_, rfl⟩
  subst hW0
  have hB : w0.heap.size ≤ W0.heap.size := hw.below.size
  have hcb : W0.cell? pb = some va := box_cell0 (i := 0) hw rfl rfl
  have e9 : ∀ x : { p : Int × Int // 0 ≤ p.2 ∧ p.2 < t.vars.length }, fr (({ tmps := (#[12, 13].zip (encB x)).foldl (fun t (p, v) => t.setIfInBounds p v) a2.tmps, defers := [] } : Act).put (some 9) (.int .i64 x.1.2)) = upd (upd (upd (fr a2) 12 (.int .i64 x.1.1)) 13 (.int .i64 x.1.2)) 9 (.int .i64 x.1.2) := fun x => by
    rw [fr_put (fun t e => by cases e; rw [show (#[12, 13].zip (encB x)) = #[12, 13].zip #[.int .i64 x.1.1, .int .i64 x.1.2] from rfl, size_two, hs2]; decide)]
    rw [show (#[12, 13].zip (encB x)) = #[12, 13].zip #[.int .i64 x.1.1, .int .i64 x.1.2] from rfl, fr_two (by omega) (by omega)]
    have : (⟨a2.tmps, []⟩ : Act) = a2 := by rw [← hdx]
    rw [this]; rfl
  refine wpIn_rangeFunc_ownF (F := Fence.wide) (n := 3) (α := { p : Int × Int // 0 ≤ p.2 ∧ p.2 < t.vars.length }) rfl (by decide) (gf := 90) (lb := #[.pointer (some pb)]) (by rw [← evl_fr, hf2]; rfl) trivial (fun args w => CallT.run inferInstance args w)
    (backward_stops (n := 2) (Q := fun p => 0 ≤ p.2 ∧ p.2 < t.vars.length) (fun i hi => hv _ (mem_getD tInt.dflt hi)) hcb (hL.at hw))
    (fun h k => ⟨fun e => k.1 (h.1 e), fun e => k.2 (h.2 e)⟩) (fun W l o o' _ hl ho _ => ⟨putObj_cell hl ho, rs_putObj hl ho⟩) (Go.RowKit.Below.refl _ _) (fun _ => rfl)
    (fun pre W => W0.heap.size ≤ W.heap.size ∧ SatC W0.heap.size w0 W (Box pb 22 [va] :: Box pn 3 [.int .i64 (putR t.vars (pre.map sndB) st n).2] :: Box ps 22 [s] :: Box pt 26 [a, b, c, d] :: OS tInt 3 s (putR t.vars (pre.map sndB) st n).1 :: Γ))
    (fun _ _ _ => False) (SatC.own (Γ := fun pre => _) hB) (fun _ => fun _ _ _ _ h => h.elim) ⟨Nat.le_refl _, hw.toC⟩
    (fun x => ({ tmps := (#[12, 13].zip (encB x)).foldl (fun t (p, v) => t.setIfInBounds p v) a2.tmps, defers := [] } : Act).put (some 9) (.int .i64 x.1.2)) ?assign ?body ?done ?stop
  case assign =>
    intro l x W K hK
    refine wpIn_assign1 (ro := some l) mixed ?_ rfl ?_
    · rw [show (#[12, 13].zip (encB x)) = #[12, 13].zip #[.int .i64 x.1.1, .int .i64 x.1.2] from rfl, size_two, hs2]; decide
    · rw [show (#[12, 13].zip (encB x)) = #[12, 13].zip #[.int .i64 x.1.1, .int .i64 x.1.2] from rfl, fr_two (by omega) (by omega)]
      exact hK
  case body =>
    rintro l pre x W ⟨hsz, hC⟩ _
    obtain ⟨⟨xi, xv⟩, hx0, hx1⟩ := x
    simp only at hx0 hx1
    have hdom := hp _ (mem_getD tInt.dflt (show xv.toNat < t.vars.length by omega))
    have hln := putR_len t.vars (pre.map sndB) st n
    have hbd := putR_bd (s := st) (vs := pre.map sndB) hp hn fun v hv => by
      obtain ⟨y, _, rfl⟩ := List.mem_map.1 hv
      exact y.2
    have hsn := putR_snoc t.vars (pre.map sndB) st n xv
    obtain ⟨S, hS⟩ : ∃ S, S = putR t.vars (pre.map sndB) st n := ⟨_, rfl⟩
    rw [← hS] at hC hln hbd hsn
    obtain ⟨S1, S2⟩ := S
    simp only at hC hln hbd hsn
    refine wpIn_mono (vc_sound (ro := some l) (n := 31) mixed _ (by kernel_rfl) (fun e ρ W' => e = .normal ∧ Kept W W' ∧ SatC W0.heap.size w0 W' (Box pb 22 [va] :: Box pn 3 [.int .i64 (putF t.vars (S1, S2) xv).2] :: Box ps 22 [s] :: Box pt 26 [a, b, c, d] :: OS tInt 3 s (putF t.vars (S1, S2) xv).1 :: Γ)) _ _ ?_ rfl ?_) ?_
    · rw [size_put, show (#[12, 13].zip (encB _)) = #[12, 13].zip #[.int .i64 xi, .int .i64 xv] from rfl, size_two, hs2]
    · rw [e9, hf2]
      show vc _ _ _ (upd (upd (upd _ 12 (.int .i64 xi)) 13 (.int .i64 xv)) 9 (.int .i64 xv)) _
      clear hw
      have hw := hC.open hB
      refine vc_block ?_
      refine vc_seq ?_
      refine vc_drawZ hw (by decide +kernel) ?_
      clear hw
      intro w1 hk1 hw
      repeat (first | refine go_run ?_ | (refine go_newP ?_; clear hw; intro p w hw) | (refine go_newS ?_; clear hw; intro s w hw))
      refine st_elemZ (T := tInt) (s := s) (j := xv.toNat) (v := .int .i64 (S2.tmod (t.vars.getD xv.toNat tInt.dflt))) (x' := S2.tmod (t.vars.getD xv.toNat tInt.dflt)) rfl rfl rfl hw inferInstance (by omega) rfl ?_
      clear hw
      intro w2 hw hk2
      repeat (first | refine go_run ?_ | (refine go_newP ?_; clear hw; intro p w hw) | (refine go_newS ?_; clear hw; intro s w hw))
      refine vc_drawZ hw (by decide +kernel) ?_
      clear hw
      intro w3 hk3 hw
      repeat (first | refine go_run ?_ | (refine go_newP ?_; clear hw; intro p w hw) | (refine go_newS ?_; clear hw; intro s w hw))
      refine st_boxZ (k := 0) (p := pn) (v := .int .i64 (S2.tdiv (t.vars.getD xv.toNat tInt.dflt))) (by simp [Addr.add]; rfl) rfl rfl hw inferInstance (by simp) ?_
      clear hw
      intro w4 hw hk4
      repeat (first | refine go_run ?_ | (refine go_newP ?_; clear hw; intro p w hw) | (refine go_newS ?_; clear hw; intro s w hw))
      have hkk := ((hk1.trans hk2).trans hk3).trans hk4
      exact ⟨rfl, hkk, hw.close hkk.1⟩
    · intro e a' W' hq
      obtain ⟨_, _, rfl, hkk, hC'⟩ := hq
      have hw' := hC'.sat0
      refine ⟨hkk.others, ⟨fun _ => box_cell0 (i := 0) hw' rfl rfl, fun _ => hL.at hw'⟩, by rw [hkk.1]; exact hsz, ?_⟩
      rw [List.map_append, List.map_singleton, putR_snoc, ← hS]
      exact hC'
  case done =>
    rintro D xs W hD hS ⟨hsz, hC⟩ hK
    refine ⟨by simp, .inl ⟨_, _, rfl, run_takeDeferred hK, ?_⟩⟩
    rw [hdx]
    have hI := (SatC.own (Γ := fun pre : List { p : Int × Int // 0 ≤ p.2 ∧ p.2 < t.vars.length } => (Box pb 22 [va] :: Box pn 3 [.int .i64 (putR t.vars (pre.map sndB) st n).2] :: Box ps 22 [s] :: Box pt 26 [a, b, c, d] :: OS tInt 3 s (putR t.vars (pre.map sndB) st n).1 :: Γ)) hB).putObj (o' := .deferred none) ⟨hsz, hC⟩ hD hK rfl
    have hw' := hI.2.sat0
    have hxs : xs.map sndB = L.reverse := by
      have := congrArg (List.map (·.2)) hS
      rw [revP_snd, List.map_map] at this
      exact this
    rw [hxs] at hw'
    exact ⟨.tuple #[], by simp [results, Try.f68], rfl, hw'.tail.tail.tail.tail⟩
  case stop =>
    rintro D c pre W _ _ hF _
    exact hF.elim
end Go.Proofs.Ytnoiagnmbipppaa
