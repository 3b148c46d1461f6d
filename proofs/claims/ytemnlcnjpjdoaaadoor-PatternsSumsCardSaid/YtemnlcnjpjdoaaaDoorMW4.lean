/-
  Several texts as one: WSlices, WBack, WPut, WProj.
-/
import Derived.Test.YtemnlcnjpjdoaaaDoorMW3
import Derived.Test.YtemnlcnjpjdoaaaDoorMW2
import Derived.Test.YtemnlcnjpjdoaaaDoorMSlB
import Derived.Test.YtemnlcnjpjdoaaaDoorMTA
set_option linter.unusedSimpArgs false
set_option linter.unusedVariables false

/-
  Contracts of 'slices.Index', 'Contains' and 'Clone' over ints.
-/
namespace Go.Proofs.YtemnlcnjpjdoaaaDoor
open Go.Sl Go
attribute [local irreducible] vc opsW opsD opV opW PureV ReadV Thn Blk

set_option maxRecDepth 8000 in
theorem Index_spec {w0 : World} {a : Value} {xs : List Int} {v : Int} (ha : RS tInt w0 a xs) :
    Calls Tryd.prog 46 #[a, .int .i64 v] w0 fun e w' => (∃ r : Int, e = .returned (.int .i64 r) ∧ (0 ≤ r ↔ v ∈ xs)) ∧ Sat w0 w' [] := by
  have hla := ha.big
  have hw := Sat.start w0
  refine calls_of_vc (args := [a, .int .i64 v]) mixed Tryd.func46 rfl (by kernel_rfl) (Nat.le_of_ble_eq_true rfl) ?_
  repeat (first | refine go_run ?_ | (refine go_newP ?_; clear hw; intro p w hw) | (refine go_newW ?_; clear hw; intro w hw) | (refine go_newS ?_; clear hw; intro s w hw))
  refine vc_loop [4, 5, 8, 9, 10, 11, 12, 13, 14, 15, 16, 17, 18] (G := Nat) (fun k => [(8, .int .i64 k)]) (fun k w => k ≤ xs.length ∧ (∀ i, i < k → xs.getD i tInt.dflt ≠ v) ∧ Sat w0 w []) (fun k => xs.length - k) 0 (fun _ => rfl) ⟨rfl, trivial⟩ ⟨Nat.zero_le _, fun i hi => absurd hi (Nat.not_lt_zero _), hw⟩ ?_
  clear hw
  rintro σ k w ⟨hk, hpre, hw⟩
  repeat (first | refine go_run ?_ | (refine go_newP ?_; clear hw; intro p w hw) | (refine go_newW ?_; clear hw; intro w hw) | (refine go_newS ?_; clear hw; intro s w hw))
  refine go_if (fun h1 => ?_) (fun h1 => ?_)
  · have hkl : k < xs.length := by omega
    repeat (first | refine go_run ?_ | (refine go_newP ?_; clear hw; intro p w hw) | (refine go_newW ?_; clear hw; intro w hw) | (refine go_newS ?_; clear hw; intro s w hw))
    refine go_if (fun h2 => ?_) (fun h2 => ?_)
    · repeat (first | refine go_run ?_ | (refine go_newP ?_; clear hw; intro p w hw) | (refine go_newW ?_; clear hw; intro w hw) | (refine go_newS ?_; clear hw; intro s w hw))
      refine res_one (v := .int .i64 k) rfl rfl ⟨⟨k, rfl, ⟨fun _ => ?_, fun _ => by omega⟩⟩, hw⟩
      rw [h2]; exact mem_getD _ hkl
    · repeat (first | refine go_run ?_ | (refine go_newP ?_; clear hw; intro p w hw) | (refine go_newW ?_; clear hw; intro w hw) | (refine go_newS ?_; clear hw; intro s w hw))
      refine ⟨k + 1, ⟨rfl, trivial⟩, by repeat (first | exact agree_refl | (apply agree_upd rfl) | (apply agree_mix rfl) | (apply agree_sets rfl)), ⟨by omega, fun i hi => ?_, hw⟩, by omega⟩
      by_cases h : i = k
      · subst h; exact fun h => h2 h.symm
      · exact hpre i (by omega)
  · repeat (first | refine go_run ?_ | (refine go_newP ?_; clear hw; intro p w hw) | (refine go_newW ?_; clear hw; intro w hw) | (refine go_newS ?_; clear hw; intro s w hw))
    refine res_one (v := .int .i64 (-1)) rfl rfl ⟨⟨-1, rfl, ⟨fun h => by omega, fun h => ?_⟩⟩, hw⟩
    obtain ⟨i, hi, he⟩ := List.mem_iff_getElem.1 h
    exact absurd (by rw [getD_at hi]; exact he) (hpre i (by omega))

set_option maxRecDepth 8000 in
theorem Contains_spec {w0 : World} {a : Value} {xs : List Int} {v : Int} (ha : RS tInt w0 a xs) :
    Calls Tryd.prog 29 #[a, .int .i64 v] w0 fun e w' => e = .returned (.bool (decide (v ∈ xs))) ∧ Sat w0 w' [] := by
  have hw := Sat.start w0
  refine calls_of_vc (args := [a, .int .i64 v]) mixed Tryd.func29 rfl (by kernel_rfl) (Nat.le_of_ble_eq_true rfl) ?_
  repeat (first | refine go_run ?_ | (refine go_newP ?_; clear hw; intro p w hw) | (refine go_newW ?_; clear hw; intro w hw) | (refine go_newS ?_; clear hw; intro s w hw))
  refine st_call rfl (Index_spec ha) ?_
  rintro _ w' ⟨⟨r, rfl, hr⟩, hk'⟩
  replace hw := hw.call0 hk'
  clear hk'
  refine ⟨_, rfl, ?_⟩
  repeat (first | refine go_run ?_ | (refine go_newP ?_; clear hw; intro p w hw) | (refine go_newW ?_; clear hw; intro w hw) | (refine go_newS ?_; clear hw; intro s w hw))
  refine res_one (v := .bool (decide (0 ≤ r))) rfl rfl ⟨?_, hw⟩
  rw [decide_eq_decide.2 hr]

set_option maxRecDepth 8000 in
theorem Clone_spec {w0 : World} {a : Value} {xs : List Int} (ha : RS tInt w0 a xs) (hn : xs.length ≤ 1099511627776) :
    Calls Tryd.prog 12 #[a] w0 fun e w' => ∃ s, e = .returned s ∧ Sat w0 w' [OS tInt 3 s xs] := by
  have hw := Sat.start w0
  obtain ⟨ad, cap, hs⟩ := ha.shape
  subst hs
  refine calls_of_vc (args := [.slice ad xs.length cap]) mixed Tryd.func12 rfl (by kernel_rfl) (Nat.le_of_ble_eq_true rfl) ?_
  repeat (first | refine go_run ?_ | (refine go_newP ?_; clear hw; intro p w hw) | (refine go_newW ?_; clear hw; intro w hw) | (refine go_newS ?_; clear hw; intro s w hw))
  refine step_pure rfl (pv_eqlNilS (a := ad) (n := xs.length) (c := cap) rfl) ?_
  cases ad with
  | none =>
    have h0 : xs = [] := by
      rcases Nat.eq_zero_or_pos xs.length with h | h
      · exact List.eq_nil_of_length_eq_zero h
      · obtain ⟨p, c2, he, _⟩ := ha.some (by decide) h
        cases he
    subst h0
    repeat (first | refine go_run ?_ | (refine go_newP ?_; clear hw; intro p w hw) | (refine go_newW ?_; clear hw; intro w hw) | (refine go_newS ?_; clear hw; intro s w hw))
    exact res_one (v := .slice none 0 0) rfl rfl ⟨_, rfl, hw.nil⟩
  | some p =>
    repeat (first | refine go_run ?_ | (refine go_newP ?_; clear hw; intro p w hw) | (refine go_newW ?_; clear hw; intro w hw) | (refine go_newS ?_; clear hw; intro s w hw))
    refine st_buildSlice0 tInt hw ?_
    clear hw
    intro s1 w hw
    repeat (first | refine go_run ?_ | (refine go_newP ?_; clear hw; intro p w hw) | (refine go_newW ?_; clear hw; intro w hw) | (refine go_newS ?_; clear hw; intro s w hw))
    rw [List.nil_append] at hw
    exact res_one (v := s) rfl rfl ⟨_, rfl, hw⟩
end Go.Proofs.YtemnlcnjpjdoaaaDoor

/-
  The iterator of 'slices.Backward' over ints: its contract for whatever loop's body.
-/
namespace Go.Proofs.YtemnlcnjpjdoaaaDoor
open Go.Sl Go
attribute [local irreducible] vc opsW opsD opV opW PureV ReadV Thn Blk

/-- What has come when k rounds are over. -/
def revP (L : List Int) (k : Nat) : List (Int × Int) := (List.range k).map fun (j : Nat) => (((L.length : Int) - 1 - (j : Int)), L.getD (L.length - 1 - j) tInt.dflt)
theorem revP_succ (L : List Int) (k : Nat) : revP L (k + 1) = revP L k ++ [(((L.length : Int) - 1 - (k : Int)), L.getD (L.length - 1 - k) tInt.dflt)] := by simp [revP, List.range_succ]
def KpB (pb : Addr) (a : Value) (L : List Int) (W W' : World) : Prop := (W.cell? pb = some a → W'.cell? pb = some a) ∧ (RS tInt W a L → RS tInt W' a L)
def encB {Q : Int × Int → Prop} (x : { p : Int × Int // Q p }) : Array Value := #[.int .i64 x.1.1, .int .i64 x.1.2]

set_option maxRecDepth 8000 in
theorem backward_stops {n : Nat} {w0 : World} {pb : Addr} {a : Value} {L : List Int} {Q : Int × Int → Prop} (hQ : ∀ i : Nat, i < L.length → Q ((i : Int), L.getD i tInt.dflt)) (hc : w0.cell? pb = some a) (ha : RS tInt w0 a L) :
    SeqStopsK (α := { p : Int × Int // Q p }) Fence.wide n Tryd.prog 74 #[.pointer (some pb)] encB (KpB pb a L) (fun xs => xs.map (·.1) = revP L L.length) (fun _ => True) L.length w0 := by
  intro l J Jx W hb hJ hJx hY h0
  refine (callsIn_wide (n := n)).2 ?_
  have hc1 : W.cell? pb = some a := by
    have hlt : pb.block < w0.heap.size := by
      rcases Nat.lt_or_ge pb.block w0.heap.size with h | h
      · exact h
      · simp [World.cell?, Array.getElem?_eq_none h] at hc
    rw [hb.cell hlt]; exact hc
  have ha1 : RS tInt W a L := ⟨ha.1.below hb, ha.2⟩
  have hla := ha.big
  refine calls_of_vc (args := [.func (.yield l) #[] #[], .pointer (some pb)]) mixed Tryd.func74 rfl (by kernel_rfl) (Nat.le_of_ble_eq_true rfl) ?_
  repeat (first | refine go_run ?_ | (refine go_newP ?_; clear hw; intro p w hw) | (refine go_newW ?_; clear hw; intro w hw) | (refine go_newS ?_; clear hw; intro s w hw))
  refine step_read rfl (rv_cell rfl hc1) ?_
  repeat (first | refine go_run ?_ | (refine go_newP ?_; clear hw; intro p w hw) | (refine go_newW ?_; clear hw; intro w hw) | (refine go_newS ?_; clear hw; intro s w hw))
  refine vc_loop2 [3, 7, 8, 9, 10, 11, 12, 13, 14, 15, 16, 17, 18] (G := Nat) (H := List { p : Int × Int // Q p }) (fun k _ => [(3, .int .i64 ((L.length : Int) - 1 - (k : Int)))]) (fun k pre w => k ≤ L.length ∧ pre.map (·.1) = revP L k ∧ J pre w ∧ w.cell? pb = some a ∧ RS tInt w a L) (fun k _ => L.length - k) 0 [] (fun _ _ => rfl) ⟨by have e0 : ((L.length : Int) - 1 - ((0 : Nat) : Int)) = (L.length : Int) - 1 := (by omega); rw [e0]; rfl, trivial⟩ ⟨Nat.zero_le _, rfl, h0, hc1, ha1⟩ ?_
  clear hc1 ha1 h0
  rintro σ k pre w ⟨hk, hpre, hj, hc1, ha1⟩
  repeat (first | refine go_run ?_ | (refine go_newP ?_; clear hw; intro p w hw) | (refine go_newW ?_; clear hw; intro w hw) | (refine go_newS ?_; clear hw; intro s w hw))
  refine go_if (fun h1 => ?_) (fun h1 => ?_)
  · have hkl : k < L.length := by omega
    have hpl : pre.length = k := by have := congrArg List.length hpre; simpa [revP] using this
    have e1 : ((L.length : Int) - 1 - (k : Int)).toNat = L.length - 1 - k := by omega
    have e2 : ((L.length - 1 - k : Nat) : Int) = (L.length : Int) - 1 - (k : Int) := by omega
    have hx := hQ (L.length - 1 - k) (by omega)
    rw [e2] at hx
    have hy := hY pre ⟨_, hx⟩ w hj (by omega)
    repeat (first | refine go_run ?_ | (refine go_newP ?_; clear hw; intro p w hw) | (refine go_newW ?_; clear hw; intro w hw) | (refine go_newS ?_; clear hw; intro s w hw))
    refine step_read rfl (rv_cell rfl hc1) ?_
    repeat (first | refine go_run ?_ | (refine go_newP ?_; clear hw; intro p w hw) | (refine go_newW ?_; clear hw; intro w hw) | (refine go_newS ?_; clear hw; intro s w hw))
    rw [e1]
    refine st_yield (l := l) rfl rfl hy ?_
    rintro _ W' (⟨rfl, hj', hk1, hk2⟩ | ⟨rfl, hjx⟩)
    · refine ⟨_, rfl, ?_⟩
      repeat (first | refine go_run ?_ | (refine go_newP ?_; clear hw; intro p w hw) | (refine go_newW ?_; clear hw; intro w hw) | (refine go_newS ?_; clear hw; intro s w hw))
      refine ⟨k + 1, pre ++ [⟨_, hx⟩], ⟨?_, trivial⟩, by repeat (first | exact agree_refl | (apply agree_upd rfl) | (apply agree_mix rfl) | (apply agree_sets rfl)), ⟨by omega, ?_, hj', hk1 hc1, hk2 ha1⟩, by omega⟩
      · show Value.int .i64 _ = _
        congr 1; omega
      · rw [List.map_append, hpre, revP_succ]; rfl
    · refine ⟨_, rfl, ?_⟩
      repeat (first | refine go_run ?_ | (refine go_newP ?_; clear hw; intro p w hw) | (refine go_newW ?_; clear hw; intro w hw) | (refine go_newS ?_; clear hw; intro s w hw))
      exact res_none rfl ⟨⟨_, rfl⟩, .inr ⟨_, trivial, hjx⟩⟩
  · have hke : k = L.length := by omega
    subst hke
    repeat (first | refine go_run ?_ | (refine go_newP ?_; clear hw; intro p w hw) | (refine go_newW ?_; clear hw; intro w hw) | (refine go_newS ?_; clear hw; intro s w hw))
    exact res_none' rfl ⟨⟨_, rfl⟩, .inl ⟨pre, hpre, hj⟩⟩
end Go.Proofs.YtemnlcnjpjdoaaaDoor

/-
  Contract of 'project.put': a range over 'slices.Backward'.
-/
namespace Go.Proofs.YtemnlcnjpjdoaaaDoor
open Go.Sl Go
attribute [local irreducible] vc opsW opsD opV opW PureV ReadV Thn Blk

def sndB {Q : Int × Int → Prop} (x : { p : Int × Int // Q p }) : Int := x.1.2
theorem revP_snd (L : List Int) : (revP L L.length).map (·.2) = L.reverse := by
  apply List.ext_getElem (by simp [revP])
  intro i h1 h2
  have h3 : i < L.length := by simpa using h2
  simp only [revP, List.map_map, List.getElem_map, List.getElem_range, Function.comp_apply, List.getElem_reverse]
  rw [getD_at (by omega)]

theorem Backward_spec {w0 : World} {a : Value} :
    Calls Tryd.prog 54 #[a] w0 fun e w' => ∃ pb, e = .returned (.func (.func 74) #[] #[.pointer (some pb)]) ∧ Sat w0 w' [Box pb 24 a.cells.toList] := by
  have hw := Sat.start w0
  refine calls_of_vc (args := [a]) mixed Tryd.func54 rfl (by kernel_rfl) (Nat.le_of_ble_eq_true rfl) ?_
  repeat (first | refine go_run ?_ | (refine go_newP ?_; clear hw; intro p w hw) | (refine go_newW ?_; clear hw; intro w hw) | (refine go_newS ?_; clear hw; intro s w hw))
  exact res_one (v := .func (.func 74) #[] #[.pointer (some p)]) rfl rfl ⟨p, rfl, hw⟩

set_option maxRecDepth 8000 in
set_option maxHeartbeats 2000000 in
theorem put_spec {w0 w : World} {Γ : List HP} {a b c d va s : Value} {vs : List OpV} {t : TTask} {L st : List Int} {n : Int} (ht : RTask w0 a b c d vs t) (hL : RS tInt w0 va L) (hw : Sat w0 w (OS tInt 3 s st :: Γ))
    (hp : ∀ x ∈ t.vars, 1 ≤ x) (hv : ∀ v ∈ L, 0 ≤ v ∧ v < t.vars.length) (hst : st.length = t.vars.length) (hn : 0 ≤ n) (hn2 : n ≤ 1099511627776) :
    Calls Tryd.prog 39 #[.agg #[a, b, c, d], va, s, .int .i64 n] w fun e w' => e = .returned (.tuple #[]) ∧ Sat w0 w' (OS tInt 3 s (putS t.vars L st n) :: Γ) := by
  obtain ⟨ha, hb, hc, hd⟩ := ht
  have hla := ha.big
  have hlL := hL.big
  have hsc : s.cells.toList = [s] := (hw.rs 0 rfl).cells1
  have hvc : va.cells.toList = [va] := hL.cells1
  refine (callsIn_wide (n := 3)).1 (callsIn_of_wp_marks (F := Fence.wide) (n := 3) Tryd.func39 rfl trivial ?_)
  refine wpIn_vcSeq (ro := none) (n := 31) mixed (by kernel_rfl) (by simp only [Array.size_append, Array.size_replicate]; rfl) rfl ?_
  rw [show (#[.agg #[a, b, c, d], va, s, .int .i64 n] : Array Value) = [.agg #[a, b, c, d], va, s, .int .i64 n].toArray from rfl, fr_args]
  refine vc_region ?_
  refine go_box ?_
  clear hw
  intro pt w hw
  refine go_box ?_
  clear hw
  intro ps w hw
  refine go_box ?_
  clear hw
  intro pn w hw
  refine ops_nil ?_
  refine thn_normal ?_
  intro a1 hs1 hd1 hf1
  refine wpIn_vcSeq (ro := none) (n := 31) mixed (by kernel_rfl) hs1 hd1 ?_
  rw [hf1]
  repeat (first | refine go_run ?_ | (refine go_newP ?_; clear hw; intro p w hw) | (refine go_newW ?_; clear hw; intro w hw) | (refine go_newS ?_; clear hw; intro s w hw))
  refine st_call rfl (Backward_spec (a := va)) ?_
  rintro _ w' ⟨pb, rfl, hk'⟩
  replace hw := hw.call1 hk'
  clear hk'
  rw [hvc, hsc] at hw
  refine ⟨_, rfl, ?_⟩
  repeat (first | refine go_run ?_ | (refine go_newP ?_; clear hw; intro p w hw) | (refine go_newW ?_; clear hw; intro w hw) | (refine go_newS ?_; clear hw; intro s w hw))
  intro a2 hs2 hd2 hf2
  clear hf1 hd1 hs1
  refine wpIn_block ?_
  have hdx : a2.defers = [] := hd2
  obtain ⟨W0, hW0⟩ : ∃ W0, W0 = w' := ⟨_, rfl⟩
  subst hW0
  have hB : w0.heap.size ≤ W0.heap.size := hw.below.size
  have hcb : W0.cell? pb = some va := box_cell0 (i := 0) hw rfl rfl
  have e9 : ∀ x : { p : Int × Int // 0 ≤ p.2 ∧ p.2 < t.vars.length }, fr (({ tmps := (#[12, 13].zip (encB x)).foldl (fun t (p, v) => t.setIfInBounds p v) a2.tmps, defers := [] } : Act).put (some 9) (.int .i64 x.1.2)) = upd (upd (upd (fr a2) 12 (.int .i64 x.1.1)) 13 (.int .i64 x.1.2)) 9 (.int .i64 x.1.2) := fun x => by
    rw [fr_put (fun t e => by cases e; rw [show (#[12, 13].zip (encB x)) = #[12, 13].zip #[.int .i64 x.1.1, .int .i64 x.1.2] from rfl, size_two, hs2]; decide)]
    rw [show (#[12, 13].zip (encB x)) = #[12, 13].zip #[.int .i64 x.1.1, .int .i64 x.1.2] from rfl, fr_two (by omega) (by omega)]
    have : (⟨a2.tmps, []⟩ : Act) = a2 := by rw [← hdx]
    rw [this]; rfl
  refine wpIn_rangeFunc_ownF (F := Fence.wide) (n := 3) (α := { p : Int × Int // 0 ≤ p.2 ∧ p.2 < t.vars.length }) rfl (by decide) (gf := 74) (lb := #[.pointer (some pb)]) (by rw [← evl_fr, hf2]; rfl) trivial (fun args w => CallT.run inferInstance args w)
    (backward_stops (n := 2) (Q := fun p => 0 ≤ p.2 ∧ p.2 < t.vars.length) (fun i hi => hv _ (mem_getD tInt.dflt hi)) hcb (hL.at hw))
    (fun h k => ⟨fun e => k.1 (h.1 e), fun e => k.2 (h.2 e)⟩) (fun W l o o' _ hl ho _ => ⟨putObj_cell hl ho, rs_putObj hl ho⟩) (Go.RowKit.Below.refl _ _) (fun _ => rfl)
    (fun pre W => W0.heap.size ≤ W.heap.size ∧ SatC W0.heap.size w0 W (Box pb 24 [va] :: Box pn 3 [.int .i64 (putR t.vars (pre.map sndB) st n).2] :: Box ps 24 [s] :: Box pt 28 [a, b, c, d] :: OS tInt 3 s (putR t.vars (pre.map sndB) st n).1 :: Γ))
    (fun _ _ _ => False) (SatC.own (Γ := fun pre => _) hB) (fun _ => fun _ _ _ _ h => h.elim) ⟨Nat.le_refl _, hw.toC⟩
    (fun x => ({ tmps := (#[12, 13].zip (encB x)).foldl (fun t (p, v) => t.setIfInBounds p v) a2.tmps, defers := [] } : Act).put (some 9) (.int .i64 x.1.2)) ?assign ?body ?done ?stop
  case assign =>
    intro l x W K hK
    refine wpIn_assign1 (ro := some l) mixed ?_ rfl ?_
    · rw [show (#[12, 13].zip (encB x)) = #[12, 13].zip #[.int .i64 x.1.1, .int .i64 x.1.2] from rfl, size_two, hs2]; decide
    · rw [show (#[12, 13].zip (encB x)) = #[12, 13].zip #[.int .i64 x.1.1, .int .i64 x.1.2] from rfl, fr_two (by omega) (by omega)]
      exact hK
  case body =>
    rintro l pre x W ⟨hsz, hC⟩ _
    obtain ⟨⟨xi, xv⟩, hx0, hx1⟩ := x
    simp only at hx0 hx1
    have hdom := hp _ (mem_getD tInt.dflt (show xv.toNat < t.vars.length by omega))
    have hln := putR_len t.vars (pre.map sndB) st n
    have hbd := putR_bd (s := st) (vs := pre.map sndB) hp hn fun v hv => by
      obtain ⟨y, _, rfl⟩ := List.mem_map.1 hv
      exact y.2
    have hsn := putR_snoc t.vars (pre.map sndB) st n xv
    obtain ⟨S, hS⟩ : ∃ S, S = putR t.vars (pre.map sndB) st n := ⟨_, rfl⟩
    rw [← hS] at hC hln hbd hsn
    obtain ⟨S1, S2⟩ := S
    simp only at hC hln hbd hsn
    refine wpIn_mono (vc_sound (ro := some l) (n := 31) mixed _ (by kernel_rfl) (fun e ρ W' => e = .normal ∧ Kept W W' ∧ SatC W0.heap.size w0 W' (Box pb 24 [va] :: Box pn 3 [.int .i64 (putF t.vars (S1, S2) xv).2] :: Box ps 24 [s] :: Box pt 28 [a, b, c, d] :: OS tInt 3 s (putF t.vars (S1, S2) xv).1 :: Γ)) _ _ ?_ rfl ?_) ?_
    · rw [size_put, show (#[12, 13].zip (encB _)) = #[12, 13].zip #[.int .i64 xi, .int .i64 xv] from rfl, size_two, hs2]
    · rw [e9, hf2]
      show vc _ _ _ (upd (upd (upd _ 12 (.int .i64 xi)) 13 (.int .i64 xv)) 9 (.int .i64 xv)) _
      clear hw
      have hw := hC.open hB
      refine vc_block ?_
      refine vc_seq ?_
      refine vc_drawZ hw (by decide +kernel) ?_
      clear hw
      intro w1 hk1 hw
      repeat (first | refine go_run ?_ | (refine go_newP ?_; clear hw; intro p w hw) | (refine go_newS ?_; clear hw; intro s w hw))
      refine st_elemZ (T := tInt) (s := s) (j := xv.toNat) (v := .int .i64 (S2.tmod (t.vars.getD xv.toNat tInt.dflt))) (x' := S2.tmod (t.vars.getD xv.toNat tInt.dflt)) rfl rfl rfl hw inferInstance (by omega) rfl ?_
      clear hw
      intro w2 hw hk2
      repeat (first | refine go_run ?_ | (refine go_newP ?_; clear hw; intro p w hw) | (refine go_newS ?_; clear hw; intro s w hw))
      refine vc_drawZ hw (by decide +kernel) ?_
      clear hw
      intro w3 hk3 hw
      repeat (first | refine go_run ?_ | (refine go_newP ?_; clear hw; intro p w hw) | (refine go_newS ?_; clear hw; intro s w hw))
      refine st_boxZ (k := 0) (p := pn) (v := .int .i64 (S2.tdiv (t.vars.getD xv.toNat tInt.dflt))) (by simp [Addr.add]; rfl) rfl rfl hw inferInstance (by simp) ?_
      clear hw
      intro w4 hw hk4
      repeat (first | refine go_run ?_ | (refine go_newP ?_; clear hw; intro p w hw) | (refine go_newS ?_; clear hw; intro s w hw))
      have hkk := ((hk1.trans hk2).trans hk3).trans hk4
      exact ⟨rfl, hkk, hw.close hkk.1⟩
    · intro e a' W' hq
      obtain ⟨_, _, rfl, hkk, hC'⟩ := hq
      have hw' := hC'.sat0
      refine ⟨hkk.others, ⟨fun _ => box_cell0 (i := 0) hw' rfl rfl, fun _ => hL.at hw'⟩, by rw [hkk.1]; exact hsz, ?_⟩
      rw [List.map_append, List.map_singleton, putR_snoc, ← hS]
      exact hC'
  case done =>
    rintro D xs W hD hS ⟨hsz, hC⟩ hK
    refine ⟨by simp, .inl ⟨_, _, rfl, run_takeDeferred hK, ?_⟩⟩
    rw [hdx]
    have hI := (SatC.own (Γ := fun pre : List { p : Int × Int // 0 ≤ p.2 ∧ p.2 < t.vars.length } => (Box pb 24 [va] :: Box pn 3 [.int .i64 (putR t.vars (pre.map sndB) st n).2] :: Box ps 24 [s] :: Box pt 28 [a, b, c, d] :: OS tInt 3 s (putR t.vars (pre.map sndB) st n).1 :: Γ)) hB).putObj (o' := .deferred none) ⟨hsz, hC⟩ hD hK rfl
    have hw' := hI.2.sat0
    have hxs : xs.map sndB = L.reverse := by
      have := congrArg (List.map (·.2)) hS
      rw [revP_snd, List.map_map] at this
      exact this
    rw [hxs] at hw'
    exact ⟨.tuple #[], by simp [results, Tryd.f39], rfl, hw'.tail.tail.tail.tail⟩
  case stop =>
    rintro D c pre W _ _ hF _
    exact hF.elim
end Go.Proofs.YtemnlcnjpjdoaaaDoor

/-
  Contracts of 'project.check', 'count', 'number', 'has', 'outside'.
-/
namespace Go.Proofs.YtemnlcnjpjdoaaaDoor
open Go.Sl Go
attribute [local irreducible] vc opsW opsD opV opW PureV ReadV Thn Blk

instance (vars p : List Int) : Decidable (PatOk vars p) := by unfold PatOk; infer_instance
noncomputable def chkP (t : TTask) (p : List Int) : Int := if checkT t ≠ 0 then checkT t else if PatOk t.vars p then 0 else 2
set_option maxRecDepth 8000 in
set_option maxHeartbeats 2000000 in
theorem pcheck_spec {w0 : World} {a b c d va : Value} {vs : List OpV} {t : TTask} {L : List Int} (ht : RTask w0 a b c d vs t) (hp : RS tInt w0 va L) :
    Calls Tryd.prog 35 #[.agg #[a, b, c, d], va] w0 fun e w' => e = .returned (errV (chkP t L)) ∧ Sat w0 w' [] := by
  have ht' := ht
  obtain ⟨ha, hb, hc, hd⟩ := ht
  have hla := ha.big
  have hlp := hp.big
  have hw := Sat.start w0
  refine calls_of_vc (args := [.agg #[a, b, c, d], va]) mixed Tryd.func35 rfl (by kernel_rfl) (Nat.le_of_ble_eq_true rfl) ?_
  repeat (first | refine go_run ?_ | (refine go_newP ?_; clear hw; intro p w hw) | (refine go_newW ?_; clear hw; intro w hw) | (refine go_newS ?_; clear hw; intro s w hw))
  obtain ⟨pt, hpt⟩ : ∃ pt, pt = p := ⟨p, rfl⟩
  subst hpt
  refine st_call rfl (Check_spec (ht'.at hw)) ?_
  rintro _ w' ⟨rfl, hk'⟩
  replace hw := hw.call0 hk'
  clear hk'
  refine ⟨_, rfl, ?_⟩
  by_cases hk : checkT t = 0
  · rw [errV_zero hk]
    repeat (first | refine go_run ?_ | (refine go_newP ?_; clear hw; intro p w hw) | (refine go_newW ?_; clear hw; intro w hw) | (refine go_newS ?_; clear hw; intro s w hw))
    refine vc_loop [4, 6, 7, 15, 16, 17, 18, 19, 20, 21, 22, 23, 24, 25, 26, 27, 28, 29, 30, 31, 32, 33, 34, 35, 36, 37, 38, 39, 40, 41, 42, 43] (G := Nat) (fun k => [(15, .int .i64 k)]) (fun k w => k ≤ L.length ∧ (∀ i, i < k → (0 ≤ L.getD i tInt.dflt ∧ L.getD i tInt.dflt < t.vars.length) ∧ (0 < i → L.getD (i - 1) tInt.dflt < L.getD i tInt.dflt)) ∧ Sat w0 w [Box pt 28 [a, b, c, d]]) (fun k => L.length - k) 0 (fun _ => rfl) ⟨rfl, trivial⟩ ⟨Nat.zero_le _, fun i hi => absurd hi (Nat.not_lt_zero _), hw⟩ ?_
    clear hw
    rintro σ k w ⟨hk1, hpre, hw⟩
    repeat (first | refine go_run ?_ | (refine go_newP ?_; clear hw; intro p w hw) | (refine go_newW ?_; clear hw; intro w hw) | (refine go_newS ?_; clear hw; intro s w hw))
    refine go_if (fun h1 => ?_) (fun h1 => ?_)
    · have hkl : k < L.length := by omega
      have e1 : ((k : Int) - 1).toNat = k - 1 := by omega
      repeat (first | refine go_run ?_ | (refine go_newP ?_; clear hw; intro p w hw) | (refine go_newW ?_; clear hw; intro w hw) | (refine go_newS ?_; clear hw; intro s w hw))
      refine go_if (fun h2 => ?_) (fun h2 => ?_)
      · repeat (first | refine go_run ?_ | (refine go_newP ?_; clear hw; intro p w hw) | (refine go_newW ?_; clear hw; intro w hw) | (refine go_newS ?_; clear hw; intro s w hw))
        refine res_one (v := errV 2) rfl (by rw [errV_some (by decide)]; rfl) ⟨?_, hw.tail⟩
        rw [chkP, if_neg (by simp [hk]), if_neg]
        intro hpk
        have h3 := hpk k hkl
        rw [e1] at h2
        rcases h2 with (h2 | h2) | ⟨h2, h4⟩
        · omega
        · omega
        · have := h3.2 (by omega); omega
      · rw [e1] at h2
        repeat (first | refine go_run ?_ | (refine go_newP ?_; clear hw; intro p w hw) | (refine go_newW ?_; clear hw; intro w hw) | (refine go_newS ?_; clear hw; intro s w hw))
        refine ⟨k + 1, ⟨rfl, trivial⟩, by repeat (first | exact agree_refl | (apply agree_upd rfl) | (apply agree_mix rfl) | (apply agree_sets rfl)), ⟨by omega, fun i hi => ?_, hw⟩, by omega⟩
        by_cases h : i = k
        · subst h; exact ⟨by omega, fun h0 => by omega⟩
        · exact hpre i (by omega)
    · repeat (first | refine go_run ?_ | (refine go_newP ?_; clear hw; intro p w hw) | (refine go_newW ?_; clear hw; intro w hw) | (refine go_newS ?_; clear hw; intro s w hw))
      refine res_one (v := errV 0) rfl (by rw [errV_zero rfl]; rfl) ⟨?_, hw.tail⟩
      rw [chkP, if_neg (by simp [hk]), if_pos]
      intro i hi
      exact hpre i (by omega)
  · rw [errV_some hk]
    repeat (first | refine go_run ?_ | (refine go_newP ?_; clear hw; intro p w hw) | (refine go_newW ?_; clear hw; intro w hw) | (refine go_newS ?_; clear hw; intro s w hw))
    refine res_one (v := errV (checkT t)) rfl (by rw [errV_some hk]; rfl) ⟨?_, hw.tail⟩
    rw [chkP, if_pos hk]

theorem cntL_take {vars L : List Int} (hd : ∀ x ∈ vars, 1 ≤ x) (hL : ∀ v ∈ L, 0 ≤ v ∧ v < vars.length) (k : Nat) : cntL vars (L.take k) ≤ cntL vars L := by
  have h1 : valsL vars (L.take k) = (valsL vars L).take k := by simp [valsL, List.map_take]
  rw [cntL, h1]; exact prodL_take (valsL_pos hd hL) k
theorem cntL_takeS {vars L : List Int} {k : Nat} (hk : k < L.length) : cntL vars (L.take (k + 1)) = cntL vars (L.take k) * sg vars (L.getD k tInt.dflt) := by
  rw [take_snoc tInt.dflt hk, cntL_snoc]
theorem idxL_takeS {vars L s : List Int} {k : Nat} (hk : k < L.length) : idxL vars (L.take (k + 1)) s = idxL vars (L.take k) s * sg vars (L.getD k tInt.dflt) + sg s (L.getD k tInt.dflt) := by
  rw [take_snoc tInt.dflt hk, idxL_snoc]

set_option maxRecDepth 8000 in
set_option maxHeartbeats 2000000 in
theorem count_spec {w0 : World} {a b c d va : Value} {vs : List OpV} {t : TTask} {L : List Int} (ht : RTask w0 a b c d vs t) (hp : RS tInt w0 va L) (hg : GoodT t) (hL : ∀ v ∈ L, 0 ≤ v ∧ v < t.vars.length) :
    Calls Tryd.prog 36 #[.agg #[a, b, c, d], va] w0 fun e w' => e = .returned (.tuple (if cntL t.vars L ≤ 4096 then #[.int .i64 (cntL t.vars L), .bool true] else #[.int .i64 0, .bool false])) ∧ Sat w0 w' [] := by
  obtain ⟨ha, hb, hc, hd⟩ := ht
  have hla := ha.big
  have hlp := hp.big
  have hw := Sat.start w0
  refine calls_of_vc (args := [.agg #[a, b, c, d], va]) mixed Tryd.func36 rfl (by kernel_rfl) (Nat.le_of_ble_eq_true rfl) ?_
  repeat (first | refine go_run ?_ | (refine go_newP ?_; clear hw; intro p w hw) | (refine go_newW ?_; clear hw; intro w hw) | (refine go_newS ?_; clear hw; intro s w hw))
  obtain ⟨pt, hpt⟩ : ∃ pt, pt = p := ⟨p, rfl⟩
  subst hpt
  refine vc_loop2 [4, 5, 6, 8, 11, 12, 13, 14, 15, 16, 17, 18, 19, 20, 21, 22, 23, 24] (G := Nat) (H := Int) (fun k n => [(11, .int .i64 k), (6, .int .i64 n)]) (fun k n w => k ≤ L.length ∧ n = cntL t.vars (L.take k) ∧ n ≤ 4096 ∧ Sat w0 w [Box pt 28 [a, b, c, d]]) (fun k _ => L.length - k) 0 1 (fun _ _ => rfl) ⟨rfl, rfl, trivial⟩ ⟨Nat.zero_le _, rfl, by decide, hw⟩ ?_
  clear hw
  rintro σ k n w ⟨hk, hn, hnm, hw⟩
  repeat (first | refine go_run ?_ | (refine go_newP ?_; clear hw; intro p w hw) | (refine go_newW ?_; clear hw; intro w hw) | (refine go_newS ?_; clear hw; intro s w hw))
  refine go_if (fun h1 => ?_) (fun h1 => ?_)
  · have hkl : k < L.length := by omega
    have hv := hL _ (mem_getD tInt.dflt hkl)
    have hdm := hg.dom (L.getD k tInt.dflt).toNat (by omega)
    have hpos : 1 ≤ n := by rw [hn]; exact cntL_pos hg.pos fun v hv => hL v (List.mem_of_mem_take hv)
    have hS : cntL t.vars (L.take (k + 1)) = n * sg t.vars (L.getD k tInt.dflt) := by rw [cntL_takeS hkl, hn]
    have hle := cntL_take hg.pos hL (k + 1)
    simp only [sg] at hS
    have b0 : 0 ≤ n * t.vars.getD (L.getD k tInt.dflt).toNat tInt.dflt := Int.mul_nonneg (by omega) (by omega)
    have b1 : n * t.vars.getD (L.getD k tInt.dflt).toNat tInt.dflt ≤ 4096 * 64 := Int.mul_le_mul hnm (by omega) (by omega) (by omega)
    repeat (first | refine go_run ?_ | (refine go_newP ?_; clear hw; intro p w hw) | (refine go_newW ?_; clear hw; intro w hw) | (refine go_newS ?_; clear hw; intro s w hw))
    refine go_if (fun h2 => ?_) (fun h2 => ?_)
    · repeat (first | refine go_run ?_ | (refine go_newP ?_; clear hw; intro p w hw) | (refine go_newW ?_; clear hw; intro w hw) | (refine go_newS ?_; clear hw; intro s w hw))
      refine res_two (v := .int .i64 0) (v' := .bool false) rfl rfl rfl ⟨?_, hw.tail⟩
      rw [if_neg (by omega)]
    · repeat (first | refine go_run ?_ | (refine go_newP ?_; clear hw; intro p w hw) | (refine go_newW ?_; clear hw; intro w hw) | (refine go_newS ?_; clear hw; intro s w hw))
      exact ⟨k + 1, _, ⟨rfl, rfl, trivial⟩, by repeat (first | exact agree_refl | (apply agree_upd rfl) | (apply agree_mix rfl) | (apply agree_sets rfl)), ⟨by omega, hS.symm, by omega, hw⟩, by omega⟩
  · repeat (first | refine go_run ?_ | (refine go_newP ?_; clear hw; intro p w hw) | (refine go_newW ?_; clear hw; intro w hw) | (refine go_newS ?_; clear hw; intro s w hw))
    refine res_two (v := .int .i64 n) (v' := .bool true) rfl rfl rfl ⟨?_, hw.tail⟩
    rw [List.take_of_length_le (by omega)] at hn
    rw [if_pos (by omega), hn]

set_option maxRecDepth 8000 in
set_option maxHeartbeats 2000000 in
theorem number_spec {w0 : World} {a b c d va sv : Value} {vs : List OpV} {t : TTask} {L s : List Int} (ht : RTask w0 a b c d vs t) (hp : RS tInt w0 va L) (hs : RS tInt w0 sv s) (hg : GoodT t) (hL : ∀ v ∈ L, 0 ≤ v ∧ v < t.vars.length) (hok : StateOk t.vars s) (hB : cntL t.vars L ≤ 1099511627776) :
    Calls Tryd.prog 37 #[.agg #[a, b, c, d], va, sv] w0 fun e w' => e = .returned (.int .i64 (idxL t.vars L s)) ∧ Sat w0 w' [] := by
  obtain ⟨ha, hb, hc, hd⟩ := ht
  have hla := ha.big
  have hlp := hp.big
  have hls := hok.1
  have hw := Sat.start w0
  refine calls_of_vc (args := [.agg #[a, b, c, d], va, sv]) mixed Tryd.func37 rfl (by kernel_rfl) (Nat.le_of_ble_eq_true rfl) ?_
  repeat (first | refine go_run ?_ | (refine go_newP ?_; clear hw; intro p w hw) | (refine go_newW ?_; clear hw; intro w hw) | (refine go_newS ?_; clear hw; intro s w hw))
  obtain ⟨pt, hpt⟩ : ∃ pt, pt = p := ⟨p, rfl⟩
  subst hpt
  refine vc_loop2 [7, 9, 12, 13, 14, 15, 16, 17, 18, 19, 20, 21, 22, 23, 24, 25, 26, 27, 28] (G := Nat) (H := Int) (fun k n => [(12, .int .i64 k), (7, .int .i64 n)]) (fun k n w => k ≤ L.length ∧ n = idxL t.vars (L.take k) s ∧ Sat w0 w [Box pt 28 [a, b, c, d]]) (fun k _ => L.length - k) 0 0 (fun _ _ => rfl) ⟨rfl, rfl, trivial⟩ ⟨Nat.zero_le _, rfl, hw⟩ ?_
  clear hw
  rintro σ k n w ⟨hk, hn, hw⟩
  repeat (first | refine go_run ?_ | (refine go_newP ?_; clear hw; intro p w hw) | (refine go_newW ?_; clear hw; intro w hw) | (refine go_newS ?_; clear hw; intro s w hw))
  refine go_if (fun h1 => ?_) (fun h1 => ?_)
  · have hkl : k < L.length := by omega
    have hv := hL _ (mem_getD tInt.dflt hkl)
    have hr := hok.rng hv.1 hv.2
    have hb1 := idxL_bound (p := L.take k) hok fun v hv => hL v (List.mem_of_mem_take hv)
    have hb2 := idxL_bound (p := L.take (k + 1)) hok fun v hv => hL v (List.mem_of_mem_take hv)
    have hle := cntL_take hg.pos hL (k + 1)
    have hS := idxL_takeS (vars := t.vars) (s := s) hkl
    rw [← hn] at hb1 hS
    simp only [sg] at hS hr
    have b0 : 0 ≤ n * t.vars.getD (L.getD k tInt.dflt).toNat tInt.dflt := Int.mul_nonneg (by omega) (by omega)
    repeat (first | refine go_run ?_ | (refine go_newP ?_; clear hw; intro p w hw) | (refine go_newW ?_; clear hw; intro w hw) | (refine go_newS ?_; clear hw; intro s w hw))
    exact ⟨k + 1, _, ⟨rfl, rfl, trivial⟩, by repeat (first | exact agree_refl | (apply agree_upd rfl) | (apply agree_mix rfl) | (apply agree_sets rfl)), ⟨by omega, hS.symm, hw⟩, by omega⟩
  · repeat (first | refine go_run ?_ | (refine go_newP ?_; clear hw; intro p w hw) | (refine go_newW ?_; clear hw; intro w hw) | (refine go_newS ?_; clear hw; intro s w hw))
    refine res_one (v := .int .i64 n) rfl rfl ⟨?_, hw.tail⟩
    rw [List.take_of_length_le (by omega)] at hn
    rw [hn]
end Go.Proofs.YtemnlcnjpjdoaaaDoor
