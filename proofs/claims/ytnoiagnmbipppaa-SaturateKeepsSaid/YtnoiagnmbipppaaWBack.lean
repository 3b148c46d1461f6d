
/-
  The iterator of 'slices.Backward' over ints: its contract for whatever loop's body.
-/
import Derived.Test.YtnoiagnmbipppaaWTState
import Derived.Test.YtnoiagnmbipppaaMSlB
set_option linter.unusedSimpArgs false
set_option linter.unusedVariables false
namespace Go.Proofs.Ytnoiagnmbipppaa
open Go.Sl Go
attribute [local irreducible] vc opsW opsD opV opW PureV ReadV Thn Blk

/-- What has come when k rounds are over. -/
def revP (L : List Int) (k : Nat) : List (Int × Int) := (List.range k).map fun (j : Nat) => (((L.length : Int) - 1 - (j : Int)), L.getD (L.length - 1 - j) tInt.dflt)
theorem revP_succ (L : List Int) (k : Nat) : revP L (k + 1) = revP L k ++ [(((L.length : Int) - 1 - (k : Int)), L.getD (L.length - 1 - k) tInt.dflt)] := by simp [revP, List.range_succ]
def KpB (pb : Addr) (a : Value) (L : List Int) (W W' : World) : Prop := (W.cell? pb = some a → W'.cell? pb = some a) ∧ (RS tInt W a L → RS tInt W' a L)
def encB {Q : Int × Int → Prop} (x : { p : Int × Int // Q p }) : Array Value := #[.int .i64 x.1.1, .int .i64 x.1.2]

set_option maxRecDepth 8000 in
theorem backward_stops {n : Nat} {w0 : World} {pb : Addr} {a : Value} {L : List Int} {Q : Int × Int → Prop} (hQ : ∀ i : Nat, i < L.length → Q ((i : Int), L.getD i tInt.dflt)) (hc : w0.cell? pb = some a) (ha : RS tInt w0 a L) :
    SeqStopsK (α := { p : Int × Int // Q p }) Fence.wide n Try.prog 90 #[.pointer (some pb)] encB (KpB pb a L) (fun xs => xs.map (·.1) = revP L L.length) (fun _ => True) L.length w0 := by
  intro l J Jx W hb hJ hJx hY h0
  refine (callsIn_wide (n := n)).2 ?_
  have hc1 : W.cell? pb = some a := by
    have hlt : pb.block < w0.heap.size := by
      rcases Nat.lt_or_ge pb.block w0.heap.size with h | h
      · exact h
      · simp [World.cell?, Array.getElem?_eq_none h] at hc
    rw [hb.cell hlt]; exact hc
  have ha1 : RS tInt W a L := ⟨ha.1.below hb, ha.2⟩
  have hla := ha.big
  refine calls_of_vc (args := [.func (.yield l) #[] #[], .pointer (some pb)]) mixed Try.func90 rfl (by kernel_rfl) (Nat.le_of_ble_eq_true rfl) ?_
  repeat (first | refine go_run ?_ | (refine go_newP ?_; clear hw; intro p w hw) | (refine go_newW ?_; clear hw; intro w hw) | (refine go_newS ?_; clear hw; intro s w hw))
  refine step_read rfl (rv_cell rfl hc1) ?_
  repeat (first | refine go_run ?_ | (refine go_newP ?_; clear hw; intro p w hw) | (refine go_newW ?_; clear hw; intro w hw) | (refine go_newS ?_; clear hw; intro s w hw))
  refine vc_loop2 [3, 7, 8, 9, 10, 11, 12, 13, 14, 15, 16, 17, 18] (G := Nat) (H := List { p : Int × Int // Q p }) (fun k _ => [(3, .int .i64 ((L.length : Int) - 1 - (k : Int)))]) (fun k pre w => k ≤ L.length ∧ pre.map (·.1) = revP L k ∧ J pre w ∧ w.cell? pb = some a ∧ RS tInt w a L) (fun k _ => L.length - k) 0 [] (fun _ _ => rfl) ⟨by have e0 : ((L.length : Int) - 1 - ((0 : Nat) : Int)) = (L.length : Int) - 1 := (by omega); rw [e0]; rfl, trivial⟩ ⟨Nat.zero_le _, rfl, h0, hc1, ha1⟩ ?_
  clear hc1 ha1 h0
  rintro σ k pre w ⟨hk, hpre, hj, hc1, ha1⟩
  repeat (first | refine go_run ?_ | (refine go_newP ?_; clear hw; intro p w hw) | (refine go_newW ?_; clear hw; intro w hw) | (refine go_newS ?_; clear hw; intro s w hw))
  refine go_if (fun h1 => ?_) (fun h1 => ?_)
  · have hkl : k < L.length := by omega
    have hpl : pre.length = k := by have := congrArg List.length hpre; simpa [revP] using this
    have e1 : ((L.length : Int) - 1 - (k : Int)).toNat = L.length - 1 - k := by omega
    have e2 : ((L.length - 1 - k : Nat) : Int) = (L.length : Int) - 1 - (k : Int) := by omega
    have hx := hQ (L.length - 1 - k) (by omega)
    rw [e2] at hx
    have hy := hY pre ⟨_, hx⟩ w hj (by omega)
    repeat (first | refine go_run ?_ | (refine go_newP ?_; clear hw; intro p w hw) | (refine go_newW ?_; clear hw; intro w hw) | (refine go_newS ?_; clear hw; intro s w hw))
    refine step_read rfl (rv_cell rfl hc1) ?_
    repeat (first | refine go_run ?_ | (refine go_newP ?_; clear hw; intro p w hw) | (refine go_newW ?_; clear hw; intro w hw) | (refine go_newS ?_; clear hw; intro s w hw))
    rw [e1]
    refine st_yield (l := l) rfl rfl hy ?_
    rintro _ W' (⟨rfl, hj', hk1, hk2⟩ | ⟨rfl, hjx⟩)
    · refine ⟨_, rfl, ?_⟩
      repeat (first | refine go_run ?_ | (refine go_newP ?_; clear hw; intro p w hw) | (refine go_newW ?_; clear hw; intro w hw) | (refine go_newS ?_; clear hw; intro s w hw))
      refine ⟨k + 1, pre ++ [⟨_, hx⟩], ⟨?_, trivial⟩, by repeat (first | exact agree_refl | (apply agree_upd rfl) | (apply agree_mix rfl) | (apply agree_sets rfl)), ⟨by omega, ?_, hj', hk1 hc1, hk2 ha1⟩, by omega⟩
      · show Value.int .i64 _ = _
        congr 1; omega
      · rw [List.map_append, hpre, revP_succ]; rfl
    · refine ⟨_, rfl, ?_⟩
      repeat (first | refine go_run ?_ | (refine go_newP ?_; clear hw; intro p w hw) | (refine go_newW ?_; clear hw; intro w hw) | (refine go_newS ?_; clear hw; intro s w hw))
      exact res_none rfl ⟨⟨_, rfl⟩, .inr ⟨_, trivial, hjx⟩⟩
  · have hke : k = L.length := by omega
    subst hke
    repeat (first | refine go_run ?_ | (refine go_newP ?_; clear hw; intro p w hw) | (refine go_newW ?_; clear hw; intro w hw) | (refine go_newS ?_; clear hw; intro s w hw))
    exact res_none' rfl ⟨⟨_, rfl⟩, .inl ⟨pre, hpre, hj⟩⟩
end Go.Proofs.Ytnoiagnmbipppaa
