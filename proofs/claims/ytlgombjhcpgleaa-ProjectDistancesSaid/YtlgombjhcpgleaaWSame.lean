/-
  Contract of the reference's 'Same': two systems are compared.
-/
import Derived.Test.YtlgombjhcpgleaaWRef40b
namespace Go.Proofs.Ytlgombjhcpgleaa
open Go.Sl Go
attribute [local irreducible] vc opsW opsD opV opW PureV ReadV Thn Blk
/-- A system's three lists are read. -/
structure RSys (w : World) (cv ev gv : Value) (S : SysV) : Prop where
  costs : RS tInt w cv S.costs
  edges : RS tEdg w ev S.edges
  goals : RS tBool w gv S.goals
theorem RSys.at {w0 w : World} {Γ : List HP} {cv ev gv : Value} {S : SysV} (h : RSys w0 cv ev gv S) (hw : Sat w0 w Γ) : RSys w cv ev gv S := ⟨h.costs.at hw, h.edges.at hw, h.goals.at hw⟩
theorem SysAt.rs {w0 w : World} {cv ev gv : Value} {S : SysV} (h : SysAt w0 w cv ev gv S) : RSys w cv ev gv S := ⟨Sat.rs h 0 rfl, Sat.rs h 1 rfl, Sat.rs h 2 rfl⟩

set_option maxRecDepth 8000 in
set_option maxHeartbeats 2000000 in
theorem rSame_spec {w0 : World} {c1 e1 g1 c2 e2 g2 : Value} {S : SysV} (h1 : RSys w0 c1 e1 g1 S) (h2 : RSys w0 c2 e2 g2 S) :
    Calls Try.prog 16 #[sysV S c1 e1 g1, sysV S c2 e2 g2] w0 fun e w' => e = .returned (.bool true) ∧ Sat w0 w' [] := by
  obtain ⟨a1, a2, a3⟩ := h1
  obtain ⟨b1, b2, b3⟩ := h2
  have l2 := a2.big
  have l3 := a3.big
  have hw := Sat.start w0
  refine calls_of_vc (args := [.agg #[.int .i64 S.st, .int .i64 S.ini, c1, e1, g1], .agg #[.int .i64 S.st, .int .i64 S.ini, c2, e2, g2]]) mixed Try.func16 rfl (by kernel_rfl) (Nat.le_of_ble_eq_true rfl) ?_
  refine vc_seq ?_
  refine vc_region ?_
  refine go_box ?_
  clear hw
  intro p1 w hw
  refine go_box ?_
  clear hw
  intro p2 w hw
  repeat (first | refine go_run ?_ | (refine go_newP ?_; clear hw; intro p w hw) | (refine go_newW ?_; clear hw; intro w hw) | (refine go_newS ?_; clear hw; intro s w hw))
  simp only [decide_true, Bool.not_true, Bool.or_self, gvff]
  repeat (first | refine go_run ?_ | (refine go_newP ?_; clear hw; intro p w hw) | (refine go_newW ?_; clear hw; intro w hw) | (refine go_newS ?_; clear hw; intro s w hw))
  refine st_call rfl (Ints_spec (a1.at hw) (b1.at hw)) ?_
  rintro _ w' ⟨⟨r, rfl, hr⟩, hk'⟩
  replace hw := hw.call0 hk'
  clear hk'
  obtain rfl := hr.2 rfl
  refine ⟨_, rfl, ?_⟩
  repeat (first | refine go_run ?_ | (refine go_newP ?_; clear hw; intro p w hw) | (refine go_newW ?_; clear hw; intro w hw) | (refine go_newS ?_; clear hw; intro s w hw))
  refine go_if (fun h3 => ?_) (fun h3 => ?_)
  · exfalso; simp at h3
  · repeat (first | refine go_run ?_ | (refine go_newP ?_; clear hw; intro p w hw) | (refine go_newW ?_; clear hw; intro w hw) | (refine go_newS ?_; clear hw; intro s w hw))
    refine vc_loop [4, 5, 48, 49, 50, 51, 52, 53, 54, 55, 56, 57, 58, 59, 60, 61, 62] (G := Nat) (fun k => [(48, .int .i64 k)]) (fun k w => k ≤ S.edges.length ∧ Sat w0 w [Box p2 35 [.int .i64 S.st, .int .i64 S.ini, c2, e2, g2], Box p1 35 [.int .i64 S.st, .int .i64 S.ini, c1, e1, g1]]) (fun k => S.edges.length - k) 0 (fun _ => rfl) ⟨rfl, trivial⟩ ⟨Nat.zero_le _, hw⟩ ?_
    clear hw
    rintro σ k w ⟨hk, hw⟩
    repeat (first | refine go_run ?_ | (refine go_newP ?_; clear hw; intro p w hw) | (refine go_newW ?_; clear hw; intro w hw) | (refine go_newS ?_; clear hw; intro s w hw))
    refine go_if (fun h4 => ?_) (fun h4 => ?_)
    · repeat (first | refine go_run ?_ | (refine go_newP ?_; clear hw; intro p w hw) | (refine go_newW ?_; clear hw; intro w hw) | (refine go_newS ?_; clear hw; intro s w hw))
      refine step_pure rfl (pv_neqInts (us := [(S.edges.getD k tEdg.dflt).src, (S.edges.getD k tEdg.dflt).lab, (S.edges.getD k tEdg.dflt).dst]) (zs := [(S.edges.getD k tEdg.dflt).src, (S.edges.getD k tEdg.dflt).lab, (S.edges.getD k tEdg.dflt).dst]) rfl rfl rfl rfl) ?_
      repeat (first | refine go_run ?_ | (refine go_newP ?_; clear hw; intro p w hw) | (refine go_newW ?_; clear hw; intro w hw) | (refine go_newS ?_; clear hw; intro s w hw))
      refine go_if (fun h5 => ?_) (fun h5 => ?_)
      · exact absurd trivial h5
      · repeat (first | refine go_run ?_ | (refine go_newP ?_; clear hw; intro p w hw) | (refine go_newW ?_; clear hw; intro w hw) | (refine go_newS ?_; clear hw; intro s w hw))
        exact ⟨k + 1, ⟨rfl, trivial⟩, by repeat (first | exact agree_refl | (apply agree_upd rfl) | (apply agree_mix rfl) | (apply agree_sets rfl)), ⟨by omega, hw⟩, by omega⟩
    · repeat (first | refine go_run ?_ | (refine go_newP ?_; clear hw; intro p w hw) | (refine go_newW ?_; clear hw; intro w hw) | (refine go_newS ?_; clear hw; intro s w hw))
      refine vc_loop [4, 6, 66, 67, 68, 69, 70, 71, 72, 73, 74, 75, 76, 77, 78, 79, 80] (G := Nat) (fun k => [(66, .int .i64 k)]) (fun k w => k ≤ S.goals.length ∧ Sat w0 w [Box p2 35 [.int .i64 S.st, .int .i64 S.ini, c2, e2, g2], Box p1 35 [.int .i64 S.st, .int .i64 S.ini, c1, e1, g1]]) (fun k => S.goals.length - k) 0 (fun _ => rfl) ⟨rfl, trivial⟩ ⟨Nat.zero_le _, hw⟩ ?_
      clear hw
      rintro σ1 k w ⟨hk, hw⟩
      repeat (first | refine go_run ?_ | (refine go_newP ?_; clear hw; intro p w hw) | (refine go_newW ?_; clear hw; intro w hw) | (refine go_newS ?_; clear hw; intro s w hw))
      refine go_if (fun h6 => ?_) (fun h6 => ?_)
      · repeat (first | refine go_run ?_ | (refine go_newP ?_; clear hw; intro p w hw) | (refine go_newW ?_; clear hw; intro w hw) | (refine go_newS ?_; clear hw; intro s w hw))
        refine go_if (fun h7 => ?_) (fun h7 => ?_)
        · simp at h7
        · repeat (first | refine go_run ?_ | (refine go_newP ?_; clear hw; intro p w hw) | (refine go_newW ?_; clear hw; intro w hw) | (refine go_newS ?_; clear hw; intro s w hw))
          exact ⟨k + 1, ⟨rfl, trivial⟩, by repeat (first | exact agree_refl | (apply agree_upd rfl) | (apply agree_mix rfl) | (apply agree_sets rfl)), ⟨by omega, hw⟩, by omega⟩
      · repeat (first | refine go_run ?_ | (refine go_newP ?_; clear hw; intro p w hw) | (refine go_newW ?_; clear hw; intro w hw) | (refine go_newS ?_; clear hw; intro s w hw))
        exact res_one (v := .bool true) rfl rfl ⟨rfl, sat_none hw⟩
end Go.Proofs.Ytlgombjhcpgleaa
