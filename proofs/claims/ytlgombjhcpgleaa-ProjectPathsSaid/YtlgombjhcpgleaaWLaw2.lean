/-
  The statement 'ProjectPaths' returns true.
-/
import Derived.Test.YtlgombjhcpgleaaWRef40
import Derived.Test.YtlgombjhcpgleaaTLaw5
import Derived.Test.YtlgombjhcpgleaaSlNum
namespace Go.Proofs.Ytlgombjhcpgleaa
open Go.Sl Go
attribute [local irreducible] vc opsW opsD opV opW PureV ReadV Thn Blk

instance : IntT Try.prog 5 .u8 := ⟨by kernel_rfl⟩
instance : IntT Try.prog 3 .i64 := ⟨by kernel_rfl⟩

set_option maxRecDepth 8000 in
set_option maxHeartbeats 4000000 in
theorem ProjectPaths_walk {w0 : World} {a b c d wv : Value} {vs : List OpV} {t : TTask} {bits : Int} {ws : List Int} (ht : RTask w0 a b c d vs t) (hwk : RS tU8 w0 wv ws) (hws : ∀ x ∈ ws, 0 ≤ x ∧ x ≤ 255) :
    Calls Try.prog 4 #[.agg #[a, b, c, d], .int .u16 bits, wv] w0 fun e w' => e = .returned (.bool true) ∧ Sat w0 w' [] := by
  have ht' := ht
  obtain ⟨ha, hb, hc, hd⟩ := ht
  have hrs := hd.rs
  have hdl := hd.len
  have hll := hrs.big
  have hw := Sat.start w0
  refine calls_of_vc (args := [.agg #[a, b, c, d], .int .u16 bits, wv]) mixed Try.func4 rfl (by kernel_rfl) (Nat.le_of_ble_eq_true rfl) ?_
  repeat (first | refine go_run ?_ | (refine go_newP ?_; clear hw; intro p w hw) | (refine go_newWr ?_; clear hw; intro w hw) | (refine go_newS ?_; clear hw; intro s w hw))
  obtain ⟨pt, hpt⟩ : ∃ pt, pt = p := ⟨p, rfl⟩
  subst hpt
  refine vc_plan [.op 0, .op 1, .op 2, .op 3, .op 4, .op 5, .op 6, .op 7, .chk 4, .op 8, .op 9, .op 10, .op 11, .op 12, .op 13, .op 14, .op 15, .op 16, .op 17, .op 18, .op 19] hw (by kernel_rfl) ?_; clear hw; intro w hw
  repeat (first | refine go_run ?_ | (refine go_newP ?_; clear hw; intro p w hw) | (refine go_newWr ?_; clear hw; intro w hw) | (refine go_newS ?_; clear hw; intro s w hw))
  refine st_call rfl (Small_spec (ht'.at hw)) ?_
  rintro _ w' ⟨⟨r, rfl, hr⟩, hk'⟩
  replace hw := hw.call0 hk'
  clear hk'
  refine ⟨_, rfl, ?_⟩
  cases r
  · repeat (first | refine go_run ?_ | (refine go_newP ?_; clear hw; intro p w hw) | (refine go_newWr ?_; clear hw; intro w hw) | (refine go_newS ?_; clear hw; intro s w hw))
    refine st_call rfl awake_spec ?_
    rintro _ w' ⟨rfl, hk'⟩
    replace hw := hw.call0 hk'
    clear hk'
    refine ⟨_, rfl, ?_⟩
    repeat (first | refine go_run ?_ | (refine go_newP ?_; clear hw; intro p w hw) | (refine go_newW ?_; clear hw; intro w hw) | (refine go_newS ?_; clear hw; intro s w hw))
    exact res_one (v := .bool true) rfl rfl ⟨rfl, sat_none hw⟩
  have hs := hr.1 rfl
  have hg := hs.good
  have hV := hs.vars
  have hO := hs.ops
  have hM := hs.many
  have hL := chosen_inV t.vars bits
  have hB : cntL t.vars (chosenK bits t.vars.length) ≤ 1099511627776 := by have h1 := cntL_le hs.good.pos hL; omega
  repeat (first | refine go_run ?_ | (refine go_newP ?_; clear hw; intro p w hw) | (refine go_newWr ?_; clear hw; intro w hw) | (refine go_newS ?_; clear hw; intro s w hw))
  refine st_call rfl (chosen_spec (ht'.at hw) (by omega)) ?_
  rintro _ w' ⟨s0, rfl, hk'⟩
  replace hw := hw.call1 hk'
  clear hk'
  refine ⟨_, rfl, ?_⟩
  repeat (first | refine go_run ?_ | (refine go_newP ?_; clear hw; intro p w hw) | (refine go_newWr ?_; clear hw; intro w hw) | (refine go_newS ?_; clear hw; intro s w hw))
  refine st_call rfl (few_spec (va := s0) (ht'.at hw) (rsO hw) hs.good.pos hL.mem hB) ?_
  rintro _ w' ⟨rfl, hk'⟩
  replace hw := hw.call0 hk'
  clear hk'
  by_cases hf : cntL t.vars (chosenK bits t.vars.length) ≤ 64
  rotate_left
  · rw [decide_eq_false hf]
    refine ⟨_, rfl, ?_⟩
    repeat (first | refine go_run ?_ | (refine go_newP ?_; clear hw; intro p w hw) | (refine go_newWr ?_; clear hw; intro w hw) | (refine go_newS ?_; clear hw; intro s w hw))
    refine st_call rfl awake_spec ?_
    rintro _ w' ⟨rfl, hk'⟩
    replace hw := hw.call0 hk'
    clear hk'
    refine ⟨_, rfl, ?_⟩
    repeat (first | refine go_run ?_ | (refine go_newP ?_; clear hw; intro p w hw) | (refine go_newW ?_; clear hw; intro w hw) | (refine go_newS ?_; clear hw; intro s w hw))
    exact res_one (v := .bool true) rfl rfl ⟨rfl, sat_none hw⟩
  rw [decide_eq_true hf]
  refine ⟨_, rfl, ?_⟩
  repeat (first | refine go_run ?_ | (refine go_newP ?_; clear hw; intro p w hw) | (refine go_newWr ?_; clear hw; intro w hw) | (refine go_newS ?_; clear hw; intro s w hw))
  refine go_case (fun h50 => ?_) (fun h50 => ?_)
  · simp only [h50, gvff, gvtt]; (try simp only [beq_iff_eq, Bool.and_eq_true, Bool.or_eq_true, decide_eq_true_eq, decide_eq_false_iff_not, Bool.not_eq_true, Bool.not_eq_false, Bool.not_eq_eq_eq_not, Bool.not_true, Bool.not_false, Bool.and_eq_false_iff, Bool.or_eq_false_iff, bne_iff_ne, ne_eq, Int.not_lt, Int.not_le, Nat.not_lt, Nat.not_le] at h50)
    repeat (first | refine go_run ?_ | (refine go_newP ?_; clear hw; intro p w hw) | (refine go_newW ?_; clear hw; intro w hw) | (refine go_newS ?_; clear hw; intro s w hw))
    refine st_call rfl awake_spec ?_
    rintro _ w' ⟨rfl, hk'⟩
    replace hw := hw.call0 hk'
    clear hk'
    refine ⟨_, rfl, ?_⟩
    repeat (first | refine go_run ?_ | (refine go_newP ?_; clear hw; intro p w hw) | (refine go_newW ?_; clear hw; intro w hw) | (refine go_newS ?_; clear hw; intro s w hw))
    exact res_one (v := .bool true) rfl rfl ⟨rfl, sat_none hw⟩
  simp only [h50, gvff, gvtt]; (try simp only [beq_iff_eq, Bool.and_eq_true, Bool.or_eq_true, decide_eq_true_eq, decide_eq_false_iff_not, Bool.not_eq_true, Bool.not_eq_false, Bool.not_eq_eq_eq_not, Bool.not_true, Bool.not_false, Bool.and_eq_false_iff, Bool.or_eq_false_iff, bne_iff_ne, ne_eq, Int.not_lt, Int.not_le, Nat.not_lt, Nat.not_le] at h50)
  repeat (first | refine go_run ?_ | (refine go_newP ?_; clear hw; intro p w hw) | (refine go_newW ?_; clear hw; intro w hw) | (refine go_newS ?_; clear hw; intro s w hw))
  refine st_call rfl awake_spec ?_
  rintro _ w' ⟨rfl, hk'⟩
  replace hw := hw.call0 hk'
  clear hk'
  refine ⟨_, rfl, ?_⟩
  repeat (first | refine go_run ?_ | (refine go_newP ?_; clear hw; intro p w hw) | (refine go_newW ?_; clear hw; intro w hw) | (refine go_newS ?_; clear hw; intro s w hw))
  refine st_call rfl (chosen_spec (ht'.at hw) (by omega)) ?_
  rintro _ w' ⟨s1, rfl, hk'⟩
  replace hw := hw.call1 hk'
  clear hk'
  refine ⟨_, rfl, ?_⟩
  have hw := hw
  obtain ⟨L, hLe⟩ : ∃ L, L = chosenK bits t.vars.length := ⟨_, rfl⟩
  rw [← hLe] at hw hL hf
  obtain ⟨he1, he2⟩ := small_err hs hL
  have hoL := (rsO (s := s1) hw).big
  repeat (first | refine go_run ?_ | (refine go_newP ?_; clear hw; intro p w hw) | (refine go_newW ?_; clear hw; intro w hw) | (refine go_newS ?_; clear hw; intro s w hw))
  refine st_call rfl (Project_spec (vp := s1) (L := L) (ht'.at hw) (rsO hw)) ?_
  rintro _ w' ⟨cv, ev, gv, rfl, hk'⟩
  rw [he1, sysE_ok] at hk'
  rw [he1, errV_zero rfl, sysE_ok, sysV_ok]
  have hw2 := hw.call hk'
  clear hk' hw
  have hw := hw2
  clear hw2
  refine ⟨_, rfl, ?_⟩
  have o1 := (hw.rs 0 rfl).one
  have o2 := (hw.rs 1 rfl).one
  have o3 := (hw.rs 2 rfl).one
  repeat (first | refine go_run ?_ | (refine go_newP ?_; clear hw; intro p w hw) | (refine go_newWs ?_; clear hw; intro w hw) | (refine go_newS ?_; clear hw; intro s w hw))
  refine st_boxAgg (n := 5) (p := p) (vs := [.int .i64 (cntL t.vars L), .int .i64 (idxL t.vars L t.init), cv, ev, gv]) rfl rfl hw inferInstance rfl rfl (by simp only [List.all_cons, List.all_nil, o1, o2, o3]; rfl) ?_
  clear hw
  intro w hw
  obtain ⟨px, hpx⟩ : ∃ px, px = p := ⟨p, rfl⟩
  subst hpx
  have hw1 : Sat w0 w [Box px 35 [.int .i64 (cntL t.vars L), .int .i64 (idxL t.vars L t.init), cv, ev, gv], OS tInt 3 cv (costsT t), OS tEdg 50 ev (pEdges t L), OS tBool 4 gv (goalsK t L (cntL t.vars L).toNat), OS tInt 3 s1 L, OS tInt 3 s0 L, Box pt 26 [a, b, c, d]] := hw
  clear hw
  have hw := hw1
  clear hw1
  repeat (first | refine go_run ?_ | (refine go_newP ?_; clear hw; intro p w hw) | (refine go_newW ?_; clear hw; intro w hw) | (refine go_newS ?_; clear hw; intro s w hw))
  refine st_call rfl (pIndex_spec (va := s1) (s := t.init) (ht'.at hw) (rsO hw) (hb.at hw)) ?_
  rintro _ w' ⟨rfl, hk'⟩
  replace hw := hw.call0 hk'
  clear hk'
  rw [ixErr_ok he2 hg.init (by omega), if_pos rfl, errV_zero rfl]
  refine ⟨_, rfl, ?_⟩
  repeat (first | refine go_run ?_ | (refine go_newP ?_; clear hw; intro p w hw) | (refine go_newW ?_; clear hw; intro w hw) | (refine go_newS ?_; clear hw; intro s w hw))
  refine go_if (fun hx => ?_) (fun hx => ?_)
  · exact absurd trivial hx
  repeat (first | refine go_run ?_ | (refine go_newP ?_; clear hw; intro p w hw) | (refine go_newW ?_; clear hw; intro w hw) | (refine go_newS ?_; clear hw; intro s w hw))
  have hlw := hwk.big
  refine vc_loop3 [6, 10, 11, 13, 14, 15, 16, 17, 18, 19, 21, 73, 74, 75, 76, 77, 78, 79, 80, 81, 82, 83, 84, 85, 86, 87, 88, 89, 90, 91, 92, 93, 94, 95, 96, 97, 98, 99, 100, 101, 102, 103, 104, 105, 106, 107, 108, 109, 110, 111, 112, 113, 114, 115, 116, 117, 118, 119, 120, 121, 122, 123, 124, 125, 126, 127, 128, 129, 130, 131, 132, 133, 134, 135, 136, 137, 138] (G := Nat) (H := Value) (I := List Int) (fun k sv S => [(73, .int .i64 k), (10, sv), (11, .int .i64 (idxL t.vars L S))]) (fun k sv S w => k ≤ ws.length ∧ StateOk t.vars S ∧ Sat w0 w [RO w0 tInt 3 sv S, Box px 35 [.int .i64 (cntL t.vars L), .int .i64 (idxL t.vars L t.init), cv, ev, gv], OS tInt 3 cv (costsT t), OS tEdg 50 ev (pEdges t L), OS tBool 4 gv (goalsK t L (cntL t.vars L).toNat), OS tInt 3 s1 L, OS tInt 3 s0 L, Box pt 26 [a, b, c, d]]) (fun k _ _ => ws.length - k) 0 b t.init (fun _ _ _ => rfl) ⟨rfl, rfl, rfl, trivial⟩ ⟨Nat.zero_le _, hg.init, hw.roOld hb⟩ ?_
  clear hw
  rintro σ k sv S w ⟨hk, hS, hw⟩
  repeat (first | refine go_run ?_ | (refine go_newP ?_; clear hw; intro p w hw) | (refine go_newW ?_; clear hw; intro w hw) | (refine go_newS ?_; clear hw; intro s w hw))
  refine go_if (fun h1 => ?_) (fun h1 => ?_)
  · have hkl : k < ws.length := by omega
    have hwr := hws _ (mem_getD tU8.dflt hkl)
    have hib := idxL_bound hS hL.mem
    have hgk := goalsK_len t L (cntL t.vars L).toNat
    have hga := goalsK_at (t := t) (p := L) (k := (cntL t.vars L).toNat) (a := (idxL t.vars L S).toNat) (by omega)
    rw [Int.toNat_of_nonneg hib.1] at hga
    obtain ⟨GK, hGK⟩ : ∃ GK, GK = goalsK t L (cntL t.vars L).toNat := ⟨_, rfl⟩
    rw [← hGK] at hw hgk hga
    repeat (first | refine go_run ?_ | (refine go_newP ?_; clear hw; intro p w hw) | (refine go_newW ?_; clear hw; intro w hw) | (refine go_newS ?_; clear hw; intro s w hw))
    refine st_call rfl (Holds_spec (a := c) (hc.at hw) (hw.ro 0 rfl)) ?_
    rintro _ w' ⟨⟨r, rfl, hr⟩, hk'⟩
    replace hw := hw.call0 hk'
    clear hk'
    refine ⟨_, rfl, ?_⟩
    have hgoal : r = true → GK.getD (idxL t.vars L S).toNat tBool.dflt = true := fun h => by
      have h1 := hr.1 h
      rw [show GK.getD (idxL t.vars L S).toNat tBool.dflt = goalB t L (idxL t.vars L S) from hga, goalB_iff]
      refine ⟨S, hS, rfl, holdFs_iff.2 fun x hx => holdFs_iff.1 h1 x ((List.mem_filter.1 hx).1)⟩
    repeat (first | refine go_run ?_ | (refine go_newP ?_; clear hw; intro p w hw) | (refine go_newW ?_; clear hw; intro w hw) | (refine go_newS ?_; clear hw; intro s w hw))
    refine go_if (fun h2 => ?_) (fun h2 => ?_)
    · exfalso
      have h3 := hgoal h2.1
      rw [h3] at h2
      simp at h2
    repeat (first | refine go_run ?_ | (refine go_newP ?_; clear hw; intro p w hw) | (refine go_newW ?_; clear hw; intro w hw) | (refine go_newS ?_; clear hw; intro s w hw))
    refine go_if (fun h3 => ?_) (fun h3 => ?_)
    · repeat (first | refine go_run ?_ | (refine go_newP ?_; clear hw; intro p w hw) | (refine go_newW ?_; clear hw; intro w hw) | (refine go_newS ?_; clear hw; intro s w hw))
      exact res_one (v := .bool true) rfl rfl ⟨rfl, sat_none hw⟩
    have hvl : (0 : Int) < vs.length := by omega
    have hop0 := Int.tmod_nonneg (vs.length : Int) hwr.1
    have hop1 := Int.tmod_lt_of_pos (ws.getD k tU8.dflt) hvl
    repeat (first | refine go_run ?_ | (refine go_newP ?_; clear hw; intro p w hw) | (refine go_newW ?_; clear hw; intro w hw) | (refine go_newS ?_; clear hw; intro s w hw))
    refine step_pure rfl (pv_conv (n := ws.getD k tU8.dflt) rfl (by omega) (by omega)) ?_
    repeat (first | refine go_run ?_ | (refine go_newP ?_; clear hw; intro p w hw) | (refine go_newW ?_; clear hw; intro w hw) | (refine go_newS ?_; clear hw; intro s w hw))
    obtain ⟨op, hop⟩ : ∃ op, op = (ws.getD k tU8.dflt).tmod vs.length := ⟨_, rfl⟩
    rw [← hop] at hop0 hop1
    simp only [← hop]
    refine st_call rfl (Apply_spec (ht'.at hw) (hw.ro 0 rfl) hg hS) ?_
    rintro _ w' ⟨r2, rv, rfl, hr2, hk'⟩
    replace hw := hw.call1 hk'
    clear hk'
    refine ⟨_, rfl, ?_⟩
    cases r2
    · repeat (first | refine go_run ?_ | (refine go_newP ?_; clear hw; intro p w hw) | (refine go_newW ?_; clear hw; intro w hw) | (refine go_newS ?_; clear hw; intro s w hw))
      rw [hGK] at hw
      exact ⟨k + 1, sv, S, ⟨rfl, rfl, rfl, trivial⟩, by repeat (first | exact agree_refl | (apply agree_upd rfl) | (apply agree_mix rfl) | (apply agree_sets rfl)), ⟨by omega, hS, hw.tail⟩, by omega⟩
    have happ := (hr2.1 rfl).2.2
    have hopl : op.toNat < t.ops.length := by omega
    have hS2 := succT_ok hg hS hopl
    have hib2 := idxL_bound hS2 hL.mem
    rw [if_pos rfl] at hw
    repeat (first | refine go_run ?_ | (refine go_newP ?_; clear hw; intro p w hw) | (refine go_newW ?_; clear hw; intro w hw) | (refine go_newS ?_; clear hw; intro s w hw))
    refine st_call rfl (pIndex_spec (va := s1) (sv := rv) (s := succT t S op.toNat) (ht'.at hw) (rsO hw) (rsO hw)) ?_
    rintro _ w' ⟨rfl, hk'⟩
    replace hw := hw.call0 hk'
    clear hk'
    rw [ixErr_ok he2 hS2 (by omega), if_pos rfl, errV_zero rfl]
    refine ⟨_, rfl, ?_⟩
    have hme : (⟨idxL t.vars L S, op, idxL t.vars L (succT t S op.toNat)⟩ : Edg) ∈ pEdges t L := mem_pEdges.2 ⟨_, op.toNat, _, hib, hopl, hib2, ⟨S, hS, rfl, happ, rfl⟩, by rw [Int.toNat_of_nonneg hop0]⟩
    have hebig := (hw.rs 4 rfl).big
    repeat (first | refine go_run ?_ | (refine go_newP ?_; clear hw; intro p w hw) | (refine go_newW ?_; clear hw; intro w hw) | (refine go_newS ?_; clear hw; intro s w hw))
    refine vc_loop2 [19, 21, 120, 121, 122, 123, 124, 125, 126, 127, 128, 129, 130, 131, 132, 133] (G := Nat) (H := Bool) (fun m fo => [(120, .int .i64 m), (19, .bool fo)]) (fun m fo w => m ≤ (pEdges t L).length ∧ (fo = true ↔ ∃ i, i < m ∧ (pEdges t L).getD i tEdg.dflt = ⟨idxL t.vars L S, op, idxL t.vars L (succT t S op.toNat)⟩) ∧ Sat w0 w [OS tInt 3 rv (succT t S op.toNat), RO w0 tInt 3 sv S, Box px 35 [.int .i64 (cntL t.vars L), .int .i64 (idxL t.vars L t.init), cv, ev, gv], OS tInt 3 cv (costsT t), OS tEdg 50 ev (pEdges t L), OS tBool 4 gv GK, OS tInt 3 s1 L, OS tInt 3 s0 L, Box pt 26 [a, b, c, d]]) (fun m _ => (pEdges t L).length - m) 0 false (fun _ _ => rfl) ⟨rfl, rfl, trivial⟩ ⟨Nat.zero_le _, iffF (fun ⟨i, hi, _⟩ => Nat.not_lt_zero _ hi), hw⟩ ?_
    clear hw
    rintro σ1 m fo w ⟨hm, hfo, hw⟩
    repeat (first | refine go_run ?_ | (refine go_newP ?_; clear hw; intro p w hw) | (refine go_newW ?_; clear hw; intro w hw) | (refine go_newS ?_; clear hw; intro s w hw))
    refine go_if (fun h5 => ?_) (fun h5 => ?_)
    · have hml : m < (pEdges t L).length := by omega
      cases fo
      · repeat (first | refine go_run ?_ | (refine go_newP ?_; clear hw; intro p w hw) | (refine go_newW ?_; clear hw; intro w hw) | (refine go_newS ?_; clear hw; intro s w hw))
        refine step_pure rfl (pv_eqlInts (us := [((pEdges t L).getD m tEdg.dflt).src, ((pEdges t L).getD m tEdg.dflt).lab, ((pEdges t L).getD m tEdg.dflt).dst]) (zs := [idxL t.vars L S, op, idxL t.vars L (succT t S op.toNat)]) rfl rfl rfl rfl) ?_
        repeat (first | refine go_run ?_ | (refine go_newP ?_; clear hw; intro p w hw) | (refine go_newW ?_; clear hw; intro w hw) | (refine go_newS ?_; clear hw; intro s w hw))
        refine ⟨m + 1, _, ⟨rfl, rfl, trivial⟩, by repeat (first | exact agree_refl | (apply agree_upd rfl) | (apply agree_mix rfl) | (apply agree_sets rfl)), ⟨by omega, ?_, hw.tail⟩, by omega⟩
        rw [decide_eq_true_eq]
        constructor
        · intro h
          refine ⟨m, by omega, ?_⟩
          simp only [List.cons.injEq, and_true] at h
          obtain ⟨x1, x2, x3⟩ := h
          rw [← x3, ← x2, ← x1]
        · rintro ⟨i, hi, h⟩
          by_cases e : i = m
          · subst e; rw [h]
          · have := hfo.2 ⟨i, by omega, h⟩; cases this
      · obtain ⟨i, hi, h⟩ := hfo.1 rfl
        repeat (first | refine go_run ?_ | (refine go_newP ?_; clear hw; intro p w hw) | (refine go_newW ?_; clear hw; intro w hw) | (refine go_newS ?_; clear hw; intro s w hw))
        exact ⟨m + 1, true, ⟨rfl, rfl, trivial⟩, by repeat (first | exact agree_refl | (apply agree_upd rfl) | (apply agree_mix rfl) | (apply agree_sets rfl)), ⟨by omega, iffT ⟨i, by omega, h⟩, hw.tail⟩, by omega⟩
    · obtain ⟨i, hi, h⟩ := List.getElem_of_mem hme
      have hft : fo = true := hfo.2 ⟨i, by omega, by rw [getD_at hi]; exact h⟩
      subst hft
      repeat (first | refine go_run ?_ | (refine go_newP ?_; clear hw; intro p w hw) | (refine go_newW ?_; clear hw; intro w hw) | (refine go_newS ?_; clear hw; intro s w hw))
      rw [hGK] at hw
      exact ⟨k + 1, rv, succT t S op.toNat, ⟨rfl, rfl, rfl, trivial⟩, by repeat (first | exact agree_refl | (apply agree_upd rfl) | (apply agree_mix rfl) | (apply agree_sets rfl)), ⟨by omega, hS2, ((hw.focus 1 rfl).tail).roNew⟩, by omega⟩
  · repeat (first | refine go_run ?_ | (refine go_newP ?_; clear hw; intro p w hw) | (refine go_newW ?_; clear hw; intro w hw) | (refine go_newS ?_; clear hw; intro s w hw))
    exact res_one (v := .bool true) rfl rfl ⟨rfl, sat_none hw⟩
end Go.Proofs.Ytlgombjhcpgleaa
