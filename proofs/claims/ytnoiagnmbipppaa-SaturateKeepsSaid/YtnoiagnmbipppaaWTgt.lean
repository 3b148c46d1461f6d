
/-
  Contract of 'project.targets'.
-/
import Derived.Test.YtnoiagnmbipppaaWProj2
set_option linter.unusedSimpArgs false
set_option linter.unusedVariables false
namespace Go.Proofs.Ytnoiagnmbipppaa
open Go.Sl Go
attribute [local irreducible] vc opsW opsD opV opW PureV ReadV Thn Blk

theorem compL_eq (l : List Int) : compL l = ((List.range l.length).filter fun j => decide (j = 0 ∨ l.getD j tInt.dflt ≠ l.getD (j - 1) tInt.dflt)).map fun j => l.getD j tInt.dflt := by
  have e : ∀ j, l.toArray[j]! = l.getD j tInt.dflt := fun j => by
    simp [getElem!_def, List.getD]
    cases l[j]? <;> rfl
  unfold compL Lib.compact Lib.compactUpTo Lib.keeps
  simp only [e]
theorem compL_mem {l : List Int} {x : Int} : x ∈ compL l ↔ x ∈ l := by
  rw [compL_eq]
  simp only [List.mem_map, List.mem_filter, List.mem_range, decide_eq_true_eq]
  constructor
  · rintro ⟨j, ⟨hj, _⟩, rfl⟩; exact mem_getD _ hj
  · intro hx
    obtain ⟨i, hi, he⟩ := List.mem_iff_getElem.1 hx
    have key : ∀ i, i < l.length → ∃ j, (j < l.length ∧ (j = 0 ∨ l.getD j tInt.dflt ≠ l.getD (j - 1) tInt.dflt)) ∧ l.getD j tInt.dflt = l.getD i tInt.dflt := by
      intro i
      induction i with
      | zero => intro h; exact ⟨0, ⟨h, .inl rfl⟩, rfl⟩
      | succ i ih =>
        intro h
        by_cases hh : l.getD (i + 1) tInt.dflt = l.getD i tInt.dflt
        · obtain ⟨j, h1, h2⟩ := ih (by omega)
          exact ⟨j, h1, h2.trans hh.symm⟩
        · exact ⟨i + 1, ⟨h, .inr hh⟩, rfl⟩
    obtain ⟨j, h1, h2⟩ := key i hi
    exact ⟨j, h1, by rw [h2, getD_at hi, he]⟩
theorem compL_asc {l : List Int} (h : l.Pairwise (· ≤ ·)) : (compL l).Pairwise (· < ·) := by
  rw [compL_eq, List.pairwise_map]
  have hle : ∀ i j, i ≤ j → j < l.length → l.getD i tInt.dflt ≤ l.getD j tInt.dflt := fun i j hij hj => by
    rcases Nat.lt_or_ge i j with h' | h'
    · rw [getD_at (by omega), getD_at hj]; exact List.pairwise_iff_getElem.1 h _ _ _ _ h'
    · have : i = j := by omega
      subst this; exact Int.le_refl _
  refine (List.pairwise_lt_range.filter _).imp_of_mem fun {i j} hi hj hij => ?_
  simp only [List.mem_filter, List.mem_range, decide_eq_true_eq] at hi hj
  have h1 := hle i (j - 1) (by omega) (by omega)
  have h2 := hle (j - 1) j (by omega) hj.1
  have h3 := hj.2.resolve_left (by omega)
  omega
theorem effsP_ok {vars p s : List Int} {l : List Eff} (hs : StateOk vars s) : (∀ e ∈ l, EffOk vars e) → StateOk vars (effsP p s l) := by
  refine snoc_ind (P := fun l => (∀ e ∈ l, EffOk vars e) → StateOk vars (effsP p s l)) (fun _ => hs) ?_ l
  intro l e ih h
  have h1 := ih fun x hx => h x (by simp [hx])
  rw [effsP_snoc]
  split
  · obtain ⟨a, b, c, d⟩ := effOk_range (h e (by simp))
    exact stateOk_set h1 a c d
  · exact h1

set_option maxRecDepth 8000 in
set_option maxHeartbeats 4000000 in
theorem targets_spec {w0 : World} {a b c d vp vf : Value} {vs : List OpV} {t : TTask} {L : List Int} {op : Nat} {fro : Int} (ht : RTask w0 a b c d vs t) (hp : RS tInt w0 vp L) (hf : RS tInt w0 vf (frL t L op))
    (hg : GoodT t) (hL : InV t.vars L) (ho : op < t.ops.length) (h0 : 0 ≤ fro) (h1 : fro < cntL t.vars L) (hB : cntL t.vars L ≤ 4096) (hB2 : cntL t.vars (frL t L op) ≤ 4096) :
    Calls Try.prog 70 #[.agg #[a, b, c, d], .int .i64 op, vp, vf, .int .i64 fro] w0 fun e w' => ∃ s, e = .returned s ∧ Sat w0 w' [OS tInt 3 s (tgtL t L fro op)] := by
  have ht' := ht
  obtain ⟨ha, hb, hc, hd⟩ := ht
  have hrs := hd.rs
  have hdl := hd.len
  have hla := ha.big
  have hll := hrs.big
  have hvl := hg.vars
  have hop : ROp w0 (eget tOp vs op) (opT t op) := hd.at_ op ho
  have hone := hop.one
  obtain ⟨es, hes⟩ := hop.effs
  have hers := hes.rs
  have hel := hes.len
  have heb := hers.big
  have hpr := hop.pre
  have hgo : OpOk t.vars (opT t op) := hg.op op ho
  have he64 := hgo.effs
  have hpl := facts_len hgo.pre
  have hfv : InV t.vars (frL t L op) := freeL_inV _ _ _
  obtain ⟨hs1, hi1⟩ := st1_ok hg hL h0 h1
  have hs2 := st2_ok (op := op) hg hL ho h0 h1
  have hw := Sat.start w0
  refine calls_of_vc (args := [.agg #[a, b, c, d], .int .i64 op, vp, vf, .int .i64 fro]) mixed Try.func70 rfl (by kernel_rfl) (Nat.le_of_ble_eq_true rfl) ?_
  refine vc_seq ?_
  refine vc_region ?_
  refine go_box ?_
  clear hw
  intro pt w hw
  repeat (first | refine go_run ?_ | (refine go_newP ?_; clear hw; intro p w hw) | (refine go_newW ?_; clear hw; intro w hw) | (refine go_newS ?_; clear hw; intro s w hw))
  obtain ⟨po, hpo⟩ : ∃ po, po = p := ⟨p, rfl⟩
  subst hpo
  obtain ⟨sv, hsv⟩ : ∃ sv, sv = s := ⟨s, rfl⟩
  subst hsv
  refine st_call rfl (put_spec (s := sv) (L := L) (st := zerosL t.vars.length) ht' hp hw hg.pos hL.mem (zerosL_len _) h0 (by omega)) ?_
  clear hw
  rintro _ w ⟨rfl, hw⟩
  refine ⟨_, rfl, ?_⟩
  repeat (first | refine go_run ?_ | (refine go_newP ?_; clear hw; intro p w hw) | (refine go_newW ?_; clear hw; intro w hw) | (refine go_newS ?_; clear hw; intro s w hw))
  refine vc_loop [10, 14, 39, 40, 41, 42, 43, 44, 45, 46, 47, 48, 49, 50, 51, 52, 53, 54, 55, 56, 57, 58, 59, 60, 61] (G := Nat) (fun k => [(39, .int .i64 k)]) (fun k w => k ≤ (opT t op).pre.length ∧ PreIn L (st1 t L fro) ((opT t op).pre.take k) ∧ Sat w0 w [OS tInt 3 sv (preS L (st1 t L fro) ((opT t op).pre.take k)), Box po 46 (tOp.enc (eget tOp vs op)), Box pt 26 [a, b, c, d]]) (fun k => (opT t op).pre.length - k) 0 (fun _ => rfl) ⟨rfl, trivial⟩ ⟨Nat.zero_le _, fun x hx => by simp at hx, hw⟩ ?_
  clear hw
  rintro σ k w ⟨hk, hpi, hw⟩
  repeat (first | refine go_run ?_ | (refine go_newP ?_; clear hw; intro p w hw) | (refine go_newW ?_; clear hw; intro w hw) | (refine go_newS ?_; clear hw; intro s w hw))
  refine go_if (fun h2 => ?_) (fun h2 => ?_)
  · have hkl : k < (opT t op).pre.length := by omega
    have hsn := preS_snoc L (st1 t L fro) ((opT t op).pre.take k) ((opT t op).pre.getD k tFact.dflt)
    rw [← take_snoc tFact.dflt hkl] at hsn
    have hfx := (opFacts hg ho).1 _ (mem_getD tFact.dflt hkl)
    have hln := preS_len L (st1 t L fro) ((opT t op).pre.take k)
    have hs1l := hs1.1
    obtain ⟨f1, f2, f3, f4⟩ := hfx
    repeat (first | refine go_run ?_ | (refine go_newP ?_; clear hw; intro p w hw) | (refine go_newW ?_; clear hw; intro w hw) | (refine go_newS ?_; clear hw; intro s w hw))
    refine st_call rfl (Contains_spec (hp.at hw)) ?_
    rintro _ w' ⟨rfl, hk'⟩
    replace hw := hw.call0 hk'
    clear hk'
    by_cases hm : ((opT t op).pre.getD k tFact.dflt).var ∈ L
    · have hsame : (preS L (st1 t L fro) ((opT t op).pre.take k)).getD ((opT t op).pre.getD k tFact.dflt).var.toNat tInt.dflt = sg (st1 t L fro) ((opT t op).pre.getD k tFact.dflt).var :=
        preS_other f1 (fun x hx => (opFacts hg ho).1 x (List.mem_of_mem_take hx)) fun x _ hx e => hx (e ▸ hm)
      rw [decide_eq_true hm]
      refine ⟨_, rfl, ?_⟩
      repeat (first | refine go_run ?_ | (refine go_newP ?_; clear hw; intro p w hw) | (refine go_newW ?_; clear hw; intro w hw) | (refine go_newS ?_; clear hw; intro s w hw))
      refine go_if (fun h3 => ?_) (fun h3 => ?_)
      · repeat (first | refine go_run ?_ | (refine go_newP ?_; clear hw; intro p w hw) | (refine go_newW ?_; clear hw; intro w hw) | (refine go_newS ?_; clear hw; intro s w hw))
        refine res_one (v := .slice none 0 0) rfl rfl ⟨_, rfl, ?_⟩
        rw [tgt_none hg hL h0 h1 fun h => h3 (by rw [hsame]; exact h _ (mem_getD tFact.dflt hkl) hm)]
        exact hw.tail.tail.tail.tail.nil
      · repeat (first | refine go_run ?_ | (refine go_newP ?_; clear hw; intro p w hw) | (refine go_newW ?_; clear hw; intro w hw) | (refine go_newS ?_; clear hw; intro s w hw))
        refine ⟨k + 1, ⟨rfl, trivial⟩, by repeat (first | exact agree_refl | (apply agree_upd rfl) | (apply agree_mix rfl) | (apply agree_sets rfl)), ⟨by omega, ?_, ?_⟩, by omega⟩
        · rw [take_snoc tFact.dflt hkl]
          intro x hx hxp
          rcases List.mem_append.1 hx with hx | hx
          · exact hpi x hx hxp
          · rw [List.mem_singleton.1 hx, ← hsame]; omega
        · rw [hsn, if_pos hm]; exact hw.tail
    · rw [decide_eq_false hm]
      refine ⟨_, rfl, ?_⟩
      repeat (first | refine go_run ?_ | (refine go_newP ?_; clear hw; intro p w hw) | (refine go_newW ?_; clear hw; intro w hw) | (refine go_newS ?_; clear hw; intro s w hw))
      refine ⟨k + 1, ⟨rfl, trivial⟩, by repeat (first | exact agree_refl | (apply agree_upd rfl) | (apply agree_mix rfl) | (apply agree_sets rfl)), ⟨by omega, ?_, ?_⟩, by omega⟩
      · rw [take_snoc tFact.dflt hkl]
        intro x hx hxp
        rcases List.mem_append.1 hx with hx | hx
        · exact hpi x hx hxp
        · rw [List.mem_singleton.1 hx] at hxp; exact absurd hxp hm
      · rw [hsn, if_neg hm]; exact hw.tail
  · rw [List.take_of_length_le (by omega)] at hpi hw
    have hfin := fun b => out_tg (b := b) hg hL ho h0 h1 hpi
    repeat (first | refine go_run ?_ | (refine go_newP ?_; clear hw; intro p w hw) | (refine go_newW ?_; clear hw; intro w hw) | (refine go_newS ?_; clear hw; intro s w hw))
    refine st_call rfl (count_spec (ht'.at hw) (hf.at hw) hg hfv.mem) ?_
    rintro _ w' ⟨rfl, hk'⟩
    replace hw := hw.call0 hk'
    clear hk'
    rw [if_pos hB2]
    refine ⟨_, rfl, ?_⟩
    repeat (first | refine go_run ?_ | (refine go_newP ?_; clear hw; intro p w hw) | (refine go_newW ?_; clear hw; intro w hw) | (refine go_newS ?_; clear hw; intro s w hw))
    obtain ⟨N, hN⟩ : ∃ N, N = cntL t.vars (frL t L op) := ⟨_, rfl⟩
    have hN1 := cntL_pos hg.pos hfv.mem
    rw [← hN] at hfin hN1 hB2 ⊢
    refine vc_loop4 [17, 18, 19, 21, 69, 70, 71, 72, 73, 74, 75, 76, 77, 78, 79, 80, 81, 82, 83, 84, 85, 86, 87, 88, 89, 90, 91, 92, 93, 94, 95, 96, 97, 98, 99, 100, 101, 102, 103, 104, 105, 106, 107, 108, 109, 110] (G := Nat) (H := Value) (I := List Int) (M := List Int) (fun k so _ _ => [(69, .int .i64 k), (17, so)]) (fun k so xs S w => k ≤ N ∧ xs.length = k ∧ (∀ b, b ∈ xs ↔ OutOf t L op fro k b) ∧ StateOk t.vars S ∧ (∀ v, 0 ≤ v → v ∉ frL t L op → sg S v = sg (st2 t L op fro) v) ∧ Sat w0 w [OS tInt 3 so xs, OS tInt 3 sv S, Box po 46 (tOp.enc (eget tOp vs op)), Box pt 26 [a, b, c, d]]) (fun k _ _ _ => N.toNat - k) 0 (.slice none 0 0) [] (st2 t L op fro) (fun _ _ _ _ => rfl) ⟨rfl, rfl, trivial⟩ ⟨by omega, rfl, fun b => ⟨fun h => by simp at h, fun ⟨S, hS, _, hlt, _⟩ => absurd (idxL_bound hS hfv.mem).1 (by omega)⟩, hs2, fun _ _ _ => rfl, hw.nil⟩ ?_
    clear hw
    rintro σ k so xs S w ⟨hk, hxl, hmem, hS, hag, hw⟩
    repeat (first | refine go_run ?_ | (refine go_newP ?_; clear hw; intro p w hw) | (refine go_newW ?_; clear hw; intro w hw) | (refine go_newS ?_; clear hw; intro s w hw))
    refine go_if (fun h3 => ?_) (fun h3 => ?_)
    · have hk0 : (0 : Int) ≤ k := by omega
      have hkN : (k : Int) < cntL t.vars (frL t L op) := by omega
      have hq := putS_spec (s := S) hg.pos hfv hS.1 hk0 hkN
      have hSo := putS_ok (s := S) hg.pos hfv hk0 hkN hS.1 fun v hv hv' _ => hS.rng hv hv'
      have hag' : ∀ v, 0 ≤ v → v ∉ frL t L op → sg (putS t.vars (frL t L op) S k) v = sg (st2 t L op fro) v := fun v hv hn => by rw [hq.2.2 v hv hn, hag v hv hn]
      have hos := fun b => out_succ (b := b) hg hL ho hSo hag' hq.1
      repeat (first | refine go_run ?_ | (refine go_newP ?_; clear hw; intro p w hw) | (refine go_newW ?_; clear hw; intro w hw) | (refine go_newS ?_; clear hw; intro s w hw))
      refine st_call rfl (put_spec (s := sv) (L := frL t L op) (st := S) ht' hf hw.swap hg.pos hfv.mem hS.1 hk0 (by omega)) ?_
      clear hw
      rintro _ w ⟨rfl, hw⟩
      refine ⟨_, rfl, ?_⟩
      obtain ⟨S', hS'⟩ : ∃ S', S' = putS t.vars (frL t L op) S k := ⟨_, rfl⟩
      rw [← hS'] at hw hSo hag' hos
      have hSl := hSo.1
      clear hS hag hq
      repeat (first | refine go_run ?_ | (refine go_newP ?_; clear hw; intro p w hw) | (refine go_newW ?_; clear hw; intro w hw) | (refine go_newS ?_; clear hw; intro s w hw))
      refine st_call rfl (Clone_spec (a := sv) (xs := S') (rsO hw) (by omega)) ?_
      rintro _ w' ⟨sn, rfl, hk'⟩
      replace hw := hw.call1 hk'
      clear hk'
      refine ⟨_, rfl, ?_⟩
      repeat (first | refine go_run ?_ | (refine go_newP ?_; clear hw; intro p w hw) | (refine go_newW ?_; clear hw; intro w hw) | (refine go_newS ?_; clear hw; intro s w hw))
      refine vc_loop [21, 82, 83, 84, 85, 86, 87, 88, 89, 90, 91, 92, 93, 94, 95, 96, 97, 98, 99, 100, 101, 102] (G := Nat) (fun j => [(82, .int .i64 j)]) (fun j w => j ≤ (opT t op).effs.length ∧ Sat w0 w [OS tInt 3 sn (effsP L S' ((opT t op).effs.take j)), OS tInt 3 sv S', OS tInt 3 so xs, Box po 46 (tOp.enc (eget tOp vs op)), Box pt 26 [a, b, c, d]]) (fun j => (opT t op).effs.length - j) 0 (fun _ => rfl) ⟨rfl, trivial⟩ ⟨Nat.zero_le _, hw⟩ ?_
      clear hw
      rintro σ1 j w ⟨hj, hw⟩
      repeat (first | refine go_run ?_ | (refine go_newP ?_; clear hw; intro p w hw) | (refine go_newW ?_; clear hw; intro w hw) | (refine go_newS ?_; clear hw; intro s w hw))
      refine go_if (fun h4 => ?_) (fun h4 => ?_)
      · have hjl : j < (opT t op).effs.length := by omega
        have hek := hes.at_ j hjl
        have hwh := hek.when
        have hone2 := hek.one
        have hv1 := hek.var
        have hv2 := hek.val
        obtain ⟨r1, r2, r3, r4⟩ := effOk_range (hgo.eff j hjl)
        have hsn := effsP_snoc L S' ((opT t op).effs.take j) ((opT t op).effs.getD j dEff)
        rw [← take_snoc dEff hjl] at hsn
        have hln := effsP_len L S' ((opT t op).effs.take j)
        repeat (first | refine go_run ?_ | (refine go_newP ?_; clear hw; intro p w hw) | (refine go_newW ?_; clear hw; intro w hw) | (refine go_newS ?_; clear hw; intro s w hw))
        refine st_call rfl (Contains_spec (hp.at hw)) ?_
        rintro _ w' ⟨rfl, hk'⟩
        replace hw := hw.call0 hk'
        clear hk'
        by_cases hm : (eget tEff es j).var ∈ L
        · rw [decide_eq_true hm]
          refine ⟨_, rfl, ?_⟩
          repeat (first | refine go_run ?_ | (refine go_newP ?_; clear hw; intro p w hw) | (refine go_newW ?_; clear hw; intro w hw) | (refine go_newS ?_; clear hw; intro s w hw))
          refine st_call rfl (tHolds_spec (b := sv) (s := S') (hwh.at hw) (rsO hw)) ?_
          rintro _ w' ⟨⟨r, rfl, hr⟩, hk'⟩
          replace hw := hw.call0 hk'
          clear hk'
          refine ⟨_, rfl, ?_⟩
          cases r with
          | false =>
            repeat (first | refine go_run ?_ | (refine go_newP ?_; clear hw; intro p w hw) | (refine go_newW ?_; clear hw; intro w hw) | (refine go_newS ?_; clear hw; intro s w hw))
            refine ⟨j + 1, ⟨rfl, trivial⟩, by repeat (first | exact agree_refl | (apply agree_upd rfl) | (apply agree_mix rfl) | (apply agree_sets rfl)), ⟨by omega, ?_⟩, by omega⟩
            rw [hsn, if_neg fun h => by have := hr.2 h.2; cases this]
            exact hw.tail
          | true =>
            repeat (first | refine go_run ?_ | (refine go_newP ?_; clear hw; intro p w hw) | (refine go_newW ?_; clear hw; intro w hw) | (refine go_newS ?_; clear hw; intro s w hw))
            refine ⟨j + 1, ⟨rfl, trivial⟩, by repeat (first | exact agree_refl | (apply agree_upd rfl) | (apply agree_mix rfl) | (apply agree_sets rfl)), ⟨by omega, ?_⟩, by omega⟩
            rw [hsn, if_pos ⟨hv1 ▸ hm, hr.1 rfl⟩, ← hv1, ← hv2]
            exact hw.tail
        · rw [decide_eq_false hm]
          refine ⟨_, rfl, ?_⟩
          repeat (first | refine go_run ?_ | (refine go_newP ?_; clear hw; intro p w hw) | (refine go_newW ?_; clear hw; intro w hw) | (refine go_newS ?_; clear hw; intro s w hw))
          refine ⟨j + 1, ⟨rfl, trivial⟩, by repeat (first | exact agree_refl | (apply agree_upd rfl) | (apply agree_mix rfl) | (apply agree_sets rfl)), ⟨by omega, ?_⟩, by omega⟩
          rw [hsn, if_neg fun h => hm (hv1 ▸ h.1)]
          exact hw.tail
      · rw [List.take_of_length_le (by omega)] at hw
        have hok := effsP_ok (p := L) hSo hgo.mem
        repeat (first | refine go_run ?_ | (refine go_newP ?_; clear hw; intro p w hw) | (refine go_newW ?_; clear hw; intro w hw) | (refine go_newS ?_; clear hw; intro s w hw))
        refine st_call rfl (number_spec (sv := sn) (s := effsP L S' (opT t op).effs) (ht'.at hw) (hp.at hw) (rsO hw) hg hL.mem hok (by omega)) ?_
        rintro _ w' ⟨rfl, hk'⟩
        replace hw := hw.call0 hk'
        clear hk'
        refine ⟨_, rfl, ?_⟩
        repeat (first | refine go_run ?_ | (refine go_newP ?_; clear hw; intro p w hw) | (refine go_newW ?_; clear hw; intro w hw) | (refine go_newS ?_; clear hw; intro s w hw))
        refine ⟨k + 1, _, xs ++ [idxL t.vars L (effsP L S' (opT t op).effs)], S', ⟨rfl, rfl, trivial⟩, by repeat (first | exact agree_refl | (apply agree_upd rfl) | (apply agree_mix rfl) | (apply agree_sets rfl)), ⟨by omega, by simp [hxl], fun b => ?_, hSo, hag', ?_⟩, by omega⟩
        · rw [List.mem_append, List.mem_singleton, hmem b, Int.natCast_add, Int.natCast_one, hos b]
        · exact hw.tail.tail.swap
    · have hkN : (k : Int) = N := by omega
      rw [hkN] at hmem
      repeat (first | refine go_run ?_ | (refine go_newP ?_; clear hw; intro p w hw) | (refine go_newW ?_; clear hw; intro w hw) | (refine go_newS ?_; clear hw; intro s w hw))
      refine st_call rfl (Sort_spec (s := so) hw (by omega)) ?_
      clear hw
      rintro _ w ⟨rfl, hw⟩
      refine ⟨_, rfl, ?_⟩
      repeat (first | refine go_run ?_ | (refine go_newP ?_; clear hw; intro p w hw) | (refine go_newW ?_; clear hw; intro w hw) | (refine go_newS ?_; clear hw; intro s w hw))
      refine st_call rfl (Compact_spec (s := so) hw (by rw [sortL_len]; omega)) ?_
      clear hw
      rintro _ w ⟨s', rfl, hw⟩
      refine ⟨_, rfl, ?_⟩
      repeat (first | refine go_run ?_ | (refine go_newP ?_; clear hw; intro p w hw) | (refine go_newW ?_; clear hw; intro w hw) | (refine go_newS ?_; clear hw; intro s w hw))
      refine res_one (v := s') rfl rfl ⟨s', rfl, ?_⟩
      have e : compL (sortL xs) = tgtL t L fro op := by
        refine asc_pick (compL_asc (sortL_pw xs)) fun u => ?_
        rw [compL_mem, sortL_mem, hmem u, hfin u]
        constructor
        · intro h
          have h' := (hfin u).2 h
          exact ⟨out_bd hg hL ho h', h⟩
        · exact fun h => h.2
      rw [e] at hw
      exact hw.only
end Go.Proofs.Ytnoiagnmbipppaa
