
/-
  Contract of LM-cut's 'Cuts'.
-/
import Derived.Test.YtkmbenhffledpaaGreatWLm4
import Derived.Test.YtkmbenhffledpaaGreatMW3
import Derived.Test.YtkmbenhffledpaaGreatMW1
set_option linter.unusedSimpArgs false
set_option linter.unusedVariables false
namespace Go.Proofs.YtkmbenhffledpaaGreat
open Go.Sl Go
attribute [local irreducible] vc opsW opsD opV opW PureV ReadV Thn Blk
structure CutV where
  ops : Value
  cost : Int
def tCut : Ty CutV := ⟨2, fun x => [x.ops, .int .i64 x.cost], fun _ => rfl, ⟨.slice none 0 0, 0⟩⟩
instance inWLm51 : ShutT tCut := ⟨trivial⟩
/-- What the first cuts make of the rest. -/
def Pre (t : TTask) (z cs : List Int) (L : List (List Nat × Int)) : Prop := ∀ r, LMC t z cs r → LMC t z (costsT t) (r.map (L ++ ·))
theorem Pre.zero {t : TTask} {z : List Int} : Pre t z (costsT t) [] := fun r h => by
  have e : r.map (([] : List (List Nat × Int)) ++ ·) = r := by cases r <;> rfl
  rw [e]; exact h
theorem Pre.step {t : TTask} {z cs V : List Int} {L : List (List Nat × Int)} {g0 : Int} {K : List Nat} {c : Int} (h : Pre t z cs L) (h1 : IsHM (withC t cs) z V) (h2 : 0 < maxG t.vars t.goal V) (h3 : maxG t.vars t.goal V < inf) (h4 : GrtF V (goalN t) g0) (h5 : ∀ i, i ∈ K ↔ i < t.ops.length ∧ InCut (withC t cs) z V g0 i) (h6 : K.Pairwise (· < ·)) (h7 : MinC cs K c) : Pre t z (subC cs K c) (L ++ [(K, c)]) := fun r hr => by
  have := h _ (.step h1 h2 h3 h4 h5 h6 h7 hr)
  have e : (r.map ((K, c) :: ·)).map (L ++ ·) = r.map ((L ++ [(K, c)]) ++ ·) := by cases r <;> simp
  rw [e] at this; exact this
def minS (m x : Int) : Int := if x < m then x else m
def minK (cs : List Int) (m : Int) (K : List Nat) : Int := K.foldl (fun m i => minS m (cs.getD i tInt.dflt)) m
theorem minK_ok {cs : List Int} : ∀ {K : List Nat} {m : Int}, minK cs m K ≤ m ∧ (∀ i ∈ K, minK cs m K ≤ cs.getD i tInt.dflt) ∧ (minK cs m K = m ∨ ∃ i ∈ K, cs.getD i tInt.dflt = minK cs m K)
  | [], m => ⟨Int.le_refl _, fun i hi => absurd hi List.not_mem_nil, .inl rfl⟩
  | x :: K, m => by
    obtain ⟨h1, h2, h3⟩ := minK_ok (cs := cs) (K := K) (m := minS m (cs.getD x tInt.dflt))
    have e : minK cs m (x :: K) = minK cs (minS m (cs.getD x tInt.dflt)) K := rfl
    have hs : minS m (cs.getD x tInt.dflt) ≤ m ∧ minS m (cs.getD x tInt.dflt) ≤ cs.getD x tInt.dflt ∧ (minS m (cs.getD x tInt.dflt) = m ∨ minS m (cs.getD x tInt.dflt) = cs.getD x tInt.dflt) := by unfold minS; split <;> omega
    rw [e]
    refine ⟨by omega, fun i hi => ?_, ?_⟩
    · rcases List.mem_cons.1 hi with e | hi
      · rw [e]; omega
      · exact h2 i hi
    · rcases h3 with h3 | ⟨i, hi, h3⟩
      · rcases hs.2.2 with h4 | h4
        · exact .inl (by omega)
        · exact .inr ⟨x, List.mem_cons_self, by omega⟩
      · exact .inr ⟨i, List.mem_cons_of_mem _ hi, h3⟩
theorem minC_of {t : TTask} {cs : List Int} {K : List Nat} (hc : CostsOk t cs) (hne : K ≠ []) (hlt : ∀ i ∈ K, i < cs.length) : MinC cs K (minK cs 1048576 K) := by
  obtain ⟨h1, h2, h3⟩ := minK_ok (cs := cs) (K := K) (m := 1048576)
  refine ⟨?_, h2⟩
  rcases h3 with h3 | ⟨i, hi, h3⟩
  · cases K with
    | nil => exact absurd rfl hne
    | cons x K =>
      have hx := hlt x List.mem_cons_self
      have h4 := hc.2 _ (mem_getD tInt.dflt hx)
      have h5 := h2 x List.mem_cons_self
      exact ⟨x, List.mem_cons_self, hx, by omega⟩
  · exact ⟨i, hi, hlt i hi, h3⟩
theorem take_snocK {K : List Nat} {k : Nat} (h : k < K.length) : K.take (k + 1) = K.take k ++ [K[k]] := by rw [List.take_add_one, List.getElem?_eq_getElem h]; rfl
theorem subC_nil (cs : List Int) (c : Int) : subC cs [] c = cs := by
  unfold subC
  refine List.ext_getElem (by simp) fun i h1 h2 => ?_
  rw [List.getElem_map, List.getElem_range, if_neg List.not_mem_nil, getD_at h2]
theorem subC_set {cs : List Int} {K : List Nat} {c : Int} {k : Nat} (hk : k < K.length) (ha : K.Pairwise (· < ·)) (hl : K[k] < cs.length) : (subC cs (K.take k) c).set K[k] ((subC cs (K.take k) c).getD K[k] tInt.dflt - c) = subC cs (K.take (k + 1)) c := by
  have hni : K[k] ∉ K.take k := fun h => by
    obtain ⟨j, hj, e⟩ := List.getElem_of_mem h
    rw [List.length_take] at hj
    rw [List.getElem_take] at e
    have := List.pairwise_iff_getElem.1 ha j k (by omega) hk (by omega)
    omega
  rw [subC_at hl, if_neg hni]
  refine List.ext_getElem (by rw [List.length_set, subC_len, subC_len]) fun i h1 h2 => ?_
  have hi : i < cs.length := by rw [subC_len] at h2; exact h2
  rw [← getD_at (d := tInt.dflt) h1, ← getD_at (d := tInt.dflt) h2, subC_at hi, take_snocK hk]
  rw [set_at (by rw [subC_len]; exact hl)]
  by_cases e : i = K[k]
  · rw [if_pos e, if_pos (List.mem_append.2 (.inr (List.mem_singleton.2 e))), e]
  · rw [if_neg e, subC_at hi]
    by_cases h : i ∈ K.take k
    · rw [if_pos h, if_pos (List.mem_append.2 (.inl h))]
    · rw [if_neg h, if_neg fun h2 => by
        rcases List.mem_append.1 h2 with h2 | h2
        · exact h h2
        · exact e (List.mem_singleton.1 h2)]
theorem hi_goal {t : TTask} {V : List Int} (hn : ∀ f ∈ goalN t, 0 ≤ f ∧ 0 ≤ dg V f) : hiV V (goalN t) = maxG t.vars t.goal V := by
  rw [hiV_max hn]
  unfold goalN maxG
  rw [List.foldl_map]
set_option maxRecDepth 8000 in
set_option maxHeartbeats 16000000 in
theorem lCuts_spec {w0 : World} {pr : Addr} {a fv gv cv0 lv sv : Value} {us : List CUV} {t : TTask} {z : List Int} (hr : LcR w0 pr t a fv gv cv0 lv us) (hg : GoodT t) (hs : RS tInt w0 sv z) (hok : StateOk t.vars z) :
    Calls Tryz.prog 197 #[.pointer (some pr), sv] w0 fun e w' => (LMC t z (costsT t) none ∧ e = .returned (.tuple #[.slice none 0 0, errV 3]) ∧ Sat w0 w' []) ∨ ∃ ov L cl, LMC t z (costsT t) (some L) ∧ e = .returned (.tuple #[ov, .nilIface]) ∧ cl.map CutV.cost = L.map Prod.snd ∧ (∀ x ∈ cl, x.ops.oneCell' = true) ∧ Sat w0 w' [OS tCut 44 ov cl] := by
  have hr0 := hr
  obtain ⟨hb, hvr, hfr, hgr, hcr, hlr, hll, hF⟩ := hr
  have hol := hg.ops
  have hat : ∀ {w : World} {Γ : List HP}, Sat w0 w Γ → LcR w pr t a fv gv cv0 lv us := fun hw => ⟨hb.at hw, hvr.at hw, hfr.at hw, hgr.at hw, hcr.at hw, hlr.at hw, hll, hF.at hw⟩
  have hgn : ∀ f ∈ goalN t, 0 ≤ f ∧ f < factN t := fun f hf => by
    obtain ⟨x, hx, rfl⟩ := List.mem_map.1 hf
    obtain ⟨i, hi, e⟩ := List.getElem_of_mem hx
    have ho := (hg.goal i hi).1
    rw [getD_at hi, e] at ho
    have h1 := numF_rng hg.pos ho
    have h2 := factN_eq hg
    omega
  have hw := Sat.start w0
  refine calls_of_vc (args := [.pointer (some pr), sv]) mixed Tryz.func197 rfl (by kernel_rfl) (Nat.le_of_ble_eq_true rfl) ?_
  repeat (first | refine go_run ?_ | (refine go_newP ?_; clear hw; intro p w hw) | (refine go_newW ?_; clear hw; intro w hw) | (refine go_newS ?_; clear hw; intro s w hw))
  refine st_call rfl (tProper_spec (hvr.at hw) (hs.at hw)) ?_
  rintro _ w' ⟨⟨r, rfl, hr'⟩, hk'⟩
  replace hw := hw.call0 hk'
  clear hk'
  refine ⟨_, rfl, ?_⟩
  obtain rfl : r = true := hr'.2 hok
  repeat (first | refine go_run ?_ | (refine go_newP ?_; clear hw; intro p w hw) | (refine go_newW ?_; clear hw; intro w hw) | (refine go_newS ?_; clear hw; intro s w hw))
  refine st_call rfl (Clone_spec (hcr.at hw) (by rw [costs_len]; omega)) ?_
  rintro _ w' ⟨cv, rfl, hk'⟩
  replace hw : Sat w0 w' [OS tInt 3 cv (costsT t)] := hw.call1 hk'
  clear hk'
  refine ⟨_, rfl, ?_⟩
  replace hw := hw.nil (T := tCut) (e := 44)
  repeat (first | refine go_run ?_ | (refine go_newP ?_; clear hw; intro p w hw) | (refine go_newW ?_; clear hw; intro w hw) | (refine go_newS ?_; clear hw; intro s w hw))
  refine vc_loop [4, 5, 7, 8, 9, 10, 12, 14, 31, 32, 33, 34, 35, 36, 37, 38, 39, 40, 41, 42, 43, 44, 45, 46, 47, 48, 49, 50, 51, 52, 53, 54, 55, 56, 57, 58, 59, 60, 61, 62, 63, 64, 65, 66, 67, 68, 69, 70, 71, 72, 73, 74, 75, 76, 77, 78, 79, 80, 81, 82, 83, 84, 85, 86, 87, 88] (G := Value × List Int × List (List Nat × Int) × List CutV) (fun x => [(7, x.1)]) (fun x w => CostsOk t x.2.1 ∧ Pre t z x.2.1 x.2.2.1 ∧ x.2.2.2.map CutV.cost = x.2.2.1.map Prod.snd ∧ (∀ y ∈ x.2.2.2, y.ops.oneCell' = true) ∧ x.2.2.2.length + sumD x.2.1 ≤ 4294967296 ∧ Sat w0 w [OS tCut 44 x.1 x.2.2.2, OS tInt 3 cv x.2.1]) (fun x => sumD x.2.1) (.slice none 0 0, costsT t, [], []) (fun _ => rfl) ⟨rfl, trivial⟩ ⟨lm_costs_ok hg, Pre.zero, rfl, (fun x hx => absurd hx List.not_mem_nil), ?_, hw⟩ ?_
  · have h3 := sumD_le (cs := costsT t) (B := 1048576) fun x hx => (costs_rng hg x hx).2
    have h4 : (costsT t).length * 1048576 ≤ 4096 * 1048576 := Nat.mul_le_mul_right _ (by rw [costs_len]; exact hg.ops)
    show 0 + sumD (costsT t) ≤ 4294967296
    omega
  clear hw
  rintro σ ⟨ov, cs, L, cl⟩ w ⟨hc, hPre, hcl, hone, hlen, hw⟩
  simp only at hc hPre hcl hone hlen hw
  have hcsl := hc.1
  repeat (first | refine go_run ?_ | (refine go_newP ?_; clear hw; intro p w hw) | (refine go_newW ?_; clear hw; intro w hw) | (refine go_newS ?_; clear hw; intro s w hw))
  refine st_call rfl (lvalues_spec (hat hw) hg hc (hs.at hw) hok (rsO (s := cv) hw)) ?_
  rintro _ w' ⟨vv, V, rfl, hVm, hk'⟩
  replace hw := hw.call1 hk'
  clear hk'
  refine ⟨_, rfl, ?_⟩
  have hVl : V.length = factN t := hVm.len
  have hnd : ∀ f ∈ goalN t, 0 ≤ f ∧ 0 ≤ dg V f := fun f hf => ⟨(hgn f hf).1, (hVm.rng f (hgn f hf).1 (hgn f hf).2).1⟩
  have hgm := hi_goal hnd
  have hmn := maxG_nn t.vars t.goal V
  have hml : maxG t.vars t.goal V ≤ inf := hm_le (withC_good hg hc) hVm
  have einf : inf = 1125899906842624 := rfl
  repeat (first | refine go_run ?_ | (refine go_newP ?_; clear hw; intro p w hw) | (refine go_newW ?_; clear hw; intro w hw) | (refine go_newS ?_; clear hw; intro s w hw))
  refine st_call rfl (lhighest_spec (hgr.at hw) (rsO (s := vv) hw) fun f hf => ⟨(hgn f hf).1, by have := (hgn f hf).2; omega⟩) ?_
  rintro _ w' ⟨rfl, hk'⟩
  replace hw := hw.call0 hk'
  clear hk'
  refine ⟨_, rfl, ?_⟩
  rw [hgm]
  repeat (first | refine go_run ?_ | (refine go_newP ?_; clear hw; intro p w hw) | (refine go_newWr ?_; clear hw; intro w hw) | (refine go_newS ?_; clear hw; intro s w hw))
  refine go_if (fun h1 => ?_) (fun h1 => ?_)
  · have hL := hPre _ (.dead hVm (by omega))
    repeat (first | refine go_run ?_ | (refine go_newP ?_; clear hw; intro p w hw) | (refine go_newW ?_; clear hw; intro w hw) | (refine go_newS ?_; clear hw; intro s w hw))
    exact res_two (v := .slice none 0 0) (v' := .iface 116 (.int .i64 3)) rfl rfl rfl (.inl ⟨hL, by rw [errV_some (by decide)], sat_none hw⟩)
  repeat (first | refine go_run ?_ | (refine go_newP ?_; clear hw; intro p w hw) | (refine go_newWr ?_; clear hw; intro w hw) | (refine go_newS ?_; clear hw; intro s w hw))
  refine go_if (fun h2 => ?_) (fun h2 => ?_)
  · have hL := hPre _ (.done hVm h2)
    repeat (first | refine go_run ?_ | (refine go_newP ?_; clear hw; intro p w hw) | (refine go_newW ?_; clear hw; intro w hw) | (refine go_newS ?_; clear hw; intro s w hw))
    exact res_two (v := ov) (v' := .nilIface) rfl rfl rfl (.inr ⟨ov, L, cl, by simpa using hL, rfl, hcl, hone, (hw.tail).only⟩)
  have hp0 : 0 < maxG t.vars t.goal V := by omega
  have hpf : maxG t.vars t.goal V < inf := by omega
  have hgne : goalN t ≠ [] := fun e => by
    have : t.goal = [] := by simpa [goalN] using e
    rw [this] at hp0; exact absurd hp0 (by simp [maxG])
  obtain ⟨g0, hgr0⟩ := grt_ex (V := V) hgne
  have X := cutX_of hg hok hc hVm hp0 hpf hgr0
  repeat (first | refine go_run ?_ | (refine go_newP ?_; clear hw; intro p w hw) | (refine go_newWr ?_; clear hw; intro w hw) | (refine go_newS ?_; clear hw; intro s w hw))
  refine st_call rfl (lcut_spec (hat hw) hg hc (hs.at hw) hok (rsO (s := cv) hw) (rsO (s := vv) hw) X) ?_
  rintro _ w' ⟨kv, K, rfl, hasc, hK, hk'⟩
  replace hw := hw.call1 hk'
  clear hk'
  refine ⟨_, rfl, ?_⟩
  have hKlt : ∀ i ∈ K, i < cs.length := fun i hi => by rw [hcsl]; exact ((hK i).1 hi).1
  have hKne : K ≠ [] := fun e => by
    obtain ⟨i, h3, h4⟩ := cut_some X
    have := (hK i).2 ⟨h3, h4⟩
    rw [e] at this; exact absurd this List.not_mem_nil
  have hMin := minC_of hc hKne hKlt
  have hCA := cutAt_of hg hc X hK hasc hMin
  have okv := (rsO (s := kv) hw).one
  have hml2 : (K.map fun i : Nat => (i : Int)).length = K.length := List.length_map _
  repeat (first | refine go_run ?_ | (refine go_newP ?_; clear hw; intro p w hw) | (refine go_newWr ?_; clear hw; intro w hw) | (refine go_newS ?_; clear hw; intro s w hw))
  refine st_build2 (v1 := kv) (v2 := .int .i64 1048576) rfl rfl rfl (by simp only [List.all_cons, List.all_nil, okv]; rfl) ?_
  repeat (first | refine go_run ?_ | (refine go_newP ?_; clear hw; intro p w hw) | (refine go_newS ?_; clear hw; intro s w hw))
  obtain ⟨pc, hpc⟩ : ∃ pc, pc = p := ⟨p, rfl⟩
  subst hpc
  refine st_boxAgg (n := 2) (p := pc) (vs := [kv, .int .i64 1048576]) rfl rfl hw inferInstance rfl rfl (by simp only [List.all_cons, List.all_nil, okv]; rfl) ?_
  clear hw
  intro w hw
  obtain ⟨KI, hKI⟩ : ∃ KI, KI = K.map fun i : Nat => (i : Int) := ⟨_, rfl⟩
  rw [← hKI] at hw hml2
  have hKl : K.length ≤ t.ops.length := by
    have h1 := nodup_sub (l := K) (m := List.range t.ops.length) (hasc.imp fun h => Nat.ne_of_lt h) fun i hi => List.mem_range.2 ((hK i).1 hi).1
    rw [List.length_range] at h1; exact h1
  have hKat : ∀ k (h : k < K.length), KI.getD k tInt.dflt = (K[k] : Int) := fun k h => by
    rw [hKI, getD_at (by rw [List.length_map]; exact h), List.getElem_map]
  repeat (first | refine go_run ?_ | (refine go_newP ?_; clear hw; intro p w hw) | (refine go_newWr ?_; clear hw; intro w hw) | (refine go_newS ?_; clear hw; intro s w hw))
  refine vc_loop [12, 56, 57, 58, 59, 60, 61, 62, 63, 64, 65, 66, 67, 68] (G := Nat) (fun k => [(56, .int .i64 k)]) (fun k w => k ≤ K.length ∧ Sat w0 w [Box pc 44 [kv, .int .i64 (minK cs 1048576 (K.take k))], OS tInt 3 kv KI, OS tInt 3 vv V, OS tCut 44 ov cl, OS tInt 3 cv cs]) (fun k => K.length - k) 0 (fun _ => rfl) ⟨rfl, trivial⟩ ⟨Nat.zero_le _, hw⟩ ?_
  clear hw
  rintro σ1 k w ⟨hk, hw⟩
  repeat (first | refine go_run ?_ | (refine go_newP ?_; clear hw; intro p w hw) | (refine go_newW ?_; clear hw; intro w hw) | (refine go_newS ?_; clear hw; intro s w hw))
  refine go_if (fun h3 => ?_) (fun h3 => ?_)
  · have hkl : k < K.length := by omega
    have hki := hKat k hkl
    have hkc := hKlt _ (List.getElem_mem hkl)
    have hsn : minK cs 1048576 (K.take (k + 1)) = minS (minK cs 1048576 (K.take k)) (cs.getD K[k] tInt.dflt) := by rw [take_snocK hkl]; unfold minK; rw [List.foldl_append]; rfl
    repeat (first | refine go_run ?_ | (refine go_newP ?_; clear hw; intro p w hw) | (refine go_newWr ?_; clear hw; intro w hw) | (refine go_newS ?_; clear hw; intro s w hw))
    refine go_draw ?_
    clear hw
    intro w hw
    repeat (first | refine go_run ?_ | (refine go_newP ?_; clear hw; intro p w hw) | (refine go_newWr ?_; clear hw; intro w hw) | (refine go_newS ?_; clear hw; intro s w hw))
    simp only [List.set_cons_succ, List.set_cons_zero] at hw
    rw [hki, Int.toNat_natCast, show (if cs.getD K[k] tInt.dflt < minK cs 1048576 (K.take k) then cs.getD K[k] tInt.dflt else minK cs 1048576 (K.take k)) = minK cs 1048576 (K.take (k + 1)) from hsn.symm] at hw
    exact ⟨k + 1, ⟨rfl, trivial⟩, by repeat (first | exact agree_refl | (apply agree_upd rfl) | (apply agree_mix rfl) | (apply agree_sets rfl)), ⟨by omega, hw⟩, by omega⟩
  have hke : k = K.length := by omega
  rw [hke, List.take_of_length_le (Nat.le_refl _)] at hw
  obtain ⟨c, hcd⟩ : ∃ c, c = minK cs 1048576 K := ⟨_, rfl⟩
  rw [← hcd] at hw hMin hCA
  rw [← subC_nil cs c] at hw
  have hcl0 := hCA.pos
  have hcl1 := hCA.le
  repeat (first | refine go_run ?_ | (refine go_newP ?_; clear hw; intro p w hw) | (refine go_newWr ?_; clear hw; intro w hw) | (refine go_newS ?_; clear hw; intro s w hw))
  refine vc_loop [14, 72, 73, 74, 75, 76, 77, 78, 79, 80, 81, 82, 83, 84] (G := Nat) (fun k => [(72, .int .i64 k)]) (fun k w => k ≤ K.length ∧ Sat w0 w [Box pc 44 [kv, .int .i64 c], OS tInt 3 kv KI, OS tInt 3 vv V, OS tCut 44 ov cl, OS tInt 3 cv (subC cs (K.take k) c)]) (fun k => K.length - k) 0 (fun _ => rfl) ⟨rfl, trivial⟩ ⟨Nat.zero_le _, hw⟩ ?_
  clear hw
  rintro σ2 k w ⟨hk, hw⟩
  repeat (first | refine go_run ?_ | (refine go_newP ?_; clear hw; intro p w hw) | (refine go_newW ?_; clear hw; intro w hw) | (refine go_newS ?_; clear hw; intro s w hw))
  refine go_if (fun h4 => ?_) (fun h4 => ?_)
  · have hkl : k < K.length := by omega
    have hki := hKat k hkl
    have hkc := hKlt _ (List.getElem_mem hkl)
    have hsl := subC_len cs (K.take k) c
    have hst := subC_set (c := c) hkl hasc hkc
    have hcr := hc.2 _ (mem_getD tInt.dflt hkc)
    have hsa := subC_at (cs := cs) (K := K.take k) (c := c) hkc
    have hsr : -1048576 ≤ (subC cs (K.take k) c).getD K[k] tInt.dflt ∧ (subC cs (K.take k) c).getD K[k] tInt.dflt ≤ 1048576 := by
      rw [hsa]; split <;> omega
    have hk2 : (KI.getD k tInt.dflt).toNat = K[k] := by rw [hki]; rfl
    have hsr2 : -1048576 ≤ (subC cs (K.take k) c).getD (KI.getD k tInt.dflt).toNat tInt.dflt ∧ (subC cs (K.take k) c).getD (KI.getD k tInt.dflt).toNat tInt.dflt ≤ 1048576 := by rw [hk2]; exact hsr
    repeat (first | refine go_run ?_ | (refine go_newP ?_; clear hw; intro p w hw) | (refine go_newWr ?_; clear hw; intro w hw) | (refine go_newS ?_; clear hw; intro s w hw))
    refine go_draw ?_
    clear hw
    intro w hw
    repeat (first | refine go_run ?_ | (refine go_newP ?_; clear hw; intro p w hw) | (refine go_newWr ?_; clear hw; intro w hw) | (refine go_newS ?_; clear hw; intro s w hw))
    rw [hk2, hst] at hw
    exact ⟨k + 1, ⟨rfl, trivial⟩, by repeat (first | exact agree_refl | (apply agree_upd rfl) | (apply agree_mix rfl) | (apply agree_sets rfl)), ⟨by omega, hw⟩, by omega⟩
  have hke2 : k = K.length := by omega
  rw [hke2, List.take_of_length_le (Nat.le_refl _)] at hw
  have hsum := subC_sum (fun x hx => (hc.2 x hx).1) (by omega) hMin
  repeat (first | refine go_run ?_ | (refine go_newP ?_; clear hw; intro p w hw) | (refine go_newWr ?_; clear hw; intro w hw) | (refine go_newS ?_; clear hw; intro s w hw))
  refine st_buildSlice1 tCut (x1 := ⟨kv, c⟩) rfl rfl rfl (Nat.le_of_ble_eq_true rfl) (Nat.zero_lt_succ _) hw ?_
  clear hw
  intro so w hw
  refine st_append (s := ov) (s2 := so) inferInstance rfl rfl (rsO hw) rfl rfl (fun x hx v hv => ?_) (by simp only [List.length_cons, List.length_nil]; omega) (by unfold big; simp only [List.length_cons, List.length_nil]; omega) hw ?_
  · rw [List.mem_singleton.1 hx] at hv
    simp only [tCut, List.mem_cons, List.not_mem_nil, or_false] at hv
    rcases hv with rfl | rfl
    · exact okv
    · rfl
  clear hw
  intro ov2 w hw
  repeat (first | refine go_run ?_ | (refine go_newP ?_; clear hw; intro p w hw) | (refine go_newW ?_; clear hw; intro w hw) | (refine go_newS ?_; clear hw; intro s w hw))
  exact ⟨(ov2, subC cs K c, L ++ [(K, c)], cl ++ [⟨kv, c⟩]), ⟨rfl, trivial⟩, by repeat (first | exact agree_refl | (apply agree_upd rfl) | (apply agree_mix rfl) | (apply agree_sets rfl)), ⟨subC_ok hc hMin, hPre.step hVm hp0 hpf hgr0 hK hasc hMin, by simp [hcl], fun x hx => (by
    rcases List.mem_append.1 hx with hx | hx
    · exact hone x hx
    · rw [List.mem_singleton.1 hx]; exact okv), by simp only [List.length_append, List.length_singleton]; omega, hw.sel⟩, by simp only; omega⟩
end Go.Proofs.YtkmbenhffledpaaGreat
