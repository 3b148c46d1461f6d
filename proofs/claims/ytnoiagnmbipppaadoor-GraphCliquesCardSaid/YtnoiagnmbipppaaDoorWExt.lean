
/-
  The reference's enumeration of maximal cliques.
-/
import Derived.Test.YtnoiagnmbipppaaDoorWTBase
import Derived.Test.YtnoiagnmbipppaaDoorMTA
import Derived.Test.YtnoiagnmbipppaaDoorMSlB
set_option linter.unusedSimpArgs false
set_option linter.unusedVariables false
namespace Go.Proofs.YtnoiagnmbipppaaDoor
open Go.Sl Go
attribute [local irreducible] vc opsW opsD opV opW PureV ReadV Thn Blk
theorem rot3 {w0 w : World} {A B C : HP} {Γ : List HP} (h : Sat w0 w (A :: B :: C :: Γ)) : Sat w0 w (B :: C :: A :: Γ) := h.perm ((List.Perm.swap _ _ _).trans (.cons _ (.swap _ _ _)))
theorem drop3 {w0 w : World} {A B C : HP} {Γ : List HP} (h : Sat w0 w (A :: B :: C :: Γ)) : Sat w0 w (A :: B :: Γ) := (h.focus 2 rfl).tail
theorem bitsK_congr {C C' : Nat} : ∀ {k : Nat}, (∀ i, i < k → (ib C i ↔ ib C' i)) → bitsK C k = bitsK C' k
  | 0, _ => rfl
  | k + 1, h => by
    have ih := bitsK_congr (k := k) fun i hi => h i (by omega)
    have hk := h k (by omega)
    by_cases hb : ib C k
    · rw [bitsK_in hb, bitsK_in (hk.1 hb), ih]
    · rw [bitsK_out hb, bitsK_out (fun hh => hb (hk.2 hh)), ih]
theorem bitsK_or {C v : Nat} (h : ∀ i, ib C i → i < v) : bitsK (C ||| 2 ^ v) (v + 1) = bitsK C v ++ [(v : Int)] := by
  rw [bitsK_in (ib_orN.2 (.inr (ib_two.2 rfl)))]
  congr 1
  exact bitsK_congr fun i hi => by
    rw [ib_orN, ib_two]
    exact ⟨fun hh => hh.elim id fun e => by omega, .inl⟩
/-- An arc that connects two nodes. -/
def ConnA (x : Arc) (v u : Nat) : Prop := (x.src = v ∧ x.dst = u) ∨ (x.src = u ∧ x.dst = v)
theorem adjA_conn {arcs : List Arc} {v u : Nat} : AdjA arcs v u ↔ v ≠ u ∧ ∃ i, i < arcs.length ∧ ConnA (arcs.getD i tArc.dflt) v u := by
  unfold AdjA ConnA
  constructor
  · rintro ⟨h, a, ha, hh⟩
    obtain ⟨i, hi, rfl⟩ := List.getElem_of_mem ha
    exact ⟨h, i, hi, by rw [getD_at hi]; exact hh⟩
  · rintro ⟨h, i, hi, hh⟩
    exact ⟨h, _, mem_getD tArc.dflt hi, hh⟩
set_option maxRecDepth 8000 in
set_option maxHeartbeats 2000000 in
theorem Edge_spec {w0 : World} {a : Value} {arcs : List Arc} (ha : RS tArc w0 a arcs) {v u : Nat} :
    Calls Tryd.prog 29 #[a, .int .i64 (v : Int), .int .i64 (u : Int)] w0 fun e w' => (∃ r, e = .returned (.bool r) ∧ (r = true ↔ AdjA arcs v u)) ∧ Sat w0 w' [] := by
  have hla := ha.big
  have hw := Sat.start w0
  refine calls_of_vc (args := [a, .int .i64 (v : Int), .int .i64 (u : Int)]) mixed Tryd.func29 rfl (by kernel_rfl) (Nat.le_of_ble_eq_true rfl) ?_
  repeat (first | refine go_run ?_ | (refine go_newP ?_; clear hw; intro p w hw) | (refine go_newW ?_; clear hw; intro w hw) | (refine go_newS ?_; clear hw; intro s w hw))
  refine vc_loop [6, 8, 11, 12, 13, 14, 15, 16, 17, 18, 19, 20, 21, 22, 23, 24, 25, 26, 27, 28, 29, 30, 31, 32, 33, 34, 35, 36, 37, 38, 39, 40] (G := Nat) (fun k => [(11, .int .i64 k)]) (fun k w => k ≤ arcs.length ∧ (∀ i, i < k → ¬ ConnA (arcs.getD i tArc.dflt) v u) ∧ Sat w0 w []) (fun k => arcs.length - k) 0 (fun _ => rfl) ⟨rfl, trivial⟩ ⟨Nat.zero_le _, fun i hi => absurd hi (Nat.not_lt_zero _), hw⟩ ?_
  clear hw
  rintro σ k w ⟨hk, hno, hw⟩
  repeat (first | refine go_run ?_ | (refine go_newP ?_; clear hw; intro p w hw) | (refine go_newW ?_; clear hw; intro w hw) | (refine go_newS ?_; clear hw; intro s w hw))
  refine go_if (fun h1 => ?_) (fun h1 => ?_)
  · have hkl : k < arcs.length := by omega
    repeat (first | refine go_runC ?_ | (refine go_newP ?_; clear hw; intro p w hw) | (refine go_newW ?_; clear hw; intro w hw) | (refine go_newS ?_; clear hw; intro s w hw))
    refine go_if (fun h2 => ?_) (fun h2 => ?_)
    · repeat (first | refine go_run ?_ | (refine go_newP ?_; clear hw; intro p w hw) | (refine go_newW ?_; clear hw; intro w hw) | (refine go_newS ?_; clear hw; intro s w hw))
      refine res_one (v := .bool (!decide ((v : Int) = u))) rfl rfl ⟨⟨_, rfl, ?_⟩, hw.tail⟩
      rw [adjA_conn, Bool.not_eq_true', decide_eq_false_iff_not]
      exact ⟨fun h => ⟨by omega, k, hkl, by unfold ConnA; omega⟩, fun h => by have := h.1; omega⟩
    · repeat (first | refine go_run ?_ | (refine go_newP ?_; clear hw; intro p w hw) | (refine go_newW ?_; clear hw; intro w hw) | (refine go_newS ?_; clear hw; intro s w hw))
      refine ⟨k + 1, ⟨rfl, trivial⟩, by repeat (first | exact agree_refl | (apply agree_upd rfl) | (apply agree_mix rfl) | (apply agree_sets rfl)), ⟨by omega, fun i hi => ?_, hw.tail⟩, by omega⟩
      by_cases e : i = k
      · subst e; unfold ConnA; omega
      · exact hno i (by omega)
  · repeat (first | refine go_run ?_ | (refine go_newP ?_; clear hw; intro p w hw) | (refine go_newW ?_; clear hw; intro w hw) | (refine go_newS ?_; clear hw; intro s w hw))
    refine res_one (v := .bool false) rfl rfl ⟨⟨false, rfl, iffF fun h => ?_⟩, hw⟩
    obtain ⟨_, i, hi, hh⟩ := adjA_conn.1 h
    exact hno i (by omega) hh
theorem not_max {n : Nat} {arcs : List Arc} (hok : ∀ x ∈ arcs, arcOk n x) {C u : Nat} (hb : ∀ i, ib C i → i < n) (hu : u < n) (hnu : ¬ ib C u) (hadj : ∀ i, ib C i → AdjA arcs i u) : ∀ C', MaxC n (nbA n arcs) C' → bitsK C' n ≠ bitsK C n := fun C' hC' e => by
  have := bitsK_inj hC'.bd hb e
  subst this
  obtain ⟨v, hv, hn⟩ := hC'.max u hu hnu
  exact hn ((nbA_bit hok).2 (hadj v hv).symm)
theorem bits_at {C k i : Nat} (hi : i < (bitsK C k).length) : ∃ x : Nat, (bitsK C k).getD i tInt.dflt = x ∧ ib C x ∧ x < k := by
  obtain ⟨x, h1, h2, h3⟩ := mem_bitsK.1 (mem_getD tInt.dflt hi)
  exact ⟨x, h3, h2, h1⟩
theorem bits_pos {C k x : Nat} (h : ib C x) (hx : x < k) : ∃ i, i < (bitsK C k).length ∧ (bitsK C k).getD i tInt.dflt = x := by
  obtain ⟨i, hi, e⟩ := List.getElem_of_mem (mem_bitsK.2 ⟨x, hx, h, rfl⟩)
  exact ⟨i, hi, by rw [getD_at hi, e]⟩
set_option maxRecDepth 8000 in
set_option maxHeartbeats 4000000 in
theorem ext_spec {w0 : World} {a : Value} {arcs : List Arc} {n : Nat} (ha : RS tArc w0 a arcs) (hn : n ≤ 12) (hn0 : 0 < n) (hok : ∀ x ∈ arcs, arcOk n x) : ∀ (d v : Nat), v + d = n → ∀ {Γ : List HP} {w : World} {lv ov : Value} {C : Nat} {os : List Value} {Os : List (List Int)},
    (∀ w, Sat w0 w Γ → RS tInt w lv (bitsK C v)) → (∀ i j, ib C i → ib C j → i ≠ j → ib ((nbA n arcs) i) j) → (∀ i, ib C i → i < v) → Os.length + 2 ^ d ≤ 65536 → Sat w0 w (RowsAt tInt 3 os Os :: OS tVal 35 ov os :: Γ) →
    Calls Tryd.prog 20 #[.int .i64 (n : Int), a, lv, .int .i64 (v : Int), ov] w fun e w' => ∃ ov' os' E, e = .returned ov' ∧ ExtOk n (nbA n arcs) (bitsK C v) v E ∧ E.length ≤ 2 ^ d ∧ Sat w0 w' (RowsAt tInt 3 os' (Os ++ E) :: OS tVal 35 ov' os' :: Γ) := by
  intro d
  induction d with
  | zero =>
    intro v hv Γ w lv ov C os Os hR hcl hCb hlen hw
    have hvn : v = n := by omega
    subst hvn
    have hll := bitsK_len C v
    have hol := hw.rowsLen
    refine calls_of_vc (args := [.int .i64 (v : Int), a, lv, .int .i64 (v : Int), ov]) mixed Tryd.func20 rfl (by kernel_rfl) (Nat.le_of_ble_eq_true rfl) ?_
    repeat (first | refine go_run ?_ | (refine go_newP ?_; clear hw; intro p w hw) | (refine go_newW ?_; clear hw; intro w hw) | (refine go_newS ?_; clear hw; intro s w hw))
    have hd0 : decide ((v : Int) = v) = true := decide_eq_true rfl
    simp only [hd0]
    repeat (first | refine go_run ?_ | (refine go_newP ?_; clear hw; intro p w hw) | (refine go_newW ?_; clear hw; intro w hw) | (refine go_newS ?_; clear hw; intro s w hw))
    refine vc_loop [10, 11, 12, 13, 15, 23, 24, 25, 26, 27, 28, 29, 30, 31, 32, 33, 34, 35, 36, 37, 38, 39, 40, 41, 42, 43, 44, 45, 46, 47, 48, 49, 50, 51, 52] (G := Nat) (fun u => [(23, .int .i64 u)]) (fun u w => u ≤ v ∧ (∀ i, i < u → ib C i ∨ ∃ j, ib C j ∧ ¬ AdjA arcs j i) ∧ Sat w0 w (RowsAt tInt 3 os Os :: OS tVal 35 ov os :: Γ)) (fun u => v - u) 0 (fun _ => rfl) ⟨rfl, trivial⟩ ⟨Nat.zero_le _, fun i hi => absurd hi (Nat.not_lt_zero _), hw⟩ ?_
    clear hw
    rintro σ u w ⟨hu, hfit, hw⟩
    repeat (first | refine go_run ?_ | (refine go_newP ?_; clear hw; intro p w hw) | (refine go_newW ?_; clear hw; intro w hw) | (refine go_newS ?_; clear hw; intro s w hw))
    refine go_if (fun h1 => ?_) (fun h1 => ?_)
    · have hul : u < v := by omega
      have hr := hR _ hw.tail.tail
      repeat (first | refine go_run ?_ | (refine go_newP ?_; clear hw; intro p w hw) | (refine go_newW ?_; clear hw; intro w hw) | (refine go_newS ?_; clear hw; intro s w hw))
      refine vc_loop [12, 13, 15, 28, 29, 30, 31, 32, 33, 34, 35, 36, 37, 38, 39, 40, 41, 42, 43, 44, 45] (G := Nat × Bool × Bool) (fun x => [(28, .int .i64 x.1), (12, .bool x.2.1), (13, .bool x.2.2)]) (fun x w => x.1 ≤ (bitsK C v).length ∧ (x.2.1 = true ↔ ∀ i, i < x.1 → AdjA arcs ((bitsK C v).getD i tInt.dflt).toNat u) ∧ (x.2.2 = true ↔ ∃ i, i < x.1 ∧ (bitsK C v).getD i tInt.dflt = (u : Int)) ∧ Sat w0 w (RowsAt tInt 3 os Os :: OS tVal 35 ov os :: Γ)) (fun x => (bitsK C v).length - x.1) (0, true, false) (fun _ => rfl) ⟨rfl, rfl, rfl, trivial⟩ ⟨Nat.zero_le _, iffT fun i hi => absurd hi (Nat.not_lt_zero _), iffF fun ⟨i, hi, _⟩ => absurd hi (Nat.not_lt_zero _), hw⟩ ?_
      clear hw hr
      rintro σ1 ⟨k, f, g⟩ w ⟨hk, hf, hg, hw⟩
      simp only at hk hf hg hw
      have hr := hR _ hw.tail.tail
      repeat (first | refine go_run ?_ | (refine go_newP ?_; clear hw; intro p w hw) | (refine go_newW ?_; clear hw; intro w hw) | (refine go_newS ?_; clear hw; intro s w hw))
      refine go_if (fun h2 => ?_) (fun h2 => ?_)
      · have hkl : k < (bitsK C v).length := by omega
        obtain ⟨x, hx, hCx, hxv⟩ := bits_at hkl
        have hall : (∀ i, i < k + 1 → AdjA arcs ((bitsK C v).getD i tInt.dflt).toNat u) ↔ (∀ i, i < k → AdjA arcs ((bitsK C v).getD i tInt.dflt).toNat u) ∧ AdjA arcs x u := by
          constructor
          · intro h
            refine ⟨fun i hi => h i (by omega), ?_⟩
            have := h k (Nat.lt_succ_self k)
            rwa [hx, Int.toNat_natCast] at this
          · rintro ⟨p1, p2⟩ i hi
            by_cases e : i = k
            · rw [e, hx, Int.toNat_natCast]; exact p2
            · exact p1 i (by omega)
        have hany : (∃ i, i < k + 1 ∧ (bitsK C v).getD i tInt.dflt = (u : Int)) ↔ (∃ i, i < k ∧ (bitsK C v).getD i tInt.dflt = (u : Int)) ∨ (x : Int) = u := by
          constructor
          · rintro ⟨i, hi, e1⟩
            by_cases e : i = k
            · subst e; exact .inr (hx.symm.trans e1)
            · exact .inl ⟨i, by omega, e1⟩
          · rintro (⟨i, hi, e1⟩ | e1)
            · exact ⟨i, by omega, e1⟩
            · exact ⟨k, by omega, hx.trans e1⟩
        have hg2 : (g || decide ((x : Int) = u)) = true ↔ ∃ i, i < k + 1 ∧ (bitsK C v).getD i tInt.dflt = (u : Int) := by
          rw [hany, Bool.or_eq_true, hg, decide_eq_true_eq]
        cases f
        · repeat (first | refine go_run ?_ | (refine go_newP ?_; clear hw; intro p w hw) | (refine go_newW ?_; clear hw; intro w hw) | (refine go_newS ?_; clear hw; intro s w hw))
          rw [hx]
          refine ⟨(k + 1, false, (g || decide ((x : Int) = u))), ⟨rfl, rfl, rfl, trivial⟩, by repeat (first | exact agree_refl | (apply agree_upd rfl) | (apply agree_mix rfl) | (apply agree_sets rfl)), ⟨by simp only; omega, iffF fun h => ?_, hg2, hw⟩, by simp only; omega⟩
          have := hf.2 (hall.1 h).1
          cases this
        · repeat (first | refine go_run ?_ | (refine go_newP ?_; clear hw; intro p w hw) | (refine go_newWr ?_; clear hw; intro w hw) | (refine go_newS ?_; clear hw; intro s w hw))
          rw [hx]
          refine st_call rfl (Edge_spec (v := x) (u := u) (ha.at hw)) ?_
          rintro _ w' ⟨⟨r, rfl, hrr⟩, hk'⟩
          replace hw := hw.call0 hk'
          clear hk'
          refine ⟨_, rfl, ?_⟩
          repeat (first | refine go_run ?_ | (refine go_newP ?_; clear hw; intro p w hw) | (refine go_newW ?_; clear hw; intro w hw) | (refine go_newS ?_; clear hw; intro s w hw))
          refine ⟨(k + 1, r, (g || decide ((x : Int) = u))), ⟨rfl, rfl, rfl, trivial⟩, by repeat (first | exact agree_refl | (apply agree_upd rfl) | (apply agree_mix rfl) | (apply agree_sets rfl)), ⟨by simp only; omega, ?_, hg2, hw⟩, by simp only; omega⟩
          rw [hall, ← hrr]
          exact ⟨fun h => ⟨hf.1 rfl, h⟩, fun h => h.2⟩
      have hke : k = (bitsK C v).length := by omega
      subst hke
      repeat (first | refine go_runC ?_ | (refine go_newP ?_; clear hw; intro p w hw) | (refine go_newW ?_; clear hw; intro w hw) | (refine go_newS ?_; clear hw; intro s w hw))
      refine go_if (fun h3 => ?_) (fun h3 => ?_)
      · have hnu : ¬ ib C u := fun hh => by
          obtain ⟨i, hi, e⟩ := bits_pos hh hul
          have := hg.2 ⟨i, hi, e⟩
          rw [this] at h3
          exact absurd h3.2 (by decide)
        have hadj : ∀ i, ib C i → AdjA arcs i u := fun i hi => by
          obtain ⟨j, hj, e⟩ := bits_pos hi (hCb i hi)
          have := hf.1 h3.1 j hj
          rwa [e, Int.toNat_natCast] at this
        repeat (first | refine go_run ?_ | (refine go_newP ?_; clear hw; intro p w hw) | (refine go_newW ?_; clear hw; intro w hw) | (refine go_newS ?_; clear hw; intro s w hw))
        exact res_one (v := ov) rfl rfl ⟨ov, os, [], rfl, ExtOk.end0 (not_max hok hCb hul hnu hadj), Nat.zero_le _, by rw [List.append_nil]; exact hw⟩
      · have hnext : ib C u ∨ ∃ j, ib C j ∧ ¬ AdjA arcs j u := by
          cases hfb : f
          · right
            have : ¬ ∀ i, i < (bitsK C v).length → AdjA arcs ((bitsK C v).getD i tInt.dflt).toNat u := fun h => by
              have := hf.2 h
              rw [hfb] at this; cases this
            obtain ⟨i, hi⟩ := Classical.not_forall.1 this
            obtain ⟨hi, hn⟩ := Classical.not_imp.1 hi
            obtain ⟨x, hx, hCx, _⟩ := bits_at hi
            rw [hx, Int.toNat_natCast] at hn
            exact ⟨x, hCx, hn⟩
          · left
            cases hgb : g
            · exfalso
              rw [hfb, hgb] at h3
              simp at h3
            · obtain ⟨i, hi, e⟩ := hg.1 hgb
              obtain ⟨x, hx, hCx, _⟩ := bits_at hi
              have : x = u := by omega
              rw [← this]; exact hCx
        repeat (first | refine go_run ?_ | (refine go_newP ?_; clear hw; intro p w hw) | (refine go_newW ?_; clear hw; intro w hw) | (refine go_newS ?_; clear hw; intro s w hw))
        refine ⟨u + 1, ⟨rfl, trivial⟩, by repeat (first | exact agree_refl | (apply agree_upd rfl) | (apply agree_mix rfl) | (apply agree_sets rfl)), ⟨by omega, fun i hi => ?_, hw⟩, by omega⟩
        by_cases e : i = u
        · rw [e]; exact hnext
        · exact hfit i (by omega)
    have hue : u = v := by omega
    subst hue
    have hmax : MaxC u (nbA u arcs) C := ⟨hCb, hcl, fun i hi hni => by
      rcases hfit i hi with h | ⟨j, hj, hn⟩
      · exact absurd h hni
      · exact ⟨j, hj, fun hh => hn ((nbA_bit hok).1 hh).symm⟩⟩
    have hlp : 0 < (bitsK C u).length := by
      have := hmax.ne hn0
      exact List.length_pos_iff.2 this
    have hr := hR _ hw.tail.tail
    repeat (first | refine go_run ?_ | (refine go_newP ?_; clear hw; intro p w hw) | (refine go_newW ?_; clear hw; intro w hw) | (refine go_newS ?_; clear hw; intro s w hw))
    refine go_if (fun h4 => ?_) (fun h4 => ?_)
    · repeat (first | refine go_run ?_ | (refine go_newP ?_; clear hw; intro p w hw) | (refine go_newW ?_; clear hw; intro w hw) | (refine go_newS ?_; clear hw; intro s w hw))
      refine st_buildSlice0 tInt hw ?_
      clear hw
      intro s0 w hw
      repeat (first | refine go_run ?_ | (refine go_newP ?_; clear hw; intro p w hw) | (refine go_newW ?_; clear hw; intro w hw) | (refine go_newS ?_; clear hw; intro s w hw))
      have hrow : RS tInt w lv (bitsK C u) := hR _ hw.tail.tail.tail
      refine st_append (s := s0) (s2 := lv) inferInstance rfl rfl hrow rfl rfl (fun x hx v hv => by rw [List.mem_singleton.1 hv]; rfl) (by simp only [List.length_nil]; omega) (by unfold big; simp only [List.length_nil]; omega) hw ?_
      clear hw
      intro cv w hw
      rw [List.nil_append] at hw
      have hl1 : Os.length ≤ 65536 := by omega
      repeat (first | refine go_run ?_ | (refine go_newP ?_; clear hw; intro p w hw) | (refine go_newW ?_; clear hw; intro w hw) | (refine go_newS ?_; clear hw; intro s w hw))
      exact res_one (v := s) rfl rfl ⟨s, os ++ [cv], [bitsK C u], rfl, ExtOk.end1 hmax, by simp, hw.tail.rowPush⟩
    · exfalso; omega
  | succ d ih =>
    intro v hv Γ w lv ov C os Os hR hcl hCb hlen hw
    have hvn : v < n := by omega
    have hll := bitsK_len C v
    have hol := hw.rowsLen
    have hpp : 1 ≤ 2 ^ d := Nat.two_pow_pos d
    have hp2 : 2 ^ (d + 1) = 2 ^ d + 2 ^ d := by rw [Nat.pow_succ]; omega
    have hnv : ¬ ib C v := fun hh => by have := hCb v hh; omega
    have hCb1 : ∀ i, ib C i → i < v + 1 := fun i hi => by have := hCb i hi; omega
    have hR1 : ∀ w, Sat w0 w Γ → RS tInt w lv (bitsK C (v + 1)) := fun w h => by rw [bitsK_out hnv]; exact hR w h
    have hlb : ∀ x ∈ bitsK C v, 0 ≤ x ∧ x < v := fun x hx => by
      obtain ⟨y, hy, _, e⟩ := mem_bitsK.1 hx
      omega
    have hd0 : decide ((v : Int) = n) = false := decide_eq_false (by omega)
    refine calls_of_vc (args := [.int .i64 (n : Int), a, lv, .int .i64 (v : Int), ov]) mixed Tryd.func20 rfl (by kernel_rfl) (Nat.le_of_ble_eq_true rfl) ?_
    repeat (first | refine go_run ?_ | (refine go_newP ?_; clear hw; intro p w hw) | (refine go_newW ?_; clear hw; intro w hw) | (refine go_newS ?_; clear hw; intro s w hw))
    simp only [hd0]
    have hr := hR _ hw.tail.tail
    repeat (first | refine go_run ?_ | (refine go_newP ?_; clear hw; intro p w hw) | (refine go_newW ?_; clear hw; intro w hw) | (refine go_newS ?_; clear hw; intro s w hw))
    refine vc_loop [16, 18, 65, 66, 67, 68, 69, 70, 71, 72, 73, 74, 75, 76] (G := Nat × Bool) (fun x => [(65, .int .i64 x.1), (16, .bool x.2)]) (fun x w => x.1 ≤ (bitsK C v).length ∧ (x.2 = true ↔ ∀ i, i < x.1 → AdjA arcs ((bitsK C v).getD i tInt.dflt).toNat v) ∧ Sat w0 w (RowsAt tInt 3 os Os :: OS tVal 35 ov os :: Γ)) (fun x => (bitsK C v).length - x.1) (0, true) (fun _ => rfl) ⟨rfl, rfl, trivial⟩ ⟨Nat.zero_le _, iffT fun i hi => absurd hi (Nat.not_lt_zero _), hw⟩ ?_
    clear hw hr
    rintro σ1 ⟨k, f⟩ w ⟨hk, hf, hw⟩
    simp only at hk hf hw
    have hr := hR _ hw.tail.tail
    repeat (first | refine go_run ?_ | (refine go_newP ?_; clear hw; intro p w hw) | (refine go_newW ?_; clear hw; intro w hw) | (refine go_newS ?_; clear hw; intro s w hw))
    refine go_if (fun h2 => ?_) (fun h2 => ?_)
    · have hkl : k < (bitsK C v).length := by omega
      obtain ⟨x, hx, hCx, hxv⟩ := bits_at hkl
      have hall : (∀ i, i < k + 1 → AdjA arcs ((bitsK C v).getD i tInt.dflt).toNat v) ↔ (∀ i, i < k → AdjA arcs ((bitsK C v).getD i tInt.dflt).toNat v) ∧ AdjA arcs x v := by
        constructor
        · intro h
          refine ⟨fun i hi => h i (by omega), ?_⟩
          have := h k (Nat.lt_succ_self k)
          rwa [hx, Int.toNat_natCast] at this
        · rintro ⟨p1, p2⟩ i hi
          by_cases e : i = k
          · rw [e, hx, Int.toNat_natCast]; exact p2
          · exact p1 i (by omega)
      cases f
      · repeat (first | refine go_run ?_ | (refine go_newP ?_; clear hw; intro p w hw) | (refine go_newW ?_; clear hw; intro w hw) | (refine go_newS ?_; clear hw; intro s w hw))
        refine ⟨(k + 1, false), ⟨rfl, rfl, trivial⟩, by repeat (first | exact agree_refl | (apply agree_upd rfl) | (apply agree_mix rfl) | (apply agree_sets rfl)), ⟨by simp only; omega, iffF fun h => ?_, hw⟩, by simp only; omega⟩
        have := hf.2 (hall.1 h).1
        cases this
      · repeat (first | refine go_run ?_ | (refine go_newP ?_; clear hw; intro p w hw) | (refine go_newWr ?_; clear hw; intro w hw) | (refine go_newS ?_; clear hw; intro s w hw))
        rw [hx]
        refine st_call rfl (Edge_spec (v := x) (u := v) (ha.at hw)) ?_
        rintro _ w' ⟨⟨r, rfl, hrr⟩, hk'⟩
        replace hw := hw.call0 hk'
        clear hk'
        refine ⟨_, rfl, ?_⟩
        repeat (first | refine go_run ?_ | (refine go_newP ?_; clear hw; intro p w hw) | (refine go_newW ?_; clear hw; intro w hw) | (refine go_newS ?_; clear hw; intro s w hw))
        refine ⟨(k + 1, r), ⟨rfl, rfl, trivial⟩, by repeat (first | exact agree_refl | (apply agree_upd rfl) | (apply agree_mix rfl) | (apply agree_sets rfl)), ⟨by simp only; omega, ?_, hw⟩, by simp only; omega⟩
        rw [hall, ← hrr]
        exact ⟨fun h => ⟨hf.1 rfl, h⟩, fun h => h.2⟩
    have hke : k = (bitsK C v).length := by omega
    subst hke
    cases f
    · have : ¬ ∀ i, i < (bitsK C v).length → AdjA arcs ((bitsK C v).getD i tInt.dflt).toNat v := fun h => by have := hf.2 h; cases this
      obtain ⟨i, hi⟩ := Classical.not_forall.1 this
      obtain ⟨hi, hnn⟩ := Classical.not_imp.1 hi
      obtain ⟨x, hx, hCx, hxv⟩ := bits_at hi
      rw [hx, Int.toNat_natCast] at hnn
      repeat (first | refine go_run ?_ | (refine go_newP ?_; clear hw; intro p w hw) | (refine go_newW ?_; clear hw; intro w hw) | (refine go_newS ?_; clear hw; intro s w hw))
      refine st_call rfl (ih (v + 1) (by omega) (C := C) hR1 hcl hCb1 (by omega) hw) ?_
      clear hw
      rintro _ w ⟨ov2, os2, E2, rfl, hE2, hl2, hw⟩
      refine ⟨_, rfl, ?_⟩
      rw [bitsK_out hnv] at hE2
      repeat (first | refine go_run ?_ | (refine go_newP ?_; clear hw; intro p w hw) | (refine go_newW ?_; clear hw; intro w hw) | (refine go_newS ?_; clear hw; intro s w hw))
      exact res_one (v := ov2) rfl rfl ⟨ov2, os2, E2, rfl, hE2.no hlb (mem_bitsK.2 ⟨x, hxv, hCx, rfl⟩) (fun hh => hnn ((nbA_bit hok).1 hh).symm), by omega, hw⟩
    have hadj : ∀ i, ib C i → AdjA arcs i v := fun i hi => by
      obtain ⟨j, hj, e⟩ := bits_pos hi (hCb i hi)
      have := hf.1 rfl j hj
      rwa [e, Int.toNat_natCast] at this
    repeat (first | refine go_run ?_ | (refine go_newP ?_; clear hw; intro p w hw) | (refine go_newW ?_; clear hw; intro w hw) | (refine go_newS ?_; clear hw; intro s w hw))
    refine st_buildSlice0 tInt hw ?_
    clear hw
    intro s0 w hw
    repeat (first | refine go_run ?_ | (refine go_newP ?_; clear hw; intro p w hw) | (refine go_newW ?_; clear hw; intro w hw) | (refine go_newS ?_; clear hw; intro s w hw))
    have hrow : RS tInt w lv (bitsK C v) := hR _ hw.tail.tail.tail
    refine st_append (s := s0) (s2 := lv) inferInstance rfl rfl hrow rfl rfl (fun x hx v hv => by rw [List.mem_singleton.1 hv]; rfl) (by simp only [List.length_nil]; omega) (by unfold big; simp only [List.length_nil]; omega) hw ?_
    clear hw
    intro cv w hw
    rw [List.nil_append] at hw
    repeat (first | refine go_run ?_ | (refine go_newP ?_; clear hw; intro p w hw) | (refine go_newW ?_; clear hw; intro w hw) | (refine go_newS ?_; clear hw; intro s w hw))
    obtain ⟨nl, hnl⟩ : ∃ nl, nl = s := ⟨s, rfl⟩
    subst hnl
    have hw2 := rot3 hw.tail
    rw [← bitsK_or hCb] at hw2
    have hcl2 : ∀ i j, ib (C ||| 2 ^ v) i → ib (C ||| 2 ^ v) j → i ≠ j → ib ((nbA n arcs) i) j := fun i j hi hj hij => by
      rcases ib_orN.1 hi with hi | hi
      · rcases ib_orN.1 hj with hj | hj
        · exact hcl i j hi hj hij
        · rw [ib_two.1 hj]; exact (nbA_bit hok).2 (hadj i hi)
      · rcases ib_orN.1 hj with hj | hj
        · rw [ib_two.1 hi]; exact (nbA_bit hok).2 (hadj j hj).symm
        · exact absurd ((ib_two.1 hi).trans (ib_two.1 hj).symm) hij
    have hCb2 : ∀ i, ib (C ||| 2 ^ v) i → i < v + 1 := fun i hi => by
      rcases ib_orN.1 hi with hi | hi
      · exact hCb1 i hi
      · rw [ib_two.1 hi]; exact Nat.lt_succ_self v
    refine st_call rfl (ih (v + 1) (by omega) (Γ := OS tInt 3 nl (bitsK (C ||| 2 ^ v) (v + 1)) :: Γ) (lv := nl) (C := C ||| 2 ^ v) (fun w h => h.rs 0 rfl) hcl2 hCb2 (by omega) hw2) ?_
    clear hw hw2 hrow
    rintro _ w ⟨ov1, os1, E1, rfl, hE1, hl1, hw1⟩
    refine ⟨_, rfl, ?_⟩
    have hw := drop3 hw1
    clear hw1
    rw [bitsK_or hCb] at hE1
    repeat (first | refine go_run ?_ | (refine go_newP ?_; clear hw; intro p w hw) | (refine go_newW ?_; clear hw; intro w hw) | (refine go_newS ?_; clear hw; intro s w hw))
    refine st_call rfl (ih (v + 1) (by omega) (C := C) hR1 hcl hCb1 (by rw [List.length_append]; omega) hw) ?_
    clear hw
    rintro _ w ⟨ov2, os2, E2, rfl, hE2, hl2, hw⟩
    refine ⟨_, rfl, ?_⟩
    rw [bitsK_out hnv] at hE2
    rw [List.append_assoc] at hw
    repeat (first | refine go_run ?_ | (refine go_newP ?_; clear hw; intro p w hw) | (refine go_newW ?_; clear hw; intro w hw) | (refine go_newS ?_; clear hw; intro s w hw))
    exact res_one (v := ov2) rfl rfl ⟨ov2, os2, E1 ++ E2, rfl, ExtOk.yes hvn hE1 hE2 hlb (fun u hu => (nbA_bit hok).2 (hadj u (mem_of_bits hu).1).symm), by rw [List.length_append]; omega, hw⟩
/-- The reference's list. -/
theorem rCliques_spec {w0 : World} {n : Int} {a : Value} {arcs : List Arc} (ha : RS tArc w0 a arcs) (hn0 : 0 < n) (hn : n ≤ 12) (hok : ∀ x ∈ arcs, arcOk n x) :
    Calls Tryd.prog 9 #[.int .i64 n, a] w0 fun e w' => ∃ ov os Cs, e = .returned ov ∧ LexS Cs ∧ CliqL n.toNat (nbA n.toNat arcs) Cs ∧ Sat w0 w' [RowsAt tInt 3 os Cs, OS tVal 35 ov os] := by
  have hw := Sat.start w0
  obtain ⟨m, rfl⟩ : ∃ m : Nat, n = m := ⟨n.toNat, (Int.toNat_of_nonneg (by omega)).symm⟩
  rw [Int.toNat_natCast]
  refine calls_of_vc (args := [.int .i64 (m : Int), a]) mixed Tryd.func9 rfl (by kernel_rfl) (Nat.le_of_ble_eq_true rfl) ?_
  repeat (first | refine go_run ?_ | (refine go_newP ?_; clear hw; intro p w hw) | (refine go_newW ?_; clear hw; intro w hw) | (refine go_newS ?_; clear hw; intro s w hw))
  have hw1 : Sat w0 w0 (RowsAt tInt 3 [] [] :: OS tVal 35 (.slice none 0 0) [] :: []) := (hw.nil (T := tVal) (e := 35)).rows0
  have hp : 2 ^ m ≤ 2 ^ 12 := Nat.pow_le_pow_right (by decide) (by omega)
  refine st_call rfl (ext_spec (n := m) ha (by omega) (by omega) hok m 0 (by omega) (Γ := []) (lv := .slice none 0 0) (ov := .slice none 0 0) (C := 0) (fun _ _ => RS.nil) (fun i j hi => absurd hi (none_zero rfl i)) (fun i hi => absurd hi (none_zero rfl i)) (by simp only [List.length_nil]; omega) hw1) ?_
  clear hw hw1
  rintro _ w ⟨ov, os, E, rfl, hE, _, hw⟩
  refine ⟨_, rfl, ?_⟩
  rw [List.nil_append] at hw
  repeat (first | refine go_run ?_ | (refine go_newP ?_; clear hw; intro p w hw) | (refine go_newW ?_; clear hw; intro w hw) | (refine go_newS ?_; clear hw; intro s w hw))
  refine res_one (v := ov) rfl rfl ⟨ov, os, E, rfl, hE.1, fun l => ?_, hw⟩
  rw [hE.2]
  exact ⟨fun ⟨C, h1, _, h3⟩ => ⟨C, h1, h3⟩, fun ⟨C, h1, h3⟩ => ⟨C, h1, rfl, h3⟩⟩
end Go.Proofs.YtnoiagnmbipppaaDoor
