/-
  The tasks of the statement 'ProjectLarge', in plain Lean.
-/
import Derived.Test.YtlgombjhcpgleaaTLaw5
import Derived.Test.YtlgombjhcpgleaaWRef40
import Derived.Test.YtlgombjhcpgleaaTWhole
namespace Go.Proofs.Ytlgombjhcpgleaa
open Go.Sl Go

def lgVars (n m : Nat) (k : Int) : List Int := List.replicate n k ++ List.replicate m 16
def lgWhen (n m : Nat) : List Fact := (List.range m).map fun (i : Nat) => ⟨(n : Int) + i, 3⟩
def lgOp (n m : Nat) (k : Int) : TOp := ⟨ByteArray.empty, 0, [], [⟨lgWhen n m, 0, k - 1⟩]⟩
def lgT (n m : Nat) (k : Int) : TTask := ⟨lgVars n m k, List.replicate (n + m) 0, [], [lgOp n m k]⟩
theorem lgVars_len (n m : Nat) (k : Int) : (lgVars n m k).length = n + m := by simp [lgVars]
theorem lgVars_lo {n m : Nat} {k : Int} {i : Nat} (h : i < n) : (lgVars n m k).getD i tInt.dflt = k := by
  simp only [lgVars, List.getD_eq_getElem?_getD]
  rw [List.getElem?_append_left (by simpa using h), List.getElem?_replicate, if_pos h]; rfl
theorem lgVars_hi {n m : Nat} {k : Int} {i : Nat} (h : n ≤ i) (h2 : i < n + m) : (lgVars n m k).getD i tInt.dflt = 16 := by
  simp only [lgVars, List.getD_eq_getElem?_getD]
  rw [List.getElem?_append_right (by simpa using h), List.getElem?_replicate, List.length_replicate, if_pos (by omega)]; rfl
theorem lgWhen_len (n m : Nat) : (lgWhen n m).length = m := by simp [lgWhen]
theorem lgWhen_at {n m i : Nat} (h : i < m) : (lgWhen n m).getD i tFact.dflt = ⟨(n : Int) + i, 3⟩ := by simp [lgWhen, List.getD, h]
theorem lgWhen_succ (n m : Nat) : lgWhen n (m + 1) = lgWhen n m ++ [⟨(n : Int) + m, 3⟩] := by simp [lgWhen, List.range_succ]
theorem lg_good {n m : Nat} {k : Int} (hn : 1 ≤ n) (hn4 : n ≤ 4) (hm : m ≤ 4) (hk : 1 ≤ k) (hk2 : k ≤ 64) : GoodT (lgT n m k) := by
  have hl := lgVars_len n m k
  refine ⟨?_, ?_, ?_, ?_, ?_, ?_⟩
  · show (lgVars n m k).length ≤ 64; omega
  · show [lgOp n m k].length ≤ 4096; simp
  · intro i hi
    change i < (lgVars n m k).length at hi
    show 1 ≤ (lgVars n m k).getD i tInt.dflt ∧ (lgVars n m k).getD i tInt.dflt ≤ 64
    by_cases h : i < n
    · rw [lgVars_lo h]; omega
    · rw [lgVars_hi (by omega) (by omega)]; omega
  · refine ⟨by show (List.replicate (n + m) (0 : Int)).length = (lgVars n m k).length; simp [hl], fun i hi => ?_⟩
    change i < (List.replicate (n + m) (0 : Int)).length at hi
    rw [List.length_replicate] at hi
    show 0 ≤ (List.replicate (n + m) (0 : Int)).getD i tInt.dflt ∧ (List.replicate (n + m) (0 : Int)).getD i tInt.dflt < (lgVars n m k).getD i tInt.dflt
    have e : (List.replicate (n + m) (0 : Int)).getD i tInt.dflt = 0 := by simp [List.getD, hi]
    rw [e]
    by_cases h : i < n
    · rw [lgVars_lo h]; omega
    · rw [lgVars_hi (by omega) (by omega)]; omega
  · intro i hi; exact absurd hi (Nat.not_lt_zero _)
  · intro i hi
    have h0 : i = 0 := by change i < [lgOp n m k].length at hi; simpa using hi
    subst h0
    show OpOk (lgVars n m k) (lgOp n m k)
    refine ⟨Int.le_refl 0, by show (0 : Int) ≤ 1048576; decide, by simp [lgOp], ⟨Nat.zero_le _, fun i hi => absurd hi (Nat.not_lt_zero _)⟩, fun i hi => absurd hi (Nat.not_lt_zero _), fun i hi => ?_⟩
    have h0 : i = 0 := by change i < [(⟨lgWhen n m, 0, k - 1⟩ : Eff)].length at hi; simpa using hi
    subst h0
    show EffOk (lgVars n m k) ⟨lgWhen n m, 0, k - 1⟩
    refine ⟨fun i hi => ?_, fun i hi => ?_⟩
    · change i < (lgWhen n m).length at hi
      rw [lgWhen_len] at hi
      show FactOk (lgVars n m k) ((lgWhen n m).getD i tFact.dflt) ∧ (0 < i → ((lgWhen n m).getD (i - 1) tFact.dflt).var < ((lgWhen n m).getD i tFact.dflt).var)
      rw [lgWhen_at hi]
      refine ⟨⟨by simp only; omega, by simp only; omega, by simp only; omega, ?_⟩, fun h0 => ?_⟩
      · simp only
        rw [show ((n : Int) + i).toNat = n + i by omega, lgVars_hi (by omega) (by omega)]; decide
      · rw [lgWhen_at (by omega)]; simp only; omega
    · have h0 : i = 0 := by simpa using hi
      subst h0
      refine ⟨⟨Int.le_refl 0, by show (0 : Int) < (lgVars n m k).length; omega, by show 0 ≤ k - 1; omega, ?_⟩, fun h => absurd h (Nat.lt_irrefl _)⟩
      show k - 1 < (lgVars n m k).getD (0 : Int).toNat tInt.dflt
      rw [show (0 : Int).toNat = 0 from rfl, lgVars_lo (by omega)]; omega
theorem lg_inV (n m : Nat) (k : Int) : InV (lgVars n m k) (upTo (n : Int)) := ⟨fun v hv => by have := upTo_mem.1 hv; have := lgVars_len n m k; omega, upTo_asc _⟩
theorem prodL_rep (k : Int) : ∀ n : Nat, prodL (List.replicate n k) = k ^ n
  | 0 => by simp [prodL]
  | n + 1 => by rw [List.replicate_succ', prodL_snoc, prodL_rep k n, Int.pow_succ]
theorem lg_cnt (n m : Nat) (k : Int) : cntL (lgVars n m k) (upTo (n : Int)) = k ^ n := by
  have : valsL (lgVars n m k) (upTo (n : Int)) = List.replicate n k := by
    apply List.ext_getElem (by simp [valsL, upTo])
    intro i h1 h2
    have hi : i < n := by simpa using h2
    have := lgVars_lo (m := m) (k := k) hi
    simp only [valsL, upTo, List.getElem_map, List.getElem_range, List.getElem_replicate, sg, Int.toNat_natCast]
    exact this
  rw [cntL, this, prodL_rep]
def lgFree (n m : Nat) : List Int := (List.range m).map fun (i : Nat) => (n : Int) + i
theorem lg_free (n m : Nat) (k : Int) (hn : 1 ≤ n) : frL (lgT n m k) (upTo (n : Int)) 0 = lgFree n m := by
  symm
  refine asc_pick (List.Pairwise.map _ (R := (· < ·)) (fun a b h => by omega) List.pairwise_lt_range) fun x => ?_
  show x ∈ lgFree n m ↔ (0 ≤ x ∧ x < (lgVars n m k).length) ∧ FreeOf (lgOp n m k) (upTo (n : Int)) x
  rw [lgVars_len]
  unfold lgFree FreeOf
  constructor
  · intro h
    obtain ⟨i, hi, rfl⟩ := List.mem_map.1 h
    have hi := List.mem_range.1 hi
    refine ⟨by omega, ⟨⟨lgWhen n m, 0, k - 1⟩, by simp [lgOp], upTo_mem.2 (by simp only; omega), ⟨(n : Int) + i, 3⟩, List.mem_map.2 ⟨i, List.mem_range.2 hi, rfl⟩, rfl⟩, fun h => by have := upTo_mem.1 h; omega, fun f hf => by simp [lgOp] at hf⟩
  · rintro ⟨_, ⟨e, he, _, f, hf, hx⟩, _, _⟩
    have : e = ⟨lgWhen n m, 0, k - 1⟩ := by simpa [lgOp] using he
    subst this
    obtain ⟨i, hi, rfl⟩ := List.mem_map.1 hf
    exact List.mem_map.2 ⟨i, hi, hx⟩
theorem lg_freeCnt (n m : Nat) (k : Int) : cntL (lgVars n m k) (lgFree n m) = 16 ^ m := by
  have : valsL (lgVars n m k) (lgFree n m) = List.replicate m 16 := by
    apply List.ext_getElem (by simp [valsL, lgFree])
    intro i h1 h2
    have hi : i < m := by simpa using h2
    have := lgVars_hi (n := n) (m := m) (k := k) (i := n + i) (by omega) (by omega)
    simp only [valsL, lgFree, List.getElem_map, List.getElem_range, List.getElem_replicate, sg]
    rw [show ((n : Int) + i).toNat = n + i by omega]; exact this
  rw [cntL, this, prodL_rep]
theorem lg_big (n m : Nat) (k : Int) (hn : 1 ≤ n) : BigFree (lgT n m k) (upTo (n : Int)) ↔ (4096 : Int) < 16 ^ m := by
  unfold BigFree
  constructor
  · rintro ⟨op, ho, h⟩
    have h0 : op = 0 := by change op < [lgOp n m k].length at ho; simpa using ho
    subst h0
    rw [lg_free n m k hn] at h
    exact (lg_freeCnt n m k) ▸ h
  · intro h
    refine ⟨0, by show 0 < [lgOp n m k].length; simp, ?_⟩
    rw [lg_free n m k hn]
    exact (lg_freeCnt n m k).symm ▸ h
theorem lg_succ (n m : Nat) (k : Int) (s : List Int) : succT (lgT n m k) s 0 = s ∨ succT (lgT n m k) s 0 = s.set 0 (k - 1) := by
  show effsL s [⟨lgWhen n m, 0, k - 1⟩] = s ∨ effsL s [⟨lgWhen n m, 0, k - 1⟩] = s.set 0 (k - 1)
  simp only [effsL, List.foldl_cons, List.foldl_nil]
  split
  · right; rfl
  · left; rfl
theorem lg_tgt {n m : Nat} {k : Int} (hg : GoodT (lgT n m k)) (hL : InV (lgVars n m k) (upTo (n : Int))) {a : Int} (h0 : 0 ≤ a) (h1 : a < cntL (lgVars n m k) (upTo (n : Int))) : (tgtL (lgT n m k) (upTo (n : Int)) a 0).length ≤ 2 := by
  have hl := nodup_len_le (l := tgtL (lgT n m k) (upTo (n : Int)) a 0) (m := [a, idxL (lgVars n m k) (upTo (n : Int)) ((st1 (lgT n m k) (upTo (n : Int)) a).set 0 (k - 1))]) ((pickL_asc _ _).imp fun h e => by omega) fun b hb => by
    obtain ⟨_, s, hs, ha, _, hb⟩ := pickL_mem.1 hb
    have hp := st1_p hg hL h0 h1 hs ha
    rcases lg_succ n m k s with e | e
    · rw [e] at hb; simp only [List.mem_cons]; left; rw [← hb]; exact ha
    · rw [e] at hb
      simp only [List.mem_cons]
      right; left
      rw [← hb]
      refine idxL_congr fun v hv => ?_
      have hv2 := hL.mem v hv
      have hl1 : s.length = (lgVars n m k).length := hs.1
      have hl2 : (st1 (lgT n m k) (upTo (n : Int)) a).length = (lgVars n m k).length := (st1_ok hg hL h0 h1).1.1
      by_cases e0 : v = 0
      · subst e0
        rw [show s.set 0 (k - 1) = s.set (0 : Int).toNat (k - 1) from rfl, sg_set_self (by decide) (by omega)]
        rw [show (st1 (lgT n m k) (upTo (n : Int)) a).set 0 (k - 1) = (st1 (lgT n m k) (upTo (n : Int)) a).set (0 : Int).toNat (k - 1) from rfl, sg_set_self (by decide) (by omega)]
      · rw [show s.set 0 (k - 1) = s.set (0 : Int).toNat (k - 1) from rfl, sg_set_ne (by decide) hv2.1 (Ne.symm e0)]
        rw [show (st1 (lgT n m k) (upTo (n : Int)) a).set 0 (k - 1) = (st1 (lgT n m k) (upTo (n : Int)) a).set (0 : Int).toNat (k - 1) from rfl, sg_set_ne (by decide) hv2.1 (Ne.symm e0)]
        exact hp v hv
  simpa using hl
theorem lg_edges {n m : Nat} {k : Int} (hg : GoodT (lgT n m k)) (hL : InV (lgVars n m k) (upTo (n : Int))) : ∀ j : Nat, (j : Int) ≤ cntL (lgVars n m k) (upTo (n : Int)) → (edgA (lgT n m k) (upTo (n : Int)) j).length ≤ 2 * j
  | 0, _ => by simp [edgA]
  | j + 1, h => by
    have h1 := lg_edges hg hL j (by omega)
    have h2 := lg_tgt hg hL (a := (j : Int)) (by omega) (by omega)
    rw [edgA_succ, List.length_append]
    show _ + (edgO (lgT n m k) (upTo (n : Int)) (j : Int) 1).length ≤ _
    rw [edgO_succ, edgO_zero, List.nil_append, edgB_len]
    omega
theorem lg_err {n m : Nat} {k : Int} (hn : 1 ≤ n) (hg : GoodT (lgT n m k)) (hL : InV (lgVars n m k) (upTo (n : Int))) : pErr (lgT n m k) (upTo (n : Int)) = if 4096 < k ^ n then 5 else if (4096 : Int) < 16 ^ m then 5 else 0 := by
  have hc := chkP_zero.2 ⟨hg, InV.pat (vars := (lgT n m k).vars) hL⟩
  rw [pErr_ok hc, pErr0]
  show (if 4096 < cntL (lgVars n m k) (upTo (n : Int)) then 5 else _) = _
  rw [lg_cnt]
  split
  · rfl
  · rename_i h
    by_cases hb : (4096 : Int) < 16 ^ m
    · rw [if_pos ((lg_big n m k hn).2 hb), if_pos hb]
    · rw [if_neg (fun h => hb ((lg_big n m k hn).1 h)), if_neg hb, if_neg]
      have hc1 := cntL_pos hg.pos hL.mem
      have he := lg_edges hg hL (cntL (lgVars n m k) (upTo (n : Int))).toNat (by change 1 ≤ cntL (lgVars n m k) _ at hc1; omega)
      have hcc := lg_cnt n m k
      show ¬ 65536 < (edgA (lgT n m k) (upTo (n : Int)) (cntL (lgVars n m k) (upTo (n : Int))).toNat).length
      omega
theorem lg_idx (n m : Nat) (k : Int) : idxL (lgVars n m k) (upTo (n : Int)) (List.replicate (n + m) 0) = 0 := by
  have h0 : ∀ v : Int, sg (List.replicate (n + m) (0 : Int)) v = 0 := fun v => zerosL_sg (n + m) v
  refine snoc_ind (P := fun l => idxL (lgVars n m k) l (List.replicate (n + m) 0) = 0) rfl ?_ _
  intro l v ih
  rw [idxL_snoc, ih, h0]; omega
theorem lg_ix {n m : Nat} {k : Int} (hg : GoodT (lgT n m k)) (hL : InV (lgVars n m k) (upTo (n : Int))) : ixErr (lgT n m k) (upTo (n : Int)) (List.replicate (n + m) 0) = if 4096 < k ^ n then 5 else 0 := by
  have hc := chkP_zero.2 ⟨hg, InV.pat (vars := (lgT n m k).vars) hL⟩
  have hi : StateOk (lgT n m k).vars (List.replicate (n + m) 0) := hg.init
  rw [ixErr, if_neg (by simp [hc]), if_neg (by simp [hi])]
  show (if 4096 < cntL (lgVars n m k) (upTo (n : Int)) then 5 else 0) = _
  rw [lg_cnt]
end Go.Proofs.Ytlgombjhcpgleaa
