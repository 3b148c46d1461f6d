
/-
  The sorted list of rows.
-/
import Derived.Test.YtemnlcnjpjdoaaaGreatDoorWSortF
set_option linter.unusedSimpArgs false
set_option linter.unusedVariables false
namespace Go.Proofs.YtemnlcnjpjdoaaaGreatDoor
open Go.Sl Go Go.Shelf Go.Sort
attribute [local irreducible] vc opsW opsD opV opW PureV ReadV Thn Blk
theorem lex_swo {m : Nat} (F : Nat → List Int) : SWO (ltOf fun (i j : Fin m) => lexC (F i.1) (F j.1)) where
  irrefl x := by simp [ltOf, lexC_self]
  trans x y z h1 h2 := by
    simp only [ltOf, decide_eq_true_eq] at h1 h2 ⊢
    exact lexC_trans h1 h2
  ntrans x y z h1 h2 := by
    simp only [ltOf, decide_eq_false_iff_not] at h1 h2 ⊢
    intro h3
    by_cases e : lexC (F x.1) (F y.1) = 0
    · rw [lexC_zero e] at h3; exact h2 h3
    · have h4 : lexC (F y.1) (F x.1) < 0 := by have := lexC_swap (F x.1) (F y.1); omega
      exact h2 (lexC_trans h4 h3)
theorem nodup_inj {α : Type} {L : List α} (h : L.Nodup) {i j : Nat} (hi : i < L.length) (hj : j < L.length) (e : L[i] = L[j]) : i = j := by
  rcases Nat.lt_trichotomy i j with h1 | h1 | h1
  · exact absurd e (List.pairwise_iff_getElem.1 h i j hi hj h1)
  · exact h1
  · exact absurd e.symm (List.pairwise_iff_getElem.1 h j i hj hi h1)
set_option maxRecDepth 8000 in
set_option maxHeartbeats 2000000 in
theorem SortF_spec {w0 w : World} {Γ : List HP} {fv : Value} {fs : List Value} {Fs : List (List Int)} (hw : Sat w0 w (OS tVal 22 fv fs :: RowsAt tInt 3 fs Fs :: Γ)) (hd : Fs.Nodup) (h0 : 0 < Fs.length) (hn : Fs.length ≤ 8192) :
    Calls Tryz.prog 82 #[fv, .func (.func 83) #[] #[]] w fun e w' => e = .returned (.tuple #[]) ∧ ∃ is : List Nat, is.Perm (List.range Fs.length) ∧ LexS (is.map fun i => Fs.getD i []) ∧
      Sat w0 w' (OS tVal 22 fv (is.map (vget fs)) :: RowsAt tInt 3 (is.map (vget fs)) (is.map fun i => Fs.getD i []) :: Γ) := by
  have hfl : fs.length = Fs.length := (hw.focus 1 rfl).rowsLen
  obtain ⟨m, hm⟩ : ∃ m, m = Fs.length := ⟨_, rfl⟩
  haveI : Inhabited (Fin m) := ⟨⟨0, by omega⟩⟩
  let enc : Fin m → Value := fun i => vget fs i.1
  have hone : ∀ x : Fin m, (enc x).oneCell' = true := fun x => ((hw.focus 1 rfl).row (i := x.1) (by have := x.2; omega)).one
  have hfs : (List.finRange m).map enc = fs := by
    apply List.ext_getElem (by simp; omega)
    intro i h1 h2
    simp only [List.getElem_map, enc, vget_eq]
    simp [List.getD, h2]
  have hw1 : Sat w0 w (OS tVal 22 fv ((List.finRange m).map enc) :: RowsAt tInt 3 fs Fs :: Γ) := by rw [hfs]; exact hw
  rcases hw1.valsAt enc with ⟨_, hnil⟩ | ⟨b, off, cap, rfl, hc, hb, hH, hput⟩
  · have := congrArg List.length hnil
    simp at this; omega
  have hsz : (List.finRange m).toArray.size = m := by simp
  have hcmp : CmpLays1 Tryz.prog 83 #[] enc (fun i j => lexC (Fs.getD i.1 []) (Fs.getD j.1 [])) b off (List.finRange m).toArray.size w := by
    intro q os dk hs x y
    have h1 := (hput dk.toList (by simp at hs ⊢; exact hs) q).grow os
    have e1 : dk.toList.toArray = dk := by simp
    rw [e1] at h1
    refine (Compare_spec ((h1.focus 1 rfl).row (i := x.1) (by have := x.2; omega)) ((h1.focus 1 rfl).row (i := y.1) (by have := y.2; omega))).mono ?_
    rintro e w' ⟨he, rfl⟩
    exact ⟨he, 0, #[], by rw [World.drewN_zero, grow_empty]; rfl⟩
  have hS := Any.slices_SortFunc layF enc hone (fun i j => lexC (Fs.getD i.1 []) (Fs.getD j.1 [])) (lex_swo fun i => Fs.getD i []) 83 #[] b off cap (List.finRange m).toArray w (fun args w => CallT.run inferInstance args w) hcmp hH hb (by rw [hsz]; omega)
  have e0 : (List.finRange m).length = (List.finRange m).toArray.size := by simp
  rw [e0]
  refine hS.mono ?_
  rintro e w' ⟨he, d', q, os, hp, hs, rfl⟩
  obtain ⟨p1, _, p3⟩ := hp
  rw [hsz] at p1 hs p3
  have p4 : d'.toList.Perm (List.finRange m) := by
    have q1 : d'.extract 0 m = d' := by
      have := Array.extract_size (xs := d')
      rwa [p1] at this
    have q2 : (List.finRange m).toArray.extract 0 m = (List.finRange m).toArray := by
      have := Array.extract_size (xs := (List.finRange m).toArray)
      rwa [hsz] at this
    rw [q1, q2] at p3
    simpa using p3
  refine ⟨he, d'.toList.map (·.1), ?_, ?_, ?_⟩
  · have h1 := p4.map (fun i : Fin m => i.1)
    have h2 : (List.finRange m).map (fun i : Fin m => i.1) = List.range m := by
      apply List.ext_getElem (by simp)
      intro i h1 h2; simp
    rw [h2] at h1
    rw [← hm]
    exact h1
  · have hnd : d'.toList.Nodup := p4.nodup_iff.2 (List.nodup_finRange m)
    rw [List.map_map]
    refine List.pairwise_map.2 ?_
    rw [List.pairwise_iff_getElem]
    intro i j hi hj hij
    simp only [Array.length_toList] at hi hj
    have h1 := hs i j (Nat.zero_le _) hij (by omega)
    rw [getElem!_pos d' j hj, getElem!_pos d' i hi] at h1
    simp only [ltOf, decide_eq_false_iff_not] at h1
    have hne : d'[i] ≠ d'[j] := fun e => by
      have := List.pairwise_iff_getElem.1 hnd i j (by simpa using hi) (by simpa using hj) hij
      simp only [Array.getElem_toList] at this
      exact this e
    simp only [Function.comp, Array.getElem_toList]
    have hsw := lexC_swap (Fs.getD d'[i].1 []) (Fs.getD d'[j].1 [])
    have hnz : lexC (Fs.getD d'[i].1 []) (Fs.getD d'[j].1 []) ≠ 0 := fun e => by
      have e2 := lexC_zero e
      have b1 := d'[i].2
      have b2 := d'[j].2
      rw [List.getD_eq_getElem?_getD, List.getD_eq_getElem?_getD, List.getElem?_eq_getElem (by omega), List.getElem?_eq_getElem (by omega)] at e2
      simp only [Option.getD_some] at e2
      exact hne (Fin.ext (nodup_inj hd (by omega) (by omega) e2))
    omega
  · have h1 := (hput d'.toList (by simp [p1]) q).grow os
    have e1 : d'.toList.toArray = d' := by simp
    rw [e1] at h1
    have h2 : Sat w0 (grow (putRow enc (Sort.ahead w q) b off d') os) (RowsAt tInt 3 fs Fs :: OS tVal 22 (.slice (some ⟨b, off, none⟩) (List.finRange m).toArray.size cap) (d'.toList.map enc) :: Γ) := by
      rw [← e0]; exact h1.swap
    have h3 := h2.rowsPerm (is := d'.toList.map (·.1)) (by
      have h1 := p4.map (fun i : Fin m => i.1)
      have h2 : (List.finRange m).map (fun i : Fin m => i.1) = List.range m := by
        apply List.ext_getElem (by simp)
        intro i h1 h2; simp
      rw [h2] at h1
      rw [← hm]
      exact h1)
    have e3 : d'.toList.map enc = (d'.toList.map (·.1)).map (vget fs) := by rw [List.map_map]; rfl
    rw [e3] at h3
    exact h3.swap
end Go.Proofs.YtemnlcnjpjdoaaaGreatDoor
