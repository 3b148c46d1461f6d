/-
  The statement 'ProjectNarrower' returns true.
-/
import Derived.Test.YtlgombjhcpgleaaWRef40
import Derived.Test.YtlgombjhcpgleaaTNarrow
import Derived.Test.YtlgombjhcpgleaaSlMap
import Derived.Test.YtlgombjhcpgleaaSlNum
namespace Go.Proofs.Ytlgombjhcpgleaa
open Go.Sl Go
attribute [local irreducible] vc opsW opsD opV opW PureV ReadV Thn Blk

def kEdg (e : Edg) : Value := .agg #[.int .i64 e.src, .int .i64 e.lab, .int .i64 e.dst]
instance : MapT Try.prog 54 50 4 := ⟨by kernel_rfl⟩
instance : ZeroV Try.prog 4 (.bool false) := ⟨by kernel_rfl⟩
set_option maxRecDepth 100000 in
theorem kEdg_check (e : Bool) (x : Edg) (w : World) : (Instr.checkKey e 10000 50 (kEdg x)).run Try.prog w = .ok () w := by kernel_rfl
theorem kEdg_eq (x y : Edg) (w : World) : (Op.equal 50 (kEdg x) (kEdg y)).run Try.prog w = .ok (decide (x = y)) w := by
  have h := (EqIntsT.run (P := Try.prog) (t := 50) inferInstance (us := [x.src, x.lab, x.dst]) (zs := [y.src, y.lab, y.dst]) rfl rfl w).1
  have e : decide ([x.src, x.lab, x.dst] = [y.src, y.lab, y.dst]) = decide (x = y) := by
    rw [decide_eq_decide]
    obtain ⟨a, b, c⟩ := x
    obtain ⟨a', b', c'⟩ := y
    simp
  rw [← e]
  exact h
instance : KeyT Try.prog 50 kEdg where
  check := kEdg_check
  find := find_struct Try.underlying50 kEdg_eq
  bits x := by simp [Instr.sameBits, kEdg]

set_option maxRecDepth 8000 in
set_option maxHeartbeats 4000000 in
theorem ProjectNarrower_walk {w0 : World} {a b c d : Value} {vs : List OpV} {t : TTask} {bits drop : Int} (ht : RTask w0 a b c d vs t) (hb0 : 0 ≤ bits) (hb1 : bits ≤ 65535) :
    Calls Try.prog 5 #[.agg #[a, b, c, d], .int .u16 bits, .int .u16 drop] w0 fun e w' => e = .returned (.bool true) ∧ Sat w0 w' [] := by
  have ht' := ht
  obtain ⟨ha, hb, hc, hd⟩ := ht
  have hrs := hd.rs
  have hdl := hd.len
  have hll := hrs.big
  have hw := Sat.start w0
  refine calls_of_vc (args := [.agg #[a, b, c, d], .int .u16 bits, .int .u16 drop]) mixed Try.func5 rfl (by kernel_rfl) (Nat.le_of_ble_eq_true rfl) ?_
  repeat (first | refine go_run ?_ | (refine go_newP ?_; clear hw; intro p w hw) | (refine go_newWr ?_; clear hw; intro w hw) | (refine go_newS ?_; clear hw; intro s w hw))
  obtain ⟨pt, hpt⟩ : ∃ pt, pt = p := ⟨p, rfl⟩
  subst hpt
  refine vc_plan [.op 0, .op 1, .op 2, .op 3, .op 4, .op 5, .op 6, .op 7, .chk 4, .op 8, .op 9, .op 10, .op 11, .op 12, .op 13, .op 14] hw (by kernel_rfl) ?_; clear hw; intro w hw
  repeat (first | refine go_run ?_ | (refine go_newP ?_; clear hw; intro p w hw) | (refine go_newWr ?_; clear hw; intro w hw) | (refine go_newS ?_; clear hw; intro s w hw))
  refine st_call rfl (Small_spec (ht'.at hw)) ?_
  rintro _ w' ⟨⟨r, rfl, hr⟩, hk'⟩
  replace hw := hw.call0 hk'
  clear hk'
  refine ⟨_, rfl, ?_⟩
  cases r
  · repeat (first | refine go_run ?_ | (refine go_newP ?_; clear hw; intro p w hw) | (refine go_newWr ?_; clear hw; intro w hw) | (refine go_newS ?_; clear hw; intro s w hw))
    refine st_call rfl awake_spec ?_
    rintro _ w' ⟨rfl, hk'⟩
    replace hw := hw.call0 hk'
    clear hk'
    refine ⟨_, rfl, ?_⟩
    repeat (first | refine go_run ?_ | (refine go_newP ?_; clear hw; intro p w hw) | (refine go_newW ?_; clear hw; intro w hw) | (refine go_newS ?_; clear hw; intro s w hw))
    exact res_one (v := .bool true) rfl rfl ⟨rfl, sat_none hw⟩
  have hs := hr.1 rfl
  have hg := hs.good
  have hV := hs.vars
  have hO := hs.ops
  have hM := hs.many
  have hL := chosen_inV t.vars bits
  have hB : cntL t.vars (chosenK bits t.vars.length) ≤ 1099511627776 := by have h1 := cntL_le hs.good.pos hL; omega
  repeat (first | refine go_run ?_ | (refine go_newP ?_; clear hw; intro p w hw) | (refine go_newWr ?_; clear hw; intro w hw) | (refine go_newS ?_; clear hw; intro s w hw))
  refine st_call rfl (chosen_spec (ht'.at hw) (by omega)) ?_
  rintro _ w' ⟨s0, rfl, hk'⟩
  replace hw := hw.call1 hk'
  clear hk'
  refine ⟨_, rfl, ?_⟩
  repeat (first | refine go_run ?_ | (refine go_newP ?_; clear hw; intro p w hw) | (refine go_newWr ?_; clear hw; intro w hw) | (refine go_newS ?_; clear hw; intro s w hw))
  refine st_call rfl (few_spec (va := s0) (ht'.at hw) (rsO hw) hs.good.pos hL.mem hB) ?_
  rintro _ w' ⟨rfl, hk'⟩
  replace hw := hw.call0 hk'
  clear hk'
  by_cases hf : cntL t.vars (chosenK bits t.vars.length) ≤ 64
  rotate_left
  · rw [decide_eq_false hf]
    refine ⟨_, rfl, ?_⟩
    repeat (first | refine go_run ?_ | (refine go_newP ?_; clear hw; intro p w hw) | (refine go_newWr ?_; clear hw; intro w hw) | (refine go_newS ?_; clear hw; intro s w hw))
    refine st_call rfl awake_spec ?_
    rintro _ w' ⟨rfl, hk'⟩
    replace hw := hw.call0 hk'
    clear hk'
    refine ⟨_, rfl, ?_⟩
    repeat (first | refine go_run ?_ | (refine go_newP ?_; clear hw; intro p w hw) | (refine go_newW ?_; clear hw; intro w hw) | (refine go_newS ?_; clear hw; intro s w hw))
    exact res_one (v := .bool true) rfl rfl ⟨rfl, sat_none hw⟩
  rw [decide_eq_true hf]
  refine ⟨_, rfl, ?_⟩
  repeat (first | refine go_run ?_ | (refine go_newP ?_; clear hw; intro p w hw) | (refine go_newWr ?_; clear hw; intro w hw) | (refine go_newS ?_; clear hw; intro s w hw))
  refine st_call rfl awake_spec ?_
  rintro _ w' ⟨rfl, hk'⟩
  replace hw := hw.call0 hk'
  clear hk'
  refine ⟨_, rfl, ?_⟩
  repeat (first | refine go_run ?_ | (refine go_newP ?_; clear hw; intro p w hw) | (refine go_newWr ?_; clear hw; intro w hw) | (refine go_newS ?_; clear hw; intro s w hw))
  refine vc_plan [.op 0, .op 1, .op 3, .op 4, .op 5, .op 6, .op 2, .chk 3, .op 7, .op 8, .op 9] hw (by kernel_rfl) ?_; clear hw; intro w hw
  repeat (first | refine go_run ?_ | (refine go_newP ?_; clear hw; intro p w hw) | (refine go_newWr ?_; clear hw; intro w hw) | (refine go_newS ?_; clear hw; intro s w hw))
  refine step_pure rfl (pv_andNot16 (a := bits) (b := drop) rfl rfl hb0 (by omega)) ?_
  repeat (first | refine go_run ?_ | (refine go_newP ?_; clear hw; intro p w hw) | (refine go_newWr ?_; clear hw; intro w hw) | (refine go_newS ?_; clear hw; intro s w hw))
  refine st_call rfl (chosen_spec (ht'.at hw) (by omega)) ?_
  rintro _ w' ⟨s1, rfl, hk'⟩
  replace hw := hw.call1 hk'
  clear hk'
  refine ⟨_, rfl, ?_⟩
  repeat (first | refine go_run ?_ | (refine go_newP ?_; clear hw; intro p w hw) | (refine go_newWr ?_; clear hw; intro w hw) | (refine go_newS ?_; clear hw; intro s w hw))
  refine st_call rfl (chosen_spec (ht'.at hw) (by omega)) ?_
  rintro _ w' ⟨s2, rfl, hk'⟩
  replace hw := hw.call1 hk'
  clear hk'
  refine ⟨_, rfl, ?_⟩
  have hq : ∀ v ∈ chosenK ((bits.toNat &&& nb16 drop : Nat) : Int) t.vars.length, v ∈ chosenK bits t.vars.length := by
    intro v hv
    have := chosen_and v hv
    rwa [Int.toNat_of_nonneg hb0] at this
  have hQ := chosen_inV t.vars ((bits.toNat &&& nb16 drop : Nat) : Int)
  obtain ⟨L, hLe⟩ : ∃ L, L = chosenK bits t.vars.length := ⟨_, rfl⟩
  obtain ⟨Q, hQe⟩ : ∃ Q, Q = chosenK ((bits.toNat &&& nb16 drop : Nat) : Int) t.vars.length := ⟨_, rfl⟩
  rw [← hLe] at hw hL hf hq
  rw [← hQe] at hw hQ hq
  obtain ⟨he1, he2⟩ := small_err hs hL
  obtain ⟨he3, he4⟩ := small_err hs hQ
  have hcq := cntL_le hg.pos hQ
  have hN1 := cntL_pos hg.pos hL.mem
  repeat (first | refine go_run ?_ | (refine go_newP ?_; clear hw; intro p w hw) | (refine go_newW ?_; clear hw; intro w hw) | (refine go_newS ?_; clear hw; intro s w hw))
  refine st_call rfl (Project_spec (vp := s1) (L := L) (ht'.at hw) (rsO hw)) ?_
  rintro _ w' ⟨cv, ev, gv, rfl, hk'⟩
  rw [he1, sysE_ok] at hk'
  rw [he1, errV_zero rfl, sysE_ok, sysV_ok]
  have hw2 := hw.call hk'
  clear hk' hw
  have hw := hw2
  clear hw2
  refine ⟨_, rfl, ?_⟩
  have o1 := (hw.rs 0 rfl).one
  have o2 := (hw.rs 1 rfl).one
  have o3 := (hw.rs 2 rfl).one
  repeat (first | refine go_run ?_ | (refine go_newP ?_; clear hw; intro p w hw) | (refine go_newWs ?_; clear hw; intro w hw) | (refine go_newS ?_; clear hw; intro s w hw))
  refine st_boxAgg (n := 5) (p := p) (vs := [.int .i64 (cntL t.vars L), .int .i64 (idxL t.vars L t.init), cv, ev, gv]) rfl rfl hw inferInstance rfl rfl (by simp only [List.all_cons, List.all_nil, o1, o2, o3]; rfl) ?_
  clear hw
  intro w hw
  obtain ⟨px, hpx⟩ : ∃ px, px = p := ⟨p, rfl⟩
  subst hpx
  repeat (first | refine go_run ?_ | (refine go_newP ?_; clear hw; intro p w hw) | (refine go_newW ?_; clear hw; intro w hw) | (refine go_newS ?_; clear hw; intro s w hw))
  refine st_call rfl (Project_spec (vp := s2) (L := Q) (ht'.at hw) (rsO hw)) ?_
  rintro _ w' ⟨cv2, ev2, gv2, rfl, hk'⟩
  rw [he3, sysE_ok] at hk'
  rw [he3, errV_zero rfl, sysE_ok, sysV_ok]
  have hw2 := hw.call hk'
  clear hk' hw
  have hw := hw2
  clear hw2
  refine ⟨_, rfl, ?_⟩
  have o4 := (hw.rs 0 rfl).one
  have o5 := (hw.rs 1 rfl).one
  have o6 := (hw.rs 2 rfl).one
  repeat (first | refine go_run ?_ | (refine go_newP ?_; clear hw; intro p w hw) | (refine go_newWs ?_; clear hw; intro w hw) | (refine go_newS ?_; clear hw; intro s w hw))
  refine st_boxAgg (n := 5) (p := p) (vs := [.int .i64 (cntL t.vars Q), .int .i64 (idxL t.vars Q t.init), cv2, ev2, gv2]) rfl rfl hw inferInstance rfl rfl (by simp only [List.all_cons, List.all_nil, o4, o5, o6]; rfl) ?_
  clear hw
  intro w hw
  obtain ⟨py, hpy⟩ : ∃ py, py = p := ⟨p, rfl⟩
  subst hpy
  have hw1 : Sat w0 w [Box py 35 [.int .i64 (cntL t.vars Q), .int .i64 (idxL t.vars Q t.init), cv2, ev2, gv2], OS tInt 3 cv2 (costsT t), OS tEdg 50 ev2 (pEdges t Q), OS tBool 4 gv2 (goalsK t Q (cntL t.vars Q).toNat), Box px 35 [.int .i64 (cntL t.vars L), .int .i64 (idxL t.vars L t.init), cv, ev, gv], OS tInt 3 cv (costsT t), OS tEdg 50 ev (pEdges t L), OS tBool 4 gv (goalsK t L (cntL t.vars L).toNat), OS tInt 3 s2 Q, OS tInt 3 s1 L, OS tInt 3 s0 L, Box pt 26 [a, b, c, d]] := hw
  clear hw
  have hw := hw1
  clear hw1
  have hlen : (statesL t.vars).length ≤ 512 := by rw [statesL_len hg.pos]; omega
  have hpl : (pEdges t L).length ≤ 20 * 512 := Nat.le_trans (pEdges_le t L) (Nat.mul_le_mul hO hlen)
  have hql : (pEdges t Q).length ≤ 20 * 512 := Nat.le_trans (pEdges_le t Q) (Nat.mul_le_mul hO hlen)
  repeat (first | refine go_run ?_ | (refine go_newP ?_; clear hw; intro p w hw) | (refine go_newW ?_; clear hw; intro w hw) | (refine go_newS ?_; clear hw; intro s w hw))
  obtain ⟨tv, htv⟩ : ∃ tv, tv = s := ⟨s, rfl⟩
  subst htv
  refine st_call rfl (States_spec (ha.at hw) hg.pos hg.vars (by omega)) ?_
  rintro _ w' ⟨sv, ss, rfl, hk'⟩
  replace hw := hw.call2 hk'
  clear hk'
  have hss := hw.rowsLen
  refine ⟨_, rfl, ?_⟩
  repeat (first | refine go_run ?_ | (refine go_newP ?_; clear hw; intro p w hw) | (refine go_newW ?_; clear hw; intro w hw) | (refine go_newS ?_; clear hw; intro s w hw))
  refine vc_loop [6, 15, 16, 17, 18, 19, 76, 77, 78, 79, 80, 81, 82, 83, 84, 85, 86, 87, 88, 89, 90, 91, 92, 93, 94, 95, 96, 97, 98, 99, 100, 101, 102, 103, 104, 105, 106, 107, 108, 109, 110, 111, 112, 113, 114] (G := Nat) (fun k => [(76, .int .i64 k)]) (fun k w => k ≤ (statesL t.vars).length ∧ Sat w0 w [RowsAt tInt 3 ss (statesL t.vars), OS tVal 22 sv ss, OS tInt 3 tv (toK t L Q (cntL t.vars L).toNat k), Box py 35 [.int .i64 (cntL t.vars Q), .int .i64 (idxL t.vars Q t.init), cv2, ev2, gv2], OS tInt 3 cv2 (costsT t), OS tEdg 50 ev2 (pEdges t Q), OS tBool 4 gv2 (goalsK t Q (cntL t.vars Q).toNat), Box px 35 [.int .i64 (cntL t.vars L), .int .i64 (idxL t.vars L t.init), cv, ev, gv], OS tInt 3 cv (costsT t), OS tEdg 50 ev (pEdges t L), OS tBool 4 gv (goalsK t L (cntL t.vars L).toNat), OS tInt 3 s2 Q, OS tInt 3 s1 L, OS tInt 3 s0 L, Box pt 26 [a, b, c, d]]) (fun k => (statesL t.vars).length - k) 0 (fun _ => rfl) ⟨rfl, trivial⟩ ⟨Nat.zero_le _, by rw [toK_zero]; exact hw⟩ ?_
  clear hw
  rintro σ k w ⟨hk, hw⟩
  repeat (first | refine go_run ?_ | (refine go_newP ?_; clear hw; intro p w hw) | (refine go_newW ?_; clear hw; intro w hw) | (refine go_newS ?_; clear hw; intro s w hw))
  refine go_if (fun h1 => ?_) (fun h1 => ?_)
  · have hkl : k < (statesL t.vars).length := by omega
    obtain ⟨hst, hrk⟩ := statesL_at hg.pos hkl
    have hib := idxL_bound hst hL.mem
    have htl := toK_len t L Q (cntL t.vars L).toNat k
    have hts := toK_set (n := (cntL t.vars L).toNat) hg hL hq hst (by omega)
    repeat (first | refine go_run ?_ | (refine go_newP ?_; clear hw; intro p w hw) | (refine go_newW ?_; clear hw; intro w hw) | (refine go_newS ?_; clear hw; intro s w hw))
    refine st_call rfl (pIndex_spec (va := s1) (s := (statesL t.vars).getD k []) (ht'.at hw) (rsO hw) (hw.row hkl)) ?_
    rintro _ w' ⟨rfl, hk'⟩
    replace hw := hw.call0 hk'
    clear hk'
    rw [ixErr_ok he2 hst (by omega), if_pos rfl, errV_zero rfl]
    refine ⟨_, rfl, ?_⟩
    repeat (first | refine go_run ?_ | (refine go_newP ?_; clear hw; intro p w hw) | (refine go_newW ?_; clear hw; intro w hw) | (refine go_newS ?_; clear hw; intro s w hw))
    refine st_call rfl (pIndex_spec (va := s2) (s := (statesL t.vars).getD k []) (ht'.at hw) (rsO hw) (hw.row hkl)) ?_
    rintro _ w' ⟨rfl, hk'⟩
    replace hw := hw.call0 hk'
    clear hk'
    rw [ixErr_ok he4 hst (by omega), if_pos rfl, errV_zero rfl]
    refine ⟨_, rfl, ?_⟩
    repeat (first | refine go_run ?_ | (refine go_newP ?_; clear hw; intro p w hw) | (refine go_newW ?_; clear hw; intro w hw) | (refine go_newS ?_; clear hw; intro s w hw))
    refine go_if (fun h2 => ?_) (fun h2 => ?_)
    · exfalso; omega
    repeat (first | refine go_run ?_ | (refine go_newP ?_; clear hw; intro p w hw) | (refine go_newW ?_; clear hw; intro w hw) | (refine go_newS ?_; clear hw; intro s w hw))
    rw [hts] at hw
    exact ⟨k + 1, ⟨rfl, trivial⟩, by repeat (first | exact agree_refl | (apply agree_upd rfl) | (apply agree_mix rfl) | (apply agree_sets rfl)), ⟨by omega, hw⟩, by omega⟩
  have hke : k = (statesL t.vars).length := by omega
  subst hke
  have hte := fun (a : Int) (h0 : 0 ≤ a) (h1 : a < cntL t.vars L) => toK_end (q := Q) hg hL h0 h1
  have htl := toK_len t L Q (cntL t.vars L).toNat (statesL t.vars).length
  obtain ⟨TK, hTK⟩ : ∃ TK, TK = (toK t L Q (cntL t.vars L).toNat (statesL t.vars).length) := ⟨_, rfl⟩
  rw [← hTK] at hw htl
  simp only [← hTK] at hte
  repeat (first | refine go_run ?_ | (refine go_newP ?_; clear hw; intro p w hw) | (refine go_newW ?_; clear hw; intro w hw) | (refine go_newS ?_; clear hw; intro s w hw))
  refine st_makeMap kEdg hw ?_
  clear hw
  intro hm w hw
  repeat (first | refine go_run ?_ | (refine go_newP ?_; clear hw; intro p w hw) | (refine go_newW ?_; clear hw; intro w hw) | (refine go_newS ?_; clear hw; intro s w hw))
  refine vc_loop2 [22, 119, 120, 121, 122, 123, 124, 125] (G := Nat) (H := List (Edg × Value)) (fun k _ => [(119, .int .i64 k)]) (fun k kv w => k ≤ (pEdges t Q).length ∧ (∀ i, i < k → mget kv ((pEdges t Q).getD i tEdg.dflt) = some (.bool true)) ∧ Sat w0 w [MapO kEdg hm kv, RowsAt tInt 3 ss (statesL t.vars), OS tVal 22 sv ss, OS tInt 3 tv TK, Box py 35 [.int .i64 (cntL t.vars Q), .int .i64 (idxL t.vars Q t.init), cv2, ev2, gv2], OS tInt 3 cv2 (costsT t), OS tEdg 50 ev2 (pEdges t Q), OS tBool 4 gv2 (goalsK t Q (cntL t.vars Q).toNat), Box px 35 [.int .i64 (cntL t.vars L), .int .i64 (idxL t.vars L t.init), cv, ev, gv], OS tInt 3 cv (costsT t), OS tEdg 50 ev (pEdges t L), OS tBool 4 gv (goalsK t L (cntL t.vars L).toNat), OS tInt 3 s2 Q, OS tInt 3 s1 L, OS tInt 3 s0 L, Box pt 26 [a, b, c, d]]) (fun k _ => (pEdges t Q).length - k) 0 [] (fun _ _ => rfl) ⟨rfl, trivial⟩ ⟨Nat.zero_le _, fun i hi => absurd hi (Nat.not_lt_zero _), hw⟩ ?_
  clear hw
  rintro σ1 k kv w ⟨hk, hkv, hw⟩
  repeat (first | refine go_run ?_ | (refine go_newP ?_; clear hw; intro p w hw) | (refine go_newW ?_; clear hw; intro w hw) | (refine go_newS ?_; clear hw; intro s w hw))
  refine go_if (fun h2 => ?_) (fun h2 => ?_)
  · have hkl : k < (pEdges t Q).length := by omega
    repeat (first | refine go_run ?_ | (refine go_newP ?_; clear hw; intro p w hw) | (refine go_newW ?_; clear hw; intro w hw) | (refine go_newS ?_; clear hw; intro s w hw))
    refine st_mapUpdate (m := hm) (κ := kEdg) (q := (pEdges t Q).getD k tEdg.dflt) (v := .bool true) rfl rfl rfl hw inferInstance ?_
    clear hw
    intro w hw
    repeat (first | refine go_run ?_ | (refine go_newP ?_; clear hw; intro p w hw) | (refine go_newW ?_; clear hw; intro w hw) | (refine go_newS ?_; clear hw; intro s w hw))
    refine ⟨k + 1, _, ⟨rfl, trivial⟩, by repeat (first | exact agree_refl | (apply agree_upd rfl) | (apply agree_mix rfl) | (apply agree_sets rfl)), ⟨by omega, fun i hi => ?_, hw.tail⟩, by omega⟩
    rw [mget_mput]
    split
    · rfl
    · rename_i hne
      exact hkv i (by have : i ≠ k := fun e => hne (by rw [e]); omega)
  have hke : k = (pEdges t Q).length := by omega
  subst hke
  have hhave : ∀ e ∈ pEdges t Q, mget kv e = some (.bool true) := fun e he => by
    obtain ⟨i, hi, rfl⟩ := List.getElem_of_mem he
    have := hkv i hi
    rwa [getD_at hi] at this
  repeat (first | refine go_run ?_ | (refine go_newP ?_; clear hw; intro p w hw) | (refine go_newW ?_; clear hw; intro w hw) | (refine go_newS ?_; clear hw; intro s w hw))
  refine st_makeMap kEdg hw ?_
  clear hw
  intro im w hw
  repeat (first | refine go_run ?_ | (refine go_newP ?_; clear hw; intro p w hw) | (refine go_newW ?_; clear hw; intro w hw) | (refine go_newS ?_; clear hw; intro s w hw))
  refine vc_loop2 [6, 25, 26, 130, 131, 132, 133, 134, 135, 136, 137, 138, 139, 140, 141, 142, 143, 144, 145, 146, 147, 148, 149, 150, 151, 152, 153] (G := Nat) (H := List (Edg × Value)) (fun k _ => [(130, .int .i64 k)]) (fun k iv w => k ≤ (pEdges t L).length ∧ (iv.map (·.1)).Nodup ∧ (∀ y, y ∈ iv.map (·.1) ↔ ∃ i, i < k ∧ imgE t L Q ((pEdges t L).getD i tEdg.dflt) = y) ∧ Sat w0 w [MapO kEdg im iv, MapO kEdg hm kv, RowsAt tInt 3 ss (statesL t.vars), OS tVal 22 sv ss, OS tInt 3 tv TK, Box py 35 [.int .i64 (cntL t.vars Q), .int .i64 (idxL t.vars Q t.init), cv2, ev2, gv2], OS tInt 3 cv2 (costsT t), OS tEdg 50 ev2 (pEdges t Q), OS tBool 4 gv2 (goalsK t Q (cntL t.vars Q).toNat), Box px 35 [.int .i64 (cntL t.vars L), .int .i64 (idxL t.vars L t.init), cv, ev, gv], OS tInt 3 cv (costsT t), OS tEdg 50 ev (pEdges t L), OS tBool 4 gv (goalsK t L (cntL t.vars L).toNat), OS tInt 3 s2 Q, OS tInt 3 s1 L, OS tInt 3 s0 L, Box pt 26 [a, b, c, d]]) (fun k _ => (pEdges t L).length - k) 0 [] (fun _ _ => rfl) ⟨rfl, trivial⟩ ⟨Nat.zero_le _, by simp, (fun y => by simp), hw⟩ ?_
  clear hw
  rintro σ2 k iv w ⟨hk, hnd, hmem, hw⟩
  repeat (first | refine go_run ?_ | (refine go_newP ?_; clear hw; intro p w hw) | (refine go_newW ?_; clear hw; intro w hw) | (refine go_newS ?_; clear hw; intro s w hw))
  refine go_if (fun h3 => ?_) (fun h3 => ?_)
  · have hkl : k < (pEdges t L).length := by omega
    have hme := mem_getD tEdg.dflt hkl
    obtain ⟨xa, xo, xb, xha, xho, xhb, xT, xe⟩ := mem_pEdges.1 hme
    have him := img_mem hg hL hQ hq hme
    have hl1 : ((pEdges t L).getD k tEdg.dflt).src = xa := by rw [xe]
    have hl3 : ((pEdges t L).getD k tEdg.dflt).dst = xb := by rw [xe]
    have t1 := hte ((pEdges t L).getD k tEdg.dflt).src (by rw [hl1]; exact xha.1) (by rw [hl1]; exact xha.2)
    have t2 := hte ((pEdges t L).getD k tEdg.dflt).dst (by rw [hl3]; exact xhb.1) (by rw [hl3]; exact xhb.2)
    repeat (first | refine go_run ?_ | (refine go_newP ?_; clear hw; intro p w hw) | (refine go_newWr ?_; clear hw; intro w hw) | (refine go_newS ?_; clear hw; intro s w hw))
    obtain ⟨pz, hpz⟩ : ∃ pz, pz = p := ⟨p, rfl⟩
    subst hpz
    refine vc_cut [134, 135, 136, 137, 138, 139, 140, 141, 142, 143, 144, 145, 146, 26] (G := Addr) (fun g => [(26, .pointer (some g))]) (fun g w => Sat w0 w [Box g 50 [.int .i64 (imgE t L Q ((pEdges t L).getD k tEdg.dflt)).src, .int .i64 (imgE t L Q ((pEdges t L).getD k tEdg.dflt)).lab, .int .i64 (imgE t L Q ((pEdges t L).getD k tEdg.dflt)).dst], Box pz 50 (tEdg.enc ((pEdges t L).getD k tEdg.dflt)), MapO kEdg im iv, MapO kEdg hm kv, RowsAt tInt 3 ss (statesL t.vars), OS tVal 22 sv ss, OS tInt 3 tv TK, Box py 35 [.int .i64 (cntL t.vars Q), .int .i64 (idxL t.vars Q t.init), cv2, ev2, gv2], OS tInt 3 cv2 (costsT t), OS tEdg 50 ev2 (pEdges t Q), OS tBool 4 gv2 (goalsK t Q (cntL t.vars Q).toNat), Box px 35 [.int .i64 (cntL t.vars L), .int .i64 (idxL t.vars L t.init), cv, ev, gv], OS tInt 3 cv (costsT t), OS tEdg 50 ev (pEdges t L), OS tBool 4 gv (goalsK t L (cntL t.vars L).toNat), OS tInt 3 s2 Q, OS tInt 3 s1 L, OS tInt 3 s0 L, Box pt 26 [a, b, c, d]]) (fun _ => rfl) ?_ ?_
    · refine vc_tree (.step 0 [.op 0] (.step 1 [.op 1] (.step 5 [.op 5] (.step 7 [.op 7] (.step 8 [.op 8] (.step 2 [.op 2] (.step 3 [.op 3] (.step 4 [.op 4] (.step 6 [.op 6] (.step 9 [.op 9] (.step 10 [.op 10] (.step 11 [.op 11] (.alt 12 [.op 12] (.step 13 [.op 13, .chk 2, .chk 4, .chk 6, .chk 9, .chk 11] (.step 14 [.op 14] (.lin []))) (.alt 13 [.op 13, .chk 2, .chk 4, .chk 6, .chk 9, .chk 11] (.step 12 [.op 12] (.step 14 [.op 14] (.lin []))) (.stop))))))))))))))) hw (by kernel_rfl) (by kernel_rfl) ?_; clear hw; intro w hw
      repeat' (first | refine go_run ?_ | (refine go_newP ?_; clear hw; intro p w hw) | (refine go_newWr ?_; clear hw; intro w hw) | refine opsT_alt ?_ ?_ | exact opsT_stop)
      all_goals exact ⟨p, ⟨rfl, trivial⟩, by repeat (first | exact agree_refl | (apply agree_upd rfl) | (apply agree_mix rfl) | (apply agree_sets rfl)), by simp only [imgE, ← t1, ← t2]; exact hw⟩
    clear hw
    rintro σ3 pg w hw
    repeat (first | refine go_run ?_ | (refine go_newP ?_; clear hw; intro p w hw) | (refine go_newW ?_; clear hw; intro w hw) | (refine go_newS ?_; clear hw; intro s w hw))
    refine step_read rfl (rv_lookup (m := hm) (κ := kEdg) (q := imgE t L Q ((pEdges t L).getD k tEdg.dflt)) rfl rfl hw inferInstance) ?_
    rw [hhave _ him]
    repeat (first | refine go_run ?_ | (refine go_newP ?_; clear hw; intro p w hw) | (refine go_newW ?_; clear hw; intro w hw) | (refine go_newS ?_; clear hw; intro s w hw))
    refine st_mapUpdate (m := im) (κ := kEdg) (q := imgE t L Q ((pEdges t L).getD k tEdg.dflt)) (v := .bool true) rfl rfl rfl hw inferInstance ?_
    clear hw
    intro w hw
    repeat (first | refine go_run ?_ | (refine go_newP ?_; clear hw; intro p w hw) | (refine go_newW ?_; clear hw; intro w hw) | (refine go_newS ?_; clear hw; intro s w hw))
    refine ⟨k + 1, _, ⟨rfl, trivial⟩, by repeat (first | exact agree_refl | (apply agree_upd rfl) | (apply agree_mix rfl) | (apply agree_sets rfl)), ⟨by omega, mput_nodup hnd, fun y => ?_, hw.tail.tail⟩, by omega⟩
    rw [mput_mem, hmem]
    constructor
    · rintro (⟨i, hi, h⟩ | h)
      · exact ⟨i, by omega, h⟩
      · exact ⟨k, by omega, h.symm⟩
    · rintro ⟨i, hi, h⟩
      by_cases e : i = k
      · subst e; exact .inr h.symm
      · exact .inl ⟨i, by omega, h⟩
  have hke : k = (pEdges t L).length := by omega
  subst hke
  have hcard : (iv.map (·.1)).length = (pEdges t Q).length := same_len hnd (pEdges_nodup t Q) fun y => by
    rw [hmem]
    constructor
    · rintro ⟨i, hi, rfl⟩; exact img_mem hg hL hQ hq (mem_getD tEdg.dflt hi)
    · intro hy
      obtain ⟨e, he, rfl⟩ := img_surj hg hL hq hy
      obtain ⟨i, hi, rfl⟩ := List.getElem_of_mem he
      exact ⟨i, hi, by rw [getD_at hi]⟩
  rw [List.length_map] at hcard
  have hib := idxL_bound hg.init hL.mem
  have hti := hte _ hib.1 hib.2
  rw [toF_idx hg hL hq hg.init] at hti
  repeat (first | refine go_run ?_ | (refine go_newP ?_; clear hw; intro p w hw) | (refine go_newWr ?_; clear hw; intro w hw) | (refine go_newS ?_; clear hw; intro s w hw))
  refine vc_plan [.op 0, .op 1, .op 2, .op 3, .op 4, .op 5, .op 6, .op 7, .op 8, .op 9, .op 10, .op 11, .op 12, .op 13, .op 14, .op 15, .op 16] hw (by kernel_rfl) ?_; clear hw; intro w hw
  repeat (first | refine go_run ?_ | (refine go_newP ?_; clear hw; intro p w hw) | (refine go_newWr ?_; clear hw; intro w hw) | (refine go_newS ?_; clear hw; intro s w hw))
  refine step_read rfl (rv_lenM (m := im) (κ := kEdg) rfl hw inferInstance) ?_
  repeat (first | refine go_run ?_ | (refine go_newP ?_; clear hw; intro p w hw) | (refine go_newWr ?_; clear hw; intro w hw) | (refine go_newS ?_; clear hw; intro s w hw))
  refine res_one (v := .bool (decide ((iv.length : Int) = ((pEdges t Q).length : Int)) && decide (TK.getD (idxL t.vars L t.init).toNat tInt.dflt = idxL t.vars Q t.init))) rfl rfl ⟨?_, sat_none hw⟩
  rw [decide_eq_true (show (iv.length : Int) = ((pEdges t Q).length : Int) by omega), decide_eq_true hti]
  rfl
end Go.Proofs.Ytlgombjhcpgleaa
