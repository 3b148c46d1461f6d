/-
  Several texts as one: WSortF, WSortC, WCliques, WPat2.
-/
import Derived.Test.YtggdgcmjcahbbaaGreatDoorTypes
import Derived.Test.YtggdgcmjcahbbaaGreatDoorMTA
import Derived.Test.YtggdgcmjcahbbaaGreatDoorMSlB
import Derived.Shelf.SlSortCmp.Whole1
import Derived.Test.YtggdgcmjcahbbaaGreatDoorMW10
set_option linter.unusedSimpArgs false
set_option linter.unusedVariables false
/-
  The kit's contract of 'slices.SortFunc' over lists of numbers, and the contract of 'slices.Compare'.
-/
namespace Go.Proofs.YtggdgcmjcahbbaaGreatDoor
open Go.Sl Go Go.Shelf
attribute [local irreducible] vc opsW opsD opV opW PureV ReadV Thn Blk
def renF:Ren:=⟨fun k=>bif Nat.beq k 6 then 84 else bif Nat.beq k 14 then 101 else bif Nat.beq k 15 then 97 else bif Nat.beq k 20 then 118 else bif Nat.beq k 21 then 119 else bif Nat.beq k 22 then 120 else bif Nat.beq k 23 then 121 else bif Nat.beq k 24 then 122 else bif Nat.beq k 25 then 123 else bif Nat.beq k 26 then 124 else bif Nat.beq k 27 then 125 else bif Nat.beq k 28 then 116 else bif Nat.beq k 29 then 117 else bif Nat.beq k 46 then 132 else bif Nat.beq k 47 then 128 else bif Nat.beq k 48 then 129 else bif Nat.beq k 49 then 133 else bif Nat.beq k 50 then 134 else bif Nat.beq k 57 then 136 else 0,fun k=>bif Nat.beq k 0 then 0 else bif Nat.beq k 3 then 3 else bif Nat.beq k 4 then 4 else bif Nat.beq k 5 then 5 else bif Nat.beq k 9 then 9 else bif Nat.beq k 22 then 29 else bif Nat.beq k 24 then 22 else bif Nat.beq k 25 then 159 else bif Nat.beq k 39 then 179 else bif Nat.beq k 45 then 194 else bif Nat.beq k 46 then 195 else bif Nat.beq k 50 then 110 else bif Nat.beq k 53 then 201 else bif Nat.beq k 55 then 156 else bif Nat.beq k 66 then 208 else bif Nat.beq k 70 then 212 else bif Nat.beq k 76 then 216 else bif Nat.beq k 77 then 217 else 0,fun k=>k⟩
set_option maxRecDepth 100000 in
theorem layF:SlLaysF.n6 Tryz.prog renF:={ mixed:=mixed,f6:=⟨Tryz.f84.name,by kernel_rfl,Tryz.func84.trans (by kernel_rfl)⟩,f14:=⟨Tryz.f101.name,by kernel_rfl,Tryz.func101.trans (by kernel_rfl)⟩,f15:=Tryz.func97.trans (by kernel_rfl),f20:=⟨Tryz.f118.name,by kernel_rfl,Tryz.func118.trans (by kernel_rfl)⟩,f21:=⟨Tryz.f119.name,by kernel_rfl,Tryz.func119.trans (by kernel_rfl)⟩,f22:=⟨Tryz.f120.name,by kernel_rfl,Tryz.func120.trans (by kernel_rfl)⟩,f23:=⟨Tryz.f121.name,by kernel_rfl,Tryz.func121.trans (by kernel_rfl)⟩,f24:=⟨Tryz.f122.name,by kernel_rfl,Tryz.func122.trans (by kernel_rfl)⟩,f25:=⟨Tryz.f123.name,by kernel_rfl,Tryz.func123.trans (by kernel_rfl)⟩,f26:=⟨Tryz.f124.name,by kernel_rfl,Tryz.func124.trans (by kernel_rfl)⟩,f27:=⟨Tryz.f125.name,by kernel_rfl,Tryz.func125.trans (by kernel_rfl)⟩,f28:=Tryz.func116.trans (by kernel_rfl),f29:=Tryz.func117.trans (by kernel_rfl),f46:=⟨Tryz.f132.name,by kernel_rfl,Tryz.func132.trans (by kernel_rfl)⟩,f47:=Tryz.func128.trans (by kernel_rfl),f48:=Tryz.func129.trans (by kernel_rfl),f49:=⟨Tryz.f133.name,by kernel_rfl,Tryz.func133.trans (by kernel_rfl)⟩,f50:=⟨Tryz.f134.name,by kernel_rfl,Tryz.func134.trans (by kernel_rfl)⟩,f57:=⟨Tryz.f136.name,by kernel_rfl,Tryz.func136.trans (by kernel_rfl)⟩,t0:=by kernel_rfl,a0:=fun w=>by kernel_rfl,z0:=fun w=>by kernel_rfl,v0:=fun w=>by kernel_rfl,t3:=by kernel_rfl,a3:=fun w=>by kernel_rfl,z3:=fun w=>by kernel_rfl,v3:=fun w=>by kernel_rfl,t4:=by kernel_rfl,a4:=fun w=>by kernel_rfl,z4:=fun w=>by kernel_rfl,v4:=fun w=>by kernel_rfl,t5:=by kernel_rfl,a5:=fun w=>by kernel_rfl,z5:=fun w=>by kernel_rfl,v5:=fun w=>by kernel_rfl,t9:=by kernel_rfl,a9:=fun w=>by kernel_rfl,z9:=fun w=>by kernel_rfl,v9:=fun w=>by kernel_rfl,t22:=by kernel_rfl,a22:=fun w=>by kernel_rfl,z22:=fun w=>by kernel_rfl,v22:=fun w=>by kernel_rfl,a24:=fun w=>by kernel_rfl,z24:=fun w=>by kernel_rfl,t25:=by kernel_rfl,a25:=fun w=>by kernel_rfl,z25:=fun w=>by kernel_rfl,v25:=fun w=>by kernel_rfl,t39:=by kernel_rfl,a39:=fun w=>by kernel_rfl,z39:=fun w=>by kernel_rfl,v39:=fun w=>by kernel_rfl,t45:=by kernel_rfl,a45:=fun w=>by kernel_rfl,z45:=fun w=>by kernel_rfl,v45:=fun w=>by kernel_rfl,t46:=by kernel_rfl,a46:=fun w=>by kernel_rfl,z46:=fun w=>by kernel_rfl,v46:=fun w=>by kernel_rfl,t50:=by kernel_rfl,a50:=fun w=>by kernel_rfl,z50:=fun w=>by kernel_rfl,v50:=fun w=>by kernel_rfl,t53:=by kernel_rfl,a53:=fun w=>by kernel_rfl,z53:=fun w=>by kernel_rfl,v53:=fun w=>by kernel_rfl,t55:=by kernel_rfl,a55:=fun w=>by kernel_rfl,z55:=fun w=>by kernel_rfl,v55:=fun w=>by kernel_rfl,t66:=by kernel_rfl,a66:=fun w=>by kernel_rfl,z66:=fun w=>by kernel_rfl,v66:=fun w=>by kernel_rfl,t70:=by kernel_rfl,a70:=fun w=>by kernel_rfl,z70:=fun w=>by kernel_rfl,v70:=fun w=>by kernel_rfl,t76:=by kernel_rfl,a76:=fun w=>by kernel_rfl,z76:=fun w=>by kernel_rfl,v76:=fun w=>by kernel_rfl,t77:=by kernel_rfl,a77:=fun w=>by kernel_rfl,z77:=fun w=>by kernel_rfl,v77:=fun w=>by kernel_rfl }
set_option maxRecDepth 8000 in
theorem qf5 {w:World}{x:Int}:Calls Tryz.prog 126 #[.int .i64 x] w fun e w'=>e=.returned (.bool false)∧w'=w:=by
 have hw:=Sat.start w
 refine qab (args:=[.int .i64 x]) mixed Tryz.func126 rfl (by kernel_rfl) (Nat.le_of_ble_eq_true rfl) ?_
 repeat refine qaa ?_
 exact qae (v:=.bool (!decide (x=x))) rfl rfl ⟨by simp,rfl⟩
set_option maxRecDepth 8000 in
theorem qmO {w:World}{x y:Int}:Calls Tryz.prog 102 #[.int .i64 x,.int .i64 y] w fun e w'=>e=.returned (.int .i64 (if x<y then -1 else if y<x then 1 else 0))∧w'=w:=by
 have hw:=Sat.start w
 refine qab (args:=[.int .i64 x,.int .i64 y]) mixed Tryz.func102 rfl (by kernel_rfl) (Nat.le_of_ble_eq_true rfl) ?_
 repeat refine qaa ?_
 refine qad rfl qf5 ?_
 rintro _ w' ⟨rfl,rfl⟩
 refine⟨_,rfl,?_⟩
 repeat refine qaa ?_
 refine qad rfl qf5 ?_
 rintro _ w' ⟨rfl,rfl⟩
 refine⟨_,rfl,?_⟩
 repeat refine qaa ?_
 refine go_if (fun h1 => ?_) (fun h1 => ?_)
 ·repeat refine qaa ?_
  exact qae (v:=.int .i64 (-1)) rfl rfl ⟨by rw [if_pos h1],rfl⟩
 repeat refine qaa ?_
 refine go_if (fun h2 => ?_) (fun h2 => ?_)
 ·repeat refine qaa ?_
  exact qae (v:=.int .i64 1) rfl rfl ⟨by rw [if_neg (by omega),if_pos h2],rfl⟩
 ·repeat refine qaa ?_
  exact qae (v:=.int .i64 0) rfl rfl ⟨by rw [if_neg (by omega),if_neg (by omega)],rfl⟩
set_option maxRecDepth 8000 in
set_option maxHeartbeats 2000000 in
theorem qhY {w0:World}{a b:Value}{xs ys:List Int}(ha:RS tInt w0 a xs) (hb:RS tInt w0 b ys) :
  Calls Tryz.prog 85 #[a,b] w0 fun e w'=>e=.returned (.int .i64 (lexC xs ys))∧w'=w0:=by
 have hla:=ha.big
 have hlb:=hb.big
 have hw:=Sat.start w0
 refine qab (args:=[a,b]) mixed Tryz.func85 rfl (by kernel_rfl) (Nat.le_of_ble_eq_true rfl) ?_
 repeat refine qaa ?_
 refine qaj [4,5,6,7,8,11,12,13,14,15,16,17,18,19,20,21,22,23,24,25,26,27,28,29,30] (G:=Nat) (fun k=>[(11,.int .i64 k)]) (fun k w=>w=w0∧k≤xs.length∧k≤ys.length∧lexC xs ys=lexC (xs.drop k) (ys.drop k)) (fun k=>xs.length-k) 0 (fun _=>rfl) ⟨rfl,trivial⟩ ⟨rfl,Nat.zero_le _,Nat.zero_le _,rfl⟩ ?_
 clear hw
 rintro σ k w ⟨rfl,hk1,hk2,he⟩
 have hw:=Sat.start w
 repeat refine qaa ?_
 refine go_if (fun h1 => ?_) (fun h1 => ?_)
 ·have hkl:k<xs.length:=by omega
  have hdx:xs.drop k=xs.getD k tInt.dflt::xs.drop (k+1):=by rw [List.drop_eq_getElem_cons hkl];simp [List.getD,hkl]
  repeat refine qaa ?_
  refine go_if (fun h2 => ?_) (fun h2 => ?_)
  ·have hdy:ys.drop k=[]:=List.drop_eq_nil_of_le (by omega)
   repeat refine qaa ?_
   exact qae (v:=.int .i64 1) rfl rfl ⟨by rw [he,hdx,hdy];rfl,rfl⟩
  have hky:k<ys.length:=by omega
  have hdy:ys.drop k=ys.getD k tInt.dflt::ys.drop (k+1):=by rw [List.drop_eq_getElem_cons hky];simp [List.getD,hky]
  rw [hdx,hdy] at he
  simp only [lexC] at he
  repeat refine qaa ?_
  refine qad rfl qmO ?_
  rintro _ w' ⟨rfl,rfl⟩
  refine⟨_,rfl,?_⟩
  by_cases c1:xs.getD k tInt.dflt<ys.getD k tInt.dflt
  ·rw [if_pos c1] at he ⊢
   repeat refine qaa ?_
   exact qae (v:=.int .i64 (-1)) rfl rfl ⟨by rw [he],rfl⟩
  by_cases c2:ys.getD k tInt.dflt<xs.getD k tInt.dflt
  ·rw [if_neg c1,if_pos c2] at he ⊢
   repeat refine qaa ?_
   exact qae (v:=.int .i64 1) rfl rfl ⟨by rw [he],rfl⟩
  rw [if_neg c1,if_neg c2] at he ⊢
  repeat refine qaa ?_
  exact⟨k+1,⟨rfl,trivial⟩,agr,⟨rfl,by omega,by omega,he⟩,by omega⟩
 ·have hdx:xs.drop k=[]:=List.drop_eq_nil_of_le (by omega)
  repeat refine qaa ?_
  refine go_if (fun h3 => ?_) (fun h3 => ?_)
  ·have hky:k<ys.length:=by omega
   have hdy:ys.drop k=ys.getD k tInt.dflt::ys.drop (k+1):=by rw [List.drop_eq_getElem_cons hky];simp [List.getD,hky]
   repeat refine qaa ?_
   exact qae (v:=.int .i64 (-1)) rfl rfl ⟨by rw [he,hdx,hdy];rfl,rfl⟩
  ·have hdy:ys.drop k=[]:=List.drop_eq_nil_of_le (by omega)
   repeat refine qaa ?_
   exact qae (v:=.int .i64 0) rfl rfl ⟨by rw [he,hdx,hdy];rfl,rfl⟩
end Go.Proofs.YtggdgcmjcahbbaaGreatDoor
/-
  The sorted list of rows.
-/
namespace Go.Proofs.YtggdgcmjcahbbaaGreatDoor
open Go.Sl Go Go.Shelf Go.Sort
attribute [local irreducible] vc opsW opsD opV opW PureV ReadV Thn Blk
theorem qoX {m:Nat}(F:Nat→List Int):SWO (ltOf fun (i j:Fin m)=>lexC (F i.1) (F j.1)) where
 irrefl x:=by simp [ltOf,qhg]
 trans x y z h1 h2:=by
  simp only [ltOf,decide_eq_true_eq] at h1 h2 ⊢
  exact qdA h1 h2
 ntrans x y z h1 h2:=by
  simp only [ltOf,decide_eq_false_iff_not] at h1 h2 ⊢
  intro h3
  by_cases e:lexC (F x.1) (F y.1)=0
  ·rw [qer e] at h3;exact h2 h3
  ·have h4:lexC (F y.1) (F x.1)<0:=by have:=qeq (F x.1) (F y.1);omega
   exact h2 (qdA h4 h3)
theorem qla {α:Type}{L:List α}(h:L.Nodup) {i j:Nat}(hi:i<L.length) (hj:j<L.length) (e:L[i]=L[j]):i=j:=by
 rcases Nat.lt_trichotomy i j with h1|h1|h1
 ·exact absurd e (List.pairwise_iff_getElem.1 h i j hi hj h1)
 ·exact h1
 ·exact absurd e.symm (List.pairwise_iff_getElem.1 h j i hj hi h1)
set_option maxRecDepth 8000 in
set_option maxHeartbeats 2000000 in
theorem qkK {w0 w:World}{Γ:List HP}{fv:Value}{fs:List Value}{Fs:List (List Int)}(hw:Sat w0 w (OS tVal 22 fv fs::RowsAt tInt 3 fs Fs::Γ)) (hd:Fs.Nodup) (h0:0<Fs.length) (hn:Fs.length≤8192) :
  Calls Tryz.prog 84 #[fv,.func (.func 85) #[] #[]] w fun e w'=>e=.returned (.tuple #[])∧∃ is:List Nat,is.Perm (List.range Fs.length)∧LexS (is.map fun i=>Fs.getD i []) ∧
   Sat w0 w' (OS tVal 22 fv (is.map (vget fs))::RowsAt tInt 3 (is.map (vget fs)) (is.map fun i=>Fs.getD i [])::Γ):=by
 have hfl:fs.length=Fs.length:=(hw.focus 1 rfl).rowsLen
 obtain⟨m,hm⟩:∃ m,m=Fs.length:=⟨_,rfl⟩
 haveI:Inhabited (Fin m):=⟨⟨0,by omega⟩⟩
 let enc:Fin m→Value:=fun i=>vget fs i.1
 have hone:∀ x:Fin m,(enc x).oneCell'=true:=fun x=>((hw.focus 1 rfl).row (i:=x.1) (by have:=x.2;omega)).one
 have hfs:(List.finRange m).map enc=fs:=by
  apply List.ext_getElem (by simp;omega)
  intro i h1 h2
  simp only [List.getElem_map,enc,qay]
  simp [List.getD,h2]
 have hw1:Sat w0 w (OS tVal 22 fv ((List.finRange m).map enc)::RowsAt tInt 3 fs Fs::Γ):=by rw [hfs];exact hw
 rcases hw1.valsAt enc with ⟨_,hnil⟩|⟨b,off,cap,rfl,hc,hb,hH,hput⟩
 ·have:=congrArg List.length hnil
  simp at this;omega
 have hsz:(List.finRange m).toArray.size=m:=by simp
 have hcmp:CmpLays1 Tryz.prog 85 #[] enc (fun i j=>lexC (Fs.getD i.1 []) (Fs.getD j.1 [])) b off (List.finRange m).toArray.size w:=by
  intro q os dk hs x y
  have h1:=(hput dk.toList (by simp at hs ⊢;exact hs) q).grow os
  have e1:dk.toList.toArray=dk:=by simp
  rw [e1] at h1
  refine (qhY ((h1.focus 1 rfl).row (i:=x.1) (by have:=x.2;omega)) ((h1.focus 1 rfl).row (i:=y.1) (by have:=y.2;omega))).mono ?_
  rintro e w' ⟨he,rfl⟩
  exact⟨he,0,#[],by rw [World.drewN_zero,grow_empty];rfl⟩
 have hS:=Any.slices_SortFunc layF enc hone (fun i j=>lexC (Fs.getD i.1 []) (Fs.getD j.1 [])) (qoX fun i=>Fs.getD i []) 85 #[] b off cap (List.finRange m).toArray w (fun args w=>CallT.run inferInstance args w) hcmp hH hb (by rw [hsz];omega)
 have e0:(List.finRange m).length=(List.finRange m).toArray.size:=by simp
 rw [e0]
 refine hS.mono ?_
 rintro e w' ⟨he,d',q,os,hp,hs,rfl⟩
 obtain⟨p1,_,p3⟩:=hp
 rw [hsz] at p1 hs p3
 have p4:d'.toList.Perm (List.finRange m):=by
  have q1:d'.extract 0 m=d':=by
   have:=Array.extract_size (xs:=d')
   rwa [p1] at this
  have q2:(List.finRange m).toArray.extract 0 m=(List.finRange m).toArray:=by
   have:=Array.extract_size (xs:=(List.finRange m).toArray)
   rwa [hsz] at this
  rw [q1,q2] at p3
  simpa using p3
 refine⟨he,d'.toList.map (·.1),?_,?_,?_⟩
 ·have h1:=p4.map (fun i:Fin m=>i.1)
  have h2:(List.finRange m).map (fun i:Fin m=>i.1)=List.range m:=by
   apply List.ext_getElem (by simp)
   intro i h1 h2;simp
  rw [h2] at h1
  rw [←hm]
  exact h1
 ·have hnd:d'.toList.Nodup:=p4.nodup_iff.2 (List.nodup_finRange m)
  rw [List.map_map]
  refine List.pairwise_map.2 ?_
  rw [List.pairwise_iff_getElem]
  intro i j hi hj hij
  simp only [Array.length_toList] at hi hj
  have h1:=hs i j (Nat.zero_le _) hij (by omega)
  rw [getElem!_pos d' j hj,getElem!_pos d' i hi] at h1
  simp only [ltOf,decide_eq_false_iff_not] at h1
  have hne:d'[i]≠d'[j]:=fun e=>by
   have:=List.pairwise_iff_getElem.1 hnd i j (by simpa using hi) (by simpa using hj) hij
   simp only [Array.getElem_toList] at this
   exact this e
  simp only [Function.comp,Array.getElem_toList]
  have hsw:=qeq (Fs.getD d'[i].1 []) (Fs.getD d'[j].1 [])
  have hnz:lexC (Fs.getD d'[i].1 []) (Fs.getD d'[j].1 [])≠0:=fun e=>by
   have e2:=qer e
   have b1:=d'[i].2
   have b2:=d'[j].2
   rw [List.getD_eq_getElem?_getD,List.getD_eq_getElem?_getD,List.getElem?_eq_getElem (by omega),List.getElem?_eq_getElem (by omega)] at e2
   simp only [Option.getD_some] at e2
   exact hne (Fin.ext (qla hd (by omega) (by omega) e2))
  omega
 ·have h1:=(hput d'.toList (by simp [p1]) q).grow os
  have e1:d'.toList.toArray=d':=by simp
  rw [e1] at h1
  have h2:Sat w0 (grow (putRow enc (Sort.ahead w q) b off d') os) (RowsAt tInt 3 fs Fs::OS tVal 22 (.slice (some ⟨b,off,none⟩) (List.finRange m).toArray.size cap) (d'.toList.map enc)::Γ):=by
   rw [←e0];exact h1.swap
  have h3:=h2.rowsPerm (is:=d'.toList.map (·.1)) (by
   have h1:=p4.map (fun i:Fin m=>i.1)
   have h2:(List.finRange m).map (fun i:Fin m=>i.1)=List.range m:=by
    apply List.ext_getElem (by simp)
    intro i h1 h2;simp
   rw [h2] at h1
   rw [←hm]
   exact h1)
  have e3:d'.toList.map enc=(d'.toList.map (·.1)).map (vget fs):=by rw [List.map_map];rfl
  rw [e3] at h3
  exact h3.swap
end Go.Proofs.YtggdgcmjcahbbaaGreatDoor
/-
  Contract of 'graph.Cliques'.
-/
namespace Go.Proofs.YtggdgcmjcahbbaaGreatDoor
open Go.Sl Go
attribute [local irreducible] vc opsW opsD opV opW PureV ReadV Thn Blk
theorem qgv (n v:Nat):ib (2 ^ n-1) v↔v<n:=by unfold ib;rw [Nat.testBit_two_pow_sub_one,decide_eq_true_eq]
theorem qpW {n:Nat}{N:Nat→Nat}:BI n N 0 (2 ^ n-1) 0 where
 rb v hv:=absurd hv (qaF rfl v)
 pb v hv:=(qgv n v).1 hv
 xb v hv:=absurd hv (qaF rfl v)
 clq u v hu:=absurd hu (qaF rfl u)
 adj u _ r hr:=absurd hr (qaF rfl r)
 all u hu _:=.inl ((qgv n u).2 hu)
theorem qgw {n:Nat}{N:Nat→Nat}{C:Nat}:Cand n N 0 (2 ^ n-1) C↔MaxC n N C :=
 ⟨fun h=>h.mx,fun h=>⟨h,fun v hv=>absurd hv (qaF rfl v),fun v hv=>.inr ((qgv n v).2 (h.bd v hv))⟩⟩
theorem qfO {n:Nat}{N:Nat→Nat}{M:List Nat}(hd:M.Nodup) (hm:∀ C∈M,MaxC n N C):(M.map fun C=>bitsK C n).Nodup:=by
 refine List.pairwise_map.2 (List.Pairwise.imp_of_mem (fun ha hb hne e => ?_) hd)
 exact hne (qlh (hm _ ha).bd (hm _ hb).bd e)
def ClqFull (n:Nat) (N:Nat→Nat):Prop:=∃ M:List Nat,M.Nodup∧M.length=4097∧∀ C∈M,MaxC n N C
set_option maxRecDepth 8000 in
set_option maxHeartbeats 4000000 in
theorem qh1 {w0:World}{n:Int}{a:Value}{arcs:List Arc}(ha:RS tArc w0 a arcs) (hT:TabB w0) :
  Calls Tryz.prog 57 #[.int .i64 n,a] w0 fun e w' =>
   (checkCode n arcs≠0∧e=.returned (.tuple #[.slice none 0 0,errV (checkCode n arcs)])∧Sat w0 w' []) ∨
   (checkCode n arcs=0∧32<n∧e=.returned (.tuple #[.slice none 0 0,errV 5])∧Sat w0 w' []) ∨
   (checkCode n arcs=0∧n=0∧e=.returned (.tuple #[.slice none 0 0,.nilIface])∧Sat w0 w' []) ∨
   (checkCode n arcs=0∧0<n∧n≤32∧ClqFull n.toNat (nbA n.toNat arcs)∧e=.returned (.tuple #[.slice none 0 0,errV 10])∧Sat w0 w' []) ∨
   (checkCode n arcs=0∧0<n∧n≤32∧∃ fv fs Cs,e=.returned (.tuple #[fv,.nilIface])∧LexS Cs∧CliqL n.toNat (nbA n.toNat arcs) Cs∧Cs.length≤4096∧Sat w0 w' [RowsAt tInt 3 fs Cs,OS tVal 22 fv fs]):=by
 have hla:=ha.big
 have hw:=Sat.start w0
 refine qab (args:=[.int .i64 n,a]) mixed Tryz.func57 rfl (by kernel_rfl) (Nat.le_of_ble_eq_true rfl) ?_
 repeat refine qaa ?_
 refine qad rfl (qiT ha) ?_
 rintro _ w' ⟨rfl,hk'⟩
 replace hw:=hw.call0 hk'
 clear hk'
 refine⟨_,rfl,?_⟩
 by_cases hc:checkCode n arcs=0
 rotate_left
 ·rw [qan hc]
  repeat refine qaa ?_
  exact qaq (v:=.slice none 0 0) (v':=.iface 74 (.int .i64 (checkCode n arcs))) rfl rfl rfl (.inl ⟨hc,rfl,hw⟩)
 rw [qat hc]
 obtain⟨hn0,hn1,hal,hok⟩:=qhG hc
 have hok2:∀ a∈arcs,arcOk (n.toNat:Int) a:=by rw [Int.toNat_of_nonneg hn0];exact hok
 repeat refine qaa ?_
 refine go_if (fun h1 => ?_) (fun h1 => ?_)
 ·repeat refine qaa ?_
  exact qaq (v:=.slice none 0 0) (v':=.iface 74 (.int .i64 5)) rfl rfl rfl (.inr (.inl ⟨hc,h1,by rw [qan (by decide)],hw⟩))
 repeat refine qaa ?_
 refine go_if (fun h2 => ?_) (fun h2 => ?_)
 ·repeat refine qaa ?_
  exact qaq (v:=.slice none 0 0) (v':=.nilIface) rfl rfl rfl (.inr (.inr (.inl ⟨hc,h2,rfl,hw⟩)))
 repeat refine qaa ?_
 refine qgE tU64 0 (n:=n) rfl rfl rfl rfl hn0 (by omega) (by omega) hw ?_
 clear hw
 intro nv w hw
 have onv:=(hw.rs 0 rfl).one
 refine qeX (v1:=nv) rfl rfl (by simp only [List.all_cons,List.all_nil,onv];rfl) ?_
 refine qa1 (vs:=[nv,.slice none 0 0]) rfl hw ?_
 clear hw
 intro pf w hw
 repeat refine qaa ?_
 have hw1:Sat w0 w [Box pf 155 [nv,.slice none 0 0],OS tU64 156 nv (nearK n.toNat arcs 0)]:=hw
 clear hw
 refine qaj [9,27,28,29,30,31,32,33,34,35,36,37,38,39,40,41,42,43,44,45,46,47,48,49,50,51,52,53,54,55,56,57,58,59,60,61,62] (G:=Nat) (fun k=>[(27,.int .i64 k)]) (fun k w=>k≤arcs.length∧Sat w0 w [Box pf 155 [nv,.slice none 0 0],OS tU64 156 nv (nearK n.toNat arcs k)]) (fun k=>arcs.length-k) 0 (fun _=>rfl) ⟨rfl,trivial⟩ ⟨Nat.zero_le _,hw1⟩ ?_
 clear hw1
 rintro σ k w ⟨hk,hw⟩
 repeat refine qaa ?_
 refine go_if (fun h3 => ?_) (fun h3 => ?_)
 ·have hkl:k<arcs.length:=by omega
  have hak:=hok _ (qah tArc.dflt hkl)
  unfold arcOk at hak
  have hNl:=qdn (n:=n.toNat) (arcs:=arcs) k (by omega)
  have hNb:∀ x,(nearK n.toNat arcs k).getD x tU64.dflt<18446744073709551616:=fun x=>by
   have h1:=qnC (n:=n.toNat) (x:=x) hok2 (show k≤arcs.length by omega)
   have h2:2 ^ n.toNat≤2 ^ 32:=Nat.pow_le_pow_right (by decide) (by omega)
   omega
  have hpw:∀ u:Nat,(u:Int)<n→1*2 ^ u % 18446744073709551616=2 ^ u∧2 ^ u<18446744073709551616:=fun u hu=>by
   have h2:2 ^ u<2 ^ 64:=Nat.pow_lt_pow_right (by decide) (by omega)
   exact⟨by rw [Nat.one_mul,Nat.mod_eq_of_lt h2],h2⟩
  repeat (first|refine qaC ?_|(refine qaf ?_;clear hw;intro p w hw)|(refine qag ?_;clear hw;intro w hw))
  by_cases he:(arcs.getD k tArc.dflt).src=(arcs.getD k tArc.dflt).dst
  ·have hd0:decide ((arcs.getD k tArc.dflt).src=(arcs.getD k tArc.dflt).dst)=true:=decide_eq_true he
   simp only [hd0,Bool.not_true]
   repeat refine qaa ?_
   have hst:stepN (nearK n.toNat arcs k) (arcs.getD k tArc.dflt)=(nearK n.toNat arcs k):=if_pos he
   rw [←qcy hkl] at hst
   rw [←hst] at hw
   exact⟨k+1,⟨rfl,trivial⟩,agr,⟨by omega,hw.tail⟩,by omega⟩
  have hd0:decide ((arcs.getD k tArc.dflt).src=(arcs.getD k tArc.dflt).dst)=false:=decide_eq_false he
  simp only [hd0,Bool.not_false]
  have hst:stepN (nearK n.toNat arcs k) (arcs.getD k tArc.dflt)=setN (setN (nearK n.toNat arcs k) (arcs.getD k tArc.dflt).src.toNat (arcs.getD k tArc.dflt).dst.toNat) (arcs.getD k tArc.dflt).dst.toNat (arcs.getD k tArc.dflt).src.toNat:=if_neg he
  rw [←qcy hkl] at hst
  obtain⟨e1,e2⟩:=hpw (arcs.getD k tArc.dflt).dst.toNat (by omega)
  obtain⟨e3,e4⟩:=hpw (arcs.getD k tArc.dflt).src.toNat (by omega)
  repeat refine qaa ?_
  refine qaD [.op 0,.op 1,.op 2,.op 3,.op 4,.op 5,.op 6,.op 7,.op 8,.op 9,.op 10,.op 11,.op 12,.op 13] hw (by kernel_rfl) ?_;clear hw;intro w hw
  repeat refine qaa ?_
  refine qai rfl (qcz (a:=1) (b:=(arcs.getD k tArc.dflt).dst.toNat) (k:=.i64) rfl (by rw [Int.toNat_of_nonneg hak.2.2.1];rfl) (by omega)) ?_
  rw [e1]
  repeat refine qaa ?_
  refine qai rfl (qdJ (a:=(nearK n.toNat arcs k).getD (arcs.getD k tArc.dflt).src.toNat tU64.dflt) (b:=2 ^ (arcs.getD k tArc.dflt).dst.toNat) rfl rfl (hNb _) e2) ?_
  repeat (first|refine qaa ?_|(refine qas ?_;clear hw;intro w hw))
  have hL1:=qjz (nearK n.toNat arcs k) (arcs.getD k tArc.dflt).src.toNat (arcs.getD k tArc.dflt).dst.toNat
  have hb1:∀ x,(setN (nearK n.toNat arcs k) (arcs.getD k tArc.dflt).src.toNat (arcs.getD k tArc.dflt).dst.toNat).getD x tU64.dflt<18446744073709551616:=fun x=>qbZ (n:=n.toNat) (by omega) fun v hv=>by
   rcases (qgA (by omega)).1 hv with h|⟨_,h⟩
   ·exact (AdjA.lt (arcs:=arcs.take k) (fun a ha=>hok2 a (List.mem_of_mem_take ha)) ((qdo hok2 k (by omega)).1 h)).2
   ·omega
  have hw:Sat w0 w [Box p 108 (tArc.enc (arcs.getD k tArc.dflt)),Box pf 155 [nv,.slice none 0 0],OS tU64 156 nv (setN (nearK n.toNat arcs k) (arcs.getD k tArc.dflt).src.toNat (arcs.getD k tArc.dflt).dst.toNat)]:=hw
  refine qaD [.op 0,.op 1,.op 2,.op 3,.op 4,.op 5,.op 6,.op 7,.op 8,.op 9,.op 10,.op 11,.op 12,.op 13] hw (by kernel_rfl) ?_;clear hw;intro w hw
  repeat refine qaa ?_
  refine qai rfl (qcz (a:=1) (b:=(arcs.getD k tArc.dflt).src.toNat) (k:=.i64) rfl (by rw [Int.toNat_of_nonneg hak.1];rfl) (by omega)) ?_
  rw [e3]
  repeat refine qaa ?_
  refine qai rfl (qdJ (a:=(setN (nearK n.toNat arcs k) (arcs.getD k tArc.dflt).src.toNat (arcs.getD k tArc.dflt).dst.toNat).getD (arcs.getD k tArc.dflt).dst.toNat tU64.dflt) (b:=2 ^ (arcs.getD k tArc.dflt).src.toNat) rfl rfl (hb1 _) e4) ?_
  repeat (first|refine qaa ?_|(refine qas ?_;clear hw;intro w hw))
  have hw:Sat w0 w [Box p 108 (tArc.enc (arcs.getD k tArc.dflt)),Box pf 155 [nv,.slice none 0 0],OS tU64 156 nv (setN (setN (nearK n.toNat arcs k) (arcs.getD k tArc.dflt).src.toNat (arcs.getD k tArc.dflt).dst.toNat) (arcs.getD k tArc.dflt).dst.toNat (arcs.getD k tArc.dflt).src.toNat)]:=hw
  rw [←hst] at hw
  exact⟨k+1,⟨rfl,trivial⟩,agr,⟨by omega,hw.tail⟩,by omega⟩
 have hke:k=arcs.length:=by omega
 subst hke
 have hG:Gr n.toNat (nbA n.toNat arcs):=qoK hok2
 have hNl:(nearA n.toNat arcs).length=n.toNat:=qdn _ (Nat.le_refl _)
 have hpn:2 ^ n.toNat<18446744073709551616:=by
  have h2:2 ^ n.toNat≤2 ^ 32:=Nat.pow_le_pow_right (by decide) (by omega)
  omega
 have hp1:1*2 ^ n.toNat % 18446744073709551616=2 ^ n.toNat:=by rw [Nat.one_mul,Nat.mod_eq_of_lt hpn]
 have hp0:1≤2 ^ n.toNat:=Nat.two_pow_pos _
 have hw1:Sat w0 w [OS tVal 22 (.slice none 0 0) [],RowsAt tInt 3 [] [],Box pf 155 [nv,.slice none 0 0],OS tU64 156 nv (nearA n.toNat arcs)]:=by
  have h1:=(hw.rows0 (T:=tInt) (e:=3)).nil (T:=tVal) (e:=22)
  exact h1
 clear hw
 have hw:=hw1
 clear hw1
 repeat refine qaa ?_
 refine qai rfl (qcz (a:=1) (b:=n.toNat) (k:=.i64) rfl (by rw [Int.toNat_of_nonneg hn0];rfl) (by omega)) ?_
 rw [hp1]
 refine qai rfl (qee (a:=2 ^ n.toNat) (b:=1) rfl rfl hp0 hpn) ?_
 have hF:=find_spec (w0:=w0) (pf:=pf) (nv:=nv) (near:=nearA n.toNat arcs) (by omega) (by rw [hNl];exact hG) hT (2 ^ n.toNat-1) 0 0 (w:=w) (fv:=.slice none 0 0) (fs:=[]) (Fs:=[]) (by rw [hNl];exact qpW) (Nat.zero_le _) hw
 refine qad rfl hF ?_
 clear hw hF
 rintro _ w ⟨r,M,fv,fs,rfl,hf,hw⟩
 rw [hNl] at hf hw
 replace hf:FindOk n.toNat (nbA n.toNat arcs) 0 (2 ^ n.toNat-1) 0 r M:=hf
 rw [List.nil_append] at hw
 have hmx:∀ C∈M,MaxC n.toNat (nbA n.toNat arcs) C:=fun C hC=>qgw.1 (hf.mem C hC)
 refine⟨_,rfl,?_⟩
 cases r
 ·repeat refine qaa ?_
  exact qaq (v:=.slice none 0 0) (v':=.iface 74 (.int .i64 10)) rfl rfl rfl (.inr (.inr (.inr (.inl ⟨hc,by omega,h1,⟨M,hf.nd,by have:=hf.gt rfl;omega,hmx⟩,by rw [qan (by decide)],hw.sel⟩))))
 have hml:=hf.le rfl
 have hM0:M≠[]:=fun e=>by
  obtain⟨C,hC,_⟩:=qjR hG _ 0 ⟨fun v hv=>absurd hv (qaF rfl v),fun u v hu=>absurd hu (qaF rfl u)⟩ (Nat.le_refl _)
  have:=hf.all rfl C (qgw.2 hC)
  rw [e] at this;simp at this
 have hM1:0<M.length:=List.length_pos_iff.2 hM0
 have hnd:=qfO hf.nd hmx
 have hlm:(M.map fun C=>bitsK C n.toNat).length=M.length:=List.length_map _
 repeat refine qaa ?_
 refine qad rfl (qkK (fv:=fv) (fs:=fs) (Fs:=M.map fun C=>bitsK C n.toNat) hw hnd (by omega) (by omega)) ?_
 clear hw
 rintro _ w ⟨rfl,is,hperm,hlex,hw⟩
 refine⟨_,rfl,?_⟩
 repeat refine qaa ?_
 refine qaq (v:=fv) (v':=.nilIface) rfl rfl rfl (.inr (.inr (.inr (.inr ⟨hc,by omega,h1,fv,is.map (vget fs),_,rfl,hlex,fun l => ?_,?_,hw.sel⟩))))
 ·rw [List.mem_map]
  constructor
  ·rintro⟨i,hi,rfl⟩
   have hi2:i<(M.map fun C=>bitsK C n.toNat).length:=List.mem_range.1 (hperm.mem_iff.1 hi)
   have:=qah [] hi2
   obtain⟨C,hC,e⟩:=List.mem_map.1 this
   exact⟨C,hmx C hC,e.symm⟩
  ·rintro⟨C,hC,rfl⟩
   have h5:bitsK C n.toNat∈M.map fun C=>bitsK C n.toNat:=List.mem_map.2 ⟨C,hf.all rfl C (qgw.2 hC),rfl⟩
   obtain⟨i,hi,e⟩:=List.getElem_of_mem h5
   refine⟨i,hperm.mem_iff.2 (List.mem_range.2 hi),?_⟩
   rw [qak hi,e]
 ·rw [List.length_map,hperm.length_eq,List.length_range];omega
end Go.Proofs.YtggdgcmjcahbbaaGreatDoor
/-
  Contract of 'patterns.Cliques'.
-/
namespace Go.Proofs.YtggdgcmjcahbbaaGreatDoor
open Go.Sl Go
attribute [local irreducible] vc opsW opsD opV opW PureV ReadV Thn Blk
set_option maxRecDepth 8000 in
set_option maxHeartbeats 8000000 in
theorem qfu {w0:World}{a b c d s:Value}{vs:List OpV}{t:TTask}{ss:List Value}{Ls:List (List Int)}(ht:RTask w0 a b c d vs t) (hl:RLs w0 s ss Ls) (hT:TabB w0) :
  Calls Tryz.prog 27 #[.agg #[a,b,c,d],s] w0 fun e w' =>
   (lErr t Ls≠0∧e=.returned (.tuple #[.slice none 0 0,errV (lErr t Ls)])∧Sat w0 w' []) ∨
   (lErr t Ls=0∧32<Ls.length∧e=.returned (.tuple #[.slice none 0 0,errV 5])∧Sat w0 w' []) ∨
   (lErr t Ls=0∧Ls.length=0∧e=.returned (.tuple #[.slice none 0 0,.nilIface])∧Sat w0 w' []) ∨
   (lErr t Ls=0∧0<Ls.length∧Ls.length≤32∧ClqFull Ls.length (nbA Ls.length (arcP t Ls Ls.length))∧e=.returned (.tuple #[.slice none 0 0,errV 10])∧Sat w0 w' []) ∨
   (lErr t Ls=0∧0<Ls.length∧Ls.length≤32∧∃ fv fs Cs,e=.returned (.tuple #[fv,.nilIface])∧LexS Cs∧CliqL Ls.length (nbA Ls.length (arcP t Ls Ls.length)) Cs∧Cs.length≤4096∧Sat w0 w' [RowsAt tInt 3 fs Cs,OS tVal 22 fv fs]):=by
 have hlr:=hl.rs
 have hln:=hl.len
 have hlb:=hlr.big
 have hw:=Sat.start w0
 refine qab (args:=[.agg #[a,b,c,d],s]) mixed Tryz.func27 rfl (by kernel_rfl) (Nat.le_of_ble_eq_true rfl) ?_
 repeat (first|refine qaa ?_|(refine qaf ?_;clear hw;intro p w hw))
 obtain⟨pt,hpt⟩:∃ pt,pt=p:=⟨p,rfl⟩
 subst hpt
 refine qad rfl (qkX (ht.at hw) (hl.at hw)) ?_
 rintro _ w' ⟨rfl,hk'⟩
 replace hw:=hw.call0 hk'
 clear hk'
 refine⟨_,rfl,?_⟩
 by_cases hk:lErr t Ls=0
 rotate_left
 ·rw [qan hk]
  repeat refine qaa ?_
  exact qaq (v:=.slice none 0 0) (v':=.iface 74 (.int .i64 (lErr t Ls))) rfl rfl rfl (.inl ⟨hk,rfl,hw.sel⟩)
 rw [qat hk]
 repeat refine qaa ?_
 refine go_if (fun h32 => ?_) (fun h32 => ?_)
 ·repeat refine qaa ?_
  exact qaq (v:=.slice none 0 0) (v':=.iface 74 (.int .i64 5)) rfl rfl rfl (.inr (.inl ⟨hk,by omega,by rw [qan (by decide)],hw.sel⟩))
 repeat refine qaa ?_
 refine go_if (fun h0 => ?_) (fun h0 => ?_)
 ·repeat refine qaa ?_
  exact qaq (v:=.slice none 0 0) (v':=.nilIface) rfl rfl rfl (.inr (.inr (.inl ⟨hk,by omega,rfl,hw.sel⟩)))
 have hn32:Ls.length≤32:=by omega
 have hn0:0<Ls.length:=by omega
 repeat refine qaa ?_
 have hw1:Sat w0 w' [OS tArc 108 (.slice none 0 0) (arcP t Ls 0),Box pt 26 [a,b,c,d]]:=hw.nil (T:=tArc) (e:=108)
 clear hw
 refine qao [7,8,9,10,26,27,28,29,30,31,32,33,34,35,36,37,38,39,40,41,42,43,44,45,46,47,48,49] (G:=Nat) (H:=Value) (fun i av=>[(26,.int .i64 i),(7,av)]) (fun i av w=>i≤Ls.length∧Sat w0 w [OS tArc 108 av (arcP t Ls i),Box pt 26 [a,b,c,d]]) (fun i _=>Ls.length-i) 0 (.slice none 0 0) (fun _ _=>rfl) ⟨rfl,rfl,trivial⟩ ⟨Nat.zero_le _,hw1⟩ ?_
 clear hw1
 rintro σ i av w ⟨hi,hw⟩
 repeat refine qaa ?_
 refine go_if (fun h1 => ?_) (fun h1 => ?_)
 ·have hil:i<Ls.length:=by omega
  have hpl:=qf9 (t:=t) (Ls:=Ls) i (by omega)
  repeat refine qaa ?_
  have hw1:Sat w0 w [OS tArc 108 av (arcP t Ls i++arcR t Ls i 0),Box pt 26 [a,b,c,d]]:=by rw [show arcR t Ls i 0=[] from rfl,List.append_nil];exact hw
  clear hw
  refine qao [7,10,32,33,34,35,36,37,38,39,40,41,42,43,44,45,46,47,48] (G:=Nat) (H:=Value) (fun k av=>[(32,.int .i64 k),(7,av)]) (fun k av w=>k≤i∧Sat w0 w [OS tArc 108 av (arcP t Ls i++arcR t Ls i k),Box pt 26 [a,b,c,d]]) (fun k _=>i-k) 0 av (fun _ _=>rfl) ⟨rfl,rfl,trivial⟩ ⟨Nat.zero_le _,hw1⟩ ?_
  clear hw1
  rintro σ1 k av1 w ⟨hk1,hw⟩
  repeat refine qaa ?_
  refine go_if (fun h2 => ?_) (fun h2 => ?_)
  ·have hki:k<i:=by omega
   have hrl:=qf8 (t:=t) (Ls:=Ls) (i:=i) k
   have hkl:k<Ls.length:=by omega
   repeat refine qaa ?_
   refine qaD [.op 0,.op 1,.op 2,.op 3,.op 4,.op 5,.op 6] hw (by kernel_rfl) ?_;clear hw;intro w hw
   repeat refine qaa ?_
   have hal:(arcP t Ls i++arcR t Ls i k).length≤4096:=by rw [List.length_append];omega
   refine qad rfl (qg3 (ht.at hw) ((hl.at_ i hil).at hw) ((hl.at_ k hkl).at hw)) ?_
   rintro _ w' ⟨⟨r,rfl,hr⟩,hk'⟩
   replace hw:=hw.call0 hk'
   clear hk'
   refine⟨_,rfl,?_⟩
   cases r
   ·repeat refine qaa ?_
    exact⟨k+1,av1,⟨rfl,rfl,trivial⟩,agr,⟨by omega,by rw [qf6 (fun h=>by have:=hr.2 h;cases this)];exact hw⟩,by omega⟩
   ·repeat refine qaa ?_
    refine qam tArc (x1:=⟨(k:Int),(i:Int),1⟩) rfl rfl rfl (Nat.le_of_ble_eq_true rfl) (Nat.zero_lt_succ _) hw ?_
    clear hw
    intro bs w hw
    refine qaY (s:=av1) (s2:=bs) inferInstance rfl rfl (rsO hw) rfl rfl (fun y hy v hv=>by
     rw [List.mem_singleton.1 hy] at hv
     simp only [tArc,List.mem_cons,List.not_mem_nil,or_false] at hv
     rcases hv with rfl|rfl|rfl <;> rfl) (by simp only [List.length_cons,List.length_nil];omega) (by unfold big;simp only [List.length_cons,List.length_nil];omega) hw ?_
    clear hw
    intro s' w hw
    repeat refine qaa ?_
    refine⟨k+1,s',⟨rfl,rfl,trivial⟩,agr,⟨by omega,?_⟩,by omega⟩
    rw [qib (hr.1 rfl),←List.append_assoc]
    exact hw.tail
  ·have hke:k=i:=by omega
   subst hke
   rw [qk4] at hw
   repeat refine qaa ?_
   exact⟨k+1,av1,⟨rfl,rfl,trivial⟩,agr,⟨by omega,hw⟩,by omega⟩
 ·have hie:i=Ls.length:=by omega
  subst hie
  have hck:=qj5 (t:=t) (Ls:=Ls) hn32
  repeat refine qaa ?_
  obtain⟨z,hz⟩:∃ z:Nat,z=Ls.length:=⟨_,rfl⟩
  rw [←hz] at hck hw
  refine qad rfl (qh1 (n:=(ss.length:Int)) (a:=av) (arcs:=arcP t Ls z) (rsO hw) (hT.at hw)) ?_
  rw [hln,←hz]
  rintro _ w' hR
  rw [Int.toNat_natCast] at hR
  rw [hz] at hR hck hw ⊢
  clear hz
  rcases hR with ⟨hc,_⟩|⟨_,h32,_⟩|⟨_,hz,_⟩|⟨_,h0,_,hF,rfl,hk'⟩|⟨_,h0,_,fv,fs,Cs,rfl,hlex,hcl,hcnt,hk'⟩
  ·exact absurd hck hc
  ·exfalso;omega
  ·exfalso;omega
  ·replace hw:=hw.call0 hk'
   clear hk'
   refine⟨_,rfl,?_⟩
   repeat refine qaa ?_
   exact qaq (v:=.slice none 0 0) (v':=errV 10) rfl rfl rfl (.inr (.inr (.inr (.inl ⟨hk,hn0,hn32,hF,rfl,hw.sel⟩))))
  ·replace hw:=hw.call2 hk'
   clear hk'
   refine⟨_,rfl,?_⟩
   repeat refine qaa ?_
   exact qaq (v:=fv) (v':=.nilIface) rfl rfl rfl (.inr (.inr (.inr (.inr ⟨hk,hn0,hn32,fv,fs,Cs,rfl,hlex,hcl,hcnt,hw.sel⟩))))
end Go.Proofs.YtggdgcmjcahbbaaGreatDoor
