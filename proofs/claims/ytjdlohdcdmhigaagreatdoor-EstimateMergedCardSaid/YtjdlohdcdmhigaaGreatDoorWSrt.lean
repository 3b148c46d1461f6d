/-
  The kit's contracts of 'slices.SortFunc' over edges and over pairs, and of 'slices.Delete' over Booleans.
-/
import Derived.Test.YtjdlohdcdmhigaaGreatDoorTypes
import Derived.Test.YtjdlohdcdmhigaaGreatDoorWMs4
import Derived.Test.YtjdlohdcdmhigaaGreatDoorMTA
import Derived.Test.YtjdlohdcdmhigaaGreatDoorMSlB
import Derived.Shelf.SlSortCmp.NoneTotal
import Derived.Shelf.SlicesE.Delete
set_option linter.unusedSimpArgs false
set_option linter.unusedVariables false
namespace Go.Proofs.YtjdlohdcdmhigaaGreatDoor
open Go.Sl Go Go.Shelf Go.Sort
attribute [local irreducible] vc opsW opsD opV opW PureV ReadV Thn Blk
def renE:Ren:=⟨fun k=>bif Nat.beq k 6 then 122 else bif Nat.beq k 14 then 155 else bif Nat.beq k 15 then 109 else bif Nat.beq k 20 then 184 else bif Nat.beq k 21 then 185 else bif Nat.beq k 22 then 186 else bif Nat.beq k 23 then 187 else bif Nat.beq k 24 then 188 else bif Nat.beq k 25 then 189 else bif Nat.beq k 26 then 190 else bif Nat.beq k 27 then 191 else bif Nat.beq k 28 then 141 else bif Nat.beq k 29 then 142 else bif Nat.beq k 46 then 202 else bif Nat.beq k 47 then 167 else bif Nat.beq k 48 then 168 else bif Nat.beq k 49 then 203 else bif Nat.beq k 50 then 204 else bif Nat.beq k 57 then 223 else 0,fun k=>bif Nat.beq k 0 then 0 else bif Nat.beq k 3 then 3 else bif Nat.beq k 4 then 4 else bif Nat.beq k 5 then 5 else bif Nat.beq k 9 then 9 else bif Nat.beq k 22 then 93 else bif Nat.beq k 24 then 196 else bif Nat.beq k 25 then 202 else bif Nat.beq k 39 then 186 else bif Nat.beq k 45 then 219 else bif Nat.beq k 46 then 220 else bif Nat.beq k 50 then 188 else bif Nat.beq k 53 then 227 else bif Nat.beq k 55 then 229 else bif Nat.beq k 66 then 264 else bif Nat.beq k 70 then 268 else bif Nat.beq k 76 then 300 else bif Nat.beq k 77 then 234 else 0,fun k=>k⟩
set_option maxRecDepth 100000 in
theorem layE:SlLaysF0.n6 Tryz.prog renE:={ mixed:=mixed,f6:=⟨Tryz.f122.name,by kernel_rfl,Tryz.func122.trans (by kernel_rfl)⟩,f14:=⟨Tryz.f155.name,by kernel_rfl,Tryz.func155.trans (by kernel_rfl)⟩,f15:=Tryz.func109.trans (by kernel_rfl),f20:=⟨Tryz.f184.name,by kernel_rfl,Tryz.func184.trans (by kernel_rfl)⟩,f21:=⟨Tryz.f185.name,by kernel_rfl,Tryz.func185.trans (by kernel_rfl)⟩,f22:=⟨Tryz.f186.name,by kernel_rfl,Tryz.func186.trans (by kernel_rfl)⟩,f23:=⟨Tryz.f187.name,by kernel_rfl,Tryz.func187.trans (by kernel_rfl)⟩,f24:=⟨Tryz.f188.name,by kernel_rfl,Tryz.func188.trans (by kernel_rfl)⟩,f25:=⟨Tryz.f189.name,by kernel_rfl,Tryz.func189.trans (by kernel_rfl)⟩,f26:=⟨Tryz.f190.name,by kernel_rfl,Tryz.func190.trans (by kernel_rfl)⟩,f27:=⟨Tryz.f191.name,by kernel_rfl,Tryz.func191.trans (by kernel_rfl)⟩,f28:=Tryz.func141.trans (by kernel_rfl),f29:=Tryz.func142.trans (by kernel_rfl),f46:=⟨Tryz.f202.name,by kernel_rfl,Tryz.func202.trans (by kernel_rfl)⟩,f47:=Tryz.func167.trans (by kernel_rfl),f48:=Tryz.func168.trans (by kernel_rfl),f49:=⟨Tryz.f203.name,by kernel_rfl,Tryz.func203.trans (by kernel_rfl)⟩,f50:=⟨Tryz.f204.name,by kernel_rfl,Tryz.func204.trans (by kernel_rfl)⟩,f57:=⟨Tryz.f223.name,by kernel_rfl,Tryz.func223.trans (by kernel_rfl)⟩,t0:=by kernel_rfl,a0:=fun w=>by kernel_rfl,z0:=fun w=>by kernel_rfl,v0:=fun w=>by kernel_rfl,t3:=by kernel_rfl,a3:=fun w=>by kernel_rfl,z3:=fun w=>by kernel_rfl,v3:=fun w=>by kernel_rfl,t4:=by kernel_rfl,a4:=fun w=>by kernel_rfl,z4:=fun w=>by kernel_rfl,v4:=fun w=>by kernel_rfl,t5:=by kernel_rfl,a5:=fun w=>by kernel_rfl,z5:=fun w=>by kernel_rfl,v5:=fun w=>by kernel_rfl,t9:=by kernel_rfl,a9:=fun w=>by kernel_rfl,z9:=fun w=>by kernel_rfl,v9:=fun w=>by kernel_rfl,t22:=by kernel_rfl,a22:=fun w=>by kernel_rfl,z22:=fun w=>by kernel_rfl,v22:=fun w=>by kernel_rfl,t25:=by kernel_rfl,a25:=fun w=>by kernel_rfl,z25:=fun w=>by kernel_rfl,v25:=fun w=>by kernel_rfl,t39:=by kernel_rfl,a39:=fun w=>by kernel_rfl,z39:=fun w=>by kernel_rfl,v39:=fun w=>by kernel_rfl,t45:=by kernel_rfl,a45:=fun w=>by kernel_rfl,z45:=fun w=>by kernel_rfl,v45:=fun w=>by kernel_rfl,t46:=by kernel_rfl,a46:=fun w=>by kernel_rfl,z46:=fun w=>by kernel_rfl,v46:=fun w=>by kernel_rfl,t50:=by kernel_rfl,a50:=fun w=>by kernel_rfl,z50:=fun w=>by kernel_rfl,v50:=fun w=>by kernel_rfl,t53:=by kernel_rfl,a53:=fun w=>by kernel_rfl,z53:=fun w=>by kernel_rfl,v53:=fun w=>by kernel_rfl,t55:=by kernel_rfl,a55:=fun w=>by kernel_rfl,z55:=fun w=>by kernel_rfl,v55:=fun w=>by kernel_rfl,t66:=by kernel_rfl,a66:=fun w=>by kernel_rfl,z66:=fun w=>by kernel_rfl,v66:=fun w=>by kernel_rfl,t70:=by kernel_rfl,a70:=fun w=>by kernel_rfl,z70:=fun w=>by kernel_rfl,v70:=fun w=>by kernel_rfl,t76:=by kernel_rfl,a76:=fun w=>by kernel_rfl,z76:=fun w=>by kernel_rfl,v76:=fun w=>by kernel_rfl,t77:=by kernel_rfl,a77:=fun w=>by kernel_rfl,z77:=fun w=>by kernel_rfl,v77:=fun w=>by kernel_rfl }
def renP:Ren:=⟨fun k=>bif Nat.beq k 6 then 176 else bif Nat.beq k 14 then 199 else bif Nat.beq k 15 then 109 else bif Nat.beq k 20 then 213 else bif Nat.beq k 21 then 214 else bif Nat.beq k 22 then 215 else bif Nat.beq k 23 then 216 else bif Nat.beq k 24 then 217 else bif Nat.beq k 25 then 218 else bif Nat.beq k 26 then 219 else bif Nat.beq k 27 then 220 else bif Nat.beq k 28 then 141 else bif Nat.beq k 29 then 142 else bif Nat.beq k 46 then 227 else bif Nat.beq k 47 then 167 else bif Nat.beq k 48 then 168 else bif Nat.beq k 49 then 228 else bif Nat.beq k 50 then 229 else bif Nat.beq k 57 then 235 else 0,fun k=>bif Nat.beq k 0 then 0 else bif Nat.beq k 3 then 3 else bif Nat.beq k 4 then 4 else bif Nat.beq k 5 then 5 else bif Nat.beq k 9 then 9 else bif Nat.beq k 22 then 274 else bif Nat.beq k 24 then 275 else bif Nat.beq k 25 then 277 else bif Nat.beq k 39 then 186 else bif Nat.beq k 45 then 219 else bif Nat.beq k 46 then 220 else bif Nat.beq k 50 then 188 else bif Nat.beq k 53 then 227 else bif Nat.beq k 55 then 229 else bif Nat.beq k 66 then 264 else bif Nat.beq k 70 then 268 else bif Nat.beq k 76 then 300 else bif Nat.beq k 77 then 234 else 0,fun k=>k⟩
set_option maxRecDepth 100000 in
theorem layP:SlLaysF0.n6 Tryz.prog renP:={ mixed:=mixed,f6:=⟨Tryz.f176.name,by kernel_rfl,Tryz.func176.trans (by kernel_rfl)⟩,f14:=⟨Tryz.f199.name,by kernel_rfl,Tryz.func199.trans (by kernel_rfl)⟩,f15:=Tryz.func109.trans (by kernel_rfl),f20:=⟨Tryz.f213.name,by kernel_rfl,Tryz.func213.trans (by kernel_rfl)⟩,f21:=⟨Tryz.f214.name,by kernel_rfl,Tryz.func214.trans (by kernel_rfl)⟩,f22:=⟨Tryz.f215.name,by kernel_rfl,Tryz.func215.trans (by kernel_rfl)⟩,f23:=⟨Tryz.f216.name,by kernel_rfl,Tryz.func216.trans (by kernel_rfl)⟩,f24:=⟨Tryz.f217.name,by kernel_rfl,Tryz.func217.trans (by kernel_rfl)⟩,f25:=⟨Tryz.f218.name,by kernel_rfl,Tryz.func218.trans (by kernel_rfl)⟩,f26:=⟨Tryz.f219.name,by kernel_rfl,Tryz.func219.trans (by kernel_rfl)⟩,f27:=⟨Tryz.f220.name,by kernel_rfl,Tryz.func220.trans (by kernel_rfl)⟩,f28:=Tryz.func141.trans (by kernel_rfl),f29:=Tryz.func142.trans (by kernel_rfl),f46:=⟨Tryz.f227.name,by kernel_rfl,Tryz.func227.trans (by kernel_rfl)⟩,f47:=Tryz.func167.trans (by kernel_rfl),f48:=Tryz.func168.trans (by kernel_rfl),f49:=⟨Tryz.f228.name,by kernel_rfl,Tryz.func228.trans (by kernel_rfl)⟩,f50:=⟨Tryz.f229.name,by kernel_rfl,Tryz.func229.trans (by kernel_rfl)⟩,f57:=⟨Tryz.f235.name,by kernel_rfl,Tryz.func235.trans (by kernel_rfl)⟩,t0:=by kernel_rfl,a0:=fun w=>by kernel_rfl,z0:=fun w=>by kernel_rfl,v0:=fun w=>by kernel_rfl,t3:=by kernel_rfl,a3:=fun w=>by kernel_rfl,z3:=fun w=>by kernel_rfl,v3:=fun w=>by kernel_rfl,t4:=by kernel_rfl,a4:=fun w=>by kernel_rfl,z4:=fun w=>by kernel_rfl,v4:=fun w=>by kernel_rfl,t5:=by kernel_rfl,a5:=fun w=>by kernel_rfl,z5:=fun w=>by kernel_rfl,v5:=fun w=>by kernel_rfl,t9:=by kernel_rfl,a9:=fun w=>by kernel_rfl,z9:=fun w=>by kernel_rfl,v9:=fun w=>by kernel_rfl,t22:=by kernel_rfl,a22:=fun w=>by kernel_rfl,z22:=fun w=>by kernel_rfl,v22:=fun w=>by kernel_rfl,t25:=by kernel_rfl,a25:=fun w=>by kernel_rfl,z25:=fun w=>by kernel_rfl,v25:=fun w=>by kernel_rfl,t39:=by kernel_rfl,a39:=fun w=>by kernel_rfl,z39:=fun w=>by kernel_rfl,v39:=fun w=>by kernel_rfl,t45:=by kernel_rfl,a45:=fun w=>by kernel_rfl,z45:=fun w=>by kernel_rfl,v45:=fun w=>by kernel_rfl,t46:=by kernel_rfl,a46:=fun w=>by kernel_rfl,z46:=fun w=>by kernel_rfl,v46:=fun w=>by kernel_rfl,t50:=by kernel_rfl,a50:=fun w=>by kernel_rfl,z50:=fun w=>by kernel_rfl,v50:=fun w=>by kernel_rfl,t53:=by kernel_rfl,a53:=fun w=>by kernel_rfl,z53:=fun w=>by kernel_rfl,v53:=fun w=>by kernel_rfl,t55:=by kernel_rfl,a55:=fun w=>by kernel_rfl,z55:=fun w=>by kernel_rfl,v55:=fun w=>by kernel_rfl,t66:=by kernel_rfl,a66:=fun w=>by kernel_rfl,z66:=fun w=>by kernel_rfl,v66:=fun w=>by kernel_rfl,t70:=by kernel_rfl,a70:=fun w=>by kernel_rfl,z70:=fun w=>by kernel_rfl,v70:=fun w=>by kernel_rfl,t76:=by kernel_rfl,a76:=fun w=>by kernel_rfl,z76:=fun w=>by kernel_rfl,v76:=fun w=>by kernel_rfl,t77:=by kernel_rfl,a77:=fun w=>by kernel_rfl,z77:=fun w=>by kernel_rfl,v77:=fun w=>by kernel_rfl }
def tPr:Ty (Int × Int):=⟨2,fun a=>[.int .i64 a.1,.int .i64 a.2],fun _=>rfl,(0,0)⟩
instance inWSrt0:OneT tPr:=⟨fun x v hv=>by simp only [tPr,List.mem_cons,List.not_mem_nil,or_false] at hv;rcases hv with rfl|rfl <;> rfl⟩
theorem srtK {ren:Ren}(L:SlLaysF0.n6 Tryz.prog ren) {α:Type} [Inhabited α] {T:Ty α} [O:OneT T] (hT:0<T.sz) (aE:∀ w,(isAgg (ren.t 24)).run Tryz.prog w=.ok true w) (zE:∀ w,(Go.sizeOf (ren.t 24)).run Tryz.prog w=.ok T.sz w) {cf:α→α→Int}(hO:SWO (ltOf cf)) {g:Nat} [CallT Tryz.prog g]
  (hcmp:∀ w x y,Calls Tryz.prog g #[.agg (T.enc x).toArray,.agg (T.enc y).toArray] w fun e w'=>e=.returned (.int .i64 (cf x y))∧∃ (q:Nat) (os:Array Obj),w'=Sort.grow (w.drewN q) os)
  {w0 w:World}{Γ:List HP}{e:TypeId}{s:Value}{xs:List α}(hw:Sat w0 w (OS T e s xs::Γ)) (hn:xs.length<4611686018427387904) :
  Calls Tryz.prog (ren.f 6) #[s,.func (.func g) #[] #[]] w fun e' w'=>e'=.returned (.tuple #[])∧Sat w0 w' (OS T e s (srtL cf xs)::Γ):=by
 rcases hw.rowK hT with ⟨rfl,rfl⟩|⟨b,off,cap,rfl,hc,hb,hH,hput⟩
 ·refine Calls.mono (AnyF.slices_SortFunc_none L none 0 _ w) ?_
  rintro e w' ⟨rfl,rfl⟩
  exact⟨rfl,by rw [qoj hO];exact hw⟩
 ·have hS:=AnyQ.slices_SortFunc_eq L T.sz aE zE T.enc T.ok (fun x v hv=>O.ok x v hv) cf hO g #[] b off cap xs.toArray w (fun args w=>CallT.run inferInstance args w)
   (by intro m os dk hs x y;exact hcmp _ x y) hH hb (by simpa using hn)
  have e0:xs.length=xs.toArray.size:=by simp
  rw [e0]
  refine hS.mono ?_
  rintro e' w' ⟨he,n,os,rfl⟩
  refine⟨he,?_⟩
  have h1:=hput (srtL cf xs) (qga hO) n os
  rw [←e0]
  exact h1
theorem aggE:(∀ w,(isAgg (renE.t 24)).run Tryz.prog w=.ok true w)∧∀ w,(Go.sizeOf (renE.t 24)).run Tryz.prog w=.ok 3 w:=by
 have h:AggT Tryz.prog 196 3:=inferInstance
 exact h.agg
theorem aggP:(∀ w,(isAgg (renP.t 24)).run Tryz.prog w=.ok true w)∧∀ w,(Go.sizeOf (renP.t 24)).run Tryz.prog w=.ok 2 w:=by
 have h:AggT Tryz.prog 275 2:=inferInstance
 exact h.agg
set_option maxRecDepth 100000 in
theorem qlO {w0 w:World}{Γ:List HP}{e:TypeId}{s:Value}{xs:List Edg}(hw:Sat w0 w (OS tEdg e s xs::Γ)) (hn:xs.length<4611686018427387904) :
  Calls Tryz.prog 122 #[s,.func (.func 123) #[] #[]] w fun e' w'=>e'=.returned (.tuple #[])∧Sat w0 w' (OS tEdg e s (srtL cmpE xs)::Γ):=by
 have h:=srtK (T:=tEdg) (g:=123) layE (Nat.zero_lt_succ _) aggE.1 aggE.2 swoE (fun w x y=>qhg x y) hw hn
 exact h
set_option maxRecDepth 100000 in
theorem qlP {w0 w:World}{Γ:List HP}{e:TypeId}{s:Value}{xs:List Edg}(hw:Sat w0 w (OS tEdg e s xs::Γ)) (hn:xs.length<4611686018427387904) :
  Calls Tryz.prog 122 #[s,.func (.func 182) #[] #[]] w fun e' w'=>e'=.returned (.tuple #[])∧Sat w0 w' (OS tEdg e s (srtL cmpE xs)::Γ):=by
 have h:=srtK (T:=tEdg) (g:=182) layE (Nat.zero_lt_succ _) aggE.1 aggE.2 swoE (fun w x y=>qlJ x y) hw hn
 exact h
set_option maxRecDepth 100000 in
theorem qlQ {w0 w:World}{Γ:List HP}{e:TypeId}{s:Value}{xs:List (Int × Int)}(hw:Sat w0 w (OS tPr e s xs::Γ)) (hn:xs.length<4611686018427387904) :
  Calls Tryz.prog 176 #[s,.func (.func 177) #[] #[]] w fun e' w'=>e'=.returned (.tuple #[])∧Sat w0 w' (OS tPr e s (srtL cmpP xs)::Γ):=by
 have h:=srtK (T:=tPr) (g:=177) layP (Nat.zero_lt_succ _) aggP.1 aggP.2 swoP (fun w x y=>qjZ x.1 x.2 y.1 y.2) hw hn
 exact h
def renD:Ren:=⟨fun k=>bif Nat.beq k 45 then 149 else 0,fun k=>bif Nat.beq k 0 then 0 else bif Nat.beq k 3 then 3 else bif Nat.beq k 4 then 4 else bif Nat.beq k 22 then 94 else bif Nat.beq k 23 then 4 else 0,fun k=>k⟩
set_option maxRecDepth 100000 in
theorem layD:SlLaysE.n45 Tryz.prog renD:={ mixed:=mixed,f45:=⟨Tryz.f149.name,by kernel_rfl,Tryz.func149.trans (by kernel_rfl)⟩,t0:=by kernel_rfl,a0:=fun w=>by kernel_rfl,z0:=fun w=>by kernel_rfl,v0:=fun w=>by kernel_rfl,t3:=by kernel_rfl,a3:=fun w=>by kernel_rfl,z3:=fun w=>by kernel_rfl,v3:=fun w=>by kernel_rfl,t4:=by kernel_rfl,a4:=fun w=>by kernel_rfl,z4:=fun w=>by kernel_rfl,v4:=fun w=>by kernel_rfl,t22:=by kernel_rfl,a22:=fun w=>by kernel_rfl,z22:=fun w=>by kernel_rfl,v22:=fun w=>by kernel_rfl,a23:=fun w=>by kernel_rfl,z23:=fun w=>by kernel_rfl }
theorem qgC (xs:List Bool):xs.flatMap tBool.enc=xs.map Value.bool:=by
 induction xs with
 | nil=>rfl
 | cons x xs ih=>rw [List.flatMap_cons,ih];rfl
set_option maxRecDepth 100000 in
theorem qm5 {w0 w:World}{Γ:List HP}{e:TypeId}{b off cap k:Nat}{xs:List Bool}(hw:Sat w0 w (OS tBool e (.slice (some ⟨b,off,none⟩) xs.length cap) xs::Γ)) (hcap:cap≤9223372036854775807) (hk:k<xs.length) :
  Calls Tryz.prog 149 #[.slice (some ⟨b,off,none⟩) xs.length cap,.int .i64 k,.int .i64 ((k:Int)+1)] w fun e' w'=>e'=.returned (.slice (some ⟨b,off,none⟩) (xs.eraseIdx k).length cap)∧Sat w0 w' (OS tBool e (.slice (some ⟨b,off,none⟩) (xs.eraseIdx k).length cap) (xs.eraseIdx k)::Γ):=by
 rw [show ((k:Int)+1)=((k+1:Nat):Int) from by omega]
 rcases hw.rowK (Nat.zero_lt_succ _) with ⟨h,_⟩|⟨b',off',cap',h,hc,hb,hH,hput⟩
 ·cases h
 cases h
 have hlE:(xs.eraseIdx k).length=xs.length-1:=List.length_eraseIdx_of_lt hk
 have hfl:Sort.flatK tBool.enc 1 xs.toArray=(xs.map Value.bool).toArray:=by rw [←qgC];exact qdQ tBool xs
 have hH2:Sort.Holds Value.bool w b off xs.toArray:=by
  intro j hj
  have hj2:j<xs.length:=by simpa using hj
  have:=hH j (by rw [show tBool.sz=1 from rfl,hfl];simpa using hj)
  rw [show tBool.sz=1 from rfl,hfl] at this
  simpa [hj2] using this
 obtain⟨i0,hi0,hz0,_⟩:=SliceT.info (show SliceT Tryz.prog 94 4 1 1 from inferInstance)
 have hD:=AnyE.slices_Delete layD Value.bool (fun _=>rfl) false (fun w=>by kernel_rfl) i0 hi0 hz0 b off cap k (k+1) xs.toArray w hH2 (by simpa using hc) hcap (Nat.le_succ _) (by simpa using Nat.succ_le_of_lt hk)
 have e0:xs.length=xs.toArray.size:=by simp
 rw [e0]
 refine hD.mono ?_
 rintro e' w' ⟨he,q,rfl⟩
 have e1:xs.toArray.size-(k+1-k)=(xs.eraseIdx k).length:=by rw [hlE];simp
 rw [e1] at he
 refine⟨he,?_⟩
 have h1:=hput (xs.eraseIdx k++[false]) (by simp [hlE];omega) q #[]
 have h2:=h1.sub own_here 0 (xs.eraseIdx k).length (Nat.zero_le _) (by simp)
 have e3:cut (xs.eraseIdx k++[false]) 0 (xs.eraseIdx k).length=xs.eraseIdx k:=by simp [cut]
 have e4:ssub (.slice (some ⟨b,off,none⟩) xs.length cap) tBool.sz 0 (xs.eraseIdx k).length=.slice (some ⟨b,off,none⟩) (xs.eraseIdx k).length cap:=by simp [ssub,qbw,tBool]
 rw [e3,e4] at h2
 have e5:(xs.toArray.toList.take k++xs.toArray.toList.drop (k+1)++List.replicate (k+1-k) false)=xs.eraseIdx k++[false]:=by
  rw [List.eraseIdx_eq_take_drop_succ];simp
 rw [e5]
 have e6:Sort.putRow Value.bool (Sort.ahead w q) b off (xs.eraseIdx k++[false]).toArray=Go.Proofs.sortWorldK tBool.enc tBool.sz w b off q (xs.eraseIdx k++[false]).toArray #[]:=by
  unfold Go.Proofs.sortWorldK Sort.putRowK
  rw [grow_empty,show tBool.sz=1 from rfl,show Sort.flatK tBool.enc 1 (xs.eraseIdx k++[false]).toArray=((xs.eraseIdx k++[false]).map Value.bool).toArray from by rw [←qgC];exact qdQ tBool _]
  exact qjg _ _ _ _ _
 rw [e6]
 exact h2
end Go.Proofs.YtjdlohdcdmhigaaGreatDoor
