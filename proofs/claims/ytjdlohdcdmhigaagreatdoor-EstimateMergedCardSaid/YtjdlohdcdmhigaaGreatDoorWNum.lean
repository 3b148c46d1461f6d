/-
  Contracts of shrink.numbered, FormatBool.
-/
import Derived.Test.YtjdlohdcdmhigaaGreatDoorWVal
import Derived.Test.YtjdlohdcdmhigaaGreatDoorMSlB
import Derived.Test.YtjdlohdcdmhigaaGreatDoorMTA
set_option linter.unusedSimpArgs false
set_option linter.unusedVariables false
namespace Go.Proofs.YtjdlohdcdmhigaaGreatDoor
open Go.Sl Go
attribute [local irreducible] vc opsW opsD opV opW PureV ReadV Thn Blk
instance inNumM:MapT Tryz.prog 272 9 3:=⟨by kernel_rfl⟩
instance inNumZ:ZeroV Tryz.prog 3 (.int .i64 0):=⟨by kernel_rfl⟩
def tStr:Ty ByteArray:=⟨1,fun b=>[.string b],fun _=>rfl,⟨#[]⟩⟩
def kvF:List ByteArray→Nat→List (ByteArray × Value)
 | [],_=>[]
 | s::u,i=>(s,.int .i64 i)::kvF u (i+1)
def fiS (u:List ByteArray) (s:ByteArray):Nat:=u.findIdx fun x=>decide (x=s)
theorem qkk (s:ByteArray):∀ (u:List ByteArray) (i:Nat),kvF (u++[s]) i=kvF u i++[(s,.int .i64 (i+u.length:Nat))]
 | [],i=>rfl
 | x::u,i=>by
  simp only [List.cons_append,kvF,qkk s u (i+1),List.length_cons]
  rw [show i+1+u.length=i+(u.length+1) from by omega]
theorem qht:∀ (u:List ByteArray) (i:Nat),(kvF u i).length=u.length
 | [],_=>rfl
 | _::u,i=>by simp only [kvF,List.length_cons,qht u]
theorem qfE {s:ByteArray}:∀ {u:List ByteArray}{i j:Nat},s∉u→mfind s (kvF u i) j=none
 | [],_,_,_=>rfl
 | x::u,i,j,h=>by
  simp only [kvF,mfind]
  rw [if_neg (fun e=>h (by rw [e];simp)),qfE (fun h2=>h (List.mem_cons_of_mem _ h2))]
theorem qip {s:ByteArray}:∀ {u:List ByteArray}{i j:Nat},s∈u→(mfind s (kvF u i) j).map (·.2)=some (.int .i64 (i+fiS u s:Nat))
 | [],_,_,h=>by simp at h
 | x::u,i,j,h=>by
  simp only [kvF,mfind,fiS,List.findIdx_cons]
  by_cases e:s=x
  ·rw [if_pos e,decide_eq_true e.symm];rfl
  ·rw [if_neg e,decide_eq_false (Ne.symm e)]
   rcases List.mem_cons.1 h with h|h
   ·exact absurd h e
   ·rw [qip (i:=i+1) h]
    simp only [cond_false,fiS]
    rw [show i+1+u.findIdx (fun x=>decide (x=s))=i+(u.findIdx (fun x=>decide (x=s))+1) from by omega]
def unqS (u:List ByteArray) (s:ByteArray):List ByteArray:=if u.any (fun x=>decide (x=s)) then u else u++[s]
theorem qmc {l:List ByteArray}{k:Nat}(hk:k<l.length):unqL (l.take (k+1))=unqS (unqL (l.take k)) (l.getD k tStr.dflt):=by
 unfold unqL
 rw [qaj tStr.dflt hk,List.foldl_append]
 rfl
theorem qiq:∀ (l u:List ByteArray),∃ r,l.foldl (fun u s=>if u.any (fun x=>decide (x=s)) then u else u++[s]) u=u++r
 | [],u=>⟨[],by simp⟩
 | s::l,u=>by
  rw [List.foldl_cons]
  obtain⟨r,hr⟩:=qiq l (if u.any (fun x=>decide (x=s)) then u else u++[s])
  rw [hr]
  split
  ·exact⟨r,rfl⟩
  ·exact⟨s::r,by simp⟩
theorem qkl (l:List ByteArray) (k:Nat):∃ r,unqL l=unqL (l.take k)++r:=by
 have h:=qiq (l.drop k) (unqL (l.take k))
 obtain⟨r,hr⟩:=h
 refine⟨r,?_⟩
 rw [←hr]
 unfold unqL
 rw [←List.foldl_append,List.take_append_drop]
theorem qkm {u r:List ByteArray}{s:ByteArray}(h:s∈u):fiS (u++r) s=fiS u s:=by
 unfold fiS
 rw [List.findIdx_append,if_pos]
 exact List.findIdx_lt_length_of_exists ⟨s,h,decide_eq_true rfl⟩
theorem qnG {u r:List ByteArray}{s:ByteArray}(h:s∉u):fiS (u++[s]++r) s=u.length:=by
 rw [qkm (by simp)]
 unfold fiS
 rw [List.findIdx_append,if_neg]
 ·simp
 ·intro hlt
  have:=List.findIdx_getElem (w:=hlt)
  have h2:=of_decide_eq_true this
  exact h (by rw [←h2];exact List.getElem_mem _)
theorem qnH (l:List ByteArray):∀ u:List ByteArray,(l.foldl (fun u s=>if u.any (fun x=>decide (x=s)) then u else u++[s]) u).length≤u.length+l.length:=by
 induction l with
 | nil=>intro u;simp
 | cons s l ih =>
  intro u
  rw [List.foldl_cons]
  refine Nat.le_trans (ih _) ?_
  split
  ·simp only [List.length_cons];omega
  ·simp only [List.length_append,List.length_cons,List.length_nil];omega
theorem qom (l:List ByteArray):(unqL l).length≤l.length:=by have:=qnH l [];simpa [unqL] using this
set_option maxRecDepth 8000 in
set_option maxHeartbeats 4000000 in
theorem qhf {w0:World}{v:Value}{L:List ByteArray}(hl:RS tStr w0 v L) (hn:L.length≤65536) :
  Calls Tryz.prog 151 #[v] w0 fun e w'=>∃ cv,e=.returned (.tuple #[cv,.int .i64 ((unqL L).length:Nat)])∧Sat w0 w' [OS tInt 3 cv (numT L)]:=by
 have hw:=Sat.start w0
 refine qaf (args:=[v]) mixed Tryz.func151 rfl (by kernel_rfl) (Nat.le_of_ble_eq_true rfl) ?_
 repeat (first|refine qac ?_|(refine qaa ?_;clear hw;intro p w hw)|(refine qad ?_;clear hw;intro w hw)|(refine qab ?_;clear hw;intro s w hw))
 refine qjs kStr hw ?_
 clear hw;intro m w hw
 repeat (first|refine qac ?_|(refine qaa ?_;clear hw;intro p w hw)|(refine qad ?_;clear hw;intro w hw)|(refine qab ?_;clear hw;intro s w hw))
 have hnum:numT L=L.map fun s=>(fiS (unqL L) s:Int):=rfl
 have hw:Sat w0 w [OS tInt 3 (.slice none 0 0) [],MapO kStr m (kvF (unqL (L.take 0)) 0)]:=by rw [List.take_zero,show kvF (unqL []) 0=[] from rfl];exact (hw.nil (T:=tInt) (e:=3)).sel
 refine qaq [5,7,8,9,13,14,15,16,17,18,19,20,21,22,23,24,25,26,27,28,29,30,31,32,33,34] (G:=Nat) (H:=Value) (fun k ov=>[(13,.int .i64 k),(5,ov)]) (fun k ov w=>k≤L.length∧Sat w0 w [OS tInt 3 ov ((L.take k).map fun s=>(fiS (unqL L) s:Int)),MapO kStr m (kvF (unqL (L.take k)) 0)]) (fun k _=>L.length-k) 0 (.slice none 0 0) (fun _ _=>rfl) ⟨rfl,rfl,trivial⟩ ⟨Nat.zero_le _,hw⟩ ?_
 clear hw
 rintro σ k ov w ⟨hk,hw⟩
 repeat (first|refine qac ?_|(refine qaa ?_;clear hw;intro p w hw)|(refine qad ?_;clear hw;intro w hw)|(refine qab ?_;clear hw;intro s w hw))
 refine go_if (fun h1 => ?_) (fun h1 => ?_)
 ·have hkl:k<L.length:=by omega
  have hts:=qmc hkl
  have hU:=qom (L.take k)
  rw [List.length_take] at hU
  obtain⟨u,hu⟩:∃ u,u=unqL (L.take k):=⟨_,rfl⟩
  obtain⟨sx,hs⟩:∃ q,q=L.getD k tStr.dflt:=⟨_,rfl⟩
  rw [←hu,←hs] at hts
  rw [←hu] at hw hU
  have hmk:((L.take k).map fun s=>(fiS (unqL L) s:Int)).length=k:=by rw [List.length_map,List.length_take];omega
  repeat (first|refine qac ?_|(refine qaa ?_;clear hw;intro p w hw)|(refine qad ?_;clear hw;intro w hw)|(refine qab ?_;clear hw;intro s w hw))
  rw [←hs]
  refine qaE rfl (qhD (m:=m) (κ:=kStr) (q:=sx) rfl rfl hw inferInstance) ?_
  by_cases hm:sx∈u
  ·have hg:mget (kvF u 0) sx=some (.int .i64 (fiS u sx:Nat)):=by
    have:=qip (i:=0) (j:=0) hm
    rw [Nat.zero_add] at this
    exact this
   rw [hg]
   repeat (first|refine qac ?_|(refine qaa ?_;clear hw;intro p w hw)|(refine qad ?_;clear hw;intro w hw)|(refine qab ?_;clear hw;intro s w hw))
   have hts2:unqL (L.take (k+1))=u:=by rw [hts];unfold unqS;rw [if_pos (qfz.2 hm)]
   obtain⟨r,hr⟩:=qkl L (k+1)
   have hfi:fiS (unqL L) sx=fiS u sx:=by rw [hr,hts2,qkm hm]
   refine⟨k+1,s,⟨rfl,rfl,trivial⟩,agr,⟨by omega,?_⟩,by omega⟩
   rw [hts2,qaj tStr.dflt hkl,List.map_append,←hs]
   simp only [List.map_cons,List.map_nil,hfi]
   exact hw.sel
  ·have hg:mget (kvF u 0) sx=none:=by unfold mget;rw [qfE hm];rfl
   rw [hg]
   have hts2:unqL (L.take (k+1))=u++[sx]:=by rw [hts];unfold unqS;rw [if_neg (fun h=>hm (qfz.1 h))]
   obtain⟨r,hr⟩:=qkl L (k+1)
   have hfi:fiS (unqL L) sx=u.length:=by rw [hr,hts2,qnG hm]
   have hkl2:=qht u 0
   repeat (first|refine qac ?_|(refine qaa ?_;clear hw;intro p w hw)|(refine qad ?_;clear hw;intro w hw)|(refine qab ?_;clear hw;intro s w hw))
   refine qaE rfl (qkT (m:=m) (κ:=kStr) rfl hw inferInstance) ?_
   rw [hkl2]
   repeat (first|refine qac ?_|(refine qaa ?_;clear hw;intro p w hw)|(refine qad ?_;clear hw;intro w hw)|(refine qab ?_;clear hw;intro s w hw))
   refine qgB (m:=m) (κ:=kStr) (q:=sx) (v:=.int .i64 (u.length:Nat)) rfl rfl rfl hw inferInstance ?_
   clear hw;intro w hw
   have hmp:mput (kvF u 0) sx (.int .i64 (u.length:Nat))=kvF (u++[sx]) 0:=by
    unfold mput
    rw [qfE hm,qkk,Nat.zero_add]
   rw [hmp] at hw
   repeat (first|refine qac ?_|(refine qaa ?_;clear hw;intro p w hw)|(refine qad ?_;clear hw;intro w hw)|(refine qab ?_;clear hw;intro s w hw))
   refine⟨k+1,s,⟨rfl,rfl,trivial⟩,agr,⟨by omega,?_⟩,by omega⟩
   rw [hts2,qaj tStr.dflt hkl,List.map_append,←hs]
   simp only [List.map_cons,List.map_nil,hfi]
   exact hw.sel
 rw [List.take_of_length_le (by omega),←hnum] at hw
 have hkl2:=qht (unqL L) 0
 repeat (first|refine qac ?_|(refine qaa ?_;clear hw;intro p w hw)|(refine qad ?_;clear hw;intro w hw)|(refine qab ?_;clear hw;intro s w hw))
 refine qaE rfl (qkT (m:=m) (κ:=kStr) rfl hw inferInstance) ?_
 rw [hkl2]
 repeat (first|refine qac ?_|(refine qaa ?_;clear hw;intro p w hw)|(refine qad ?_;clear hw;intro w hw)|(refine qab ?_;clear hw;intro s w hw))
 exact qay (v:=ov) (v':=.int .i64 ((unqL L).length:Nat)) rfl rfl rfl ⟨ov,rfl,hw.sel⟩
theorem qlG {w0:World}(b:Bool):Calls Tryz.prog 175 #[.bool b] w0 fun e w'=>e=.returned (.string (fmtB b))∧Sat w0 w' []:=by
 have hw:=Sat.start w0
 refine qaf (args:=[.bool b]) mixed Tryz.func175 rfl (by kernel_rfl) (Nat.le_of_ble_eq_true rfl) ?_
 cases b with
 | true =>
  repeat (first|refine qac ?_|(refine qaa ?_;clear hw;intro p w hw)|(refine qae ?_;clear hw;intro w hw)|(refine qab ?_;clear hw;intro s w hw))
  exact qai (v:=.string (fmtB true)) rfl rfl ⟨rfl,hw⟩
 | false =>
  repeat (first|refine qac ?_|(refine qaa ?_;clear hw;intro p w hw)|(refine qae ?_;clear hw;intro w hw)|(refine qab ?_;clear hw;intro s w hw))
  exact qai (v:=.string (fmtB false)) rfl rfl ⟨rfl,hw⟩
instance inNumF:CallT Tryz.prog 175:=⟨by kernel_rfl⟩
theorem qlH {w0:World}(b:Bool):Calls Tryz.prog 150 #[.bool b] w0 fun e w'=>e=.returned (.string (fmtB b))∧Sat w0 w' []:=by
 have hw:=Sat.start w0
 refine qaf (args:=[.bool b]) mixed Tryz.func150 rfl (by kernel_rfl) (Nat.le_of_ble_eq_true rfl) ?_
 repeat (first|refine qac ?_|(refine qaa ?_;clear hw;intro p w hw)|(refine qae ?_;clear hw;intro w hw)|(refine qab ?_;clear hw;intro s w hw))
 refine qah rfl (qlG b) ?_
 rintro _ w' ⟨rfl,hk'⟩;replace hw:=hw.call0 hk';clear hk';refine⟨_,rfl,?_⟩
 repeat (first|refine qac ?_|(refine qaa ?_;clear hw;intro p w hw)|(refine qae ?_;clear hw;intro w hw)|(refine qab ?_;clear hw;intro s w hw))
 exact qai (v:=.string (fmtB b)) rfl rfl ⟨rfl,hw⟩
end Go.Proofs.YtjdlohdcdmhigaaGreatDoor
