/-
  Contract of shrink.refine.
-/
import Derived.Test.YtjdlohdcdmhigaaGreatDoorWBld
import Derived.Test.YtjdlohdcdmhigaaGreatDoorWNum
import Derived.Test.YtjdlohdcdmhigaaGreatDoorWCptP
import Derived.Test.YtjdlohdcdmhigaaGreatDoorWMs5
import Derived.Lib.ItoaLen
set_option linter.unusedSimpArgs false
set_option linter.unusedVariables false
namespace Go.Proofs.YtjdlohdcdmhigaaGreatDoor
open Go.Sl Go
attribute [local irreducible] vc opsW opsD opV opW PureV ReadV Thn Blk
def rowsP (S:SysV) (c:List Int) (k:Nat):List (List (Int × Int)):=(grpL (fun e:Edg=>e.src) S.st.toNat (S.edges.take k)).map fun l=>l.map fun e=>(e.lab,c.getD e.dst.toNat tInt.dflt)
theorem qgF {S:SysV}{c:List Int}{k:Nat}:(rowsP S c k).length=S.st.toNat:=by unfold rowsP;rw [List.length_map,qbW]
theorem qmx {α β:Type}{f:List α→List β}(hf:f []=[]) {L:List (List α)}{i:Nat}:(L.map f).getD i []=f (L.getD i []):=by
 simp only [List.getD_eq_getElem?_getD,List.getElem?_map]
 cases L[i]? with
 | none=>exact hf.symm
 | some _=>rfl
theorem qdX {S:SysV}{c:List Int}{k i:Nat}:(rowsP S c k).getD i []=((grpL (fun e:Edg=>e.src) S.st.toNat (S.edges.take k)).getD i []).map fun e=>(e.lab,c.getD e.dst.toNat tInt.dflt):=by
 unfold rowsP;exact qmx rfl
theorem qjw {S:SysV}{c:List Int}:rowsP S c 0=List.replicate S.st.toNat []:=by
 unfold rowsP;rw [List.take_zero,qfO,List.map_replicate];rfl
theorem qjx {S:SysV}{c:List Int}{k:Nat}(hk:k<S.edges.length) (h0:0≤(S.edges.getD k tEdg.dflt).src) (h1:(S.edges.getD k tEdg.dflt).src<S.st.toNat) :
  rowsP S c (k+1)=(rowsP S c k).set (S.edges.getD k tEdg.dflt).src.toNat ((rowsP S c k).getD (S.edges.getD k tEdg.dflt).src.toNat []++[((S.edges.getD k tEdg.dflt).lab,c.getD (S.edges.getD k tEdg.dflt).dst.toNat tInt.dflt)]):=by
 rw [qdX]
 unfold rowsP
 rw [qfP (g:=fun e:Edg=>e.src) (dflt:=tEdg.dflt) hk h0 h1,List.map_set,List.map_append]
 rfl
theorem qiH {S:SysV}{c:List Int}{k i:Nat}:((rowsP S c k).getD i []).length≤S.edges.length:=by
 rw [qdX,List.length_map]
 exact Nat.le_trans qcz (by rw [List.length_take];omega)
theorem qk1 {S:SysV}{c:List Int}{i:Nat}(hi:i<S.st.toNat):(rowsP S c S.edges.length).getD i []=toL S c i:=by
 rw [qdX,qfN hi,List.take_length];rfl
theorem qc6 {n:Int}(h0:0≤n) (h1:n≤65536):(itoB n).length≤21:=Lib.itoa_length_le n (by omega) (by omega)
theorem qk2 {α:Type}{f:α→List UInt8}{m:Nat}:∀ {l:List α},(∀ a∈l,(f a).length≤m)→(l.flatMap f).length≤l.length*m
 | [],_=>by simp
 | a::l,h=>by
  have:=qk2 (f:=f) (m:=m) (l:=l) fun b hb=>h b (List.mem_cons_of_mem _ hb)
  have:=h a List.mem_cons_self
  rw [List.flatMap_cons,List.length_append,List.length_cons,Nat.add_mul,Nat.one_mul]
  omega
def refK (S:SysV) (c:List Int) (k:Nat):List ByteArray:=(List.range k).map fun s=>⟨(txtL S c s).toArray⟩
theorem qk3 (S:SysV) (c:List Int) (k:Nat):refK S c (k+1)=refK S c k++[⟨(txtL S c k).toArray⟩]:=by simp [refK,List.range_succ]
theorem qdY (S:SysV) (c:List Int) (k:Nat):(refK S c k).length=k:=by simp [refK]
theorem qmy (S:SysV) (c:List Int) {k n:Nat}(hk:k<n):(refK S c k++List.replicate (n-k) (⟨#[]⟩:ByteArray)).set k ⟨(txtL S c k).toArray⟩=refK S c (k+1)++List.replicate (n-(k+1)) ⟨#[]⟩:=by
 have hr:n-k=(n-(k+1))+1:=by omega
 rw [hr,List.replicate_succ,qk3,List.append_assoc,List.set_append_right _ _ (by rw [qdY];omega),qdY,Nat.sub_self]
 rfl
theorem qmz {ss:List Value}{k:Nat}(h:k<ss.length):ss.drop k=vget ss k::ss.drop (k+1):=by
 rw [List.drop_eq_getElem_cons h,qaR,getD_at h]
theorem qmA {α:Type}{L:List (List α)}{k:Nat}(h:k<L.length):L.drop k=L.getD k []::L.drop (k+1):=by
 rw [List.drop_eq_getElem_cons h,getD_at h]
set_option maxRecDepth 8000 in
set_option maxHeartbeats 16000000 in
theorem qlR {w0:World}{sc se sg cl:Value}{S:SysV}{c:List Int}(hS:RSys w0 sc se sg S) (hv:ValS S) (hT:TabI w0) (hc:RS tInt w0 cl c) (hcl:(c.length:Int)=S.st) (hcb:∀ i:Nat,i<c.length→0≤c.getD i tInt.dflt∧c.getD i tInt.dflt≤65536) :
  Calls Tryz.prog 152 #[sysV S sc se sg,cl] w0 fun e w'=>∃ v,e=.returned (.tuple #[v,.int .i64 ((unqL (refL S c)).length:Nat)])∧Sat w0 w' [OS tInt 3 v (numT (refL S c))]:=by
 have hsc:=hS.costs
 have hse:=hS.edges
 have hsg:=hS.goals
 have hw:=Sat.start w0
 obtain⟨a1,a2,a3,a4,a5,a6,a7,hco,hed,_⟩:=hv
 obtain⟨n,hn⟩:∃ n,n=S.st.toNat:=⟨_,rfl⟩
 have hnS:S.st=(n:Int):=by omega
 refine qaf (args:=[sysV S sc se sg,cl]) mixed Tryz.func152 rfl (by kernel_rfl) (Nat.le_of_ble_eq_true rfl) ?_
 unfold sysV
 rw [hnS]
 repeat (first|refine qac ?_|(refine qaa ?_;clear hw;intro p w hw)|(refine qad ?_;clear hw;intro w hw)|(refine qab ?_;clear hw;intro s w hw))
 have hw:=hw.rowsNil (T:=tPr) (e:=275) n
 obtain⟨ps,hps⟩:∃ q,q=p:=⟨p,rfl⟩
 subst hps
 obtain⟨tv,htv⟩:∃ q,q=s:=⟨s,rfl⟩
 subst htv
 have hw:Sat w0 w [RowsAt tPr 275 (List.replicate n (.slice none 0 0)) (List.replicate n []),OS tVal 274 tv (List.replicate n (.slice none 0 0)),Box ps 96 [.int .i64 n,.int .i64 S.ini,sc,se,sg]]:=hw
 rw [hn,←qjw (c:=c),←hn] at hw
 refine qaq [8,21,22,23,24,25,26,27,28,29,30,31,32,33,34,35,36,37,38,39,40,41,42,43,44] (G:=Nat) (H:=List Value) (fun k ss=>[(21,.int .i64 k)]) (fun k ss w=>k≤S.edges.length∧ss.length=n∧Sat w0 w [RowsAt tPr 275 ss (rowsP S c k),OS tVal 274 tv ss,Box ps 96 [.int .i64 n,.int .i64 S.ini,sc,se,sg]]) (fun k ss=>S.edges.length-k) 0 (List.replicate n (.slice none 0 0)) (fun _ _=>rfl) ⟨rfl,trivial⟩ ⟨Nat.zero_le _,by simp,hw⟩ ?_
 ·clear hw
  rintro σ k ss w ⟨hk,hss,hw⟩
  repeat (first|refine qac ?_|(refine qaa ?_;clear hw;intro p w hw)|(refine qad ?_;clear hw;intro w hw)|(refine qab ?_;clear hw;intro s w hw))
  refine go_if (fun h2 => ?_) (fun h2 => ?_)
  ·have hkl:k<S.edges.length:=by omega
   obtain⟨a,ha⟩:∃ a,a=S.edges.getD k tEdg.dflt:=⟨_,rfl⟩
   have hm:=hed _ (qal tEdg.dflt hkl)
   have hgs:=qjx (c:=c) hkl hm.1.1 (by omega)
   rw [←ha] at hm hgs
   obtain⟨⟨m1,m2⟩,⟨m3,m4⟩,m5,m6⟩:=hm
   have hgl:=qgF (S:=S) (c:=c) (k:=k)
   have hrl:=qiH (S:=S) (c:=c) (k:=k) (i:=a.src.toNat)
   repeat (first|refine qac ?_|(refine qaa ?_;clear hw;intro p w hw)|(refine qad ?_;clear hw;intro w hw)|(refine qab ?_;clear hw;intro s w hw))
   have hw:Sat w0 w [Box p 196 [.int .i64 a.src,.int .i64 a.lab,.int .i64 a.dst],RowsAt tPr 275 ss (rowsP S c k),OS tVal 274 tv ss,Box ps 96 [.int .i64 n,.int .i64 S.ini,sc,se,sg]]:=by rw [ha];exact hw
   have hi:a.src.toNat<(rowsP S c k).length:=by omega
   replace hw:=hw.swap.rowOut hi
   refine qax [.op 0,.op 1,.op 2,.op 3,.op 4,.op 5,.op 6,.op 7,.op 8,.op 9,.op 10,.op 11,.op 12,.op 13,.op 14,.op 15,.chk 2,.chk 5,.chk 7,.op 16,.chk 2,.chk 5,.chk 7,.op 17,.chk 2,.op 18,.op 19] hw (by kernel_rfl) ?_;clear hw;intro w hw
   repeat (first|refine qac ?_|(refine qaa ?_;clear hw;intro p w hw)|(refine qae ?_;clear hw;intro w hw)|(refine qcq ?_;clear hw;intro s w hw))
   refine qgX rfl rfl ?_
   repeat (first|refine qac ?_|(refine qaa ?_;clear hw;intro p w hw)|(refine qae ?_;clear hw;intro w hw)|(refine qcq ?_;clear hw;intro s w hw))
   refine qam tPr (x1:=(a.lab,c.getD a.dst.toNat tInt.dflt)) rfl rfl rfl (Nat.le_of_ble_eq_true rfl) (Nat.zero_lt_succ _) hw ?_
   clear hw;intro s2 w hw
   repeat (first|refine qac ?_|(refine qaa ?_;clear hw;intro p w hw)|(refine qad ?_;clear hw;intro w hw)|(refine qab ?_;clear hw;intro s w hw))
   replace hw:=Sat.rowIn hi (by omega) hw.tail
   replace hw:=hw.swap.tail
   rw [←hgs] at hw
   exact⟨k+1,ss.set a.src.toNat s,⟨rfl,trivial⟩,agr,⟨by omega,by rw [List.length_set];exact hss,hw⟩,by omega⟩
  have hke:k=S.edges.length:=by omega
  rw [hke] at hw
  repeat (first|refine qac ?_|(refine qaa ?_;clear hw;intro p w hw)|(refine qad ?_;clear hw;intro w hw)|(refine qab ?_;clear hw;intro s w hw))
  refine qeu tStr ⟨#[]⟩ rfl rfl rfl rfl (by omega) (by omega) (by omega) hw ?_
  clear hw;intro xv w hw
  repeat (first|refine qac ?_|(refine qaa ?_;clear hw;intro p w hw)|(refine qad ?_;clear hw;intro w hw)|(refine qab ?_;clear hw;intro s w hw))
  rw [show ((n:Int)).toNat=n from by omega] at hw
  obtain⟨Rw,hRw⟩:∃ q,q=rowsP S c S.edges.length:=⟨_,rfl⟩
  have hRl:Rw.length=n:=by rw [hRw,hn];exact qgF
  have hRg:∀ i,i<n→Rw.getD i []=toL S c i:=fun i hi=>by rw [hRw];exact qk1 (by omega)
  have hRb:∀ i:Nat,(Rw.getD i []).length≤65536:=fun i=>by rw [hRw];exact Nat.le_trans qiH (by omega)
  have hRe:∀ i:Nat,∀ x∈Rw.getD i [],(0≤x.1∧x.1≤65536)∧0≤x.2∧x.2≤65536:=fun i x hx=>by
   rw [hRw,qdX] at hx
   obtain⟨e,he,rfl⟩:=List.mem_map.1 hx
   have hem:e∈S.edges:=by
    by_cases hi:i<S.st.toNat
    ·exact List.mem_of_mem_take ((qem (g:=fun e:Edg=>e.src) hi).1 he).1
    ·rw [List.getD_eq_getElem?_getD,List.getElem?_eq_none (by rw [qbW];omega)] at he;simp at he
   obtain⟨_,⟨q1,q2⟩,q3,q4⟩:=hed e hem
   have:=hcb e.dst.toNat (by omega)
   exact⟨⟨q3,by omega⟩,this⟩
  have hw:Sat w0 w [RowsAt tPr 275 (ss.drop 0) (Rw.drop 0),OS tVal 274 tv ss,OS tStr 9 xv (refK S c 0++List.replicate (n-0) ⟨#[]⟩)]:=by
   rw [hRw,List.drop_zero,List.drop_zero,Nat.sub_zero,show refK S c 0=[] from rfl,List.nil_append];exact hw.sel
  clear hRw
  have hss:ss.length=n:=hss
  refine qak [10,11,12,14,50,51,52,53,54,55,56,57,58,59,60,61,62,63,64,65,66,67,68,69,70,71,72,73,74,75,76,77,78,79,80,81,82,83,84,85] (G:=Nat) (fun k=>[(50,.int .i64 k)]) (fun k w=>k≤n∧Sat w0 w [RowsAt tPr 275 (ss.drop k) (Rw.drop k),OS tVal 274 tv ss,OS tStr 9 xv (refK S c k++List.replicate (n-k) ⟨#[]⟩)]) (fun k=>n-k) 0 (fun _=>rfl) ⟨rfl,trivial⟩ ⟨Nat.zero_le _,hw⟩ ?_
  clear hw
  rintro σ k w ⟨hk,hw⟩
  have hxl:(refK S c k++List.replicate (n-k) (⟨#[]⟩:ByteArray)).length=n:=by rw [List.length_append,qdY,List.length_replicate];omega
  repeat (first|refine qac ?_|(refine qaa ?_;clear hw;intro p w hw)|(refine qad ?_;clear hw;intro w hw)|(refine qab ?_;clear hw;intro s w hw))
  refine go_if (fun h3 => ?_) (fun h3 => ?_)
  ·have hkl:k<n:=by omega
   rw [qmz (by omega),qmA (by omega)] at hw
   replace hw:=hw.rowFirst
   obtain⟨rw,hrw⟩:∃ q,q=vget ss k:=⟨_,rfl⟩
   obtain⟨Rk,hRk⟩:∃ q,q=Rw.getD k []:=⟨_,rfl⟩
   have hRkb:=hRb k
   have hRke:=hRe k
   have hRkg:=hRg k hkl
   rw [←hRk] at hRkb hRke hRkg
   rw [←hrw,←hRk] at hw
   repeat (first|refine qac ?_|(refine qaa ?_;clear hw;intro p w hw)|(refine qad ?_;clear hw;intro w hw)|(refine qab ?_;clear hw;intro s w hw))
   rw [←hrw]
   refine qah rfl (qlQ (s:=rw) (xs:=Rk) hw (by omega)) ?_
   rintro _ w' ⟨rfl,hw'⟩;clear hw;have hw:=hw';clear hw';refine⟨_,rfl,?_⟩
   have hsl:=qga swoP (l:=Rk)
   repeat (first|refine qac ?_|(refine qaa ?_;clear hw;intro p w hw)|(refine qad ?_;clear hw;intro w hw)|(refine qab ?_;clear hw;intro s w hw))
   obtain⟨pb,hpb⟩:∃ q,q=p:=⟨p,rfl⟩
   subst hpb
   obtain⟨ck,hck⟩:∃ q,q=c.getD k tInt.dflt:=⟨_,rfl⟩
   have hckb:=hcb k (by omega)
   rw [←hck] at hckb ⊢
   refine qah rfl (qeX (n:=ck) (hT.at hw) (by omega) (by omega)) ?_
   rintro _ w' ⟨rfl,hk'⟩;replace hw:=hw.call0 hk';clear hk';refine⟨_,rfl,?_⟩
   have hib:=qc6 hckb.1 hckb.2
   have hw:Sat w0 w' [Box pb 281 [.pointer none,.slice none 0 0],OS tU8 5 (.slice none 0 0) (bytesU []),OS tPr 275 rw (srtL cmpP Rk),RowsAt tPr 275 (ss.drop (k+1)) (Rw.drop (k+1)),OS tVal 274 tv ss,OS tStr 9 xv (refK S c k++List.replicate (n-k) ⟨#[]⟩)]:=by rw [show bytesU []=[] from rfl];exact (hw.nil (T:=tU8) (e:=5)).sel
   repeat (first|refine qac ?_|(refine qaa ?_;clear hw;intro p w hw)|(refine qad ?_;clear hw;intro w hw)|(refine qab ?_;clear hw;intro s w hw))
   refine qah rfl (qjf (l:=[]) (b:=itoS ck) hw (.inl rfl) (by decide) (by show (itoB ck).length≤_;omega)) ?_
   rintro _ w' ⟨⟨v,rfl⟩,sv,hw'⟩;clear hw;have hw:=hw';clear hw';refine⟨_,rfl,?_⟩
   rw [List.nil_append,show (itoS ck).data.toList=itoB ck from by simp [itoS]] at hw
   repeat (first|refine qac ?_|(refine qaa ?_;clear hw;intro p w hw)|(refine qad ?_;clear hw;intro w hw)|(refine qab ?_;clear hw;intro s w hw))
   have hw:Sat w0 w' [OS tPr 275 rw (srtL cmpP Rk),Box pb 281 [.pointer (some pb),sv],OS tU8 5 sv (bytesU (itoB ck)),RowsAt tPr 275 (ss.drop (k+1)) (Rw.drop (k+1)),OS tVal 274 tv ss,OS tStr 9 xv (refK S c k++List.replicate (n-k) ⟨#[]⟩)]:=hw.sel
   refine qah rfl (qlL (s:=rw) (xs:=srtL cmpP Rk) hw (by omega)) ?_
   rintro _ w' ⟨zv,rfl,hw'⟩;clear hw;have hw:=hw';clear hw';refine⟨_,rfl,?_⟩
   obtain⟨Z,hZ⟩:∃ q,q=cpt (srtL cmpP Rk):=⟨_,rfl⟩
   have hZl:Z.length≤65536:=by rw [hZ];exact Nat.le_trans (qnB _) (by omega)
   have hZe:∀ x∈Z,(0≤x.1∧x.1≤65536)∧0≤x.2∧x.2≤65536:=fun x hx=>by
    rw [hZ,qlB,qoi swoP] at hx
    exact hRke x hx
   have hZp:∀ x∈Z,(txtP x).length≤44:=fun x hx=>by
    obtain⟨⟨q1,q2⟩,q3,q4⟩:=hZe x hx
    have i1:=qc6 q1 q2
    have i2:=qc6 q3 q4
    unfold txtP
    simp only [List.length_append,List.length_cons]
    omega
   have htx:txtL S c k=itoB ck++Z.flatMap txtP:=by unfold txtL;rw [←hRkg,←hck,hZ]
   rw [←hZ] at hw
   repeat (first|refine qac ?_|(refine qaa ?_;clear hw;intro p w hw)|(refine qad ?_;clear hw;intro w hw)|(refine qab ?_;clear hw;intro s w hw))
   have hw:Sat w0 w' [Box pb 281 [.pointer (some pb),sv],OS tU8 5 sv (bytesU (itoB ck++(Z.take 0).flatMap txtP)),OS tPr 275 zv Z,RowsAt tPr 275 (ss.drop (k+1)) (Rw.drop (k+1)),OS tVal 274 tv ss,OS tStr 9 xv (refK S c k++List.replicate (n-k) ⟨#[]⟩)]:=by
    rw [List.take_zero,List.flatMap_nil,List.append_nil];exact hw.sel
   refine qaq [14,66,67,68,69,70,71,72,73,74,75,76,77,78,79,80] (G:=Nat) (H:=Value) (fun m sv=>[(66,.int .i64 m)]) (fun m sv w=>m≤Z.length∧Sat w0 w [Box pb 281 [.pointer (some pb),sv],OS tU8 5 sv (bytesU (itoB ck++(Z.take m).flatMap txtP)),OS tPr 275 zv Z,RowsAt tPr 275 (ss.drop (k+1)) (Rw.drop (k+1)),OS tVal 274 tv ss,OS tStr 9 xv (refK S c k++List.replicate (n-k) ⟨#[]⟩)]) (fun m _=>Z.length-m) 0 sv (fun _ _=>rfl) ⟨rfl,trivial⟩ ⟨Nat.zero_le _,hw⟩ ?_
   clear hw
   rintro σ m sv w ⟨hm,hw⟩
   have hTl:(itoB ck++(Z.take m).flatMap txtP).length≤10000000:=by
    have:=qk2 (f:=txtP) (m:=44) (l:=Z.take m) fun a ha=>hZp a (List.mem_of_mem_take ha)
    rw [List.length_take] at this
    rw [List.length_append]
    have h9:min m Z.length*44≤65536*44:=Nat.mul_le_mul (by omega) (Nat.le_refl _)
    omega
   repeat (first|refine qac ?_|(refine qaa ?_;clear hw;intro p w hw)|(refine qad ?_;clear hw;intro w hw)|(refine qab ?_;clear hw;intro s w hw))
   refine go_if (fun h4 => ?_) (fun h4 => ?_)
   ·have hml:m<Z.length:=by omega
    obtain⟨z,hz⟩:∃ q,q=Z.getD m tPr.dflt:=⟨_,rfl⟩
    have hze:=hZe _ (qal tPr.dflt hml)
    rw [←hz] at hze
    obtain⟨⟨q1,q2⟩,q3,q4⟩:=hze
    have i1:=qc6 q1 q2
    have i2:=qc6 q3 q4
    repeat (first|refine qac ?_|(refine qaa ?_;clear hw;intro p w hw)|(refine qad ?_;clear hw;intro w hw)|(refine qab ?_;clear hw;intro s w hw))
    have hw:Sat w0 w [Box p 275 [.int .i64 z.1,.int .i64 z.2],Box pb 281 [.pointer (some pb),sv],OS tU8 5 sv (bytesU (itoB ck++(Z.take m).flatMap txtP)),OS tPr 275 zv Z,RowsAt tPr 275 (ss.drop (k+1)) (Rw.drop (k+1)),OS tVal 274 tv ss,OS tStr 9 xv (refK S c k++List.replicate (n-k) ⟨#[]⟩)]:=by rw [hz];exact hw
    refine qax [.op 0,.op 1,.op 5,.op 6,.op 2,.chk 6,.op 3,.op 4,.op 7,.op 8,.op 9] hw (by kernel_rfl) ?_;clear hw;intro w hw
    refine qcL ?_
    refine qaw (v:=.pointer (some (p.add 0))) rfl (qa2 (n:=2) (j:=0) rfl rfl (by omega) (by omega)) ?_
    repeat (first|refine qac ?_|(refine qaa ?_;clear hw;intro p w hw)|(refine qad ?_;clear hw;intro w hw)|(refine qab ?_;clear hw;intro s w hw))
    refine qaw (v:=.pointer (some (p.add 1))) rfl (qa2 (n:=2) (j:=1) rfl rfl (by omega) (by omega)) ?_
    repeat (first|refine qac ?_|(refine qaa ?_;clear hw;intro p w hw)|(refine qad ?_;clear hw;intro w hw)|(refine qab ?_;clear hw;intro s w hw))
    refine qah rfl (qeX (n:=z.1) (hT.at hw) (by omega) (by omega)) ?_
    rintro _ w' ⟨rfl,hk'⟩;replace hw:=hw.call0 hk';clear hk';refine⟨_,rfl,?_⟩
    repeat (first|refine qac ?_|(refine qaa ?_;clear hw;intro p w hw)|(refine qad ?_;clear hw;intro w hw)|(refine qab ?_;clear hw;intro s w hw))
    have z1:(itoS z.1).size=(itoB z.1).length:=rfl
    have z2:(itoS z.2).size=(itoB z.2).length:=rfl
    refine qaw rfl (qeC (a:=⟨#[32]⟩) (b:=itoS z.1) rfl rfl (by show 1+(itoS z.1).size≤_;omega)) ?_
    obtain⟨A1,hA1⟩:∃ q,q=(⟨#[32]⟩:ByteArray)++itoS z.1:=⟨_,rfl⟩
    have zA1:A1.size≤22:=by rw [hA1,ByteArray.size_append];show 1+_≤_;omega
    rw [←hA1]
    repeat (first|refine qac ?_|(refine qaa ?_;clear hw;intro p w hw)|(refine qad ?_;clear hw;intro w hw)|(refine qab ?_;clear hw;intro s w hw))
    refine qaw rfl (qeC (a:=A1) (b:=⟨#[58]⟩) rfl rfl (by show _+1≤_;omega)) ?_
    obtain⟨A2,hA2⟩:∃ q,q=A1++(⟨#[58]⟩:ByteArray):=⟨_,rfl⟩
    have zA2:A2.size≤23:=by rw [hA2,ByteArray.size_append];show _+1≤_;omega
    rw [←hA2]
    repeat (first|refine qac ?_|(refine qaa ?_;clear hw;intro p w hw)|(refine qad ?_;clear hw;intro w hw)|(refine qab ?_;clear hw;intro s w hw))
    refine qah rfl (qeX (n:=z.2) (hT.at hw) (by omega) (by omega)) ?_
    rintro _ w' ⟨rfl,hk'⟩;replace hw:=hw.call0 hk';clear hk';refine⟨_,rfl,?_⟩
    repeat (first|refine qac ?_|(refine qaa ?_;clear hw;intro p w hw)|(refine qad ?_;clear hw;intro w hw)|(refine qab ?_;clear hw;intro s w hw))
    refine qaw rfl (qeC (a:=A2) (b:=itoS z.2) rfl rfl (by omega)) ?_
    obtain⟨A3,hA3⟩:∃ q,q=A2++itoS z.2:=⟨_,rfl⟩
    have zA3:A3.size≤44:=by rw [hA3,ByteArray.size_append];omega
    have hA:A3.data.toList=txtP z:=by
     rw [hA3,hA2,hA1]
     simp [txtP,itoS]
    rw [←hA3]
    repeat (first|refine qac ?_|(refine qaa ?_;clear hw;intro p w hw)|(refine qad ?_;clear hw;intro w hw)|(refine qab ?_;clear hw;intro s w hw))
    have hw:Sat w0 w' [Box pb 281 [.pointer (some pb),sv],OS tU8 5 sv (bytesU (itoB ck++(Z.take m).flatMap txtP)),OS tPr 275 zv Z,RowsAt tPr 275 (ss.drop (k+1)) (Rw.drop (k+1)),OS tVal 274 tv ss,OS tStr 9 xv (refK S c k++List.replicate (n-k) ⟨#[]⟩)]:=hw.sel
    refine qah rfl (qjf (b:=A3) hw (.inr rfl) (by omega) (by omega)) ?_
    rintro _ w' ⟨⟨v,rfl⟩,sv2,hw'⟩;clear hw;have hw:=hw';clear hw';refine⟨_,rfl,?_⟩
    repeat (first|refine qac ?_|(refine qaa ?_;clear hw;intro p w hw)|(refine qad ?_;clear hw;intro w hw)|(refine qab ?_;clear hw;intro s w hw))
    refine⟨m+1,sv2,⟨rfl,trivial⟩,agr,⟨by omega,?_⟩,by omega⟩
    rw [qaj tPr.dflt hml,List.flatMap_append,←hz,List.flatMap_cons,List.flatMap_nil,List.append_nil,←List.append_assoc,←hA]
    exact hw.sel
   rw [List.take_of_length_le (by omega),←htx] at hw
   have hne:txtL S c k≠[]:=by
    rw [htx]
    intro e
    exact (qdR hckb.1).2.1 (List.append_eq_nil_iff.1 e).1
   rw [List.take_of_length_le (by omega),←htx] at hTl
   repeat (first|refine qac ?_|(refine qaa ?_;clear hw;intro p w hw)|(refine qad ?_;clear hw;intro w hw)|(refine qab ?_;clear hw;intro s w hw))
   refine qah rfl (qlX (l:=txtL S c k) hw hne (by omega)) ?_
   rintro _ w' ⟨rfl,hw'⟩;clear hw;have hw:=hw';clear hw';refine⟨_,rfl,?_⟩
   repeat (first|refine qac ?_|(refine qaa ?_;clear hw;intro p w hw)|(refine qad ?_;clear hw;intro w hw)|(refine qab ?_;clear hw;intro s w hw))
   rw [qmy S c hkl] at hw
   exact⟨k+1,⟨rfl,trivial⟩,agr,⟨by omega,hw.sel⟩,by omega⟩
  have hkn:n=k:=by omega
  subst hkn
  have hfin:refK S c n=refL S c:=by rw [hn];rfl
  rw [Nat.sub_self,List.replicate_zero,List.append_nil,hfin] at hw
  have hrl:(refL S c).length≤65536:=by rw [←hfin,qdY];omega
  repeat (first|refine qac ?_|(refine qaa ?_;clear hw;intro p w hw)|(refine qad ?_;clear hw;intro w hw)|(refine qab ?_;clear hw;intro s w hw))
  refine qah rfl (qhf (L:=refL S c) (rsO (s:=xv) hw) hrl) ?_
  rintro _ w' ⟨v,rfl,hk'⟩;replace hw:=hw.call1 hk';clear hk';refine⟨_,rfl,?_⟩
  repeat (first|refine qac ?_|(refine qaa ?_;clear hw;intro p w hw)|(refine qad ?_;clear hw;intro w hw)|(refine qab ?_;clear hw;intro s w hw))
  exact qay (v:=v) (v':=.int .i64 ((unqL (refL S c)).length:Nat)) rfl rfl rfl ⟨v,rfl,hw.sel⟩
end Go.Proofs.YtjdlohdcdmhigaaGreatDoor
