/- Several texts. -/
import Derived.Test.YtmapkjoefdgjfaaGreatDoorMW2
import Derived.Shelf.Sort.Plain
import Derived.Shelf.Slices.In.SortNone
import Derived.Shelf.Slices.CompactI
set_option linter.unusedSimpArgs false
set_option linter.unusedVariables false
set_option maxRecDepth 8000
set_option maxHeartbeats 16000000
open List Nat
namespace Go.Proofs.YtmapkjoefdgjfaaGreatDoor
section
open Go.Sl Go Go.Shelf
def qyD:Ren:=⟨rl [125,98,128,132,129,133,189,77,215,158,216,129,257,97,294,123,295,124,296,125,297,126,298,127,299,128,300,130,301,131,328,153,329,154,330,155,331,156,332,157,343,178],rl [0,0,3,3,4,4,5,5,9,9,28,22,46,175,51,218,53,220,131,183,182,210,183,211,218,250,222,254,228,279,229,267],fun k=>k⟩
set_option maxRecDepth 100000 in
theorem qX:Lays.n189 Tryz.prog qyD:=by constructor<;>first|exact mixed|kernel_rfl|(intro w;kernel_rfl)
def qyE:Ren:=⟨rl [20,78],rl [0,0,3,3,4,4,22,22],fun k=>k⟩
set_option maxRecDepth 100000 in
theorem lU:Lays2.n20 Tryz.prog qyE:=by constructor<;>first|exact mixed|kernel_rfl|(intro w;kernel_rfl)
def dF (xs:List Int):List Int:=xs.mergeSort fun x y=>decide (x<=y)
theorem qdb (xs:List Int):(dF xs).length=xs.length:=length_mergeSort _
theorem qev {xs:List Int}{x:Int}:x∈dF xs↔x∈xs:=mem_mergeSort
theorem qiC (xs:List Int):(dF xs).Pairwise (·<=·):=by
 have:=pairwise_mergeSort (le:=fun x y:Int=>decide (x<=y)) (fun a b c h k=>by simp at h k ⊢;omega) (fun a b=>by simp;omega) xs;exact this.imp fun h=>by simpa using h
theorem qdk {w0 w:World}{Γ:List HP}{s:Value}{xs:List Int}(hw:Sat w0 w (OS aa 3 s xs::Γ)) (hn:xs.length<4611686018427387904) :
  Calls Tryz.prog 77 #[s] w fun e w'=>e=.returned (.tuple #[])/\Sat w0 w' (OS aa 3 s (dF xs)::Γ):=by
 rcases hw.tA with ⟨rfl,rfl⟩|⟨b,off,cap,rfl,hc,hb,hH,cO⟩
 ·refine Calls.mono (Any.slices_Sort_int_none qX none 0 w) ?_
  rintro e w' ⟨rfl,rfl⟩;exact⟨rfl,(by have e:dF []=[]:=eq_nil_of_length_eq_zero (qdb []);rw[e];exact hw)⟩
 ·refine Calls.mono (Any.slices_Sort_int qX b off cap xs w hH hb hn) ?_
  rintro e w' ⟨rfl,n,os,rfl⟩;exact⟨rfl,(cO (dF xs) (qdb xs) n).grow os⟩
def cA (xs:List Int):List Int:=Lib.compact xs
theorem qsD (xs:List Int):(cA xs).length<=xs.length:=by
 unfold cA Lib.compact Lib.compactUpTo;rw[length_map];exact Nat.le_trans (length_filter_le _ _) (by simp)
theorem qdl {w0 w:World}{Γ:List HP}{s:Value}{xs:List Int}(hw:Sat w0 w (OS aa 3 s xs::Γ)) (hn:xs.length<=9223372036854775807) :
  Calls Tryz.prog 78 #[s] w fun e w'=>∃ s',e=.returned s'/\Sat w0 w' (OS aa 3 s' (cA xs)::Γ):=by
 rcases hw.tA with ⟨rfl,rfl⟩|⟨b,off,cap,rfl,hc,hb,hH,cO⟩
 ·refine Calls.mono (Any.slices_Compact_int_empty lU none 0 w) ?_
  rintro e w' ⟨rfl,rfl⟩;exact⟨_,rfl,hw⟩
 ·refine Calls.mono (Any.slices_Compact_int lU b off cap xs w hH hn hc) ?_
  rintro e w' ⟨rfl,n,rfl⟩;have hle:=qsD xs;have h1:=cO (cA xs++replicate (xs.length-(cA xs).length) 0) (by simp;omega) n;refine⟨_,rfl,?_⟩;have hlen:(cA xs).length<=(cA xs++replicate (xs.length-(cA xs).length) 0).length:=by simp
  have h2:=h1.sub own_here 0 (cA xs).length (zero_le _) hlen;have e:cut (cA xs++replicate (xs.length-(cA xs).length) 0) 0 (cA xs).length=cA xs:=by simp[cut]
  have e2:ssub (.slice (some ⟨b,off,none⟩) xs.length cap) aa.sz 0 (cA xs).length=.slice (some ⟨b,off,none⟩) (cA xs).length cap:=by simp[ssub,w8,aa]
  rw[e,e2]at h2;exact h2
end
section
open Go.Sl Go
attribute [local irreducible] vc opsW opsD opV opW PureV ReadV Thn Blk
theorem qoE {w0:World}{a:Value}{xs:List Int}{v:Int}(ha:RS aa w0 a xs) :
  Calls Tryz.prog 122 #[a,.int .i64 v] w0 fun e w'=>(∃ r:Int,e=.returned (.int .i64 r)/\(0<=r↔v∈xs))/\Sat w0 w' []:=by
 have ir:=ha.bo;have hw:=Sat.start w0;refine bn (args:=[a,.int .i64 v]) mixed Tryz.func122 ?_;refine ab ?_;refine cd [4,5,8,18] (G:=Nat) (fun k=>[(8,.int .i64 k)]) (fun k w=>k<=xs.length/\(∀ i,i<k->xs.getD i aa.dflt≠v)/\Sat w0 w []) (fun k=>xs.length-k) 0 (fun _=>rfl) ⟨rfl,trivial⟩ ⟨zero_le _,fun i hi=>absurd hi (not_lt_zero _),hw⟩ ?_;clear hw;rintro σ k w ⟨hk,aN,hw⟩;refine ab ?_;refine ai ?_ ?_<;>intro h1
 ·have aK:k<xs.length:=by omega
  refine ab ?_;refine ai ?_ ?_<;>intro h2
  ·refine ab ?_
   refine aW (v:=.int .i64 k) rfl rfl ⟨⟨k,rfl,⟨fun _=>?_,fun _=>by omega⟩⟩,hw⟩;rw[h2];exact bY _ aK
  ·refine ab ?_
   refine⟨k+1,⟨rfl,trivial⟩,aH,⟨by omega,fun i hi=>?_,hw⟩,by omega⟩;by_cases h:i=k
   ·subst h;exact fun h=>h2 h.symm
   ·exact aN i om
 ·refine ab ?_
  refine aW (v:=.int .i64 (-1)) rfl rfl ⟨⟨-1,rfl,⟨fun h=>by omega,fun h=>?_⟩⟩,hw⟩;obtain⟨i,hi,he⟩:=mem_iff_getElem.1 h;exact absurd (by rw[getD_at hi];exact he) (aN i om)
theorem su {w0:World}{a:Value}{xs:List Int}{v:Int}(ha:RS aa w0 a xs) :
  Calls Tryz.prog 96 #[a,.int .i64 v] w0 fun e w'=>e=.returned (.bool (decide (v∈xs)))/\Sat w0 w' []:=by
 have hw:=Sat.start w0;refine bn (args:=[a,.int .i64 v]) mixed Tryz.func96 ?_;refine ab ?_;refine aJ rfl (qoE ha) ?_;rintro _ w' ⟨⟨r,rfl,hr⟩,aj⟩;refine aC ?_;clear aj hw;intro hw;refine ab ?_;refine aW (v:=.bool (decide (0<=r))) rfl rfl ⟨?_,hw⟩;rw[decide_eq_decide.2 hr]
theorem lx {w0:World}{a:Value}{xs:List Int}(ha:RS aa w0 a xs) (hn:xs.length<=1099511627776) :
  Calls Tryz.prog 47 #[a] w0 fun e w'=>∃ s,e=.returned s/\Sat w0 w' [OS aa 3 s xs]:=by
 have hw:=Sat.start w0;obtain⟨ad,cap,hs⟩:=ha.shape;subst hs;refine bn (args:=[.slice ad xs.length cap]) mixed Tryz.func47 ?_;refine ab ?_;refine eD rfl (qe1 (a:=ad) (n:=xs.length) (c:=cap) rfl) ?_
 cases ad with
 | none =>
  have h0:xs=[]:=by
   rcases eq_zero_or_pos xs.length with h|h
   ·exact eq_nil_of_length_eq_zero h
   ·obtain⟨p,c2,he,_⟩:=ha.some (by decide) h
    cases he
  subst h0;refine ab ?_
  exact aW (v:=.slice none 0 0) rfl rfl ⟨_,rfl,hw.nil⟩
 | some p =>
  refine ab ?_;refine xO aa hw ?_;clear hw;intro s1 w hw;refine kq ?_;intro s w hw;rw[nil_append]at hw;exact aW (v:=s) rfl rfl ⟨_,rfl,hw⟩
def mX (L:List Int) (k:Nat):List (Int × Int):=(List.range k).map fun (j:Nat)=>(((L.length:Int)-1-(j:Int)),L.getD (L.length-1-j) aa.dflt)
theorem qo8 (L:List Int) (k:Nat):mX L (k+1)=mX L k++[(((L.length:Int)-1-(k:Int)),L.getD (L.length-1-k) aa.dflt)]:=by simp[mX,range_succ]
def DH (pb:Addr) (a:Value) (L:List Int) (W W':World):Prop:=(W.cell? pb=some a->W'.cell? pb=some a)/\(RS aa W a L->RS aa W' a L)
def nY {Q:Int × Int->Prop}(x:{ p:Int × Int // Q p }):Array Value:=#[.int .i64 x.1.1,.int .i64 x.1.2]
theorem qhf {n:Nat}{w0:World}{pb:Addr}{a:Value}{L:List Int}{Q:Int × Int->Prop}(hQ:∀ i:Nat,i<L.length->Q ((i:Int),L.getD i aa.dflt)) (hc:w0.cell? pb=some a) (ha:RS aa w0 a L) :
  SeqStopsK (α:={ p:Int × Int // Q p }) Fence.wide n Tryz.prog 161 #[.pointer (some pb)] nY (DH pb a L) (fun xs=>xs.map (·.1)=mX L L.length) (fun _=>True) L.length w0:=by
 intro l J Jx W hb hJ hJx hY h0;refine(callsIn_wide (n:=n)).2 ?_;have lz:W.cell? pb=some a:=by
  have bD:pb.block<w0.heap.size:=by
   rcases Nat.lt_or_ge pb.block w0.heap.size with h|h
   ·exact h
   ·simp[World.cell?,Array.getElem?_eq_none h]at hc
  rw[hb.cell bD];exact hc
 have pE:RS aa W a L:=⟨ha.1.below hb,ha.2⟩
 have ir:=ha.bo;refine bn (args:=[.func (.yield l) #[] #[],.pointer (some pb)]) mixed Tryz.func161 ?_;refine ab ?_;refine sq rfl (sF rfl lz) ?_;refine ab ?_;refine dj [3,3,7,18] (G:=Nat) (H:=List { p:Int × Int // Q p }) (fun k _=>[(3,.int .i64 ((L.length:Int)-1-(k:Int)))]) (fun k pre w=>k<=L.length/\pre.map (·.1)=mX L k/\J pre w/\w.cell? pb=some a/\RS aa w a L) (fun k _=>L.length-k) 0 [] (fun _ _=>rfl) ⟨by have e0:((L.length:Int)-1-((0:Nat):Int))=(L.length:Int)-1:=om;rw[e0];rfl,trivial⟩ ⟨zero_le _,rfl,h0,lz,pE⟩ ?_;clear lz pE h0;rintro σ k pre w ⟨hk,aN,hj,lz,pE⟩;refine ab ?_;refine ai ?_ ?_<;>intro h1
 ·have aK:k<L.length:=by omega
  have iP:pre.length=k:=by have:=congrArg List.length aN;simpa [mX] using this
  have e1:((L.length:Int)-1-(k:Int)).toNat=L.length-1-k:=by omega
  have e2:((L.length-1-k:Nat):Int)=(L.length:Int)-1-(k:Int):=by omega
  have hx:=hQ (L.length-1-k) om;rw[e2]at hx;have hy:=hY pre ⟨_,hx⟩ w hj om;refine ab ?_;refine sq rfl (sF rfl lz) ?_;refine ab ?_;rw[e1];refine qmR (l:=l) rfl rfl hy ?_;rintro _ W' (⟨rfl,zS,j7,gW⟩|⟨rfl,hjx⟩)
  ·refine⟨_,rfl,?_⟩
   refine ab ?_;refine⟨k+1,pre++[⟨_,hx⟩],⟨?_,trivial⟩,aH,⟨by omega,?_,zS,j7 lz,gW pE⟩,by omega⟩
   ·show Value.int .i64 _=_
    congr 1;omega
   ·rw[map_append,aN,qo8];rfl
  ·refine⟨_,rfl,?_⟩
   refine ab ?_;exact qiw rfl ⟨⟨_,rfl⟩,.inr ⟨_,trivial,hjx⟩⟩
 ·have cH:k=L.length:=by omega
  subst cH;refine ab ?_;exact o7 rfl ⟨⟨_,rfl⟩,.inl ⟨pre,aN,hj⟩⟩
def nJ {Q:Int × Int->Prop}(x:{ p:Int × Int // Q p }):Int:=x.1.2
theorem qtD (L:List Int):(mX L L.length).map (·.2)=L.reverse:=by
 apply ext_getElem (by simp[mX]);intro i h1 h2;have h3:i<L.length:=by simpa using h2
 simp only[mX,map_map,getElem_map,getElem_range,Function.comp_apply,getElem_reverse];rw[getD_at om]
theorem qjt {w0:World}{a:Value} :
  Calls Tryz.prog 136 #[a] w0 fun e w'=>∃ pb,e=.returned (.func (.func 161) #[] #[.pointer (some pb)])/\Sat w0 w' [Ad pb 22 a.cells.toList]:=by
 have hw:=Sat.start w0;refine bn (args:=[a]) mixed Tryz.func136 ?_;refine db ?_;intro p w hw;exact aW (v:=.func (.func 161) #[] #[.pointer (some p)]) rfl rfl ⟨p,rfl,hw⟩
theorem qju {w0 w:World}{Γ:List HP}{a b c d va s:Value}{vs:List AK}{t:Aa}{L st:List Int}{n:Int}(ht:Am w0 a b c d vs t) (hL:RS aa w0 va L) (hw:Sat w0 w (OS aa 3 s st::Γ))
  (hp:∀ x∈t.vars,1<=x) (hv:∀ v∈L,0<=v/\v<t.vars.length) (cu:st.length=t.vars.length) (hn:0<=n) (xw:n<=1099511627776) :
  Calls Tryz.prog 104 #[.agg #[a,b,c,d],va,s,.int .i64 n] w fun e w'=>e=.returned (.tuple #[])/\Sat w0 w' (OS aa 3 s (fm t.vars L st n)::Γ):=by
 obtain⟨ha,hb,hc,hd⟩:=ht;have ir:=ha.bo;have hlL:=hL.bo;have hsc:s.cells.toList=[s]:=(hw.rs 0 rfl).dc;have hvc:va.cells.toList=[va]:=hL.dc;refine(callsIn_wide (n:=3)).1 (callsIn_of_wp_marks (F:=Fence.wide) (n:=3) Tryz.func104 rfl trivial ?_);refine qdw (ro:=none) (n:=31) mixed kr (by simp only[Array.size_append,Array.size_replicate];rfl) rfl ?_;rw[show (#[.agg #[a,b,c,d],va,s,.int .i64 n]:Array Value)=[.agg #[a,b,c,d],va,s,.int .i64 n].toArray from rfl,qp2];refine qu ?_;refine wz ?_;clear hw;intro pt w hw;refine wz ?_;clear hw;intro ps w hw;refine wz ?_;clear hw;intro pn w hw;refine zL ?_;refine zK ?_;intro a1 jy ee y9;refine qdw (ro:=none) (n:=31) mixed kr jy ee ?_;rw[y9];refine ab ?_;refine aJ rfl (qjt (a:=va)) ?_;rintro _ w' ⟨pb,rfl,aj⟩;replace hw:=hw.jC aj;clear aj;rw[hvc,hsc]at hw;refine⟨_,rfl,?_⟩;refine ab ?_;intro a2 dW jI hf2;clear y9 ee jy;refine wpIn_block ?_;have oM:a2.defers=[]:=jI;obtain⟨W0,hW0⟩:∃ W0,W0=w':=⟨_,rfl⟩
 subst hW0;have hB:w0.heap.size<=W0.heap.size:=hw.below.size;have mY:W0.cell? pb=some va:=zV (i:=0) hw rfl rfl;have e9:∀ x:{ p:Int × Int // 0<=p.2/\p.2<t.vars.length },fr (({ tmps:=(#[12,13].zip (nY x)).foldl (fun t (p,v)=>t.setIfInBounds p v) a2.tmps,defers:=[] }:Act).put (some 9) (.int .i64 x.1.2))=dD (dD (dD (fr a2) 12 (.int .i64 x.1.1)) 13 (.int .i64 x.1.2)) 9 (.int .i64 x.1.2):=fun x=>by
  rw[te (fun t e=>by cases e;rw[show (#[12,13].zip (nY x))=#[12,13].zip #[.int .i64 x.1.1,.int .i64 x.1.2] from rfl,qiJ,dW];decide)];rw[show (#[12,13].zip (nY x))=#[12,13].zip #[.int .i64 x.1.1,.int .i64 x.1.2] from rfl,qt1 om om];have:(⟨a2.tmps,[]⟩:Act)=a2:=by rw[<-oM]
  rw[this];rfl
 refine wpIn_rangeFunc_ownF (F:=Fence.wide) (n:=3) (α:={ p:Int × Int // 0<=p.2/\p.2<t.vars.length }) rfl (by decide) (gf:=161) (lb:=#[.pointer (some pb)]) (by rw[<-nu,hf2];rfl) trivial (fun args w=>Ae.run inferInstance args w)
  (qhf (n:=2) (Q:=fun p=>0<=p.2/\p.2<t.vars.length) (fun i hi=>hv _ (bY aa.dflt hi)) mY (hL.at hw))
  (fun h k=>⟨fun e=>k.1 (h.1 e),fun e=>k.2 (h.2 e)⟩) (fun W l o o' _ hl ho _=>⟨qdY hl ho,qj3 hl ho⟩) (Go.RowKit.Below.refl _ _) (fun _=>rfl)
  (fun pre W=>W0.heap.size<=W.heap.size/\BL W0.heap.size w0 W (Ad pb 22 [va]::Ad pn 3 [.int .i64 (iW t.vars (pre.map nJ) st n).2]::Ad ps 22 [s]::Ad pt 26 [a,b,c,d]::OS aa 3 s (iW t.vars (pre.map nJ) st n).1::Γ))
  (fun _ _ _=>False) (BL.own (Γ:=fun pre=>_) hB) (fun _=>fun _ _ _ _ h=>h.elim) ⟨Nat.le_refl _,hw.toC⟩
  (fun x=>({ tmps:=(#[12,13].zip (nY x)).foldl (fun t (p,v)=>t.setIfInBounds p v) a2.tmps,defers:=[] }:Act).put (some 9) (.int .i64 x.1.2)) ?assign ?body ?done ?stop
 case assign =>
  intro l x W K hK;refine qfp (ro:=some l) mixed ?_ rfl ?_
  ·rw[show (#[12,13].zip (nY x))=#[12,13].zip #[.int .i64 x.1.1,.int .i64 x.1.2] from rfl,qiJ,dW];decide
  ·rw[show (#[12,13].zip (nY x))=#[12,13].zip #[.int .i64 x.1.1,.int .i64 x.1.2] from rfl,qt1 om om]
   exact hK
 case body =>
  rintro l pre x W ⟨eM,hC⟩ _;obtain⟨⟨xi,xv⟩,mC,hx1⟩:=x;simp only at mC hx1;have qz8:=hp _ (bY aa.dflt (show xv.toNat<t.vars.length by omega));have l6:=qmM t.vars (pre.map nJ) st n;have uT:=qu1 (s:=st) (vs:=pre.map nJ) hp hn fun v hv=>by
   obtain⟨y,_,rfl⟩:=mem_map.1 hv;exact y.2
  have ik:=qes t.vars (pre.map nJ) st n xv;obtain⟨S,hS⟩:∃ S,S=iW t.vars (pre.map nJ) st n:=⟨_,rfl⟩
  rw[<-hS]at hC l6 uT ik;obtain⟨S1,S2⟩:=S;simp only at hC l6 uT ik;refine wpIn_mono (tm (ro:=some l) (n:=31) mixed _ kr (fun e ρ W'=>e=.normal/\Kept W W'/\BL W0.heap.size w0 W' (Ad pb 22 [va]::Ad pn 3 [.int .i64 (pW t.vars (S1,S2) xv).2]::Ad ps 22 [s]::Ad pt 26 [a,b,c,d]::OS aa 3 s (pW t.vars (S1,S2) xv).1::Γ)) _ _ ?_ rfl ?_) ?_
  ·rw[size_put,show (#[12,13].zip (nY _))=#[12,13].zip #[.int .i64 xi,.int .i64 xv] from rfl,qiJ,dW]
  ·rw[e9,hf2]
   show vc _ _ _ (dD (dD (dD _ 12 (.int .i64 xi)) 13 (.int .i64 xv)) 9 (.int .i64 xv)) _;clear hw;have hw:=hC.open hB;refine zM ?_;refine rU ?_;refine qmS hw (by decide +kernel) ?_;clear hw;intro w1 j7 hw;refine ab ?_;refine qte (T:=aa) (s:=s) (j:=xv.toNat) (v:=.int .i64 (S2.tmod (t.vars.getD xv.toNat aa.dflt))) (x':=S2.tmod (t.vars.getD xv.toNat aa.dflt)) rfl rfl rfl hw inferInstance om rfl ?_;clear hw;intro w2 hw gW;refine ab ?_;refine qmS hw (by decide +kernel) ?_;clear hw;intro w3 w5 hw;refine ab ?_;refine qqR (k:=0) (p:=pn) (v:=.int .i64 (S2.tdiv (t.vars.getD xv.toNat aa.dflt))) (by simp[Addr.add];rfl) rfl rfl hw inferInstance (by simp) ?_;clear hw;intro w4 hw hk4;refine ab ?_;have zw:=((j7.trans gW).trans w5).trans hk4;exact⟨rfl,zw,hw.close zw.1⟩
  ·intro e a' W' hq
   obtain⟨_,_,rfl,zw,hC'⟩:=hq;have dA:=hC'.tE;refine⟨zw.others,⟨fun _=>zV (i:=0) dA rfl rfl,fun _=>hL.at dA⟩,by rw[zw.1];exact eM,?_⟩;rw[map_append,map_singleton,qes,<-hS];exact hC'
 case done =>
  rintro D xs W hD hS ⟨eM,hC⟩ hK;refine⟨by simp,.inl ⟨_,_,rfl,run_takeDeferred hK,?_⟩⟩;rw[oM];have hI:=(BL.own (Γ:=fun pre:List { p:Int × Int // 0<=p.2/\p.2<t.vars.length }=>(Ad pb 22 [va]::Ad pn 3 [.int .i64 (iW t.vars (pre.map nJ) st n).2]::Ad ps 22 [s]::Ad pt 26 [a,b,c,d]::OS aa 3 s (iW t.vars (pre.map nJ) st n).1::Γ)) hB).putObj (o':=.deferred none) ⟨eM,hC⟩ hD hK rfl;have dA:=hI.2.tE;have hxs:xs.map nJ=L.reverse:=by
   have:=congrArg (List.map (·.2)) hS;rw[qtD,map_map]at this;exact this
  rw[hxs]at dA;exact⟨.tuple #[],by simp[results,Tryz.f104],rfl,dA.tail.tail.tail.tail⟩
 case stop =>
  rintro D c pre W _ _ hF _;exact hF.elim
instance (vars p:List Int):Decidable (AF vars p):=by unfold AF;infer_instance
noncomputable def jg (t:Aa) (p:List Int):Int:=if bk t≠0 then bk t else if AF t.vars p then 0 else 2
theorem qmb {w0:World}{a b c d va:Value}{vs:List AK}{t:Aa}{L:List Int}(ht:Am w0 a b c d vs t) (hp:RS aa w0 va L) :
  Calls Tryz.prog 100 #[.agg #[a,b,c,d],va] w0 fun e w'=>e=.returned (bE (jg t L))/\Sat w0 w' []:=by
 have eF:=ht;obtain⟨ha,hb,hc,hd⟩:=ht;have ir:=ha.bo;have zN:=hp.bo;have hw:=Sat.start w0;refine bn (args:=[.agg #[a,b,c,d],va]) mixed Tryz.func100 ?_;refine db ?_;intro p w hw;obtain⟨pt,dO⟩:∃ pt,pt=p:=⟨p,rfl⟩
 subst dO;refine aJ rfl (sH (eF.at hw)) ?_;rintro _ w' ⟨rfl,aj⟩;refine aC ?_;clear aj hw;intro hw;by_cases hk:bk t=0
 ·rw[iy hk]
  refine ab ?_;refine cd [4,4,6,7,15,43] (G:=Nat) (fun k=>[(15,.int .i64 k)]) (fun k w=>k<=L.length/\(∀ i,i<k->(0<=L.getD i aa.dflt/\L.getD i aa.dflt<t.vars.length)/\(0<i->L.getD (i-1) aa.dflt<L.getD i aa.dflt))/\Sat w0 w [Ad pt 26 [a,b,c,d]]) (fun k=>L.length-k) 0 (fun _=>rfl) ⟨rfl,trivial⟩ ⟨zero_le _,fun i hi=>absurd hi (not_lt_zero _),hw⟩ ?_;clear hw;rintro σ k w ⟨j7,aN,hw⟩;refine ab ?_;refine ai ?_ ?_<;>intro h1
  ·have aK:k<L.length:=by omega
   have e1:((k:Int)-1).toNat=k-1:=by omega
   refine ab ?_;refine ai ?_ ?_<;>intro h2
   ·refine ab ?_
    refine aW (v:=bE 2) rfl (by rw[ep (by decide)];rfl) ⟨?_,hw.tail⟩;rw[jg,if_neg (by simp[hk]),if_neg];intro nf;have h3:=nf k aK;rw[e1]at h2;rcases h2 with (h2|h2)|⟨h2,h4⟩
    ·omega
    ·omega
    ·have:=h3.2 om;omega
   ·rw[e1]at h2
    refine ab ?_;refine⟨k+1,⟨rfl,trivial⟩,aH,⟨by omega,fun i hi=>?_,hw⟩,by omega⟩;by_cases h:i=k
    ·subst h;exact⟨by omega,fun h0=>by omega⟩
    ·exact aN i om
  ·refine ab ?_
   refine aW (v:=bE 0) rfl (by rw[iy rfl];rfl) ⟨?_,hw.tail⟩;rw[jg,if_neg (by simp[hk]),if_pos];intro i hi;exact aN i om
 ·rw[ep hk]
  refine ab ?_;refine aW (v:=bE (bk t)) rfl (by rw[ep hk];rfl) ⟨?_,hw.tail⟩;rw[jg,if_pos hk]
theorem qgs {vars L:List Int}(hd:∀ x∈vars,1<=x) (hL:∀ v∈L,0<=v/\v<vars.length) (k:Nat):aL vars (L.take k)<=aL vars L:=by
 have h1:dV vars (L.take k)=(dV vars L).take k:=by simp[dV,map_take]
 rw[aL,h1];exact qcs (qjY hd hL) k
theorem qoe {vars L:List Int}{k:Nat}(hk:k<L.length):aL vars (L.take (k+1))=aL vars (L.take k)*sg vars (L.getD k aa.dflt):=by
 rw[dJ aa.dflt hk,qgh]
theorem qhN {vars L s:List Int}{k:Nat}(hk:k<L.length):bj vars (L.take (k+1)) s=bj vars (L.take k) s*sg vars (L.getD k aa.dflt)+sg s (L.getD k aa.dflt):=by
 rw[dJ aa.dflt hk,qjZ]
theorem qfg {w0:World}{a b c d va:Value}{vs:List AK}{t:Aa}{L:List Int}(ht:Am w0 a b c d vs t) (hp:RS aa w0 va L) (hg:Af t) (hL:∀ v∈L,0<=v/\v<t.vars.length) :
  Calls Tryz.prog 101 #[.agg #[a,b,c,d],va] w0 fun e w'=>e=.returned (.tuple (if aL t.vars L<=4096 then #[.int .i64 (aL t.vars L),.bool true] else #[.int .i64 0,.bool false]))/\Sat w0 w' []:=by
 obtain⟨ha,hb,hc,hd⟩:=ht;have ir:=ha.bo;have zN:=hp.bo;have hw:=Sat.start w0;refine bn (args:=[.agg #[a,b,c,d],va]) mixed Tryz.func101 ?_;refine db ?_;intro p w hw;obtain⟨pt,dO⟩:∃ pt,pt=p:=⟨p,rfl⟩
 subst dO;refine dj [4,6,8,8,11,24] (G:=Nat) (H:=Int) (fun k n=>[(11,.int .i64 k),(6,.int .i64 n)]) (fun k n w=>k<=L.length/\n=aL t.vars (L.take k)/\n<=4096/\Sat w0 w [Ad pt 26 [a,b,c,d]]) (fun k _=>L.length-k) 0 1 (fun _ _=>rfl) ⟨rfl,rfl,trivial⟩ ⟨zero_le _,rfl,by decide,hw⟩ ?_;clear hw;rintro σ k n w ⟨hk,hn,jH,hw⟩;refine ab ?_;refine ai ?_ ?_<;>intro h1
 ·have aK:k<L.length:=by omega
  have hv:=hL _ (bY aa.dflt aK);have qK:=hg.gd (L.getD k aa.dflt).toNat om;have ij:1<=n:=by rw[hn];exact qer hg.pos fun v hv=>hL v (mem_of_mem_take hv)
  have hS:aL t.vars (L.take (k+1))=n*sg t.vars (L.getD k aa.dflt):=by rw[qoe aK,hn]
  have hle:=qgs hg.pos hL (k+1);simp only[sg]at hS;have b0:0<=n*t.vars.getD (L.getD k aa.dflt).toNat aa.dflt:=Int.mul_nonneg om om;have b1:n*t.vars.getD (L.getD k aa.dflt).toNat aa.dflt<=4096*64:=Int.mul_le_mul jH om om om;refine ab ?_;refine ai ?_ ?_<;>intro h2
  ·refine ab ?_
   refine dz (v:=.int .i64 0) (v':=.bool false) rfl rfl rfl ⟨?_,hw.tail⟩;rw[if_neg om]
  ·refine ab ?_
   exact⟨k+1,_,⟨rfl,rfl,trivial⟩,aH,⟨by omega,hS.symm,by omega,hw⟩,by omega⟩
 ·refine ab ?_
  refine dz (v:=.int .i64 n) (v':=.bool true) rfl rfl rfl ⟨?_,hw.tail⟩;rw[take_of_length_le om]at hn;rw[if_pos om,hn]
theorem qg9 {w0:World}{a b c d va sv:Value}{vs:List AK}{t:Aa}{L s:List Int}(ht:Am w0 a b c d vs t) (hp:RS aa w0 va L) (hs:RS aa w0 sv s) (hg:Af t) (hL:∀ v∈L,0<=v/\v<t.vars.length) (br:Ac t.vars s) (hB:aL t.vars L<=1099511627776) :
  Calls Tryz.prog 102 #[.agg #[a,b,c,d],va,sv] w0 fun e w'=>e=.returned (.int .i64 (bj t.vars L s))/\Sat w0 w' []:=by
 obtain⟨ha,hb,hc,hd⟩:=ht;have ir:=ha.bo;have zN:=hp.bo;have hls:=br.1;have hw:=Sat.start w0;refine bn (args:=[.agg #[a,b,c,d],va,sv]) mixed Tryz.func102 ?_;refine db ?_;intro p w hw;obtain⟨pt,dO⟩:∃ pt,pt=p:=⟨p,rfl⟩
 subst dO;refine dj [7,7,9,9,12,28] (G:=Nat) (H:=Int) (fun k n=>[(12,.int .i64 k),(7,.int .i64 n)]) (fun k n w=>k<=L.length/\n=bj t.vars (L.take k) s/\Sat w0 w [Ad pt 26 [a,b,c,d]]) (fun k _=>L.length-k) 0 0 (fun _ _=>rfl) ⟨rfl,rfl,trivial⟩ ⟨zero_le _,rfl,hw⟩ ?_;clear hw;rintro σ k n w ⟨hk,hn,hw⟩;refine ab ?_;refine ai ?_ ?_<;>intro h1
 ·have aK:k<L.length:=by omega
  have hv:=hL _ (bY aa.dflt aK);have hr:=br.cC hv.1 hv.2;have rV:=k9 (p:=L.take k) br fun v hv=>hL v (mem_of_mem_take hv);have o0:=k9 (p:=L.take (k+1)) br fun v hv=>hL v (mem_of_mem_take hv);have hle:=qgs hg.pos hL (k+1);have hS:=qhN (vars:=t.vars) (s:=s) aK;rw[<-hn]at rV hS;simp only[sg]at hS hr;have b0:0<=n*t.vars.getD (L.getD k aa.dflt).toNat aa.dflt:=Int.mul_nonneg om om;refine fi ?_;intro w hw;exact⟨k+1,_,⟨rfl,rfl,trivial⟩,aH,⟨by omega,hS.symm,hw⟩,by omega⟩
 ·refine ab ?_
  refine aW (v:=.int .i64 n) rfl rfl ⟨?_,hw.tail⟩;rw[take_of_length_le om]at hn;rw[hn]
theorem qre {w0 w:World}{Γ:List HP}{p:Addr}{v:Value}(h:w0.cell? p=some v) (hw:Sat w0 w Γ):w.cell? p=some v:=by
 have bD:p.block<w0.heap.size:=by
  rcases Nat.lt_or_ge p.block w0.heap.size with h'|h'
  ·exact h'
  ·simp[World.cell?,Array.getElem?_eq_none h']at h
 rw[hw.below.cell bD];exact h
theorem qrV {w0:World}{pv:Addr}{v:Int}{x:Fact}(hv:w0.cell? pv=some (.int .i64 v)) :
  Calls Tryz.prog 160 #[.agg #[.int .i64 x.var,.int .i64 x.val],.pointer (some pv)] w0 fun e w'=>e=.returned (.bool (decide (x.var=v)))/\Sat w0 w' []:=by
 have hw:=Sat.start w0;refine bn (args:=[.agg #[.int .i64 x.var,.int .i64 x.val],.pointer (some pv)]) mixed Tryz.func160 ?_;refine db ?_;intro p w hw;refine sq rfl (sF rfl (qre hv hw)) ?_;refine ab ?_;exact aW (v:=.bool (decide (x.var=v))) rfl rfl ⟨rfl,hw.tail⟩
theorem qmg {w0:World}{a:Value}{f:List Fact}{pv:Addr}{v:Int}(ha:RS aq w0 a f) (hv:w0.cell? pv=some (.int .i64 v)) :
  Calls Tryz.prog 179 #[a,.func (.func 160) #[] #[.pointer (some pv)]] w0 fun e w'=>(∃ r:Int,e=.returned (.int .i64 r)/\(0<=r↔∃ x∈f,x.var=v))/\Sat w0 w' []:=by
 have ir:=ha.bo;have hw:=Sat.start w0;refine bn (args:=[a,.func (.func 160) #[] #[.pointer (some pv)]]) mixed Tryz.func179 ?_;refine ab ?_;refine cd [4,5,8,18] (G:=Nat) (fun k=>[(8,.int .i64 k)]) (fun k w=>k<=f.length/\(∀ i,i<k->(f.getD i aq.dflt).var≠v)/\Sat w0 w []) (fun k=>f.length-k) 0 (fun _=>rfl) ⟨rfl,trivial⟩ ⟨zero_le _,fun i hi=>absurd hi (not_lt_zero _),hw⟩ ?_;clear hw;rintro σ k w ⟨hk,aN,hw⟩;refine ab ?_;refine ai ?_ ?_<;>intro h1
 ·have aK:k<f.length:=by omega
  refine ab ?_;refine xq (cs:=[.pointer (some pv)]) rfl rfl (qrV (x:=f.getD k aq.dflt) (qre hv hw)) ?_;rintro _ w' ⟨rfl,aj⟩;refine aC ?_;clear aj hw;intro hw;refine ab ?_;refine ai ?_ ?_<;>intro h2
  ·refine ab ?_
   refine aW (v:=.int .i64 k) rfl rfl ⟨⟨k,rfl,⟨fun _=>⟨_,bY aq.dflt aK,h2⟩,fun _=>by omega⟩⟩,hw⟩
  ·refine ab ?_
   refine⟨k+1,⟨rfl,trivial⟩,aH,⟨by omega,fun i hi=>?_,hw⟩,by omega⟩;by_cases h:i=k
   ·subst h;exact h2
   ·exact aN i om
 ·refine ab ?_
  refine aW (v:=.int .i64 (-1)) rfl rfl ⟨⟨-1,rfl,⟨fun h=>by omega,?_⟩⟩,hw⟩;rintro⟨x,hx,he⟩;obtain⟨i,hi,rfl⟩:=mem_iff_getElem.1 hx;exact absurd (by rw[getD_at hi];exact he) (aN i om)
theorem qrW {w0:World}{a:Value}{f:List Fact}{pv:Addr}{v:Int}(ha:RS aq w0 a f) (hv:w0.cell? pv=some (.int .i64 v)) :
  Calls Tryz.prog 159 #[a,.func (.func 160) #[] #[.pointer (some pv)]] w0 fun e w'=>(∃ r,e=.returned (.bool r)/\(r=true↔∃ x∈f,x.var=v))/\Sat w0 w' []:=by
 have hw:=Sat.start w0;refine bn (args:=[a,.func (.func 160) #[] #[.pointer (some pv)]]) mixed Tryz.func159 ?_;refine ab ?_;refine aJ rfl (qmg ha hv) ?_;rintro _ w' ⟨⟨r,rfl,hr⟩,aj⟩;refine aC ?_;clear aj hw;intro hw;refine ab ?_;exact aW (v:=.bool (decide (0<=r))) rfl rfl ⟨⟨_,rfl,by rw[decide_eq_true_eq];exact hr⟩,hw⟩
theorem qtL {w0:World}{a:Value}{f:List Fact}{v:Int}(ha:RS aq w0 a f) :
  Calls Tryz.prog 135 #[a,.int .i64 v] w0 fun e w'=>(∃ r,e=.returned (.bool r)/\(r=true↔∃ x∈f,x.var=v))/\Sat w0 w' []:=by
 have hw:=Sat.start w0;refine bn (args:=[a,.int .i64 v]) mixed Tryz.func135 ?_;refine db ?_;intro p w hw;refine aJ rfl (qrW (v:=v) (ha.at hw) (zV (i:=0) hw rfl rfl)) ?_;rintro _ w' ⟨⟨r,rfl,hr⟩,aj⟩;refine aC ?_;clear aj hw;intro hw;refine ab ?_;exact aW (v:=.bool r) rfl rfl ⟨⟨_,rfl,hr⟩,hw.tail⟩
def BC (o:Bu) (L:List Int) (k:Nat) (u:Int):Prop:=(∃ e∈o.aw.take k,e.var∈L/\∃ f∈e.when,f.var=u)/\u∉L/\∀ f∈o.pre,f.var≠u
def B4 (o:Bu) (L:List Int) (k:Nat) (f:List Fact) (u:Int):Prop:=BC o L k u\/((∃ x∈f,x.var=u)/\u∉L/\∀ x∈o.pre,x.var≠u)
theorem qou (o:Bu) (L:List Int) (u:Int):¬BC o L 0 u:=fun⟨⟨e,he,_⟩,_⟩=>by simp at he
theorem qov {o:Bu}{L:List Int}{k:Nat}{u:Int}(hk:k<o.aw.length) (hm:(o.aw.getD k ba).var∈L):B4 o L k (o.aw.getD k ba).when u↔BC o L (k+1) u:=by
 unfold B4 BC;rw[dJ ba hk];constructor
 ·rintro (⟨⟨e,he,h1⟩,h2⟩|⟨⟨x,hx,hxu⟩,h2⟩)
  ·exact⟨⟨e,by simp[he],h1⟩,h2⟩
  ·exact⟨⟨_,by simp,hm,x,hx,hxu⟩,h2⟩
 ·rintro⟨⟨e,he,h1,h3⟩,h2⟩
  rcases mem_append.1 he with he|he
  ·exact .inl ⟨⟨e,he,h1,h3⟩,h2⟩
  ·rw[mem_singleton.1 he]at h3
   exact .inr ⟨h3,h2⟩
theorem qow {o:Bu}{L:List Int}{k:Nat}{u:Int}(hk:k<o.aw.length) (hm:(o.aw.getD k ba).var∉L):BC o L k u↔BC o L (k+1) u:=by
 unfold BC;rw[dJ ba hk];constructor
 ·rintro⟨⟨e,he,h1⟩,h2⟩
  exact⟨⟨e,by simp[he],h1⟩,h2⟩
 ·rintro⟨⟨e,he,h1,h3⟩,h2⟩
  rcases mem_append.1 he with he|he
  ·exact⟨⟨e,he,h1,h3⟩,h2⟩
  ·rw[mem_singleton.1 he]at h1
   exact absurd h1 hm
theorem qox {o:Bu}{L:List Int}{k:Nat}{f:List Fact}{x:Fact}{u:Int}:B4 o L k (f++[x]) u↔B4 o L k f u\/(u=x.var/\u∉L/\∀ y∈o.pre,y.var≠u):=by
 unfold B4;constructor
 ·rintro (h|⟨⟨y,hy,zu⟩,h2⟩)
  ·exact .inl (.inl h)
  ·rcases mem_append.1 hy with hy|hy
   ·exact .inl (.inr ⟨⟨y,hy,zu⟩,h2⟩)
   ·rw[mem_singleton.1 hy]at zu
    exact .inr ⟨zu.symm,h2⟩
 ·rintro ((h|⟨⟨y,hy,zu⟩,h2⟩)|⟨rfl,h2⟩)
  ·exact .inl h
  ·exact .inr ⟨⟨y,by simp[hy],zu⟩,h2⟩
  ·exact .inr ⟨⟨x,by simp,rfl⟩,h2⟩
theorem qtr {xs:List Int}(h:xs.Nodup):(dF xs).Pairwise (·<·):=by
 have h1:=qiC xs;have h2:(dF xs).Nodup:=(mergeSort_perm xs _).nodup_iff.2 h;exact(h1.and h2).imp fun h=>by omega
theorem qk6 {w0:World}{va:Value}{v:AK}{o:Bu}{vars L:List Int}(hv:Cm w0 v o) (hp:RS aa w0 va L) (ho:Cz vars o) (hn:vars.length<=64) :
  Calls Tryz.prog 103 #[.agg (bJ.enc v).toArray,va] w0 fun e w'=>∃ s,e=.returned s/\Sat w0 w' [OS aa 3 s (oT vars o L)]:=by
 have hone:=hv.one;obtain⟨es,eE⟩:=hv.aw;have jP:=eE.rs;have la:=eE.len;have uA:=jP.bo;have aN:=hv.pre;have qwD:=ho.aw;have hw:=Sat.start w0;refine bn (args:=[.agg (bJ.enc v).toArray,va]) mixed Tryz.func103 ?_;refine db ?_;intro p w hw;obtain⟨pt,dO⟩:∃ pt,pt=p:=⟨p,rfl⟩
 subst dO;refine mB [5,5,7,7,9,9,13,55] (G:=Nat) (H:=Value) (I:=List Int) (fun k s _=>[(13,.int .i64 k),(5,s)]) (fun k s xs w=>k<=o.aw.length/\xs.Nodup/\xs.length<=64*k/\(∀ u,u∈xs↔BC o L k u)/\Sat w0 w [OS aa 3 s xs,Ad pt 44 (bJ.enc v)]) (fun k _ _=>o.aw.length-k) 0 (.slice none 0 0) [] (fun _ _ _=>rfl) ⟨rfl,rfl,trivial⟩ ⟨zero_le _,nodup_nil,by simp,fun u=>⟨fun h=>by simp at h,fun h=>absurd h (qou o L u)⟩,hw.nil⟩ ?_;clear hw;rintro σ k s xs w ⟨hk,fe,ku,ed,hw⟩;refine ab ?_;refine ai ?_ ?_<;>intro h1
 ·have aK:k<o.aw.length:=by omega
  have nr:=eE.at_ k aK;have nR:=nr.when;have oE:=nr.one;have jA:=nr.var;have heo:=ho.dL k aK;have xr:=qI heo.1;have hwb:=nR.bo;obtain⟨F,hF⟩:∃ F,F=(o.aw.getD k ba).when:=⟨_,rfl⟩
  rw[<-hF]at nR xr hwb;refine db ?_;intro p w hw;obtain⟨pe,qZ⟩:∃ pe,pe=p:=⟨p,rfl⟩
  subst qZ;refine aJ rfl (su (hp.at hw)) ?_;rintro _ w' ⟨rfl,aj⟩;replace hw:=hw.bz aj;clear aj;by_cases hm:(az aR es k).var∈L
  ·rw[decide_eq_true hm]
   refine⟨_,rfl,?_⟩;rw[jA]at hm;refine ab ?_;refine mB [5,5,9,9,25,54] (G:=Nat) (H:=Value) (I:=List Int) (fun j s _=>[(25,.int .i64 j),(5,s)]) (fun j s xs w=>j<=F.length/\xs.Nodup/\xs.length<=64*k+j/\(∀ u,u∈xs↔B4 o L k (F.take j) u)/\Sat w0 w [Ad pe 61 (aR.enc (az aR es k)),OS aa 3 s xs,Ad pt 44 (bJ.enc v)]) (fun j _ _=>F.length-j) 0 s xs (fun _ _ _=>rfl) ⟨rfl,rfl,trivial⟩ ⟨zero_le _,fe,by omega,fun u=>(ed u).trans ⟨fun h=>.inl h,fun h=>by rcases h with h|⟨⟨x,hx,_⟩,_⟩;exact h;simp at hx⟩,hw⟩ ?_;clear hw ed fe ku;rintro σ1 j s xs w ⟨hj,fe,ku,ed,hw⟩;refine ab ?_;refine ai ?_ ?_<;>intro h2
   ·have cJ:j<F.length:=by omega
    have ik:=fun u=>qox (o:=o) (L:=L) (k:=k) (f:=F.take j) (x:=F.getD j aq.dflt) (u:=u);rw[<-dJ aq.dflt cJ]at ik;refine db ?_;intro p w hw;refine aJ rfl (su (hp.at hw)) ?_;rintro _ w' ⟨rfl,aj⟩;replace hw:=hw.bz aj;clear aj;by_cases j6:(F.getD j aq.dflt).var∈L
    ·rw[decide_eq_true j6]
     refine⟨_,rfl,?_⟩;refine ab ?_;refine⟨j+1,s,xs,⟨rfl,rfl,trivial⟩,aH,⟨by omega,fe,by omega,fun u=>?_,hw.tail⟩,by omega⟩;rw[ed u,ik u];exact⟨.inl,fun h=>h.resolve_right fun h=>h.2.1 (h.1 ▸ j6)⟩
    ·rw[decide_eq_false j6]
     refine⟨_,rfl,?_⟩;refine ab ?_;refine aJ rfl (qtL (aN.at hw)) ?_;rintro _ w' ⟨⟨r,rfl,hr⟩,aj⟩;refine aC ?_;clear aj hw;intro hw
     cases r with
     | true =>
      refine ab ?_;refine⟨j+1,s,xs,⟨rfl,rfl,trivial⟩,aH,⟨by omega,fe,by omega,fun u=>?_,hw.tail⟩,by omega⟩;rw[ed u,ik u];obtain⟨y,hy,zu⟩:=hr.1 rfl
      exact⟨.inl,fun h=>h.resolve_right fun h=>h.2.2 y hy (by rw[zu,h.1])⟩
     | false =>
      have hnp:∀ y∈o.pre,y.var≠(F.getD j aq.dflt).var:=fun y hy e=>by have:=hr.2 ⟨y,hy,e⟩;cases this
      refine ab ?_;refine aJ rfl (su (a:=s) (aM hw)) ?_;rintro _ w' ⟨rfl,aj⟩;replace hw:=hw.bz aj;clear aj;by_cases wP:(F.getD j aq.dflt).var∈xs
      ·rw[decide_eq_true wP]
       refine⟨_,rfl,?_⟩;refine ab ?_;refine⟨j+1,s,xs,⟨rfl,rfl,trivial⟩,aH,⟨by omega,fe,by omega,fun u=>?_,hw.tail⟩,by omega⟩;rw[ik u,<-ed u];exact⟨.inl,fun h=>h.elim id fun h=>h.1 ▸ wP⟩
      ·rw[decide_eq_false wP]
       refine⟨_,rfl,?_⟩
       repeat (first|refine bV ?_|(refine cB ?_;clear hw;intro s w hw))
       refine⟨j+1,_,xs++[(F.getD j aq.dflt).var],⟨rfl,rfl,trivial⟩,aH,⟨by omega,?_,by simp;omega,fun u=>?_,hw.tail.tail⟩,by omega⟩
       ·rw[nodup_append]
        refine⟨fe,by simp,fun x hx y hy e=>?_⟩;rw[mem_singleton.1 hy]at e;exact wP (e ▸ hx)
       ·rw[ik u,<-ed u,mem_append,mem_singleton]
        exact⟨fun h=>h.elim .inl fun h=>.inr ⟨h,h ▸ j6,fun y hy=>h ▸ hnp y hy⟩,fun h=>h.elim .inl fun h=>.inr h.1⟩
   ·rw[take_of_length_le om]at ed
    refine ab ?_;refine⟨k+1,s,xs,⟨rfl,rfl,trivial⟩,aH,⟨by omega,fe,by omega,fun u=>?_,hw.tail⟩,by omega⟩;rw[ed u,hF,qov aK hm]
  ·rw[decide_eq_false hm]
   refine⟨_,rfl,?_⟩;rw[jA]at hm;refine ab ?_;refine⟨k+1,s,xs,⟨rfl,rfl,trivial⟩,aH,⟨by omega,fe,by omega,fun u=>?_,hw.tail⟩,by omega⟩;rw[ed u,qow aK hm]
 ·have cH:k=o.aw.length:=by omega
  subst cH;refine ab ?_;refine aJ rfl (qdk hw om) ?_;clear hw;rintro _ w' ⟨rfl,hw⟩;refine⟨_,rfl,?_⟩;refine ab ?_;refine aW (v:=s) rfl rfl ⟨s,rfl,?_⟩;have e:dF xs=oT vars o L:=by
   refine qiA (qtr fe) fun u=>?_;rw[qev,ed u];unfold BC CW;rw[take_length];constructor
   ·rintro⟨⟨e,he,h1,f,hf,hfu⟩,h2⟩
    have:=vF (ho.mem e he).1 f hf;exact⟨⟨hfu ▸ this.1,hfu ▸ this.2.1⟩,⟨e,he,h1,f,hf,hfu⟩,h2⟩
   ·exact fun h=>h.2
  rw[e]at hw;exact hw.only
end
end Go.Proofs.YtmapkjoefdgjfaaGreatDoor
