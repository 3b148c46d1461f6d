/- Several texts. -/
import Derived.Test.YtmapkjoefdgjfaaGreatDoorMW15
set_option linter.unusedSimpArgs false
set_option linter.unusedVariables false
set_option maxRecDepth 8000
set_option maxHeartbeats 16000000
open List Nat
namespace Go.Proofs.YtmapkjoefdgjfaaGreatDoor
section
open Go.Sl Go
attribute [local irreducible] vc opsW opsD opV opW PureV ReadV Thn Blk
def BH (x:Int):Prop:=x<0\/1048576<x
instance (x:Int):Decidable (BH x):=inferInstanceAs (Decidable (_\/_))
theorem qrN {w0:World}{x:Int} :
  Calls Tryz.prog 109 #[.int .i64 x] w0 fun e w'=>e=.returned (.bool (decide (BH x)))/\Sat w0 w' []:=by
 have hw:=Sat.start w0;refine bn (args:=[.int .i64 x]) mixed Tryz.func109 ?_;refine ab ?_;refine aW (v:=.bool (decide (x<0) || decide (1048576<x))) rfl rfl ⟨?_,hw⟩;rw[<-Bool.decide_or];rfl
theorem qmd {w0:World}{a:Value}{xs:List Int}(ha:RS aa w0 a xs) :
  Calls Tryz.prog 71 #[a,.func (.func 109) #[] #[]] w0 fun e w'=>(∃ r:Int,e=.returned (.int .i64 r)/\(0<=r↔∃ x∈xs,BH x))/\Sat w0 w' []:=by
 have ir:=ha.bo;have hw:=Sat.start w0;refine bn (args:=[a,.func (.func 109) #[] #[]]) mixed Tryz.func71 ?_;refine ab ?_;refine cd [4,5,8,18] (G:=Nat) (fun k=>[(8,.int .i64 k)]) (fun k w=>k<=xs.length/\(∀ i,i<k->¬BH (xs.getD i aa.dflt))/\Sat w0 w []) (fun k=>xs.length-k) 0 (fun _=>rfl) ⟨rfl,trivial⟩ ⟨zero_le _,fun i hi=>absurd hi (not_lt_zero _),hw⟩ ?_;clear hw;rintro σ k w ⟨hk,aN,hw⟩;refine ab ?_;refine ai ?_ ?_<;>intro h1
 ·have aK:k<xs.length:=by omega
  refine ab ?_;refine xq (cs:=[]) rfl rfl (qrN (x:=xs.getD k aa.dflt)) ?_;rintro _ w' ⟨rfl,aj⟩;refine aC ?_;clear aj hw;intro hw;by_cases h2:BH (xs.getD k aa.dflt)
  ·rw[decide_eq_true h2]
   refine ab ?_;refine aW (v:=.int .i64 k) rfl rfl ⟨⟨k,rfl,⟨fun _=>⟨_,bY aa.dflt aK,h2⟩,fun _=>by omega⟩⟩,hw⟩
  ·rw[decide_eq_false h2]
   refine ab ?_;refine⟨k+1,⟨rfl,trivial⟩,aH,⟨by omega,fun i hi=>?_,hw⟩,by omega⟩;by_cases h:i=k
   ·subst h;exact h2
   ·exact aN i om
 ·refine ab ?_
  refine aW (v:=.int .i64 (-1)) rfl rfl ⟨⟨-1,rfl,⟨fun h=>by omega,?_⟩⟩,hw⟩;rintro⟨x,hx,he⟩;obtain⟨i,hi,rfl⟩:=mem_iff_getElem.1 hx;exact absurd (by rw[getD_at hi];exact he) (aN i om)
theorem qrO {w0:World}{a:Value}{xs:List Int}(ha:RS aa w0 a xs) :
  Calls Tryz.prog 44 #[a,.func (.func 109) #[] #[]] w0 fun e w'=>(∃ r,e=.returned (.bool r)/\(r=true↔∃ x∈xs,BH x))/\Sat w0 w' []:=by
 have hw:=Sat.start w0;refine bn (args:=[a,.func (.func 109) #[] #[]]) mixed Tryz.func44 ?_;refine ab ?_;refine aJ rfl (qmd ha) ?_;rintro _ w' ⟨⟨r,rfl,hr⟩,aj⟩;refine aC ?_;clear aj hw;intro hw;refine ab ?_;exact aW (v:=.bool (decide (0<=r))) rfl rfl ⟨⟨_,rfl,by rw[decide_eq_true_eq];exact hr⟩,hw⟩
open Classical in
noncomputable def fJ (t:Aa) (L cs:List Int):Int:=if bk t≠0 then bk t else if 0<cs.length/\cs.length≠t.ops.length then 11 else if ∃ x∈cs,BH x then 1 else bM t L
def qY (t:Aa) (cs:List Int):List Int:=if cs.length=0 then ar t else cs
noncomputable def kX (t:Aa) (L D:List Int):Ci:=⟨t.vars,L,cj t L,D⟩
theorem qez {t:Aa}{L:List Int}(h:bM t L=0):Af t/\A5 t.vars L/\aL t.vars L<=4096/\(aZ t L).length<=65536:=by
 by_cases hk:jg t L=0
 ·rw[qlP hk]at h
  obtain⟨hg,hp⟩:=qgO.1 hk;unfold gV at h;split at h
  ·cases h
  ·split at h
   ·cases h
   ·split at h
    ·cases h
    ·exact⟨hg,hp.inV,by omega,by omega⟩
 ·unfold bM at h
  rw[if_pos hk]at h;exact absurd h hk
theorem qne {t:Aa}(hg:Af t):∀ x∈ar t,0<=x/\x<=1048576:=by
 intro x hx;obtain⟨o,ho,rfl⟩:=mem_map.1 hx;obtain⟨i,hi,rfl⟩:=getElem_of_mem ho;have:=hg.op i hi;rw[getD_at hi]at this;have h1:=this.jc;have h2:=this.ly;omega
theorem qv9 {t:Aa}{cs:List Int}(hg:Af t) (h1:¬(0<cs.length/\cs.length≠t.ops.length)) (h2:¬∃ x∈cs,BH x):(qY t cs).length=t.ops.length/\∀ x∈qY t cs,0<=x/\x<=1048576:=by
 unfold qY;split
 ·exact⟨by simp[ar],qne hg⟩
 ·refine⟨by omega,fun x hx=>?_⟩
  have:¬BH x:=fun hb=>h2 ⟨x,hx,hb⟩;unfold BH at this;omega
theorem wZ {t:Aa}{L cs:List Int}(h:cs.length=t.ops.length/\∀ x∈cs,0<=x/\x<=1048576):BO (aZ t L) cs (aL t.vars L).toNat :=
 qwA ⟨h.1,fun x hx=>by have:=h.2 x hx;omega⟩
theorem qqv {t:Aa}{L cs D:List Int}(hp:bM t L=0) (hD:As (aZ t L) cs (AG t L) (aL t.vars L).toNat D):Dg (kX t L D):=by
 obtain⟨hg,hL,hB,hE⟩:=qez hp;have jZ:=hD.len;have l5:=hg.ops;have eW:=hg.vars;have key:∀ e∈aZ t L,(0<=e.src/\e.src<(aL t.vars L).toNat)/\(0<=e.dst/\e.dst<(aL t.vars L).toNat)/\0<=e.bI/\e.bI<t.ops.length:=by
  intro e he;obtain⟨x,op,y,hx,bW,hy,hT,rfl⟩:=qcy.1 he;exact⟨⟨by simp only;omega,by simp only;omega⟩,⟨by simp only;omega,by simp only;omega⟩,by simp only;omega,by simp only;omega⟩
 refine⟨hg.pos,hL.mem,hB,jZ,fun e he=>?_,fun e he=>?_,fun e he=>?_,fun i hi=>hD.cC i (by rw[<-jZ];exact hi),eW,?_,hE⟩
 ·have:=(key e he).2.2
  simp only[kX,cj,ar,length_map];omega
 ·have:=(key e he).1
  show 0<=e.src/\e.src<D.length;omega
 ·have:=(key e he).2.1
  show 0<=e.dst/\e.dst<D.length;omega
 ·simp only[kX,cj,ar,length_map];omega
theorem qfh {w0:World}{a b c d vp kv:Value}{vs:List AK}{t:Aa}{L cs:List Int}(ht:Am w0 a b c d vs t) (hp:RS aa w0 vp L) (hk:RS aa w0 kv cs) :
  Calls Tryz.prog 82 #[.agg #[a,b,c,d],vp,kv] w0 fun e w' =>
   (fJ t L cs≠0/\e=.returned (.tuple #[.pointer none,bE (fJ t L cs)])/\Sat w0 w' []) \/
   (fJ t L cs=0/\bM t L=0/\(qY t cs).length=t.ops.length/\(∀ x∈qY t cs,0<=x/\x<=1048576)/\∃ p D,e=.returned (.tuple #[.pointer (some p),.nilIface])/\As (aZ t L) (qY t cs) (AG t L) (aL t.vars L).toNat D/\Sat w0 w' [Cj p (kX t L D)]):=by
 have eF:=ht;obtain⟨ha,hb,hc,hd⟩:=ht;have jx:=hd.rs;have jZ:=hd.len;have hlk:=hk.bo;have hw:=Sat.start w0;refine bn (args:=[.agg #[a,b,c,d],vp,kv]) mixed Tryz.func82 ?_;refine db ?_;intro p w hw;obtain⟨pt,dO⟩:∃ pt,pt=p:=⟨p,rfl⟩
 subst dO;refine aJ rfl (sH (eF.at hw)) ?_;rintro _ w' ⟨rfl,aj⟩;refine aC ?_;clear aj hw;intro hw;by_cases h1:bk t=0;rotate_left
 ·have kT:fJ t L cs=bk t:=if_pos h1
  rw[ep h1];refine ab ?_;exact dz (v:=.pointer none) (v':=.iface 57 (.int .i64 (bk t))) rfl rfl rfl (.inl ⟨by rw[kT];exact h1,by rw[kT,ep h1],hw.aT⟩)
 rw[iy h1];have hg:=(nZ t).1 h1;refine ab ?_;refine ai ?_ ?_<;>intro h2
 ·have kT:fJ t L cs=11:=by
   unfold fJ;rw[if_neg (by simp[h1]),if_pos ⟨by omega,by omega⟩]
  refine ab ?_;exact dz (v:=.pointer none) (v':=.iface 57 (.int .i64 11)) rfl rfl rfl (.inl ⟨by rw[kT];decide,by rw[kT,ep (by decide)],hw.aT⟩)
 have vn:¬(0<cs.length/\cs.length≠t.ops.length):=by omega
 refine ab ?_;refine aJ rfl (qrO (hk.at hw)) ?_;rintro _ w' ⟨⟨r,rfl,hr⟩,aj⟩;refine aC ?_;clear aj hw;intro hw;cases r;rotate_left
 ·have kT:fJ t L cs=1:=by
   unfold fJ;rw[if_neg (by simp[h1]),if_neg vn,if_pos (hr.1 rfl)]
  refine ab ?_;exact dz (v:=.pointer none) (v':=.iface 57 (.int .i64 1)) rfl rfl rfl (.inl ⟨by rw[kT];decide,by rw[kT,ep (by decide)],hw.aT⟩)
 have h3:¬∃ x∈cs,BH x:=fun h=>by have:=hr.2 h;cases this
 have kT:fJ t L cs=bM t L:=by
  unfold fJ;rw[if_neg (by simp[h1]),if_neg vn,if_neg h3]
 obtain⟨hu1,hu2⟩:=qv9 hg vn h3;refine ab ?_;refine aJ rfl (qci (eF.at hw) (hp.at hw)) ?_;rintro _ w' ⟨cv,ev,gv,rfl,aj⟩;by_cases h4:bM t L=0;rotate_left
 ·have hs:gD t L (bM t L)=bH:=if_neg h4
  rw[hs]at aj;rw[hs,ep h4];have ct:=hw.call aj;clear hw;have hw:=ct;clear ct;refine⟨_,rfl,?_⟩;have o1:=(hw.rs 0 rfl).one;have o2:=(hw.rs 1 rfl).one;have o3:=(hw.rs 2 rfl).one;refine gm8 ?_;intro p w hw;refine gZ (n:=5) (p:=p) (vs:=[.int .i64 0,.int .i64 0,cv,ev,gv]) rfl rfl hw inferInstance rfl rfl (by simp only[all_cons,all_nil,o1,o2,o3];rfl) ?_;clear hw;intro w hw;refine ab ?_;exact dz (v:=.pointer none) (v':=.iface 57 (.int .i64 (bM t L))) rfl rfl rfl (.inl ⟨by rw[kT];exact h4,by rw[kT,ep h4],hw.aT⟩)
 obtain⟨_,hL,hB,hEl⟩:=qez h4;rw[h4,qiD]at aj;rw[h4,iy rfl,qiD,qpR];have ct:=hw.call aj;clear aj hw;have hw:=ct;clear ct;refine⟨_,rfl,?_⟩;have o1:=(hw.rs 0 rfl).one;have o2:=(hw.rs 1 rfl).one;have o3:=(hw.rs 2 rfl).one;refine gm8 ?_;intro p w hw;refine gZ (n:=5) (p:=p) (vs:=[.int .i64 (aL t.vars L),.int .i64 (bj t.vars L t.init),cv,ev,gv]) rfl rfl hw inferInstance rfl rfl (by simp only[all_cons,all_nil,o1,o2,o3];rfl) ?_;clear hw;intro w hw;obtain⟨px,hpx⟩:∃ px,px=p:=⟨p,rfl⟩
 subst hpx;have hN1:=qer hg.pos hL.mem;have kL:=qe9 t L (aL t.vars L).toNat;have eN:(ar t).length=t.ops.length:=by simp[ar]
 refine ab ?_;refine rp [2,2,43,44] (G:=Value) (fun g=>[(2,g)]) (fun g w=>(∀ w',Sat w0 w' [Ad px 142 [.int .i64 (aL t.vars L),.int .i64 (bj t.vars L t.init),cv,ev,gv],OS aa 3 cv (ar t),OS ax 190 ev (aZ t L),OS ah 4 gv (cP t L (aL t.vars L).toNat),Ad pt 26 [a,b,c,d]]->RS aa w' g (qY t cs))/\Sat w0 w [Ad px 142 [.int .i64 (aL t.vars L),.int .i64 (bj t.vars L t.init),cv,ev,gv],OS aa 3 cv (ar t),OS ax 190 ev (aZ t L),OS ah 4 gv (cP t L (aL t.vars L).toNat),Ad pt 26 [a,b,c,d]]) (fun _=>rfl) ?_ ?_
 ·refine ai ?_ ?_<;>intro h5
  ·have hz:qY t cs=ar t:=if_pos om
   refine ab ?_;exact⟨cv,⟨rfl,trivial⟩,aH,fun w' dA=>by rw[hz];exact dA.rs 1 rfl,hw⟩
  ·have hz:qY t cs=cs:=if_neg om
   refine ab ?_;exact⟨kv,⟨rfl,trivial⟩,aH,fun w' dA=>by rw[hz];exact hk.at dA,hw⟩
 clear hw;rintro σ g w ⟨hgk,hw⟩;have ru:t.vars.length<=1099511627776:=by have:=hg.vars;omega
 have nO:L.length<=1099511627776:=by
  have:=hL.len;have:=hg.vars;omega
 have vT:=wZ (L:=L) ⟨hu1,hu2⟩;refine ab ?_;refine fP (pl [0,1,3,5,6,7,2] (.chk 5::.chk 6::pl [4] (.chk 5::.chk 6::pl [8] (.chk 5::pl [9,10,11,12] [])))) hw kr ?_;clear hw;intro w hw;refine ab ?_;refine aJ rfl (lx (ha.at hw) ru) ?_;rintro _ w' ⟨v1,rfl,aj⟩;refine aA ?_;clear aj hw;intro hw;refine ab ?_;refine aJ rfl (lx (hp.at hw) nO) ?_;rintro _ w' ⟨v2,rfl,aj⟩;refine aA ?_;clear aj hw;intro hw;refine ab ?_;refine aJ rfl (qhe (kv:=g) (S:=cj t L) (cv:=cv) (ev:=ev) (gv:=gv) ⟨aM hw,aM hw,aM hw⟩ (hgk _ hw.aT) (by show 0<=aL t.vars L;omega) (by show aL t.vars L<=_;omega) (by show ((cP t L _).length:Int)=aL t.vars L;omega) hEl vT) ?_;rintro _ w' ⟨v3,D,rfl,hD,aj⟩;refine aA ?_;clear aj hw;intro hw;refine ab ?_;have c1:=(aM (s:=v1) hw).dc;have c2:=(aM (s:=v2) hw).dc;have c3:=(aM (s:=v3) hw).dc;refine qc4 (parts:=[(0,.tmp 47),(1,.tmp 49),(2,.tmp 50),(3,.tmp 53)]) (vs:=[(0,v1),(1,v2),(2,.agg #[.int .i64 (aL t.vars L),.int .i64 (bj t.vars L t.init),cv,ev,gv]),(3,v3)]) (ls:=[(0,[v1]),(1,[v2]),(2,[.int .i64 (aL t.vars L),.int .i64 (bj t.vars L t.init),cv,ev,gv]),(3,[v3])]) rfl (by simp only[map_cons,map_nil,c1,c2,c3];rfl) rfl ?_;refine bV ?_;refine xP (vs:=dbC (kX t L D) v1 v2 cv ev gv v3) rfl hw ?_;clear hw;intro p w hw;have hw:=rm (p:=p) (X:=kX t L D) (vv:=v1) (pv:=v2) (cv:=cv) (ev:=ev) (gv:=gv) (tv:=v3) (Γ:=[]) (show Sat w0 w [Ad p 196 (dbC (kX t L D) v1 v2 cv ev gv v3),OS aa 3 v1 t.vars,OS aa 3 v2 L,OS aa 3 cv (ar t),OS ax 190 ev (aZ t L),OS ah 4 gv (cP t L (aL t.vars L).toNat),OS aa 3 v3 D] from hw.aT)
 refine ab ?_;exact dz (v:=.pointer (some p)) (v':=.nilIface) rfl rfl rfl (.inr ⟨by rw[kT];exact h4,rfl,hu1,hu2,p,D,rfl,hD,hw⟩)
end
section
open Go.Sl Go
def lH (a b:List Int):List Int:=(List.range a.length).map fun i=>a.getD i aa.dflt-b.getD i aa.dflt
theorem qsg (a b:List Int):(lH a b).length=a.length:=by simp[lH]
theorem qpt {a b:List Int}{i:Nat}(h:i<a.length):(lH a b).getD i aa.dflt=a.getD i aa.dflt-b.getD i aa.dflt:=by simp[lH,List.getD,h]
def iS (a b:List Int) (j:Nat):List Int:=(List.range a.length).map fun i=>if i<j then a.getD i aa.dflt-b.getD i aa.dflt else a.getD i aa.dflt
theorem qmC (a b:List Int) (j:Nat):(iS a b j).length=a.length:=by simp[iS]
theorem qpu (a b:List Int):iS a b 0=a:=by
 apply ext_getElem (by simp[iS]);intro i h1 h2;simp[iS,List.getD,h2]
theorem qsh (a b:List Int):iS a b a.length=lH a b:=by
 unfold iS lH;exact map_congr_left fun i hi=>if_pos (mem_range.1 hi)
theorem quU {a b:List Int}{j:Nat}(h:j<a.length):(iS a b j).getD j aa.dflt=a.getD j aa.dflt:=by simp[iS,List.getD,h]
theorem qsi {a b:List Int}{j:Nat}:(iS a b j).set j (a.getD j aa.dflt-b.getD j aa.dflt)=iS a b (j+1):=by
 apply ext_getElem (by simp[iS]);intro i h1 h2;rw[getElem_set];simp only[iS,getElem_map,getElem_range];split
 ·rename_i e;subst e;rw[if_pos om]
 ·by_cases h:i<j
  ·rw[if_pos h,if_pos om]
  ·rw[if_neg h,if_neg om]
def cy (c:List Int) (Ps:List (List Int)) (k:Nat):List Int:=(Ps.take k).foldl lH c
theorem qhw (c:List Int) (Ps:List (List Int)):cy c Ps 0=c:=rfl
theorem qeP {c:List Int}{Ps:List (List Int)}{k:Nat}(h:k<Ps.length):cy c Ps (k+1)=lH (cy c Ps k) (Ps.getD k []):=by
 unfold cy;rw[dJ [] h,foldl_append];rfl
theorem qjM {c:List Int}{Ps Qs:List (List Int)}{k:Nat}(h:k<=Ps.length):cy c (Ps++Qs) k=cy c Ps k:=by
 unfold cy;rw[take_append_of_le_length h]
structure Cx (t:Aa) (Ls:List (List Int)) (c:List Int) (Ds Ps:List (List Int)):Prop where
 dl:Ds.length=Ls.length
 pl:Ps.length=Ls.length
 bf:∀ k,k<Ls.length->As (aZ t (Ls.getD k [])) (cy c Ps k) (AG t (Ls.getD k [])) (aL t.vars (Ls.getD k [])).toNat (Ds.getD k [])
 part:∀ k,k<Ls.length->Ps.getD k []=kI (aZ t (Ls.getD k [])) (Ds.getD k []) t.ops.length
theorem yo {α:Type}{l m:List α}{i:Nat}{d:α}(h:i<l.length):(l++m).getD i d=l.getD i d:=by simp[getD_eq_getElem?_getD,getElem?_append_left h]
theorem wY {α:Type}{l:List α}{x:α}{i:Nat}{d:α}(h:i=l.length):(l++[x]).getD i d=x:=by subst h;simp[getD_eq_getElem?_getD]
theorem Cx.nil (t:Aa) (c:List Int):Cx t [] c [] []:=⟨rfl,rfl,fun k hk=>absurd hk (not_lt_zero _),fun k hk=>absurd hk (not_lt_zero _)⟩
theorem Cx.snoc {t:Aa}{Ls:List (List Int)}{c:List Int}{Ds Ps:List (List Int)}{L D:List Int}(h:Cx t Ls c Ds Ps) (hD:As (aZ t L) (cy c Ps Ls.length) (AG t L) (aL t.vars L).toNat D) :
  Cx t (Ls++[L]) c (Ds++[D]) (Ps++[kI (aZ t L) D t.ops.length]):=by
 have jZ:=h.dl;have iP:=h.pl;refine⟨by simp[h.dl],by simp[h.pl],fun k hk=>?_,fun k hk=>?_⟩
 ·simp only[length_append,length_cons,length_nil]at hk
  rw[qjM om];by_cases e:k<Ls.length
  ·rw[yo e,yo om];exact h.bf k e
  ·have e2:k=Ls.length:=by omega
   rw[wY e2,wY om,e2];exact hD
 ·simp only[length_append,length_cons,length_nil]at hk
  by_cases e:k<Ls.length
  ·rw[yo e,yo om,yo om];exact h.part k e
  ·have e2:k=Ls.length:=by omega
   rw[wY e2,wY om,wY om]
structure AA (t:Aa) (c:List Int):Prop where
 len:c.length=t.ops.length
 cC:∀ x∈c,0<=x/\x<=1048576
theorem AA.at {t:Aa}{c:List Int}(h:AA t c) {i:Nat}(hi:i<t.ops.length):0<=c.getD i aa.dflt/\c.getD i aa.dflt<=1048576:=h.cC _ (bY aa.dflt (by rw[h.len];exact hi))
theorem AA.of {t:Aa}{c:List Int}(hl:c.length=t.ops.length) (h:∀ i,i<t.ops.length->0<=c.getD i aa.dflt/\c.getD i aa.dflt<=1048576):AA t c :=
 ⟨hl,fun x hx=>by obtain⟨i,hi,rfl⟩:=getElem_of_mem hx;have:=h i om;rwa[getD_at hi]at this⟩
theorem AA.uo {t:Aa}{c L:List Int}(h:AA t c):BO (aZ t L) c (aL t.vars L).toNat:=wZ ⟨h.len,h.cC⟩
theorem uq {t:Aa}(hg:Af t):AA t (ar t):=⟨by simp[ar],qne hg⟩
theorem AA.sub {t:Aa}{c L D:List Int}(h:AA t c) (hD:As (aZ t L) c (AG t L) (aL t.vars L).toNat D):AA t (lH c (kI (aZ t L) D t.ops.length))/\∀ i,i<t.ops.length->0<=(kI (aZ t L) D t.ops.length).getD i aa.dflt/\(kI (aZ t L) D t.ops.length).getD i aa.dflt<=c.getD i aa.dflt:=by
 have hE:=h.uo (L:=L);have hso:B3 (aZ t L) D c.length (kI (aZ t L) D t.ops.length):=by rw[<-h.len];exact qp5 hE.bI
 have hle:=fun i (hi:i<t.ops.length)=>hso.le hE hD (i:=i) (by rw[h.len];exact hi);refine⟨.of (by rw[qsg];exact h.len) fun i hi=>?_,hle⟩;rw[qpt (by rw[h.len];exact hi)];have h1:=hle i hi;have h2:=h.at hi;omega
theorem Cx.cost {t:Aa}{Ls:List (List Int)}{c:List Int}{Ds Ps:List (List Int)}(h:Cx t Ls c Ds Ps) (hc:AA t c):∀ k,k<=Ls.length->AA t (cy c Ps k)
 | 0,_=>hc
 | k+1,hk=>by
  rw[qeP (by rw[h.pl];omega),h.part k om];exact((h.cost hc k om).sub (h.bf k om)).1
def aX (t:Aa) (Ls Ds:List (List Int)) (s:List Int) (k:Nat):Int:=dg (Ds.getD k []) (bj t.vars (Ls.getD k []) s)
def gJ (f:Nat->Int) (k:Nat):Int:=((List.range k).map f).sum
theorem qpv (f:Nat->Int):gJ f 0=0:=rfl
theorem um (f:Nat->Int) (k:Nat):gJ f (k+1)=gJ f k+f k:=by simp[gJ,range_succ]
theorem qpw {f:Nat->Int}{B:Int}{n:Nat}(h:∀ k,k<n->0<=f k/\f k<=B):0<=gJ f n/\gJ f n<=n*B:=by
 induction n with
 | zero=>simp[gJ]
 | succ n ih =>
  have h1:=ih fun k hk=>h k om;have h2:=h n om;rw[um,Int.natCast_add,Int.add_mul];simp only[Int.natCast_one,Int.one_mul];omega
open Classical in
noncomputable def eA (t:Aa) (Ls Ds:List (List Int)) (s:List Int):Int :=
 if ¬Ac t.vars s then 1125899906842624 else if ∃ k,k<Ls.length/\aX t Ls Ds s k=1125899906842624 then 1125899906842624 else gJ (aX t Ls Ds s) Ls.length
theorem qsj {t:Aa}{Ls Ds:List (List Int)}{s:List Int}(h:¬Ac t.vars s):eA t Ls Ds s=1125899906842624:=if_pos h
theorem qjN {t:Aa}{Ls Ds:List (List Int)}{s:List Int}{k:Nat}(h:Ac t.vars s) (hk:k<Ls.length) (hv:aX t Ls Ds s k=1125899906842624):eA t Ls Ds s=1125899906842624:=by
 unfold eA;rw[if_neg (fun hn=>hn h),if_pos ⟨k,hk,hv⟩]
theorem qjO {t:Aa}{Ls Ds:List (List Int)}{s:List Int}(h:Ac t.vars s) (hv:∀ k,k<Ls.length->aX t Ls Ds s k≠1125899906842624):eA t Ls Ds s=gJ (aX t Ls Ds s) Ls.length:=by
 unfold eA;rw[if_neg (fun hn=>hn h),if_neg (fun⟨k,hk,hh⟩=>hv k hk hh)]
end
section
open Go.Sl Go
attribute [local irreducible] vc opsW opsD opV opW PureV ReadV Thn Blk
structure Co (w:World) (s:Value) (ss:List Value) (Ls:List (List Int)):Prop where
 rs:RS al w s ss
 len:ss.length=Ls.length
 at_:∀ i,i<Ls.length->RS aa w (cU ss i) (Ls.getD i [])
theorem Co.at {w0 w:World}{Γ:List HP}{s:Value}{ss:List Value}{Ls:List (List Int)}(h:Co w0 s ss Ls) (hw:Sat w0 w Γ):Co w s ss Ls:=⟨h.rs.at hw,h.len,fun i hi=>(h.at_ i hi).at hw⟩
theorem qjo {w0:World}{a b c d va:Value}{vs:List AK}{t:Aa}{L:List Int}(ht:Am w0 a b c d vs t) (hp:RS aa w0 va L) :
  Calls Tryz.prog 85 #[.agg #[a,b,c,d],va] w0 fun e w'=>(∃ r,e=.returned (.bool r)/\(r=true↔AF t.vars L))/\Sat w0 w' []:=by
 obtain⟨ha,hb,hc,hd⟩:=ht;have ir:=ha.bo;have zN:=hp.bo;have hw:=Sat.start w0;refine bn (args:=[.agg #[a,b,c,d],va]) mixed Tryz.func85 ?_;refine db ?_;intro p w hw;obtain⟨pt,dO⟩:∃ pt,pt=p:=⟨p,rfl⟩
 subst dO;refine cd [4,6,9,36] (G:=Nat) (fun k=>[(9,.int .i64 k)]) (fun k w=>k<=L.length/\(∀ i,i<k->(0<=L.getD i aa.dflt/\L.getD i aa.dflt<t.vars.length)/\(0<i->L.getD (i-1) aa.dflt<L.getD i aa.dflt))/\Sat w0 w [Ad pt 26 [a,b,c,d]]) (fun k=>L.length-k) 0 (fun _=>rfl) ⟨rfl,trivial⟩ ⟨zero_le _,fun i hi=>absurd hi (not_lt_zero _),hw⟩ ?_;clear hw;rintro σ k w ⟨j7,aN,hw⟩;refine ab ?_;refine ai ?_ ?_<;>intro h1
 ·have aK:k<L.length:=by omega
  have e1:((k:Int)-1).toNat=k-1:=by omega
  refine ab ?_;refine ai ?_ ?_<;>intro h2
  ·refine ab ?_
   refine aW (v:=.bool false) rfl rfl ⟨⟨false,rfl,dr fun nf=>?_⟩,hw.tail⟩;have h3:=nf k aK;rw[e1]at h2;rcases h2 with (h2|h2)|⟨h2,h4⟩
   ·omega
   ·omega
   ·have:=h3.2 om;omega
  ·rw[e1]at h2
   refine ab ?_;refine⟨k+1,⟨rfl,trivial⟩,aH,⟨by omega,fun i hi=>?_,hw⟩,by omega⟩;by_cases h:i=k
   ·subst h;exact⟨by omega,fun h0=>by omega⟩
   ·exact aN i om
 ·refine ab ?_
  refine aW (v:=.bool true) rfl rfl ⟨⟨true,rfl,fU fun i hi=>aN i om⟩,hw.tail⟩
theorem qoR {w0:World}{a b c d va:Value}{vs:List AK}{t:Aa}{L:List Int}{pv:Addr}(ht:Am w0 a b c d vs t) (hv:AD w0 pv [a,b,c,d]) (hp:RS aa w0 va L) :
  Calls Tryz.prog 84 #[va,.pointer (some pv)] w0 fun e w'=>(∃ r,e=.returned (.bool r)/\(r=true↔¬AF t.vars L))/\Sat w0 w' []:=by
 have hw:=Sat.start w0;refine bn (args:=[va,.pointer (some pv)]) mixed Tryz.func84 ?_;refine ab ?_;refine aJ rfl (qjo (ht.at hw) (hp.at hw)) ?_;rintro _ w' ⟨⟨r,rfl,hr⟩,aj⟩;refine aC ?_;clear aj hw;intro hw;refine ab ?_;refine aW (v:=.bool (!r)) rfl rfl ⟨⟨_,rfl,?_⟩,hw⟩;rw[<-hr];simp
theorem qk1 {w0:World}{a b c d s:Value}{vs:List AK}{t:Aa}{ss:List Value}{Ls:List (List Int)}{pv:Addr}(ht:Am w0 a b c d vs t) (hv:AD w0 pv [a,b,c,d]) (hs:Co w0 s ss Ls) :
  Calls Tryz.prog 111 #[s,.func (.func 84) #[] #[.pointer (some pv)]] w0 fun e w'=>(∃ r:Int,e=.returned (.int .i64 r)/\(0<=r↔∃ i,i<Ls.length/\¬AF t.vars (Ls.getD i [])))/\Sat w0 w' []:=by
 have jx:=hs.rs;have iL:=hs.len;have ir:=jx.bo;have hw:=Sat.start w0;refine bn (args:=[s,.func (.func 84) #[] #[.pointer (some pv)]]) mixed Tryz.func111 ?_;refine ab ?_;refine cd [4,5,8,18] (G:=Nat) (fun k=>[(8,.int .i64 k)]) (fun k w=>k<=Ls.length/\(∀ i,i<k->AF t.vars (Ls.getD i []))/\Sat w0 w []) (fun k=>Ls.length-k) 0 (fun _=>rfl) ⟨rfl,trivial⟩ ⟨zero_le _,fun i hi=>absurd hi (not_lt_zero _),hw⟩ ?_;clear hw;rintro σ k w ⟨hk,aN,hw⟩;refine ab ?_;refine ai ?_ ?_<;>intro h1
 ·have aK:k<Ls.length:=by omega
  refine ab ?_;refine xq (cs:=[.pointer (some pv)]) rfl rfl (qoR (ht.at hw) (hv.at hw) ((hs.at_ k aK).at hw)) ?_;rintro _ w' ⟨⟨r,rfl,hr⟩,aj⟩;refine aC ?_;clear aj hw;intro hw;cases r
  ·have nf:AF t.vars (Ls.getD k []):=by
    by_cases h:AF t.vars (Ls.getD k [])
    ·exact h
    ·have:=hr.2 h;cases this
   refine ab ?_;refine⟨k+1,⟨rfl,trivial⟩,aH,⟨by omega,fun i hi=>?_,hw⟩,by omega⟩;by_cases h:i=k
   ·subst h;exact nf
   ·exact aN i om
  ·refine ab ?_
   refine aW (v:=.int .i64 k) rfl rfl ⟨⟨k,rfl,⟨fun _=>⟨k,aK,hr.1 rfl⟩,fun _=>by omega⟩⟩,hw⟩
 ·refine ab ?_
  refine aW (v:=.int .i64 (-1)) rfl rfl ⟨⟨-1,rfl,⟨fun h=>by omega,?_⟩⟩,hw⟩;rintro⟨i,hi,he⟩;exact absurd (aN i om) he
theorem qoS {w0:World}{a b c d s:Value}{vs:List AK}{t:Aa}{ss:List Value}{Ls:List (List Int)}{pv:Addr}(ht:Am w0 a b c d vs t) (hv:AD w0 pv [a,b,c,d]) (hs:Co w0 s ss Ls) :
  Calls Tryz.prog 83 #[s,.func (.func 84) #[] #[.pointer (some pv)]] w0 fun e w'=>(∃ r,e=.returned (.bool r)/\(r=true↔∃ i,i<Ls.length/\¬AF t.vars (Ls.getD i [])))/\Sat w0 w' []:=by
 have hw:=Sat.start w0;refine bn (args:=[s,.func (.func 84) #[] #[.pointer (some pv)]]) mixed Tryz.func83 ?_;refine ab ?_;refine aJ rfl (qk1 ht hv hs) ?_;rintro _ w' ⟨⟨r,rfl,hr⟩,aj⟩;refine aC ?_;clear aj hw;intro hw;refine ab ?_;exact aW (v:=.bool (decide (0<=r))) rfl rfl ⟨⟨_,rfl,by rw[decide_eq_true_eq];exact hr⟩,hw⟩
end
section
open Go.Sl Go
structure BX (t:Aa) (Ls Ds Ps:List (List Int)):Prop where
 run:Cx t Ls (ar t) Ds Ps
 cr:Af t
 inv:∀ k,k<Ls.length->A5 t.vars (Ls.getD k [])
 small:∀ k,k<Ls.length->aL t.vars (Ls.getD k [])<=512
 len:Ls.length<=32
theorem quL {f g:Nat->Int}{n:Nat}(h:∀ k,k<n->f k<=g k):gJ f n<=gJ g n:=by
 induction n with
 | zero=>exact Int.le_refl _
 | succ n ih =>
  have h1:=ih fun k hk=>h k om;have h2:=h n om;rw[um,um];omega
theorem qsb (f g:Nat->Int) (n:Nat):gJ (fun k=>f k+g k) n=gJ f n+gJ g n:=by
 induction n with
 | zero=>rfl
 | succ n ih=>rw[um,um,um,ih];omega
section
variable {t:Aa}{Ls Ds Ps:List (List Int)}
theorem BX.uo (h:BX t Ls Ds Ps) {k:Nat}(hk:k<Ls.length):BO (aZ t (Ls.getD k [])) (cy (ar t) Ps k) (aL t.vars (Ls.getD k [])).toNat:=(h.run.cost (uq h.cr) k om).uo
theorem BX.bo (h:BX t Ls Ds Ps) {k:Nat}(hk:k<Ls.length):((aL t.vars (Ls.getD k [])).toNat:Int)*1048576<=536870912:=by
 have:=h.small k hk;omega
theorem BX.cC (h:BX t Ls Ds Ps) {s:List Int}(hs:Ac t.vars s) {k:Nat}(hk:k<Ls.length):0<=aX t Ls Ds s k/\aX t Ls Ds s k<=inf:=qiM (h.inv k hk) (h.run.bf k hk) hs
theorem BX.bound (h:BX t Ls Ds Ps) {s:List Int}(hs:Ac t.vars s) {k:Nat}(hk:k<Ls.length) (hf:aX t Ls Ds s k<inf):aX t Ls Ds s k<=536870912:=by
 have hb:=k9 hs (h.inv k hk).mem;have hd:=h.run.bf k hk;have:=hd.bound (h.uo hk) (C:=1048576) (by decide) (fun x hx=>((h.run.cost (uq h.cr) k om).cC x hx).2) (i:=(bj t.vars (Ls.getD k []) s).toNat) om (by rw[Int.toNat_of_nonneg hb.1];exact hf);rw[Int.toNat_of_nonneg hb.1]at this;exact Int.le_trans this (h.bo hk)
theorem BX.fin (h:BX t Ls Ds Ps) {s:List Int}(hs:Ac t.vars s):(eA t Ls Ds s<inf↔∀ k,k<Ls.length->aX t Ls Ds s k<inf)/\(eA t Ls Ds s<inf->eA t Ls Ds s=gJ (aX t Ls Ds s) Ls.length)/\0<=eA t Ls Ds s/\eA t Ls Ds s<=inf:=by
 have hl:=h.len;by_cases hf:∀ k,k<Ls.length->aX t Ls Ds s k<inf
 ·have hv:=qjO hs fun k hk=>(by have:=hf k hk;have e:inf=1125899906842624:=rfl;omega:aX t Ls Ds s k≠1125899906842624)
  have hb:=qpw (n:=Ls.length) (f:=aX t Ls Ds s) (B:=536870912) fun k hk=>⟨(h.cC hs hk).1,h.bound hs hk (hf k hk)⟩
  have e:inf=1125899906842624:=rfl;have bD:eA t Ls Ds s<inf:=by rw[hv];omega
  exact⟨⟨fun _=>hf,fun _=>bD⟩,fun _=>hv,by rw[hv];exact hb.1,by omega⟩
 ·obtain⟨k,hk⟩:=Classical.not_forall.1 hf
  obtain⟨hk,hn⟩:=Classical.not_imp.1 hk;have hr:=(h.cC hs hk).2;have hv:=qjN hs hk (show aX t Ls Ds s k=1125899906842624 by have e:inf=1125899906842624:=rfl;omega);have e:inf=1125899906842624:=rfl;refine⟨⟨fun bD=>by omega,fun hh=>absurd hh hf⟩,fun bD=>by omega,by omega,by omega⟩
theorem BX.sO (h:BX t Ls Ds Ps) {op:Nat}(ho:op<t.ops.length):∀ k,k<=Ls.length->gJ (fun j=>(Ps.getD j []).getD op aa.dflt) k+(cy (ar t) Ps k).getD op aa.dflt=(ar t).getD op aa.dflt
 | 0,_=>by rw[qpv,qhw];omega
 | k+1,hk=>by
  have ih:=h.sO ho k om;have jv:=(h.run.cost (uq h.cr) k om).len;rw[um,qeP (by rw[h.run.pl];omega),qpt om];omega
theorem BX.step1 (h:BX t Ls Ds Ps) {s:List Int}{op:Nat}(hs:Ac t.vars s) (ho:op<t.ops.length) (ha:A6 t s op) {k:Nat}(hk:k<Ls.length) (hf:aX t Ls Ds (bm t s op) k<inf) :
  aX t Ls Ds s k<inf/\aX t Ls Ds s k<=aX t Ls Ds (bm t s op) k+(Ps.getD k []).getD op aa.dflt:=by
 have hL:=h.inv k hk;have hd:=h.run.bf k hk;have hE:=h.uo hk;have wQ:=h.run.cost (uq h.cr) k om;have he:=qjE h.cr hL hs ho ha;have dW:=qA h.cr hs ho;have hb:=k9 hs hL.mem;have o0:=k9 dW hL.mem;have hsf:aX t Ls Ds s k<inf:=by
  have ct:=hd.sP (bj t.vars (Ls.getD k []) (bm t s op)).toNat om (by rw[Int.toNat_of_nonneg o0.1];exact hf);rw[Int.toNat_of_nonneg o0.1]at ct;have hB:=h.bo hk;have:=(hd.fin hE (C:=1048576) (by decide) (fun x hx=>(wQ.cC x hx).2) (by have e:inf=1125899906842624:=rfl;omega) (i:=(bj t.vars (Ls.getD k []) s).toNat) om).2 ⟨_,by rw[Int.toNat_of_nonneg hb.1];exact .step he ct⟩
  rwa[Int.toNat_of_nonneg hb.1]at this
 refine⟨hsf,?_⟩;have hso:B3 (aZ t (Ls.getD k [])) (Ds.getD k []) t.ops.length (Ps.getD k []):=by
  rw[h.run.part k hk];exact qp5 fun e he=>by have:=hE.bI e he;rw[wQ.len]at this;exact this
 have:=hso.low _ he hsf hf;simp only[fB,Int.toNat_natCast]at this;unfold aX;omega
theorem BX.step (h:BX t Ls Ds Ps) {s:List Int}{op:Nat}(hs:Ac t.vars s) (ho:op<t.ops.length) (ha:A6 t s op) (hf:eA t Ls Ds (bm t s op)<inf) :
  eA t Ls Ds s<inf/\eA t Ls Ds s<=(ar t).getD op aa.dflt+eA t Ls Ds (bm t s op):=by
 have dW:=qA h.cr hs ho;obtain⟨a1,a2,a3,a4⟩:=h.fin hs;obtain⟨b1,b2,b3,b4⟩:=h.fin dW;have hk:=b1.1 hf;have bD:=a1.2 fun k aK=>(h.step1 hs ho ha aK (hk k aK)).1;refine⟨bD,?_⟩;rw[a2 bD,b2 hf];have h1:=quL (n:=Ls.length) (f:=aX t Ls Ds s) (g:=fun k=>aX t Ls Ds (bm t s op) k+(Ps.getD k []).getD op aa.dflt) fun k aK=>(h.step1 hs ho ha aK (hk k aK)).2;rw[qsb]at h1;have h2:=h.sO ho Ls.length (Nat.le_refl _);have h3:=((h.run.cost (uq h.cr) Ls.length (Nat.le_refl _)).at ho).1;omega
end
section
variable {f:Int}{t:Aa}{Ls Ds Ps Ds' Ps':List (List Int)}
end
def fO (f:Nat->Int) (C:Nat) (n:Nat):Int:=gJ (fun v=>if C.testBit v then f v else 0) n
theorem qki (f:Nat->Int) (C:Nat):fO f C 0=0:=rfl
theorem sj {f:Nat->Int}{C n:Nat}(h:ib C n):fO f C (n+1)=fO f C n+f n:=by
 unfold fO;rw[um,if_pos h]
theorem tQ {f:Nat->Int}{C n:Nat}(h:¬ib C n):fO f C (n+1)=fO f C n:=by
 unfold fO;rw[um,if_neg h];omega
theorem qlF {f:Nat->Int}{C:Nat}:∀ {n:Nat},(∀ k,k<n->0<=f k)->0<=fO f C n
 | 0,_=>Int.le_refl _
 | n+1,h=>by
  have h1:=qlF (C:=C) (n:=n) fun k hk=>h k om;have h2:=h n om;by_cases hb:ib C n
  ·rw[sj hb];omega
  ·rw[tQ hb];exact h1
theorem qkj {f:Nat->Int}{C C':Nat}:∀ {n:Nat},(∀ k,k<n->0<=f k)->(∀ v,ib C v->ib C' v)->fO f C n<=fO f C' n
 | 0,_,_=>Int.le_refl _
 | n+1,h,hs=>by
  have h1:=qkj (n:=n) (fun k hk=>h k om) hs;have h2:=h n om;by_cases hb:ib C n
  ·rw[sj hb,sj (hs n hb)];omega
  ·by_cases eY:ib C' n
   ·rw[tQ hb,sj eY];omega
   ·rw[tQ hb,tQ eY];exact h1
theorem qqr {f g:Nat->Int}{C:Nat}:∀ {n:Nat},(∀ k,k<n->ib C k->f k<=g k)->fO f C n<=fO g C n
 | 0,_=>Int.le_refl _
 | n+1,h=>by
  have h1:=qqr (n:=n) fun k hk=>h k om;by_cases hb:ib C n
  ·have:=h n om hb
   rw[sj hb,sj hb];omega
  ·rw[tQ hb,tQ hb];exact h1
theorem qnc {f:Nat->Int}{C:Nat}:∀ {n k:Nat},(∀ k,k<n->0<=f k)->k<n->ib C k->f k<=fO f C n
 | 0,_,_,hk,_=>absurd hk (not_lt_zero _)
 | n+1,k,h,hk,hb=>by
  have hn:=h n om;have hs:=qlF (C:=C) (n:=n) fun k hk=>h k om;by_cases e:k=n
  ·subst e;rw[sj hb];omega
  ·have:=qnc (n:=n) (fun k hk=>h k om) om hb
   by_cases eY:ib C n
   ·rw[sj eY];omega
   ·rw[tQ eY];exact this
theorem qlG {f:Nat->Int}{C:Nat}{B:Int}(hB:0<=B):∀ {n:Nat},(∀ k,k<n->ib C k->f k<=B)->fO f C n<=n*B
 | 0,_=>by simp[qki]
 | n+1,h=>by
  have h1:=qlG hB (n:=n) fun k hk=>h k om;rw[Int.natCast_add,Int.add_mul];simp only[Int.natCast_one,Int.one_mul];by_cases hb:ib C n
  ·have:=h n om hb
   rw[sj hb];omega
  ·rw[tQ hb];omega
theorem qkk {f g:Nat->Int}{C:Nat}{c:Int}(hc:0<=c):∀ {n:Nat},(∀ k,k<n->ib C k->f k=g k\/f k<=g k+c)->(∀ j k,j<n->k<n->ib C j->ib C k->f j≠g j->f k≠g k->j=k)->fO f C n<=fO g C n+c
 | 0,_,_=>by simp[qki];exact hc
 | n+1,h,hu=>by
  have h1:=qkk hc (n:=n) (fun k hk=>h k om) fun j k hj hk=>hu j k om om;by_cases hb:ib C n
  ·rw[sj hb,sj hb]
   by_cases e:f n=g n
   ·omega
   ·have h2:=h n om hb
    have h3:fO f C n<=fO g C n:=qqr fun k hk hbk=>by
     by_cases e2:f k=g k
     ·omega
     ·have:=hu k n om om hbk hb e2 e
      omega
    omega
  ·rw[tQ hb,tQ hb];exact h1
def jU (f:Nat->Int) (l:List Int):Int:=l.foldl (fun a i=>min (a+f i.toNat) inf) 0
theorem qkl (f:Nat->Int) (l:List Int) (i:Int):jU f (l++[i])=min (jU f l+f i.toNat) inf:=by simp[jU]
theorem qgC {f:Nat->Int}{C:Nat}:∀ {n:Nat},(∀ k,k<n->0<=f k)->jU f (cn C n)=min (fO f C n) inf
 | 0,_=>rfl
 | n+1,h=>by
  have h1:=qgC (C:=C) (n:=n) fun k hk=>h k om;have h2:=h n om;by_cases hb:ib C n
  ·rw[qmT hb,qkl,h1,sj hb,Int.toNat_natCast];omega
  ·rw[qj4 hb,tQ hb,h1]
theorem qs0 {f:Nat->Int}{l:List Int}(h:∀ i∈l,0<=f i.toNat):0<=jU f l/\jU f l<=inf:=by
 have key:∀ (l:List Int) (a:Int),0<=a->a<=inf->(∀ i∈l,0<=f i.toNat)->0<=l.foldl (fun a i=>min (a+f i.toNat) inf) a/\l.foldl (fun a i=>min (a+f i.toNat) inf) a<=inf:=by
  intro l
  induction l with
  | nil=>intro a h0 h1 _;exact⟨h0,h1⟩
  | cons i l ih =>
   intro a h0 h1 hl;have:=hl i mem_cons_self;refine ih _ ?_ ?_ fun j hj=>hl j (mem_cons_of_mem _ hj)
   ·have e:inf=1125899906842624:=rfl
    show 0<=min (a+f i.toNat) inf;omega
   ·show min (a+f i.toNat) inf<=inf
    omega
 exact key l 0 (Int.le_refl _) (by decide) h
def dY (f:Nat->Int) (Cs:List (List Int)):Int:=Cs.foldl (fun b l=>max b (jU f l)) 0
theorem qe4 (f:Nat->Int) (Cs:List (List Int)) (l:List Int):dY f (Cs++[l])=max (dY f Cs) (jU f l):=by simp[dY]
theorem qnd {f:Nat->Int}{Cs:List (List Int)}:0<=dY f Cs/\∀ l∈Cs,jU f l<=dY f Cs:=by
 refine kx (P:=fun Cs=>0<=dY f Cs/\∀ l∈Cs,jU f l<=dY f Cs) ⟨Int.le_refl _,fun l hl=>by simp at hl⟩ ?_ Cs;intro L x ⟨h0,h1⟩;rw[qe4];refine⟨by omega,fun l hl=>?_⟩;rcases mem_append.1 hl with hl|hl
 ·have:=h1 l hl;omega
 ·rw[mem_singleton.1 hl];omega
theorem qqs {f:Nat->Int}{Cs:List (List Int)}:dY f Cs=0\/∃ l∈Cs,dY f Cs=jU f l:=by
 refine kx (P:=fun Cs=>dY f Cs=0\/∃ l∈Cs,dY f Cs=jU f l) (.inl rfl) ?_ Cs;intro L x ih;rw[qe4];by_cases h:dY f L<=jU f x
 ·exact .inr ⟨x,by simp,by omega⟩
 ·rcases ih with ih|⟨l,hl,e⟩
  ·exact .inl om
  ·exact .inr ⟨l,by simp[hl],by omega⟩
section
variable {n:Nat}{N:Nat->Nat}{Cs:List (List Int)}{f:Nat->Int}
theorem qqt (hG:Gr n N) (hC:Bh n N Cs) (hf:∀ k,k<n->0<=f k) {C:Nat}(h:Cl n N C):min (fO f C n) inf<=dY f Cs:=by
 obtain⟨C',h1,h2⟩:=qmn hG _ C h (Nat.le_refl _);have h3:=(qnd (f:=f) (Cs:=Cs)).2 _ ((hC _).2 ⟨C',h1,rfl⟩);rw[qgC hf]at h3;have:=qkj hf h2;omega
theorem qiY (hC:Bh n N Cs) (hf:∀ k,k<n->0<=f k):∃ C,Cl n N C/\dY f Cs=min (fO f C n) inf:=by
 rcases qqs (f:=f) (Cs:=Cs) with h|⟨l,hl,e⟩
 ·refine⟨0,⟨fun v hv=>by simp[ib]at hv,fun u v hu=>by simp[ib]at hu⟩,?_⟩
  have:fO f 0 n=0:=by
   have h1:=qlF (C:=0) hf;have h2:=qlG (f:=f) (C:=0) (B:=0) (Int.le_refl _) (n:=n) fun k _ hb=>by simp[ib]at hb
   omega
  rw[this,h];decide
 ·obtain⟨C,hm,rfl⟩:=(hC _).1 hl
  exact⟨C,⟨hm.bd,hm.o5⟩,by rw[e,qgC hf]⟩
theorem qs1 (hC:Bh n N Cs) (hf:∀ k,k<n->0<=f k):0<=dY f Cs/\dY f Cs<=inf:=by
 obtain⟨C,_,e⟩:=qiY hC hf;exact⟨qnd.1,by omega⟩
theorem qs2 (hG:Gr n N) (hC:Bh n N Cs) (hf:∀ k,k<n->0<=f k) {k:Nat}(hk:k<n) (hi:f k<=inf):f k<=dY f Cs:=by
 have eN:Cl n N (2 ^ k):=⟨fun v hv=>by
   have:k=v:=by simpa [ib,testBit_two_pow] using hv
   omega,fun u v hu hv yU=>by
   have h1:k=u:=by simpa [ib,testBit_two_pow] using hu
   have h2:k=v:=by simpa [ib,testBit_two_pow] using hv
   omega⟩
 have h1:=qqt hG hC hf eN;have h2:=qnc hf hk (C:=2 ^ k) (by simp[ib]);omega
end
def lY (t:Aa) (op:Nat) (p:List Int):Prop:=∃ e∈(t.ops.getD op aO).aw,e.var∈p
def kn (t:Aa) (a b:List Int):Prop:=∀ op,op<t.ops.length->¬(lY t op a/\lY t op b)
theorem qkm {t:Aa}{a b:List Int}(h:kn t a b):kn t b a:=fun op ho hh=>h op ho ⟨hh.2,hh.1⟩
theorem qs3 {vars s:List Int}{v:Int}(hv:0<=v) (l:List BD):(∀ e∈l,AV vars e)->(∀ e∈l,e.var≠v)->sg (dt s l) v=sg s v:=by
 refine kx (P:=fun l=>(∀ e∈l,AV vars e)->(∀ e∈l,e.var≠v)->sg (dt s l) v=sg s v) (fun _ _=>rfl) ?_ l;intro l e ih h1 h2;have i1:=ih (fun x hx=>h1 x (by simp[hx])) fun x hx=>h2 x (by simp[hx]);rw[z6];split
 ·rw[vH (qB (h1 e (by simp))).1 hv (h2 e (by simp))];exact i1
 ·exact i1
theorem qqu {t:Aa}{p s:List Int}{op:Nat}(hg:Af t) (hp:A5 t.vars p) (ho:op<t.ops.length) (h:¬lY t op p):bj t.vars p (bm t s op)=bj t.vars p s :=
 qbS fun v hv=>qs3 (hp.mem v hv).1 _ (hg.op op ho).mem fun e he e2=>h ⟨e,he,by rw[e2];exact hv⟩
structure Br (t:Aa) (Ls Ds:List (List Int)) (N:Nat->Nat) (Cs:List (List Int)):Prop where
 cr:Af t
 inv:∀ k,k<Ls.length->A5 t.vars (Ls.getD k [])
 small:∀ k,k<Ls.length->aL t.vars (Ls.getD k [])<=512
 len:Ls.length<=32
 bf:∀ k,k<Ls.length->As (aZ t (Ls.getD k [])) (ar t) (AG t (Ls.getD k [])) (aL t.vars (Ls.getD k [])).toNat (Ds.getD k [])
 gr:Gr Ls.length N
 add:∀ u v,u<Ls.length->v<Ls.length->(ib (N u) v↔u≠v/\kn t (Ls.getD u []) (Ls.getD v []))
 cl:Bh Ls.length N Cs
noncomputable def fc (t:Aa) (Ls Ds Cs:List (List Int)) (s:List Int):Int:=dY (aX t Ls Ds s) Cs
section
variable {t:Aa}{Ls Ds Cs:List (List Int)}{N:Nat->Nat}
theorem Br.cC (h:Br t Ls Ds N Cs) {s:List Int}(hs:Ac t.vars s) {k:Nat}(hk:k<Ls.length):0<=aX t Ls Ds s k/\aX t Ls Ds s k<=inf:=qiM (h.inv k hk) (h.bf k hk) hs
theorem Br.uo (h:Br t Ls Ds N Cs) {k:Nat}:BO (aZ t (Ls.getD k [])) (ar t) (aL t.vars (Ls.getD k [])).toNat:=(uq h.cr).uo
theorem Br.bound (h:Br t Ls Ds N Cs) {s:List Int}(hs:Ac t.vars s) {k:Nat}(hk:k<Ls.length) (hf:aX t Ls Ds s k<inf):aX t Ls Ds s k<=536870912:=by
 have hb:=k9 hs (h.inv k hk).mem;have sr:=h.small k hk;have:=(h.bf k hk).bound h.uo (C:=1048576) (by decide) (fun x hx=>((uq h.cr).cC x hx).2) (i:=(bj t.vars (Ls.getD k []) s).toNat) om (by rw[Int.toNat_of_nonneg hb.1];exact hf);rw[Int.toNat_of_nonneg hb.1]at this;exact Int.le_trans this om
theorem Br.qyt (h:Br t Ls Ds N Cs) {s:List Int}(hs:Ac t.vars s):0<=fc t Ls Ds Cs s/\fc t Ls Ds Cs s<=inf:=qs1 h.cl fun _ hk=>(h.cC hs hk).1
theorem Br.fin (h:Br t Ls Ds N Cs) {s:List Int}(hs:Ac t.vars s):fc t Ls Ds Cs s<inf↔∀ k,k<Ls.length->aX t Ls Ds s k<inf:=by
 have nP:=fun k (hk:k<Ls.length)=>(h.cC hs hk).1;constructor
 ·intro hl k hk
  have:=qs2 h.gr h.cl nP hk (h.cC hs hk).2;unfold fc at hl;omega
 ·intro hf
  obtain⟨C,_,e⟩:=qiY h.cl nP;have hb:=qlG (f:=aX t Ls Ds s) (C:=C) (B:=536870912) (by decide) (n:=Ls.length) fun k hk _=>h.bound hs hk (hf k hk);have hl:=h.len;unfold fc;rw[e];have e2:inf=1125899906842624:=rfl;omega
theorem Br.step1 (h:Br t Ls Ds N Cs) {s:List Int}{op:Nat}(hs:Ac t.vars s) (ho:op<t.ops.length) (ha:A6 t s op) {k:Nat}(hk:k<Ls.length) (hf:aX t Ls Ds (bm t s op) k<inf) :
  aX t Ls Ds s k<inf/\aX t Ls Ds s k<=aX t Ls Ds (bm t s op) k+(ar t).getD op aa.dflt:=by
 have hL:=h.inv k hk;have hd:=h.bf k hk;have he:=qjE h.cr hL hs ho ha;have dW:=qA h.cr hs ho;have hb:=k9 hs hL.mem;have o0:=k9 dW hL.mem;have sr:=h.small k hk;have cu:=hd.qw6 h.uo he hf;simp only[fB,Int.toNat_natCast]at cu;have hsf:aX t Ls Ds s k<inf:=by
  have ct:=hd.sP (bj t.vars (Ls.getD k []) (bm t s op)).toNat om (by rw[Int.toNat_of_nonneg o0.1];exact hf);rw[Int.toNat_of_nonneg o0.1]at ct;have:=(hd.fin h.uo (C:=1048576) (by decide) (fun x hx=>((uq h.cr).cC x hx).2) (by have e:inf=1125899906842624:=rfl;omega) (i:=(bj t.vars (Ls.getD k []) s).toNat) om).2 ⟨_,by rw[Int.toNat_of_nonneg hb.1];exact .step he ct⟩
  rwa[Int.toNat_of_nonneg hb.1]at this
 exact⟨hsf,cu⟩
theorem Br.step (h:Br t Ls Ds N Cs) {s:List Int}{op:Nat}(hs:Ac t.vars s) (ho:op<t.ops.length) (ha:A6 t s op) (hf:fc t Ls Ds Cs (bm t s op)<inf) :
  fc t Ls Ds Cs s<inf/\fc t Ls Ds Cs s<=(ar t).getD op aa.dflt+fc t Ls Ds Cs (bm t s op):=by
 have dW:=qA h.cr hs ho;have hfk:=(h.fin dW).1 hf;have bD:=(h.fin hs).2 fun k hk=>(h.step1 hs ho ha hk (hfk k hk)).1;refine⟨bD,?_⟩;have nP:=fun k (hk:k<Ls.length)=>(h.cC hs hk).1;have qy6:=fun k (hk:k<Ls.length)=>(h.cC dW hk).1;obtain⟨C,hC,e⟩:=qiY h.cl nP;have h1:=qqt h.gr h.cl qy6 hC;have hc:=((uq h.cr).at ho).1
 have cY:∀ k,k<Ls.length->aX t Ls Ds s k≠aX t Ls Ds (bm t s op) k->lY t op (Ls.getD k []):=fun k hk cY=>Classical.byContradiction fun hna=>cY (by
  unfold aX;rw[qqu h.cr (h.inv k hk) ho hna])
 have h2:=qkk (f:=aX t Ls Ds s) (g:=aX t Ls Ds (bm t s op)) (C:=C) hc (n:=Ls.length) (fun k hk _=>.inr (h.step1 hs ho ha hk (hfk k hk)).2) fun j k hj hk hbj hbk nj nk=>Classical.byContradiction fun nT =>
   ((h.add j k hj hk).1 (hC.o5 j k hbj hbk nT)).2 op ho ⟨cY j hj nj,cY k hk nk⟩
 unfold fc at hf ⊢;rw[e];omega
end
end
end Go.Proofs.YtmapkjoefdgjfaaGreatDoor
