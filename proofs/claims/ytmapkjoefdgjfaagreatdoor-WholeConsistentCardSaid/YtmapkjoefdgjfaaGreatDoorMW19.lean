/- Several texts. -/
import Derived.Test.YtmapkjoefdgjfaaGreatDoorMW18
set_option linter.unusedSimpArgs false
set_option linter.unusedVariables false
set_option maxRecDepth 8000
set_option maxHeartbeats 16000000
open List Nat
namespace Go.Proofs.YtmapkjoefdgjfaaGreatDoor
section
open Go.Sl Go
attribute [local irreducible] vc opsW opsD opV opW PureV ReadV Thn Blk
theorem qrl {n:Nat}:∀ {m:Nat}{p:List Int},p∈ni n m->(∀ v∈p,0<=v/\v<(n:Int))/\p.Pairwise (·<·)/\∀ v∈p,v<(mO p:Int)
 | 0,p,h=>by
  have e:p=[]:=by simpa [ni] using h
  subst e
  exact⟨fun v hv=>absurd hv not_mem_nil,Pairwise.nil,fun v hv=>absurd hv not_mem_nil⟩
 | m+1,p,h=>by
  obtain⟨q,hq,hp⟩:=mem_flatMap.1 h;obtain⟨h1,h2,h3⟩:=qrl hq;obtain⟨k,k1,k2,hk⟩:=qgF.1 hp;obtain rfl:=mem_singleton.1 hk;refine⟨fun v hv=>?_,pairwise_append.2 ⟨h2,by simp,fun a ha b hb=>?_⟩,fun v hv=>?_⟩
  ·rcases mem_append.1 hv with hv|hv
   ·exact h1 v hv
   ·rw[mem_singleton.1 hv];omega
  ·rw[mem_singleton.1 hb]
   have:=h3 a ha;omega
  ·rw[qd2]
   rcases mem_append.1 hv with hv|hv
   ·have:=h3 v hv;omega
   ·rw[mem_singleton.1 hv];omega
theorem qnA {t:Aa}{k:Nat}{p:List Int}(h:p∈dT t k):A5 t.vars p:=by
 obtain⟨m,_,_,hm⟩:=qgF.1 h;have:=qrl (mem_filter.1 hm).1;exact⟨this.1,this.2.1⟩
noncomputable def bR (t:Aa) (size:Int):List (List Int):=(dT t (dm size)).take 32
theorem qdI (t:Aa) (size:Int):(bR t size).length<=32:=by unfold bR;rw[length_take];omega
theorem vU {t:Aa}{size:Int}{i:Nat}(h:i<(bR t size).length):A5 t.vars ((bR t size).getD i []):=by
 rw[getD_at h];exact qnA (mem_of_mem_take (getElem_mem h))
theorem qnB {t:Aa}{size:Int}(hs:AB t) {i:Nat}(h:i<(bR t size).length):bM t ((bR t size).getD i [])=0:=(zD hs (vU h)).1
theorem qvF {t:Aa}{size:Int}{i:Nat}(h:i<(bR t size).length):(bR t size).getD i []=(dT t (dm size)).getD i []:=by
 have h2:i<(dT t (dm size)).length:=by unfold bR at h;rw[length_take]at h;omega
 have h3:i<32:=by have:=qdI t size;omega
 show ((dT t (dm size)).take 32).getD i []=_;simp only[List.getD];rw[getElem?_take,if_pos h3]
theorem qrm {os:List Value}{i k:Nat}(h:i<(os.take k).length):cU (os.take k) i=cU os i:=by
 rw[length_take]at h;rw[ng,ng];simp only[List.getD];rw[getElem?_take,if_pos om]
theorem qoC {os:List Value}{k:Nat}(h:k<os.length):os.take (k+1)=os.take k++[cU os k]:=by
 rw[dJ undef h,ng]
theorem qrn {w0 w:World}{t:Aa}{size:Int}{ov:Value}{os:List Value}{Γ:List HP}(hw:Sat w0 w (OS al 22 ov (os.take 32)::Ab aa 3 os (dT t (dm size))::Γ)):∃ ss,Co w ov ss (bR t size):=by
 have hl:os.length=(dT t (dm size)).length:=hw.swap.bw;refine⟨os.take 32,hw.rs 0 rfl,by unfold bR;rw[length_take,length_take,hl],fun i hi=>?_⟩;have h2:i<(dT t (dm size)).length:=by unfold bR at hi;rw[length_take]at hi;omega
 rw[qvF hi,qrm (by unfold bR at hi;rw[length_take]at hi ⊢;rw[hl];exact hi)];exact hw.swap.row h2
theorem qfy {w0:World}{a b c d:Value}{vs:List AK}{t:Aa}{size:Int}(ht:Am w0 a b c d vs t) (hs:AB t) :
  Calls Tryz.prog 55 #[.agg #[a,b,c,d],.int .i64 size] w0 fun e w'=>∃ ov,e=.returned (.tuple #[ov,.nilIface])/\Sat w0 w' [Aj fun w=>∃ ss,Co w ov ss (bR t size)]:=by
 have hg:=hs.cr;have iL:=qmA (t:=t) hs.vars (m:=dm size) (by unfold dm;omega);have hw:=Sat.start w0;refine bn (args:=[.agg #[a,b,c,d],.int .i64 size]) mixed Tryz.func55 ?_;refine db ?_;intro p w hw;obtain⟨pt,dO⟩:∃ pt,pt=p:=⟨p,rfl⟩
 subst dO;refine aJ rfl (qg5 (ht.at hw) hg hs.vars) ?_;rintro _ w' ⟨lv,os,rfl,aj⟩;refine lu ?_;clear aj hw;intro hw;have l5:os.length=(dT t (dm size)).length:=hw.bw;replace hw:=hw.nil (T:=al) (e:=22);refine ab ?_;have bb:Sat w0 w' [OS al 22 (.slice none 0 0) (os.take 0),Ab aa 3 os (dT t (dm size)),OS al 22 lv os,Ad pt 26 [a,b,c,d]]:=hw;refine dj [8,8,10,12,24,43] (G:=Nat) (H:=Value) (fun k ov=>[(24,.int .i64 k),(8,ov)]) (fun k ov w=>k<=os.length/\k<=32/\Sat w0 w [OS al 22 ov (os.take k),Ab aa 3 os (dT t (dm size)),OS al 22 lv os,Ad pt 26 [a,b,c,d]]) (fun k _=>os.length-k) 0 (.slice none 0 0) (fun _ _=>rfl) ⟨rfl,rfl,trivial⟩ ⟨zero_le _,by omega,bb⟩ ?_;clear hw bb;rintro σ k ov w ⟨hk,qz1,hw⟩;have htl:(os.take k).length=k:=by rw[length_take];omega
 refine ab ?_;refine ai ?_ ?_<;>intro h1
 ·have aK:k<os.length:=by omega
  have hkm:k<(dT t (dm size)).length:=by omega
  have dp:=hw.swap.row hkm;refine ab ?_;refine ai ?_ ?_<;>intro h2
  ·have cH:k=32:=by omega
   subst cH;refine ab ?_;exact dz (v:=ov) (v':=.nilIface) rfl rfl rfl ⟨ov,rfl,(Sat.rd (Δ:=[OS al 22 ov (os.take 32),Ab aa 3 os (dT t (dm size)),OS al 22 lv os,Ad pt 26 [a,b,c,d]]) (Γ:=[]) (φ:=fun w=>∃ ss,Co w ov ss (bR t size)) (fun _ _ h=>qrn h) hw).only⟩
  have mW:bM t ((dT t (dm size)).getD k [])=0:=(zD hs (qnA (by rw[getD_at hkm];exact getElem_mem hkm))).1;obtain⟨L,hL⟩:∃ L,L=(dT t (dm size)).getD k []:=⟨_,rfl⟩
  rw[<-hL]at mW dp;refine ab ?_;refine aJ rfl (qci (vp:=cU os k) (L:=L) (ht.at hw) dp) ?_;rintro _ w' ⟨cv,ev,gv,rfl,aj⟩;rw[mW,qiD]at aj;rw[mW,iy rfl,qiD,qpR];have ct:=hw.call aj;clear aj hw;have hw:=ct;clear ct;refine⟨_,rfl,?_⟩;have o1:=(hw.rs 0 rfl).one;have o2:=(hw.rs 1 rfl).one;have o3:=(hw.rs 2 rfl).one;refine gm8 ?_;intro p w hw;refine gZ (n:=5) (p:=p) (vs:=[.int .i64 (aL t.vars L),.int .i64 (bj t.vars L t.init),cv,ev,gv]) rfl rfl hw inferInstance rfl rfl (by simp only[all_cons,all_nil,o1,o2,o3];rfl) ?_;clear hw;intro w hw
  repeat (first|refine bV ?_|(refine cB ?_;clear hw;intro s w hw))
  obtain⟨ov2,qi⟩:∃ ov2,ov2=s:=⟨s,rfl⟩
  subst qi;rw[<-qoC aK]at hw;exact⟨k+1,ov2,⟨rfl,rfl,trivial⟩,aH,⟨by omega,by omega,hw.tail.tail.tail.tail.tail⟩,by omega⟩
 refine ab ?_;have cH:os.take k=os.take 32:=by rw[take_of_length_le om,take_of_length_le om]
 rw[cH]at hw;exact dz (v:=ov) (v':=.nilIface) rfl rfl rfl ⟨ov,rfl,(Sat.rd (Δ:=[OS al 22 ov (os.take 32),Ab aa 3 os (dT t (dm size)),OS al 22 lv os,Ad pt 26 [a,b,c,d]]) (Γ:=[]) (φ:=fun w=>∃ ss,Co w ov ss (bR t size)) (fun _ _ h=>qrn h) hw).only⟩
def Bm (t:Aa) (Ls:List (List Int)) (qs:List Value) (Ds:List (List Int)) (w:World):Prop:=qs.length=Ds.length/\∀ i,i<Ds.length->∃ q,cU qs i=.pointer (some q)/\CN w q (kX t (Ls.getD i []) (Ds.getD i []))
def Cf (ps:List Value) (Ps:List (List Int)) (w:World):Prop:=ps.length=Ps.length/\∀ i,i<Ps.length->RS aa w (cU ps i) (Ps.getD i [])
def Dd (w:World) (p:Addr) (t:Aa) (Ls Ds Ps:List (List Int)):Prop:=∃ vv dv pv qs ps,AD w p [vv,dv,pv]/\RS aa w vv t.vars/\RS al w dv qs/\Bm t Ls qs Ds w/\RS al w pv ps/\Cf ps Ps w
theorem Bm.at {w0 w:World}{Γ:List HP}{t:Aa}{Ls:List (List Int)}{qs:List Value}{Ds:List (List Int)}(h:Bm t Ls qs Ds w0) (hw:Sat w0 w Γ):Bm t Ls qs Ds w:=⟨h.1,fun i hi=>let ⟨q,a,b⟩:=h.2 i hi;⟨q,a,b.at hw⟩⟩
theorem Cf.at {w0 w:World}{Γ:List HP}{ps:List Value}{Ps:List (List Int)}(h:Cf ps Ps w0) (hw:Sat w0 w Γ):Cf ps Ps w:=⟨h.1,fun i hi=>(h.2 i hi).at hw⟩
theorem Dd.at {w0 w:World}{Γ:List HP}{p:Addr}{t:Aa}{Ls Ds Ps:List (List Int)}(h:Dd w0 p t Ls Ds Ps) (hw:Sat w0 w Γ):Dd w p t Ls Ds Ps:=by
 obtain⟨vv,dv,pv,qs,ps,h1,h2,h3,h4,h5,h6⟩:=h;exact⟨vv,dv,pv,qs,ps,h1.at hw,h2.at hw,h3.at hw,h4.at hw,h5.at hw,h6.at hw⟩
theorem qhJ {ss:List Value}{v:Value}{i:Nat}(h:i<ss.length):cU (ss++[v]) i=cU ss i:=by simp[ng,getD_eq_getElem?_getD,getElem?_append_left h]
theorem qgl {ss:List Value}{v:Value}{i:Nat}(h:i=ss.length):cU (ss++[v]) i=v:=by subst h;simp[ng,getD_eq_getElem?_getD]
theorem Bm.snoc {t:Aa}{Ls:List (List Int)}{qs:List Value}{Ds:List (List Int)}{w:World}{q:Addr}{D:List Int}(h:Bm t Ls qs Ds w) (hq:CN w q (kX t (Ls.getD Ds.length []) D)):Bm t Ls (qs++[.pointer (some q)]) (Ds++[D]) w:=by
 have h1:=h.1;refine⟨by simp[h1],fun i hi=>?_⟩;simp only[length_append,length_cons,length_nil]at hi;by_cases e:i<Ds.length
 ·rw[qhJ om,yo e];exact h.2 i e
 ·have e2:i=Ds.length:=by omega
  rw[qgl om,wY e2,e2];exact⟨q,rfl,hq⟩
theorem Cf.snoc {ps:List Value}{Ps:List (List Int)}{w:World}{s:Value}{S:List Int}(h:Cf ps Ps w) (hs:RS aa w s S):Cf (ps++[s]) (Ps++[S]) w:=by
 have h1:=h.1;refine⟨by simp[h1],fun i hi=>?_⟩;simp only[length_append,length_cons,length_nil]at hi;by_cases e:i<Ps.length
 ·rw[qhJ om,yo e];exact h.2 i e
 ·have e2:i=Ps.length:=by omega
  rw[qgl om,wY e2];exact hs
open Classical in
noncomputable def kY (t:Aa) (Ls:List (List Int)):Int:=if bk t≠0 then bk t else if ∃ i,i<Ls.length/\¬AF t.vars (Ls.getD i []) then 2 else if 32<Ls.length then 5 else 0
def jT (t:Aa) (k:Nat):List Int:=(List.range t.ops.length).map fun i=>if i<k then (ar t).getD i aa.dflt else 0
theorem qsG (t:Aa) (k:Nat):(jT t k).length=t.ops.length:=by simp[jT]
theorem qpZ (t:Aa):jT t 0=replicate t.ops.length 0:=by
 apply ext_getElem (by simp[jT]);intro i h1 h2;simp[jT]
theorem qsH (t:Aa):jT t t.ops.length=ar t:=by
 apply ext_getElem (by simp[jT,ar]);intro i h1 h2;have hi:i<t.ops.length:=by simpa [jT] using h1
 simp[jT,hi,List.getD,h2]
theorem qsI {t:Aa}{k:Nat}:(jT t k).set k ((ar t).getD k aa.dflt)=jT t (k+1):=by
 apply ext_getElem (by simp[jT]);intro i h1 h2;rw[getElem_set];simp only[jT,getElem_map,getElem_range];split
 ·rename_i e;subst e;rw[if_pos om]
 ·by_cases h:i<k
  ·rw[if_pos h,if_pos om]
  ·rw[if_neg h,if_neg om]
theorem qv0 {t:Aa}{cs:List Int}(h:cs.length=t.ops.length):qY t cs=cs:=by
 unfold qY;split
 ·rename_i h0
  rw[eq_nil_of_length_eq_zero h0];exact eq_nil_of_length_eq_zero (by simp only[ar,length_map];omega)
 ·rfl
theorem AA.yJ {t:Aa}{c L:List Int}(h:AA t c) (hg:Af t) (hp:bM t L=0):fJ t L c=0:=by
 unfold fJ;rw[if_neg (by rw[(nZ t).2 hg];decide),if_neg (by have:=h.len;omega),if_neg (fun⟨x,hx,hb⟩=>by have:=h.cC x hx;unfold BH at hb;omega),hp]
theorem qtI {w0:World}{a b c d s:Value}{vs:List AK}{t:Aa}{ss:List Value}{Ls:List (List Int)}(ht:Am w0 a b c d vs t) (hl:Co w0 s ss Ls) (hP:Af t->(∀ i,i<Ls.length->AF t.vars (Ls.getD i []))->Ls.length<=32->∀ i,i<Ls.length->bM t (Ls.getD i [])=0) :
  Calls Tryz.prog 57 #[.agg #[a,b,c,d],s] w0 fun e w' =>
   (kY t Ls≠0/\e=.returned (.tuple #[.pointer none,bE (kY t Ls)])/\Sat w0 w' []) \/
   (kY t Ls=0/\Af t/\Ls.length<=32/\(∀ i,i<Ls.length->bM t (Ls.getD i [])=0)/\∃ p Ds Ps,e=.returned (.tuple #[.pointer (some p),.nilIface])/\Cx t Ls (ar t) Ds Ps/\Sat w0 w' [Aj fun w=>Dd w p t Ls Ds Ps]):=by
 have eF:=ht;obtain⟨ha,hb,hc,hd⟩:=ht;have jx:=hd.rs;have jZ:=hd.len;have mh:=hl.rs;have l6:=hl.len;have nO:=mh.bo;have hw:=Sat.start w0;refine bn (args:=[.agg #[a,b,c,d],s]) mixed Tryz.func57 ?_;refine db ?_;intro p w hw;obtain⟨pt,dO⟩:∃ pt,pt=p:=⟨p,rfl⟩
 subst dO;refine aJ rfl (sH (eF.at hw)) ?_;rintro _ w' ⟨rfl,aj⟩;refine aC ?_;clear aj hw;intro hw;by_cases h1:bk t=0;rotate_left
 ·have kT:kY t Ls=bk t:=if_pos h1
  rw[ep h1];refine ab ?_;exact dz (v:=.pointer none) (v':=.iface 57 (.int .i64 (bk t))) rfl rfl rfl (.inl ⟨by rw[kT];exact h1,by rw[kT,ep h1],hw.aT⟩)
 rw[iy h1];have hg:=(nZ t).1 h1;have l5:=hg.ops;refine ab ?_;refine aJ rfl (qoS (eF.at hw) (mM hw) (hl.at hw)) ?_;rintro _ w' ⟨⟨r,rfl,hr⟩,aj⟩;refine aC ?_;clear aj hw;intro hw;cases r;rotate_left
 ·have kT:kY t Ls=2:=by unfold kY;rw[if_neg (by simp[h1]),if_pos (hr.1 rfl)]
  refine ab ?_;exact dz (v:=.pointer none) (v':=.iface 57 (.int .i64 2)) rfl rfl rfl (.inl ⟨by rw[kT];decide,by rw[kT,ep (by decide)],hw.aT⟩)
 have qw4:∀ i,i<Ls.length->AF t.vars (Ls.getD i []):=fun i hi=>by
  by_cases h:AF t.vars (Ls.getD i [])
  ·exact h
  ·have:=hr.2 ⟨i,hi,h⟩;cases this
 have hnp:¬∃ i,i<Ls.length/\¬AF t.vars (Ls.getD i []):=fun⟨i,hi,h⟩=>h (qw4 i hi);refine ab ?_;refine ai ?_ ?_<;>intro h2
 ·have kT:kY t Ls=5:=by unfold kY;rw[if_neg (by simp[h1]),if_neg hnp,if_pos om]
  refine ab ?_;exact dz (v:=.pointer none) (v':=.iface 57 (.int .i64 5)) rfl rfl rfl (.inl ⟨by rw[kT];decide,by rw[kT,ep (by decide)],hw.aT⟩)
 have kT:kY t Ls=0:=by unfold kY;rw[if_neg (by simp[h1]),if_neg hnp,if_neg om]
 have qw5:Ls.length<=32:=by omega
 have qZ:=hP hg qw4 qw5;refine kq ?_;intro s w hw;obtain⟨lv,hlv⟩:∃ lv,lv=s:=⟨s,rfl⟩
 subst hlv;rw[show ((vs.length:Int)).toNat=t.ops.length by omega,<-qpZ t]at hw;refine cd [8,9,37,47] (G:=Nat) (fun k=>[(37,.int .i64 k)]) (fun k w=>k<=t.ops.length/\Sat w0 w [OS aa 3 lv (jT t k),Ad pt 26 [a,b,c,d]]) (fun k=>t.ops.length-k) 0 (fun _=>rfl) ⟨rfl,trivial⟩ ⟨zero_le _,hw⟩ ?_;clear hw;rintro σ k w ⟨hk,hw⟩;have eN:=qsG t k;refine ab ?_;refine ai ?_ ?_<;>intro h3
 ·have aK:k<t.ops.length:=by omega
  have bW:=hd.at_ k aK;have hone:=bW.one;have gg:=bW.cost;refine db ?_;intro p w hw;rw[gg,<-wV aK,qsI]at hw;exact⟨k+1,⟨rfl,trivial⟩,aH,⟨by omega,hw.aT⟩,by omega⟩
 have cH:k=t.ops.length:=by omega
 subst cH;rw[qsH]at hw;clear eN;have hC:=uq hg;have ru:t.vars.length<=1099511627776:=by have:=hg.vars;omega
 refine ab ?_;refine aJ rfl (lx (ha.at hw) ru) ?_;rintro _ w' ⟨vv,rfl,aj⟩;refine aA ?_;clear aj hw;intro hw;have ovv:=(hw.rs 0 rfl).one;refine qgy (v1:=vv) rfl rfl (by simp only[all_cons,all_nil,ovv];rfl) ?_;refine xP (vs:=[vv,.slice none 0 0,.slice none 0 0]) rfl hw ?_;clear hw;intro pp w hw;refine ab ?_;have bb:Sat w0 w [OS aa 3 lv (cy (ar t) [] 0),Aj (Bm t Ls [] []),Aj (Cf [] []),OS al 149 (.slice none 0 0) [],OS al 22 (.slice none 0 0) [],Ad pp 155 [vv,.slice none 0 0,.slice none 0 0],OS aa 3 vv t.vars,Ad pt 26 [a,b,c,d]]:=by
  have ct:Sat w0 w [Ad pp 155 [vv,.slice none 0 0,.slice none 0 0],OS aa 3 vv t.vars,OS aa 3 lv (ar t),Ad pt 26 [a,b,c,d]]:=hw;have gX:=Sat.nX (φ:=Cf [] []) (fun w=>⟨rfl,fun i hi=>absurd hi (not_lt_zero _)⟩) (Sat.nX (φ:=Bm t Ls [] []) (fun w=>⟨rfl,fun i hi=>absurd hi (not_lt_zero _)⟩) ((ct.nil (T:=al) (e:=149)).nil (T:=al) (e:=22)));rw[qhw];exact gX.aT
 clear hw;refine cd [4,5,12,16,55,107] (G:=Nat × Value × Value × List Value × List Value × List (List Int) × List (List Int)) (fun x=>[(55,.int .i64 x.1)]) (fun x w=>x.1<=Ls.length/\Cx t (Ls.take x.1) (ar t) x.2.2.2.2.2.1 x.2.2.2.2.2.2/\x.2.2.2.1.length=x.1/\x.2.2.2.2.1.length=x.1/\Sat w0 w [OS aa 3 lv (cy (ar t) x.2.2.2.2.2.2 x.1),Aj (Bm t Ls x.2.2.2.1 x.2.2.2.2.2.1),Aj (Cf x.2.2.2.2.1 x.2.2.2.2.2.2),OS al 149 x.2.1 x.2.2.2.1,OS al 22 x.2.2.1 x.2.2.2.2.1,Ad pp 155 [vv,x.2.1,x.2.2.1],OS aa 3 vv t.vars,Ad pt 26 [a,b,c,d]]) (fun x=>Ls.length-x.1) (0,.slice none 0 0,.slice none 0 0,[],[],[],[]) (fun _=>rfl) ⟨rfl,trivial⟩ ⟨zero_le _,Cx.nil t _,rfl,rfl,bb⟩ ?_;clear bb;rintro σ1 ⟨k,dv,pv,qs,ps,Ds,Ps⟩ w ⟨hk,hR,jY,iP,hw⟩;simp only at hk hR jY iP hw;have htk:(Ls.take k).length=k:=by rw[length_take];omega
 have qyN:Ds.length=k:=by rw[hR.dl,htk]
 have qyO:Ps.length=k:=by rw[hR.pl,htk]
 refine ab ?_;refine ai ?_ ?_<;>intro h4
 ·have aK:k<Ls.length:=by omega
  have nf:=qZ k aK;have wQ:AA t (cy (ar t) Ps k):=hR.cost hC k om;refine ab ?_;refine aJ rfl (qfh (kv:=lv) (vp:=cU ss k) (L:=(Ls.getD k [])) (cs:=cy (ar t) Ps k) (eF.at hw) ((hl.at_ k aK).at hw) (aM hw)) ?_;rintro _ w' (⟨s8,_⟩|⟨_,_,_,_,q,D,rfl,hD,aj⟩)
  ·exact absurd (wQ.yJ hg nf) s8
  rw[qv0 wQ.len]at hD;refine aA ?_;clear aj hw;intro hw;have uE:=qqv nf hD;refine ab ?_;refine aJ rfl (qhl (qx1 hw) uE) ?_;rintro _ w' ⟨sv,rfl,aj⟩;refine aA ?_;clear aj hw;intro hw;obtain⟨hCs,hSr⟩:=wQ.sub hD;have hm:(kX t (Ls.getD k []) D).sys.au.length=t.ops.length:=by show (ar t).length=_;simp[ar]
  rw[hm]at hw;have sW:(kI (aZ t (Ls.getD k [])) D t.ops.length).length=t.ops.length:=qsM;obtain⟨S,hS⟩:∃ S,S=kI (aZ t (Ls.getD k [])) D t.ops.length:=⟨_,rfl⟩
  have jv:=wQ.len;have bb:Sat w0 w' [OS aa 3 lv (iS (cy (ar t) Ps k) S 0),OS aa 3 sv S,Cj q (kX t (Ls.getD k []) D),Aj (Bm t Ls qs Ds),Aj (Cf ps Ps),OS al 149 dv qs,OS al 22 pv ps,Ad pp 155 [vv,dv,pv],OS aa 3 vv t.vars,Ad pt 26 [a,b,c,d]]:=by
   have ct:Sat w0 w' [OS aa 3 sv (kI (aZ t (Ls.getD k [])) D t.ops.length),Cj q (kX t (Ls.getD k []) D),OS aa 3 lv (cy (ar t) Ps k),Aj (Bm t Ls qs Ds),Aj (Cf ps Ps),OS al 149 dv qs,OS al 22 pv ps,Ad pp 155 [vv,dv,pv],OS aa 3 vv t.vars,Ad pt 26 [a,b,c,d]]:=hw;rw[<-hS]at ct;rw[qpu];exact ct.aT
  clear hw;have hw:=bb;clear bb;rw[<-hS]at hCs hSr sW;have hl0:=qmC (cy (ar t) Ps k) S 0;refine ab ?_;refine cd [16,16,73,86] (G:=Nat) (fun j=>[(73,.int .i64 j)]) (fun j w=>j<=t.ops.length/\Sat w0 w [OS aa 3 lv (iS (cy (ar t) Ps k) S j),OS aa 3 sv S,Cj q (kX t (Ls.getD k []) D),Aj (Bm t Ls qs Ds),Aj (Cf ps Ps),OS al 149 dv qs,OS al 22 pv ps,Ad pp 155 [vv,dv,pv],OS aa 3 vv t.vars,Ad pt 26 [a,b,c,d]]) (fun j=>t.ops.length-j) 0 (fun _=>rfl) ⟨rfl,trivial⟩ ⟨zero_le _,hw⟩ ?_;clear hw;rintro σ2 j w ⟨hj,hw⟩;have hlj:=qmC (cy (ar t) Ps k) S j;refine ab ?_;refine ai ?_ ?_<;>intro h5
  ·have cJ:j<t.ops.length:=by omega
   have pQ:=hSr j cJ;have kz:=wQ.at cJ;have rL:=quU (a:=cy (ar t) Ps k) (b:=S) (j:=j) om;refine fi ?_;intro w hw;rw[rL,qsi]at hw;exact⟨j+1,⟨rfl,trivial⟩,aH,⟨by omega,hw⟩,by omega⟩
  have iR:j=t.ops.length:=by omega
  subst iR;have uC:cy (ar t) (Ps++[S]) (k+1)=lH (cy (ar t) Ps k) S:=by
   rw[qeP (by simp;omega),qjM om,wY qyO.symm]
  have yY:iS (cy (ar t) Ps k) S t.ops.length=lH (cy (ar t) Ps k) S:=by rw[<-jv,qsh]
  rw[yY,<-uC]at hw;have hR2:Cx t (Ls.take (k+1)) (ar t) (Ds++[D]) (Ps++[S]):=by
   rw[dJ [] aK,hS];exact hR.snoc (by rw[htk];exact hD)
  have osv:=(aM (s:=sv) hw).dc;refine ab ?_;refine qeV (.s [0,1,2,3,4,6,9,10,11,13,5,12] (.d 7 [5,12] (.d 8 [12] (.c 14 [5,12] (.s [15,16,17,18,19,20,21] (.lin []))) (.d 14 [5,12] (.c 8 [12] (.s [15,16,17,18,19,20,21] (.lin []))) (.stop))) (.d 14 [5,12] (.c 7 [5,12] (.c 8 [12] (.s [15,16,17,18,19,20,21] (.lin [])))) (.stop)))) hw kr kr ?_;clear hw;intro w hw
  repeat' (first
   | refine bV ?_
   | (refine fL ?_;clear hw;intro w hw)
   | refine jz ?_ ?_
   | exact pU
   | (refine jh al (x1:=.pointer (some q)) rfl rfl rfl (le_of_ble_eq_true rfl) (zero_lt_succ _) hw ?_;clear hw;intro bq w hw)
   | (refine jh al (x1:=sv) rfl osv rfl (le_of_ble_eq_true rfl) (zero_lt_succ _) hw ?_;clear hw;intro bs w hw)
   | (refine rT (s:=dv) (s2:=bq) inferInstance rfl rfl (aM hw) rfl rfl (fun x hx v hv=>by rw[mem_singleton.1 hx]at hv;rw[mem_singleton.1 hv];rfl) (by simp only[length_cons,length_nil];omega) (by unfold bo;simp only[length_cons,length_nil];omega) hw ?_;clear hw;intro dv2 w hw)
   | (refine rT (s:=pv) (s2:=bs) inferInstance rfl rfl (aM hw) rfl rfl (fun x hx v hv=>by rw[mem_singleton.1 hx]at hv;rw[mem_singleton.1 hv];exact RS.one (aM (s:=sv) hw)) (by simp only[length_cons,length_nil];omega) (by unfold bo;simp only[length_cons,length_nil];omega) hw ?_;clear hw;intro pv2 w hw))
  all_goals (
   have ct:Sat w0 w [OS aa 3 lv (cy (ar t) (Ps++[S]) (k+1)),OS aa 3 sv S,Cj q (kX t (Ls.getD k []) D),Aj (Bm t Ls qs Ds),Aj (Cf ps Ps),OS al 149 dv2 (qs++[.pointer (some q)]),OS al 22 pv2 (ps++[sv]),Ad pp 155 [vv,dv2,pv2],OS aa 3 vv t.vars,Ad pt 26 [a,b,c,d]]:=hw.tail.tail;have bb:Sat w0 w [Cj q (kX t (Ls.getD k []) D),Aj (Bm t Ls qs Ds),OS aa 3 sv S,Aj (Cf ps Ps),OS aa 3 lv (cy (ar t) (Ps++[S]) (k+1)),OS al 149 dv2 (qs++[.pointer (some q)]),OS al 22 pv2 (ps++[sv]),Ad pp 155 [vv,dv2,pv2],OS aa 3 vv t.vars,Ad pt 26 [a,b,c,d]]:=ct.aT;have gX:=Sat.rd2 (χ:=Bm t Ls (qs++[.pointer (some q)]) (Ds++[D])) (fun w h1 h2=>h2.snoc (by rw[qyN];exact h1)) (Sat.rd (Δ:=[Cj q (kX t (Ls.getD k []) D)]) (φ:=fun w=>CN w q (kX t (Ls.getD k []) D)) (fun _ _ h=>mT h 0 rfl) bb);have yq:Sat w0 w [OS aa 3 sv S,Aj (Cf ps Ps),Aj (Bm t Ls (qs++[.pointer (some q)]) (Ds++[D])),OS aa 3 lv (cy (ar t) (Ps++[S]) (k+1)),OS al 149 dv2 (qs++[.pointer (some q)]),OS al 22 pv2 (ps++[sv]),Ad pp 155 [vv,dv2,pv2],OS aa 3 vv t.vars,Ad pt 26 [a,b,c,d]]:=gX.aT;have hw5:=Sat.rd2 (χ:=Cf (ps++[sv]) (Ps++[S])) (fun w h1 h2=>h2.snoc h1) (Sat.rd (Δ:=[OS aa 3 sv S]) (φ:=fun w=>RS aa w sv S) (fun _ _ h=>h.rs 0 rfl) yq)
   exact⟨(k+1,dv2,pv2,qs++[.pointer (some q)],ps++[sv],Ds++[D],Ps++[S]),⟨rfl,trivial⟩,aH,⟨aK,hR2,by simp[jY],by simp[iP],hw5.aT⟩,by simp only;omega⟩)
 ·have cH:k=Ls.length:=by omega
  subst cH;rw[take_length]at hR;refine ab ?_;have bb:Sat w0 w [Aj (Bm t Ls qs Ds),Aj (Cf ps Ps),OS al 149 dv qs,OS al 22 pv ps,Ad pp 155 [vv,dv,pv],OS aa 3 vv t.vars]:=hw.aT;have ct:=Sat.rd (Δ:=[Aj (Bm t Ls qs Ds),Aj (Cf ps Ps),OS al 149 dv qs,OS al 22 pv ps,Ad pp 155 [vv,dv,pv],OS aa 3 vv t.vars]) (Γ:=[]) (φ:=fun w=>Dd w pp t Ls Ds Ps) (fun _ w h=>⟨vv,dv,pv,qs,ps,h.mR 4 rfl,h.rs 5 rfl,h.rs 2 rfl,h.dM 0 rfl,h.rs 3 rfl,h.dM 1 rfl⟩) bb;exact dz (v:=.pointer (some pp)) (v':=.nilIface) rfl rfl rfl (.inr ⟨kT,hg,qw5,qZ,pp,Ds,Ps,rfl,hR,ct⟩)
theorem qmc {w0:World}{p:Addr}{t:Aa}{Ls Ds Ps:List (List Int)}{c:List Int}{sv:Value}{s:List Int}(hr:Dd w0 p t Ls Ds Ps) (hR:Cx t Ls c Ds Ps) (hl:Ls.length<=32) (hp:∀ i,i<Ls.length->bM t (Ls.getD i [])=0) (hs:RS aa w0 sv s) :
  Calls Tryz.prog 329 #[.pointer (some p),sv] w0 fun e w'=>e=.returned (.int .i64 (eA t Ls Ds s))/\Sat w0 w' []:=by
 obtain⟨vv,dv,pv,qs,ps,h1,h2,h3,h4,h5,h6⟩:=hr;have jY:=h4.1;have jZ:=hR.dl;have hw:=Sat.start w0;refine bn (args:=[.pointer (some p),sv]) mixed Tryz.func329 ?_;refine ab ?_;refine aJ rfl (wB h2 (hs.at hw)) ?_;rintro _ w' ⟨⟨r,rfl,hr⟩,aj⟩;refine aC ?_;clear aj hw;intro hw;cases r
 ·rw[qsj (fun h=>by have:=hr.2 h;cases this)]
  refine ab ?_;exact aW (v:=.int .i64 1125899906842624) rfl rfl ⟨rfl,hw⟩
 have br:=hr.1 rfl;have o8:∀ k,k<Ls.length->0<=aX t Ls Ds s k/\aX t Ls Ds s k<=1125899906842624:=fun k hk=>qiM (qez (hp k hk)).2.1 (hR.bf k hk) br;refine ab ?_;refine cd [4,5,7,8,23,35] (G:=Nat) (fun k=>[(23,.int .i64 k),(5,.int .i64 (gJ (aX t Ls Ds s) k))]) (fun k w=>k<=Ls.length/\(∀ i,i<k->aX t Ls Ds s i≠1125899906842624)/\Sat w0 w []) (fun k=>Ls.length-k) 0 (fun _=>rfl) ⟨rfl,rfl,trivial⟩ ⟨zero_le _,fun i hi=>absurd hi (not_lt_zero _),hw⟩ ?_;clear hw;rintro σ k w ⟨hk,cY,hw⟩;refine ab ?_;refine ai ?_ ?_<;>intro h7
 ·have aK:k<Ls.length:=by omega
  obtain⟨q,hq,uE⟩:=h4.2 k om;have hdo:=qqv (hp k aK) (hR.bf k aK);have nt:sy (kX t (Ls.getD k []) (Ds.getD k [])) s=aX t Ls Ds s k:=qla br;have hvk:=o8 k aK;have hsb:=qpw (n:=k) (f:=aX t Ls Ds s) (B:=1125899906842624) fun i hi=>o8 i om;have jX:=um (aX t Ls Ds s) k;refine ab ?_;rw[hq];refine aJ rfl (qh5 (uE.at hw) hdo (hs.at hw)) ?_;rintro _ w' ⟨rfl,aj⟩;replace hw:=hw.bz aj;clear aj;rw[nt];refine⟨_,rfl,?_⟩;refine ab ?_;refine ai ?_ ?_<;>intro h8
  ·rw[qjN br aK h8]
   refine ab ?_;exact aW (v:=.int .i64 1125899906842624) rfl rfl ⟨rfl,hw⟩
  ·refine ab ?_
   refine⟨k+1,⟨rfl,by rw[jX];rfl,trivial⟩,aH,⟨by omega,fun i hi=>?_,hw⟩,by omega⟩;by_cases e:i=k
   ·subst e;exact h8
   ·exact cY i om
 ·have cH:k=Ls.length:=by omega
  subst cH;rw[qjO br cY];refine ab ?_;exact aW (v:=.int .i64 (gJ (aX t Ls Ds s) Ls.length)) rfl rfl ⟨rfl,hw⟩
open Classical in
noncomputable def kf (t:Aa) (Ls Ds:List (List Int)) (s:List Int):Int:=if Ac t.vars s then eA t Ls Ds s else 0
theorem qlQ {t:Aa}{Ls Ds:List (List Int)}{s:List Int}(h:Ac t.vars s):kf t Ls Ds s=eA t Ls Ds s:=if_pos h
theorem qqU {t:Aa}{size:Int}{Ds Ps:List (List Int)}(hs:AB t) (hR:Cx t (bR t size) (ar t) Ds Ps):BX t (bR t size) Ds Ps :=
 ⟨hR,hs.cr,fun _ hk=>vU hk,fun _ hk=>Int.le_trans (zC hs.cr.pos (vU hk)) hs.many,qdI t size⟩
section
variable {t:Aa}{Ls Ds Ps:List (List Int)}
theorem BX.br (h:BX t Ls Ds Ps):Dh t (kf t Ls Ds):=by
 have key:∀ s,0<=kf t Ls Ds s/\kf t Ls Ds s<=inf:=fun s=>by
  unfold kf;split
  ·rename_i hs;exact(h.fin hs).2.2
  ·exact⟨Int.le_refl _,by decide⟩
 exact⟨h.cr,fun y=>(key y).1,fun y=>(key y).2⟩
theorem BX.cons (h:BX t Ls Ds Ps):Cons t (kf t Ls Ds):=fun s op hs ho ha=>by
 have dW:=qA h.cr hs ho;rw[qlQ hs,qlQ dW];have hc:=zZ h.cr ho;have h1:=(h.fin hs).2.2.2;by_cases hf:eA t Ls Ds (bm t s op)<inf
 ·have:=(h.step hs ho ha hf).2
  rw[wV ho]at this;exact this
 ·omega
end
theorem qtk {t:Aa}{size:Int}(hs:AB t):kY t (bR t size)=0:=by
 have hg:=(nZ t).2 hs.cr;have hl:=qdI t size;unfold kY;rw[if_neg (by rw[hg];decide),if_neg (fun⟨i,hi,h⟩=>h (vU hi).pat),if_neg om]
theorem qtl {w:World}{t:Aa}{p:Addr}{size:Int}{Ds Ps:List (List Int)}(hs:AB t) (h:Dd w p t (bR t size) Ds Ps) (hR:Cx t (bR t size) (ar t) Ds Ps):A0 w (.iface 108 (.pointer (some p))) t (kf t (bR t size) Ds) :=
 ⟨_,_,_,_,rfl,qfR _,inferInstance,fun _ _ _ _ hw mH br=>by
  rw[qlQ br]
  exact qmc (h.at hw) hR (qdI t size) (fun _ hi=>qnB hs hi) mH⟩
theorem qha {w0:World}{a b c d:Value}{vs:List AK}{t:Aa}{size:Int}(ht:Am w0 a b c d vs t) (hs:AB t) :
  Calls Tryz.prog 31 #[.agg #[a,b,c,d],.int .i64 size] w0 fun e w'=>∃ p Ds Ps,e=.returned (.tuple #[.pointer (some p),.nilIface])/\Cx t (bR t size) (ar t) Ds Ps/\Sat w0 w' [Aj fun w=>Ay w p t (kf t (bR t size) Ds)]:=by
 have hg:=hs.cr;have hw:=Sat.start w0;refine bn (args:=[.agg #[a,b,c,d],.int .i64 size]) mixed Tryz.func31 ?_;refine cK ?_;intro p w hw;obtain⟨pt,dO⟩:∃ pt,pt=p:=⟨p,rfl⟩
 subst dO;refine aJ rfl (qfy (ht.at hw) hs) ?_;rintro _ w' ⟨ov,rfl,aj⟩;refine aA ?_;clear aj hw;intro hw;obtain⟨os,ui⟩:=hw.dM 0 rfl;refine ab ?_;obtain⟨os,ui⟩:=hw.dM 0 rfl;refine aJ rfl (qtI (ht.at hw) ui (fun _ _ _ i hi=>qnB hs hi)) ?_;rintro _ w' (⟨h1,_⟩|⟨_,_,_,_,ps,Ds,Ps,rfl,hR,aj⟩)
 ·exact absurd (qtk hs) h1
 refine aA ?_;clear aj hw;intro hw;refine ab ?_;refine aJ rfl (wC (h:=.iface 108 (.pointer (some ps))) (H:=kf t (bR t size) Ds) (ht.at hw) hg ⟨_,_,rfl⟩) ?_;rintro _ w' ⟨pe,rfl,aj⟩;refine aA ?_;clear aj hw;intro hw;refine ab ?_;have ct:Sat w0 w' (([Aj fun w=>A0 w (.iface 108 (.pointer (some ps))) t (kf t (bR t size) Ds)->Ay w pe t (kf t (bR t size) Ds),Aj fun w=>Dd w ps t (bR t size) Ds Ps]:List HP)++[Aj fun w=>∃ ss,Co w ov ss (bR t size),Ad pt 26 [a,b,c,d]]):=hw;have gX:=Sat.rd (φ:=fun w=>Ay w pe t (kf t (bR t size) Ds)) (fun _ w h=>(h.dM 0 rfl) (qtl hs (h.dM 1 rfl) hR)) ct;exact dz (v:=.pointer (some pe)) (v':=.nilIface) rfl rfl rfl ⟨pe,Ds,Ps,rfl,hR,gX.only⟩
end
section
open Go.Sl
def mo (V:List Int) (o f:Int):Int:=if o<0\/dg V o<dg V f\/(dg V f=dg V o/\f<o) then f else o
def fq (V l:List Int):Int:=l.foldl (mo V) (-1)
theorem qkf (V l:List Int) (f:Int):fq V (l++[f])=mo V (fq V l) f:=by simp[fq]
theorem vL {V:List Int}:∀ {l:List Int},(∀ f∈l,0<=f)->(l=[]/\fq V l = -1)\/(0<=fq V l/\Bc V l (fq V l)):=by
 intro l;refine kx (P:=fun l=>(∀ f∈l,0<=f)->(l=[]/\fq V l = -1)\/(0<=fq V l/\Bc V l (fq V l))) (fun _=>.inl ⟨rfl,rfl⟩) ?_ l;intro l f ih h;right;have hf:=h f (by simp);rw[qkf];rcases ih fun g hg=>h g (by simp[hg]) with ⟨e,h1⟩|⟨h0,h1,h2⟩
 ·rw[h1,e]
  have:mo V (-1) f=f:=if_pos (.inl (by decide));rw[this]
  exact⟨hf,by simp,fun g hg=>by
   have:g=f:=by simpa using hg
   rw[this];exact .inr ⟨rfl,Int.le_refl _⟩⟩
 ·unfold mo
  split
  ·rename_i hc
   refine⟨hf,by simp,fun g hg=>?_⟩;rcases mem_append.1 hg with hg|hg
   ·rcases h2 g hg with h3|h3<;>omega
   ·rw[mem_singleton.1 hg];exact .inr ⟨rfl,Int.le_refl _⟩
  ·rename_i hc
   refine⟨h0,by simp[h1],fun g hg=>?_⟩;rcases mem_append.1 hg with hg|hg
   ·exact h2 g hg
   ·rw[mem_singleton.1 hg];omega
def gz (V l:List Int):Int:=if fq V l<0 then 0 else dg V (fq V l)
theorem xB {V l:List Int}(hl:∀ f∈l,0<=f/\0<=dg V f) {b:Int}(hb:0<=b):gz V l<=b↔∀ f∈l,dg V f<=b:=by
 unfold gz;rcases vL (V:=V) (l:=l) fun f hf=>(hl f hf).1 with ⟨e,h1⟩|⟨h0,h1⟩
 ·rw[h1,if_pos (by decide),e]
  exact⟨fun _ f hf=>absurd hf not_mem_nil,fun _=>hb⟩
 ·rw[if_neg om]
  exact⟨fun h f hf=>Int.le_trans (h1.ge hf) h,fun h=>h _ h1.1⟩
theorem xo {V l:List Int}(hl:∀ f∈l,0<=f/\0<=dg V f):0<=gz V l:=by
 unfold gz;rcases vL (V:=V) (l:=l) fun f hf=>(hl f hf).1 with ⟨_,h1⟩|⟨h0,h1⟩
 ·rw[h1,if_pos (by decide)];exact Int.le_refl _
 ·rw[if_neg om];exact(hl _ h1.1).2
theorem qlD {V l:List Int}(hl:∀ f∈l,0<=f/\0<=dg V f):gz V l<inf↔BY V l:=by
 have h:=xB (V:=V) hl (b:=inf-1) (by decide);unfold BY;constructor
 ·intro h1 g hg;have:=h.1 om g hg;omega
 ·intro h1;have:=h.2 fun g hg=>by have:=h1 g hg;omega
  omega
theorem qdA {V:List Int}{b:Int}:∀ {l:List Int}{a:Int},l.foldl (fun m n=>max m (dg V n)) a<=b↔a<=b/\∀ f∈l,dg V f<=b
 | [],a=>by simp
 | x::l,a=>by
  rw[foldl_cons,qdA (l:=l)];constructor
  ·rintro⟨h1,h2⟩
   have h3:=Int.max_le.1 h1
   exact⟨h3.1,fun f hf=>by
    rcases mem_cons.1 hf with e|hf
    ·rw[e];exact h3.2
    ·exact h2 f hf⟩
  ·rintro⟨h1,h2⟩
   exact⟨Int.max_le.2 ⟨h1,h2 x mem_cons_self⟩,fun f hf=>h2 f (mem_cons_of_mem _ hf)⟩
theorem qqi {V l:List Int}(hl:∀ f∈l,0<=f/\0<=dg V f):gz V l=l.foldl (fun m n=>max m (dg V n)) 0:=by
 refine Int.le_antisymm ?_ ?_
 ·have h0:(0:Int)<=l.foldl (fun m n=>max m (dg V n)) 0:=(qdA.1 (Int.le_refl _)).1
  exact(xB hl h0).2 (qdA.1 (Int.le_refl _)).2
 ·exact qdA.2 ⟨xo hl,(xB hl (xo hl)).1 (Int.le_refl _)⟩
def BB (l m:List Int):Prop:=∀ x,x∈l↔x∈m
theorem qqj {V l m:List Int}(h:BB l m) {f:Int}:Bc V l f↔Bc V m f:=by
 unfold Bc;rw[h f];exact⟨fun⟨a,b⟩=>⟨a,fun g hg=>b g ((h g).2 hg)⟩,fun⟨a,b⟩=>⟨a,fun g hg=>b g ((h g).1 hg)⟩⟩
theorem qm4 {l m:List Int}(h:BB l m):l=[]↔m=[]:=by
 constructor
 ·intro e;subst e
  cases m with
  | nil=>rfl
  | cons x m=>exact absurd ((h x).2 mem_cons_self) not_mem_nil
 ·intro e;subst e
  cases l with
  | nil=>rfl
  | cons x l=>exact absurd ((h x).1 mem_cons_self) not_mem_nil
structure C5 (t:Aa) (z D:List Int):Prop where
 len:D.length=ay t
 cC:∀ g:Int,0<=g->g<ay t->0<=dg D g/\dg D g<=inf
 mG:∀ g:Int,0<=g->g<ay t->dg D g<inf->Be (bh t) (BF t.vars z) g (dg D g)
 st:∀ g,BF t.vars z g->dg D g<=0
section
variable {t:Aa}{z D:List Int}
theorem C5.rI (h:C5 t z D) (hg:Af t) {i:Nat}(hi:i<(bh t).length) {L:List Int}(hL:BB L (un (bh t) i).an):∀ f∈L,(0<=f/\0<=dg D f)/\f<ay t:=fun f hf=>by
 have hr:=(qF hg).an i hi f ((hL f).1 hf);exact⟨⟨hr.1,(h.cC f hr.1 hr.2).1⟩,hr.2⟩
theorem C5.oP (h:C5 t z D) (hg:Af t) {i:Nat}(hi:i<(bh t).length) {L:List Int}(hL:BB L (un (bh t) i).an) (h1:gz D L<inf) (h2:gz D L+(un (bh t) i).cost<dg D (un (bh t) i).makes) :
  C5 t z (D.set (un (bh t) i).makes.toNat (gz D L+(un (bh t) i).cost))/\fa (D.set (un (bh t) i).makes.toNat (gz D L+(un (bh t) i).cost))<fa D:=by
 have hU:=qF hg;have hm:=hU.makes i hi;have hc:=hU.cost i hi;have hn:=fun f hf=>(h.rI hg hi hL f hf).1;have nP:=xo hn;have cZ:=(qlD hn).1 h1;have hle:=(xB hn nP).1 (Int.le_refl _);have hlen:=h.len;have hr:=h.cC _ hm.1 hm.2
 have hd:Be (bh t) (BF t.vars z) (un (bh t) i).makes ((un (bh t) i).cost+gz D L):=.gK (v:=fun n=>dg D n) hi nP (fun n iB=>by
  have h3:=(hL n).2 iB;have h4:=hU.an i hi n iB
  exact h.mG n h4.1 h4.2 (cZ n h3)) fun n iB=>hle n ((hL n).2 iB)
 rw[Int.add_comm]at hd;have fN:∀ g:Int,0<=g->dg (D.set (un (bh t) i).makes.toNat (gz D L+(un (bh t) i).cost)) g=if g=(un (bh t) i).makes then gz D L+(un (bh t) i).cost else dg D g:=fun g h0=>qhK h0 hm.1 om
 refine⟨⟨by rw[length_set];exact hlen,fun g h0 s8 => ?_,fun g h0 s8 h3=>?_,fun g hs=>?_⟩,qiO om (by simp only[dg]at *;omega)⟩
 ·rw[fN g h0]
  split
  ·omega
  ·exact h.cC g h0 s8
 ·rw[fN g h0]at h3 ⊢
  split
  ·rename_i e;rw[e];exact hd
  ·rename_i e;rw[if_neg e]at h3;exact h.mG g h0 s8 h3
 ·by_cases h0:0<=g
  ·rw[fN g h0]
   have h5:=h.st g hs;split
   ·rename_i e;rw[<-e]at h2;omega
   ·exact h5
  ·have h5:=h.st g hs
   have e1:dg (D.set (un (bh t) i).makes.toNat (gz D L+(un (bh t) i).cost)) g=dg (D.set (un (bh t) i).makes.toNat (gz D L+(un (bh t) i).cost)) 0:=by unfold dg;rw[show g.toNat=(0:Int).toNat by omega]
   have e2:dg D g=dg D 0:=by unfold dg;rw[show g.toNat=(0:Int).toNat by omega]
   rw[e2]at h5;rw[e1,fN 0 (Int.le_refl _)];split
   ·rename_i e;rw[<-e]at h2;omega
   ·exact h5
theorem C5.fin (h:C5 t z D) (hg:Af t) (cu:∀ i:Nat,i<(bh t).length->gz D (un (bh t) i).an<inf->dg D (un (bh t) i).makes<=gz D (un (bh t) i).an+(un (bh t) i).cost):AW t z D:=by
 have hU:=qF hg;refine qqy h.len h.cC hU h.st (fun i hi=>?_) h.mG;have hn:=fun f hf=>(h.rI hg hi (L:=(un (bh t) i).an) (fun _=>Iff.rfl) f hf).1;rw[<-qqi hn];have hm:=hU.makes i hi;have hr:=h.cC _ hm.1 hm.2;have hc:=hU.cost i hi;by_cases hf:gz D (un (bh t) i).an<inf
 ·have:=cu i hi hf;omega
 ·omega
end
theorem qm5 {V l m:List Int}(h:BB l m) (hl:∀ f∈l,0<=f/\0<=dg V f):gz V l=gz V m:=by
 have hm:∀ f∈m,0<=f/\0<=dg V f:=fun f hf=>hl f ((h f).2 hf);refine Int.le_antisymm ?_ ?_
 ·exact(xB hl (xo hm)).2 fun f hf=>(xB hm (xo hm)).1 (Int.le_refl _) f ((h f).1 hf)
 ·exact(xB hm (xo hl)).2 fun f hf=>(xB hl (xo hl)).1 (Int.le_refl _) f ((h f).2 hf)
theorem qiU {t:Aa}{cs:List Int}{i:Nat}(hi:i<(bh t).length):(bh (aF t cs)).length=(bh t).length/\(un (bh (aF t cs)) i).op=(un (bh t) i).op/\(un (bh (aF t cs)) i).makes=(un (bh t) i).makes/\(un (bh (aF t cs)) i).an=(un (bh t) i).an/\(un (bh (aF t cs)) i).cost=cs.getD (un (bh t) i).op.toNat aa.dflt:=by
 have key:∀ k,k<=t.ops.length->eR (aF t cs) k=(eR t k).map fun u=>{ u with cost:=cs.getD u.op.toNat aa.dflt }:=by
  intro k
  induction k with
  | zero=>intro _;simp[eR]
  | succ k ih =>
   intro hk;rw[u0,u0,ih om,map_append,xn om];congr 1;unfold jn;rw[map_map];refine map_congr_left fun j _=>?_;simp[uZ,aF]
 have e:bh (aF t cs)=(bh t).map fun u=>{ u with cost:=cs.getD u.op.toNat aa.dflt }:=by
  have:=key t.ops.length (Nat.le_refl _);unfold bh;rw[vy];exact this
 have h1:un (bh (aF t cs)) i={ un (bh t) i with cost:=cs.getD (un (bh t) i).op.toNat aa.dflt }:=by
  rw[e];unfold un;rw[Int.toNat_natCast,getD_at (by rw[length_map];exact hi),getElem_map,getD_at hi]
 exact⟨by rw[e,length_map],by rw[h1],by rw[h1],by rw[h1],by rw[h1]⟩
end
section
open Go.Sl Go
attribute [local irreducible] vc opsW opsD opV opW PureV ReadV Thn Blk
theorem qcl {w0:World}{lv vv:Value}{l V:List Int}(hl:RS aa w0 lv l) (hv:RS aa w0 vv V) (hr:∀ f∈l,0<=f/\f<V.length) :
  Calls Tryz.prog 271 #[lv,vv] w0 fun e w'=>e=.returned (.int .i64 (fq V l))/\Sat w0 w' []:=by
 have nO:=hl.bo;have ru:=hv.bo;have hw:=Sat.start w0;refine bn (args:=[lv,vv]) mixed Tryz.func271 ?_;refine ab ?_;refine dj [5,5,7,7,10,44] (G:=Nat) (H:=Int) (fun k o=>[(10,.int .i64 k),(5,.int .i64 o)]) (fun k o w=>k<=l.length/\o=fq V (l.take k)/\(o<0\/(0<=o/\o<V.length))/\Sat w0 w []) (fun k _=>l.length-k) 0 (-1) (fun _ _=>rfl) ⟨rfl,rfl,trivial⟩ ⟨zero_le _,rfl,.inl (by decide),hw⟩ ?_;clear hw;rintro σ k o w ⟨hk,ho,mi,hw⟩;refine ab ?_;refine ai ?_ ?_<;>intro h1
 ·have aK:k<l.length:=by omega
  have hf:=hr _ (bY aa.dflt aK);have uC:fq V (l.take (k+1))=mo V o (l.getD k aa.dflt):=by rw[dJ aa.dflt aK,qkf,<-ho]
  refine ab ?_;refine nK ?_;clear hw;intro w hw;by_cases c1:o<0
  ·have ee:decide (o<0)=true:=decide_eq_true c1
   have hc:o<0\/dg V o<dg V (l.getD k aa.dflt)\/(dg V (l.getD k aa.dflt)=dg V o/\(l.getD k aa.dflt)<o):=.inl c1;refine ab ?_
   try simp only[ee];refine cX ?_
   refine ab ?_;exact⟨k+1,(l.getD k aa.dflt),⟨rfl,rfl,trivial⟩,aH,⟨by omega,by rw[uC,mo,if_pos hc],.inr hf,hw⟩,by omega⟩
  have ee:decide (o<0)=false:=decide_eq_false c1;have ho2:0<=o/\o<V.length:=by
   rcases mi with h|h
   ·exact absurd h c1
   ·exact h
  by_cases c2:dg V o<dg V (l.getD k aa.dflt)
  ·have jI:decide (V.getD o.toNat aa.dflt<V.getD ((l.getD k aa.dflt)).toNat aa.dflt)=true:=decide_eq_true c2
   have hc:o<0\/dg V o<dg V (l.getD k aa.dflt)\/(dg V (l.getD k aa.dflt)=dg V o/\(l.getD k aa.dflt)<o):=.inr (.inl c2);refine ab ?_
   try simp only[ee];refine cX ?_
   refine ab ?_
   try simp only[jI];refine cX ?_
   refine ab ?_;exact⟨k+1,(l.getD k aa.dflt),⟨rfl,rfl,trivial⟩,aH,⟨by omega,by rw[uC,mo,if_pos hc],.inr hf,hw⟩,by omega⟩
  have jI:decide (V.getD o.toNat aa.dflt<V.getD ((l.getD k aa.dflt)).toNat aa.dflt)=false:=decide_eq_false c2;by_cases c3:dg V (l.getD k aa.dflt)=dg V o
  ·have zY:decide (V.getD ((l.getD k aa.dflt)).toNat aa.dflt=V.getD o.toNat aa.dflt)=true:=decide_eq_true c3
   by_cases c4:(l.getD k aa.dflt)<o
   ·have hd4:decide ((l.getD k aa.dflt)<o)=true:=decide_eq_true c4
    have hc:o<0\/dg V o<dg V (l.getD k aa.dflt)\/(dg V (l.getD k aa.dflt)=dg V o/\(l.getD k aa.dflt)<o):=.inr (.inr ⟨c3,c4⟩);refine ab ?_
    try simp only[ee];refine cX ?_
    refine ab ?_
    try simp only[jI];refine cX ?_
    refine ab ?_
    try simp only[zY];refine cX ?_
    refine ab ?_
    try simp only[hd4];refine cX ?_
    refine ab ?_;exact⟨k+1,(l.getD k aa.dflt),⟨rfl,rfl,trivial⟩,aH,⟨by omega,by rw[uC,mo,if_pos hc],.inr hf,hw⟩,by omega⟩
   ·have hd4:decide ((l.getD k aa.dflt)<o)=false:=decide_eq_false c4
    have hc:¬(o<0\/dg V o<dg V (l.getD k aa.dflt)\/(dg V (l.getD k aa.dflt)=dg V o/\(l.getD k aa.dflt)<o)):=fun h=>by
     rcases h with h|h|h
     ·exact c1 h
     ·exact c2 h
     ·exact c4 h.2
    refine ab ?_
    try simp only[ee];refine cX ?_
    refine ab ?_
    try simp only[jI];refine cX ?_
    refine ab ?_
    try simp only[zY];refine cX ?_
    refine ab ?_
    try simp only[hd4];refine cX ?_
    refine ab ?_;exact⟨k+1,o,⟨rfl,rfl,trivial⟩,aH,⟨by omega,by rw[uC,mo,if_neg hc],mi,hw⟩,by omega⟩
  ·have zY:decide (V.getD ((l.getD k aa.dflt)).toNat aa.dflt=V.getD o.toNat aa.dflt)=false:=decide_eq_false c3
   have hc:¬(o<0\/dg V o<dg V (l.getD k aa.dflt)\/(dg V (l.getD k aa.dflt)=dg V o/\(l.getD k aa.dflt)<o)):=fun h=>by
    rcases h with h|h|h
    ·exact c1 h
    ·exact c2 h
    ·exact c3 h.1
   refine ab ?_
   try simp only[ee];refine cX ?_
   refine ab ?_
   try simp only[jI];refine cX ?_
   refine ab ?_
   try simp only[zY];refine cX ?_
   refine ab ?_;exact⟨k+1,o,⟨rfl,rfl,trivial⟩,aH,⟨by omega,by rw[uC,mo,if_neg hc],mi,hw⟩,by omega⟩
 have cH:k=l.length:=by omega
 rw[cH,take_of_length_le (Nat.le_refl _)]at ho;refine ab ?_;exact aW (v:=.int .i64 o) rfl rfl ⟨by rw[ho],hw⟩
theorem qcT {w0:World}{lv vv:Value}{l V:List Int}(hl:RS aa w0 lv l) (hv:RS aa w0 vv V) (hr:∀ f∈l,0<=f/\f<V.length) :
  Calls Tryz.prog 269 #[lv,vv] w0 fun e w'=>e=.returned (.int .i64 (gz V l))/\Sat w0 w' []:=by
 have hw:=Sat.start w0;refine bn (args:=[lv,vv]) mixed Tryz.func269 ?_;refine ab ?_;refine aJ rfl (qcl (hl.at hw) (hv.at hw) hr) ?_;rintro _ w' ⟨rfl,aj⟩;refine aC ?_;clear aj hw;intro hw;have hg:=vL (V:=V) (l:=l) fun f hf=>(hr f hf).1;refine ab ?_;refine ai ?_ ?_<;>intro h1
 ·have hm:fq V l∈l:=by
   rcases hg with ⟨_,h⟩|⟨_,h⟩
   ·omega
   ·exact h.1
  have h2:=hr _ hm;have e:gz V l=dg V (fq V l):=if_neg om;refine ab ?_;exact aW (v:=.int .i64 (V.getD (fq V l).toNat aa.dflt)) rfl rfl ⟨by rw[e],hw⟩
 ·have e:gz V l=0:=if_pos om
  refine ab ?_;exact aW (v:=.int .i64 0) rfl rfl ⟨by rw[e],hw⟩
end
end Go.Proofs.YtmapkjoefdgjfaaGreatDoor
