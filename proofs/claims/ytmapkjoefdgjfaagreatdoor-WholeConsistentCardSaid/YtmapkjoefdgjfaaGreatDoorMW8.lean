/- Several texts. -/
import Derived.Test.YtmapkjoefdgjfaaGreatDoorMW7
set_option linter.unusedSimpArgs false
set_option linter.unusedVariables false
set_option maxRecDepth 8000
set_option maxHeartbeats 16000000
open List Nat
namespace Go.Proofs.YtmapkjoefdgjfaaGreatDoor
section
open Go.Sl Go
attribute [local irreducible] vc opsW opsD opV opW PureV ReadV Thn Blk
theorem qg4 {w0 w:World}{Γ:List HP}{pa:Addr}{vv sv dv sc se sg:Value}{ex:Bool}{S:Ak}{most:Int}(hw:Sat w0 w (Ad pa 164 [vv,sv,dv,.bool ex]::Aj (fun w=>Aw w sc se sg S)::Γ)) (hT:Bv w0) (cu:0<=S.st/\S.st<=4096) :
  Calls Tryz.prog 116 #[.pointer (some pa),bN S sc se sg,.int .i64 most] w fun e w'=>∃ cv ev gv v ex',e=.returned (.tuple #[bN (cb S most) cv ev gv,v,bE (bA S most)])/\Sat w0 w' (Ad pa 164 [vv,sv,dv,.bool ex']::OS aa 3 v (dZ S most)::Aj (fun w=>Aw w cv ev gv (cb S most))::Γ):=by
 have oS:=(hw.dM 1 rfl).jE;obtain⟨n,l7⟩:∃ n:Nat,S.st=(n:Int):=⟨S.st.toNat,by omega⟩
 refine bn (args:=[.pointer (some pa),bN S sc se sg,.int .i64 most]) mixed Tryz.func116 ?_;unfold bN;rw[l7]at oS ⊢
 repeat (first|refine bV ?_|(refine dK ?_;clear hw;intro p w hw))
 rename_i ps ws;obtain⟨pr,o6⟩:∃ q,q=p:=⟨p,rfl⟩
 subst o6;have hw:Sat w0 w (Ad pr 142 [.int .i64 0,.int .i64 0,.slice none 0 0,.slice none 0 0,.slice none 0 0]::Ad ps 142 [.int .i64 n,.int .i64 S.aY,sc,se,sg]::Ad pa 164 [vv,sv,dv,.bool ex]::Aj (fun w=>Aw w sc se sg S)::Γ):=hw;refine ai ?_ ?_<;>intro h1
 ·have hE:bA S most=0:=by unfold bA;rw[l7,if_pos h1]
  have hC:dZ S most=bX n:=by unfold dZ;rw[l7,if_pos h1];congr 1
  have hP:cb S most=S:=by unfold cb;rw[l7,if_pos h1]
  rw[hE,hC,hP];refine ab ?_;refine fP (pl [0,1,2,3] (.chk 0::pl [4,5,6] [])) hw kr ?_;clear hw;intro w hw;refine ab ?_;refine aJ rfl (qib (n:=n) om) ?_;rintro _ w' ⟨v,rfl,aj⟩;refine aA ?_;clear aj hw;intro hw;refine fy ?_;intro w hw;exact qcd (p:=pr) (vs:=[.int .i64 n,.int .i64 S.aY,sc,se,sg]) rfl rfl (v':=v) rfl (v2:=.nilIface) rfl rfl (fun j v hv=>jw (i:=1) hw rfl hv) ⟨sc,se,sg,v,ex,by rw[l7,iy rfl],hw.bG⟩
 have cY:¬S.st<=most:=by omega
 have nP:¬(n:Int)<=most:=by omega
 refine ab ?_;refine aJ rfl (by have:=qrx (S:=S) (most:=most) (hw.dM 3 rfl) (hT.at hw);unfold bN at this;rw[l7]at this;exact this) ?_;rintro _ w' ⟨mv,rfl,hmc,aj⟩;refine aA ?_;clear aj hw;intro hw;by_cases hv:fM S=true
 case neg =>
  have iu:¬Ar S:=fun h=>hv (xX h);have hE:bA S most=2:=by unfold bA;rw[if_neg cY,if_neg iu]
  have hC:dZ S most=[]:=by unfold dZ;rw[if_neg cY,if_neg iu]
  have hP:cb S most=bH:=by unfold cb;rw[if_neg cY,if_neg iu]
  have hD:fD S=2:=by unfold fD;rw[if_neg hv]
  rw[hE,hC,hP,hD,ep (by decide)];refine ab ?_;refine iN (parts:=[]) (vs:=[]) rfl rfl rfl ?_;refine fy ?_;intro w hw;refine qcd (p:=pr) (vs:=[.int .i64 0,.int .i64 0,.slice none 0 0,.slice none 0 0,.slice none 0 0]) rfl rfl (v':=.slice none 0 0) rfl (v2:=.iface 57 (.int .i64 2)) rfl rfl (fun j v hv=>jw (i:=1) hw rfl hv) ⟨.slice none 0 0,.slice none 0 0,.slice none 0 0,.slice none 0 0,ex,rfl,?_⟩;have h1:Sat w0 _ (Aj (fun w=>Aw w (.slice none 0 0) (.slice none 0 0) (.slice none 0 0) bH)::_):=Sat.nX (fun w=>⟨RS.nil,RS.nil,RS.nil⟩) (hw.nil (T:=aa) (e:=3));exact h1.bG
 have iu:Ar S:=Classical.byContradiction fun h=>by rw[r6 h]at hv;cases hv
 have hE:bA S most=cQ S (dS S most):=by unfold bA;rw[if_neg cY,if_pos iu]
 have hC:dZ S most=dS S most:=by unfold dZ;rw[if_neg cY,if_pos iu]
 have hP:cb S most=fF S (dS S most):=by unfold cb;rw[if_neg cY,if_pos iu]
 have hD:fD S=0:=by unfold fD;rw[if_pos hv]
 have hR:pI S most=dS S most:=by unfold pI;rw[if_pos hv]
 obtain⟨pD,j6⟩:=hmc hv;rw[hE,hC,hP,hD,iy rfl];rw[hR]at hw;refine ab ?_;refine aJ rfl (by have:=qkU (S:=S) (hw.dM 4 rfl) (hT.at hw);unfold bN at this;rw[l7]at this;exact this) ?_;rintro _ w' ⟨fv,rfl,iH,aj⟩;refine aA ?_;clear aj hw;intro hw;rw[hD,iy rfl];have hbR:nc S=j9 S:=by unfold nc;rw[if_pos hv]
 rw[hbR]at hw;obtain⟨L,hLl,wN⟩:=iH hv;have a1:1<=S.st:=iu.1;have yu:0<(j9 S).length:=by rw[wN,uR];omega
 have hBe:∀ x∈j9 S,0<=x/\x<=65536:=fun x hx=>by
  rw[wN]at hx;obtain⟨i,hi,rfl⟩:=getElem_of_mem hx;have h1:=zW (l:=L) (i:=i) (by rw[uR]at hi;exact hi);rw[getD_at hi]at h1;have:=wO L;omega
 obtain⟨C,hCe⟩:∃ C,C=dS S most:=⟨_,rfl⟩
 obtain⟨F,hFe⟩:∃ F,F=j9 S:=⟨_,rfl⟩
 rw[<-hCe]at pD j6 hw ⊢;rw[<-hFe]at yu hBe hw;have hCx:=j6 _ (qjg pD);have hFx:=hBe _ (qjg yu)
 cases ex with
 | false =>
  refine fy ?_;intro w hw;simp only[set_cons_succ,set_cons_zero]at hw;obtain⟨bx,hw⟩:∃ bx,Sat w0 _ (OS aa 3 fv F::OS aa 3 mv C::Ad pr 142 [.int .i64 0,.int .i64 0,.slice none 0 0,.slice none 0 0,.slice none 0 0]::Ad ps 142 [.int .i64 n,.int .i64 S.aY,sc,se,sg]::Ad pa 164 [vv,sv,dv,.bool bx]::Aj (fun w=>Aw w sc se sg S)::Γ):=⟨_,hw⟩
  refine aJ rfl (by have:=qk7 (S:=S) (c:=C) (hw.dM 5 rfl) iu (aM (s:=mv) hw);unfold bN at this;rw[l7]at this;exact this) ?_;rintro _ w' ⟨qc,qe,qg,rfl,aj⟩;refine mz ?_;clear aj hw;intro hw;obtain⟨ev,nS⟩:∃ v,v=bE (cQ S C):=⟨_,rfl⟩
  obtain⟨Q,hQ⟩:∃ q,q=fF S C:=⟨_,rfl⟩
  rw[<-nS,<-hQ];rw[<-hQ]at hw;simp only[cons_append,nil_append]at hw;have o1:=(aM (s:=qc) hw).one;have o2:=(aM (s:=qe) hw).one;have o3:=(aM (s:=qg) hw).one;refine cK ?_;intro p w hw;refine gZ (n:=5) (p:=p) (vs:=[.int .i64 Q.st,.int .i64 Q.aY,qc,qe,qg]) rfl rfl hw inferInstance rfl rfl (by simp only[all_cons,all_nil,o1,o2,o3];rfl) ?_;clear hw;intro w hw;refine ab ?_;refine gZ (n:=5) (p:=pr) (vs:=[.int .i64 Q.st,.int .i64 Q.aY,qc,qe,qg]) rfl rfl hw inferInstance rfl rfl (by simp only[all_cons,all_nil,o1,o2,o3];rfl) ?_;clear hw;intro w hw;refine ab ?_;refine qcd (p:=pr) (vs:=[.int .i64 Q.st,.int .i64 Q.aY,qc,qe,qg]) rfl rfl (v':=mv) rfl (v2:=ev) rfl rfl (fun j v hv=>jw (i:=6) hw rfl hv) ⟨qc,qe,qg,mv,bx,rfl,?_⟩;have ct:Sat w0 w (OS aa 3 qc Q.au::OS ax 190 qe Q.ak::OS ah 4 qg Q.goals::Ad pa 164 [vv,sv,dv,.bool bx]::OS aa 3 mv C::Γ):=hw.bG;have h3:=Sat.rd (Δ:=[_,_,_]) (φ:=fun w=>Aw w qc qe qg Q) (fun _ _ h=>⟨h.rs 0 rfl,h.rs 1 rfl,h.rs 2 rfl⟩) ct
  exact h3.bG
 | true =>
  refine ab ?_;refine aJ rfl (qg3 (l:=C) (aM (s:=mv) hw) pD om) ?_;refine mf ?_;clear hw;intro w' hw;refine ab ?_;refine aJ rfl (qg3 (l:=F) (aM (s:=fv) hw) yu om) ?_;refine mf ?_;clear hw;intro w' hw;refine fy ?_;intro w hw;simp only[set_cons_succ,set_cons_zero]at hw;obtain⟨bx,hw⟩:∃ bx,Sat w0 _ (OS aa 3 fv F::OS aa 3 mv C::Ad pr 142 [.int .i64 0,.int .i64 0,.slice none 0 0,.slice none 0 0,.slice none 0 0]::Ad ps 142 [.int .i64 n,.int .i64 S.aY,sc,se,sg]::Ad pa 164 [vv,sv,dv,.bool bx]::Aj (fun w=>Aw w sc se sg S)::Γ):=⟨_,hw⟩
  refine aJ rfl (by have:=qk7 (S:=S) (c:=C) (hw.dM 5 rfl) iu (aM (s:=mv) hw);unfold bN at this;rw[l7]at this;exact this) ?_;rintro _ w' ⟨qc,qe,qg,rfl,aj⟩;refine mz ?_;clear aj hw;intro hw;obtain⟨ev,nS⟩:∃ v,v=bE (cQ S C):=⟨_,rfl⟩
  obtain⟨Q,hQ⟩:∃ q,q=fF S C:=⟨_,rfl⟩
  rw[<-nS,<-hQ];rw[<-hQ]at hw;simp only[cons_append,nil_append]at hw;have o1:=(aM (s:=qc) hw).one;have o2:=(aM (s:=qe) hw).one;have o3:=(aM (s:=qg) hw).one;refine cK ?_;intro p w hw;refine gZ (n:=5) (p:=p) (vs:=[.int .i64 Q.st,.int .i64 Q.aY,qc,qe,qg]) rfl rfl hw inferInstance rfl rfl (by simp only[all_cons,all_nil,o1,o2,o3];rfl) ?_;clear hw;intro w hw;refine ab ?_;refine gZ (n:=5) (p:=pr) (vs:=[.int .i64 Q.st,.int .i64 Q.aY,qc,qe,qg]) rfl rfl hw inferInstance rfl rfl (by simp only[all_cons,all_nil,o1,o2,o3];rfl) ?_;clear hw;intro w hw;refine ab ?_;refine qcd (p:=pr) (vs:=[.int .i64 Q.st,.int .i64 Q.aY,qc,qe,qg]) rfl rfl (v':=mv) rfl (v2:=ev) rfl rfl (fun j v hv=>jw (i:=6) hw rfl hv) ⟨qc,qe,qg,mv,bx,rfl,?_⟩;have ct:Sat w0 w (OS aa 3 qc Q.au::OS ax 190 qe Q.ak::OS ah 4 qg Q.goals::Ad pa 164 [vv,sv,dv,.bool bx]::OS aa 3 mv C::Γ):=hw.bG;have h3:=Sat.rd (Δ:=[_,_,_]) (φ:=fun w=>Aw w qc qe qg Q) (fun _ _ h=>⟨h.rs 0 rfl,h.rs 1 rfl,h.rs 2 rfl⟩) ct;exact h3.bG
end
section
open Go.Sl
theorem qtN {c:List Int}{n k:Int}(h:AJ c n k) (hn:1<=n):1<=k:=by
 obtain⟨h1,h2,h3,_⟩:=h;have hm:c.getD 0 aa.dflt∈c:=bY aa.dflt om;have a:=(h2 _ hm).1;have b:=h3 _ hm;omega
open Classical in
theorem qpi {c:List Int}{n:Int}(h:iQ c n=true):0<=jk c n/\AJ c n (jk c n):=by
 unfold iQ at h;rw[decide_eq_true_eq]at h;unfold jk;rw[dif_pos h];exact Classical.choose_spec h
structure Dz (S:Ak) (C:List Int) (S':Ak):Prop where
 len:(C.length:Int)=S.st
 cC:∀ i:Nat,i<C.length->0<=C.getD i aa.dflt/\C.getD i aa.dflt<S'.st
 st1:1<=S'.st
 st2:S'.st<=S.st
theorem sD {S:Ak}{most:Int}(h1:1<=S.st) (hE:bA S most=0):Dz S (dZ S most) (cb S most):=by
 by_cases hm:S.st<=most
 ·have hC:dZ S most=bX S.st.toNat:=by unfold dZ;rw[if_pos hm]
  have hS:cb S most=S:=by unfold cb;rw[if_pos hm]
  rw[hC,hS];have hl:(bX S.st.toNat).length=S.st.toNat:=by simp[bX]
  refine⟨by omega,fun i hi=>?_,h1,Int.le_refl _⟩;have:(bX S.st.toNat).getD i aa.dflt=(i:Int):=by
   rw[hl]at hi;simp[bX,List.getD,hi]
  omega
 ·by_cases hv:Ar S
  ·have hC:dZ S most=dS S most:=by unfold dZ;rw[if_neg hm,if_pos hv]
   have hS:cb S most=fF S (dS S most):=by unfold cb;rw[if_neg hm,if_pos hv]
   have hE2:cQ S (dS S most)=0:=by unfold bA at hE;rwa[if_neg hm,if_pos hv]at hE
   rw[hC,hS];have mY:iQ (dS S most) S.st=true:=by
    unfold cQ at hE2;by_cases h:fM S=true/\iQ (dS S most) S.st=true
    ·exact h.2
    ·rw[if_neg h]at hE2;exact absurd hE2 (by decide)
   obtain⟨q1,q2⟩:=qpi mY;have cu:(fF S (dS S most)).st=jk (dS S most) S.st:=by unfold fF;rw[if_pos hE2]
   have j7:=qtN q2 h1;obtain⟨c1,c2,c3,c4⟩:=q2;refine⟨c1,fun i hi=>?_,by omega,?_⟩
   ·have hm:(dS S most).getD i aa.dflt∈dS S most:=bY aa.dflt hi
    have:=c2 _ hm;have:=c3 _ hm;omega
   ·have:=c2 _ (c4 (jk (dS S most) S.st-1) om om)
    omega
  ·unfold bA at hE
   rw[if_neg hm,if_neg hv]at hE;exact absurd hE (by decide)
theorem qpj {t:Aa}{v:Nat}(hg:Af t) (hv:v<t.vars.length):(cj t [(v:Int)]).st=t.vars.getD v aa.dflt:=by
 show aL t.vars [(v:Int)]=_;simp[aL,dV,bK,sg,List.getD,hv,aa]
inductive Ch (vars:List Int):List Bb->Int->Prop
 | one (x:Bb):x.var=0->((x.cls.length:Int)=vars.getD 0 aa.dflt)->(∀ i:Nat,i<x.cls.length->0<=x.cls.getD i aa.dflt/\x.cls.getD i aa.dflt<x.de)->0<vars.length->Ch vars [x] x.de
 | snoc (l:List Bb) (n m:Int) (y:Bb):Ch vars l n->y.var=(l.length:Int)->((y.cls.length:Int)=vars.getD l.length aa.dflt)->(∀ i:Nat,i<y.cls.length->0<=y.cls.getD i aa.dflt/\y.cls.getD i aa.dflt<y.de)->l.length<vars.length ->
   ((y.lj.length:Int)=n)->(∀ i:Nat,i<y.lj.length->0<=y.lj.getD i aa.dflt/\y.lj.getD i aa.dflt<m)->m*y.de<=4096->Ch vars (l++[y]) (m*y.de)
theorem qij {s:List Int}{l:List Bb}{y:Bb}(h:l≠[]):lh s (l++[y])=y.lj.getD (lh s l).toNat aa.dflt*y.de+y.cls.getD (s.getD y.var.toNat aa.dflt).toNat aa.dflt:=by
 cases l with
 | nil=>exact absurd rfl h
 | cons x r=>simp only[lh,cons_append,foldl_append,foldl_cons,foldl_nil]
theorem Ch.ne {vars:List Int}{l:List Bb}{n:Int}(h:Ch vars l n):l≠[]:=by cases h<;>simp
theorem Ch.at {vars s:List Int}(hs:Ac vars s) {l:List Bb}{n:Int}(h:Ch vars l n):0<=lh s l/\lh s l<n:=by
 induction h with
 | one x hv hl hr hp =>
  have e:lh s [x]=x.cls.getD (s.getD x.var.toNat aa.dflt).toNat aa.dflt:=rfl;rw[e];have h0:=hs.2 0 (by rw[hs.1];exact hp);rw[hv];have:=hr (s.getD 0 aa.dflt).toNat om
  exact this
 | snoc l n m y h hv hl hr hp ha har hm ih =>
  rw[qij h.ne];have h0:=hs.2 l.length (by rw[hs.1];exact hp);rw[hv];have hc:=hr (s.getD l.length aa.dflt).toNat om;have pE:=har (lh s l).toNat om;rw[show ((l.length:Nat):Int).toNat=l.length from by omega];obtain⟨c0,c1⟩:=hc;obtain⟨b0,b1⟩:=pE;generalize y.cls.getD (s.getD l.length aa.dflt).toNat aa.dflt=u at c0 c1 ⊢;generalize y.lj.getD (lh s l).toNat aa.dflt=v at b0 b1 ⊢;have h1:0<=v*y.de:=Int.mul_nonneg b0 om;have h2:(v+1)*y.de<=m*y.de:=Int.mul_le_mul_of_nonneg_right om om;rw[Int.add_mul,Int.one_mul]at h2;omega
noncomputable def kt (t:Aa) (most:Int) (k:Nat):Dm:=if k=0 then ⟨bH,[],0⟩ else fV t most k
theorem qlg (t:Aa) (most:Int):kt t most 1=jF t most 0:=rfl
theorem qik {t:Aa}{most:Int}{k:Nat}(hk:0<k):kt t most (k+1)=jG t most (kt t most k) k:=by
 obtain⟨j,rfl⟩:∃ j,k=j+1:=⟨k-1,by omega⟩
 rfl
theorem qlh {t:Aa}{most:Int}{k:Nat}(hk:0<k) (he:(kt t most k).err≠0):∀ m,k<=m->kt t most m=kt t most k:=by
 intro m hm
 induction m with
 | zero=>omega
 | succ m ih =>
  by_cases e:k=m+1
  ·rw[e]
  ·have h1:=ih om
   rw[qik om,h1];unfold jG;rw[if_pos he]
end
section
open Go.Sl Go
attribute [local irreducible] vc opsW opsD opV opW PureV ReadV Thn Blk
theorem qrS {w0:World}{a b c d:Value}{vs:List AK}{t:Aa}{v:Int}(ht:Am w0 a b c d vs t) :
  Calls Tryz.prog 115 #[.agg #[a,b,c,d],.int .i64 v] w0 fun e w'=>∃ cv ev gv,e=.returned (.tuple #[bN (gD t [v] (bM t [v])) cv ev gv,bE (bM t [v])])/\Cu w0 w' cv ev gv (gD t [v] (bM t [v])):=by
 have hw:=Sat.start w0;refine bn (args:=[.agg #[a,b,c,d],.int .i64 v]) mixed Tryz.func115 ?_
 repeat (first|refine bV ?_|(refine dK ?_;clear hw;intro p w hw)|(refine cB ?_;clear hw;intro s w hw))
 obtain⟨pr,o6⟩:∃ q,q=p:=⟨p,rfl⟩
 subst o6;refine aJ rfl (qci (ht.at hw) (hw.rs 0 rfl)) ?_;rintro _ w' ⟨cv,ev,gv,rfl,aj⟩;refine mz ?_;clear aj hw;intro hw;simp only[cons_append,nil_append]at hw;obtain⟨er,sB⟩:∃ x,x=bE (bM t [v]):=⟨_,rfl⟩
 obtain⟨S,hS⟩:∃ x,x=gD t [v] (bM t [v]):=⟨_,rfl⟩
 rw[<-sB,<-hS];rw[<-hS]at hw;have o1:=(aM (s:=cv) hw).one;have o2:=(aM (s:=ev) hw).one;have o3:=(aM (s:=gv) hw).one;unfold bN;refine ab ?_;refine gZ (n:=5) (p:=pr) (vs:=[.int .i64 S.st,.int .i64 S.aY,cv,ev,gv]) rfl rfl hw inferInstance rfl rfl (by simp only[all_cons,all_nil,o1,o2,o3];rfl) ?_;clear hw;intro w hw;refine ab ?_;refine mg (p:=pr) (vs:=[.int .i64 S.st,.int .i64 S.aY,cv,ev,gv]) rfl rfl (v':=er) rfl rfl (fun j v hv=>jw (i:=4) hw rfl hv) ⟨cv,ev,gv,rfl,?_⟩;exact hw.aT
structure C1 where
 var:Int
 cls:Value
 lj:Value
 de:Int
def dH:Ty C1:=⟨4,fun x=>[.int .i64 x.var,x.cls,x.lj,.int .i64 x.de],fun _=>rfl,⟨0,.slice none 0 0,.slice none 0 0,0⟩⟩
structure Bi (ms:List C1) (L:List Bb) (w:World):Prop where
 len:ms.length=L.length
 var:∀ i,i<L.length->(ms.getD i dH.dflt).var=(L.getD i ⟨0,[],[],0⟩).var
 de:∀ i,i<L.length->(ms.getD i dH.dflt).de=(L.getD i ⟨0,[],[],0⟩).de
 cls:∀ i,i<L.length->RS aa w (ms.getD i dH.dflt).cls (L.getD i ⟨0,[],[],0⟩).cls
 lj:∀ i,i<L.length->RS aa w (ms.getD i dH.dflt).lj (L.getD i ⟨0,[],[],0⟩).lj
theorem qeD {α:Type}{l:List α}{x d:α}{i:Nat}:(l++[x]).getD i d=if i<l.length then l.getD i d else if i=l.length then x else d:=by
 by_cases h:i<l.length
 ·rw[if_pos h];simp[List.getD,getElem?_append_left h]
 ·rw[if_neg h]
  by_cases e:i=l.length
  ·rw[if_pos e];subst e;simp[List.getD]
  ·rw[if_neg e];simp[List.getD,getElem?_append_right (Nat.not_lt.1 h),getElem?_eq_none (show [x].length<=i-l.length by simp;omega)]
theorem Bi.snoc {ms:List C1}{L:List Bb}{w:World}{m:C1}{y:Bb}(h:Bi ms L w) (h1:m.var=y.var) (h2:m.de=y.de) (h3:RS aa w m.cls y.cls) (h4:RS aa w m.lj y.lj):Bi (ms++[m]) (L++[y]) w:=by
 have hl:=h.len
 refine⟨by rw[length_append,length_append,hl];rfl,fun i hi=>?_,fun i hi=>?_,fun i hi=>?_,fun i hi=>?_⟩ <;>
 ·rw[length_append,length_singleton]at hi
  rw[qeD,qeD,hl];by_cases e:i<L.length
  ·rw[if_pos e,if_pos e]
   first|exact h.var i e|exact h.de i e|exact h.cls i e|exact h.lj i e
  ·have e2:i=L.length:=by omega
   rw[if_neg e,if_neg e,if_pos e2,if_pos e2]
   first|exact h1|exact h2|exact h3|exact h4
theorem Bi.nil {w:World}:Bi [] [] w:=⟨rfl,fun _ h=>by simp at h,fun _ h=>by simp at h,fun _ h=>by simp at h,fun _ h=>by simp at h⟩
theorem qr6 {n k:Nat}(h:k<n):(bX n).getD k aa.dflt=(k:Int):=by simp[bX,List.getD,h]
structure DG (t:Aa) (X:Dm) (k:Nat):Prop where
 st1:1<=X.cur.st
 st2:X.cur.st<=4096
 ch:Ch t.vars X.de X.cur.st
 len:X.de.length=k
theorem qrv {w0 w:World}{Γ:List HP}{pa:Addr}{vv dv a b c d ov:Value}{ex0:Bool}{vs:List AK}{t:Aa}{M:Nat}(hw:Sat w0 w (Ad pa 164 [vv,.slice none 0 0,dv,.bool ex0]::Γ)) (hT:Bv w0) (hg:Af t) (ht:Am w0 a b c d vs t) (ho:RS aa w0 ov (bX t.vars.length)) (wG:1<=M) (wH:M<=4096) :
  Calls Tryz.prog 90 #[.pointer (some pa),.agg #[a,b,c,d],ov,.int .i64 M] w fun e w'=>∃ cv ev gv sv ms ex,e=.returned (.tuple #[bN (fV t M t.vars.length).cur cv ev gv,bE (fV t M t.vars.length).err])/\((fV t M t.vars.length).err=0->0<t.vars.length->DG t (fV t M t.vars.length) t.vars.length) /\
   Sat w0 w' (Ad pa 164 [vv,sv,dv,.bool ex]::OS dH 201 sv ms::Aj (Bi ms (fV t M t.vars.length).de)::Aj (fun w=>Aw w cv ev gv (fV t M t.vars.length).cur)::Γ):=by
 obtain⟨n,hn⟩:∃ n,n=t.vars.length:=⟨_,rfl⟩
 have sA:=hg.vars;rw[<-hn]at ho sA ⊢;have iL:(bX n).length=n:=zP n;refine bn (args:=[.pointer (some pa),.agg #[a,b,c,d],ov,.int .i64 M]) mixed Tryz.func90 ?_
 repeat (first|refine bV ?_|(refine dK ?_;clear hw;intro p w hw))
 rename_i pt wt;obtain⟨pr,o6⟩:∃ q,q=p:=⟨p,rfl⟩
 subst o6;have hw:Sat w0 w (Ad pr 142 [.int .i64 0,.int .i64 0,.slice none 0 0,.slice none 0 0,.slice none 0 0]::Ad pt 26 [a,b,c,d]::Ad pa 164 [vv,.slice none 0 0,dv,.bool ex0]::Γ):=hw;have hw:Sat w0 w (Ad pr 142 [.int .i64 0,.int .i64 0,.slice none 0 0,.slice none 0 0,.slice none 0 0]::Ad pt 26 [a,b,c,d]::Ad pa 164 [vv,.slice none 0 0,dv,.bool ex0]::Γ):=hw;refine ai ?_ ?_<;>intro h1
 ·have h0:n=0:=by omega
  have hK:fV t M n=⟨gD t [] (bM t []),[],bM t []⟩:=by rw[h0];rfl
  rw[hK];refine ab ?_;refine aJ rfl (qci (L:=[]) (ht.at hw) RS.nil) ?_;rintro _ w' ⟨cv,ev,gv,rfl,aj⟩;refine mz ?_;clear aj hw;intro hw;simp only[cons_append,nil_append]at hw;obtain⟨er,sB⟩:∃ x,x=bE (bM t []):=⟨_,rfl⟩
  obtain⟨S,hS⟩:∃ x,x=gD t [] (bM t []):=⟨_,rfl⟩
  rw[<-sB,<-hS];rw[<-hS]at hw;have o1:=(aM (s:=cv) hw).one;have o2:=(aM (s:=ev) hw).one;have o3:=(aM (s:=gv) hw).one;unfold bN;refine ab ?_;refine gZ (n:=5) (p:=pr) (vs:=[.int .i64 S.st,.int .i64 S.aY,cv,ev,gv]) rfl rfl hw inferInstance rfl rfl (by simp only[all_cons,all_nil,o1,o2,o3];rfl) ?_;clear hw;intro w hw;refine ab ?_;refine mg (p:=pr) (vs:=[.int .i64 S.st,.int .i64 S.aY,cv,ev,gv]) rfl rfl (v':=er) rfl rfl (fun j v hv=>jw (i:=3) hw rfl hv) ⟨cv,ev,gv,.slice none 0 0,[],ex0,rfl,fun _ h=>absurd h om,?_⟩;have h2:Sat w0 w (OS aa 3 cv S.au::OS ax 190 ev S.ak::OS ah 4 gv S.goals::Ad pa 164 [vv,.slice none 0 0,dv,.bool ex0]::Γ):=hw.bG;have h3:=Sat.rd (Δ:=[_,_,_]) (φ:=fun w=>Aw w cv ev gv S) (fun _ _ h=>⟨h.rs 0 rfl,h.rs 1 rfl,h.rs 2 rfl⟩) h2;have h4:Sat w0 w (Aj (Bi [] [])::_):=Sat.nX (fun w=>Bi.nil) h3;have h5:=h4.nil (T:=dH) (e:=201);exact h5.bG
 refine ab ?_;have hn1:0<n:=by omega
 refine aJ rfl (qoQ (n:=(M:Int)) om om) ?_;refine mf ?_;clear hw;intro w' hw;refine cK ?_;intro p w hw;obtain⟨pc,hpc⟩:∃ q,q=p:=⟨p,rfl⟩
 subst hpc;have hw0:Sat w0 w (Ad pc 142 [.int .i64 (kt t M 0).cur.st,.int .i64 (kt t M 0).cur.aY,.slice none 0 0,.slice none 0 0,.slice none 0 0]::Ad pa 164 [vv,.slice none 0 0,dv,.bool ex0]::OS dH 201 (.slice none 0 0) []::Aj (Bi [] (kt t M 0).de)::Aj (fun w=>Aw w (.slice none 0 0) (.slice none 0 0) (.slice none 0 0) (kt t M 0).cur)::Ad pr 142 [.int .i64 0,.int .i64 0,.slice none 0 0,.slice none 0 0,.slice none 0 0]::Ad pt 26 [a,b,c,d]::Γ):=by
  have a1:Sat w0 w (Aj (fun w=>Aw w (.slice none 0 0) (.slice none 0 0) (.slice none 0 0) bH)::_):=Sat.nX (fun w=>⟨RS.nil,RS.nil,RS.nil⟩) hw;have a2:Sat w0 w (Aj (Bi [] [])::_):=Sat.nX (fun w=>Bi.nil) a1;have a3:=a2.nil (T:=dH) (e:=201);have a4:Sat w0 w (Ad pc 142 [.int .i64 0,.int .i64 0,.slice none 0 0,.slice none 0 0,.slice none 0 0]::Ad pa 164 [vv,.slice none 0 0,dv,.bool ex0]::OS dH 201 (.slice none 0 0) []::Aj (Bi [] [])::Aj (fun w=>Aw w (.slice none 0 0) (.slice none 0 0) (.slice none 0 0) bH)::Ad pr 142 [.int .i64 0,.int .i64 0,.slice none 0 0,.slice none 0 0,.slice none 0 0]::Ad pt 26 [a,b,c,d]::Γ):=a3.bG;exact a4
 refine cd [9,9,12,18,30,153] (G:=Nat) (fun k=>[(30,.int .i64 k)]) (fun k w=>k<=n/\(kt t M k).err=0/\(0<k->DG t (kt t M k) k)/\∃ sv ms ex cc ce cg,Sat w0 w (Ad pc 142 [.int .i64 (kt t M k).cur.st,.int .i64 (kt t M k).cur.aY,cc,ce,cg]::Ad pa 164 [vv,sv,dv,.bool ex]::OS dH 201 sv ms::Aj (Bi ms (kt t M k).de)::Aj (fun w=>Aw w cc ce cg (kt t M k).cur)::Ad pr 142 [.int .i64 0,.int .i64 0,.slice none 0 0,.slice none 0 0,.slice none 0 0]::Ad pt 26 [a,b,c,d]::Γ)) (fun k=>n-k) 0 (fun _=>rfl) ⟨rfl,trivial⟩ ⟨zero_le _,rfl,fun h=>absurd h om,_,_,_,_,_,_,hw0⟩ ?_;clear hw hw0;rintro _ k w ⟨fT,zQ,hXi,sv,ms,ex,cc,ce,cg,hw⟩;obtain⟨X,hX⟩:∃ X,X=kt t M k:=⟨_,rfl⟩
 rw[<-hX]at zQ hXi hw;refine ab ?_;refine ai ?_ ?_<;>intro h2;rotate_left
 ·have hk:k=n:=by omega
  have hKX:fV t M n=X:=by rw[hX,hk];unfold kt;rw[if_neg om]
  rw[hKX,zQ];have o1:=(hw.dM 4 rfl).jE;refine fy ?_;intro w hw;exact mg (p:=pr) (vs:=[.int .i64 X.cur.st,.int .i64 X.cur.aY,cc,ce,cg]) rfl rfl (v':=bE 0) (by rw[iy rfl];rfl) rfl (fun j v hv=>jw (i:=5) hw rfl hv) ⟨cc,ce,cg,sv,ms,ex,rfl,fun _ _=>by rw[<-hk];exact hXi om,hw.bG⟩
 have gW:k<n:=by omega
 have sC:∀ LL ec,ec≠0->kt t M (k+1)=⟨bH,LL,ec⟩->fV t M n=⟨bH,LL,ec⟩:=fun LL ec h1 h2=>by
  rw[<-h2,<-qlh (succ_pos k) (by rw[h2];exact h1) n om];unfold kt;rw[if_neg om]
 have hgk:=qr6 gW;refine ab ?_;rw[hgk];refine ab ?_;refine aJ rfl (qrS (v:=(k:Int)) (ht.at hw)) ?_;rintro _ w' ⟨av,ae,ag,rfl,aj⟩;refine mz ?_;clear aj hw;intro hw;by_cases he:bM t [(k:Int)]=0;rotate_left
 ·have zR:kt t M (k+1)=⟨bH,X.de,bM t [(k:Int)]⟩:=by
   rcases eq_zero_or_pos k with h0|h0
   ·subst h0
    rw[qlg,hX];unfold jF;rw[if_pos (by simpa using he)];rfl
   ·rw[qik h0,<-hX]
    unfold jG;rw[if_neg (by rw[zQ];exact fun h=>h rfl),if_pos he]
  have cZ:fV t M n=⟨bH,X.de,bM t [(k:Int)]⟩:=by
   rw[<-zR,<-qlh (succ_pos k) (by rw[zR];exact he) n om];unfold kt;rw[if_neg om]
  have hA:gD t [(k:Int)] (bM t [(k:Int)])=bH:=by unfold gD;rw[if_neg he]
  rw[hA]at hw ⊢;obtain⟨ec,kJ⟩:∃ e,e=bM t [(k:Int)]:=⟨_,rfl⟩
  obtain⟨LL,rX⟩:∃ L,L=X.de:=⟨_,rfl⟩
  rw[<-kJ]at he cZ ⊢;rw[<-rX]at hw cZ;have mV:=he;rw[ep he];simp only[cons_append,nil_append]at hw;have o1:=(aM (s:=av) hw).one;have o2:=(aM (s:=ae) hw).one;have o3:=(aM (s:=ag) hw).one;unfold bN;refine cK ?_;intro p w hw;refine gZ (n:=5) (p:=p) (vs:=[.int .i64 bH.st,.int .i64 bH.aY,av,ae,ag]) rfl rfl hw inferInstance rfl rfl (by simp only[all_cons,all_nil,o1,o2,o3];rfl) ?_;clear hw;intro w hw;refine ab ?_;rw[cZ];have hw:Sat w0 w (Ad pr 142 [.int .i64 0,.int .i64 0,.slice none 0 0,.slice none 0 0,.slice none 0 0]::Ad pa 164 [vv,sv,dv,.bool ex]::OS dH 201 sv ms::Aj (Bi ms LL)::Γ):=hw.bG;refine iN (parts:=[]) (vs:=[]) rfl rfl rfl ?_;refine fy ?_;intro w hw;refine mg (p:=pr) (vs:=[.int .i64 0,.int .i64 0,.slice none 0 0,.slice none 0 0,.slice none 0 0]) rfl rfl (v':=bE ec) (by rw[ep mV];rfl) rfl (fun j v hv=>jw (i:=0) hw rfl hv) ⟨.slice none 0 0,.slice none 0 0,.slice none 0 0,sv,ms,ex,rfl,fun h=>absurd h mV,?_⟩;have h9:Sat w0 _ (Aj (fun w=>Aw w (.slice none 0 0) (.slice none 0 0) (.slice none 0 0) bH)::_):=Sat.nX (fun w=>⟨RS.nil,RS.nil,RS.nil⟩) hw;exact h9.bG
 rw[iy he];have hA:gD t [(k:Int)] (bM t [(k:Int)])=cj t [(k:Int)]:=by rw[he];rfl
 have ud:1<=(cj t [(k:Int)]).st/\(cj t [(k:Int)]).st<=4096:=by
  rw[qpj hg om];have:=hg.gd k om;omega
 have hAd:=qpj (v:=k) hg om;rw[hA]at hw ⊢;obtain⟨A,hAe⟩:∃ A,A=cj t [(k:Int)]:=⟨_,rfl⟩
 rw[<-hAe]at ud hAd hw ⊢;simp only[cons_append,nil_append]at hw;have o1:=(aM (s:=av) hw).one;have o2:=(aM (s:=ae) hw).one;have o3:=(aM (s:=ag) hw).one;unfold bN;refine cK ?_;intro p w hw;refine gZ (n:=5) (p:=p) (vs:=[.int .i64 A.st,.int .i64 A.aY,av,ae,ag]) rfl rfl hw inferInstance rfl rfl (by simp only[all_cons,all_nil,o1,o2,o3];rfl) ?_;clear hw;intro w hw;obtain⟨pt1,qx4⟩:∃ q,q=p:=⟨p,rfl⟩
 subst qx4;refine cK ?_;intro p w hw;obtain⟨pg,hpg⟩:∃ q,q=p:=⟨p,rfl⟩
 subst hpg;have hw:Sat w0 w (Ad pg 201 [.int .i64 k,.slice none 0 0,.slice none 0 0,.int .i64 0]::Ad pt1 142 [.int .i64 A.st,.int .i64 A.aY,av,ae,ag]::OS aa 3 av A.au::OS ax 190 ae A.ak::OS ah 4 ag A.goals::Ad pc 142 [.int .i64 X.cur.st,.int .i64 X.cur.aY,cc,ce,cg]::Ad pa 164 [vv,sv,dv,.bool ex]::OS dH 201 sv ms::Aj (Bi ms X.de)::Aj (fun w=>Aw w cc ce cg X.cur)::Ad pr 142 [.int .i64 0,.int .i64 0,.slice none 0 0,.slice none 0 0,.slice none 0 0]::Ad pt 26 [a,b,c,d]::Γ):=hw;have hw:Sat w0 w (OS aa 3 av A.au::OS ax 190 ae A.ak::OS ah 4 ag A.goals::Ad pa 164 [vv,sv,dv,.bool ex]::Ad pg 201 [.int .i64 k,.slice none 0 0,.slice none 0 0,.int .i64 0]::Ad pt1 142 [.int .i64 A.st,.int .i64 A.aY,av,ae,ag]::Ad pc 142 [.int .i64 X.cur.st,.int .i64 X.cur.aY,cc,ce,cg]::OS dH 201 sv ms::Aj (Bi ms X.de)::Aj (fun w=>Aw w cc ce cg X.cur)::Ad pr 142 [.int .i64 0,.int .i64 0,.slice none 0 0,.slice none 0 0,.slice none 0 0]::Ad pt 26 [a,b,c,d]::Γ):=hw.bG;have hw:=Sat.rd (Δ:=[_,_,_]) (φ:=fun w=>Aw w av ae ag A) (fun _ _ h=>⟨h.rs 0 rfl,h.rs 1 rfl,h.rs 2 rfl⟩) hw;have oA:=(hw.dM 0 rfl).jE;refine ai ?_ ?_<;>intro h3
 ·have jb:k=0:=by omega
  have hXe:X=⟨bH,[],0⟩:=by rw[hX,jb];rfl
  refine ab ?_;have ct:Sat w0 w (Ad pa 164 [vv,sv,dv,.bool ex]::Aj (fun w=>Aw w av ae ag A)::Ad pg 201 [.int .i64 k,.slice none 0 0,.slice none 0 0,.int .i64 0]::Ad pt1 142 [.int .i64 A.st,.int .i64 A.aY,av,ae,ag]::Ad pc 142 [.int .i64 X.cur.st,.int .i64 X.cur.aY,cc,ce,cg]::OS dH 201 sv ms::Aj (Bi ms X.de)::Aj (fun w=>Aw w cc ce cg X.cur)::Ad pr 142 [.int .i64 0,.int .i64 0,.slice none 0 0,.slice none 0 0,.slice none 0 0]::Ad pt 26 [a,b,c,d]::Γ):=hw.bG;refine aJ rfl (qg4 (S:=A) (most:=(M:Int)) ct hT ⟨by omega,ud.2⟩) ?_;clear hw ct;rintro _ w ⟨yv,ye,yg,qv,ex,rfl,hw⟩;refine⟨_,rfl,?_⟩;obtain⟨er,sB⟩:∃ x,x=bA A (M:Int):=⟨_,rfl⟩
  obtain⟨S,hS⟩:∃ x,x=cb A (M:Int):=⟨_,rfl⟩
  obtain⟨C,hC⟩:∃ x,x=dZ A (M:Int):=⟨_,rfl⟩
  rw[<-sB];rw[<-hS,<-hC]at hw;rw[<-hS];have oS:=(hw.dM 2 rfl).jE;unfold bN;by_cases mW:er=0;rotate_left
  ·have cZ:fV t M n=⟨bH,X.de,er⟩:=by
    have zR:kt t M (k+1)=⟨bH,X.de,er⟩:=by
     subst jb;rw[qlg,hXe];unfold jF;have e1:bM t [(0:Int)]=0:=by simpa using he
     have e2:cj t [(0:Int)]=A:=by rw[hAe];rfl
     rw[if_neg (fun h=>h e1),e2,<-sB,if_pos mW]
    rw[<-zR,<-qlh (succ_pos k) (by rw[zR];exact mW) n om];unfold kt;rw[if_neg om]
   have mV:er≠0:=mW;obtain⟨ec,kJ⟩:∃ e,e=er:=⟨_,rfl⟩
   obtain⟨LL,rX⟩:∃ L,L=X.de:=⟨_,rfl⟩
   rw[<-kJ]at cZ mV ⊢;rw[<-rX]at hw cZ;rw[ep mV];refine fy ?_;intro w hw;rw[cZ];have hw:Sat w0 w (Ad pr 142 [.int .i64 0,.int .i64 0,.slice none 0 0,.slice none 0 0,.slice none 0 0]::Ad pa 164 [vv,sv,dv,.bool ex]::OS dH 201 sv ms::Aj (Bi ms LL)::Γ):=hw.bG;refine iN (parts:=[]) (vs:=[]) rfl rfl rfl ?_;refine fy ?_;intro w hw;refine mg (p:=pr) (vs:=[.int .i64 0,.int .i64 0,.slice none 0 0,.slice none 0 0,.slice none 0 0]) rfl rfl (v':=bE ec) (by rw[ep mV];rfl) rfl (fun j v hv=>jw (i:=0) hw rfl hv) ⟨.slice none 0 0,.slice none 0 0,.slice none 0 0,sv,ms,ex,rfl,fun h=>absurd h mV,?_⟩;have h9:Sat w0 _ (Aj (fun w=>Aw w (.slice none 0 0) (.slice none 0 0) (.slice none 0 0) bH)::_):=Sat.nX (fun w=>⟨RS.nil,RS.nil,RS.nil⟩) hw;exact h9.bG
  rw[iy mW];refine fy ?_;intro w hw;simp only[set_cons_succ,set_cons_zero]at hw;refine fP (pl [0,1,2,3,4,5,6] (.chk 4::pl [7,8,9,10] [])) hw kr ?_;clear hw;intro w hw;refine ab ?_;refine jh dH (x1:=⟨(k:Int),qv,.slice none 0 0,S.st⟩) rfl rfl rfl (le_of_ble_eq_true rfl) (zero_lt_succ _) hw ?_;clear hw;intro s2 w hw;refine ab ?_;have eT:=(hw.dM 8 rfl).len;rw[hXe]at eT;have eT:ms.length=0:=eT;have oq:=(aM (s:=qv) hw).one;have oq2:=oq;refine rT (T:=dH) (sz:=4) (by_:=64) (e:=201) (zs:=[.int .i64 0,.slice none 0 0,.slice none 0 0,.int .i64 0]) (s:=sv) (s2:=s2) (xs:=ms) (ys:=[⟨(k:Int),qv,.slice none 0 0,S.st⟩]) inferInstance rfl rfl (aM hw) rfl rfl (fun x hx v hv=>by rw[mem_singleton.1 hx]at hv;simp only[dH,mem_cons,not_mem_nil,or_false]at hv;rcases hv with rfl|rfl|rfl|rfl<;>first|rfl|exact oq|exact oq2) (by simp only[length_cons,length_nil];omega) (by unfold bo;simp only[length_cons,length_nil];omega) hw ?_;clear hw;intro s3 w hw;refine fy ?_;intro w hw;simp only[set_cons_succ,set_cons_zero]at hw;have uP:=sD ud.1 (sB.symm.trans mW);rw[<-hS,<-hC]at uP;have hN:kt t M (k+1)=⟨S,X.de++[⟨(k:Int),C,[],S.st⟩],0⟩:=by
   have e0:(k:Int)=0:=by omega
   have e1:bM t [(0:Int)]=0:=by have h:=he;rw[e0]at h;exact h
   have e2:cj t [(0:Int)]=A:=by rw[hAe,e0]
   rw[hXe,jb,qlg];unfold jF;rw[if_neg (fun h=>h e1),e2,<-sB,if_neg (fun h=>h mW),<-hS,<-hC];rfl
  refine⟨k+1,⟨rfl,trivial⟩,aH,⟨by omega,by rw[hN],fun _=>?_,s3,ms++[⟨(k:Int),qv,.slice none 0 0,S.st⟩],ex,yv,ye,yg,?_⟩,by omega⟩
  ·rw[hN]
   exact⟨uP.st1,Int.le_trans uP.st2 ud.2,by rw[hXe];exact Ch.one ⟨(k:Int),C,[],S.st⟩ (by show (k:Int)=0;omega) (by show (C.length:Int)=_;rw[uP.len,hAd,jb]) uP.cC om,by rw[hXe,jb];rfl⟩
  ·rw[hN]
   have hw:Sat w0 w (OS aa 3 qv C::Aj (Bi ms X.de)::Ad pc 142 [.int .i64 S.st,.int .i64 S.aY,yv,ye,yg]::Ad pa 164 [vv,s3,dv,.bool ex]::OS dH 201 s3 (ms++[⟨(k:Int),qv,.slice none 0 0,S.st⟩])::Aj (fun w=>Aw w yv ye yg S)::Ad pr 142 [.int .i64 0,.int .i64 0,.slice none 0 0,.slice none 0 0,.slice none 0 0]::Ad pt 26 [a,b,c,d]::Γ):=hw.bG;have h2:Sat w0 w (Aj (Bi (ms++[⟨(k:Int),qv,.slice none 0 0,S.st⟩]) (X.de++[⟨(k:Int),C,[],S.st⟩]))::_):=Sat.rd (Δ:=[_,_]) (fun _ _ h=>(h.dM 1 rfl).snoc rfl rfl (h.rs 0 rfl) RS.nil) hw;exact h2.bG
 have rY:0<k:=by omega
 obtain⟨x1,x2,x3,x4⟩:=hXi rY;refine ab ?_;have pD:0<=X.cur.st*A.st:=Int.mul_nonneg om om;have j6:X.cur.st*A.st<=4096*4096:=Int.mul_le_mul x2 ud.2 om om;have hr0 : -9223372036854775808<=X.cur.st*A.st:=by omega
 have wI:X.cur.st*A.st<=9223372036854775807:=by omega
 refine fP (pl [0,1,2,3,4,5] []) hw kr ?_;clear hw;intro w hw
 repeat (first|refine xL ?_|refine zF ?_|refine qjA ?_|refine xN ?_|refine qep ?_|refine zL ?_|refine zK ?_)
 refine rU ?_;have hw:Sat w0 w (Ad pa 164 [vv,sv,dv,.bool ex]::Aj (fun w=>Aw w cc ce cg X.cur)::Aj (fun w=>Aw w av ae ag A)::Ad pg 201 [.int .i64 k,.slice none 0 0,.slice none 0 0,.int .i64 0]::Ad pt1 142 [.int .i64 A.st,.int .i64 A.aY,av,ae,ag]::Ad pc 142 [.int .i64 X.cur.st,.int .i64 X.cur.aY,cc,ce,cg]::OS dH 201 sv ms::Aj (Bi ms X.de)::Ad pr 142 [.int .i64 0,.int .i64 0,.slice none 0 0,.slice none 0 0,.slice none 0 0]::Ad pt 26 [a,b,c,d]::Γ):=hw.bG;refine rp [17,18,79,103] (G:=Int × Int) (fun x=>[(17,.int .i64 x.1),(18,.int .i64 x.2)]) (fun x w=>x=ji (M:Int) X.cur.st A.st/\Sat w0 w (Ad pa 164 [vv,sv,dv,.bool ex]::Aj (fun w=>Aw w cc ce cg X.cur)::Aj (fun w=>Aw w av ae ag A)::Ad pg 201 [.int .i64 k,.slice none 0 0,.slice none 0 0,.int .i64 0]::Ad pt1 142 [.int .i64 A.st,.int .i64 A.aY,av,ae,ag]::Ad pc 142 [.int .i64 X.cur.st,.int .i64 X.cur.aY,cc,ce,cg]::OS dH 201 sv ms::Aj (Bi ms X.de)::Ad pr 142 [.int .i64 0,.int .i64 0,.slice none 0 0,.slice none 0 0,.slice none 0 0]::Ad pt 26 [a,b,c,d]::Γ)) (fun _=>rfl) ?_ ?_
 ·refine ab ?_
  refine ai ?_ ?_<;>intro g1;rotate_left
  ·refine ab ?_
   exact⟨(X.cur.st,A.st),⟨rfl,rfl,trivial⟩,aH,by unfold ji;rw[if_neg om],hw⟩
  refine ab ?_;refine ai ?_ ?_<;>intro g2
  ·refine ab ?_
   exact⟨(X.cur.st,(M:Int).tdiv X.cur.st),⟨rfl,rfl,trivial⟩,aH,by unfold ji;rw[if_pos om,if_pos om],hw⟩
  refine ab ?_;refine ai ?_ ?_<;>intro g3
  ·refine ab ?_
   exact⟨((M:Int).tdiv A.st,A.st),⟨rfl,rfl,trivial⟩,aH,by unfold ji;rw[if_pos om,if_neg om,if_pos om],hw⟩
  refine ab ?_;exact⟨(fQ (M:Int),fQ (M:Int)),⟨rfl,rfl,trivial⟩,aH,by unfold ji;rw[if_pos om,if_neg om,if_neg om],hw⟩
 clear hw;rintro _ lr w ⟨mh,hw⟩
 have hN:kt t M (k+1)=if bA X.cur lr.1≠0 then ⟨bH,X.de,bA X.cur lr.1⟩ else if bA A lr.2≠0 then ⟨bH,X.de,bA A lr.2⟩ else if bU (cb X.cur lr.1) (cb A lr.2)≠0 then ⟨bH,X.de++[⟨(k:Int),dZ A lr.2,dZ X.cur lr.1,(cb A lr.2).st⟩],bU (cb X.cur lr.1) (cb A lr.2)⟩ else ⟨eL (cb X.cur lr.1) (cb A lr.2),X.de++[⟨(k:Int),dZ A lr.2,dZ X.cur lr.1,(cb A lr.2).st⟩],0⟩:=by
  rw[qik rY,<-hX,mh,hAe];unfold jG;rw[if_neg (fun h=>h zQ),if_neg (fun h=>h he)]
 have oX:=(hw.dM 1 rfl).jE;refine ab ?_;refine aJ rfl (qg4 (S:=X.cur) (most:=lr.1) hw hT ⟨by omega,x2⟩) ?_;clear hw;rintro _ w ⟨yv,ye,yg,qv,ex,rfl,hw⟩;refine⟨_,rfl,?_⟩;obtain⟨er,sB⟩:∃ x,x=bA X.cur lr.1:=⟨_,rfl⟩
 obtain⟨S,hS⟩:∃ x,x=cb X.cur lr.1:=⟨_,rfl⟩
 obtain⟨C,hC⟩:∃ x,x=dZ X.cur lr.1:=⟨_,rfl⟩
 rw[<-sB]at hN ⊢;rw[<-hS,<-hC]at hw hN;rw[<-hS];have oS:=(hw.dM 2 rfl).jE;unfold bN;by_cases mW:er=0;rotate_left
 ·rw[if_pos mW]at hN
  have cZ:=sC _ _ mW hN;obtain⟨ec,kJ⟩:∃ e,e=er:=⟨_,rfl⟩
  obtain⟨LL,rX⟩:∃ L,L=X.de:=⟨_,rfl⟩
  have mV:ec≠0:=by rw[kJ];exact mW
  rw[<-kJ]at cZ ⊢;rw[<-rX]at hw cZ;rw[ep mV];refine fy ?_;intro w hw;rw[cZ];have hw:Sat w0 w (Ad pr 142 [.int .i64 0,.int .i64 0,.slice none 0 0,.slice none 0 0,.slice none 0 0]::Ad pa 164 [vv,sv,dv,.bool ex]::OS dH 201 sv ms::Aj (Bi ms LL)::Γ):=hw.bG;refine iN (parts:=[]) (vs:=[]) rfl rfl rfl ?_;refine fy ?_;intro w hw;refine mg (p:=pr) (vs:=[.int .i64 0,.int .i64 0,.slice none 0 0,.slice none 0 0,.slice none 0 0]) rfl rfl (v':=bE ec) (by rw[ep mV];rfl) rfl (fun j v hv=>jw (i:=0) hw rfl hv) ⟨.slice none 0 0,.slice none 0 0,.slice none 0 0,sv,ms,ex,rfl,fun h=>absurd h mV,?_⟩;have h9:Sat w0 _ (Aj (fun w=>Aw w (.slice none 0 0) (.slice none 0 0) (.slice none 0 0) bH)::_):=Sat.nX (fun w=>⟨RS.nil,RS.nil,RS.nil⟩) hw;exact h9.bG
 rw[if_neg (fun h=>h mW)]at hN;have uf:=sD x1 (sB.symm.trans mW);rw[<-hS,<-hC]at uf;rw[iy mW];refine fy ?_;intro w hw;simp only[set_cons_succ,set_cons_zero]at hw;have hw:Sat w0 w (Ad pa 164 [vv,sv,dv,.bool ex]::Aj (fun w=>Aw w av ae ag A)::OS aa 3 qv C::Aj (fun w=>Aw w yv ye yg S)::Ad pg 201 [.int .i64 k,.slice none 0 0,qv,.int .i64 0]::Ad pt1 142 [.int .i64 A.st,.int .i64 A.aY,av,ae,ag]::Ad pc 142 [.int .i64 S.st,.int .i64 S.aY,yv,ye,yg]::OS dH 201 sv ms::Aj (Bi ms X.de)::Ad pr 142 [.int .i64 0,.int .i64 0,.slice none 0 0,.slice none 0 0,.slice none 0 0]::Ad pt 26 [a,b,c,d]::Γ):=hw.bG;refine aJ rfl (qg4 (S:=A) (most:=lr.2) hw hT ⟨by omega,ud.2⟩) ?_;clear hw;rintro _ w ⟨zv,ze,zg,rv,ex,rfl,hw⟩;refine⟨_,rfl,?_⟩;obtain⟨er2,qwq⟩:∃ x,x=bA A lr.2:=⟨_,rfl⟩
 obtain⟨S2,xS⟩:∃ x,x=cb A lr.2:=⟨_,rfl⟩
 obtain⟨C2,hC2⟩:∃ x,x=dZ A lr.2:=⟨_,rfl⟩
 rw[<-qwq]at hN ⊢;rw[<-xS,<-hC2]at hw hN;rw[<-xS];have oS2:=(hw.dM 2 rfl).jE;unfold bN;by_cases sE:er2=0;rotate_left
 ·rw[if_pos sE]at hN
  have cZ:=sC _ _ sE hN;obtain⟨ec,kJ⟩:∃ e,e=er2:=⟨_,rfl⟩
  obtain⟨LL,rX⟩:∃ L,L=X.de:=⟨_,rfl⟩
  have mV:ec≠0:=by rw[kJ];exact sE
  rw[<-kJ]at cZ ⊢;rw[<-rX]at hw cZ;rw[ep mV];refine fy ?_;intro w hw;rw[cZ];have hw:Sat w0 w (Ad pr 142 [.int .i64 0,.int .i64 0,.slice none 0 0,.slice none 0 0,.slice none 0 0]::Ad pa 164 [vv,sv,dv,.bool ex]::OS dH 201 sv ms::Aj (Bi ms LL)::Γ):=hw.bG;refine iN (parts:=[]) (vs:=[]) rfl rfl rfl ?_;refine fy ?_;intro w hw;refine mg (p:=pr) (vs:=[.int .i64 0,.int .i64 0,.slice none 0 0,.slice none 0 0,.slice none 0 0]) rfl rfl (v':=bE ec) (by rw[ep mV];rfl) rfl (fun j v hv=>jw (i:=0) hw rfl hv) ⟨.slice none 0 0,.slice none 0 0,.slice none 0 0,sv,ms,ex,rfl,fun h=>absurd h mV,?_⟩;have h9:Sat w0 _ (Aj (fun w=>Aw w (.slice none 0 0) (.slice none 0 0) (.slice none 0 0) bH)::_):=Sat.nX (fun w=>⟨RS.nil,RS.nil,RS.nil⟩) hw;exact h9.bG
 rw[if_neg (fun h=>h sE)]at hN;have rZ:=sD ud.1 (qwq.symm.trans sE);rw[<-xS,<-hC2]at rZ;rw[iy sE];refine fy ?_;intro w hw;simp only[set_cons_succ,set_cons_zero]at hw;refine fP (pl [0,1,2,3,4,5,6] (.chk 4::pl [7,8,9,10] [])) hw kr ?_;clear hw;intro w hw;refine ab ?_;refine jh dH (x1:=⟨(k:Int),rv,qv,S2.st⟩) rfl rfl rfl (le_of_ble_eq_true rfl) (zero_lt_succ _) hw ?_;clear hw;intro s2 w hw;refine ab ?_;have eT:ms.length=X.de.length:=(show Bi ms X.de w from hw.dM 10 rfl).len;have oq:=(aM (s:=qv) hw).one;have oq2:=(aM (s:=rv) hw).one;refine rT (T:=dH) (sz:=4) (by_:=64) (e:=201) (zs:=[.int .i64 0,.slice none 0 0,.slice none 0 0,.int .i64 0]) (s:=sv) (s2:=s2) (xs:=ms) (ys:=[⟨(k:Int),rv,qv,S2.st⟩]) inferInstance rfl rfl (aM hw) rfl rfl (fun x hx v hv=>by rw[mem_singleton.1 hx]at hv;simp only[dH,mem_cons,not_mem_nil,or_false]at hv;rcases hv with rfl|rfl|rfl|rfl<;>first|rfl|exact oq|exact oq2) (by simp only[length_cons,length_nil];omega) (by unfold bo;simp only[length_cons,length_nil];omega) hw ?_;clear hw;intro sv w hw;refine fy ?_;intro w hw;simp only[set_cons_succ,set_cons_zero]at hw;have hw:Sat w0 w (OS aa 3 rv C2::OS aa 3 qv C::Aj (Bi ms X.de)::Aj (fun w=>Aw w yv ye yg S)::Aj (fun w=>Aw w zv ze zg S2)::Ad pc 142 [.int .i64 S.st,.int .i64 S.aY,yv,ye,yg]::Ad pa 164 [vv,sv,dv,.bool ex]::OS dH 201 sv (ms++[⟨(k:Int),rv,qv,S2.st⟩])::Ad pr 142 [.int .i64 0,.int .i64 0,.slice none 0 0,.slice none 0 0,.slice none 0 0]::Ad pt 26 [a,b,c,d]::Γ):=hw.bG
 have hw:=Sat.rd (Δ:=[_,_,_]) (φ:=Bi (ms++[⟨(k:Int),rv,qv,S2.st⟩]) (X.de++[⟨(k:Int),C2,C,S2.st⟩])) (fun _ _ h=>(h.dM 2 rfl).snoc rfl rfl (h.rs 0 rfl) (h.rs 1 rfl)) hw;obtain⟨ms,hms⟩:∃ l,l=ms++[⟨(k:Int),rv,qv,S2.st⟩]:=⟨_,rfl⟩
 obtain⟨LL,rX⟩:∃ L,L=X.de++[⟨(k:Int),C2,C,S2.st⟩]:=⟨_,rfl⟩
 rw[<-hms,<-rX]at hw;rw[<-rX]at hN;refine aJ rfl (qrG (A:=S) (B:=S2) (hw.dM 1 rfl) (hw.dM 2 rfl)) ?_;rintro _ w' ⟨uv,ue,ug,rfl,aj⟩;refine mz ?_;clear aj hw;intro hw;simp only[cons_append,nil_append]at hw;obtain⟨er3,xT⟩:∃ x,x=bU S S2:=⟨_,rfl⟩
 obtain⟨S3,hS3⟩:∃ x,x=eL S S2:=⟨_,rfl⟩
 rw[<-xT,<-hS3]at hN ⊢;rw[<-hS3]at hw;have o1:=(aM (s:=uv) hw).one;have o2:=(aM (s:=ue) hw).one;have o3:=(aM (s:=ug) hw).one;unfold bN;by_cases xU:er3=0;rotate_left
 ·rw[if_pos xU]at hN
  have cZ:=sC _ _ xU hN;obtain⟨ec,kJ⟩:∃ e,e=er3:=⟨_,rfl⟩
  have mV:ec≠0:=by rw[kJ];exact xU
  rw[<-kJ]at cZ ⊢;rw[ep mV];refine ab ?_;refine gZ (n:=5) (p:=pc) (vs:=[.int .i64 S3.st,.int .i64 S3.aY,uv,ue,ug]) rfl rfl hw inferInstance rfl rfl (by simp only[all_cons,all_nil,o1,o2,o3];rfl) ?_;clear hw;intro w hw;refine ab ?_;rw[cZ];have hw:Sat w0 w (Ad pr 142 [.int .i64 0,.int .i64 0,.slice none 0 0,.slice none 0 0,.slice none 0 0]::Ad pa 164 [vv,sv,dv,.bool ex]::OS dH 201 sv ms::Aj (Bi ms LL)::Γ):=hw.bG;refine iN (parts:=[]) (vs:=[]) rfl rfl rfl ?_;refine fy ?_;intro w hw;refine mg (p:=pr) (vs:=[.int .i64 0,.int .i64 0,.slice none 0 0,.slice none 0 0,.slice none 0 0]) rfl rfl (v':=bE ec) (by rw[ep mV];rfl) rfl (fun j v hv=>jw (i:=0) hw rfl hv) ⟨.slice none 0 0,.slice none 0 0,.slice none 0 0,sv,ms,ex,rfl,fun h=>absurd h mV,?_⟩;have h9:Sat w0 _ (Aj (fun w=>Aw w (.slice none 0 0) (.slice none 0 0) (.slice none 0 0) bH)::_):=Sat.nX (fun w=>⟨RS.nil,RS.nil,RS.nil⟩) hw;exact h9.bG
 rw[if_neg (fun h=>h xU)]at hN;rw[iy xU];refine ab ?_;refine gZ (n:=5) (p:=pc) (vs:=[.int .i64 S3.st,.int .i64 S3.aY,uv,ue,ug]) rfl rfl hw inferInstance rfl rfl (by simp only[all_cons,all_nil,o1,o2,o3];rfl) ?_;clear hw;intro w hw;refine ab ?_;have cu:S3.st=S.st*S2.st:=by rw[hS3];unfold eL;rw[if_pos (xT.symm.trans xU)]
 have xV:S.st*S2.st<=4096:=by
  have h:=xT.symm.trans xU;unfold bU at h;by_cases c1:Ar S/\Ar S2/\S.au=S2.au
  ·rw[if_pos c1]at h
   by_cases c2:4096<S.st*S2.st
   ·rw[if_pos c2]at h;exact absurd h (by decide)
   ·omega
  ·rw[if_neg c1]at h;exact absurd h (by decide)
 have xW:1*1<=S.st*S2.st:=Int.mul_le_mul uf.st1 rZ.st1 om (by have:=uf.st1;omega);refine⟨k+1,⟨rfl,trivial⟩,aH,⟨by omega,by rw[hN],fun _=>?_,sv,ms,ex,uv,ue,ug,?_⟩,by omega⟩
 ·rw[hN]
  refine⟨by show 1<=S3.st;omega,by show S3.st<=4096;omega,?_,by show LL.length=k+1;rw[rX,length_append,x4];rfl⟩;show Ch t.vars LL S3.st;rw[cu,rX];exact Ch.snoc X.de X.cur.st S.st ⟨(k:Int),C2,C,S2.st⟩ x3 (by show (k:Int)=_;rw[x4]) (by show (C2.length:Int)=_;rw[rZ.len,hAd,x4]) rZ.cC (by rw[x4];omega) uf.len uf.cC xV
 ·rw[hN]
  have h1:Sat w0 w (OS aa 3 uv S3.au::OS ax 190 ue S3.ak::OS ah 4 ug S3.goals::Ad pc 142 [.int .i64 S3.st,.int .i64 S3.aY,uv,ue,ug]::Ad pa 164 [vv,sv,dv,.bool ex]::OS dH 201 sv ms::Aj (Bi ms LL)::Ad pr 142 [.int .i64 0,.int .i64 0,.slice none 0 0,.slice none 0 0,.slice none 0 0]::Ad pt 26 [a,b,c,d]::Γ):=hw.bG;have h2:=Sat.rd (Δ:=[_,_,_]) (φ:=fun w=>Aw w uv ue ug S3) (fun _ _ h=>⟨h.rs 0 rfl,h.rs 1 rfl,h.rs 2 rfl⟩) h1;exact h2.bG
theorem Ch.step {vars:List Int}{L:List Bb}{n:Int}(h:Ch vars L n):∀ k,k<L.length->∃ y,y=L.getD k ⟨0,[],[],0⟩/\L.take (k+1)=L.take k++[y]/\y.var=(k:Int)/\((y.cls.length:Int)=vars.getD k aa.dflt)/\(∀ i:Nat,i<y.cls.length->0<=y.cls.getD i aa.dflt/\y.cls.getD i aa.dflt<y.de)/\k<vars.length/\(0<k->∃ n' m,Ch vars (L.take k) n'/\((y.lj.length:Int)=n')/\(∀ i:Nat,i<y.lj.length->0<=y.lj.getD i aa.dflt/\y.lj.getD i aa.dflt<m)/\m*y.de<=4096):=by
 induction h with
 | one x hv hl hr hp =>
  intro k hk;have:k=0:=by simp at hk;omega
  subst this
  exact⟨x,rfl,rfl,hv,hl,hr,hp,fun h=>absurd h om⟩
 | snoc l n m y h hv hl hr hp ha har hm ih =>
  intro k hk;by_cases aK:k<l.length
  ·obtain⟨z,h1,h2,h3⟩:=ih k aK
   refine⟨z,?_,?_,?_⟩
   ·rw[h1,qeD,if_pos aK]
   ·rw[take_append_of_le_length om,take_append_of_le_length om];exact h2
   ·rw[take_append_of_le_length om];exact h3
  ·rw[length_append,length_singleton]at hk
   have e:k=l.length:=by omega
   subst e;refine⟨y,?_,?_,hv,hl,hr,hp,fun _=>⟨n,m,?_,ha,har,hm⟩⟩
   ·rw[qeD,if_neg aK,if_pos rfl]
   ·rw[take_append_of_le_length (Nat.le_refl _),take_length]
    have:l.length+1=(l++[y]).length:=by rw[length_append];rfl
    rw[this,take_length]
   ·rw[take_append_of_le_length (Nat.le_refl _),take_length];exact h
theorem Bi.at {w0 w:World}{Γ:List HP}{ms:List C1}{L:List Bb}(h:Bi ms L w0) (hw:Sat w0 w Γ):Bi ms L w:=⟨h.len,h.var,h.de,fun i hi=>(h.cls i hi).at hw,fun i hi=>(h.lj i hi).at hw⟩
def CJ (w:World) (p:Addr) (t:Aa) (L:List Bb) (D:List Int):Prop:=∃ vv sv dv xb ms,AD w p [vv,sv,dv,xb]/\RS aa w vv t.vars/\RS dH w sv ms/\Bi ms L w/\RS aa w dv D
theorem CJ.at {w0 w:World}{Γ:List HP}{p:Addr}{t:Aa}{L:List Bb}{D:List Int}(h:CJ w0 p t L D) (hw:Sat w0 w Γ):CJ w p t L D:=by
 obtain⟨vv,sv,dv,xb,ms,h1,h2,h3,h4,h5⟩:=h;exact⟨vv,sv,dv,xb,ms,h1.at hw,h2.at hw,h3.at hw,h4.at hw,h5.at hw⟩
theorem qrP {w0:World}{p:Addr}{t:Aa}{L:List Bb}{D:List Int}{sx:Value}{s:List Int}(hr:CJ w0 p t L D) (hk:∀ k,k<L.length->∃ n,Ch t.vars L n) (hD:0<=lh s L/\lh s L<D.length) (hs:RS aa w0 sx s) (br:Ac t.vars s) :
  Calls Tryz.prog 331 #[.pointer (some p),sx] w0 fun e w'=>e=.returned (.int .i64 (D.getD (lh s L).toNat aa.dflt))/\Sat w0 w' []:=by
 obtain⟨vv,sv,dv,xb,ms,h1,h2,h3,h4,h5⟩:=hr;have eT:=h4.len;have hmb:=h3.bo;have iL:=br.1;have hw:=Sat.start w0;refine bn (args:=[.pointer (some p),sx]) mixed Tryz.func331 ?_;refine ab ?_;refine aJ rfl (wB h2 (hs.at hw)) ?_;rintro _ w' ⟨⟨r,rfl,hr⟩,aj⟩;refine aC ?_;clear aj hw;intro hw;have hrt:r=true:=hr.2 br;subst hrt;refine ab ?_;refine cd [5,8,25,52] (G:=Nat) (fun k=>[(25,.int .i64 k),(5,.int .i64 (lh s (L.take k)))]) (fun k w=>k<=L.length/\Sat w0 w []) (fun k=>L.length-k) 0 (fun _=>rfl) ⟨rfl,rfl,trivial⟩ ⟨zero_le _,hw⟩ ?_;clear hw;rintro σ k w ⟨hkL,hw⟩;refine ab ?_;refine ai ?_ ?_<;>intro g1;rotate_left
 ·have aK:k=L.length:=by omega
  rw[aK,take_length];refine ab ?_;exact aW (v:=.int .i64 (D.getD (lh s L).toNat aa.dflt)) rfl rfl ⟨rfl,hw.aT⟩
 have aK:k<L.length:=by omega
 obtain⟨n,gh⟩:=hk k aK;obtain⟨y,hy,hyt,hyv,hyc,hyr,nh,hya⟩:=gh.step k aK;have m1:=h4.var k aK;have m2:=h4.de k aK;have m3:=h4.cls k aK;have m4:=h4.lj k aK;rw[<-hy]at m1 m2 m3 m4;rw[hyv]at m1;obtain⟨m,hm⟩:∃ m,m=ms.getD k dH.dflt:=⟨_,rfl⟩
 rw[<-hm]at m1 m2 m3 m4;obtain⟨mv,mc,ma,mt⟩:=m;have m1:mv=(k:Int):=m1;have m2:mt=y.de:=m2;have m3:RS aa w0 mc y.cls:=m3;have m4:RS aa w0 ma y.lj:=m4;subst m1 m2;have o3:=m3.one;have o4:=m4.one;refine cK ?_;intro p w hw;rw[<-hm];refine gZ (n:=4) (p:=p) (vs:=[.int .i64 k,mc,ma,.int .i64 y.de]) rfl rfl hw inferInstance rfl rfl (by simp only[all_cons,all_nil,o3,o4];rfl) ?_;clear hw;intro w hw;have vG:=br.2 k om;refine ab ?_;refine fP (pl [0,1,2,3,4,5,6,7,8,9] []) hw kr ?_;clear hw;intro w hw;refine ab ?_;refine ai ?_ ?_<;>intro g2
 ·have jb:k=0:=by omega
  subst jb;refine ab ?_;have hE:lh s (L.take (0+1))=y.cls.getD (s.getD 0 aa.dflt).toNat aa.dflt:=by
   rw[hyt];show y.cls.getD (s.getD y.var.toNat aa.dflt).toNat aa.dflt=_;rw[hyv];rfl
  exact⟨0+1,⟨rfl,by rw[hE];rfl,trivial⟩,aH,⟨by omega,hw.aT⟩,by omega⟩
 have rY:0<k:=by omega
 obtain⟨n',M,b1,b2,b3,b4⟩:=hya rY;have b5:=b1.at br;have b6:=b3 (lh s (L.take k)).toNat om;have b7:=hyr (s.getD k aa.dflt).toNat om;have hE:lh s (L.take (k+1))=y.lj.getD (lh s (L.take k)).toNat aa.dflt*y.de+y.cls.getD (s.getD k aa.dflt).toNat aa.dflt:=by
  rw[hyt,qij b1.ne,hyv];rfl
 obtain⟨u,hu⟩:∃ u,u=y.lj.getD (lh s (L.take k)).toNat aa.dflt:=⟨_,rfl⟩
 have b8:0<=u*y.de:=Int.mul_nonneg om om;have b9:(u+1)*y.de<=M*y.de:=Int.mul_le_mul_of_nonneg_right om om;rw[Int.add_mul,Int.one_mul]at b9;have c1 : -9223372036854775808<=u*y.de:=by omega
 have c2:u*y.de<=9223372036854775807:=by omega
 refine ab ?_;refine fP (pl [0,1,2,3,4,5,6,7,8,9,10] []) hw kr ?_;clear hw;intro w hw;refine ab ?_;rw[<-hu];refine ab ?_;exact⟨k+1,⟨rfl,by rw[hE,<-hu];rfl,trivial⟩,aH,⟨by omega,hw.aT⟩,by omega⟩
def DK (pb:Addr) (a:Value) (L:List Int) (W W':World):Prop:=(W.cell? pb=some a->W'.cell? pb=some a)/\(RS aa W a L->RS aa W' a L)
def zf (x:Int):Array Value:=#[.int .i64 x]
theorem qkL {n:Nat}{w0:World}{pb:Addr}{a:Value}{L:List Int}(hc:w0.cell? pb=some a) (ha:RS aa w0 a L) :
  SeqStopsK (α:=Int) Fence.wide n Tryz.prog 113 #[.pointer (some pb)] zf (DK pb a L) (fun xs=>xs=L) (fun _=>True) L.length w0:=by
 intro l J Jx W hb hJ hJx hY h0;refine(callsIn_wide (n:=n)).2 ?_;have lz:W.cell? pb=some a:=by
  have bD:pb.block<w0.heap.size:=by
   rcases Nat.lt_or_ge pb.block w0.heap.size with h|h
   ·exact h
   ·simp[World.cell?,Array.getElem?_eq_none h]at hc
  rw[hb.cell bD];exact hc
 have pE:RS aa W a L:=⟨ha.1.below hb,ha.2⟩
 have ir:=ha.bo;refine bn (args:=[.func (.yield l) #[] #[],.pointer (some pb)]) mixed Tryz.func113 ?_;refine ab ?_;refine sq rfl (sF rfl lz) ?_;refine ab ?_;refine cd [4,4,7,15] (G:=Nat) (fun k=>[(7,.int .i64 k)]) (fun k w=>k<=L.length/\J (L.take k) w/\w.cell? pb=some a/\RS aa w a L) (fun k=>L.length-k) 0 (fun _=>rfl) ⟨rfl,trivial⟩ ⟨zero_le _,h0,lz,pE⟩ ?_;clear lz pE h0;rintro σ k w ⟨hk,hj,lz,pE⟩;refine ab ?_;refine ai ?_ ?_<;>intro h1
 ·have aK:k<L.length:=by omega
  have hy:=hY (L.take k) (L.getD k aa.dflt) w hj (by rw[length_take];omega);have ik:L.take k++[L.getD k aa.dflt]=L.take (k+1):=by rw[take_add_one,getElem?_eq_getElem aK,getD_at aK];rfl
  rw[ik]at hy;refine ab ?_;refine qmR (l:=l) rfl rfl hy ?_;rintro _ W' (⟨rfl,zS,j7,gW⟩|⟨rfl,hjx⟩)
  ·refine⟨_,rfl,?_⟩
   refine ab ?_;exact⟨k+1,⟨rfl,trivial⟩,aH,⟨by omega,zS,j7 lz,gW pE⟩,by omega⟩
  ·refine⟨_,rfl,?_⟩
   refine ab ?_;exact qiw rfl ⟨⟨_,rfl⟩,.inr ⟨_,trivial,hjx⟩⟩
 ·have cH:k=L.length:=by omega
  subst cH;refine ab ?_;rw[take_length]at hj;exact o7 rfl ⟨⟨_,rfl⟩,.inl ⟨L,rfl,hj⟩⟩
theorem qmh {w0:World}{a:Value} :
  Calls Tryz.prog 88 #[a] w0 fun e w'=>∃ pb,e=.returned (.func (.func 113) #[] #[.pointer (some pb)])/\Sat w0 w' [Ad pb 22 a.cells.toList]:=by
 have hw:=Sat.start w0;refine bn (args:=[a]) mixed Tryz.func88 ?_;refine db ?_;intro p w hw;exact aW (v:=.func (.func 113) #[] #[.pointer (some p)]) rfl rfl ⟨p,rfl,hw⟩
end
end Go.Proofs.YtmapkjoefdgjfaaGreatDoor
