/- Several texts. -/
import Derived.Test.YtmapkjoefdgjfaaGreatDoorMW6
set_option linter.unusedSimpArgs false
set_option linter.unusedVariables false
set_option maxRecDepth 8000
set_option maxHeartbeats 16000000
open List Nat
namespace Go.Proofs.YtmapkjoefdgjfaaGreatDoor
open Go.Sl Go
attribute [local irreducible] vc opsW opsD opV opW PureV ReadV Thn Blk
noncomputable def nc (S:Ak):List Int:=if fM S=true then j9 S else []
theorem qkU {w0:World}{sc se sg:Value}{S:Ak}(hS:Aw w0 sc se sg S) (hT:Bv w0) :
  Calls Tryz.prog 147 #[bN S sc se sg] w0 fun e w'=>∃ v,e=.returned (.tuple #[v,bE (fD S)])/\(fM S=true->∃ L:List ByteArray,L.length=S.st.toNat/\j9 S=cm L)/\Sat w0 w' [OS aa 3 v (nc S)]:=by
 have hw:=Sat.start w0;have oS:=hS.jE;have hsg:=hS.goals;refine bn (args:=[bN S sc se sg]) mixed Tryz.func147 ?_;unfold bN;refine cK ?_;intro p w hw;have hw:Sat w0 w [Ad p 142 [.int .i64 S.st,.int .i64 S.aY,sc,se,sg]]:=hw;obtain⟨ps,uQ⟩:∃ q,q=p:=⟨p,rfl⟩
 subst uQ;refine aJ rfl (qdi (S:=S) (hS.at hw)) ?_;refine mf ?_;clear hw;intro w' hw;by_cases hv:fM S=true
 case neg =>
  rw[Bool.not_eq_true]at hv;rw[hv];have hE:fD S=2:=by unfold fD;rw[if_neg (by rw[hv];simp)]
  have hR:nc S=[]:=by unfold nc;rw[if_neg (by rw[hv];simp)]
  rw[hE,hR];refine ab ?_;exact dz (v:=.slice none 0 0) (v':=.iface 57 (.int .i64 2)) rfl rfl rfl ⟨.slice none 0 0,by rw[ep (by decide)],(fun h=>by simp[hv]at h),(lB hw).nil⟩
 rw[hv];have iu:Ar S:=Classical.byContradiction fun h=>by rw[r6 h]at hv;cases hv
 have hE:fD S=0:=by unfold fD;rw[if_pos hv]
 have hR:nc S=j9 S:=by unfold nc;rw[if_pos hv]
 rw[hE,hR];obtain⟨a1,a2,a3,a4,a5,a6,a7,_⟩:=id iu;obtain⟨n,hn⟩:∃ n,n=S.st.toNat:=⟨_,rfl⟩
 have l7:S.st=(n:Int):=by omega
 have kL:S.goals.length=n:=by omega
 refine ab ?_;refine zJ iC ⟨#[]⟩ rfl rfl rfl rfl om om om hw ?_;clear hw;intro xv w hw;rw[show S.st.toNat=n from hn.symm]at hw;refine ab ?_;refine cd [5,6,21,31] (G:=Nat) (fun k=>[(21,.int .i64 k)]) (fun k w=>k<=n/\Sat w0 w [OS iC 9 xv ((S.goals.take k).map il++replicate (n-k) ⟨#[]⟩),Ad ps 142 [.int .i64 S.st,.int .i64 S.aY,sc,se,sg]]) (fun k=>n-k) 0 (fun _=>rfl) ⟨rfl,trivial⟩ ⟨zero_le _,hw⟩ ?_;clear hw;rintro σ k w ⟨hk,hw⟩;have eT:((S.goals.take k).map il).length=k:=by rw[length_map,length_take];omega
 have ku:((S.goals.take k).map il++replicate (n-k) (⟨#[]⟩:ByteArray)).length=n:=by rw[length_append,eT,length_replicate];omega
 refine ab ?_;refine ai ?_ ?_<;>intro h2
 ·have aK:k<n:=by omega
  refine ab ?_;refine aJ rfl (qrM (S.goals.getD k ah.dflt)) ?_;refine mf ?_;clear hw;intro w' hw;refine fy ?_;intro w hw;refine⟨k+1,⟨rfl,trivial⟩,aH,⟨by omega,?_⟩,by omega⟩;have e:((S.goals.take k).map il++replicate (n-k) (⟨#[]⟩:ByteArray)).set k (il (S.goals.getD k ah.dflt))=(S.goals.take (k+1)).map il++replicate (n-(k+1)) ⟨#[]⟩:=by
   have hr:n-k=(n-(k+1))+1:=by omega
   rw[hr,replicate_succ,dJ ah.dflt (show k<S.goals.length by omega),map_append,append_assoc,set_append_right _ _ (by rw[eT];exact Nat.le_refl _),eT,Nat.sub_self];rfl
  rw[e]at hw;exact hw.aT
 have fT:k=n:=by omega
 rw[fT,Nat.sub_self,replicate_zero,append_nil,take_of_length_le om]at hw;have hgm:(S.goals.map il).length=n:=by rw[length_map];exact kL
 refine ab ?_;refine aJ rfl (qk2 (L:=S.goals.map il) (aM (s:=xv) hw) om) ?_;rintro _ w' ⟨cv,rfl,aj⟩;refine aA ?_;clear aj hw;intro hw;have hw:Sat w0 w' [OS aa 3 cv (cm (S.goals.map il)),Ad ps 142 [.int .i64 S.st,.int .i64 S.aY,sc,se,sg]]:=hw.aT;refine ab ?_;refine dj [2,3,7,10,37,48] (G:=List ByteArray) (H:=Value) (fun L cv=>[(7,cv),(8,.int .i64 ((bF L).length:Nat))]) (fun L cv w=>L.length=n/\(∃ j,gE (e7 S) j (kB S)=(cm L,(bF L).length,false))/\Sat w0 w [OS aa 3 cv (cm L),Ad ps 142 [.int .i64 S.st,.int .i64 S.aY,sc,se,sg]]) (fun L _=>n+1-(bF L).length) (S.goals.map il) cv (fun _ _=>rfl) ⟨rfl,rfl,trivial⟩ ⟨hgm,⟨0,rfl⟩,hw⟩ ?_;clear hw;rintro σ L cv w ⟨hLl,⟨j,hj⟩,hw⟩;have iv:=wO L;have cu:gE (e7 S) (j+1) (kB S)=(cm (fj S (cm L)),(bF (fj S (cm L))).length,decide ((bF (fj S (cm L))).length=(bF L).length)):=by
  show e7 S (gE (e7 S) j (kB S))=_;rw[hj];rfl
 have oC:=qnu (S:=S) (l:=L) om;refine ab ?_;refine aJ rfl (qrX (S:=S) (c:=cm L) (hS.at hw) iu (hT.at hw) (aM (s:=cv) hw) (by rw[uR];omega) (fun i hi=>?_)) ?_
 ·rw[uR]at hi
  have:=zW hi;omega
 rintro _ w' ⟨nv,rfl,aj⟩;refine aA ?_;clear aj hw;intro hw;obtain⟨L2,wW⟩:∃ q,q=fj S (cm L):=⟨_,rfl⟩
 have yn:L2.length=n:=by rw[wW,qnt];exact hn.symm
 rw[<-wW]at hw cu oC ⊢;refine ab ?_;refine ai ?_ ?_<;>intro h3
 ·have hd:gE (e7 S) (j+1) (kB S)=(cm L2,(bF L2).length,true):=by rw[cu,decide_eq_true om]
  have r9:j9 S=cm L2:=by
   unfold j9;rw[fixF_eq (qgV S) (n:=j+1) (by rw[hd];rfl),hd]
  have hex:∃ L':List ByteArray,L'.length=S.st.toNat/\cm L2=cm L':=⟨L2,by rw[yn,hn],rfl⟩
  rw[r9];refine ab ?_;exact dz (v:=nv) (v':=.nilIface) rfl rfl rfl ⟨nv,by rw[iy rfl],fun _=>hex,hw.aT⟩
 ·have qye:=wO L2
  refine ab ?_;exact⟨L2,nv,⟨rfl,rfl,trivial⟩,aH,⟨yn,⟨j+1,by rw[cu,decide_eq_false om]⟩,hw.aT⟩,by omega⟩
theorem qoF {w0:World}{v:Value}{g:List Bool}(hl:RS ah w0 v g) (hn:g.length<=65536) :
  Calls Tryz.prog 169 #[v] w0 fun e w'=>e=.returned (.tuple #[.int .i64 ((nb g).1:Nat),.int .i64 ((nb g).2:Nat)])/\Sat w0 w' []:=by
 have hw:=Sat.start w0;refine bn (args:=[v]) mixed Tryz.func169 ?_;refine ab ?_;refine cd [2,5,9,29] (G:=Nat) (fun K=>[(4,.int .i64 ((K:Int)-1))]) (fun K w=>K<=g.length/\wL g K=nb g/\Sat w0 w []) (fun K=>K) g.length (fun _=>rfl) ⟨rfl,trivial⟩ ⟨Nat.le_refl _,rfl,hw⟩ ?_;clear hw;rintro σ K w ⟨hK,hp,hw⟩;refine ab ?_;refine ai ?_ ?_<;>intro h1
 ·obtain⟨k,rfl⟩:∃ k,K=k+1:=⟨K-1,by omega⟩
  have jb:k≠0:=by omega
  unfold wL at hp;rw[if_neg jb]at hp;have ek:(((k+1:Nat):Int)-1)=(k:Int):=by omega
  rw[ek];refine ab ?_;refine cd [2,3,5,5,15,29] (G:=Nat) (fun I=>[(5,.int .i64 ((I:Int)-1))]) (fun I w=>I<=k/\wM g k I=wM g k k/\Sat w0 w []) (fun I=>I) k (fun _=>rfl) ⟨rfl,trivial⟩ ⟨Nat.le_refl _,rfl,hw⟩ ?_;clear hw;rintro σ I w ⟨hI,pH,hw⟩;refine ab ?_;refine ai ?_ ?_<;>intro h2
  ·obtain⟨i,rfl⟩:∃ i,I=i+1:=⟨I-1,by omega⟩
   have ei:(((i+1:Nat):Int)-1)=(i:Int):=by omega
   rw[ei];rw[show wM g k (i+1)=if g.getD i ah.dflt=g.getD k ah.dflt then some i else wM g k i from rfl]at pH;refine fi ?_;intro w hw;by_cases he:g.getD i ah.dflt=g.getD k ah.dflt
   ·rw[if_pos he]at pH
    rw[<-pH]at hp;have hq:(g.getD i ah.dflt == g.getD k ah.dflt)=true:=by rw[he];exact beq_self_eq_true _
    rw[hq];refine ab ?_;exact dz (v:=.int .i64 (i:Nat)) (v':=.int .i64 (k:Nat)) rfl rfl rfl ⟨by rw[<-hp],hw⟩
   ·rw[if_neg he]at pH
    have hq:(g.getD i ah.dflt == g.getD k ah.dflt)=false:=by rw[beq_eq_false_iff_ne];exact he
    rw[hq];refine ab ?_;exact⟨i,⟨rfl,trivial⟩,aH,⟨by omega,pH,hw⟩,by omega⟩
  have uP:I=0:=by omega
  subst uP;rw[<-pH]at hp;refine ab ?_;exact⟨k,⟨rfl,trivial⟩,aH,⟨by omega,hp,hw⟩,by omega⟩
 have qy:nb g=(0,1):=by
  rw[<-hp];rcases Nat.lt_or_ge K 1 with h|h
  ·have:K=0:=by omega
   subst this;rfl
  ·have:K=1:=by omega
   subst this;rfl
 rw[qy];refine ab ?_;exact dz (v:=.int .i64 0) (v':=.int .i64 1) rfl rfl rfl ⟨rfl,hw⟩
noncomputable def pI (S:Ak) (most:Int):List Int:=if fM S=true then dS S most else []
theorem qrx {w0:World}{sc se sg:Value}{S:Ak}{most:Int}(hS:Aw w0 sc se sg S) (hT:Bv w0) :
  Calls Tryz.prog 146 #[bN S sc se sg,.int .i64 most] w0 fun e w'=>∃ v,e=.returned (.tuple #[v,bE (fD S)])/\(fM S=true->0<(dS S most).length/\∀ x∈dS S most,0<=x/\x<=65536)/\Sat w0 w' [OS aa 3 v (pI S most)]:=by
 have hw:=Sat.start w0;have oS:=hS.jE;have hsg:=hS.goals;refine bn (args:=[bN S sc se sg,.int .i64 most]) mixed Tryz.func146 ?_;unfold bN;refine cK ?_;intro p w hw;have hw:Sat w0 w [Ad p 142 [.int .i64 S.st,.int .i64 S.aY,sc,se,sg]]:=hw;obtain⟨ps,uQ⟩:∃ q,q=p:=⟨p,rfl⟩
 subst uQ;refine aJ rfl (qkU (S:=S) (hS.at hw) (hT.at hw)) ?_;rintro _ w' ⟨cv,rfl,iH,aj⟩;refine aA ?_;clear aj hw;intro hw;by_cases hv:fM S=true
 case neg =>
  have hE:fD S=2:=by unfold fD;rw[if_neg hv]
  have hR:pI S most=[]:=by unfold pI;rw[if_neg hv]
  rw[hE,hR,ep (by decide)];refine ab ?_;exact dz (v:=.slice none 0 0) (v':=.iface 57 (.int .i64 2)) rfl rfl rfl ⟨.slice none 0 0,rfl,(fun h=>absurd h hv),(lB hw).nil⟩
 have iu:Ar S:=Classical.byContradiction fun h=>by rw[r6 h]at hv;cases hv
 have hE:fD S=0:=by unfold fD;rw[if_pos hv]
 have hR:pI S most=dS S most:=by unfold pI;rw[if_pos hv]
 have hbR:nc S=j9 S:=by unfold nc;rw[if_pos hv]
 rw[hE,hR,iy rfl];obtain⟨a1,a2,a3,a4,a5,a6,a7,_⟩:=id iu;obtain⟨L,hLl,wN⟩:=iH hv;obtain⟨n,hn⟩:∃ n,n=S.st.toNat:=⟨_,rfl⟩
 have kL:S.goals.length=n:=by omega
 obtain⟨C0,hC0⟩:∃ C,C=j9 S:=⟨_,rfl⟩
 have qwr:C0.length=n:=by rw[hC0,wN,uR];omega
 have xY:∀ x∈C0,0<=x/\x<4096:=fun x hx=>by
  rw[hC0,wN]at hx;obtain⟨i,hi,rfl⟩:=getElem_of_mem hx;have h1:=zW (l:=L) (i:=i) (by rw[uR]at hi;exact hi);rw[getD_at hi]at h1;have:=wO L;omega
 have uh:=qjg (l:=C0) om;have hmb:=xY _ uh;rw[hbR,<-hC0]at hw;refine ab ?_;obtain⟨M,hM⟩:∃ M:Nat,(M:Int)=max 1 (min most 4096):=⟨(max 1 (min most 4096)).toNat,by omega⟩
 have wH:(if (if (4096:Int)<most then 4096 else most)>1 then (if (4096:Int)<most then 4096 else most) else 1)=(M:Int):=by
  rw[hM]
  repeat' split
  all_goals omega
 rw[wH];have hMt:(max 1 (min most 4096)).toNat=M:=by omega
 have wG:1<=M:=by omega
 refine aJ rfl (qh6 (l:=C0) (aM (s:=cv) hw) om) ?_;refine mf ?_;clear hw;intro w' hw;refine xL ?_;refine qsq ah false (n:=fW C0+1) rfl rfl rfl rfl om (by show (1:Int)*_<=_;omega) om hw ?_;clear hw;intro bg w hw;obtain⟨m,hm⟩:∃ m,m=(fW C0+1).toNat:=⟨_,rfl⟩
 have pD:(m:Int)=fW C0+1:=by omega
 rw[<-hm]at hw ⊢;have qx7:∀ i:Nat,i<n->0<=C0.getD i aa.dflt/\C0.getD i aa.dflt<m:=fun i hi=>by
  have hx:C0.getD i aa.dflt∈C0:=bY aa.dflt om;have h1:=qq3 hx;have h2:=xY _ hx;omega
 rw[<-qq4 (g:=S.goals) (c:=C0)]at hw;refine ab ?_;have hw:Sat w0 w [OS ah 4 (.slice (some ⟨bg,0,none⟩) m m) (jl S.goals C0 m 0),OS aa 3 cv C0,Ad ps 142 [.int .i64 S.st,.int .i64 S.aY,sc,se,sg]]:=hw.aT;refine cd [9,10,32,45] (G:=Nat) (fun k=>[(32,.int .i64 k)]) (fun k w=>k<=n/\Sat w0 w [OS ah 4 (.slice (some ⟨bg,0,none⟩) m m) (jl S.goals C0 m k),OS aa 3 cv C0,Ad ps 142 [.int .i64 S.st,.int .i64 S.aY,sc,se,sg]]) (fun k=>n-k) 0 (fun _=>rfl) ⟨rfl,trivial⟩ ⟨zero_le _,hw⟩ ?_;clear hw;rintro σ k w ⟨hk,hw⟩;have qx8:(jl S.goals C0 m k).length=m:=zX;refine ab ?_;refine ai ?_ ?_<;>intro h2
 ·have aK:k<n:=by omega
  obtain⟨mC,hx1⟩:=qx7 k aK;have r7:=qq6 (g:=S.goals) (c:=C0) (k:=m) (m:=k) mC hx1;refine fy ?_;intro w hw;rw[<-r7]at hw;exact⟨k+1,⟨rfl,trivial⟩,aH,⟨by omega,hw.aT⟩,by omega⟩
 have fT:k=n:=by omega
 have hG0:jl S.goals C0 m n=r8 S.goals C0 m:=by rw[<-qwr];rfl
 rw[fT,hG0]at hw;have qws:(r8 S.goals C0 m).length=m:=by rw[<-hG0];exact zX
 refine ab ?_;have hw:Sat w0 w [OS ah 4 (.slice (some ⟨bg,0,none⟩) (r8 S.goals C0 m).length m) (r8 S.goals C0 m),OS aa 3 cv C0,Ad ps 142 [.int .i64 S.st,.int .i64 S.aY,sc,se,sg]]:=by rw[qws];exact hw.aT
 refine dj [8,8,11,14,46,82] (G:=List Int) (H:=List Bool) (fun C G=>[(8,.slice (some ⟨bg,0,none⟩) G.length m)]) (fun C G w=>C.length=n/\G.length<=m/\(∀ x∈C,0<=x/\x<=65536)/\(∃ j,gE (eu M) j (C0,r8 S.goals C0 m)=(C,G))/\Sat w0 w [OS ah 4 (.slice (some ⟨bg,0,none⟩) G.length m) G,OS aa 3 cv C,Ad ps 142 [.int .i64 S.st,.int .i64 S.aY,sc,se,sg]]) (fun C G=>G.length) C0 (r8 S.goals C0 m) (fun _ _=>rfl) ⟨by rw[qws];rfl,trivial⟩ ⟨qwr,by omega,fun x hx=>by have:=xY x hx;omega,⟨0,rfl⟩,hw⟩ ?_;clear hw;rintro σ C G w ⟨hCl,hGl,hCe,⟨j,hj⟩,hw⟩;refine ab ?_;refine ai ?_ ?_<;>intro h3
 ·have hGM:M<G.length:=by omega
  obtain⟨xV,qy⟩:=qus (g:=G) om;have fE:gE (eu M) (j+1) (C0,r8 S.goals C0 m)=(C.map (j0 (nb G).1 (nb G).2),G.eraseIdx (nb G).2):=by
   show eu M (gE (eu M) j _)=_;rw[hj];unfold eu;rw[if_neg (by show ¬G.length<=M;omega)]
  obtain⟨pi,pH⟩:∃ q,q=(nb G).1:=⟨_,rfl⟩
  obtain⟨pk,nf⟩:∃ q,q=(nb G).2:=⟨_,rfl⟩
  refine ab ?_;refine aJ rfl (qoF (g:=G) (aM (s:=.slice (some ⟨bg,0,none⟩) G.length m) hw) om) ?_;refine mf ?_;clear hw;intro w' hw;rw[<-pH,<-nf]at xV fE ⊢;rw[<-nf]at qy;refine ab ?_;have hw:Sat w0 w' [OS ah 4 (.slice (some ⟨bg,0,none⟩) G.length m) G,OS aa 3 cv ((C.take 0).map (j0 pi pk)++C.drop 0),Ad ps 142 [.int .i64 S.st,.int .i64 S.aY,sc,se,sg]]:=hw;refine cd [13,14,57,77] (G:=Nat) (fun k=>[(57,.int .i64 k)]) (fun k w=>k<=n/\Sat w0 w [OS ah 4 (.slice (some ⟨bg,0,none⟩) G.length m) G,OS aa 3 cv ((C.take k).map (j0 pi pk)++C.drop k),Ad ps 142 [.int .i64 S.st,.int .i64 S.aY,sc,se,sg]]) (fun k=>n-k) 0 (fun _=>rfl) ⟨rfl,trivial⟩ ⟨zero_le _,hw⟩ ?_;clear hw;rintro σ k w ⟨hk,hw⟩;have xZ:((C.take k).map (j0 pi pk)).length=k:=by rw[length_map,length_take];omega
  have jv:((C.take k).map (j0 pi pk)++C.drop k).length=n:=by rw[length_append,xZ,length_drop];omega
  refine ab ?_;refine ai ?_ ?_<;>intro h4
  ·have aK:k<n:=by omega
   obtain⟨x,hx⟩:∃ x,x=C.getD k aa.dflt:=⟨_,rfl⟩
   have sK:=hCe _ (bY aa.dflt (show k<C.length by omega));rw[<-hx]at sK;have uS:((C.take k).map (j0 pi pk)++C.drop k).getD k aa.dflt=x:=by
    rw[hx,getD_eq_getElem?_getD,getElem?_append_right om,xZ,Nat.sub_self,getElem?_drop,Nat.add_zero,<-getD_eq_getElem?_getD]
   have fN:∀ y,y=j0 pi pk x->((C.take k).map (j0 pi pk)++C.drop k).set k y=(C.take (k+1)).map (j0 pi pk)++C.drop (k+1):=fun y hy=>by
    have hdk:C.drop k=C.getD k aa.dflt::C.drop (k+1):=by rw[drop_eq_getElem_cons (show k<C.length by omega),getD_at]
    rw[hdk,set_append_right _ _ om,xZ,Nat.sub_self,set_cons_zero,dJ aa.dflt (show k<C.length by omega),map_append,append_assoc,hy,<-hx];rfl
   have jd:j0 pi pk x=x->((C.take k).map (j0 pi pk)++C.drop k)=(C.take (k+1)).map (j0 pi pk)++C.drop (k+1):=fun h=>by
    have hdk:C.drop k=C.getD k aa.dflt::C.drop (k+1):=by rw[drop_eq_getElem_cons (show k<C.length by omega),getD_at]
    rw[hdk,dJ aa.dflt (show k<C.length by omega),map_append,append_assoc,<-hx,map_cons,h];rfl
   refine ab ?_;rw[uS];by_cases c1:x=(pk:Int)
   ·have e1:j0 pi pk x=(pi:Int):=by unfold j0;rw[if_pos c1]
    have d1:decide (x=(pk:Int))=true:=decide_eq_true c1;have d2:decide ((pk:Int)<x)=false:=decide_eq_false om;rw[d1];refine fy ?_;intro w hw;rw[fN _ e1.symm]at hw;rw[d2];refine ab ?_;exact⟨k+1,⟨rfl,trivial⟩,aH,⟨by omega,hw.aT⟩,by omega⟩
   have d1:decide (x=(pk:Int))=false:=decide_eq_false c1;rw[d1];by_cases c2:x>(pk:Int)
   ·have e1:j0 pi pk x=x-1:=by unfold j0;rw[if_neg c1,if_pos c2]
    have d2:decide ((pk:Int)<x)=true:=decide_eq_true c2;refine ab ?_;rw[d2];refine fy ?_;intro w hw;rw[fN _ e1.symm]at hw;exact⟨k+1,⟨rfl,trivial⟩,aH,⟨by omega,hw.aT⟩,by omega⟩
   ·have e1:j0 pi pk x=x:=by unfold j0;rw[if_neg c1,if_neg c2]
    have d2:decide ((pk:Int)<x)=false:=decide_eq_false om;refine ab ?_;rw[d2];refine ab ?_;rw[jd e1]at hw;exact⟨k+1,⟨rfl,trivial⟩,aH,⟨by omega,hw.aT⟩,by omega⟩
  have qx9:k=n:=by omega
  rw[qx9,take_of_length_le om,drop_eq_nil_of_le om,append_nil]at hw;have qya:∀ x∈C.map (j0 pi pk),0<=x/\x<=65536:=fun x hx=>by
   obtain⟨y,hy,rfl⟩:=mem_map.1 hx;have:=hCe y hy;unfold j0;split
   ·omega
   ·split<;>omega
  refine ab ?_;refine aJ rfl (qtK (k:=pk) hw om qy) ?_;rintro _ w' ⟨rfl,dA⟩;clear hw;have hw:=dA;clear dA;refine⟨_,rfl,?_⟩;have la:(G.eraseIdx pk).length=G.length-1:=length_eraseIdx_of_lt qy;refine ab ?_;exact⟨C.map (j0 pi pk),G.eraseIdx pk,⟨rfl,trivial⟩,aH,⟨by rw[length_map];exact hCl,by omega,qya,⟨j+1,fE⟩,hw.aT⟩,by omega⟩
 have r9:dS S most=C:=by
  unfold dS;rw[hMt,<-hC0,<-hm,fixF_eq (qd5 M) (n:=j) (by rw[hj];unfold ka;exact decide_eq_true (by show G.length<=M;omega)),hj]
 rw[r9];refine ab ?_;exact dz (v:=cv) (v':=.nilIface) rfl rfl rfl ⟨cv,rfl,fun _=>⟨by omega,hCe⟩,hw.aT⟩
instance qxL:Bk Tryz.prog 190 3:=⟨kr⟩
instance qxM:C6 Tryz.prog 190 ax:=⟨fun a b w=>by
 have h:=Bk.run (P:=Tryz.prog) (t:=190) inferInstance (us:=[a.src,a.bI,a.dst]) (zs:=[b.src,b.bI,b.dst]) rfl rfl w;have e:decide ([a.src,a.bI,a.dst]=[b.src,b.bI,b.dst])=decide (a=b):=by
  rw[decide_eq_decide];cases a;cases b;simp
 rw[e]at h
 exact h⟩
theorem qru {w0 w:World}{Γ:List HP}{s:Value}{xs:List Au}(hw:Sat w0 w (OS ax 190 s xs::Γ)) (hn:xs.length<=65536) :
  Calls Tryz.prog 196 #[s] w fun e w'=>∃ s',e=.returned s'/\Sat w0 w' (OS ax 190 s' (ix xs)::Γ):=by
 refine bn (args:=[s]) mixed Tryz.func196 ?_;refine ab ?_;refine ai ?_ ?_<;>intro h1
 ·have he:ix xs=xs:=by
   match xs,h1 with
   | [],_=>rfl
   | [_],_=>rfl
   | _::_::_,h=>simp only[length_cons]at h;omega
  refine ab ?_;exact aW (v:=s) rfl rfl ⟨s,rfl,by rw[he];exact hw.bG⟩
 have nW:2<=xs.length:=by omega
 refine ab ?_;refine cd [2,5,10,59] (G:=Nat) (fun k=>[(3,.int .i64 k)]) (fun k w=>1<=k/\k<=xs.length/\ix (xs.take k)=xs.take k/\Sat w0 w (OS ax 190 s xs::Γ)) (fun k=>xs.length-k) 1 (fun _=>rfl) ⟨rfl,trivial⟩ ⟨Nat.le_refl _,by omega,by cases xs with|nil=>rfl|cons a r=>rfl,hw.bG⟩ ?_;clear hw;rintro σ k w ⟨jb,hk,uM,hw⟩;refine ab ?_;refine ai ?_ ?_<;>intro h2
 ·have aK:k<xs.length:=by omega
  have rW:=qfM ax.dflt jb aK;have ek:((k:Int)-1).toNat=k-1:=by omega
  rw[<-ek]at rW;refine ab ?_;refine nK ?_;clear hw;intro w hw;refine ab ?_;refine eD rfl (qmt (T:=ax) (a:=xs.getD k ax.dflt) (b:=xs.getD ((k:Int)-1).toNat ax.dflt) rfl rfl) ?_;refine ab ?_;refine ai ?_ ?_<;>intro h3
  ·rw[if_pos h3.symm,append_nil,uM]at rW
   refine ab ?_;refine dj [3,3,5,5,29,53] (G:=Nat) (H:=Nat) (fun k2 q=>[(3,.int .i64 q),(5,.int .i64 k2)]) (fun k2 q w=>1<=k2/\k+k2<=xs.length/\k<=q/\q<k+k2/\∃ C:List Au,C.length=xs.length/\C.take q=ix (xs.take (k+k2))/\(∀ j,k+k2<=j+1->C.getD j ax.dflt=xs.getD j ax.dflt)/\Sat w0 w (OS ax 190 s C::Γ)) (fun k2 _=>xs.length-(k+k2)) 1 k (fun _ _=>rfl) ⟨rfl,rfl,trivial⟩ ⟨Nat.le_refl _,by omega,Nat.le_refl _,by omega,xs,rfl,rW.symm,fun _ _=>rfl,hw.bG⟩ ?_;clear hw;rintro σ k2 q w ⟨gW,fT,hkq,hqk,C,hC,xQ,uN,hw⟩;have eN:(cut C k xs.length).length=xs.length-k:=xR om;have hr:=wE (T:=ax) (aM (s:=s) hw) (lo:=k) (hi:=xs.length) om om;refine ab ?_;refine ai ?_ ?_<;>intro h4
   ·have eT:k+k2<xs.length:=by omega
    have mU:=qfM ax.dflt (show 0<k+k2 by omega) eT;refine ab ?_;refine nK ?_;clear hw hr;intro w hw;have hr:=wE (T:=ax) (aM (s:=s) hw) (lo:=k) (hi:=xs.length) om om;have ek2:((k2:Int)-1).toNat=k2-1:=by omega
    have e1:(cut C k xs.length).getD k2 ax.dflt=xs.getD (k+k2) ax.dflt:=by rw[<-uN (k+k2) om];simp[cut,List.getD,getElem?_take,eT]
    have e2:(cut C k xs.length).getD ((k2:Int)-1).toNat ax.dflt=xs.getD (k+k2-1) ax.dflt:=by
     rw[<-uN (k+k2-1) om,ek2];simp[cut,List.getD,getElem?_take,show k+(k2-1)=k+k2-1 by omega,show k+k2-1<xs.length by omega]
    refine ab ?_;refine eD rfl (qmu (T:=ax) (a:=(cut C k xs.length).getD k2 ax.dflt) (b:=(cut C k xs.length).getD ((k2:Int)-1).toNat ax.dflt) rfl rfl) ?_;refine ab ?_;rw[e1,e2];refine ai ?_ ?_<;>intro h5
    ·have rn:¬xs.getD (k+k2-1) ax.dflt=xs.getD (k+k2) ax.dflt:=fun e=>h5 e.symm
     rw[if_neg rn]at mU;refine ab ?_;refine zO (T:=ax) (s:=s) (j:=q) (x':=(cut C k xs.length).getD k2 ax.dflt) rfl rfl rfl rfl hw inferInstance om ?_;clear hw hr;intro w hw;rw[e1]at hw;refine ab ?_;have hqC:q<C.length:=by omega
     refine⟨k2+1,q+1,⟨rfl,rfl,trivial⟩,aH,⟨by omega,by omega,by omega,by omega,C.set q (xs.getD (k+k2) ax.dflt),by rw[length_set];exact hC,?_,fun j hj=>?_,hw.bG⟩,by omega⟩
     ·rw[dJ ax.dflt (by rw[length_set];exact hqC),take_set_of_le (Nat.le_refl _),xQ,ia,if_pos ⟨rfl,hqC⟩]
      exact mU.symm
     ·rw[ia,if_neg om];exact uN j om
    ·have rn:xs.getD (k+k2-1) ax.dflt=xs.getD (k+k2) ax.dflt:=by
      exact h5.symm
     rw[if_pos rn,append_nil]at mU;refine ab ?_;exact⟨k2+1,q,⟨rfl,rfl,trivial⟩,aH,⟨by omega,by omega,hkq,by omega,C,hC,by rw[xQ,<-mU];rfl,fun j hj=>uN j om,hw.bG⟩,by omega⟩
   ·have qx:k+k2=xs.length:=by omega
    have hqn:q<=xs.length:=by omega
    have hcq:ix xs=C.take q:=by rw[xQ,qx,take_length]
    refine ab ?_;have lg:=wE (T:=ax) (aM (s:=s) hw) (lo:=q) (hi:=C.length) om (Nat.le_refl _);refine qmJ (T:=ax) (s:=s) (j:=q) (z:=(⟨0,0,0⟩:Au)) rfl rfl rfl rfl hw inferInstance om ?_;clear hw hr lg;intro w hw;have jY:(C.take q).length=q:=by rw[length_take];omega
    have jv:(C.take q++replicate (C.length-q) (⟨0,0,0⟩:Au)).length=C.length:=by rw[length_append,jY,length_replicate];omega
    refine ab ?_;have h2:=hw.sub (s:=s) own_here 0 q (zero_le _) (by rw[length_append,jY];omega);have e3:cut (C.take q++replicate (C.length-q) (⟨0,0,0⟩:Au)) 0 q=C.take q:=by simp[cut,jY]
    rw[e3,<-hcq]at h2;exact aW (v:=ssub s ax.sz 0 q) rfl rfl ⟨_,rfl,h2.bG⟩
  ·rw[if_neg (fun e=>h3 e.symm),uM]at rW
   refine ab ?_;refine⟨k+1,⟨rfl,trivial⟩,aH,⟨by omega,by omega,?_,hw.bG⟩,by omega⟩;rw[rW,dJ ax.dflt aK]
 have fT:k=xs.length:=by omega
 rw[fT,take_length]at uM;refine ab ?_;exact aW (v:=s) rfl rfl ⟨s,rfl,by rw[uM];exact hw.bG⟩
theorem qo9 {c:List Int}{n:Int}(h:∀ k,0<=k->¬AJ c n k):iQ c n=false:=by
 unfold iQ;rw[decide_eq_false_iff_not];rintro⟨k,hk,h1⟩;exact h k hk h1
theorem qrw {w0:World}{v:Value}{c:List Int}{n:Nat}(hc:RS aa w0 v c) (hn:n<=4096) :
  Calls Tryz.prog 174 #[v,.int .i64 n] w0 fun e w'=>(∃ k,e=.returned (.tuple #[.int .i64 k,.bool (iQ c n)])/\(iQ c n=true->k=jk c n/\0<=k/\AJ c n k))/\Sat w0 w' []:=by
 have mY:=hc.bo;have hw:=Sat.start w0;refine bn (args:=[v,.int .i64 n]) mixed Tryz.func174 ?_;refine ab ?_;refine ai ?_ ?_<;>intro h1
 ·have hf:iQ c n=false:=qo9 fun k hk h=>h1 h.1
  refine ab ?_;exact dz (v:=.int .i64 0) (v':=.bool false) rfl rfl rfl ⟨⟨0,by rw[hf],fun h=>by rw[hf]at h;cases h⟩,hw.aT⟩
 have eN:c.length=n:=by omega
 refine kq ?_;intro s w hw;rw[show ((n:Int)).toNat=n from by omega]at hw;refine mB [4,5,7,7,9,9,20,38] (G:=Nat) (H:=Int) (I:=List Bool) (fun k m _=>[(20,.int .i64 k),(7,.int .i64 m),(4,.int .i64 0),(5,.bool false)]) (fun k m se w=>k<=c.length/\(0<=m/\m<=n)/\(∀ x∈c.take k,0<=x/\x<m)/\(m=0\/m-1∈c.take k)/\se.length=n/\(∀ j:Nat,j<n->(se.getD j ah.dflt=true↔(j:Int)∈c.take k))/\Sat w0 w [OS ah 4 s se]) (fun k _ _=>c.length-k) 0 0 (replicate n false) (fun _ _ _=>rfl) ⟨rfl,rfl,rfl,rfl,trivial⟩ ⟨zero_le _,⟨Int.le_refl _,by omega⟩,fun x hx=>by simp at hx,.inl rfl,length_replicate,fun j hj=>by rw[qeJ hj];simp,hw⟩ ?_;clear hw;rintro σ k m se w ⟨hk,⟨sG,pD⟩,hx,uh,iL,wK,hw⟩;refine ab ?_;refine ai ?_ ?_<;>intro h2
 ·have aK:k<c.length:=by omega
  have r5:c.take (k+1)=c.take k++[c.getD k aa.dflt]:=dJ aa.dflt aK;have ed:c.getD k aa.dflt∈c:=bY aa.dflt aK;refine ab ?_;refine ai ?_ ?_<;>intro h3
  ·have hf:iQ c n=false:=qo9 fun k' aj h=>by have:=h.2.1 _ ed;omega
   refine ab ?_;exact dz (v:=.int .i64 0) (v':=.bool false) rfl rfl rfl ⟨⟨0,by rw[hf],fun h=>by rw[hf]at h;cases h⟩,hw.aT⟩
  obtain⟨h4,h5⟩:=h3;obtain⟨y,hy⟩:∃ y,y=c.getD k aa.dflt:=⟨_,rfl⟩
  rw[<-hy]at h4 h5 r5 ed;refine fi ?_;intro w hw;rw[<-hy]at hw;refine⟨k+1,max m (y+1),se.set y.toNat true,⟨rfl,by rw[hy];show Value.int .i64 _=Value.int .i64 _;congr 1;split<;>omega,rfl,rfl,trivial⟩,aH,⟨by omega,⟨by omega,by omega⟩,fun x mZ => ?_,?_,by rw[length_set];exact iL,fun j hj=>?_,hw⟩,by omega⟩
  ·rw[r5,mem_append,mem_singleton]at mZ
   rcases mZ with h|h
   ·have:=hx x h;omega
   ·omega
  ·rw[r5,mem_append,mem_singleton]
   by_cases e:m<=y+1
   ·right;right;omega
   ·rcases uh with h|h
    ·omega
    ·right;left;rw[show max m (y+1)=m from by omega];exact h
  ·rw[ia,r5,mem_append,mem_singleton]
   by_cases e:y.toNat=j
   ·rw[if_pos ⟨e,by omega⟩]
    have:(j:Int)=y:=by omega
    simp[this]
   ·rw[if_neg (fun h=>e h.1),wK j hj]
    have:¬(j:Int)=y:=by omega
    simp[this]
 have fT:k=c.length:=by omega
 rw[fT,take_length]at hx uh wK;have qx6:(cut se 0 m.toNat).length=m.toNat:=by rw[xR om];omega
 have hr:=wE (T:=ah) (aM (s:=s) hw) (lo:=0) (hi:=m.toNat) om om;refine ab ?_;refine cd [4,5,11,11,43,49] (G:=Nat) (fun k=>[(43,.int .i64 k),(4,.int .i64 0),(5,.bool false)]) (fun k w=>k<=m.toNat/\(∀ i:Nat,i<k->se.getD i ah.dflt=true)/\Sat w0 w [OS ah 4 s se]) (fun k=>m.toNat-k) 0 (fun _=>rfl) ⟨rfl,rfl,rfl,trivial⟩ ⟨zero_le _,fun i hi=>absurd hi (not_lt_zero _),hw⟩ ?_;clear hw hr;rintro σ k2 w ⟨gW,bZ,hw⟩;have hr:=wE (T:=ah) (aM (s:=s) hw) (lo:=0) (hi:=m.toNat) om om;refine ab ?_;refine ai ?_ ?_<;>intro h4
 ·have hkm:k2<m.toNat:=by omega
  have hcg:(cut se 0 m.toNat).getD k2 ah.dflt=se.getD k2 ah.dflt:=by simp[cut,List.getD,getElem?_take,hkm]
  refine ab ?_;rw[hcg];by_cases hs:se.getD k2 ah.dflt=true
  ·rw[hs]
   refine ab ?_;refine⟨k2+1,⟨rfl,rfl,rfl,trivial⟩,aH,⟨by omega,fun i hi=>?_,hw⟩,by omega⟩;by_cases e:i=k2
   ·subst e;exact hs
   ·exact bZ i om
  ·have hf:iQ c n=false:=qo9 fun k' aj h=>hs ((wK k2 om).2 (h.2.2.2 _ om (by
    rcases uh with h2|h2
    ·omega
    ·have:=h.2.2.1 _ h2;omega)))
   rw[Bool.not_eq_true]at hs;rw[hs];refine ab ?_;exact dz (v:=.int .i64 0) (v':=.bool false) rfl rfl rfl ⟨⟨0,by rw[hf],fun h=>by rw[hf]at h;cases h⟩,hw.aT⟩
 have br:AJ c n m:=⟨by omega,fun x mZ=>by have:=hx x mZ;omega,fun x mZ=>(hx x mZ).2,fun x h0 h1=>by
  have h5:=(wK x.toNat om).1 (bZ x.toNat om)
  rwa[show ((x.toNat:Nat):Int)=x from by omega]at h5⟩
 obtain⟨q1,q2⟩:=qrj sG br;refine ab ?_;exact dz (v:=.int .i64 m) (v':=.bool true) rfl rfl rfl ⟨⟨m,by rw[q1],fun _=>⟨q2.symm,sG,br⟩⟩,hw.aT⟩
theorem ql3 {w0 w:World}{Γ:List HP}{s:Value}{xs:List Au}(hw:Sat w0 w (OS ax 190 s xs::Γ)) (hn:xs.length<=65536) :
  Calls Tryz.prog 175 #[s] w fun e w'=>∃ s',e=.returned s'/\Sat w0 w' (OS ax 190 s' (ix (dN df xs))::Γ):=by
 refine bn (args:=[s]) mixed Tryz.func175 ?_;refine ab ?_;refine aJ rfl (qrJ (s:=s) (xs:=xs) hw om) ?_;rintro _ w' ⟨rfl,dA⟩;clear hw;have hw:=dA;clear dA;refine⟨_,rfl,?_⟩;have hl:=zT kK (l:=xs);refine ab ?_;refine aJ rfl (qru (s:=s) (xs:=dN df xs) hw om) ?_;rintro _ w' ⟨s',rfl,dA⟩;clear hw;have hw:=dA;clear dA;refine⟨_,rfl,?_⟩;refine ab ?_;exact aW (v:=s') rfl rfl ⟨s',rfl,hw⟩
theorem qgn {a b M N:Int}(h0:0<=a) (h1:a<=M) (h2:0<=b) (h3:b<=N):0<=a*b/\a*b<=M*N:=⟨Int.mul_nonneg h0 h2,Int.mul_le_mul h1 h3 h2 om⟩
def kP (A B:Ak) (i j:Nat):List Bool:=(List.range j).map fun j=>A.goals.getD i ah.dflt && B.goals.getD j ah.dflt
def jo (A B:Ak) (i:Nat):List Bool:=(List.range i).flatMap fun i=>kP A B i B.st.toNat
theorem qp6 (A B:Ak) (i j:Nat):kP A B i (j+1)=kP A B i j++[A.goals.getD i ah.dflt && B.goals.getD j ah.dflt]:=by simp[kP,range_succ]
theorem qgo (A B:Ak) (i:Nat):jo A B (i+1)=jo A B i++kP A B i B.st.toNat:=by simp[jo,range_succ]
theorem qmU (A B:Ak) (i j:Nat):(kP A B i j).length=j:=by simp[kP]
theorem qfN (A B:Ak):∀ i,(jo A B i).length=i*B.st.toNat
 | 0=>by simp[jo]
 | i+1=>by rw[qgo,length_append,qfN A B i,qmU,Nat.add_mul,Nat.one_mul]
def gp (A B:Ak) (k:Nat):Nat:=((List.range k).map fun l=>((bL A).getD l []).length*((bL B).getD l []).length).foldl (·+·) 0
theorem qcu (A B:Ak) (k:Nat):gp A B (k+1)=gp A B k+((bL A).getD k []).length*((bL B).getD k []).length:=by simp[gp,range_succ]
theorem qfO {A B:Ak}(ha:A.ak.length<=65536) (hb:B.ak.length<=65536):∀ k,gp A B k<=k*4294967296
 | 0=>by simp[gp]
 | k+1=>by
  have ih:=qfO ha hb k;have h1:((bL A).getD k []).length<=65536:=Nat.le_trans uF ha;have h2:((bL B).getD k []).length<=65536:=Nat.le_trans uF hb;have h3:((bL A).getD k []).length*((bL B).getD k []).length<=65536*65536:=Nat.mul_le_mul h1 h2;rw[qcu];omega
theorem qn7 (A B:Ak) {i j:Nat}(h:i<=j):gp A B i<=gp A B j:=by
 induction j with
 | zero =>
   have:i=0:=by omega
   subst this;exact Nat.le_refl _
 | succ j ih =>
  by_cases e:i=j+1
  ·subst e;exact Nat.le_refl _
  ·rw[qcu];have:=ih om;omega
def vN (B:Ak) (l:Nat) (e:Au) (f:Au):Au:=⟨e.src*B.st+f.src,l,e.dst*B.st+f.dst⟩
def rP (B:Ak) (l:Nat) (e:Au) (k:Nat):List Au:=(((bL B).getD l []).take k).map (vN B l e)
def pz (A B:Ak) (l j:Nat):List Au:=(((bL A).getD l []).take j).flatMap fun e=>((bL B).getD l []).map (vN B l e)
def pA (A B:Ak) (l:Nat):List Au:=(List.range l).flatMap fun l=>pz A B l ((bL A).getD l []).length
theorem qp7 (A B:Ak):pA A B A.au.length=jN A B:=by
 unfold pA jN pz;congr 1
 funext l
 rw[take_length];rfl
theorem qmV (A B:Ak) (l:Nat):pA A B (l+1)=pA A B l++pz A B l ((bL A).getD l []).length:=by simp[pA,range_succ]
theorem qmW {A B:Ak}{l j:Nat}(hj:j<((bL A).getD l []).length):pz A B l (j+1)=pz A B l j++rP B l (((bL A).getD l []).getD j ax.dflt) ((bL B).getD l []).length:=by
 unfold pz rP;rw[dJ ax.dflt hj,flatMap_append,take_length];simp
theorem qsN {B:Ak}{l k:Nat}{e:Au}(hk:k<((bL B).getD l []).length):rP B l e (k+1)=rP B l e k++[vN B l e (((bL B).getD l []).getD k ax.dflt)]:=by
 unfold rP;rw[dJ ax.dflt hk,map_append];rfl
theorem qp8 {B:Ak}{l k:Nat}{e:Au}(hk:k<=((bL B).getD l []).length):(rP B l e k).length=k:=by unfold rP;rw[length_map,length_take];omega
theorem qlz {A B:Ak}{l:Nat}:∀ {j:Nat},j<=((bL A).getD l []).length->(pz A B l j).length=j*((bL B).getD l []).length
 | 0,_=>by simp[pz]
 | j+1,h=>by rw[qmW om,length_append,qlz om,qp8 (Nat.le_refl _),Nat.add_mul,Nat.one_mul]
theorem qiN (A B:Ak):∀ l,(pA A B l).length=gp A B l
 | 0=>rfl
 | l+1=>by rw[qmV,length_append,qiN A B l,qlz (Nat.le_refl _),qcu]
theorem qrG {w0:World}{ac ae ag bc be bg:Value}{A B:Ak}(hA:Aw w0 ac ae ag A) (hB:Aw w0 bc be bg B) :
  Calls Tryz.prog 117 #[bN A ac ae ag,bN B bc be bg] w0 fun e w'=>∃ cv ev gv,e=.returned (.tuple #[bN (eL A B) cv ev gv,bE (bU A B)])/\Cu w0 w' cv ev gv (eL A B):=by
 have hw:=Sat.start w0;have oA:=hA.jE;have oB:=hB.jE;have vg:=hA.goals;have hbg:=hB.goals;refine bn (args:=[bN A ac ae ag,bN B bc be bg]) mixed Tryz.func117 ?_;unfold bN
 repeat (first|refine bV ?_|(refine dK ?_;clear hw;intro p w hw))
 rename_i pa wa pb wb;obtain⟨pr,o6⟩:∃ q,q=p:=⟨p,rfl⟩
 subst o6;have hw:Sat w0 w [Ad pr 142 [.int .i64 0,.int .i64 0,.slice none 0 0,.slice none 0 0,.slice none 0 0],Ad pb 142 [.int .i64 B.st,.int .i64 B.aY,bc,be,bg],Ad pa 142 [.int .i64 A.st,.int .i64 A.aY,ac,ae,ag]]:=hw;refine aJ rfl (qdi (S:=A) (hA.at hw)) ?_;refine mf ?_;clear hw;intro w' hw;by_cases vA:fM A=true
 case neg =>
  have hE:bU A B=2:=by
   have:¬Ar A:=fun h=>vA (xX h);unfold bU;rw[if_neg (fun h=>this h.1)]
  have hP:eL A B=bH:=by unfold eL;rw[if_neg (by rw[hE];decide)]
  rw[hE,hP];rw[Bool.not_eq_true]at vA;rw[vA];refine ab ?_;refine iN (parts:=[]) (vs:=[]) rfl rfl rfl ?_;refine fi ?_;intro w hw;exact mg (p:=pr) (vs:=[.int .i64 0,.int .i64 0,.slice none 0 0,.slice none 0 0,.slice none 0 0]) rfl rfl (v':=bE 2) (by rw[ep (by decide)];rfl) rfl (fun j v hv=>jw (i:=0) hw rfl hv) ⟨_,_,_,rfl,uG hw⟩
 rw[vA];refine ab ?_;refine aJ rfl (qdi (S:=B) (hB.at hw)) ?_;refine mf ?_;clear hw;intro w' hw;by_cases vB:fM B=true
 case neg =>
  have hE:bU A B=2:=by
   have:¬Ar B:=fun h=>vB (xX h);unfold bU;rw[if_neg (fun h=>this h.2.1)]
  have hP:eL A B=bH:=by unfold eL;rw[if_neg (by rw[hE];decide)]
  rw[hE,hP];rw[Bool.not_eq_true]at vB;rw[vB];refine ab ?_;refine iN (parts:=[]) (vs:=[]) rfl rfl rfl ?_;refine fi ?_;intro w hw;exact mg (p:=pr) (vs:=[.int .i64 0,.int .i64 0,.slice none 0 0,.slice none 0 0,.slice none 0 0]) rfl rfl (v':=bE 2) (by rw[ep (by decide)];rfl) rfl (fun j v hv=>jw (i:=0) hw rfl hv) ⟨_,_,_,rfl,uG hw⟩
 rw[vB];refine ab ?_;refine aJ rfl (qhd (hA.au.at hw) (hB.au.at hw)) ?_;rintro _ w' ⟨⟨eq,rfl,heq⟩,aj⟩;refine aC ?_;clear aj hw;intro hw
 cases eq with
 | false =>
  have hE:bU A B=2:=by
   unfold bU;rw[if_neg (fun h=>by have:=heq.2 h.2.2;cases this)]
  have hP:eL A B=bH:=by unfold eL;rw[if_neg (by rw[hE];decide)]
  rw[hE,hP];refine ab ?_;refine iN (parts:=[]) (vs:=[]) rfl rfl rfl ?_;refine fi ?_;intro w hw
  exact mg (p:=pr) (vs:=[.int .i64 0,.int .i64 0,.slice none 0 0,.slice none 0 0,.slice none 0 0]) rfl rfl (v':=bE 2) (by rw[ep (by decide)];rfl) rfl (fun j v hv=>jw (i:=0) hw rfl hv) ⟨_,_,_,rfl,uG hw⟩
 | true =>
 have py:=heq.1 rfl;have hvA:Ar A:=Classical.byContradiction fun h=>by rw[r6 h]at vA;cases vA
 have hvB:Ar B:=Classical.byContradiction fun h=>by rw[r6 h]at vB;cases vB
 have vI:bU A B=if 4096<A.st*B.st then 5 else if 65536<vb A B then 5 else 0:=by unfold bU;rw[if_pos ⟨hvA,hvB,py⟩]
 obtain⟨a1,a2,a3,a4,a5,a6,a7,aco,aed,_⟩:=hvA;obtain⟨b1,b2,b3,b4,b5,b6,b7,bco,bed,_⟩:=hvB;have m1:=qgn (a:=A.st) (b:=B.st) (M:=4096) (N:=4096) om a2 om b2;have m2:=qgn (a:=A.aY) (b:=B.st) (M:=4096) (N:=4096) a3 om om b2;obtain⟨m3,m4⟩:=m1;have a7':A.ak.length<=65536:=by omega
 have b7':B.ak.length<=65536:=by omega
 obtain⟨m5,m6⟩:=m2;have m7 : -9223372036854775808<=A.st*B.st:=by omega
 have m8:A.st*B.st<=9223372036854775807:=by omega
 have m9 : -9223372036854775808<=A.aY*B.st:=by omega
 have m10:A.aY*B.st<=9223372036854775807:=by omega
 refine ab ?_;refine ai ?_ ?_<;>intro h1
 ·have hE:bU A B=5:=by rw[vI,if_pos h1]
  have hP:eL A B=bH:=by unfold eL;rw[if_neg (by rw[hE];decide)]
  rw[hE,hP];refine ab ?_;refine iN (parts:=[]) (vs:=[]) rfl rfl rfl ?_;refine fi ?_;intro w hw;exact mg (p:=pr) (vs:=[.int .i64 0,.int .i64 0,.slice none 0 0,.slice none 0 0,.slice none 0 0]) rfl rfl (v':=bE 5) (by rw[ep (by decide)];rfl) rfl (fun j v hv=>jw (i:=0) hw rfl hv) ⟨_,_,_,rfl,uG hw⟩
 rw[if_neg om]at vI;refine ab ?_;refine rp [6,6,44,60] (G:=Addr × Value) (fun x=>[(6,.pointer (some x.1))]) (fun x w=>Sat w0 w [Ad x.1 142 [.int .i64 (A.st*B.st),.int .i64 (A.aY*B.st+B.aY),x.2,.slice none 0 0,.slice none 0 0],OS aa 3 x.2 A.au,Ad pr 142 [.int .i64 0,.int .i64 0,.slice none 0 0,.slice none 0 0,.slice none 0 0],Ad pb 142 [.int .i64 B.st,.int .i64 B.aY,bc,be,bg],Ad pa 142 [.int .i64 A.st,.int .i64 A.aY,ac,ae,ag]]) (fun _=>rfl) ?_ ?_
 ·refine qeV (.s [0,2,5,7,10,13,1,3,4,6,8,9,11,12,14] (.d 15 [1,3,6,8,11] (.d 16 [] (.c 17 [1,3,6,8,11,14] (.s [18] (.lin []))) (.d 17 [1,3,6,8,11,14] (.s [16,18] (.lin [])) (.stop))) (.d 17 [1,3,6,8,11,14] (.c 15 [1,3,6,8,11] (.s [16,18] (.lin []))) (.stop)))) hw kr kr ?_;clear hw;intro w hw
  refine ab ?_;refine jz ?_ (jz ?_ pU)
  ·refine ab ?_
   refine aJ rfl (lx (hA.au.at hw) om) ?_;rintro _ w' ⟨cx,rfl,aj⟩;refine aA ?_;clear aj hw;intro hw;refine ab ?_;refine jz ?_ (jz ?_ pU)
   ·refine ab ?_
    have oc:=(aM (s:=cx) hw).one;refine iN (parts:=[(0,.tmp 48),(1,.tmp 56),(2,.tmp 59)]) (vs:=[(0,.int .i64 (A.st*B.st)),(1,.int .i64 (A.aY*B.st+B.aY)),(2,cx)]) rfl rfl (by simp only[all_cons,all_nil,oc];rfl) ?_;refine cK ?_;intro p w hw;have oc:=(aM (s:=cx) hw).one;refine gZ (n:=5) (p:=p) (vs:=[.int .i64 (A.st*B.st),.int .i64 (A.aY*B.st+B.aY),cx,.slice none 0 0,.slice none 0 0]) rfl rfl hw inferInstance rfl rfl (by simp only[all_cons,all_nil,oc];rfl) ?_;clear hw;intro w hw;refine ab ?_;exact⟨(p,cx),⟨rfl,trivial⟩,aH,hw.aT⟩
   ·refine cK ?_;intro p w hw
    have oc:=(aM (s:=cx) hw).one;refine iN (parts:=[(0,.tmp 48),(1,.tmp 56),(2,.tmp 59)]) (vs:=[(0,.int .i64 (A.st*B.st)),(1,.int .i64 (A.aY*B.st+B.aY)),(2,cx)]) rfl rfl (by simp only[all_cons,all_nil,oc];rfl) ?_;refine ab ?_;have oc:=(aM (s:=cx) hw).one;refine gZ (n:=5) (p:=p) (vs:=[.int .i64 (A.st*B.st),.int .i64 (A.aY*B.st+B.aY),cx,.slice none 0 0,.slice none 0 0]) rfl rfl hw inferInstance rfl rfl (by simp only[all_cons,all_nil,oc];rfl) ?_;clear hw;intro w hw;refine ab ?_;exact⟨(p,cx),⟨rfl,trivial⟩,aH,hw.aT⟩
  ·refine cK ?_;intro p w hw
   refine aJ rfl (lx (hA.au.at hw) om) ?_;rintro _ w' ⟨cx,rfl,aj⟩;refine aA ?_;clear aj hw;intro hw;refine ab ?_;have oc:=(aM (s:=cx) hw).one;refine iN (parts:=[(0,.tmp 48),(1,.tmp 56),(2,.tmp 59)]) (vs:=[(0,.int .i64 (A.st*B.st)),(1,.int .i64 (A.aY*B.st+B.aY)),(2,cx)]) rfl rfl (by simp only[all_cons,all_nil,oc];rfl) ?_;refine ab ?_;have oc:=(aM (s:=cx) hw).one;refine gZ (n:=5) (p:=p) (vs:=[.int .i64 (A.st*B.st),.int .i64 (A.aY*B.st+B.aY),cx,.slice none 0 0,.slice none 0 0]) rfl rfl hw inferInstance rfl rfl (by simp only[all_cons,all_nil,oc];rfl) ?_;clear hw;intro w hw;refine ab ?_;exact⟨(p,cx),⟨rfl,trivial⟩,aH,hw.aT⟩
 clear hw;rintro σ ⟨px,cx⟩ w hw
 dsimp only at hw
 refine ab ?_;have hw:Sat w0 w [Ad px 142 [.int .i64 (A.st*B.st),.int .i64 (A.aY*B.st+B.aY),cx,.slice none 0 0,.slice none 0 0],OS ah 4 (.slice none 0 0) (jo A B 0),OS aa 3 cx A.au,Ad pr 142 [.int .i64 0,.int .i64 0,.slice none 0 0,.slice none 0 0,.slice none 0 0],Ad pb 142 [.int .i64 B.st,.int .i64 B.aY,bc,be,bg],Ad pa 142 [.int .i64 A.st,.int .i64 A.aY,ac,ae,ag]]:=by rw[show jo A B 0=[] from rfl];exact(hw.nil (T:=ah) (e:=4)).aT
 refine dj [7,8,63,89] (G:=Nat) (H:=Value) (fun i gv=>[(63,.int .i64 i)]) (fun i gv w=>(i:Int)<=A.st/\Sat w0 w [Ad px 142 [.int .i64 (A.st*B.st),.int .i64 (A.aY*B.st+B.aY),cx,.slice none 0 0,gv],OS ah 4 gv (jo A B i),OS aa 3 cx A.au,Ad pr 142 [.int .i64 0,.int .i64 0,.slice none 0 0,.slice none 0 0,.slice none 0 0],Ad pb 142 [.int .i64 B.st,.int .i64 B.aY,bc,be,bg],Ad pa 142 [.int .i64 A.st,.int .i64 A.aY,ac,ae,ag]]) (fun i _=>A.st.toNat-i) 0 (.slice none 0 0) (fun _ _=>rfl) ⟨rfl,trivial⟩ ⟨by omega,hw⟩ ?_;clear hw;rintro σ i gv w ⟨hi,hw⟩;refine ab ?_;refine ai ?_ ?_<;>intro h2
 ·refine ab ?_
  have hw:Sat w0 w [Ad px 142 [.int .i64 (A.st*B.st),.int .i64 (A.aY*B.st+B.aY),cx,.slice none 0 0,gv],OS ah 4 gv (jo A B i++kP A B i 0),OS aa 3 cx A.au,Ad pr 142 [.int .i64 0,.int .i64 0,.slice none 0 0,.slice none 0 0,.slice none 0 0],Ad pb 142 [.int .i64 B.st,.int .i64 B.aY,bc,be,bg],Ad pa 142 [.int .i64 A.st,.int .i64 A.aY,ac,ae,ag]]:=by
   rw[show kP A B i 0=[] from rfl,append_nil];exact hw
  refine dj [8,8,68,88] (G:=Nat) (H:=Value) (fun j gv=>[(68,.int .i64 j)]) (fun j gv w=>(j:Int)<=B.st/\Sat w0 w [Ad px 142 [.int .i64 (A.st*B.st),.int .i64 (A.aY*B.st+B.aY),cx,.slice none 0 0,gv],OS ah 4 gv (jo A B i++kP A B i j),OS aa 3 cx A.au,Ad pr 142 [.int .i64 0,.int .i64 0,.slice none 0 0,.slice none 0 0,.slice none 0 0],Ad pb 142 [.int .i64 B.st,.int .i64 B.aY,bc,be,bg],Ad pa 142 [.int .i64 A.st,.int .i64 A.aY,ac,ae,ag]]) (fun j _=>B.st.toNat-j) 0 gv (fun _ _=>rfl) ⟨rfl,trivial⟩ ⟨by omega,hw⟩ ?_;clear hw;rintro σ j gv w ⟨hj,hw⟩;refine ab ?_;refine ai ?_ ?_<;>intro h3
  ·have uw:=qfN A B i
   have iI:=qmU A B i j;have cI:i*B.st.toNat<=4096*4096:=Nat.mul_le_mul om om;have bZ:(jo A B i++kP A B i j).length<=20000000:=by rw[length_append,uw,iI];omega
   refine ab ?_;refine fP (pl [0,1,2,3,4,5,6,7,8,9,10,11,12,13,14] (.chk 1::pl [15,16,17] [])) hw kr ?_;clear hw;intro w hw
   repeat refine bV ?_
   refine jh ah (x1:=A.goals.getD i ah.dflt && B.goals.getD j ah.dflt) rfl rfl rfl (le_of_ble_eq_true rfl) (zero_lt_succ _) hw ?_;clear hw;intro s2 w hw;refine nV ?_;intro s w hw;refine⟨j+1,s,⟨rfl,trivial⟩,aH,⟨by omega,?_⟩,by omega⟩;rw[qp6,<-append_assoc];simp only[set_cons_succ,set_cons_zero]at hw;exact hw.aT
  have ky:j=B.st.toNat:=by omega
  subst ky;refine ab ?_;exact⟨i+1,gv,⟨rfl,trivial⟩,aH,⟨by omega,by rw[qgo];exact hw.aT⟩,by omega⟩
 have gY:i=A.st.toNat:=by omega
 subst gY;have hgG:jo A B A.st.toNat=jO A B:=rfl;rw[hgG]at hw;refine ab ?_;refine fP (pl [0,2,1] (.chk 2::pl [3,4,5] [])) hw kr ?_;clear hw;intro w hw;refine ab ?_;refine aJ rfl (qk8 (S:=A) (hA.at hw) om om (fun e he=>(aed e he).2.2)) ?_;rintro _ w' ⟨lv,ls,rfl,aj⟩;refine lu ?_;clear aj hw;intro hw;refine ab ?_;refine aJ rfl (qk8 (S:=B) (hB.at hw) om om (fun e he=>(bed e he).2.2)) ?_;rintro _ w' ⟨rv,rs,rfl,aj⟩;refine lu ?_;clear aj hw;intro hw;have hlA:(bL A).length=A.au.length:=ve;have hlB:(bL B).length=B.au.length:=ve;have hw:Sat w0 w' [Ad px 142 [.int .i64 (A.st*B.st),.int .i64 (A.aY*B.st+B.aY),cx,.slice none 0 0,gv],OS ax 190 (.slice none 0 0) (pA A B 0),Ab ax 190 ls (bL A),OS al 139 lv ls,Ab ax 190 rs (bL B),OS al 139 rv rs,OS ah 4 gv (jO A B),OS aa 3 cx A.au,Ad pr 142 [.int .i64 0,.int .i64 0,.slice none 0 0,.slice none 0 0,.slice none 0 0],Ad pb 142 [.int .i64 B.st,.int .i64 B.aY,bc,be,bg]]:=by rw[show pA A B 0=[] from rfl];exact(hw.nil (T:=ax) (e:=190)).aT
 have jv:=(hw.focus 2 rfl).bw;have iI:=(hw.focus 4 rfl).bw;have eN:B.au.length=A.au.length:=by rw[py]
 obtain⟨w,dA⟩:∃ x,x=w':=⟨w',rfl⟩
 subst dA;refine ab ?_;refine cd [11,12,96,112] (G:=Nat) (fun k=>[(96,.int .i64 k),(11,.int .i64 (gp A B k))]) (fun k w=>k<=A.au.length/\Sat w0 w [Ad px 142 [.int .i64 (A.st*B.st),.int .i64 (A.aY*B.st+B.aY),cx,.slice none 0 0,gv],OS ax 190 (.slice none 0 0) (pA A B 0),Ab ax 190 ls (bL A),OS al 139 lv ls,Ab ax 190 rs (bL B),OS al 139 rv rs,OS ah 4 gv (jO A B),OS aa 3 cx A.au,Ad pr 142 [.int .i64 0,.int .i64 0,.slice none 0 0,.slice none 0 0,.slice none 0 0],Ad pb 142 [.int .i64 B.st,.int .i64 B.aY,bc,be,bg]]) (fun k=>A.au.length-k) 0 (fun _=>rfl) ⟨rfl,rfl,trivial⟩ ⟨zero_le _,hw⟩ ?_;clear hw;rintro σ k w ⟨hk,hw⟩;refine ab ?_;refine ai ?_ ?_<;>intro h4
 ·have aK:k<A.au.length:=by omega
  have hM:=qfO a7' b7' k;have wG:=qfO a7' b7' (k+1);have hMs:=qcu A B k;have g1:((bL A).getD k []).length<=65536:=Nat.le_trans uF a7';have g2:((bL B).getD k []).length<=65536:=Nat.le_trans uF b7';have g3:=qgn (a:=(((bL A).getD k []).length:Int)) (b:=(((bL B).getD k []).length:Int)) (M:=65536) (N:=65536) om om om om;obtain⟨g4,g5⟩:=g3;have g6 : -9223372036854775808<=(((bL A).getD k []).length:Int)*(((bL B).getD k []).length:Int):=by omega
  have g7:(((bL A).getD k []).length:Int)*(((bL B).getD k []).length:Int)<=9223372036854775807:=by omega
  refine ab ?_;refine nK ?_;clear hw;intro w hw;have dp:=(hw.focus 2 rfl).row (i:=k) om;have kF:=(hw.focus 4 rfl).row (i:=k) om;refine ab ?_;exact⟨k+1,⟨rfl,by show Value.int .i64 _=Value.int .i64 _;rw[hMs,Int.natCast_add,Int.natCast_mul],trivial⟩,aH,⟨by omega,hw.aT⟩,by omega⟩
 have fT:k=A.au.length:=by omega
 subst fT;have hMM:=qfO a7' b7' A.au.length;have hPM:vb A B=gp A B A.au.length:=rfl;rw[hPM]at vI;refine ab ?_;refine ai ?_ ?_<;>intro h5
 ·have hE:bU A B=5:=by rw[vI,if_pos om]
  have hP:eL A B=bH:=by unfold eL;rw[if_neg (by rw[hE];decide)]
  rw[hE,hP];refine ab ?_;refine iN (parts:=[]) (vs:=[]) rfl rfl rfl ?_;refine fi ?_;intro w hw;exact mg (p:=pr) (vs:=[.int .i64 0,.int .i64 0,.slice none 0 0,.slice none 0 0,.slice none 0 0]) rfl rfl (v':=bE 5) (by rw[ep (by decide)];rfl) rfl (fun j v hv=>jw (i:=8) hw rfl hv) ⟨_,_,_,rfl,uG hw⟩
 rw[if_neg om]at vI;have hP:eL A B=⟨A.st*B.st,A.aY*B.st+B.aY,A.au,dN df (jN A B),jO A B⟩:=by unfold eL;rw[if_pos vI]
 refine ab ?_;refine dj [13,13,15,15,17,17,119,165] (G:=Nat) (H:=Value) (fun l ev=>[(119,.int .i64 l)]) (fun l ev w=>l<=A.au.length/\Sat w0 w [Ad px 142 [.int .i64 (A.st*B.st),.int .i64 (A.aY*B.st+B.aY),cx,ev,gv],OS ax 190 ev (pA A B l),Ab ax 190 ls (bL A),OS al 139 lv ls,Ab ax 190 rs (bL B),OS al 139 rv rs,OS ah 4 gv (jO A B),OS aa 3 cx A.au,Ad pr 142 [.int .i64 0,.int .i64 0,.slice none 0 0,.slice none 0 0,.slice none 0 0],Ad pb 142 [.int .i64 B.st,.int .i64 B.aY,bc,be,bg]]) (fun l _=>A.au.length-l) 0 (.slice none 0 0) (fun _ _=>rfl) ⟨rfl,trivial⟩ ⟨zero_le _,hw⟩ ?_;clear hw;rintro σ l ev w ⟨hl,hw⟩;refine ab ?_;refine ai ?_ ?_<;>intro h6
 ·have qyQ:l<A.au.length:=by omega
  have dp:=(hw.focus 2 rfl).row (i:=l) om;obtain⟨LA,xu⟩:∃ LA,LA=(bL A).getD l []:=⟨_,rfl⟩
  have qyR:∀ e∈LA,e∈A.ak:=fun e he=>((vd (g:=fun e:Au=>e.bI) (l:=A.ak) qyQ).1 (by rw[xu]at he;exact he)).1;have qzT:LA.length<=65536:=by rw[xu];exact Nat.le_trans uF a7'
  rw[<-xu]at dp;refine ab ?_;have hw:Sat w0 w [Ad px 142 [.int .i64 (A.st*B.st),.int .i64 (A.aY*B.st+B.aY),cx,ev,gv],OS ax 190 ev (pA A B l++pz A B l 0),Ab ax 190 ls (bL A),OS al 139 lv ls,Ab ax 190 rs (bL B),OS al 139 rv rs,OS ah 4 gv (jO A B),OS aa 3 cx A.au,Ad pr 142 [.int .i64 0,.int .i64 0,.slice none 0 0,.slice none 0 0,.slice none 0 0],Ad pb 142 [.int .i64 B.st,.int .i64 B.aY,bc,be,bg]]:=by rw[show pz A B l 0=[] from rfl,append_nil];exact hw
  refine dj [15,15,17,17,127,164] (G:=Nat) (H:=Value) (fun j ev=>[(127,.int .i64 j)]) (fun j ev w=>j<=LA.length/\Sat w0 w [Ad px 142 [.int .i64 (A.st*B.st),.int .i64 (A.aY*B.st+B.aY),cx,ev,gv],OS ax 190 ev (pA A B l++pz A B l j),Ab ax 190 ls (bL A),OS al 139 lv ls,Ab ax 190 rs (bL B),OS al 139 rv rs,OS ah 4 gv (jO A B),OS aa 3 cx A.au,Ad pr 142 [.int .i64 0,.int .i64 0,.slice none 0 0,.slice none 0 0,.slice none 0 0],Ad pb 142 [.int .i64 B.st,.int .i64 B.aY,bc,be,bg]]) (fun j _=>LA.length-j) 0 ev (fun _ _=>rfl) ⟨rfl,trivial⟩ ⟨zero_le _,hw⟩ ?_;clear hw dp;rintro σ j ev w ⟨hj,hw⟩;have dp:=(hw.focus 2 rfl).row (i:=l) om;rw[<-xu]at dp;refine ab ?_;refine ai ?_ ?_<;>intro h7
  ·have cJ:j<LA.length:=by omega
   obtain⟨e,he⟩:∃ e,e=LA.getD j ax.dflt:=⟨_,rfl⟩
   have hem:=qyR _ (bY ax.dflt cJ);rw[<-he]at hem;obtain⟨⟨e1,e2⟩,⟨e3,e4⟩,_⟩:=aed e hem;refine cK ?_;intro p w hw;obtain⟨pe,qZ⟩:∃ q,q=p:=⟨p,rfl⟩
   subst qZ;have hw:Sat w0 w [Ad pe 190 [.int .i64 e.src,.int .i64 e.bI,.int .i64 e.dst],Ad px 142 [.int .i64 (A.st*B.st),.int .i64 (A.aY*B.st+B.aY),cx,ev,gv],OS ax 190 ev (pA A B l++pz A B l j++rP B l e 0),Ab ax 190 ls (bL A),OS al 139 lv ls,Ab ax 190 rs (bL B),OS al 139 rv rs,OS ah 4 gv (jO A B),OS aa 3 cx A.au,Ad pr 142 [.int .i64 0,.int .i64 0,.slice none 0 0,.slice none 0 0,.slice none 0 0],Ad pb 142 [.int .i64 B.st,.int .i64 B.aY,bc,be,bg]]:=by rw[he,show rP B l (LA.getD j ax.dflt) 0=[] from rfl,append_nil];exact hw
   have kF:=(hw.focus 5 rfl).row (i:=l) om;obtain⟨LB,vO⟩:∃ LB,LB=(bL B).getD l []:=⟨_,rfl⟩
   have qyS:∀ e∈LB,e∈B.ak:=fun e he=>((vd (g:=fun e:Au=>e.bI) (l:=B.ak) (x:=l) (n:=B.au.length) om).1 (by rw[vO]at he;exact he)).1;have qyT:LB.length<=65536:=by rw[vO];exact Nat.le_trans uF b7'
   rw[<-vO]at kF;refine ab ?_;refine dj [17,17,136,163] (G:=Nat) (H:=Value) (fun k ev=>[(136,.int .i64 k)]) (fun k ev w=>k<=LB.length/\Sat w0 w [Ad pe 190 [.int .i64 e.src,.int .i64 e.bI,.int .i64 e.dst],Ad px 142 [.int .i64 (A.st*B.st),.int .i64 (A.aY*B.st+B.aY),cx,ev,gv],OS ax 190 ev (pA A B l++pz A B l j++rP B l e k),Ab ax 190 ls (bL A),OS al 139 lv ls,Ab ax 190 rs (bL B),OS al 139 rv rs,OS ah 4 gv (jO A B),OS aa 3 cx A.au,Ad pr 142 [.int .i64 0,.int .i64 0,.slice none 0 0,.slice none 0 0,.slice none 0 0],Ad pb 142 [.int .i64 B.st,.int .i64 B.aY,bc,be,bg]]) (fun k _=>LB.length-k) 0 ev (fun _ _=>rfl) ⟨rfl,trivial⟩ ⟨zero_le _,hw⟩ ?_;clear hw dp kF;rintro σ k ev w ⟨hk,hw⟩;have kF:=(hw.focus 5 rfl).row (i:=l) om;rw[<-vO]at kF;refine ab ?_;refine ai ?_ ?_<;>intro h8
   ·have aK:k<LB.length:=by omega
    obtain⟨f,hf⟩:∃ f,f=LB.getD k ax.dflt:=⟨_,rfl⟩
    have hfm:=qyS _ (bY ax.dflt aK);rw[<-hf]at hfm;obtain⟨⟨f1,f2⟩,⟨f3,f4⟩,_⟩:=bed f hfm;refine cK ?_;intro p w hw;have hw:Sat w0 w [Ad p 190 [.int .i64 f.src,.int .i64 f.bI,.int .i64 f.dst],Ad pe 190 [.int .i64 e.src,.int .i64 e.bI,.int .i64 e.dst],Ad px 142 [.int .i64 (A.st*B.st),.int .i64 (A.aY*B.st+B.aY),cx,ev,gv],OS ax 190 ev (pA A B l++pz A B l j++rP B l e k),Ab ax 190 ls (bL A),OS al 139 lv ls,Ab ax 190 rs (bL B),OS al 139 rv rs,OS ah 4 gv (jO A B),OS aa 3 cx A.au,Ad pr 142 [.int .i64 0,.int .i64 0,.slice none 0 0,.slice none 0 0,.slice none 0 0],Ad pb 142 [.int .i64 B.st,.int .i64 B.aY,bc,be,bg]]:=by rw[hf];exact hw
    have n1:=qgn (a:=e.src) (b:=B.st) (M:=4096) (N:=4096) e1 om om b2;have n2:=qgn (a:=e.dst) (b:=B.st) (M:=4096) (N:=4096) e3 om om b2;obtain⟨n3,n4⟩:=n1;obtain⟨n5,n6⟩:=n2;have n7 : -9223372036854775808<=e.src*B.st:=by omega
    have n8:e.src*B.st<=9223372036854775807:=by omega
    have n9 : -9223372036854775808<=e.dst*B.st:=by omega
    have n10:e.dst*B.st<=9223372036854775807:=by omega
    repeat refine bV ?_
    have q1:=qiN A B l;have q2:=qn7 A B hl;have q3:(pz A B l j).length<=65536*65536:=by
     rw[qlz (by rw[<-xu];omega),<-vO];exact Nat.mul_le_mul om qyT
    have q4:(rP B l e k).length=k:=qp8 (by rw[<-vO];exact hk);have q5:(pA A B l++pz A B l j++rP B l e k).length<=5000000000:=by rw[length_append,length_append,q1,q4];omega
    refine jh ax (x1:=⟨e.src*B.st+f.src,(l:Int),e.dst*B.st+f.dst⟩) rfl rfl rfl (le_of_ble_eq_true rfl) (zero_lt_succ _) hw ?_;clear hw kF;intro s2 w hw;refine nV ?_;intro s w hw;simp only[set_cons_succ,set_cons_zero]at hw;refine⟨k+1,s,⟨rfl,trivial⟩,aH,⟨by omega,?_⟩,by omega⟩;rw[qsN (by rw[<-vO];exact aK),<-append_assoc,<-vO,<-hf];unfold vN;exact hw.aT
   have fT:k=LB.length:=by omega
   subst fT;refine ab ?_;refine⟨j+1,ev,⟨rfl,trivial⟩,aH,⟨by omega,?_⟩,by omega⟩;rw[qmW (by rw[<-xu];exact cJ),<-append_assoc,<-xu,<-he,<-vO];exact hw.aT
  have ky:j=LA.length:=by omega
  subst ky;refine ab ?_;refine⟨l+1,ev,⟨rfl,trivial⟩,aH,⟨by omega,?_⟩,by omega⟩;rw[qmV,<-xu];exact hw.aT
 have l6:l=A.au.length:=by omega
 subst l6;rw[qp7]at hw;have hlen:(jN A B).length<=65536:=by rw[<-qp7,qiN];omega
 refine ab ?_;have hw:Sat w0 w [OS ax 190 ev (jN A B),Ad px 142 [.int .i64 (A.st*B.st),.int .i64 (A.aY*B.st+B.aY),cx,ev,gv],OS ah 4 gv (jO A B),OS aa 3 cx A.au,Ad pr 142 [.int .i64 0,.int .i64 0,.slice none 0 0,.slice none 0 0,.slice none 0 0]]:=hw.aT;refine aJ rfl (qrI (s:=ev) (xs:=jN A B) hw om) ?_;rintro _ w' ⟨rfl,dA⟩;clear hw;have hw:=dA;clear dA;refine⟨_,rfl,?_⟩;rw[vI,hP];have o1:=(aM (s:=ev) hw).one;have o2:=(aM (s:=gv) hw).one;have o3:=(aM (s:=cx) hw).one;refine ab ?_;refine gZ (n:=5) (p:=pr) (vs:=[.int .i64 (A.st*B.st),.int .i64 (A.aY*B.st+B.aY),cx,ev,gv]) rfl rfl hw inferInstance rfl rfl (by simp only[all_cons,all_nil,o1,o2,o3];rfl) ?_;clear hw;intro w hw;refine ab ?_;refine mg (p:=pr) (vs:=[.int .i64 (A.st*B.st),.int .i64 (A.aY*B.st+B.aY),cx,ev,gv]) rfl rfl (v':=bE 0) (by rw[iy rfl];rfl) rfl (fun j v hv=>jw (i:=4) hw rfl hv) ⟨cx,ev,gv,rfl,?_⟩;exact hw.aT
def ff (g:List Bool) (c:List Int) (k m:Nat):List Bool:=(List.range k).map fun (x:Nat)=>(List.range m).any fun s=>decide (c.getD s aa.dflt=(x:Int)) && g.getD s ah.dflt
theorem qdg {g:List Bool}{c:List Int}{k m:Nat}:(ff g c k m).length=k:=by simp[ff]
theorem qoA {g:List Bool}{c:List Int}{k:Nat}:ff g c k 0=replicate k false:=by
 apply ext_getElem (by simp[ff]);intro i h1 h2;simp[ff]
theorem qfW {g:List Bool}{c:List Int}{k m i:Nat}(hi:i<k):(ff g c k m).getD i ah.dflt=(List.range m).any fun s=>decide (c.getD s aa.dflt=(i:Int)) && g.getD s ah.dflt:=by
 unfold ff;rw[getD_eq_getElem?_getD,getElem?_map,getElem?_range hi];rfl
theorem qoB {g:List Bool}{c:List Int}{k m:Nat}(h0:0<=c.getD m aa.dflt) (h1:c.getD m aa.dflt<k) :
  ff g c k (m+1)=(ff g c k m).set (c.getD m aa.dflt).toNat ((ff g c k m).getD (c.getD m aa.dflt).toNat ah.dflt || g.getD m ah.dflt):=by
 apply ext_getElem (by rw[length_set,qdg,qdg]);intro i h2 h3;have hi:i<k:=by rwa[qdg]at h2
 have a1:(ff g c k (m+1))[i]=(ff g c k (m+1)).getD i ah.dflt:=(getD_at h2).symm;have a2:=(getD_at (d:=ah.dflt) h3).symm;rw[a1,a2,ia,qdg,qfW hi,range_succ,any_append];simp only[any_cons,any_nil,Bool.or_false];by_cases e:(c.getD m aa.dflt).toNat=i
 ·have e2:c.getD m aa.dflt=(i:Int):=by omega
  rw[if_pos ⟨e,hi⟩,e,qfW hi,e2];simp only[decide_true,Bool.true_and]
 ·have e2:¬c.getD m aa.dflt=(i:Int):=by omega
  rw[if_neg (fun h=>e h.1),qfW hi];simp only[e2,decide_false,Bool.false_and,Bool.or_false]
theorem qk7 {w0:World}{sc se sg cl:Value}{S:Ak}{c:List Int}(hS:Aw w0 sc se sg S) (hv:Ar S) (hc:RS aa w0 cl c) :
  Calls Tryz.prog 149 #[bN S sc se sg,cl] w0 fun e w'=>∃ cv ev gv,e=.returned (.tuple #[bN (fF S c) cv ev gv,bE (cQ S c)])/\Cu w0 w' cv ev gv (fF S c):=by
 have hw:=Sat.start w0;have oS:=hS.jE;have hsg:=hS.goals;have wK:=hS.ak;have hvB:=xX hv;obtain⟨a1,a2,a3,a4,a5,a6,a7,aco,aed,_⟩:=id hv;obtain⟨n,l7⟩:∃ n:Nat,S.st=(n:Int):=⟨S.st.toNat,by omega⟩
 refine bn (args:=[bN S sc se sg,cl]) mixed Tryz.func149 ?_;unfold bN;rw[l7]at oS ⊢
 repeat (first|refine bV ?_|(refine dK ?_;clear hw;intro p w hw))
 rename_i ps ws;obtain⟨pr,o6⟩:∃ q,q=p:=⟨p,rfl⟩
 subst o6;have hw:Sat w0 w [Ad pr 142 [.int .i64 0,.int .i64 0,.slice none 0 0,.slice none 0 0,.slice none 0 0],Ad ps 142 [.int .i64 n,.int .i64 S.aY,sc,se,sg]]:=hw;refine aJ rfl (qrw (n:=n) (hc.at hw) om) ?_;rintro _ w' ⟨⟨kk,rfl,zw⟩,aj⟩;refine aC ?_;clear aj hw;intro hw;refine ab ?_;refine aJ rfl (by have:=qdi (S:=S) (hS.at hw);unfold bN at this;rw[l7]at this;exact this) ?_;refine mf ?_;clear hw;intro w' hw;rw[hvB];by_cases mY:iQ c n=true
 case neg =>
  have hE:cQ S c=2:=by unfold cQ;rw[l7,if_neg (fun h=>mY h.2)]
  have hP:fF S c=bH:=by unfold fF;rw[if_neg (by rw[hE];decide)]
  rw[hE,hP];rw[Bool.not_eq_true]at mY;rw[mY];refine ab ?_;refine iN (parts:=[]) (vs:=[]) rfl rfl rfl ?_;refine fi ?_;intro w hw;exact mg (p:=pr) (vs:=[.int .i64 0,.int .i64 0,.slice none 0 0,.slice none 0 0,.slice none 0 0]) rfl rfl (v':=bE 2) (by rw[ep (by decide)];rfl) rfl (fun j v hv=>jw (i:=0) hw rfl hv) ⟨_,_,_,rfl,uG hw⟩
 rw[mY];obtain⟨yp,jb,br⟩:=zw mY;have hE:cQ S c=0:=by unfold cQ;rw[l7,if_pos ⟨hvB,mY⟩]
 have hP:fF S c=⟨kk,c.getD S.aY.toNat aa.dflt,S.au,ix (dN df (S.ak.map (kN c))),kO S.goals c kk.toNat⟩:=by unfold fF;rw[if_pos hE,l7,<-yp]
 rw[hE,hP];obtain⟨k1,k2,k3,k4⟩:=br;have fT:kk<=n:=by
  rcases Int.lt_or_le (n:Int) kk with h|h
  ·have:=(k2 _ (k4 n om h)).2;omega
  ·exact h
 have iK:∀ i:Nat,i<n->0<=c.getD i aa.dflt/\c.getD i aa.dflt<kk:=fun i hi=>by
  have hm:c.getD i aa.dflt∈c:=bY aa.dflt om;exact⟨(k2 _ hm).1,k3 _ hm⟩
 refine ab ?_;refine rp [8,8,29,40] (G:=Addr × Value × Value) (fun x=>[(8,.pointer (some x.1))]) (fun x w=>Sat w0 w [Ad x.1 142 [.int .i64 kk,.int .i64 (c.getD S.aY.toNat aa.dflt),x.2.1,.slice none 0 0,x.2.2],OS ah 4 x.2.2 (replicate kk.toNat false),OS aa 3 x.2.1 S.au,Ad pr 142 [.int .i64 0,.int .i64 0,.slice none 0 0,.slice none 0 0,.slice none 0 0],Ad ps 142 [.int .i64 n,.int .i64 S.aY,sc,se,sg]]) (fun _=>rfl) ?_ ?_
 ·refine qeV (.s [0,1,2,6,9,3,4,5,7] (.d 8 [3,5] (.d 10 [3,5,7] (.d 11 [] (.c 12 [3,5,7] (.s [13] (.lin []))) (.d 12 [3,5,7] (.s [11,13] (.lin [])) (.stop))) (.d 12 [3,5,7] (.c 10 [3,5,7] (.s [11,13] (.lin []))) (.stop))) (.d 10 [3,5,7] (.d 8 [3,5] (.d 11 [] (.c 12 [3,5,7] (.s [13] (.lin []))) (.d 12 [3,5,7] (.s [11,13] (.lin [])) (.stop))) (.d 12 [3,5,7] (.c 8 [3,5] (.s [11,13] (.lin []))) (.stop))) (.d 12 [3,5,7] (.d 8 [3,5] (.c 10 [3,5,7] (.s [11,13] (.lin []))) (.d 10 [3,5,7] (.c 8 [3,5] (.s [11,13] (.lin []))) (.stop))) (.stop))))) hw kr kr ?_;clear hw;intro w hw
  refine ab ?_;refine jz ?_ (jz ?_ (jz ?_ pU))
  ·refine ab ?_
   refine aJ rfl (lx (hS.au.at hw) om) ?_;rintro _ w' ⟨cx,rfl,aj⟩;refine aA ?_;clear aj hw;intro hw;refine ab ?_;refine jz ?_ (jz ?_ pU)
   ·refine nV ?_;intro s w hw
    refine jz ?_ (jz ?_ pU)
    ·refine ab ?_
     refine iN (parts:=[(0,.tmp 29),(1,.tmp 34),(2,.tmp 37),(4,.tmp 39)]) (vs:=[(0,.int .i64 kk),(1,.int .i64 (c.getD S.aY.toNat aa.dflt)),(2,cx),(4,s)]) rfl rfl (by simp only[all_cons,all_nil,(aM (s:=cx) hw).one,(aM (s:=s) hw).one];rfl) ?_;refine cK ?_;intro p w hw;refine gZ (n:=5) (p:=p) (vs:=[.int .i64 kk,.int .i64 (c.getD S.aY.toNat aa.dflt),cx,.slice none 0 0,s]) rfl rfl hw inferInstance rfl rfl (by simp only[all_cons,all_nil,(aM (s:=cx) hw).one,(aM (s:=s) hw).one];rfl) ?_;clear hw;intro w hw;refine ab ?_;exact⟨(p,cx,s),⟨rfl,trivial⟩,aH,hw.aT⟩
    ·refine cK ?_;intro p w hw
     refine iN (parts:=[(0,.tmp 29),(1,.tmp 34),(2,.tmp 37),(4,.tmp 39)]) (vs:=[(0,.int .i64 kk),(1,.int .i64 (c.getD S.aY.toNat aa.dflt)),(2,cx),(4,s)]) rfl rfl (by simp only[all_cons,all_nil,(aM (s:=cx) hw).one,(aM (s:=s) hw).one];rfl) ?_;refine ab ?_;refine gZ (n:=5) (p:=p) (vs:=[.int .i64 kk,.int .i64 (c.getD S.aY.toNat aa.dflt),cx,.slice none 0 0,s]) rfl rfl hw inferInstance rfl rfl (by simp only[all_cons,all_nil,(aM (s:=cx) hw).one,(aM (s:=s) hw).one];rfl) ?_;clear hw;intro w hw;refine ab ?_;exact⟨(p,cx,s),⟨rfl,trivial⟩,aH,hw.aT⟩
   ·repeat (first|refine bV ?_|(refine dK ?_;clear hw;intro p w hw)|(refine cB ?_;clear hw;intro s w hw))
    refine iN (parts:=[(0,.tmp 29),(1,.tmp 34),(2,.tmp 37),(4,.tmp 39)]) (vs:=[(0,.int .i64 kk),(1,.int .i64 (c.getD S.aY.toNat aa.dflt)),(2,cx),(4,s)]) rfl rfl (by simp only[all_cons,all_nil,(aM (s:=cx) hw).one,(aM (s:=s) hw).one];rfl) ?_;refine ab ?_;refine gZ (n:=5) (p:=p) (vs:=[.int .i64 kk,.int .i64 (c.getD S.aY.toNat aa.dflt),cx,.slice none 0 0,s]) rfl rfl hw inferInstance rfl rfl (by simp only[all_cons,all_nil,(aM (s:=cx) hw).one,(aM (s:=s) hw).one];rfl) ?_;clear hw;intro w hw;refine ab ?_;exact⟨(p,cx,s),⟨rfl,trivial⟩,aH,hw.aT⟩
  ·refine nV ?_;intro s w hw
   refine jz ?_ (jz ?_ pU)
   ·refine ab ?_
    refine aJ rfl (lx (hS.au.at hw) om) ?_;rintro _ w' ⟨cx,rfl,aj⟩;refine aA ?_;clear aj hw;intro hw;refine ab ?_;refine jz ?_ (jz ?_ pU)
    ·refine ab ?_
     refine iN (parts:=[(0,.tmp 29),(1,.tmp 34),(2,.tmp 37),(4,.tmp 39)]) (vs:=[(0,.int .i64 kk),(1,.int .i64 (c.getD S.aY.toNat aa.dflt)),(2,cx),(4,s)]) rfl rfl (by simp only[all_cons,all_nil,(aM (s:=cx) hw).one,(aM (s:=s) hw).one];rfl) ?_;refine cK ?_;intro p w hw;refine gZ (n:=5) (p:=p) (vs:=[.int .i64 kk,.int .i64 (c.getD S.aY.toNat aa.dflt),cx,.slice none 0 0,s]) rfl rfl hw inferInstance rfl rfl (by simp only[all_cons,all_nil,(aM (s:=cx) hw).one,(aM (s:=s) hw).one];rfl) ?_;clear hw;intro w hw;refine ab ?_;exact⟨(p,cx,s),⟨rfl,trivial⟩,aH,hw.aT⟩
    ·refine cK ?_;intro p w hw
     refine iN (parts:=[(0,.tmp 29),(1,.tmp 34),(2,.tmp 37),(4,.tmp 39)]) (vs:=[(0,.int .i64 kk),(1,.int .i64 (c.getD S.aY.toNat aa.dflt)),(2,cx),(4,s)]) rfl rfl (by simp only[all_cons,all_nil,(aM (s:=cx) hw).one,(aM (s:=s) hw).one];rfl) ?_;refine ab ?_;refine gZ (n:=5) (p:=p) (vs:=[.int .i64 kk,.int .i64 (c.getD S.aY.toNat aa.dflt),cx,.slice none 0 0,s]) rfl rfl hw inferInstance rfl rfl (by simp only[all_cons,all_nil,(aM (s:=cx) hw).one,(aM (s:=s) hw).one];rfl) ?_;clear hw;intro w hw;refine ab ?_;exact⟨(p,cx,s),⟨rfl,trivial⟩,aH,hw.aT⟩
   ·refine cK ?_;intro p w hw
    refine aJ rfl (lx (hS.au.at hw) om) ?_;rintro _ w' ⟨cx,rfl,aj⟩;refine aA ?_;clear aj hw;intro hw;refine ab ?_;refine iN (parts:=[(0,.tmp 29),(1,.tmp 34),(2,.tmp 37),(4,.tmp 39)]) (vs:=[(0,.int .i64 kk),(1,.int .i64 (c.getD S.aY.toNat aa.dflt)),(2,cx),(4,s)]) rfl rfl (by simp only[all_cons,all_nil,(aM (s:=cx) hw).one,(aM (s:=s) hw).one];rfl) ?_;refine ab ?_;refine gZ (n:=5) (p:=p) (vs:=[.int .i64 kk,.int .i64 (c.getD S.aY.toNat aa.dflt),cx,.slice none 0 0,s]) rfl rfl hw inferInstance rfl rfl (by simp only[all_cons,all_nil,(aM (s:=cx) hw).one,(aM (s:=s) hw).one];rfl) ?_;clear hw;intro w hw;refine ab ?_;exact⟨(p,cx,s),⟨rfl,trivial⟩,aH,hw.aT⟩
  ·refine cK ?_;intro p w hw
   refine jz ?_ (jz ?_ pU)
   ·refine ab ?_
    refine aJ rfl (lx (hS.au.at hw) om) ?_;rintro _ w' ⟨cx,rfl,aj⟩;refine aA ?_;clear aj hw;intro hw;refine nV ?_;intro s w hw;refine iN (parts:=[(0,.tmp 29),(1,.tmp 34),(2,.tmp 37),(4,.tmp 39)]) (vs:=[(0,.int .i64 kk),(1,.int .i64 (c.getD S.aY.toNat aa.dflt)),(2,cx),(4,s)]) rfl rfl (by simp only[all_cons,all_nil,(aM (s:=cx) hw).one,(aM (s:=s) hw).one];rfl) ?_;refine ab ?_;refine gZ (n:=5) (p:=p) (vs:=[.int .i64 kk,.int .i64 (c.getD S.aY.toNat aa.dflt),cx,.slice none 0 0,s]) rfl rfl hw inferInstance rfl rfl (by simp only[all_cons,all_nil,(aM (s:=cx) hw).one,(aM (s:=s) hw).one];rfl) ?_;clear hw;intro w hw;refine ab ?_;exact⟨(p,cx,s),⟨rfl,trivial⟩,aH,hw.aT⟩
   ·refine nV ?_;intro s w hw
    refine aJ rfl (lx (hS.au.at hw) om) ?_;rintro _ w' ⟨cx,rfl,aj⟩;refine aA ?_;clear aj hw;intro hw;refine ab ?_;refine iN (parts:=[(0,.tmp 29),(1,.tmp 34),(2,.tmp 37),(4,.tmp 39)]) (vs:=[(0,.int .i64 kk),(1,.int .i64 (c.getD S.aY.toNat aa.dflt)),(2,cx),(4,s)]) rfl rfl (by simp only[all_cons,all_nil,(aM (s:=cx) hw).one,(aM (s:=s) hw).one];rfl) ?_;refine ab ?_;refine gZ (n:=5) (p:=p) (vs:=[.int .i64 kk,.int .i64 (c.getD S.aY.toNat aa.dflt),cx,.slice none 0 0,s]) rfl rfl hw inferInstance rfl rfl (by simp only[all_cons,all_nil,(aM (s:=cx) hw).one,(aM (s:=s) hw).one];rfl) ?_;clear hw;intro w hw;refine ab ?_;exact⟨(p,cx,s),⟨rfl,trivial⟩,aH,hw.aT⟩
 clear hw;rintro σ ⟨px,cx,gx⟩ w hw
 dsimp only at hw
 rw[<-qoA (g:=S.goals) (c:=c)]at hw;have kL:∀ m,(ff S.goals c kk.toNat m).length=kk.toNat:=fun m=>qdg;refine ab ?_;refine cd [9,10,44,67] (G:=Nat) (fun m=>[(44,.int .i64 m)]) (fun m w=>m<=S.goals.length/\Sat w0 w [Ad px 142 [.int .i64 kk,.int .i64 (c.getD S.aY.toNat aa.dflt),cx,.slice none 0 0,gx],OS ah 4 gx (ff S.goals c kk.toNat m),OS aa 3 cx S.au,Ad pr 142 [.int .i64 0,.int .i64 0,.slice none 0 0,.slice none 0 0,.slice none 0 0],Ad ps 142 [.int .i64 n,.int .i64 S.aY,sc,se,sg]]) (fun m=>S.goals.length-m) 0 (fun _=>rfl) ⟨rfl,trivial⟩ ⟨zero_le _,hw⟩ ?_
 ·clear hw
  rintro σ m w ⟨hm,hw⟩;have qz0:=kL m;refine ab ?_;refine ai ?_ ?_<;>intro h2
  ·have eT:m<S.goals.length:=by omega
   have hcm:=iK m om;have hqs:=qoB (g:=S.goals) (c:=c) (k:=kk.toNat) (m:=m) hcm.1 om;obtain⟨lz,xj⟩:=hcm;refine ab ?_;refine fP (pl [0,1,2,3,4,5,6,7,8,9,10,11,12,13,14,15,16,17,18] []) hw kr ?_;clear hw;intro w hw;refine fy ?_;intro w hw;rw[<-hqs]at hw;exact⟨m+1,⟨rfl,trivial⟩,aH,⟨by omega,hw.aT⟩,by omega⟩
  have hmn:m=S.goals.length:=by omega
  subst hmn;have hqG:ff S.goals c kk.toNat S.goals.length=kO S.goals c kk.toNat:=rfl;rw[hqG]at hw;have hw:Sat w0 w [Ad px 142 [.int .i64 kk,.int .i64 (c.getD S.aY.toNat aa.dflt),cx,.slice none 0 0,gx],OS ah 4 gx (kO S.goals c kk.toNat),OS ax 190 (.slice none 0 0) [],OS aa 3 cx S.au,Ad pr 142 [.int .i64 0,.int .i64 0,.slice none 0 0,.slice none 0 0,.slice none 0 0],Ad ps 142 [.int .i64 n,.int .i64 S.aY,sc,se,sg]]:=(hw.nil (T:=ax) (e:=190)).aT;refine ab ?_;refine dj [12,12,71,93] (G:=Nat) (H:=Value) (fun m ev=>[(71,.int .i64 m)]) (fun m ev w=>m<=S.ak.length/\Sat w0 w [Ad px 142 [.int .i64 kk,.int .i64 (c.getD S.aY.toNat aa.dflt),cx,ev,gx],OS ah 4 gx (kO S.goals c kk.toNat),OS ax 190 ev ((S.ak.take m).map (kN c)),OS aa 3 cx S.au,Ad pr 142 [.int .i64 0,.int .i64 0,.slice none 0 0,.slice none 0 0,.slice none 0 0],Ad ps 142 [.int .i64 n,.int .i64 S.aY,sc,se,sg]]) (fun m _=>S.ak.length-m) 0 (.slice none 0 0) (fun _ _=>rfl) ⟨rfl,trivial⟩ ⟨zero_le _,hw⟩ ?_;clear hw;rintro σ m ev w ⟨hm,hw⟩;refine ab ?_;refine ai ?_ ?_<;>intro h3
  ·have eT:m<S.ak.length:=by omega
   obtain⟨a,ha⟩:∃ a,a=S.ak.getD m ax.dflt:=⟨_,rfl⟩
   have rO:=aed _ (bY ax.dflt eT);rw[<-ha]at rO;obtain⟨⟨e1,e2⟩,⟨e3,e4⟩,_⟩:=rO;refine cK ?_;intro p w hw;have hw:Sat w0 w [Ad p 190 [.int .i64 a.src,.int .i64 a.bI,.int .i64 a.dst],Ad px 142 [.int .i64 kk,.int .i64 (c.getD S.aY.toNat aa.dflt),cx,ev,gx],OS ah 4 gx (kO S.goals c kk.toNat),OS ax 190 ev ((S.ak.take m).map (kN c)),OS aa 3 cx S.au,Ad pr 142 [.int .i64 0,.int .i64 0,.slice none 0 0,.slice none 0 0,.slice none 0 0],Ad ps 142 [.int .i64 n,.int .i64 S.aY,sc,se,sg]]:=by rw[ha];exact hw
   refine fP (pl [0,1,2,3,4,5,6,7,8,9,10,11,12,13,14] (.chk 1::pl [15] (.chk 1::pl [16,17,18] []))) hw kr ?_;clear hw;intro w hw
   repeat refine bV ?_
   refine jh ax (x1:=⟨c.getD a.src.toNat aa.dflt,a.bI,c.getD a.dst.toNat aa.dflt⟩) rfl rfl rfl (le_of_ble_eq_true rfl) (zero_lt_succ _) hw ?_;clear hw;intro s2 w hw;have hlm:((S.ak.take m).map (kN c)).length=m:=by rw[length_map,length_take];omega
   refine nV ?_;intro s w hw;simp only[set_cons_succ,set_cons_zero]at hw;refine⟨m+1,s,⟨rfl,trivial⟩,aH,⟨by omega,?_⟩,by omega⟩;rw[dJ ax.dflt eT,map_append,<-ha,show List.map (kN c) [a]=[⟨c.getD a.src.toNat aa.dflt,a.bI,c.getD a.dst.toNat aa.dflt⟩] from rfl];exact hw.aT
  rw[take_of_length_le om]at hw;refine ab ?_;have hw:Sat w0 w [OS ax 190 ev (S.ak.map (kN c)),Ad px 142 [.int .i64 kk,.int .i64 (c.getD S.aY.toNat aa.dflt),cx,ev,gx],OS ah 4 gx (kO S.goals c kk.toNat),OS aa 3 cx S.au,Ad pr 142 [.int .i64 0,.int .i64 0,.slice none 0 0,.slice none 0 0,.slice none 0 0],Ad ps 142 [.int .i64 n,.int .i64 S.aY,sc,se,sg]]:=hw.aT;refine aJ rfl (ql3 (s:=ev) (xs:=S.ak.map (kN c)) hw (by rw[length_map];omega)) ?_;rintro _ w' ⟨ex,rfl,dA⟩;clear hw;have hw:=dA;clear dA;refine⟨_,rfl,?_⟩;refine fy ?_;intro w hw;simp only[set_cons_succ,set_cons_zero]at hw;have o1:=(aM (s:=ex) hw).one;have o2:=(aM (s:=gx) hw).one;have o3:=(aM (s:=cx) hw).one;refine gZ (n:=5) (p:=pr) (vs:=[.int .i64 kk,.int .i64 (c.getD S.aY.toNat aa.dflt),cx,ex,gx]) rfl rfl hw inferInstance rfl rfl (by simp only[all_cons,all_nil,o1,o2,o3];rfl) ?_;clear hw;intro w hw;refine ab ?_;refine mg (p:=pr) (vs:=[.int .i64 kk,.int .i64 (c.getD S.aY.toNat aa.dflt),cx,ex,gx]) rfl rfl (v':=bE 0) (by rw[iy rfl];rfl) rfl (fun j v hv=>jw (i:=4) hw rfl hv) ⟨cx,ex,gx,rfl,?_⟩;exact hw.aT
end Go.Proofs.YtmapkjoefdgjfaaGreatDoor
