/- Several texts. -/
import Derived.Test.YtmapkjoefdgjfaaGreatDoorMW6D
set_option linter.unusedSimpArgs false
set_option linter.unusedVariables false
set_option linter.defProp false
set_option maxRecDepth 8000
set_option maxHeartbeats 16000000
open List Nat
namespace Go.Proofs.YtmapkjoefdgjfaaGreatDoor
open Go.Sl Go
variable {w0:World}{c:J}{k l m:Nat}{g:List Bool}{B S:bV}{u o sg:Value}
attribute [local irreducible] vc opsW opsD opV opW PureV ReadV Thn Blk
noncomputable def rp (S:bV):J:=if iS S=true then uJ S else []
def QH (y:cV w0 u o sg S)(hT:lT w0) :
  Calls aj 147 #[cK S u o sg] w0 fun e w'=>∃ v,e=.returned (.tuple #[v,bO (iF S)])/\(iS S=true->∃ L:List ByteArray,L.length=S.st.toNat/\uJ S=fg L)/\M w0 w' [X O 3 v (rp S)]:=by
 have Y:=M.start w0;have oS:=y.mh;have j':=y.aR;refine bB ao Tryz.func147 ?_;unfold cK;refine c9 ?_;intro p w Y;have Y:M w0 w [ak p 142 [E S.st,E S.bL,u,o,sg]]:=Y;obtain⟨z,rfl⟩:=À p;refine aU rfl (D9 (S:=S) (y.at Y)) ?_;refine j7 ?_;clear Y;intro w' Y;by_cases hv:iS S=true
 case neg =>
  rw[rX]at hv;rw[hv];have A:iF S=2:=by unfold iF;rw[aH (by rw[hv];simp)]
  have C:rp S=[]:=by unfold rp;rw[aH (by rw[hv];simp)]
  rw[A,C];refine W ?_;exact cX (v:=nS) (v':=.iface 57 (E 2)) rfl rfl rfl ⟨nS,by rw[dq dc],(fun h=>by simp[hv]at h),(iY Y).nil⟩
 rw[hv];have t:dP S:=nl fun h=>by rw[wc h]at hv;cases hv
 have A:iF S=0:=by unfold iF;rw[aP hv]
 have C:rp S=uJ S:=by unfold rp;rw[aP hv]
 rw[A,C];obtain⟨a1,a2,a3,a4,a5,a6,a7,_⟩:=id t;obtain⟨n,D⟩:=À S.st.toNat;have H':S.st=(n:Int):=U;have F:S.aR.length=n:=U;refine W ?_;refine Cb kB ⟨#[]⟩ rfl rfl rfl rfl U U U Y ?_;clear Y;intro R w Y;rw[show S.st.toNat=n from D.symm]at Y;refine W ?_;refine cN [5,6,21,31] (G:=Nat) (fun k=>[(21,E k)]) (fun k w=>k<=n/\M w0 w [X kB 9 R ((S.aR.take k).map kC++replicate (n-k) ⟨#[]⟩),ak z 142 [E S.st,E S.bL,u,o,sg]]) (fun k=>n-k) 0 (fun _=>rfl) ⟨rfl,au⟩ ⟨br _,Y⟩ ?_;clear Y;rintro σ k w ⟨hk,Y⟩;have f:((S.aR.take k).map kC).length=k:=by rw[iW,jf];omega
 have J':((S.aR.take k).map kC++replicate (n-k) (⟨#[]⟩:ByteArray)).length=n:=by rw[length_append,f,np];omega
 refine aA ?_ ?_<;>intro h2
 ·have b:k<n:=U
  refine W ?_;refine aU rfl (XU (S.aR.getD k ah.dflt)) ?_;refine BG ?_;intro w Y;refine⟨k+1,⟨rfl,au⟩,aV,⟨U,?_⟩,U⟩;have e:((S.aR.take k).map kC++replicate (n-k) (⟨#[]⟩:ByteArray)).set k (kC (S.aR.getD k ah.dflt))=(S.aR.take (k+1)).map kC++replicate (n-(k+1)) ⟨#[]⟩:=by
   have d:n-k=(n-(k+1))+1:=U;rw[d,DE,eD ah.dflt (show k<S.aR.length by omega),pX,fG,yB _ _ (by rw[f];exact cz _),f,rZ];rfl
  rw[e]at Y;exact Y.bb
 have K:k=n:=U;rw[K,rZ,Cq,fI,gH U]at Y;have N:(S.aR.map kC).length=n:=by rw[iW];exact F
 refine W ?_;refine aU rfl (QI (L:=S.aR.map kC) (bm (s:=R) Y) U) ?_;rintro _ w' ⟨a,rfl,an⟩;refine aL ?_;clear an Y;intro Y;have Y:M w0 w' [X O 3 a (fg (S.aR.map kC)),ak z 142 [E S.st,E S.bL,u,o,sg]]:=Y.bb;refine W ?_;refine dN [2,3,7,10,37,48] (G:=List ByteArray) (H:=Value) (fun L a=>[(7,a),(8,E ((cP L).length:Nat))]) (fun L a w=>L.length=n/\(∃ j,kX (kM S) j (sZ S)=(fg L,(cP L).length,false))/\M w0 w [X O 3 a (fg L),ak z 142 [E S.st,E S.bL,u,o,sg]]) (fun L _=>n+1-(cP L).length) (S.aR.map kC) a (fun _ _=>rfl) ⟨rfl,rfl,au⟩ ⟨N,⟨0,rfl⟩,Y⟩ ?_;clear Y;rintro σ L a w ⟨P',⟨j,hj⟩,Y⟩;have R':=Hn L;have q:kX (kM S) (j+1) (sZ S)=(fg (kg S (fg L)),(cP (kg S (fg L))).length,decide ((cP (kg S (fg L))).length=(cP L).length)):=by
  show kM S (kX (kM S) j (sZ S))=_;rw[hj];rfl
 have r:=XV (S:=S) (l:=L) U;refine W ?_;refine aU rfl (XW (S:=S) (c:=fg L) (y.at Y) t (hT.at Y) (bm (s:=a) Y) (by rw[CH];omega) (fun i T=>?_)) ?_
 ·rw[CH]at T
  have:=Ea T;omega
 rintro _ w' ⟨P,rfl,an⟩;refine aL ?_;clear an Y;intro Y;obtain⟨b,x⟩:=À (kg S (fg L));have d:b.length=n:=by rw[x,XX];exact D.symm
 rw[<-x]at Y q r ⊢;refine aA ?_ ?_<;>intro h3
 ·have V:kX (kM S) (j+1) (sZ S)=(fg b,(cP b).length,true):=by rw[q,dY U]
  have Q:uJ S=fg b:=by
   unfold uJ;rw[oo (XY S) (n:=j+1) (by rw[V];rfl),V]
  have hex:∃ L':List ByteArray,L'.length=S.st.toNat/\fg b=fg L':=⟨b,by rw[d,D],rfl⟩
  rw[Q];refine W ?_;exact cX (v:=P) (v':=.nilIface) rfl rfl rfl ⟨P,by rw[gy rfl],fun _=>hex,Y.bb⟩
 have Q:=Hn b;refine W ?_;exact⟨b,P,⟨rfl,rfl,au⟩,aV,⟨d,⟨j+1,by rw[q,eA U]⟩,Y.bb⟩,U⟩
def XZ {v:Value}(r:RS ah w0 v g)(t:g.length<=65536) :
  Calls aj 169 #[v] w0 fun e w'=>e=.returned (.tuple #[E ((tM g).1:Nat),E ((tM g).2:Nat)])/\M w0 w' []:=by
 have Y:=M.start w0;refine bB ao Tryz.func169 ?_;refine W ?_;refine cN [2,5,9,29] (G:=Nat) (fun K=>[(4,E ((K:Int)-1))]) (fun K w=>K<=g.length/\Aa g K=tM g/\M w0 w []) (fun K=>K) g.length (fun _=>rfl) ⟨rfl,au⟩ ⟨cz _,rfl,Y⟩ ?_;clear Y;rintro n K w ⟨x,d,Y⟩;refine aA ?_ ?_<;>intro h1
 ·obtain⟨k,rfl⟩:∃ k,K=k+1:=⟨K-1,U⟩
  have f:k≠0:=U;unfold Aa at d;rw[aH f]at d;have q:(((k+1:Nat):Int)-1)=(k:Int):=U;rw[q];refine W ?_;refine cN [2,3,5,5,15,29] (G:=Nat) (fun b=>[(5,E ((b:Int)-1))]) (fun b w=>b<=k/\Ab g k b=Ab g k k/\M w0 w []) (fun b=>b) k (fun _=>rfl) ⟨rfl,au⟩ ⟨cz _,rfl,Y⟩ ?_;clear Y;rintro n b w ⟨y,a,Y⟩;refine aA ?_ ?_<;>intro z
  ·obtain⟨i,rfl⟩:∃ i,b=i+1:=⟨b-1,U⟩
   have j:(((i+1:Nat):Int)-1)=(i:Int):=U;rw[j];rw[show Ab g k (i+1)=if g.getD i ah.dflt=g.getD k ah.dflt then some i else Ab g k i from rfl]at a;refine eQ ?_;intro w Y;by_cases he:g.getD i ah.dflt=g.getD k ah.dflt
   ·rw[aP he]at a
    rw[<-a]at d;have hq:(g.getD i ah.dflt == g.getD k ah.dflt)=true:=by rw[he];exact wF _
    rw[hq];refine W ?_;exact cX (v:=E (i:Nat)) (v':=E (k:Nat)) rfl rfl rfl ⟨by rw[<-d],Y⟩
   rw[aH he]at a;have hq:(g.getD i ah.dflt == g.getD k ah.dflt)=false:=by rw[beq_eq_false_iff_ne];exact he
   rw[hq];refine W ?_;exact⟨i,⟨rfl,au⟩,aV,⟨U,a,Y⟩,U⟩
  have j:b=0:=U;subst j;rw[<-a]at d;refine W ?_;exact⟨k,⟨rfl,au⟩,aV,⟨U,d,Y⟩,U⟩
 have a:tM g=(0,1):=by
  rw[<-d];rcases ns K 1 with h|h
  ·have:K=0:=U
   subst this;rfl
  have:K=1:=U;subst this;rfl
 rw[a];refine W ?_;exact cX (v:=E 0) (v':=E 1) rfl rfl rfl ⟨rfl,Y⟩
noncomputable def uc (S:bV)(most:Int):J:=if iS S=true then gD S most else []
def X0 {most:Int}(hS:cV w0 u o sg S)(hT:lT w0) :
  Calls aj 146 #[cK S u o sg,E most] w0 fun e w'=>∃ v,e=.returned (.tuple #[v,bO (iF S)])/\(iS S=true->0<(gD S most).length/\∀ x∈gD S most,0<=x/\x<=65536)/\M w0 w' [X O 3 v (uc S most)]:=by
 have Y:=M.start w0;have oS:=hS.mh;have _k:=hS.aR;refine bB ao Tryz.func146 ?_;unfold cK;refine c9 ?_;intro p w Y;have Y:M w0 w [ak p 142 [E S.st,E S.bL,u,o,sg]]:=Y;obtain⟨T,rfl⟩:=À p;refine aU rfl (QH (S:=S) (hS.at Y) (hT.at Y)) ?_;rintro _ w' ⟨t,rfl,R',an⟩;refine aL ?_;clear an Y;intro Y;by_cases hv:iS S=true
 case neg =>
  have hE:iF S=2:=by unfold iF;rw[aH hv]
  have hR:uc S most=[]:=by unfold uc;rw[aH hv]
  rw[hE,hR,dq dc];refine W ?_;exact cX (v:=nS) (v':=.iface 57 (E 2)) rfl rfl rfl ⟨nS,rfl,(fun h=>absurd h hv),(iY Y).nil⟩
 have T':dP S:=nl fun h=>by rw[wc h]at hv;cases hv
 have hE:iF S=0:=by unfold iF;rw[aP hv]
 have hR:uc S most=gD S most:=by unfold uc;rw[aP hv]
 have V':rp S=uJ S:=by unfold rp;rw[aP hv]
 rw[hE,hR,gy rfl];obtain⟨a1,a2,a3,a4,a5,a6,a7,_⟩:=id T';obtain⟨L,_l,V⟩:=R' hv;obtain⟨n,hn⟩:=À S.st.toNat;have _m:S.aR.length=n:=U;obtain⟨a,z⟩:=À (uJ S);have A:a.length=n:=by rw[z,V,CH];omega
 have f:∀ x∈a,0<=x/\x<4096:=fun x hx=>by
  rw[z,V]at hx;obtain⟨i,hi,rfl⟩:=fF hx;have h1:=Ea (l:=L) (i:=i) (by rw[CH]at hi;exact hi);rw[al hi]at h1;have:=Hn L;omega
 have _a:=Ky (l:=a) U;have _n:=f _ _a;rw[V',<-z]at Y;refine W ?_;obtain⟨d,hM⟩:∃ d:Nat,(d:Int)=max 1 (min most 4096):=⟨(max 1 (min most 4096)).toNat,U⟩
 have _b:(if (if (4096:Int)<most then 4096 else most)>1 then (if (4096:Int)<most then 4096 else most) else 1)=(d:Int):=by
  rw[hM]
  repeat' split
  all_goals omega
 rw[_b];have _c:(max 1 (min most 4096)).toNat=d:=U;have _o:1<=d:=U;refine aU rfl (QJ (l:=a) (bm (s:=t) Y) U) ?_;refine j7 ?_;clear Y;intro w' Y;refine A9 ?_;refine X2 ah false (n:=lj a+1) rfl rfl rfl rfl U (by show (1:Int)*_<=_;omega) U Y ?_;clear Y;intro D w Y;obtain⟨m,hm⟩:=À ((lj a+1).toNat);have _p:(m:Int)=lj a+1:=U;rw[<-hm]at Y ⊢;have j':∀ i:Nat,i<n->0<=a.getD i O.dflt/\a.getD i O.dflt<m:=fun i hi=>by
  have hx:a.getD i O.dflt∈a:=cD O.dflt U;have h1:=X3 hx;have h2:=f _ hx;omega
 rw[<-X4 (g:=S.aR) (c:=a)]at Y;refine W ?_;have Y:M w0 w [X ah 4 (.slice (some ⟨D,0,none⟩) m m) (lV S.aR a m 0),X O 3 t a,ak T 142 [E S.st,E S.bL,u,o,sg]]:=Y.bb;refine cN [9,10,32,45] (G:=Nat) (fun k=>[(32,E k)]) (fun k w=>k<=n/\M w0 w [X ah 4 (.slice (some ⟨D,0,none⟩) m m) (lV S.aR a m k),X O 3 t a,ak T 142 [E S.st,E S.bL,u,o,sg]]) (fun k=>n-k) 0 (fun _=>rfl) ⟨rfl,au⟩ ⟨br _,Y⟩ ?_;clear Y;rintro σ k w ⟨hk,Y⟩;have _j:(lV S.aR a m k).length=m:=CI;refine aA ?_ ?_<;>intro h2
 ·have H':k<n:=U
  obtain⟨b,j⟩:=j' k H';have q:=X5 (g:=S.aR) (c:=a) (k:=m) (m:=k) b j;refine iC ?_;intro w Y;rw[<-q]at Y;exact⟨k+1,⟨rfl,au⟩,aV,⟨U,Y.bb⟩,U⟩
 have _d:k=n:=U;have J':lV S.aR a m n=Ac S.aR a m:=by rw[<-A];rfl
 rw[_d,J']at Y;have F:(Ac S.aR a m).length=m:=by rw[<-J'];exact CI
 refine W ?_;have Y:M w0 w [X ah 4 (.slice (some ⟨D,0,none⟩) (Ac S.aR a m).length m) (Ac S.aR a m),X O 3 t a,ak T 142 [E S.st,E S.bL,u,o,sg]]:=by rw[F];exact Y.bb
 refine dN [8,8,11,14,46,82] (G:=J) (H:=List Bool) (fun C G=>[(8,.slice (some ⟨D,0,none⟩) G.length m)]) (fun C G w=>C.length=n/\G.length<=m/\(∀ x∈C,0<=x/\x<=65536)/\(∃ j,kX (kN d) j (a,Ac S.aR a m)=(C,G))/\M w0 w [X ah 4 (.slice (some ⟨D,0,none⟩) G.length m) G,X O 3 t C,ak T 142 [E S.st,E S.bL,u,o,sg]]) (fun C G=>G.length) a (Ac S.aR a m) (fun _ _=>rfl) ⟨by rw[F];rfl,au⟩ ⟨A,U,fun x hx=>by have:=f x hx;omega,⟨0,rfl⟩,Y⟩ ?_;clear Y;rintro σ C G w ⟨_e,_q,N,⟨j,hj⟩,Y⟩;refine aA ?_ ?_<;>intro h3
 ·have _r:d<G.length:=U
  obtain⟨_f,P⟩:=X6 (g:=G) U;have q:kX (kN d) (j+1) (a,Ac S.aR a m)=(C.map (pQ (tM G).1 (tM G).2),G.eraseIdx (tM G).2):=by
   show kN d (kX (kN d) j _)=_;rw[hj];unfold kN;rw[aH (by show ¬G.length<=d;omega)]
  obtain⟨pi,_g⟩:=À ((tM G).1);obtain⟨b,P'⟩:=À ((tM G).2);refine W ?_;refine aU rfl (XZ (g:=G) (bm (s:=.slice (some ⟨D,0,none⟩) G.length m) Y) U) ?_;refine j7 ?_;clear Y;intro w' Y;rw[<-_g,<-P']at _f q ⊢;rw[<-P']at P;refine W ?_;have Y:M w0 w' [X ah 4 (.slice (some ⟨D,0,none⟩) G.length m) G,X O 3 t ((C.take 0).map (pQ pi b)++C.drop 0),ak T 142 [E S.st,E S.bL,u,o,sg]]:=Y;refine cN [13,14,57,77] (G:=Nat) (fun k=>[(57,E k)]) (fun k w=>k<=n/\M w0 w [X ah 4 (.slice (some ⟨D,0,none⟩) G.length m) G,X O 3 t ((C.take k).map (pQ pi b)++C.drop k),ak T 142 [E S.st,E S.bL,u,o,sg]]) (fun k=>n-k) 0 (fun _=>rfl) ⟨rfl,au⟩ ⟨br _,Y⟩ ?_;clear Y;rintro σ k w ⟨hk,Y⟩;have r:((C.take k).map (pQ pi b)).length=k:=by rw[iW,jf];omega
  have _s:((C.take k).map (pQ pi b)++C.drop k).length=n:=by rw[length_append,r,Bg];omega
  refine aA ?_ ?_<;>intro h4
  ·have H':k<n:=U
   obtain⟨x,hx⟩:=À (C.getD k O.dflt);have _h:=N _ (cD O.dflt (show k<C.length by omega));rw[<-hx]at _h;have _i:((C.take k).map (pQ pi b)++C.drop k).getD k O.dflt=x:=by
    rw[hx,iB,kp U,r,rZ,JT,zQ,<-iB]
   have K:∀ y,y=pQ pi b x->((C.take k).map (pQ pi b)++C.drop k).set k y=(C.take (k+1)).map (pQ pi b)++C.drop (k+1):=fun y hy=>by
    have Q:C.drop k=C.getD k O.dflt::C.drop (k+1):=by rw[wG (show k<C.length by omega),al]
    rw[Q,yB _ _ U,r,rZ,mJ,eD O.dflt (show k<C.length by omega),pX,fG,hy,<-hx];rfl
   have R:pQ pi b x=x->((C.take k).map (pQ pi b)++C.drop k)=(C.take (k+1)).map (pQ pi b)++C.drop (k+1):=fun h=>by
    have Q:C.drop k=C.getD k O.dflt::C.drop (k+1):=by rw[wG (show k<C.length by omega),al]
    rw[Q,eD O.dflt (show k<C.length by omega),pX,fG,<-hx,l8,h];rfl
   refine W ?_;rw[_i];by_cases c1:x=(b:Int)
   ·have Q:pQ pi b x=(pi:Int):=by unfold pQ;rw[aP c1]
    have d1:decide (x=(b:Int))=true:=dY c1;have d2:decide ((b:Int)<x)=false:=eA U;rw[d1];refine iC ?_;intro w Y;rw[K _ Q.symm]at Y;rw[d2];refine W ?_;exact⟨k+1,⟨rfl,au⟩,aV,⟨U,Y.bb⟩,U⟩
   have d1:decide (x=(b:Int))=false:=eA c1;rw[d1];by_cases c2:x>(b:Int)
   ·have Q:pQ pi b x=x-1:=by unfold pQ;rw[aH c1,aP c2]
    have d2:decide ((b:Int)<x)=true:=dY c2;refine W ?_;rw[d2];refine iC ?_;intro w Y;rw[K _ Q.symm]at Y;exact⟨k+1,⟨rfl,au⟩,aV,⟨U,Y.bb⟩,U⟩
   have Q:pQ pi b x=x:=by unfold pQ;rw[aH c1,aH c2]
   have d2:decide ((b:Int)<x)=false:=eA U;refine W ?_;rw[d2];refine W ?_;rw[R Q]at Y;exact⟨k+1,⟨rfl,au⟩,aV,⟨U,Y.bb⟩,U⟩
  have K:k=n:=U;rw[K,gH U,qz U,fI]at Y;have Q:∀ x∈C.map (pQ pi b),0<=x/\x<=65536:=fun x hx=>by
   obtain⟨y,hy,rfl⟩:=iQ.1 hx;have:=N y hy;unfold pQ;split
   ·omega
   split<;>omega
  refine W ?_;refine aU rfl (X7 (k:=b) Y U P) ?_;rintro _ w' ⟨rfl,R⟩;clear Y;have Y:=R;clear R;refine⟨_,rfl,?_⟩;have H':(G.eraseIdx b).length=G.length-1:=length_eraseIdx_of_lt P;refine W ?_;exact⟨C.map (pQ pi b),G.eraseIdx b,⟨rfl,au⟩,aV,⟨by rw[iW];exact _e,U,Q,⟨j+1,q⟩,Y.bb⟩,U⟩
 have b:gD S most=C:=by
  unfold gD;rw[_c,<-z,<-hm,oo (X8 d) (n:=j) (by rw[hj];unfold uq;exact dY (by show G.length<=d;omega)),hj]
 rw[b];refine W ?_;exact cX (v:=t) (v':=.nilIface) rfl rfl rfl ⟨t,rfl,fun _=>⟨U,N⟩,Y.bb⟩
instance Iv:jd aj 190 3:=⟨kr⟩
instance Iw:zb aj 190 aM:=⟨fun a b w=>by
 have h:=jd.run (P:=aj) (t:=190) inferInstance (us:=[a.ba,a.cG,a.dst]) (zs:=[b.ba,b.cG,b.dst]) rfl rfl w;have e:decide ([a.ba,a.cG,a.dst]=[b.ba,b.cG,b.dst])=decide (a=b):=by
  rw[decide_eq_decide];cases a;cases b;simp
 rw[e]at h
 exact h⟩
def X9 {w:World}{Γ:List HP}{s:Value}{xs:List cS}(Y:M w0 w (X aM 190 s xs::Γ))(hn:xs.length<=65536) :
  Calls aj 196 #[s] w fun e w'=>∃ d,e=.returned d/\M w0 w' (X aM 190 d (lN xs)::Γ):=by
 refine bB ao Tryz.func196 ?_;refine aA ?_ ?_<;>intro h1
 ·have he:lN xs=xs:=by
   match xs,h1 with
   | [],_=>rfl
   | [_],_=>rfl
   | _::_::_,h=>simp only[length_cons]at h;omega
  refine W ?_;exact bk (v:=s) rfl rfl ⟨s,rfl,by rw[he];exact Y.cq⟩
 have j':2<=xs.length:=U;refine W ?_;refine cN [2,5,10,59] (G:=Nat) (fun k=>[(3,E k)]) (fun k w=>1<=k/\k<=xs.length/\lN (xs.take k)=xs.take k/\M w0 w (X aM 190 s xs::Γ)) (fun k=>xs.length-k) 1 (fun _=>rfl) ⟨rfl,au⟩ ⟨cz _,U,by cases xs with|nil=>rfl|cons a r=>rfl,Y.cq⟩ ?_;clear Y;rintro σ k w ⟨N,hk,n,Y⟩;refine aA ?_ ?_<;>intro P
 ·have A:k<xs.length:=U
  have i:=Ho aM.dflt N A;have ek:((k:Int)-1).toNat=k-1:=U;rw[<-ek]at i;refine W ?_;refine r5 ?_;clear Y;intro w Y;refine W ?_;refine fi rfl (QK (T:=aM) (a:=xs.getD k aM.dflt) (b:=xs.getD ((k:Int)-1).toNat aM.dflt) rfl rfl) ?_;refine aA ?_ ?_<;>intro V
  ·rw[aP V.symm,fI,n]at i
   refine W ?_;refine dN [3,3,5,5,29,53] (G:=Nat) (H:=Nat) (fun d q=>[(3,E q),(5,E d)]) (fun d q w=>1<=d/\k+d<=xs.length/\k<=q/\q<k+d/\∃ C:List cS,C.length=xs.length/\C.take q=lN (xs.take (k+d))/\(∀ j,k+d<=j+1->C.getD j aM.dflt=xs.getD j aM.dflt)/\M w0 w (X aM 190 s C::Γ)) (fun d _=>xs.length-(k+d)) 1 k (fun _ _=>rfl) ⟨rfl,rfl,au⟩ ⟨cz _,U,cz _,U,xs,rfl,i.symm,fun _ _=>rfl,Y.cq⟩ ?_;clear Y;rintro σ d q w ⟨H',D,Q,J',C,hC,x,t,Y⟩;have P':(cut C k xs.length).length=xs.length-k:=yI U;have L:=xY (T:=aM) (bm (s:=s) Y) (lo:=k) (hi:=xs.length) U U;refine aA ?_ ?_<;>intro h4
   ·have F:k+d<xs.length:=U
    have f:=Ho aM.dflt (show 0<k+d by omega) F;refine W ?_;refine r5 ?_;clear Y L;intro w Y;have L:=xY (T:=aM) (bm (s:=s) Y) (lo:=k) (hi:=xs.length) U U;have R:((d:Int)-1).toNat=d-1:=U;have e1:(cut C k xs.length).getD d aM.dflt=xs.getD (k+d) aM.dflt:=by rw[<-t (k+d) U];simp[cut,List.getD,wE,F]
    have e2:(cut C k xs.length).getD ((d:Int)-1).toNat aM.dflt=xs.getD (k+d-1) aM.dflt:=by
     rw[<-t (k+d-1) U,R];simp[cut,List.getD,wE,show k+(d-1)=k+d-1 by omega,show k+d-1<xs.length by omega]
    refine W ?_;refine fi rfl (QL (T:=aM) (a:=(cut C k xs.length).getD d aM.dflt) (b:=(cut C k xs.length).getD ((d:Int)-1).toNat aM.dflt) rfl rfl) ?_;refine W ?_;rw[e1,e2];refine jy ?_ ?_<;>intro h5
    ·have y:¬xs.getD (k+d-1) aM.dflt=xs.getD (k+d) aM.dflt:=fun e=>h5 e.symm
     rw[aH y]at f;refine W ?_;refine B5 (T:=aM) (s:=s) (j:=q) (x':=(cut C k xs.length).getD d aM.dflt) rfl rfl rfl rfl Y inferInstance U ?_;clear Y L;intro w Y;rw[e1]at Y;refine W ?_;have K:q<C.length:=U;refine⟨d+1,q+1,⟨rfl,rfl,au⟩,aV,⟨U,U,U,U,C.set q (xs.getD (k+d) aM.dflt),by rw[gS];exact hC,?_,fun j hj=>?_,Y.cq⟩,U⟩
     ·rw[eD aM.dflt (by rw[gS];exact K),Gt (cz _),x,kD,aP ⟨rfl,K⟩]
      exact f.symm
     rw[kD,aH U];exact t j U
    have y:xs.getD (k+d-1) aM.dflt=xs.getD (k+d) aM.dflt:=by
     exact h5.symm
    rw[aP y,fI]at f;refine W ?_;exact⟨d+1,q,⟨rfl,rfl,au⟩,aV,⟨U,U,Q,U,C,hC,by rw[x,<-f];rfl,fun j hj=>t j U,Y.cq⟩,U⟩
   have y:k+d=xs.length:=U;have R:q<=xs.length:=U;have F:lN xs=C.take q:=by rw[x,y,lL]
   refine W ?_;have K:=xY (T:=aM) (bm (s:=s) Y) (lo:=q) (hi:=C.length) U (cz _);refine QM (T:=aM) (s:=s) (j:=q) (z:=(⟨0,0,0⟩:cS)) rfl rfl rfl rfl Y inferInstance U ?_;clear Y L K;intro w Y;have f:(C.take q).length=q:=by rw[jf];omega
   have R':(C.take q++replicate (C.length-q) (⟨0,0,0⟩:cS)).length=C.length:=by rw[length_append,f,np];omega
   refine W ?_;have P:=Y.sub (s:=s) own_here 0 q (br _) (by rw[length_append,f];omega);have e3:cut (C.take q++replicate (C.length-q) (⟨0,0,0⟩:cS)) 0 q=C.take q:=by simp[cut,f]
   rw[e3,<-F]at P;exact bk (v:=ssub s aM.sz 0 q) rfl rfl ⟨_,rfl,P.cq⟩
  rw[aH (fun e=>V e.symm),n]at i;refine W ?_;refine⟨k+1,⟨rfl,au⟩,aV,⟨U,U,?_,Y.cq⟩,U⟩;rw[i,eD aM.dflt A]
 have D:k=xs.length:=U;rw[D,lL]at n;refine W ?_;exact bk (v:=s) rfl rfl ⟨s,rfl,by rw[n];exact Y.cq⟩
def Kz {n:Int}(h:∀ k,0<=k->¬jB c n k):lm c n=false:=by
 unfold lm;rw[pM];rintro⟨k,hk,h1⟩;exact h k hk h1
def Ya {v:Value}{n:Nat}(hc:RS O w0 v c)(hn:n<=4096) :
  Calls aj 174 #[v,E n] w0 fun e w'=>(∃ k,e=.returned (.tuple #[E k,.bool (lm c n)])/\(lm c n=true->k=lW c n/\0<=k/\jB c n k))/\M w0 w' []:=by
 have j':=hc.bT;have Y:=M.start w0;refine bB ao Tryz.func174 ?_;refine aA ?_ ?_<;>intro h1
 ·have f:lm c n=false:=Kz fun k hk h=>h1 h.1
  refine W ?_;exact cX (v:=E 0) (v':=.bool false) rfl rfl rfl ⟨⟨0,by rw[f],fun h=>by rw[f]at h;cases h⟩,Y.bb⟩
 have H':c.length=n:=U;refine lw ?_;intro s w Y;rw[show ((n:Int)).toNat=n from by omega]at Y;refine nE [4,5,7,7,9,9,20,38] (G:=Nat) (H:=Int) (I':=List Bool) (fun k m _=>[(20,E k),(7,E m),(4,E 0),(5,.bool false)]) (fun k m o w=>k<=c.length/\(0<=m/\m<=n)/\(∀ x∈c.take k,0<=x/\x<m)/\(m=0\/m-1∈c.take k)/\o.length=n/\(∀ j:Nat,j<n->(o.getD j ah.dflt=true↔(j:Int)∈c.take k))/\M w0 w [X ah 4 s o]) (fun k _ _=>c.length-k) 0 0 (replicate n false) (fun _ _ _=>rfl) ⟨rfl,rfl,rfl,rfl,au⟩ ⟨br _,⟨du _,U⟩,fun x hx=>by simp at hx,.inl rfl,np,fun j C=>by rw[Hp C];simp,Y⟩ ?_;clear Y;rintro σ k m o w ⟨hk,⟨t,J'⟩,hx,r,D,b,Y⟩;refine aA ?_ ?_<;>intro F
 ·have z:k<c.length:=U
  have d:c.take (k+1)=c.take k++[c.getD k O.dflt]:=eD O.dflt z;have q:c.getD k O.dflt∈c:=cD O.dflt z;refine aA ?_ ?_<;>intro L
  ·have f:lm c n=false:=Kz fun k' an h=>by have:=h.2.1 _ q;omega
   refine W ?_;exact cX (v:=E 0) (v':=.bool false) rfl rfl rfl ⟨⟨0,by rw[f],fun h=>by rw[f]at h;cases h⟩,Y.bb⟩
  obtain⟨Q,K⟩:=L;obtain⟨y,A⟩:=À (c.getD k O.dflt);rw[<-A]at Q K d q;refine eQ ?_;intro w Y;rw[<-A]at Y;refine⟨k+1,max m (y+1),o.set y.toNat true,⟨rfl,by rw[A];show Value.int .i64 _=Value.int .i64 _;congr 1;split<;>omega,rfl,rfl,au⟩,aV,⟨U,⟨U,U⟩,fun x a => ?_,?_,by rw[gS];exact D,fun j C=>?_,Y⟩,U⟩
  ·rw[d,gK,dp]at a
   rcases a with h|h
   ·have:=hx x h;omega
   omega
  ·rw[d,gK,dp]
   by_cases e:m<=y+1
   ·right;right;omega
   rcases r with h|h
   ·omega
   right;left;rw[show max m (y+1)=m from by omega];exact h
  rw[kD,d,gK,dp];by_cases e:y.toNat=j
  ·rw[aP ⟨e,U⟩]
   have:(j:Int)=y:=U;simp[this]
  rw[aH (fun h=>e h.1),b j C];have:¬(j:Int)=y:=U;simp[this]
 have L:k=c.length:=U;rw[L,lL]at hx r b;have R:(cut o 0 m.toNat).length=m.toNat:=by rw[yI U];omega
 have V:=xY (T:=ah) (bm (s:=s) Y) (lo:=0) (hi:=m.toNat) U U;refine W ?_;refine cN [4,5,11,11,43,49] (G:=Nat) (fun k=>[(43,E k),(4,E 0),(5,.bool false)]) (fun k w=>k<=m.toNat/\(∀ i:Nat,i<k->o.getD i ah.dflt=true)/\M w0 w [X ah 4 s o]) (fun k=>m.toNat-k) 0 (fun _=>rfl) ⟨rfl,rfl,rfl,au⟩ ⟨br _,fun i A=>absurd A (dx _),Y⟩ ?_;clear Y V;rintro σ q w ⟨P',d,Y⟩;have V:=xY (T:=ah) (bm (s:=s) Y) (lo:=0) (hi:=m.toNat) U U;refine aA ?_ ?_<;>intro Q
 ·have N:q<m.toNat:=U
  have P:(cut o 0 m.toNat).getD q ah.dflt=o.getD q ah.dflt:=by simp[cut,List.getD,wE,N]
  refine W ?_;rw[P];by_cases z:o.getD q ah.dflt=true
  ·rw[z]
   refine W ?_;refine⟨q+1,⟨rfl,rfl,rfl,au⟩,aV,⟨U,fun i A=>?_,Y⟩,U⟩;by_cases e:i=q
   ·subst e;exact z
   exact d i U
  have f:lm c n=false:=Kz fun k' an h=>z ((b q U).2 (h.2.2.2 _ U (by
   rcases r with F|F
   ·omega
   have:=h.2.2.1 _ F;omega)))
  rw[rX]at z;rw[z];refine W ?_;exact cX (v:=E 0) (v':=.bool false) rfl rfl rfl ⟨⟨0,by rw[f],fun h=>by rw[f]at h;cases h⟩,Y.bb⟩
 have bI:jB c n m:=⟨U,fun x a=>by have:=hx x a;omega,fun x a=>(hx x a).2,fun x N h1=>by
  have K:=(b x.toNat U).1 (d x.toNat U)
  rwa[show ((x.toNat:Nat):Int)=x from by omega]at K⟩
 obtain⟨f,z⟩:=Yb t bI;refine W ?_;exact cX (v:=E m) (v':=.bool true) rfl rfl rfl ⟨⟨m,by rw[f],fun _=>⟨z.symm,t,bI⟩⟩,Y.bb⟩
def Yc {w:World}{Γ:List HP}{s:Value}{xs:List cS}(Y:M w0 w (X aM 190 s xs::Γ))(d:xs.length<=65536) :
  Calls aj 175 #[s] w fun e w'=>∃ b,e=.returned b/\M w0 w' (X aM 190 b (lN (ir ji xs))::Γ):=by
 refine bB ao Tryz.func175 ?_;refine W ?_;refine aU rfl (Yd (s:=s) (xs:=xs) Y U) ?_;rintro _ w' ⟨rfl,a⟩;clear Y;have Y:=a;clear a;refine⟨_,rfl,?_⟩;have f:=Hq wT (l:=xs);refine W ?_;refine aU rfl (X9 (s:=s) (xs:=ir ji xs) Y U) ?_;rintro _ w' ⟨b,rfl,a⟩;clear Y;have Y:=a;clear a;refine⟨_,rfl,?_⟩;refine W ?_;exact bk (v:=b) rfl rfl ⟨b,rfl,Y⟩
def Eb {a b M' N:Int}(d:0<=a)(h1:a<=M')(h2:0<=b)(e:b<=N):0<=a*b/\a*b<=M'*N:=⟨tj d h2,zP h1 e h2 U⟩
def nP (A B:bV)(i j:Nat):List Bool:=(List.range j).map fun j=>A.aR.getD i ah.dflt && B.aR.getD j ah.dflt
def mj (A B:bV)(i:Nat):List Bool:=(List.range i).flatMap fun i=>nP A B i B.st.toNat
def Ye (A B:bV)(i j:Nat):nP A B i (j+1)=nP A B i j++[A.aR.getD i ah.dflt && B.aR.getD j ah.dflt]:=by simp[nP,lz]
def KA (A B:bV)(i:Nat):mj A B (i+1)=mj A B i++nP A B i B.st.toNat:=by simp[mj,lz]
def QN (A B:bV)(i j:Nat):(nP A B i j).length=j:=by simp[nP]
def KB (A B:bV):∀ i,(mj A B i).length=i*B.st.toNat
 | 0=>by simp[mj]
 | i+1=>by rw[KA,length_append,KB A B i,QN,qB,ww]
def lH (A B:bV)(k:Nat):Nat:=((List.range k).map fun l=>((cM A).getD l []).length*((cM B).getD l []).length).foldl (·+·) 0
def Hr (A B:bV)(k:Nat):lH A B (k+1)=lH A B k+((cM A).getD k []).length*((cM B).getD k []).length:=by simp[lH,lz]
def Ht {A B:bV}(a:A.aB.length<=65536)(b:B.aB.length<=65536):∀ k,lH A B k<=k*4294967296
 | 0=>by simp[lH]
 | k+1=>by
  have e:=Ht a b k;have h1:((cM A).getD k []).length<=65536:=oD xZ a;have d:((cM B).getD k []).length<=65536:=oD xZ b;have f:((cM A).getD k []).length*((cM B).getD k []).length<=65536*65536:=xQ h1 d;rw[Hr];omega
def Yf (A B:bV){i j:Nat}(h:i<=j):lH A B i<=lH A B j:=by
 induction j with
 | zero =>
   have:i=0:=U
   subst this;exact cz _
 | succ j a =>
  by_cases e:i=j+1
  ·subst e;exact cz _
  rw[Hr];have:=a U;omega
def zd (B:bV)(l:Nat)(e:cS)(f:cS):cS:=⟨e.ba*B.st+f.ba,l,e.dst*B.st+f.dst⟩
def vz (B:bV)(l:Nat)(e:cS)(k:Nat):List cS:=(((cM B).getD l []).take k).map (zd B l e)
def tu (A B:bV)(l j:Nat):List cS:=(((cM A).getD l []).take j).flatMap fun e=>((cM B).getD l []).map (zd B l e)
def tw (A B:bV)(l:Nat):List cS:=(List.range l).flatMap fun l=>tu A B l ((cM A).getD l []).length
def QO (A B:bV):tw A B A.aT.length=sF A B:=by
 unfold tw sF tu;congr 1
 funext l
 rw[lL];rfl
def QP (A B:bV)(l:Nat):tw A B (l+1)=tw A B l++tu A B l ((cM A).getD l []).length:=by simp[tw,lz]
def QQ {A:bV}{j:Nat}(a:j<((cM A).getD l []).length):tu A B l (j+1)=tu A B l j++vz B l (((cM A).getD l []).getD j aM.dflt) ((cM B).getD l []).length:=by
 unfold tu vz;rw[eD aM.dflt a,wy,lL];simp
def Yg {e:cS}(hk:k<((cM B).getD l []).length):vz B l e (k+1)=vz B l e k++[zd B l e (((cM B).getD l []).getD k aM.dflt)]:=by
 unfold vz;rw[eD aM.dflt hk,pX];rfl
def QR {e:cS}(hk:k<=((cM B).getD l []).length):(vz B l e k).length=k:=by unfold vz;rw[iW,jf];omega
def KC {A B:bV}{l:Nat}:∀ {j:Nat},j<=((cM A).getD l []).length->(tu A B l j).length=j*((cM B).getD l []).length
 | 0,_=>by simp[tu]
 | j+1,h=>by rw[QQ U,length_append,KC U,QR (cz _),qB,ww]
def KD (A B:bV):∀ l,(tw A B l).length=lH A B l
 | 0=>rfl
 | l+1=>by rw[QP,length_append,KD A B l,KC (cz _),Hr]
def Yh {ac ae ag D be F:Value}{A:bV}(hA:cV w0 ac ae ag A)(hB:cV w0 D be F B) :
  Calls aj 117 #[cK A ac ae ag,cK B D be F] w0 fun e w'=>∃ cv ev gv,e=.returned (.tuple #[cK (jk A B) cv ev gv,bO (dA A B)])/\s5 w0 w' cv ev gv (jk A B):=by
 have Y:=M.start w0;have oA:=hA.mh;have oB:=hB.mh;have _n:=hA.aR;have _o:=hB.aR;refine bB ao Tryz.func117 ?_;unfold cK
 repeat (first|refine dB ?_|(refine iy ?_;clear Y;intro p w Y))
 rename_i pa wa L wb;obtain⟨t,rfl⟩:=À p;have Y:M w0 w [ak t 142 [E 0,E 0,nS,nS,nS],ak L 142 [E B.st,E B.bL,D,be,F],ak pa 142 [E A.st,E A.bL,ac,ae,ag]]:=Y;refine aU rfl (D9 (S:=A) (hA.at Y)) ?_;refine j7 ?_;clear Y;intro w' Y;by_cases vA:iS A=true
 case neg =>
  have z:dA A B=2:=by
   have:¬dP A:=fun h=>vA (Ck h);unfold dA;rw[aH (fun h=>this h.1)]
  have Q:jk A B=cA:=by unfold jk;rw[aH (by rw[z];decide)]
  rw[z,Q];rw[rX]at vA;rw[vA];refine W ?_;refine lA (parts:=[]) (vs:=[]) rfl rfl rfl ?_;refine eQ ?_;intro w Y;exact lO (p:=t) (vs:=[E 0,E 0,nS,nS,nS]) rfl rfl (v':=bO 2) (by rw[dq dc];rfl) rfl (fun j v hv=>lM (i:=0) Y rfl hv) ⟨_,_,_,rfl,x6 Y⟩
 rw[vA];refine W ?_;refine aU rfl (D9 (S:=B) (hB.at Y)) ?_;refine j7 ?_;clear Y;intro w' Y;by_cases vB:iS B=true
 case neg =>
  have z:dA A B=2:=by
   have:¬dP B:=fun h=>vB (Ck h);unfold dA;rw[aH (fun h=>this h.2.1)]
  have Q:jk A B=cA:=by unfold jk;rw[aH (by rw[z];decide)]
  rw[z,Q];rw[rX]at vB;rw[vB];refine W ?_;refine lA (parts:=[]) (vs:=[]) rfl rfl rfl ?_;refine eQ ?_;intro w Y;exact lO (p:=t) (vs:=[E 0,E 0,nS,nS,nS]) rfl rfl (v':=bO 2) (by rw[dq dc];rfl) rfl (fun j v hv=>lM (i:=0) Y rfl hv) ⟨_,_,_,rfl,x6 Y⟩
 rw[vB];refine W ?_;refine aU rfl (Do (hA.aT.at Y) (hB.aT.at Y)) ?_;rintro _ w' ⟨⟨eq,rfl,heq⟩,an⟩;refine aI ?_;clear an Y;intro Y
 cases eq with
 | false =>
  have z:dA A B=2:=by
   unfold dA;rw[aH (fun h=>by have:=heq.2 h.2.2;cases this)]
  have Q:jk A B=cA:=by unfold jk;rw[aH (by rw[z];decide)]
  rw[z,Q];refine W ?_;refine lA (parts:=[]) (vs:=[]) rfl rfl rfl ?_;refine eQ ?_;intro w Y
  exact lO (p:=t) (vs:=[E 0,E 0,nS,nS,nS]) rfl rfl (v':=bO 2) (by rw[dq dc];rfl) rfl (fun j v hv=>lM (i:=0) Y rfl hv) ⟨_,_,_,rfl,x6 Y⟩
 | true =>
 have P':=heq.1 rfl;have R':dP A:=nl fun h=>by rw[wc h]at vA;cases vA
 have T':dP B:=nl fun h=>by rw[wc h]at vB;cases vB
 have K:dA A B=if 4096<A.st*B.st then 5 else if 65536<zf A B then 5 else 0:=by unfold dA;rw[aP ⟨R',T',P'⟩]
 obtain⟨a1,a2,a3,a4,a5,a6,a7,_p,V',_⟩:=R';obtain⟨b1,b2,b3,b4,b5,b6,b7,_q,_a,_⟩:=T';have m1:=Eb (a:=A.st) (b:=B.st) (M':=4096) (N:=4096) U a2 U b2;have m2:=Eb (a:=A.bL) (b:=B.st) (M':=4096) (N:=4096) a3 U U b2;obtain⟨m3,m4⟩:=m1;have R:A.aB.length<=65536:=U;have V:B.aB.length<=65536:=U;obtain⟨m5,m6⟩:=m2;have m7 : -9223372036854775808<=A.st*B.st:=U;have m8:A.st*B.st<=9223372036854775807:=U;have m9 : -9223372036854775808<=A.bL*B.st:=U;have m10:A.bL*B.st<=9223372036854775807:=U;refine aA ?_ ?_<;>intro h1
 ·have z:dA A B=5:=by rw[K,aP h1]
  have Q:jk A B=cA:=by unfold jk;rw[aH (by rw[z];decide)]
  rw[z,Q];refine W ?_;refine lA (parts:=[]) (vs:=[]) rfl rfl rfl ?_;refine eQ ?_;intro w Y;exact lO (p:=t) (vs:=[E 0,E 0,nS,nS,nS]) rfl rfl (v':=bO 5) (by rw[dq dc];rfl) rfl (fun j v hv=>lM (i:=0) Y rfl hv) ⟨_,_,_,rfl,x6 Y⟩
 rw[aH U]at K;refine W ?_;refine th [6,6,44,60] (G:=Addr × Value) (fun x=>[(6,.pointer (some x.1))]) (fun x w=>M w0 w [ak x.1 142 [E (A.st*B.st),E (A.bL*B.st+B.bL),x.2,nS,nS],X O 3 x.2 A.aT,ak t 142 [E 0,E 0,nS,nS,nS],ak L 142 [E B.st,E B.bL,D,be,F],ak pa 142 [E A.st,E A.bL,ac,ae,ag]]) (fun _=>rfl) ?_ ?_
 ·refine xL (.s [0,2,5,7,10,13,1,3,4,6,8,9,11,12,14] (.d 15 [1,3,6,8,11] (.d 16 [] (.c 17 [1,3,6,8,11,14] (.s [18] (.j6 []))) (.d 17 [1,3,6,8,11,14] (.s [16,18] (.j6 [])) (.stop))) (.d 17 [1,3,6,8,11,14] (.c 15 [1,3,6,8,11] (.s [16,18] (.j6 []))) (.stop)))) Y kr kr ?_;clear Y;intro w Y
  refine W ?_;refine jF ?_ (jF ?_ qt)
  ·refine W ?_
   refine aU rfl (nH (hA.aT.at Y) U) ?_;rintro _ w' ⟨q,rfl,an⟩;refine aL ?_;clear an Y;intro Y;refine W ?_;refine jF ?_ (jF ?_ qt)
   ·refine W ?_
    have r:=(bm (s:=q) Y).one;refine lA (parts:=[(0,.tmp 48),(1,.tmp 56),(2,.tmp 59)]) (vs:=[(0,E (A.st*B.st)),(1,E (A.bL*B.st+B.bL)),(2,q)]) rfl rfl (by simp only[ew,eN,r];rfl) ?_;refine c9 ?_;intro p w Y;have r:=(bm (s:=q) Y).one;refine jH (n:=5) (p:=p) (vs:=[E (A.st*B.st),E (A.bL*B.st+B.bL),q,nS,nS]) rfl rfl Y inferInstance rfl rfl (by simp only[ew,eN,r];rfl) ?_;clear Y;intro w Y;refine W ?_;exact⟨(p,q),⟨rfl,au⟩,aV,Y.bb⟩
   refine c9 ?_;intro p w Y;have r:=(bm (s:=q) Y).one;refine lA (parts:=[(0,.tmp 48),(1,.tmp 56),(2,.tmp 59)]) (vs:=[(0,E (A.st*B.st)),(1,E (A.bL*B.st+B.bL)),(2,q)]) rfl rfl (by simp only[ew,eN,r];rfl) ?_;refine W ?_;have r:=(bm (s:=q) Y).one;refine jH (n:=5) (p:=p) (vs:=[E (A.st*B.st),E (A.bL*B.st+B.bL),q,nS,nS]) rfl rfl Y inferInstance rfl rfl (by simp only[ew,eN,r];rfl) ?_;clear Y;intro w Y;refine W ?_;exact⟨(p,q),⟨rfl,au⟩,aV,Y.bb⟩
  refine c9 ?_;intro p w Y;refine aU rfl (nH (hA.aT.at Y) U) ?_;rintro _ w' ⟨q,rfl,an⟩;refine aL ?_;clear an Y;intro Y;refine W ?_;have r:=(bm (s:=q) Y).one;refine lA (parts:=[(0,.tmp 48),(1,.tmp 56),(2,.tmp 59)]) (vs:=[(0,E (A.st*B.st)),(1,E (A.bL*B.st+B.bL)),(2,q)]) rfl rfl (by simp only[ew,eN,r];rfl) ?_;refine W ?_;have r:=(bm (s:=q) Y).one;refine jH (n:=5) (p:=p) (vs:=[E (A.st*B.st),E (A.bL*B.st+B.bL),q,nS,nS]) rfl rfl Y inferInstance rfl rfl (by simp only[ew,eN,r];rfl) ?_;clear Y;intro w Y;refine W ?_;exact⟨(p,q),⟨rfl,au⟩,aV,Y.bb⟩
 clear Y;rintro σ ⟨P,q⟩ w Y
 dsimp only at Y
 refine W ?_;have Y:M w0 w [ak P 142 [E (A.st*B.st),E (A.bL*B.st+B.bL),q,nS,nS],X ah 4 (nS) (mj A B 0),X O 3 q A.aT,ak t 142 [E 0,E 0,nS,nS,nS],ak L 142 [E B.st,E B.bL,D,be,F],ak pa 142 [E A.st,E A.bL,ac,ae,ag]]:=by rw[show mj A B 0=[] from rfl];exact(Y.nil (T:=ah) (e:=4)).bb
 refine dN [7,8,63,89] (G:=Nat) (H:=Value) (fun i gv=>[(63,E i)]) (fun i gv w=>(i:Int)<=A.st/\M w0 w [ak P 142 [E (A.st*B.st),E (A.bL*B.st+B.bL),q,nS,gv],X ah 4 gv (mj A B i),X O 3 q A.aT,ak t 142 [E 0,E 0,nS,nS,nS],ak L 142 [E B.st,E B.bL,D,be,F],ak pa 142 [E A.st,E A.bL,ac,ae,ag]]) (fun i _=>A.st.toNat-i) 0 (nS) (fun _ _=>rfl) ⟨rfl,au⟩ ⟨U,Y⟩ ?_;clear Y;rintro σ i gv w ⟨hi,Y⟩;refine aA ?_ ?_<;>intro h2
 ·refine W ?_
  have Y:M w0 w [ak P 142 [E (A.st*B.st),E (A.bL*B.st+B.bL),q,nS,gv],X ah 4 gv (mj A B i++nP A B i 0),X O 3 q A.aT,ak t 142 [E 0,E 0,nS,nS,nS],ak L 142 [E B.st,E B.bL,D,be,F],ak pa 142 [E A.st,E A.bL,ac,ae,ag]]:=by
   rw[show nP A B i 0=[] from rfl,fI];exact Y
  refine dN [8,8,68,88] (G:=Nat) (H:=Value) (fun j gv=>[(68,E j)]) (fun j gv w=>(j:Int)<=B.st/\M w0 w [ak P 142 [E (A.st*B.st),E (A.bL*B.st+B.bL),q,nS,gv],X ah 4 gv (mj A B i++nP A B i j),X O 3 q A.aT,ak t 142 [E 0,E 0,nS,nS,nS],ak L 142 [E B.st,E B.bL,D,be,F],ak pa 142 [E A.st,E A.bL,ac,ae,ag]]) (fun j _=>B.st.toNat-j) 0 gv (fun _ _=>rfl) ⟨rfl,au⟩ ⟨U,Y⟩ ?_;clear Y;rintro σ j gv w ⟨hj,Y⟩;refine aA ?_ ?_<;>intro h3
  ·have r:=KB A B i
   have _b:=QN A B i j;have C:i*B.st.toNat<=4096*4096:=xQ U U;have y:(mj A B i++nP A B i j).length<=20000000:=by rw[length_append,r,_b];omega
   refine W ?_;refine fQ (pl [0,1,2,3,4,5,6,7,8,9,10,11,12,13,14] (.cJ 1::pl [15,16,17] [])) Y kr ?_;clear Y;intro w Y
   repeat refine dB ?_
   refine jG ah (x1:=A.aR.getD i ah.dflt && B.aR.getD j ah.dflt) rfl rfl rfl (fX rfl) (fb _) Y ?_;clear Y;intro s2 w Y;refine ot ?_;intro s w Y;refine⟨j+1,s,⟨rfl,au⟩,aV,⟨U,?_⟩,U⟩;rw[Ye,<-fG];simp only[mM,mJ]at Y;exact Y.bb
  have j':j=B.st.toNat:=U;subst j';refine W ?_;exact⟨i+1,gv,⟨rfl,au⟩,aV,⟨U,by rw[KA];exact Y.bb⟩,U⟩
 have _j:i=A.st.toNat:=U;subst _j;have _k:mj A B A.st.toNat=mX A B:=rfl;rw[_k]at Y;refine W ?_;refine fQ (pl [0,2,1] (.cJ 2::pl [3,4,5] [])) Y kr ?_;clear Y;intro w Y;refine W ?_;refine aU rfl (QS (S:=A) (hA.at Y) U U (fun e he=>(V' e he).2.2)) ?_;rintro _ w' ⟨lv,ls,rfl,an⟩;refine iL ?_;clear an Y;intro Y;refine W ?_;refine aU rfl (QS (S:=B) (hB.at Y) U U (fun e he=>(_a e he).2.2)) ?_;rintro _ w' ⟨rv,rs,rfl,an⟩;refine iL ?_;clear an Y;intro Y;have _r:(cM A).length=A.aT.length:=yK;have _s:(cM B).length=B.aT.length:=yK;have Y:M w0 w' [ak P 142 [E (A.st*B.st),E (A.bL*B.st+B.bL),q,nS,gv],X aM 190 (nS) (tw A B 0),ai aM 190 ls (cM A),X ar 139 lv ls,ai aM 190 rs (cM B),X ar 139 rv rs,X ah 4 gv (mX A B),X O 3 q A.aT,ak t 142 [E 0,E 0,nS,nS,nS],ak L 142 [E B.st,E B.bL,D,be,F]]:=by rw[show tw A B 0=[] from rfl];exact(Y.nil (T:=aM) (e:=190)).bb
 have _t:=(Y.bJ 2 rfl).bP;have _b:=(Y.bJ 4 rfl).bP;have _u:B.aT.length=A.aT.length:=by rw[P']
 obtain⟨w,rfl⟩:=À w';refine W ?_;refine cN [11,12,96,112] (G:=Nat) (fun k=>[(96,E k),(11,E (lH A B k))]) (fun k w=>k<=A.aT.length/\M w0 w [ak P 142 [E (A.st*B.st),E (A.bL*B.st+B.bL),q,nS,gv],X aM 190 (nS) (tw A B 0),ai aM 190 ls (cM A),X ar 139 lv ls,ai aM 190 rs (cM B),X ar 139 rv rs,X ah 4 gv (mX A B),X O 3 q A.aT,ak t 142 [E 0,E 0,nS,nS,nS],ak L 142 [E B.st,E B.bL,D,be,F]]) (fun k=>A.aT.length-k) 0 (fun _=>rfl) ⟨rfl,rfl,au⟩ ⟨br _,Y⟩ ?_;clear Y;rintro σ k w ⟨hk,Y⟩;refine aA ?_ ?_<;>intro h4
 ·have H':k<A.aT.length:=U
  have hM:=Ht R V k;have J':=Ht R V (k+1);have C:=Hr A B k;have g1:((cM A).getD k []).length<=65536:=oD xZ R;have g2:((cM B).getD k []).length<=65536:=oD xZ V;have g3:=Eb (a:=(((cM A).getD k []).length:Int)) (b:=(((cM B).getD k []).length:Int)) (M':=65536) (N:=65536) U U U U;obtain⟨g4,g5⟩:=g3;have g6 : -9223372036854775808<=(((cM A).getD k []).length:Int)*(((cM B).getD k []).length:Int):=U;have g7:(((cM A).getD k []).length:Int)*(((cM B).getD k []).length:Int)<=9223372036854775807:=U;refine W ?_;refine r5 ?_;clear Y;intro w Y;have y:=(Y.bJ 2 rfl).row (i:=k) U;have r:=(Y.bJ 4 rfl).row (i:=k) U;refine W ?_;exact⟨k+1,⟨rfl,by show Value.int .i64 _=Value.int .i64 _;rw[C,B7,JV],au⟩,aV,⟨U,Y.bb⟩,U⟩
 have J':k=A.aT.length:=U;subst J';have _v:=Ht R V A.aT.length;have _l:zf A B=lH A B A.aT.length:=rfl;rw[_l]at K;refine aA ?_ ?_<;>intro h5
 ·have z:dA A B=5:=by rw[K,aP U]
  have Q:jk A B=cA:=by unfold jk;rw[aH (by rw[z];decide)]
  rw[z,Q];refine W ?_;refine lA (parts:=[]) (vs:=[]) rfl rfl rfl ?_;refine eQ ?_;intro w Y;exact lO (p:=t) (vs:=[E 0,E 0,nS,nS,nS]) rfl rfl (v':=bO 5) (by rw[dq dc];rfl) rfl (fun j v hv=>lM (i:=8) Y rfl hv) ⟨_,_,_,rfl,x6 Y⟩
 rw[aH U]at K;have Q:jk A B=⟨A.st*B.st,A.bL*B.st+B.bL,A.aT,ir ji (sF A B),mX A B⟩:=by unfold jk;rw[aP K]
 refine W ?_;refine dN [13,13,15,15,17,17,119,165] (G:=Nat) (H:=Value) (fun l ev=>[(119,E l)]) (fun l ev w=>l<=A.aT.length/\M w0 w [ak P 142 [E (A.st*B.st),E (A.bL*B.st+B.bL),q,ev,gv],X aM 190 ev (tw A B l),ai aM 190 ls (cM A),X ar 139 lv ls,ai aM 190 rs (cM B),X ar 139 rv rs,X ah 4 gv (mX A B),X O 3 q A.aT,ak t 142 [E 0,E 0,nS,nS,nS],ak L 142 [E B.st,E B.bL,D,be,F]]) (fun l _=>A.aT.length-l) 0 (nS) (fun _ _=>rfl) ⟨rfl,au⟩ ⟨br _,Y⟩ ?_;clear Y;rintro σ l ev w ⟨hl,Y⟩;refine aA ?_ ?_<;>intro h6
 ·have _c:l<A.aT.length:=U
  have y:=(Y.bJ 2 rfl).row (i:=l) U;obtain⟨LA,C⟩:=À ((cM A).getD l []);have _d:∀ e∈LA,e∈A.aB:=fun e he=>((Ad (g:=fun e:cS=>e.cG) (l:=A.aB) _c).1 (by rw[C]at he;exact he)).1;have _m:LA.length<=65536:=by rw[C];exact oD xZ R
  rw[<-C]at y;refine W ?_;have Y:M w0 w [ak P 142 [E (A.st*B.st),E (A.bL*B.st+B.bL),q,ev,gv],X aM 190 ev (tw A B l++tu A B l 0),ai aM 190 ls (cM A),X ar 139 lv ls,ai aM 190 rs (cM B),X ar 139 rv rs,X ah 4 gv (mX A B),X O 3 q A.aT,ak t 142 [E 0,E 0,nS,nS,nS],ak L 142 [E B.st,E B.bL,D,be,F]]:=by rw[show tu A B l 0=[] from rfl,fI];exact Y
  refine dN [15,15,17,17,127,164] (G:=Nat) (H:=Value) (fun j ev=>[(127,E j)]) (fun j ev w=>j<=LA.length/\M w0 w [ak P 142 [E (A.st*B.st),E (A.bL*B.st+B.bL),q,ev,gv],X aM 190 ev (tw A B l++tu A B l j),ai aM 190 ls (cM A),X ar 139 lv ls,ai aM 190 rs (cM B),X ar 139 rv rs,X ah 4 gv (mX A B),X O 3 q A.aT,ak t 142 [E 0,E 0,nS,nS,nS],ak L 142 [E B.st,E B.bL,D,be,F]]) (fun j _=>LA.length-j) 0 ev (fun _ _=>rfl) ⟨rfl,au⟩ ⟨br _,Y⟩ ?_;clear Y y;rintro σ j ev w ⟨hj,Y⟩;have y:=(Y.bJ 2 rfl).row (i:=l) U;rw[<-C]at y;refine aA ?_ ?_<;>intro h7
  ·have _e:j<LA.length:=U
   obtain⟨e,he⟩:=À (LA.getD j aM.dflt);have _f:=_d _ (cD aM.dflt _e);rw[<-he]at _f;obtain⟨⟨e1,e2⟩,⟨e3,e4⟩,_⟩:=V' e _f;refine c9 ?_;intro pe w Y;have Y:M w0 w [ak pe 190 [E e.ba,E e.cG,E e.dst],ak P 142 [E (A.st*B.st),E (A.bL*B.st+B.bL),q,ev,gv],X aM 190 ev (tw A B l++tu A B l j++vz B l e 0),ai aM 190 ls (cM A),X ar 139 lv ls,ai aM 190 rs (cM B),X ar 139 rv rs,X ah 4 gv (mX A B),X O 3 q A.aT,ak t 142 [E 0,E 0,nS,nS,nS],ak L 142 [E B.st,E B.bL,D,be,F]]:=by rw[he,show vz B l (LA.getD j aM.dflt) 0=[] from rfl,fI];exact Y
   have r:=(Y.bJ 5 rfl).row (i:=l) U;obtain⟨LB,z⟩:=À ((cM B).getD l []);have _g:∀ e∈LB,e∈B.aB:=fun e he=>((Ad (g:=fun e:cS=>e.cG) (l:=B.aB) (x:=l) (n:=B.aT.length) U).1 (by rw[z]at he;exact he)).1;have _h:LB.length<=65536:=by rw[z];exact oD xZ V
   rw[<-z]at r;refine W ?_;refine dN [17,17,136,163] (G:=Nat) (H:=Value) (fun k ev=>[(136,E k)]) (fun k ev w=>k<=LB.length/\M w0 w [ak pe 190 [E e.ba,E e.cG,E e.dst],ak P 142 [E (A.st*B.st),E (A.bL*B.st+B.bL),q,ev,gv],X aM 190 ev (tw A B l++tu A B l j++vz B l e k),ai aM 190 ls (cM A),X ar 139 lv ls,ai aM 190 rs (cM B),X ar 139 rv rs,X ah 4 gv (mX A B),X O 3 q A.aT,ak t 142 [E 0,E 0,nS,nS,nS],ak L 142 [E B.st,E B.bL,D,be,F]]) (fun k _=>LB.length-k) 0 ev (fun _ _=>rfl) ⟨rfl,au⟩ ⟨br _,Y⟩ ?_;clear Y y r;rintro σ k ev w ⟨hk,Y⟩;have r:=(Y.bJ 5 rfl).row (i:=l) U;rw[<-z]at r;refine aA ?_ ?_<;>intro h8
   ·have H':k<LB.length:=U
    obtain⟨f,hf⟩:=À (LB.getD k aM.dflt);have _i:=_g _ (cD aM.dflt H');rw[<-hf]at _i;obtain⟨⟨f1,f2⟩,⟨f3,f4⟩,_⟩:=_a f _i;refine c9 ?_;intro p w Y;have Y:M w0 w [ak p 190 [E f.ba,E f.cG,E f.dst],ak pe 190 [E e.ba,E e.cG,E e.dst],ak P 142 [E (A.st*B.st),E (A.bL*B.st+B.bL),q,ev,gv],X aM 190 ev (tw A B l++tu A B l j++vz B l e k),ai aM 190 ls (cM A),X ar 139 lv ls,ai aM 190 rs (cM B),X ar 139 rv rs,X ah 4 gv (mX A B),X O 3 q A.aT,ak t 142 [E 0,E 0,nS,nS,nS],ak L 142 [E B.st,E B.bL,D,be,F]]:=by rw[hf];exact Y
    have n1:=Eb (a:=e.ba) (b:=B.st) (M':=4096) (N:=4096) e1 U U b2;have n2:=Eb (a:=e.dst) (b:=B.st) (M':=4096) (N:=4096) e3 U U b2;obtain⟨n3,n4⟩:=n1;obtain⟨n5,n6⟩:=n2;have n7 : -9223372036854775808<=e.ba*B.st:=U;have n8:e.ba*B.st<=9223372036854775807:=U;have n9 : -9223372036854775808<=e.dst*B.st:=U;have n10:e.dst*B.st<=9223372036854775807:=U
    repeat refine dB ?_
    have q1:=KD A B l;have q2:=Yf A B hl;have q3:(tu A B l j).length<=65536*65536:=by
     rw[KC (by rw[<-C];omega),<-z];exact xQ U _h
    have q4:(vz B l e k).length=k:=QR (by rw[<-z];exact hk);have q5:(tw A B l++tu A B l j++vz B l e k).length<=5000000000:=by rw[length_append,length_append,q1,q4];omega
    refine jG aM (x1:=⟨e.ba*B.st+f.ba,(l:Int),e.dst*B.st+f.dst⟩) rfl rfl rfl (fX rfl) (fb _) Y ?_;clear Y r;intro s2 w Y;refine ot ?_;intro s w Y;simp only[mM,mJ]at Y;refine⟨k+1,s,⟨rfl,au⟩,aV,⟨U,?_⟩,U⟩;rw[Yg (by rw[<-z];exact H'),<-fG,<-z,<-hf];unfold zd;exact Y.bb
   have J':k=LB.length:=U;subst J';refine W ?_;refine⟨j+1,ev,⟨rfl,au⟩,aV,⟨U,?_⟩,U⟩;rw[QQ (by rw[<-C];exact _e),<-fG,<-C,<-he,<-z];exact Y.bb
  have j':j=LA.length:=U;subst j';refine W ?_;refine⟨l+1,ev,⟨rfl,au⟩,aV,⟨U,?_⟩,U⟩;rw[QP,<-C];exact Y.bb
 have y:l=A.aT.length:=U;subst y;rw[QO]at Y;have hlen:(sF A B).length<=65536:=by rw[<-QO,KD];omega
 refine W ?_;have Y:M w0 w [X aM 190 ev (sF A B),ak P 142 [E (A.st*B.st),E (A.bL*B.st+B.bL),q,ev,gv],X ah 4 gv (mX A B),X O 3 q A.aT,ak t 142 [E 0,E 0,nS,nS,nS]]:=Y.bb;refine aU rfl (Yi (s:=ev) (xs:=sF A B) Y U) ?_;rintro _ w' ⟨rfl,r⟩;clear Y;have Y:=r;clear r;refine⟨_,rfl,?_⟩;rw[K,Q];have z:=(bm (s:=ev) Y).one;have C:=(bm (s:=gv) Y).one;have o3:=(bm (s:=q) Y).one;refine W ?_;refine jH (n:=5) (p:=t) (vs:=[E (A.st*B.st),E (A.bL*B.st+B.bL),q,ev,gv]) rfl rfl Y inferInstance rfl rfl (by simp only[ew,eN,z,C,o3];rfl) ?_;clear Y;intro w Y;refine W ?_;refine lO (p:=t) (vs:=[E (A.st*B.st),E (A.bL*B.st+B.bL),q,ev,gv]) rfl rfl (v':=bO 0) (by rw[gy rfl];rfl) rfl (fun j v hv=>lM (i:=4) Y rfl hv) ⟨q,ev,gv,rfl,?_⟩;exact Y.bb
def ic (g:List Bool)(c:J)(k m:Nat):List Bool:=(List.range k).map fun (x:Nat)=>(List.range m).any fun s=>decide (c.getD s O.dflt=(x:Int)) && g.getD s ah.dflt
def Ec:(ic g c k m).length=k:=by simp[ic]
def Yj:ic g c k 0=replicate k false:=by
 apply iA (by simp[ic]);intro i h1 a;simp[ic]
def Hu {i:Nat}(hi:i<k):(ic g c k m).getD i ah.dflt=(List.range m).any fun s=>decide (c.getD s O.dflt=(i:Int)) && g.getD s ah.dflt:=by
 unfold ic;rw[iB,tq,GA hi];rfl
def Yk (q:0<=c.getD m O.dflt)(h1:c.getD m O.dflt<k) :
  ic g c k (m+1)=(ic g c k m).set (c.getD m O.dflt).toNat ((ic g c k m).getD (c.getD m O.dflt).toNat ah.dflt || g.getD m ah.dflt):=by
 apply iA (by rw[gS,Ec,Ec]);intro i f j;have a:i<k:=by rwa[Ec]at f
 have n:(ic g c k (m+1))[i]=(ic g c k (m+1)).getD i ah.dflt:=(al f).symm;have a2:=(al (d:=ah.dflt) j).symm;rw[n,a2,kD,Ec,Hu a,lz,any_append];simp only[any_cons,any_nil,J9];by_cases e:(c.getD m O.dflt).toNat=i
 ·have b:c.getD m O.dflt=(i:Int):=U
  rw[aP ⟨e,a⟩,e,Hu a,b];simp only[decide_true,CA]
 have b:¬c.getD m O.dflt=(i:Int):=U;rw[aH (fun h=>e h.1),Hu a];simp only[b,decide_false,Bj,J9]
def QT {cl:Value}(z:cV w0 u o sg S)(hv:dP S)(hc:RS O w0 cl c) :
  Calls aj 149 #[cK S u o sg,cl] w0 fun e w'=>∃ cv ev gv,e=.returned (.tuple #[cK (kE S c) cv ev gv,bO (fz S c)])/\s5 w0 w' cv ev gv (kE S c):=by
 have Y:=M.start w0;have oS:=z.mh;have R':=z.aR;have T':=z.aB;have D:=Ck hv;obtain⟨a1,a2,a3,a4,a5,a6,a7,V',N,_⟩:=id hv;obtain⟨n,t⟩:∃ n:Nat,S.st=(n:Int):=⟨S.st.toNat,U⟩
 refine bB ao Tryz.func149 ?_;unfold cK;rw[t]at oS ⊢
 repeat (first|refine dB ?_|(refine iy ?_;clear Y;intro p w Y))
 rename_i A ws;obtain⟨y,rfl⟩:=À p;have Y:M w0 w [ak y 142 [E 0,E 0,nS,nS,nS],ak A 142 [E n,E S.bL,u,o,sg]]:=Y;refine aU rfl (Ya (n:=n) (hc.at Y) U) ?_;rintro _ w' ⟨⟨f,rfl,P⟩,an⟩;refine aI ?_;clear an Y;intro Y;refine W ?_;refine aU rfl (by have:=D9 (S:=S) (z.at Y);unfold cK at this;rw[t]at this;exact this) ?_;refine j7 ?_;clear Y;intro w' Y;rw[D];by_cases r:lm c n=true
 case neg =>
  have F:fz S c=2:=by unfold fz;rw[t,aH (fun h=>r h.2)]
  have Q:kE S c=cA:=by unfold kE;rw[aH (by rw[F];decide)]
  rw[F,Q];rw[rX]at r;rw[r];refine W ?_;refine lA (parts:=[]) (vs:=[]) rfl rfl rfl ?_;refine eQ ?_;intro w Y;exact lO (p:=y) (vs:=[E 0,E 0,nS,nS,nS]) rfl rfl (v':=bO 2) (by rw[dq dc];rfl) rfl (fun j v hv=>lM (i:=0) Y rfl hv) ⟨_,_,_,rfl,x6 Y⟩
 rw[r];obtain⟨R,_a,bI⟩:=P r;have F:fz S c=0:=by unfold fz;rw[t,aP ⟨D,r⟩]
 have Q:kE S c=⟨f,c.getD S.bL.toNat O.dflt,S.aT,lN (ir ji (S.aB.map (rq c))),sG S.aR c f.toNat⟩:=by unfold kE;rw[aP F,t,<-R]
 rw[F,Q];obtain⟨k1,k2,k3,k4⟩:=bI;have _b:f<=n:=by
  rcases Int.lt_or_le (n:Int) f with h|h
  ·have:=(k2 _ (k4 n U h)).2;omega
  exact h
 have V:∀ i:Nat,i<n->0<=c.getD i O.dflt/\c.getD i O.dflt<f:=fun i hi=>by
  have hm:c.getD i O.dflt∈c:=cD O.dflt U;exact⟨(k2 _ hm).1,k3 _ hm⟩
 refine W ?_;refine th [8,8,29,40] (G:=Addr × Value × Value) (fun x=>[(8,.pointer (some x.1))]) (fun x w=>M w0 w [ak x.1 142 [E f,E (c.getD S.bL.toNat O.dflt),x.2.1,nS,x.2.2],X ah 4 x.2.2 (replicate f.toNat false),X O 3 x.2.1 S.aT,ak y 142 [E 0,E 0,nS,nS,nS],ak A 142 [E n,E S.bL,u,o,sg]]) (fun _=>rfl) ?_ ?_
 ·refine xL (.s [0,1,2,6,9,3,4,5,7] (.d 8 [3,5] (.d 10 [3,5,7] (.d 11 [] (.c 12 [3,5,7] (.s [13] (.j6 []))) (.d 12 [3,5,7] (.s [11,13] (.j6 [])) (.stop))) (.d 12 [3,5,7] (.c 10 [3,5,7] (.s [11,13] (.j6 []))) (.stop))) (.d 10 [3,5,7] (.d 8 [3,5] (.d 11 [] (.c 12 [3,5,7] (.s [13] (.j6 []))) (.d 12 [3,5,7] (.s [11,13] (.j6 [])) (.stop))) (.d 12 [3,5,7] (.c 8 [3,5] (.s [11,13] (.j6 []))) (.stop))) (.d 12 [3,5,7] (.d 8 [3,5] (.c 10 [3,5,7] (.s [11,13] (.j6 []))) (.d 10 [3,5,7] (.c 8 [3,5] (.s [11,13] (.j6 []))) (.stop))) (.stop))))) Y kr kr ?_;clear Y;intro w Y
  refine W ?_;refine jF ?_ (jF ?_ (jF ?_ qt))
  ·refine W ?_
   refine aU rfl (nH (z.aT.at Y) U) ?_;rintro _ w' ⟨b,rfl,an⟩;refine aL ?_;clear an Y;intro Y;refine W ?_;refine jF ?_ (jF ?_ qt)
   ·refine ot ?_;intro s w Y
    refine jF ?_ (jF ?_ qt)
    ·refine W ?_
     refine lA (parts:=[(0,.tmp 29),(1,.tmp 34),(2,.tmp 37),(4,.tmp 39)]) (vs:=[(0,E f),(1,E (c.getD S.bL.toNat O.dflt)),(2,b),(4,s)]) rfl rfl (by simp only[ew,eN,(bm (s:=b) Y).one,(bm (s:=s) Y).one];rfl) ?_;refine c9 ?_;intro p w Y;refine jH (n:=5) (p:=p) (vs:=[E f,E (c.getD S.bL.toNat O.dflt),b,nS,s]) rfl rfl Y inferInstance rfl rfl (by simp only[ew,eN,(bm (s:=b) Y).one,(bm (s:=s) Y).one];rfl) ?_;clear Y;intro w Y;refine W ?_;exact⟨(p,b,s),⟨rfl,au⟩,aV,Y.bb⟩
    refine c9 ?_;intro p w Y;refine lA (parts:=[(0,.tmp 29),(1,.tmp 34),(2,.tmp 37),(4,.tmp 39)]) (vs:=[(0,E f),(1,E (c.getD S.bL.toNat O.dflt)),(2,b),(4,s)]) rfl rfl (by simp only[ew,eN,(bm (s:=b) Y).one,(bm (s:=s) Y).one];rfl) ?_;refine W ?_;refine jH (n:=5) (p:=p) (vs:=[E f,E (c.getD S.bL.toNat O.dflt),b,nS,s]) rfl rfl Y inferInstance rfl rfl (by simp only[ew,eN,(bm (s:=b) Y).one,(bm (s:=s) Y).one];rfl) ?_;clear Y;intro w Y;refine W ?_;exact⟨(p,b,s),⟨rfl,au⟩,aV,Y.bb⟩
   repeat (first|refine dB ?_|(refine iy ?_;clear Y;intro p w Y)|(refine fR ?_;clear Y;intro s w Y))
   refine lA (parts:=[(0,.tmp 29),(1,.tmp 34),(2,.tmp 37),(4,.tmp 39)]) (vs:=[(0,E f),(1,E (c.getD S.bL.toNat O.dflt)),(2,b),(4,s)]) rfl rfl (by simp only[ew,eN,(bm (s:=b) Y).one,(bm (s:=s) Y).one];rfl) ?_;refine W ?_;refine jH (n:=5) (p:=p) (vs:=[E f,E (c.getD S.bL.toNat O.dflt),b,nS,s]) rfl rfl Y inferInstance rfl rfl (by simp only[ew,eN,(bm (s:=b) Y).one,(bm (s:=s) Y).one];rfl) ?_;clear Y;intro w Y;refine W ?_;exact⟨(p,b,s),⟨rfl,au⟩,aV,Y.bb⟩
  ·refine ot ?_;intro s w Y
   refine jF ?_ (jF ?_ qt)
   ·refine W ?_
    refine aU rfl (nH (z.aT.at Y) U) ?_;rintro _ w' ⟨b,rfl,an⟩;refine aL ?_;clear an Y;intro Y;refine W ?_;refine jF ?_ (jF ?_ qt)
    ·refine W ?_
     refine lA (parts:=[(0,.tmp 29),(1,.tmp 34),(2,.tmp 37),(4,.tmp 39)]) (vs:=[(0,E f),(1,E (c.getD S.bL.toNat O.dflt)),(2,b),(4,s)]) rfl rfl (by simp only[ew,eN,(bm (s:=b) Y).one,(bm (s:=s) Y).one];rfl) ?_;refine c9 ?_;intro p w Y;refine jH (n:=5) (p:=p) (vs:=[E f,E (c.getD S.bL.toNat O.dflt),b,nS,s]) rfl rfl Y inferInstance rfl rfl (by simp only[ew,eN,(bm (s:=b) Y).one,(bm (s:=s) Y).one];rfl) ?_;clear Y;intro w Y;refine W ?_;exact⟨(p,b,s),⟨rfl,au⟩,aV,Y.bb⟩
    refine c9 ?_;intro p w Y;refine lA (parts:=[(0,.tmp 29),(1,.tmp 34),(2,.tmp 37),(4,.tmp 39)]) (vs:=[(0,E f),(1,E (c.getD S.bL.toNat O.dflt)),(2,b),(4,s)]) rfl rfl (by simp only[ew,eN,(bm (s:=b) Y).one,(bm (s:=s) Y).one];rfl) ?_;refine W ?_;refine jH (n:=5) (p:=p) (vs:=[E f,E (c.getD S.bL.toNat O.dflt),b,nS,s]) rfl rfl Y inferInstance rfl rfl (by simp only[ew,eN,(bm (s:=b) Y).one,(bm (s:=s) Y).one];rfl) ?_;clear Y;intro w Y;refine W ?_;exact⟨(p,b,s),⟨rfl,au⟩,aV,Y.bb⟩
   refine c9 ?_;intro p w Y;refine aU rfl (nH (z.aT.at Y) U) ?_;rintro _ w' ⟨b,rfl,an⟩;refine aL ?_;clear an Y;intro Y;refine W ?_;refine lA (parts:=[(0,.tmp 29),(1,.tmp 34),(2,.tmp 37),(4,.tmp 39)]) (vs:=[(0,E f),(1,E (c.getD S.bL.toNat O.dflt)),(2,b),(4,s)]) rfl rfl (by simp only[ew,eN,(bm (s:=b) Y).one,(bm (s:=s) Y).one];rfl) ?_;refine W ?_;refine jH (n:=5) (p:=p) (vs:=[E f,E (c.getD S.bL.toNat O.dflt),b,nS,s]) rfl rfl Y inferInstance rfl rfl (by simp only[ew,eN,(bm (s:=b) Y).one,(bm (s:=s) Y).one];rfl) ?_;clear Y;intro w Y;refine W ?_;exact⟨(p,b,s),⟨rfl,au⟩,aV,Y.bb⟩
  refine c9 ?_;intro p w Y;refine jF ?_ (jF ?_ qt)
  ·refine W ?_
   refine aU rfl (nH (z.aT.at Y) U) ?_;rintro _ w' ⟨b,rfl,an⟩;refine aL ?_;clear an Y;intro Y;refine ot ?_;intro s w Y;refine lA (parts:=[(0,.tmp 29),(1,.tmp 34),(2,.tmp 37),(4,.tmp 39)]) (vs:=[(0,E f),(1,E (c.getD S.bL.toNat O.dflt)),(2,b),(4,s)]) rfl rfl (by simp only[ew,eN,(bm (s:=b) Y).one,(bm (s:=s) Y).one];rfl) ?_;refine W ?_;refine jH (n:=5) (p:=p) (vs:=[E f,E (c.getD S.bL.toNat O.dflt),b,nS,s]) rfl rfl Y inferInstance rfl rfl (by simp only[ew,eN,(bm (s:=b) Y).one,(bm (s:=s) Y).one];rfl) ?_;clear Y;intro w Y;refine W ?_;exact⟨(p,b,s),⟨rfl,au⟩,aV,Y.bb⟩
  refine ot ?_;intro s w Y;refine aU rfl (nH (z.aT.at Y) U) ?_;rintro _ w' ⟨b,rfl,an⟩;refine aL ?_;clear an Y;intro Y;refine W ?_;refine lA (parts:=[(0,.tmp 29),(1,.tmp 34),(2,.tmp 37),(4,.tmp 39)]) (vs:=[(0,E f),(1,E (c.getD S.bL.toNat O.dflt)),(2,b),(4,s)]) rfl rfl (by simp only[ew,eN,(bm (s:=b) Y).one,(bm (s:=s) Y).one];rfl) ?_;refine W ?_;refine jH (n:=5) (p:=p) (vs:=[E f,E (c.getD S.bL.toNat O.dflt),b,nS,s]) rfl rfl Y inferInstance rfl rfl (by simp only[ew,eN,(bm (s:=b) Y).one,(bm (s:=s) Y).one];rfl) ?_;clear Y;intro w Y;refine W ?_;exact⟨(p,b,s),⟨rfl,au⟩,aV,Y.bb⟩
 clear Y;rintro σ ⟨K,b,q⟩ w Y
 dsimp only at Y
 rw[<-Yj (g:=S.aR) (c:=c)]at Y;have j':∀ m,(ic S.aR c f.toNat m).length=f.toNat:=fun m=>Ec;refine W ?_;refine cN [9,10,44,67] (G:=Nat) (fun m=>[(44,E m)]) (fun m w=>m<=S.aR.length/\M w0 w [ak K 142 [E f,E (c.getD S.bL.toNat O.dflt),b,nS,q],X ah 4 q (ic S.aR c f.toNat m),X O 3 b S.aT,ak y 142 [E 0,E 0,nS,nS,nS],ak A 142 [E n,E S.bL,u,o,sg]]) (fun m=>S.aR.length-m) 0 (fun _=>rfl) ⟨rfl,au⟩ ⟨br _,Y⟩ ?_;clear Y;rintro σ m w ⟨hm,Y⟩;have P':=j' m;refine aA ?_ ?_<;>intro h2
 ·have C:m<S.aR.length:=U
  have L:=V m U;have H':=Yk (g:=S.aR) (c:=c) (k:=f.toNat) (m:=m) L.1 U;obtain⟨J',_c⟩:=L;refine W ?_;refine fQ (pl [0,1,2,3,4,5,6,7,8,9,10,11,12,13,14,15,16,17,18] []) Y kr ?_;clear Y;intro w Y;refine iC ?_;intro w Y;rw[<-H']at Y;exact⟨m+1,⟨rfl,au⟩,aV,⟨U,Y.bb⟩,U⟩
 have H':m=S.aR.length:=U;subst H';have J':ic S.aR c f.toNat S.aR.length=sG S.aR c f.toNat:=rfl;rw[J']at Y;have Y:M w0 w [ak K 142 [E f,E (c.getD S.bL.toNat O.dflt),b,nS,q],X ah 4 q (sG S.aR c f.toNat),X aM 190 (nS) [],X O 3 b S.aT,ak y 142 [E 0,E 0,nS,nS,nS],ak A 142 [E n,E S.bL,u,o,sg]]:=(Y.nil (T:=aM) (e:=190)).bb;refine W ?_;refine dN [12,12,71,93] (G:=Nat) (H:=Value) (fun m ev=>[(71,E m)]) (fun m ev w=>m<=S.aB.length/\M w0 w [ak K 142 [E f,E (c.getD S.bL.toNat O.dflt),b,ev,q],X ah 4 q (sG S.aR c f.toNat),X aM 190 ev ((S.aB.take m).map (rq c)),X O 3 b S.aT,ak y 142 [E 0,E 0,nS,nS,nS],ak A 142 [E n,E S.bL,u,o,sg]]) (fun m _=>S.aB.length-m) 0 (nS) (fun _ _=>rfl) ⟨rfl,au⟩ ⟨br _,Y⟩ ?_;clear Y;rintro σ m ev w ⟨hm,Y⟩;refine aA ?_ ?_<;>intro h3
 ·have C:m<S.aB.length:=U
  obtain⟨a,ha⟩:=À (S.aB.getD m aM.dflt);have L:=N _ (cD aM.dflt C);rw[<-ha]at L;obtain⟨⟨e1,e2⟩,⟨e3,e4⟩,_⟩:=L;refine c9 ?_;intro p w Y;have Y:M w0 w [ak p 190 [E a.ba,E a.cG,E a.dst],ak K 142 [E f,E (c.getD S.bL.toNat O.dflt),b,ev,q],X ah 4 q (sG S.aR c f.toNat),X aM 190 ev ((S.aB.take m).map (rq c)),X O 3 b S.aT,ak y 142 [E 0,E 0,nS,nS,nS],ak A 142 [E n,E S.bL,u,o,sg]]:=by rw[ha];exact Y
  refine fQ (pl [0,1,2,3,4,5,6,7,8,9,10,11,12,13,14] (.cJ 1::pl [15] (.cJ 1::pl [16,17,18] []))) Y kr ?_;clear Y;intro w Y
  repeat refine dB ?_
  refine jG aM (x1:=⟨c.getD a.ba.toNat O.dflt,a.cG,c.getD a.dst.toNat O.dflt⟩) rfl rfl rfl (fX rfl) (fb _) Y ?_;clear Y;intro s2 w Y;have _c:((S.aB.take m).map (rq c)).length=m:=by rw[iW,jf];omega
  refine ot ?_;intro s w Y;simp only[mM,mJ]at Y;refine⟨m+1,s,⟨rfl,au⟩,aV,⟨U,?_⟩,U⟩;rw[eD aM.dflt C,pX,<-ha,show List.map (rq c) [a]=[⟨c.getD a.ba.toNat O.dflt,a.cG,c.getD a.dst.toNat O.dflt⟩] from rfl];exact Y.bb
 rw[gH U]at Y;refine W ?_;have Y:M w0 w [X aM 190 ev (S.aB.map (rq c)),ak K 142 [E f,E (c.getD S.bL.toNat O.dflt),b,ev,q],X ah 4 q (sG S.aR c f.toNat),X O 3 b S.aT,ak y 142 [E 0,E 0,nS,nS,nS],ak A 142 [E n,E S.bL,u,o,sg]]:=Y.bb;refine aU rfl (Yc (s:=ev) (xs:=S.aB.map (rq c)) Y (by rw[iW];omega)) ?_;rintro _ w' ⟨ex,rfl,C⟩;clear Y;have Y:=C;clear C;refine⟨_,rfl,?_⟩;refine iC ?_;intro w Y;simp only[mM,mJ]at Y;have L:=(bm (s:=ex) Y).one;have o2:=(bm (s:=q) Y).one;have o3:=(bm (s:=b) Y).one;refine jH (n:=5) (p:=y) (vs:=[E f,E (c.getD S.bL.toNat O.dflt),b,ex,q]) rfl rfl Y inferInstance rfl rfl (by simp only[ew,eN,L,o2,o3];rfl) ?_;clear Y;intro w Y;refine W ?_;refine lO (p:=y) (vs:=[E f,E (c.getD S.bL.toNat O.dflt),b,ex,q]) rfl rfl (v':=bO 0) (by rw[gy rfl];rfl) rfl (fun j v hv=>lM (i:=4) Y rfl hv) ⟨b,ex,q,rfl,?_⟩;exact Y.bb
end Go.Proofs.YtmapkjoefdgjfaaGreatDoor
