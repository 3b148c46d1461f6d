/- Several texts. -/
import Derived.Test.YtmapkjoefdgjfaaGreatDoorMW6E
set_option linter.unusedSimpArgs false
set_option linter.unusedVariables false
set_option linter.defProp false
set_option maxRecDepth 8000
set_option maxHeartbeats 16000000
open List Nat
namespace Go.Proofs.YtmapkjoefdgjfaaGreatDoor
open Go.Sl Go
variable {w0:World}{c:J}{k l m:Nat}{g:List Bool}{B S:bZ}{u o sg:Value}
attribute [local irreducible] vc opsW opsD opV opW PureV ReadV Thn Blk
noncomputable def rz (S:bZ):J:=if iT S=true then uP S else []
def QY (y:cX w0 u o sg S)(hT:lR w0) :
  Calls ai 147 #[cM S u o sg] w0 fun e w'=>∃ v,e=.returned (.tuple #[v,bI (iH S)])/\(iT S=true->∃ L:List ByteArray,L.length=S.st.toNat/\uP S=fb L)/\Z w0 w' [X W 3 v (rz S)]:=by
 have Y:=Z.start w0;have oS:=y.mi;have j':=y.aQ;refine bA an Tryz.func147 ?_;unfold cM;refine db ?_;intro p w Y;have Y:Z w0 w [ak p 142 [E S.st,E S.bR,u,o,sg]]:=Y;obtain⟨z,rfl⟩:=À p;refine aL rfl (Ei (S:=S) (y.at Y)) ?_;refine gZ ?_;clear Y;intro w' Y;by_cases hv:iT S=true
 case neg =>
  rw[tt]at hv;rw[hv];have A:iH S=2:=by unfold iH;rw[aC (by rw[hv];simp)]
  have C:rz S=[]:=by unfold rz;rw[aC (by rw[hv];simp)]
  rw[A,C];refine O ?_;exact cR (v:=nS) (v':=.iface 57 (E 2)) rfl rfl rfl ⟨nS,by rw[cS dc],(fun h=>by simp[hv]at h),(gm Y).nil⟩
 rw[hv];have t:dR S:=nr fun h=>by rw[we h]at hv;cases hv
 have A:iH S=0:=by unfold iH;rw[aM hv]
 have C:rz S=uP S:=by unfold rz;rw[aM hv]
 rw[A,C];obtain⟨a1,a2,a3,a4,a5,a6,a7,_⟩:=id t;obtain⟨n,D⟩:=À S.st.toNat;have H':S.st=(n:Int):=U;have F:S.aQ.length=n:=U;refine O ?_;refine Cm kz ⟨#[]⟩ rfl rfl rfl rfl U U U Y ?_;clear Y;intro R w Y;rw[show S.st.toNat=n from D.symm]at Y;refine O ?_;refine cP [5,6,21,31] (G:=Nat) (fun k=>[(21,E k)]) (fun k w=>k<=n/\Z w0 w [X kz 9 R ((S.aQ.take k).map kA++replicate (n-k) ⟨#[]⟩),ak z 142 [E S.st,E S.bR,u,o,sg]]) (fun k=>n-k) 0 (fun _=>rfl) ⟨rfl,az⟩ ⟨bu _,Y⟩ ?_;clear Y;rintro σ k w ⟨hk,Y⟩;have f:((S.aQ.take k).map kA).length=k:=by rw[iz,jd];omega
 have J':((S.aQ.take k).map kA++replicate (n-k) (⟨#[]⟩:ByteArray)).length=n:=by rw[length_append,f,nD];omega
 refine aB ?_ ?_<;>intro h2
 ·have b:k<n:=U
  refine O ?_;refine aL rfl (Yt (S.aQ.getD k ah.dflt)) ?_;refine BP ?_;intro w Y;refine⟨k+1,⟨rfl,az⟩,aU,⟨U,?_⟩,U⟩;have e:((S.aQ.take k).map kA++replicate (n-k) (⟨#[]⟩:ByteArray)).set k (kA (S.aQ.getD k ah.dflt))=(S.aQ.take (k+1)).map kA++replicate (n-(k+1)) ⟨#[]⟩:=by
   have d:n-k=(n-(k+1))+1:=U;rw[d,DP,eC ah.dflt (show k<S.aQ.length by omega),oh,fL,yE _ _ (by rw[f];exact cD _),f,r7];rfl
  rw[e]at Y;exact Y.aY
 have K:k=n:=U;rw[K,r7,CB,fS,gH U]at Y;have N:(S.aQ.map kA).length=n:=by rw[iz];exact F
 refine O ?_;refine aL rfl (QZ (L:=S.aQ.map kA) (bk (s:=R) Y) U) ?_;rintro _ w' ⟨a,rfl,al⟩;refine aI ?_;clear al Y;intro Y;have Y:Z w0 w' [X W 3 a (fb (S.aQ.map kA)),ak z 142 [E S.st,E S.bR,u,o,sg]]:=Y.aY;refine O ?_;refine dQ [2,3,7,10,37,48] (G:=List ByteArray) (H:=Value) (fun L a=>[(7,a),(8,E ((cU L).length:Nat))]) (fun L a w=>L.length=n/\(∃ j,kY (kJ S) j (s7 S)=(fb L,(cU L).length,false))/\Z w0 w [X W 3 a (fb L),ak z 142 [E S.st,E S.bR,u,o,sg]]) (fun L _=>n+1-(cU L).length) (S.aQ.map kA) a (fun _ _=>rfl) ⟨rfl,rfl,az⟩ ⟨N,⟨0,rfl⟩,Y⟩ ?_;clear Y;rintro σ L a w ⟨P',⟨j,hj⟩,Y⟩;have R':=HB L;have q:kY (kJ S) (j+1) (s7 S)=(fb (kf S (fb L)),(cU (kf S (fb L))).length,decide ((cU (kf S (fb L))).length=(cU L).length)):=by
  show kJ S (kY (kJ S) j (s7 S))=_;rw[hj];rfl
 have r:=Yu (S:=S) (l:=L) U;refine O ?_;refine aL rfl (Yv (S:=S) (c:=fb L) (y.at Y) t (hT.at Y) (bk (s:=a) Y) (by rw[CS];omega) (fun i T=>?_)) ?_
 ·rw[CS]at T
  have:=Ej T;omega
 rintro _ w' ⟨P,rfl,al⟩;refine aI ?_;clear al Y;intro Y;obtain⟨b,x⟩:=À (kf S (fb L));have d:b.length=n:=by rw[x,Yw];exact D.symm
 rw[<-x]at Y q r ⊢;refine aB ?_ ?_<;>intro h3
 ·have V:kY (kJ S) (j+1) (s7 S)=(fb b,(cU b).length,true):=by rw[q,dy U]
  have Q:uP S=fb b:=by
   unfold uP;rw[ow (Yx S) (n:=j+1) (by rw[V];rfl),V]
  have hex:∃ L':List ByteArray,L'.length=S.st.toNat/\fb b=fb L':=⟨b,by rw[d,D],rfl⟩
  rw[Q];refine O ?_;exact cR (v:=P) (v':=.nilIface) rfl rfl rfl ⟨P,by rw[fK rfl],fun _=>hex,Y.aY⟩
 have Q:=HB b;refine O ?_;exact⟨b,P,⟨rfl,rfl,az⟩,aU,⟨d,⟨j+1,by rw[q,dU U]⟩,Y.aY⟩,U⟩
def Yy {v:Value}(r:RS ah w0 v g)(t:g.length<=65536) :
  Calls ai 169 #[v] w0 fun e w'=>e=.returned (.tuple #[E ((tN g).1:Nat),E ((tN g).2:Nat)])/\Z w0 w' []:=by
 have Y:=Z.start w0;refine bA an Tryz.func169 ?_;refine O ?_;refine cP [2,5,9,29] (G:=Nat) (fun K=>[(4,E ((K:Int)-1))]) (fun K w=>K<=g.length/\Ai g K=tN g/\Z w0 w []) (fun K=>K) g.length (fun _=>rfl) ⟨rfl,az⟩ ⟨cD _,rfl,Y⟩ ?_;clear Y;rintro n K w ⟨x,d,Y⟩;refine aB ?_ ?_<;>intro h1
 ·obtain⟨k,rfl⟩:∃ k,K=k+1:=⟨K-1,U⟩
  have f:k≠0:=U;unfold Ai at d;rw[aC f]at d;have q:(((k+1:Nat):Int)-1)=(k:Int):=U;rw[q];refine O ?_;refine cP [2,3,5,5,15,29] (G:=Nat) (fun b=>[(5,E ((b:Int)-1))]) (fun b w=>b<=k/\Aj g k b=Aj g k k/\Z w0 w []) (fun b=>b) k (fun _=>rfl) ⟨rfl,az⟩ ⟨cD _,rfl,Y⟩ ?_;clear Y;rintro n b w ⟨y,a,Y⟩;refine aB ?_ ?_<;>intro z
  ·obtain⟨i,rfl⟩:∃ i,b=i+1:=⟨b-1,U⟩
   have j:(((i+1:Nat):Int)-1)=(i:Int):=U;rw[j];rw[show Aj g k (i+1)=if g.getD i ah.dflt=g.getD k ah.dflt then some i else Aj g k i from rfl]at a;refine fm ?_;intro w Y;by_cases he:g.getD i ah.dflt=g.getD k ah.dflt
   ·rw[aM he]at a
    rw[<-a]at d;have hq:(g.getD i ah.dflt == g.getD k ah.dflt)=true:=by rw[he];exact wH _
    rw[hq];refine O ?_;exact cR (v:=E (i:Nat)) (v':=E (k:Nat)) rfl rfl rfl ⟨by rw[<-d],Y⟩
   rw[aC he]at a;have hq:(g.getD i ah.dflt == g.getD k ah.dflt)=false:=by rw[beq_eq_false_iff_ne];exact he
   rw[hq];refine O ?_;exact⟨i,⟨rfl,az⟩,aU,⟨U,a,Y⟩,U⟩
  have j:b=0:=U;subst j;rw[<-a]at d;refine O ?_;exact⟨k,⟨rfl,az⟩,aU,⟨U,d,Y⟩,U⟩
 have a:tN g=(0,1):=by
  rw[<-d];rcases nu K 1 with h|h
  ·have:K=0:=U
   subst this;rfl
  have:K=1:=U;subst this;rfl
 rw[a];refine O ?_;exact cR (v:=E 0) (v':=E 1) rfl rfl rfl ⟨rfl,Y⟩
noncomputable def uf (S:bZ)(most:Int):J:=if iT S=true then gC S most else []
def Yz {most:Int}(hS:cX w0 u o sg S)(hT:lR w0) :
  Calls ai 146 #[cM S u o sg,E most] w0 fun e w'=>∃ v,e=.returned (.tuple #[v,bI (iH S)])/\(iT S=true->0<(gC S most).length/\∀ x∈gC S most,0<=x/\x<=65536)/\Z w0 w' [X W 3 v (uf S most)]:=by
 have Y:=Z.start w0;have oS:=hS.mi;have _k:=hS.aQ;refine bA an Tryz.func146 ?_;unfold cM;refine db ?_;intro p w Y;have Y:Z w0 w [ak p 142 [E S.st,E S.bR,u,o,sg]]:=Y;obtain⟨T,rfl⟩:=À p;refine aL rfl (QY (S:=S) (hS.at Y) (hT.at Y)) ?_;rintro _ w' ⟨t,rfl,R',al⟩;refine aI ?_;clear al Y;intro Y;by_cases hv:iT S=true
 case neg =>
  have hE:iH S=2:=by unfold iH;rw[aC hv]
  have hR:uf S most=[]:=by unfold uf;rw[aC hv]
  rw[hE,hR,cS dc];refine O ?_;exact cR (v:=nS) (v':=.iface 57 (E 2)) rfl rfl rfl ⟨nS,rfl,(fun h=>absurd h hv),(gm Y).nil⟩
 have T':dR S:=nr fun h=>by rw[we h]at hv;cases hv
 have hE:iH S=0:=by unfold iH;rw[aM hv]
 have hR:uf S most=gC S most:=by unfold uf;rw[aM hv]
 have V':rz S=uP S:=by unfold rz;rw[aM hv]
 rw[hE,hR,fK rfl];obtain⟨a1,a2,a3,a4,a5,a6,a7,_⟩:=id T';obtain⟨L,_l,V⟩:=R' hv;obtain⟨n,hn⟩:=À S.st.toNat;have _m:S.aQ.length=n:=U;obtain⟨a,z⟩:=À (uP S);have A:a.length=n:=by rw[z,V,CS];omega
 have f:∀ x∈a,0<=x/\x<4096:=fun x hx=>by
  rw[z,V]at hx;obtain⟨i,hi,rfl⟩:=fJ hx;have h1:=Ej (l:=L) (i:=i) (by rw[CS]at hi;exact hi);rw[am hi]at h1;have:=HB L;omega
 have _a:=KX (l:=a) U;have _n:=f _ _a;rw[V',<-z]at Y;refine O ?_;obtain⟨d,hM⟩:∃ d:Nat,(d:Int)=max 1 (min most 4096):=⟨(max 1 (min most 4096)).toNat,U⟩
 have _b:(if (if (4096:Int)<most then 4096 else most)>1 then (if (4096:Int)<most then 4096 else most) else 1)=(d:Int):=by
  rw[hM]
  repeat' split
  all_goals omega
 rw[_b];have _c:(max 1 (min most 4096)).toNat=d:=U;have _o:1<=d:=U;refine aL rfl (Q0 (l:=a) (bk (s:=t) Y) U) ?_;refine gZ ?_;clear Y;intro w' Y;refine Bg ?_;refine YA ah false (n:=lm a+1) rfl rfl rfl rfl U (by show (1:Int)*_<=_;omega) U Y ?_;clear Y;intro D w Y;obtain⟨m,hm⟩:=À ((lm a+1).toNat);have _p:(m:Int)=lm a+1:=U;rw[<-hm]at Y ⊢;have j':∀ i:Nat,i<n->0<=a.getD i W.dflt/\a.getD i W.dflt<m:=fun i hi=>by
  have hx:a.getD i W.dflt∈a:=cH W.dflt U;have h1:=YB hx;have h2:=f _ hx;omega
 rw[<-YC (g:=S.aQ) (c:=a)]at Y;refine O ?_;have Y:Z w0 w [X ah 4 (.slice (some ⟨D,0,none⟩) m m) (lS S.aQ a m 0),X W 3 t a,ak T 142 [E S.st,E S.bR,u,o,sg]]:=Y.aY;refine cP [9,10,32,45] (G:=Nat) (fun k=>[(32,E k)]) (fun k w=>k<=n/\Z w0 w [X ah 4 (.slice (some ⟨D,0,none⟩) m m) (lS S.aQ a m k),X W 3 t a,ak T 142 [E S.st,E S.bR,u,o,sg]]) (fun k=>n-k) 0 (fun _=>rfl) ⟨rfl,az⟩ ⟨bu _,Y⟩ ?_;clear Y;rintro σ k w ⟨hk,Y⟩;have _j:(lS S.aQ a m k).length=m:=CT;refine aB ?_ ?_<;>intro h2
 ·have H':k<n:=U
  obtain⟨b,j⟩:=j' k H';have q:=YD (g:=S.aQ) (c:=a) (k:=m) (m:=k) b j;refine iE ?_;intro w Y;rw[<-q]at Y;exact⟨k+1,⟨rfl,az⟩,aU,⟨U,Y.aY⟩,U⟩
 have _d:k=n:=U;have J':lS S.aQ a m n=Ak S.aQ a m:=by rw[<-A];rfl
 rw[_d,J']at Y;have F:(Ak S.aQ a m).length=m:=by rw[<-J'];exact CT
 refine O ?_;have Y:Z w0 w [X ah 4 (.slice (some ⟨D,0,none⟩) (Ak S.aQ a m).length m) (Ak S.aQ a m),X W 3 t a,ak T 142 [E S.st,E S.bR,u,o,sg]]:=by rw[F];exact Y.aY
 refine dQ [8,8,11,14,46,82] (G:=J) (H:=List Bool) (fun C G=>[(8,.slice (some ⟨D,0,none⟩) G.length m)]) (fun C G w=>C.length=n/\G.length<=m/\(∀ x∈C,0<=x/\x<=65536)/\(∃ j,kY (kK d) j (a,Ak S.aQ a m)=(C,G))/\Z w0 w [X ah 4 (.slice (some ⟨D,0,none⟩) G.length m) G,X W 3 t C,ak T 142 [E S.st,E S.bR,u,o,sg]]) (fun C G=>G.length) a (Ak S.aQ a m) (fun _ _=>rfl) ⟨by rw[F];rfl,az⟩ ⟨A,U,fun x hx=>by have:=f x hx;omega,⟨0,rfl⟩,Y⟩ ?_;clear Y;rintro σ C G w ⟨_e,_q,N,⟨j,hj⟩,Y⟩;refine aB ?_ ?_<;>intro h3
 ·have _r:d<G.length:=U
  obtain⟨_f,P⟩:=YE (g:=G) U;have q:kY (kK d) (j+1) (a,Ak S.aQ a m)=(C.map (pV (tN G).1 (tN G).2),G.eraseIdx (tN G).2):=by
   show kK d (kY (kK d) j _)=_;rw[hj];unfold kK;rw[aC (by show ¬G.length<=d;omega)]
  obtain⟨pi,_g⟩:=À ((tN G).1);obtain⟨b,P'⟩:=À ((tN G).2);refine O ?_;refine aL rfl (Yy (g:=G) (bk (s:=.slice (some ⟨D,0,none⟩) G.length m) Y) U) ?_;refine gZ ?_;clear Y;intro w' Y;rw[<-_g,<-P']at _f q ⊢;rw[<-P']at P;refine O ?_;have Y:Z w0 w' [X ah 4 (.slice (some ⟨D,0,none⟩) G.length m) G,X W 3 t ((C.take 0).map (pV pi b)++C.drop 0),ak T 142 [E S.st,E S.bR,u,o,sg]]:=Y;refine cP [13,14,57,77] (G:=Nat) (fun k=>[(57,E k)]) (fun k w=>k<=n/\Z w0 w [X ah 4 (.slice (some ⟨D,0,none⟩) G.length m) G,X W 3 t ((C.take k).map (pV pi b)++C.drop k),ak T 142 [E S.st,E S.bR,u,o,sg]]) (fun k=>n-k) 0 (fun _=>rfl) ⟨rfl,az⟩ ⟨bu _,Y⟩ ?_;clear Y;rintro σ k w ⟨hk,Y⟩;have r:((C.take k).map (pV pi b)).length=k:=by rw[iz,jd];omega
  have _s:((C.take k).map (pV pi b)++C.drop k).length=n:=by rw[length_append,r,yD];omega
  refine aB ?_ ?_<;>intro h4
  ·have H':k<n:=U
   obtain⟨x,hx⟩:=À (C.getD k W.dflt);have _h:=N _ (cH W.dflt (show k<C.length by omega));rw[<-hx]at _h;have _i:((C.take k).map (pV pi b)++C.drop k).getD k W.dflt=x:=by
    rw[hx,iD,kn U,r,r7,Kg,z6,<-iD]
   have K:∀ y,y=pV pi b x->((C.take k).map (pV pi b)++C.drop k).set k y=(C.take (k+1)).map (pV pi b)++C.drop (k+1):=fun y hy=>by
    have Q:C.drop k=C.getD k W.dflt::C.drop (k+1):=by rw[wI (show k<C.length by omega),am]
    rw[Q,yE _ _ U,r,r7,mI,eC W.dflt (show k<C.length by omega),oh,fL,hy,<-hx];rfl
   have R:pV pi b x=x->((C.take k).map (pV pi b)++C.drop k)=(C.take (k+1)).map (pV pi b)++C.drop (k+1):=fun h=>by
    have Q:C.drop k=C.getD k W.dflt::C.drop (k+1):=by rw[wI (show k<C.length by omega),am]
    rw[Q,eC W.dflt (show k<C.length by omega),oh,fL,<-hx,l8,h];rfl
   refine O ?_;rw[_i];by_cases c1:x=(b:Int)
   ·have Q:pV pi b x=(pi:Int):=by unfold pV;rw[aM c1]
    have d1:decide (x=(b:Int))=true:=dy c1;have d2:decide ((b:Int)<x)=false:=dU U;rw[d1];refine iE ?_;intro w Y;rw[K _ Q.symm]at Y;rw[d2];refine O ?_;exact⟨k+1,⟨rfl,az⟩,aU,⟨U,Y.aY⟩,U⟩
   have d1:decide (x=(b:Int))=false:=dU c1;rw[d1];by_cases c2:x>(b:Int)
   ·have Q:pV pi b x=x-1:=by unfold pV;rw[aC c1,aM c2]
    have d2:decide ((b:Int)<x)=true:=dy c2;refine O ?_;rw[d2];refine iE ?_;intro w Y;rw[K _ Q.symm]at Y;exact⟨k+1,⟨rfl,az⟩,aU,⟨U,Y.aY⟩,U⟩
   have Q:pV pi b x=x:=by unfold pV;rw[aC c1,aC c2]
   have d2:decide ((b:Int)<x)=false:=dU U;refine O ?_;rw[d2];refine O ?_;rw[R Q]at Y;exact⟨k+1,⟨rfl,az⟩,aU,⟨U,Y.aY⟩,U⟩
  have K:k=n:=U;rw[K,gH U,pS U,fS]at Y;have Q:∀ x∈C.map (pV pi b),0<=x/\x<=65536:=fun x hx=>by
   obtain⟨y,hy,rfl⟩:=iS.1 hx;have:=N y hy;unfold pV;split
   ·omega
   split<;>omega
  refine O ?_;refine aL rfl (YF (k:=b) Y U P) ?_;rintro _ w' ⟨rfl,R⟩;clear Y;have Y:=R;clear R;refine⟨_,rfl,?_⟩;have H':(G.eraseIdx b).length=G.length-1:=length_eraseIdx_of_lt P;refine O ?_;exact⟨C.map (pV pi b),G.eraseIdx b,⟨rfl,az⟩,aU,⟨by rw[iz];exact _e,U,Q,⟨j+1,q⟩,Y.aY⟩,U⟩
 have b:gC S most=C:=by
  unfold gC;rw[_c,<-z,<-hm,ow (YG d) (n:=j) (by rw[hj];unfold uw;exact dy (by show G.length<=d;omega)),hj]
 rw[b];refine O ?_;exact cR (v:=t) (v':=.nilIface) rfl rfl rfl ⟨t,rfl,fun _=>⟨U,N⟩,Y.aY⟩
instance IP:jb ai 190 3:=⟨kr⟩
instance IQ:zm ai 190 aT:=⟨fun a b w=>by
 have h:=jb.run (P:=ai) (t:=190) inferInstance (us:=[a.bh,a.cK,a.dst]) (zs:=[b.bh,b.cK,b.dst]) rfl rfl w;have e:decide ([a.bh,a.cK,a.dst]=[b.bh,b.cK,b.dst])=decide (a=b):=by
  rw[decide_eq_decide];cases a;cases b;simp
 rw[e]at h
 exact h⟩
def YH {w:World}{Γ:List HP}{s:Value}{xs:List de}(Y:Z w0 w (X aT 190 s xs::Γ))(hn:xs.length<=65536) :
  Calls ai 196 #[s] w fun e w'=>∃ d,e=.returned d/\Z w0 w' (X aT 190 d (lL xs)::Γ):=by
 refine bA an Tryz.func196 ?_;refine aB ?_ ?_<;>intro h1
 ·have he:lL xs=xs:=by
   match xs,h1 with
   | [],_=>rfl
   | [_],_=>rfl
   | _::_::_,h=>simp only[length_cons]at h;omega
  refine O ?_;exact bf (v:=s) rfl rfl ⟨s,rfl,by rw[he];exact Y.cw⟩
 have j':2<=xs.length:=U;refine O ?_;refine cP [2,5,10,59] (G:=Nat) (fun k=>[(3,E k)]) (fun k w=>1<=k/\k<=xs.length/\lL (xs.take k)=xs.take k/\Z w0 w (X aT 190 s xs::Γ)) (fun k=>xs.length-k) 1 (fun _=>rfl) ⟨rfl,az⟩ ⟨cD _,U,by cases xs with|nil=>rfl|cons a r=>rfl,Y.cw⟩ ?_;clear Y;rintro σ k w ⟨N,hk,n,Y⟩;refine aB ?_ ?_<;>intro P
 ·have A:k<xs.length:=U
  have i:=HC aT.dflt N A;have ek:((k:Int)-1).toNat=k-1:=U;rw[<-ek]at i;refine O ?_;refine r8 ?_;clear Y;intro w Y;refine O ?_;refine eY rfl (Q1 (T:=aT) (a:=xs.getD k aT.dflt) (b:=xs.getD ((k:Int)-1).toNat aT.dflt) rfl rfl) ?_;refine aB ?_ ?_<;>intro V
  ·rw[aM V.symm,fS,n]at i
   refine O ?_;refine dQ [3,3,5,5,29,53] (G:=Nat) (H:=Nat) (fun d q=>[(3,E q),(5,E d)]) (fun d q w=>1<=d/\k+d<=xs.length/\k<=q/\q<k+d/\∃ C:List de,C.length=xs.length/\C.take q=lL (xs.take (k+d))/\(∀ j,k+d<=j+1->C.getD j aT.dflt=xs.getD j aT.dflt)/\Z w0 w (X aT 190 s C::Γ)) (fun d _=>xs.length-(k+d)) 1 k (fun _ _=>rfl) ⟨rfl,rfl,az⟩ ⟨cD _,U,cD _,U,xs,rfl,i.symm,fun _ _=>rfl,Y.cw⟩ ?_;clear Y;rintro σ d q w ⟨H',D,Q,J',C,hC,x,t,Y⟩;have P':(cut C k xs.length).length=xs.length-k:=yK U;have L:=yb (T:=aT) (bk (s:=s) Y) (lo:=k) (hi:=xs.length) U U;refine aB ?_ ?_<;>intro h4
   ·have F:k+d<xs.length:=U
    have f:=HC aT.dflt (show 0<k+d by omega) F;refine O ?_;refine r8 ?_;clear Y L;intro w Y;have L:=yb (T:=aT) (bk (s:=s) Y) (lo:=k) (hi:=xs.length) U U;have R:((d:Int)-1).toNat=d-1:=U;have e1:(cut C k xs.length).getD d aT.dflt=xs.getD (k+d) aT.dflt:=by rw[<-t (k+d) U];simp[cut,List.getD,wG,F]
    have e2:(cut C k xs.length).getD ((d:Int)-1).toNat aT.dflt=xs.getD (k+d-1) aT.dflt:=by
     rw[<-t (k+d-1) U,R];simp[cut,List.getD,wG,show k+(d-1)=k+d-1 by omega,show k+d-1<xs.length by omega]
    refine O ?_;refine eY rfl (Q3 (T:=aT) (a:=(cut C k xs.length).getD d aT.dflt) (b:=(cut C k xs.length).getD ((d:Int)-1).toNat aT.dflt) rfl rfl) ?_;refine O ?_;rw[e1,e2];refine jw ?_ ?_<;>intro h5
    ·have y:¬xs.getD (k+d-1) aT.dflt=xs.getD (k+d) aT.dflt:=fun e=>h5 e.symm
     rw[aC y]at f;refine O ?_;refine Cf (T:=aT) (s:=s) (j:=q) (x':=(cut C k xs.length).getD d aT.dflt) rfl rfl rfl rfl Y inferInstance U ?_;clear Y L;intro w Y;rw[e1]at Y;refine O ?_;have K:q<C.length:=U;refine⟨d+1,q+1,⟨rfl,rfl,az⟩,aU,⟨U,U,U,U,C.set q (xs.getD (k+d) aT.dflt),by rw[gY];exact hC,?_,fun j hj=>?_,Y.cw⟩,U⟩
     ·rw[eC aT.dflt (by rw[gY];exact K),GG (cD _),x,kB,aM ⟨rfl,K⟩]
      exact f.symm
     rw[kB,aC U];exact t j U
    have y:xs.getD (k+d-1) aT.dflt=xs.getD (k+d) aT.dflt:=by
     exact h5.symm
    rw[aM y,fS]at f;refine O ?_;exact⟨d+1,q,⟨rfl,rfl,az⟩,aU,⟨U,U,Q,U,C,hC,by rw[x,<-f];rfl,fun j hj=>t j U,Y.cw⟩,U⟩
   have y:k+d=xs.length:=U;have R:q<=xs.length:=U;have F:lL xs=C.take q:=by rw[x,y,kV]
   refine O ?_;have K:=yb (T:=aT) (bk (s:=s) Y) (lo:=q) (hi:=C.length) U (cD _);refine Q4 (T:=aT) (s:=s) (j:=q) (z:=(⟨0,0,0⟩:de)) rfl rfl rfl rfl Y inferInstance U ?_;clear Y L K;intro w Y;have f:(C.take q).length=q:=by rw[jd];omega
   have R':(C.take q++replicate (C.length-q) (⟨0,0,0⟩:de)).length=C.length:=by rw[length_append,f,nD];omega
   refine O ?_;have P:=Y.sub (s:=s) own_here 0 q (bu _) (by rw[length_append,f];omega);have e3:cut (C.take q++replicate (C.length-q) (⟨0,0,0⟩:de)) 0 q=C.take q:=by simp[cut,f]
   rw[e3,<-F]at P;exact bf (v:=ssub s aT.sz 0 q) rfl rfl ⟨_,rfl,P.cw⟩
  rw[aC (fun e=>V e.symm),n]at i;refine O ?_;refine⟨k+1,⟨rfl,az⟩,aU,⟨U,U,?_,Y.cw⟩,U⟩;rw[i,eC aT.dflt A]
 have D:k=xs.length:=U;rw[D,kV]at n;refine O ?_;exact bf (v:=s) rfl rfl ⟨s,rfl,by rw[n];exact Y.cw⟩
def KY {n:Int}(h:∀ k,0<=k->¬jz c n k):ln c n=false:=by
 unfold ln;rw[qA];rintro⟨k,hk,h1⟩;exact h k hk h1
def YI {v:Value}{n:Nat}(hc:RS W w0 v c)(hn:n<=4096) :
  Calls ai 174 #[v,E n] w0 fun e w'=>(∃ k,e=.returned (.tuple #[E k,.bool (ln c n)])/\(ln c n=true->k=lT c n/\0<=k/\jz c n k))/\Z w0 w' []:=by
 have j':=hc.bU;have Y:=Z.start w0;refine bA an Tryz.func174 ?_;refine aB ?_ ?_<;>intro h1
 ·have f:ln c n=false:=KY fun k hk h=>h1 h.1
  refine O ?_;exact cR (v:=E 0) (v':=.bool false) rfl rfl rfl ⟨⟨0,by rw[f],fun h=>by rw[f]at h;cases h⟩,Y.aY⟩
 have H':c.length=n:=U;refine l7 ?_;intro s w Y;rw[show ((n:Int)).toNat=n from by omega]at Y;refine nZ [4,5,7,7,9,9,20,38] (G:=Nat) (H:=Int) (I':=List Bool) (fun k m _=>[(20,E k),(7,E m),(4,E 0),(5,.bool false)]) (fun k m o w=>k<=c.length/\(0<=m/\m<=n)/\(∀ x∈c.take k,0<=x/\x<m)/\(m=0\/m-1∈c.take k)/\o.length=n/\(∀ j:Nat,j<n->(o.getD j ah.dflt=true↔(j:Int)∈c.take k))/\Z w0 w [X ah 4 s o]) (fun k _ _=>c.length-k) 0 0 (replicate n false) (fun _ _ _=>rfl) ⟨rfl,rfl,rfl,rfl,az⟩ ⟨bu _,⟨dt _,U⟩,fun x hx=>by simp at hx,.inl rfl,nD,fun j C=>by rw[Ek C];simp,Y⟩ ?_;clear Y;rintro σ k m o w ⟨hk,⟨t,J'⟩,hx,r,D,b,Y⟩;refine aB ?_ ?_<;>intro F
 ·have z:k<c.length:=U
  have d:c.take (k+1)=c.take k++[c.getD k W.dflt]:=eC W.dflt z;have q:c.getD k W.dflt∈c:=cH W.dflt z;refine aB ?_ ?_<;>intro L
  ·have f:ln c n=false:=KY fun k' al h=>by have:=h.2.1 _ q;omega
   refine O ?_;exact cR (v:=E 0) (v':=.bool false) rfl rfl rfl ⟨⟨0,by rw[f],fun h=>by rw[f]at h;cases h⟩,Y.aY⟩
  obtain⟨Q,K⟩:=L;obtain⟨y,A⟩:=À (c.getD k W.dflt);rw[<-A]at Q K d q;refine fm ?_;intro w Y;rw[<-A]at Y;refine⟨k+1,max m (y+1),o.set y.toNat true,⟨rfl,by rw[A];show Value.int .i64 _=Value.int .i64 _;congr 1;split<;>omega,rfl,rfl,az⟩,aU,⟨U,⟨U,U⟩,fun x a => ?_,?_,by rw[gY];exact D,fun j C=>?_,Y⟩,U⟩
  ·rw[d,gG,dp]at a
   rcases a with h|h
   ·have:=hx x h;omega
   omega
  ·rw[d,gG,dp]
   by_cases e:m<=y+1
   ·right;right;omega
   rcases r with h|h
   ·omega
   right;left;rw[show max m (y+1)=m from by omega];exact h
  rw[kB,d,gG,dp];by_cases e:y.toNat=j
  ·rw[aM ⟨e,U⟩]
   have:(j:Int)=y:=U;simp[this]
  rw[aC (fun h=>e h.1),b j C];have:¬(j:Int)=y:=U;simp[this]
 have L:k=c.length:=U;rw[L,kV]at hx r b;have R:(cut o 0 m.toNat).length=m.toNat:=by rw[yK U];omega
 have V:=yb (T:=ah) (bk (s:=s) Y) (lo:=0) (hi:=m.toNat) U U;refine O ?_;refine cP [4,5,11,11,43,49] (G:=Nat) (fun k=>[(43,E k),(4,E 0),(5,.bool false)]) (fun k w=>k<=m.toNat/\(∀ i:Nat,i<k->o.getD i ah.dflt=true)/\Z w0 w [X ah 4 s o]) (fun k=>m.toNat-k) 0 (fun _=>rfl) ⟨rfl,rfl,rfl,az⟩ ⟨bu _,fun i A=>absurd A (dr _),Y⟩ ?_;clear Y V;rintro σ q w ⟨P',d,Y⟩;have V:=yb (T:=ah) (bk (s:=s) Y) (lo:=0) (hi:=m.toNat) U U;refine aB ?_ ?_<;>intro Q
 ·have N:q<m.toNat:=U
  have P:(cut o 0 m.toNat).getD q ah.dflt=o.getD q ah.dflt:=by simp[cut,List.getD,wG,N]
  refine O ?_;rw[P];by_cases z:o.getD q ah.dflt=true
  ·rw[z]
   refine O ?_;refine⟨q+1,⟨rfl,rfl,rfl,az⟩,aU,⟨U,fun i A=>?_,Y⟩,U⟩;by_cases e:i=q
   ·subst e;exact z
   exact d i U
  have f:ln c n=false:=KY fun k' al h=>z ((b q U).2 (h.2.2.2 _ U (by
   rcases r with F|F
   ·omega
   have:=h.2.2.1 _ F;omega)))
  rw[tt]at z;rw[z];refine O ?_;exact cR (v:=E 0) (v':=.bool false) rfl rfl rfl ⟨⟨0,by rw[f],fun h=>by rw[f]at h;cases h⟩,Y.aY⟩
 have bL:jz c n m:=⟨U,fun x a=>by have:=hx x a;omega,fun x a=>(hx x a).2,fun x N h1=>by
  have K:=(b x.toNat U).1 (d x.toNat U)
  rwa[show ((x.toNat:Nat):Int)=x from by omega]at K⟩
 obtain⟨f,z⟩:=YJ t bL;refine O ?_;exact cR (v:=E m) (v':=.bool true) rfl rfl rfl ⟨⟨m,by rw[f],fun _=>⟨z.symm,t,bL⟩⟩,Y.aY⟩
def YK {w:World}{Γ:List HP}{s:Value}{xs:List de}(Y:Z w0 w (X aT 190 s xs::Γ))(d:xs.length<=65536) :
  Calls ai 175 #[s] w fun e w'=>∃ b,e=.returned b/\Z w0 w' (X aT 190 b (lL (iu jg xs))::Γ):=by
 refine bA an Tryz.func175 ?_;refine O ?_;refine aL rfl (YL (s:=s) (xs:=xs) Y U) ?_;rintro _ w' ⟨rfl,a⟩;clear Y;have Y:=a;clear a;refine⟨_,rfl,?_⟩;have f:=HD wV (l:=xs);refine O ?_;refine aL rfl (YH (s:=s) (xs:=iu jg xs) Y U) ?_;rintro _ w' ⟨b,rfl,a⟩;clear Y;have Y:=a;clear a;refine⟨_,rfl,?_⟩;refine O ?_;exact bf (v:=b) rfl rfl ⟨b,rfl,Y⟩
def El {a b M' N:Int}(d:0<=a)(h1:a<=M')(h2:0<=b)(e:b<=N):0<=a*b/\a*b<=M'*N:=⟨sj d h2,yx h1 e h2 U⟩
def nP (A B:bZ)(i j:Nat):List Bool:=(List.range j).map fun j=>A.aQ.getD i ah.dflt && B.aQ.getD j ah.dflt
def ml (A B:bZ)(i:Nat):List Bool:=(List.range i).flatMap fun i=>nP A B i B.st.toNat
def YM (A B:bZ)(i j:Nat):nP A B i (j+1)=nP A B i j++[A.aQ.getD i ah.dflt && B.aQ.getD j ah.dflt]:=by simp[nP,l5]
def KZ (A B:bZ)(i:Nat):ml A B (i+1)=ml A B i++nP A B i B.st.toNat:=by simp[ml,l5]
def Q7 (A B:bZ)(i j:Nat):(nP A B i j).length=j:=by simp[nP]
def K0 (A B:bZ):∀ i,(ml A B i).length=i*B.st.toNat
 | 0=>by simp[ml]
 | i+1=>by rw[KZ,length_append,K0 A B i,Q7,qD,wy]
def lG (A B:bZ)(k:Nat):Nat:=((List.range k).map fun l=>((cQ A).getD l []).length*((cQ B).getD l []).length).foldl (·+·) 0
def HE (A B:bZ)(k:Nat):lG A B (k+1)=lG A B k+((cQ A).getD k []).length*((cQ B).getD k []).length:=by simp[lG,l5]
def HF {A B:bZ}(a:A.aD.length<=65536)(b:B.aD.length<=65536):∀ k,lG A B k<=k*4294967296
 | 0=>by simp[lG]
 | k+1=>by
  have e:=HF a b k;have h1:((cQ A).getD k []).length<=65536:=pT yc a;have d:((cQ B).getD k []).length<=65536:=pT yc b;have f:((cQ A).getD k []).length*((cQ B).getD k []).length<=65536*65536:=zX h1 d;rw[HE];omega
def YN (A B:bZ){i j:Nat}(h:i<=j):lG A B i<=lG A B j:=by
 induction j with
 | zero =>
   have:i=0:=U
   subst this;exact cD _
 | succ j a =>
  by_cases e:i=j+1
  ·subst e;exact cD _
  rw[HE];have:=a U;omega
def zn (B:bZ)(l:Nat)(e:de)(f:de):de:=⟨e.bh*B.st+f.bh,l,e.dst*B.st+f.dst⟩
def vF (B:bZ)(l:Nat)(e:de)(k:Nat):List de:=(((cQ B).getD l []).take k).map (zn B l e)
def tx (A B:bZ)(l j:Nat):List de:=(((cQ A).getD l []).take j).flatMap fun e=>((cQ B).getD l []).map (zn B l e)
def tz (A B:bZ)(l:Nat):List de:=(List.range l).flatMap fun l=>tx A B l ((cQ A).getD l []).length
def Q8 (A B:bZ):tz A B A.aS.length=sG A B:=by
 unfold tz sG tx;congr 1
 funext l
 rw[kV];rfl
def Q9 (A B:bZ)(l:Nat):tz A B (l+1)=tz A B l++tx A B l ((cQ A).getD l []).length:=by simp[tz,l5]
def Ra {A:bZ}{j:Nat}(a:j<((cQ A).getD l []).length):tx A B l (j+1)=tx A B l j++vF B l (((cQ A).getD l []).getD j aT.dflt) ((cQ B).getD l []).length:=by
 unfold tx vF;rw[eC aT.dflt a,wA,kV];simp
def YO {e:de}(hk:k<((cQ B).getD l []).length):vF B l e (k+1)=vF B l e k++[zn B l e (((cQ B).getD l []).getD k aT.dflt)]:=by
 unfold vF;rw[eC aT.dflt hk,oh];rfl
def Rb {e:de}(hk:k<=((cQ B).getD l []).length):(vF B l e k).length=k:=by unfold vF;rw[iz,jd];omega
def K1 {A B:bZ}{l:Nat}:∀ {j:Nat},j<=((cQ A).getD l []).length->(tx A B l j).length=j*((cQ B).getD l []).length
 | 0,_=>by simp[tx]
 | j+1,h=>by rw[Ra U,length_append,K1 U,Rb (cD _),qD,wy]
def K2 (A B:bZ):∀ l,(tz A B l).length=lG A B l
 | 0=>rfl
 | l+1=>by rw[Q9,length_append,K2 A B l,K1 (cD _),HE]
def YP {ac ae ag D be F:Value}{A:bZ}(hA:cX w0 ac ae ag A)(hB:cX w0 D be F B) :
  Calls ai 117 #[cM A ac ae ag,cM B D be F] w0 fun e w'=>∃ cv ev gv,e=.returned (.tuple #[cM (jh A B) cv ev gv,bI (dB A B)])/\s8 w0 w' cv ev gv (jh A B):=by
 have Y:=Z.start w0;have oA:=hA.mi;have oB:=hB.mi;have _n:=hA.aQ;have _o:=hB.aQ;refine bA an Tryz.func117 ?_;unfold cM
 repeat (first|refine du ?_|(refine gX ?_;clear Y;intro p w Y))
 rename_i pa wa L wb;obtain⟨t,rfl⟩:=À p;have Y:Z w0 w [ak t 142 [E 0,E 0,nS,nS,nS],ak L 142 [E B.st,E B.bR,D,be,F],ak pa 142 [E A.st,E A.bR,ac,ae,ag]]:=Y;refine aL rfl (Ei (S:=A) (hA.at Y)) ?_;refine gZ ?_;clear Y;intro w' Y;by_cases vA:iT A=true
 case neg =>
  have z:dB A B=2:=by
   have:¬dR A:=fun h=>vA (Cv h);unfold dB;rw[aC (fun h=>this h.1)]
  have Q:jh A B=cE:=by unfold jh;rw[aC (by rw[z];decide)]
  rw[z,Q];rw[tt]at vA;rw[vA];refine O ?_;refine lw (parts:=[]) (vs:=[]) rfl rfl rfl ?_;refine fm ?_;intro w Y;exact lM (p:=t) (vs:=[E 0,E 0,nS,nS,nS]) rfl rfl (v':=bI 2) (by rw[cS dc];rfl) rfl (fun j v hv=>lK (i:=0) Y rfl hv) ⟨_,_,_,rfl,yd Y⟩
 rw[vA];refine O ?_;refine aL rfl (Ei (S:=B) (hB.at Y)) ?_;refine gZ ?_;clear Y;intro w' Y;by_cases vB:iT B=true
 case neg =>
  have z:dB A B=2:=by
   have:¬dR B:=fun h=>vB (Cv h);unfold dB;rw[aC (fun h=>this h.2.1)]
  have Q:jh A B=cE:=by unfold jh;rw[aC (by rw[z];decide)]
  rw[z,Q];rw[tt]at vB;rw[vB];refine O ?_;refine lw (parts:=[]) (vs:=[]) rfl rfl rfl ?_;refine fm ?_;intro w Y;exact lM (p:=t) (vs:=[E 0,E 0,nS,nS,nS]) rfl rfl (v':=bI 2) (by rw[cS dc];rfl) rfl (fun j v hv=>lK (i:=0) Y rfl hv) ⟨_,_,_,rfl,yd Y⟩
 rw[vB];refine O ?_;refine aL rfl (Dz (hA.aS.at Y) (hB.aS.at Y)) ?_;rintro _ w' ⟨⟨eq,rfl,heq⟩,al⟩;refine aA ?_;clear al Y;intro Y
 cases eq with
 | false =>
  have z:dB A B=2:=by
   unfold dB;rw[aC (fun h=>by have:=heq.2 h.2.2;cases this)]
  have Q:jh A B=cE:=by unfold jh;rw[aC (by rw[z];decide)]
  rw[z,Q];refine O ?_;refine lw (parts:=[]) (vs:=[]) rfl rfl rfl ?_;refine fm ?_;intro w Y
  exact lM (p:=t) (vs:=[E 0,E 0,nS,nS,nS]) rfl rfl (v':=bI 2) (by rw[cS dc];rfl) rfl (fun j v hv=>lK (i:=0) Y rfl hv) ⟨_,_,_,rfl,yd Y⟩
 | true =>
 have P':=heq.1 rfl;have R':dR A:=nr fun h=>by rw[we h]at vA;cases vA
 have T':dR B:=nr fun h=>by rw[we h]at vB;cases vB
 have K:dB A B=if 4096<A.st*B.st then 5 else if 65536<zo A B then 5 else 0:=by unfold dB;rw[aM ⟨R',T',P'⟩]
 obtain⟨a1,a2,a3,a4,a5,a6,a7,_p,V',_⟩:=R';obtain⟨b1,b2,b3,b4,b5,b6,b7,_q,_a,_⟩:=T';have m1:=El (a:=A.st) (b:=B.st) (M':=4096) (N:=4096) U a2 U b2;have m2:=El (a:=A.bR) (b:=B.st) (M':=4096) (N:=4096) a3 U U b2;obtain⟨m3,m4⟩:=m1;have R:A.aD.length<=65536:=U;have V:B.aD.length<=65536:=U;obtain⟨m5,m6⟩:=m2;have m7 : -9223372036854775808<=A.st*B.st:=U;have m8:A.st*B.st<=9223372036854775807:=U;have m9 : -9223372036854775808<=A.bR*B.st:=U;have m10:A.bR*B.st<=9223372036854775807:=U;refine aB ?_ ?_<;>intro h1
 ·have z:dB A B=5:=by rw[K,aM h1]
  have Q:jh A B=cE:=by unfold jh;rw[aC (by rw[z];decide)]
  rw[z,Q];refine O ?_;refine lw (parts:=[]) (vs:=[]) rfl rfl rfl ?_;refine fm ?_;intro w Y;exact lM (p:=t) (vs:=[E 0,E 0,nS,nS,nS]) rfl rfl (v':=bI 5) (by rw[cS dc];rfl) rfl (fun j v hv=>lK (i:=0) Y rfl hv) ⟨_,_,_,rfl,yd Y⟩
 rw[aC U]at K;refine O ?_;refine sh [6,6,44,60] (G:=Addr × Value) (fun x=>[(6,.pointer (some x.1))]) (fun x w=>Z w0 w [ak x.1 142 [E (A.st*B.st),E (A.bR*B.st+B.bR),x.2,nS,nS],X W 3 x.2 A.aS,ak t 142 [E 0,E 0,nS,nS,nS],ak L 142 [E B.st,E B.bR,D,be,F],ak pa 142 [E A.st,E A.bR,ac,ae,ag]]) (fun _=>rfl) ?_ ?_
 ·refine wu (.s [0,2,5,7,10,13,1,3,4,6,8,9,11,12,14] (.d 15 [1,3,6,8,11] (.d 16 [] (.c 17 [1,3,6,8,11,14] (.s [18] (.jE []))) (.d 17 [1,3,6,8,11,14] (.s [16,18] (.jE [])) (.stop))) (.d 17 [1,3,6,8,11,14] (.c 15 [1,3,6,8,11] (.s [16,18] (.jE []))) (.stop)))) Y kr kr ?_;clear Y;intro w Y
  refine O ?_;refine jq ?_ (jq ?_ pZ)
  ·refine O ?_
   refine aL rfl (ns (hA.aS.at Y) U) ?_;rintro _ w' ⟨q,rfl,al⟩;refine aI ?_;clear al Y;intro Y;refine O ?_;refine jq ?_ (jq ?_ pZ)
   ·refine O ?_
    have r:=(bk (s:=q) Y).one;refine lw (parts:=[(0,.tmp 48),(1,.tmp 56),(2,.tmp 59)]) (vs:=[(0,E (A.st*B.st)),(1,E (A.bR*B.st+B.bR)),(2,q)]) rfl rfl (by simp only[eD,eN,r];rfl) ?_;refine db ?_;intro p w Y;have r:=(bk (s:=q) Y).one;refine jF (n:=5) (p:=p) (vs:=[E (A.st*B.st),E (A.bR*B.st+B.bR),q,nS,nS]) rfl rfl Y inferInstance rfl rfl (by simp only[eD,eN,r];rfl) ?_;clear Y;intro w Y;refine O ?_;exact⟨(p,q),⟨rfl,az⟩,aU,Y.aY⟩
   refine db ?_;intro p w Y;have r:=(bk (s:=q) Y).one;refine lw (parts:=[(0,.tmp 48),(1,.tmp 56),(2,.tmp 59)]) (vs:=[(0,E (A.st*B.st)),(1,E (A.bR*B.st+B.bR)),(2,q)]) rfl rfl (by simp only[eD,eN,r];rfl) ?_;refine O ?_;have r:=(bk (s:=q) Y).one;refine jF (n:=5) (p:=p) (vs:=[E (A.st*B.st),E (A.bR*B.st+B.bR),q,nS,nS]) rfl rfl Y inferInstance rfl rfl (by simp only[eD,eN,r];rfl) ?_;clear Y;intro w Y;refine O ?_;exact⟨(p,q),⟨rfl,az⟩,aU,Y.aY⟩
  refine db ?_;intro p w Y;refine aL rfl (ns (hA.aS.at Y) U) ?_;rintro _ w' ⟨q,rfl,al⟩;refine aI ?_;clear al Y;intro Y;refine O ?_;have r:=(bk (s:=q) Y).one;refine lw (parts:=[(0,.tmp 48),(1,.tmp 56),(2,.tmp 59)]) (vs:=[(0,E (A.st*B.st)),(1,E (A.bR*B.st+B.bR)),(2,q)]) rfl rfl (by simp only[eD,eN,r];rfl) ?_;refine O ?_;have r:=(bk (s:=q) Y).one;refine jF (n:=5) (p:=p) (vs:=[E (A.st*B.st),E (A.bR*B.st+B.bR),q,nS,nS]) rfl rfl Y inferInstance rfl rfl (by simp only[eD,eN,r];rfl) ?_;clear Y;intro w Y;refine O ?_;exact⟨(p,q),⟨rfl,az⟩,aU,Y.aY⟩
 clear Y;rintro σ ⟨P,q⟩ w Y
 dsimp only at Y
 refine O ?_;have Y:Z w0 w [ak P 142 [E (A.st*B.st),E (A.bR*B.st+B.bR),q,nS,nS],X ah 4 (nS) (ml A B 0),X W 3 q A.aS,ak t 142 [E 0,E 0,nS,nS,nS],ak L 142 [E B.st,E B.bR,D,be,F],ak pa 142 [E A.st,E A.bR,ac,ae,ag]]:=by rw[show ml A B 0=[] from rfl];exact(Y.nil (T:=ah) (e:=4)).aY
 refine dQ [7,8,63,89] (G:=Nat) (H:=Value) (fun i gv=>[(63,E i)]) (fun i gv w=>(i:Int)<=A.st/\Z w0 w [ak P 142 [E (A.st*B.st),E (A.bR*B.st+B.bR),q,nS,gv],X ah 4 gv (ml A B i),X W 3 q A.aS,ak t 142 [E 0,E 0,nS,nS,nS],ak L 142 [E B.st,E B.bR,D,be,F],ak pa 142 [E A.st,E A.bR,ac,ae,ag]]) (fun i _=>A.st.toNat-i) 0 (nS) (fun _ _=>rfl) ⟨rfl,az⟩ ⟨U,Y⟩ ?_;clear Y;rintro σ i gv w ⟨hi,Y⟩;refine aB ?_ ?_<;>intro h2
 ·refine O ?_
  have Y:Z w0 w [ak P 142 [E (A.st*B.st),E (A.bR*B.st+B.bR),q,nS,gv],X ah 4 gv (ml A B i++nP A B i 0),X W 3 q A.aS,ak t 142 [E 0,E 0,nS,nS,nS],ak L 142 [E B.st,E B.bR,D,be,F],ak pa 142 [E A.st,E A.bR,ac,ae,ag]]:=by
   rw[show nP A B i 0=[] from rfl,fS];exact Y
  refine dQ [8,8,68,88] (G:=Nat) (H:=Value) (fun j gv=>[(68,E j)]) (fun j gv w=>(j:Int)<=B.st/\Z w0 w [ak P 142 [E (A.st*B.st),E (A.bR*B.st+B.bR),q,nS,gv],X ah 4 gv (ml A B i++nP A B i j),X W 3 q A.aS,ak t 142 [E 0,E 0,nS,nS,nS],ak L 142 [E B.st,E B.bR,D,be,F],ak pa 142 [E A.st,E A.bR,ac,ae,ag]]) (fun j _=>B.st.toNat-j) 0 gv (fun _ _=>rfl) ⟨rfl,az⟩ ⟨U,Y⟩ ?_;clear Y;rintro σ j gv w ⟨hj,Y⟩;refine aB ?_ ?_<;>intro h3
  ·have r:=K0 A B i
   have _b:=Q7 A B i j;have C:i*B.st.toNat<=4096*4096:=zX U U;have y:(ml A B i++nP A B i j).length<=20000000:=by rw[length_append,r,_b];omega
   refine O ?_;refine fz (pl [0,1,2,3,4,5,6,7,8,9,10,11,12,13,14] (.cI 1::pl [15,16,17] [])) Y kr ?_;clear Y;intro w Y
   repeat refine du ?_
   refine jK ah (x1:=A.aQ.getD i ah.dflt && B.aQ.getD j ah.dflt) rfl rfl rfl (fY rfl) (fe _) Y ?_;clear Y;intro s2 w Y;refine nX ?_;intro s w Y;refine⟨j+1,s,⟨rfl,az⟩,aU,⟨U,?_⟩,U⟩;rw[YM,<-fL];simp only[mM,mI]at Y;exact Y.aY
  have j':j=B.st.toNat:=U;subst j';refine O ?_;exact⟨i+1,gv,⟨rfl,az⟩,aU,⟨U,by rw[KZ];exact Y.aY⟩,U⟩
 have _j:i=A.st.toNat:=U;subst _j;have _k:ml A B A.st.toNat=na A B:=rfl;rw[_k]at Y;refine O ?_;refine fz (pl [0,2,1] (.cI 2::pl [3,4,5] [])) Y kr ?_;clear Y;intro w Y;refine O ?_;refine aL rfl (Rc (S:=A) (hA.at Y) U U (fun e he=>(V' e he).2.2)) ?_;rintro _ w' ⟨lv,ls,rfl,al⟩;refine iM ?_;clear al Y;intro Y;refine O ?_;refine aL rfl (Rc (S:=B) (hB.at Y) U U (fun e he=>(_a e he).2.2)) ?_;rintro _ w' ⟨rv,rs,rfl,al⟩;refine iM ?_;clear al Y;intro Y;have _r:(cQ A).length=A.aS.length:=yM;have _s:(cQ B).length=B.aS.length:=yM;have Y:Z w0 w' [ak P 142 [E (A.st*B.st),E (A.bR*B.st+B.bR),q,nS,gv],X aT 190 (nS) (tz A B 0),aj aT 190 ls (cQ A),X ap 139 lv ls,aj aT 190 rs (cQ B),X ap 139 rv rs,X ah 4 gv (na A B),X W 3 q A.aS,ak t 142 [E 0,E 0,nS,nS,nS],ak L 142 [E B.st,E B.bR,D,be,F]]:=by rw[show tz A B 0=[] from rfl];exact(Y.nil (T:=aT) (e:=190)).aY
 have _t:=(Y.bQ 2 rfl).cb;have _b:=(Y.bQ 4 rfl).cb;have _u:B.aS.length=A.aS.length:=by rw[P']
 obtain⟨w,rfl⟩:=À w';refine O ?_;refine cP [11,12,96,112] (G:=Nat) (fun k=>[(96,E k),(11,E (lG A B k))]) (fun k w=>k<=A.aS.length/\Z w0 w [ak P 142 [E (A.st*B.st),E (A.bR*B.st+B.bR),q,nS,gv],X aT 190 (nS) (tz A B 0),aj aT 190 ls (cQ A),X ap 139 lv ls,aj aT 190 rs (cQ B),X ap 139 rv rs,X ah 4 gv (na A B),X W 3 q A.aS,ak t 142 [E 0,E 0,nS,nS,nS],ak L 142 [E B.st,E B.bR,D,be,F]]) (fun k=>A.aS.length-k) 0 (fun _=>rfl) ⟨rfl,rfl,az⟩ ⟨bu _,Y⟩ ?_;clear Y;rintro σ k w ⟨hk,Y⟩;refine aB ?_ ?_<;>intro h4
 ·have H':k<A.aS.length:=U
  have hM:=HF R V k;have J':=HF R V (k+1);have C:=HE A B k;have g1:((cQ A).getD k []).length<=65536:=pT yc R;have g2:((cQ B).getD k []).length<=65536:=pT yc V;have g3:=El (a:=(((cQ A).getD k []).length:Int)) (b:=(((cQ B).getD k []).length:Int)) (M':=65536) (N:=65536) U U U U;obtain⟨g4,g5⟩:=g3;have g6 : -9223372036854775808<=(((cQ A).getD k []).length:Int)*(((cQ B).getD k []).length:Int):=U;have g7:(((cQ A).getD k []).length:Int)*(((cQ B).getD k []).length:Int)<=9223372036854775807:=U;refine O ?_;refine r8 ?_;clear Y;intro w Y;have y:=(Y.bQ 2 rfl).row (i:=k) U;have r:=(Y.bQ 4 rfl).row (i:=k) U;refine O ?_;exact⟨k+1,⟨rfl,by show Value.int .i64 _=Value.int .i64 _;rw[C,Ci,Ki],az⟩,aU,⟨U,Y.aY⟩,U⟩
 have J':k=A.aS.length:=U;subst J';have _v:=HF R V A.aS.length;have _l:zo A B=lG A B A.aS.length:=rfl;rw[_l]at K;refine aB ?_ ?_<;>intro h5
 ·have z:dB A B=5:=by rw[K,aM U]
  have Q:jh A B=cE:=by unfold jh;rw[aC (by rw[z];decide)]
  rw[z,Q];refine O ?_;refine lw (parts:=[]) (vs:=[]) rfl rfl rfl ?_;refine fm ?_;intro w Y;exact lM (p:=t) (vs:=[E 0,E 0,nS,nS,nS]) rfl rfl (v':=bI 5) (by rw[cS dc];rfl) rfl (fun j v hv=>lK (i:=8) Y rfl hv) ⟨_,_,_,rfl,yd Y⟩
 rw[aC U]at K;have Q:jh A B=⟨A.st*B.st,A.bR*B.st+B.bR,A.aS,iu jg (sG A B),na A B⟩:=by unfold jh;rw[aM K]
 refine O ?_;refine dQ [13,13,15,15,17,17,119,165] (G:=Nat) (H:=Value) (fun l ev=>[(119,E l)]) (fun l ev w=>l<=A.aS.length/\Z w0 w [ak P 142 [E (A.st*B.st),E (A.bR*B.st+B.bR),q,ev,gv],X aT 190 ev (tz A B l),aj aT 190 ls (cQ A),X ap 139 lv ls,aj aT 190 rs (cQ B),X ap 139 rv rs,X ah 4 gv (na A B),X W 3 q A.aS,ak t 142 [E 0,E 0,nS,nS,nS],ak L 142 [E B.st,E B.bR,D,be,F]]) (fun l _=>A.aS.length-l) 0 (nS) (fun _ _=>rfl) ⟨rfl,az⟩ ⟨bu _,Y⟩ ?_;clear Y;rintro σ l ev w ⟨hl,Y⟩;refine aB ?_ ?_<;>intro h6
 ·have _c:l<A.aS.length:=U
  have y:=(Y.bQ 2 rfl).row (i:=l) U;obtain⟨LA,C⟩:=À ((cQ A).getD l []);have _d:∀ e∈LA,e∈A.aD:=fun e he=>((Al (g:=fun e:de=>e.cK) (l:=A.aD) _c).1 (by rw[C]at he;exact he)).1;have _m:LA.length<=65536:=by rw[C];exact pT yc R
  rw[<-C]at y;refine O ?_;have Y:Z w0 w [ak P 142 [E (A.st*B.st),E (A.bR*B.st+B.bR),q,ev,gv],X aT 190 ev (tz A B l++tx A B l 0),aj aT 190 ls (cQ A),X ap 139 lv ls,aj aT 190 rs (cQ B),X ap 139 rv rs,X ah 4 gv (na A B),X W 3 q A.aS,ak t 142 [E 0,E 0,nS,nS,nS],ak L 142 [E B.st,E B.bR,D,be,F]]:=by rw[show tx A B l 0=[] from rfl,fS];exact Y
  refine dQ [15,15,17,17,127,164] (G:=Nat) (H:=Value) (fun j ev=>[(127,E j)]) (fun j ev w=>j<=LA.length/\Z w0 w [ak P 142 [E (A.st*B.st),E (A.bR*B.st+B.bR),q,ev,gv],X aT 190 ev (tz A B l++tx A B l j),aj aT 190 ls (cQ A),X ap 139 lv ls,aj aT 190 rs (cQ B),X ap 139 rv rs,X ah 4 gv (na A B),X W 3 q A.aS,ak t 142 [E 0,E 0,nS,nS,nS],ak L 142 [E B.st,E B.bR,D,be,F]]) (fun j _=>LA.length-j) 0 ev (fun _ _=>rfl) ⟨rfl,az⟩ ⟨bu _,Y⟩ ?_;clear Y y;rintro σ j ev w ⟨hj,Y⟩;have y:=(Y.bQ 2 rfl).row (i:=l) U;rw[<-C]at y;refine aB ?_ ?_<;>intro h7
  ·have _e:j<LA.length:=U
   obtain⟨e,he⟩:=À (LA.getD j aT.dflt);have _f:=_d _ (cH aT.dflt _e);rw[<-he]at _f;obtain⟨⟨e1,e2⟩,⟨e3,e4⟩,_⟩:=V' e _f;refine db ?_;intro pe w Y;have Y:Z w0 w [ak pe 190 [E e.bh,E e.cK,E e.dst],ak P 142 [E (A.st*B.st),E (A.bR*B.st+B.bR),q,ev,gv],X aT 190 ev (tz A B l++tx A B l j++vF B l e 0),aj aT 190 ls (cQ A),X ap 139 lv ls,aj aT 190 rs (cQ B),X ap 139 rv rs,X ah 4 gv (na A B),X W 3 q A.aS,ak t 142 [E 0,E 0,nS,nS,nS],ak L 142 [E B.st,E B.bR,D,be,F]]:=by rw[he,show vF B l (LA.getD j aT.dflt) 0=[] from rfl,fS];exact Y
   have r:=(Y.bQ 5 rfl).row (i:=l) U;obtain⟨LB,z⟩:=À ((cQ B).getD l []);have _g:∀ e∈LB,e∈B.aD:=fun e he=>((Al (g:=fun e:de=>e.cK) (l:=B.aD) (x:=l) (n:=B.aS.length) U).1 (by rw[z]at he;exact he)).1;have _h:LB.length<=65536:=by rw[z];exact pT yc V
   rw[<-z]at r;refine O ?_;refine dQ [17,17,136,163] (G:=Nat) (H:=Value) (fun k ev=>[(136,E k)]) (fun k ev w=>k<=LB.length/\Z w0 w [ak pe 190 [E e.bh,E e.cK,E e.dst],ak P 142 [E (A.st*B.st),E (A.bR*B.st+B.bR),q,ev,gv],X aT 190 ev (tz A B l++tx A B l j++vF B l e k),aj aT 190 ls (cQ A),X ap 139 lv ls,aj aT 190 rs (cQ B),X ap 139 rv rs,X ah 4 gv (na A B),X W 3 q A.aS,ak t 142 [E 0,E 0,nS,nS,nS],ak L 142 [E B.st,E B.bR,D,be,F]]) (fun k _=>LB.length-k) 0 ev (fun _ _=>rfl) ⟨rfl,az⟩ ⟨bu _,Y⟩ ?_;clear Y y r;rintro σ k ev w ⟨hk,Y⟩;have r:=(Y.bQ 5 rfl).row (i:=l) U;rw[<-z]at r;refine aB ?_ ?_<;>intro h8
   ·have H':k<LB.length:=U
    obtain⟨f,hf⟩:=À (LB.getD k aT.dflt);have _i:=_g _ (cH aT.dflt H');rw[<-hf]at _i;obtain⟨⟨f1,f2⟩,⟨f3,f4⟩,_⟩:=_a f _i;refine db ?_;intro p w Y;have Y:Z w0 w [ak p 190 [E f.bh,E f.cK,E f.dst],ak pe 190 [E e.bh,E e.cK,E e.dst],ak P 142 [E (A.st*B.st),E (A.bR*B.st+B.bR),q,ev,gv],X aT 190 ev (tz A B l++tx A B l j++vF B l e k),aj aT 190 ls (cQ A),X ap 139 lv ls,aj aT 190 rs (cQ B),X ap 139 rv rs,X ah 4 gv (na A B),X W 3 q A.aS,ak t 142 [E 0,E 0,nS,nS,nS],ak L 142 [E B.st,E B.bR,D,be,F]]:=by rw[hf];exact Y
    have n1:=El (a:=e.bh) (b:=B.st) (M':=4096) (N:=4096) e1 U U b2;have n2:=El (a:=e.dst) (b:=B.st) (M':=4096) (N:=4096) e3 U U b2;obtain⟨n3,n4⟩:=n1;obtain⟨n5,n6⟩:=n2;have n7 : -9223372036854775808<=e.bh*B.st:=U;have n8:e.bh*B.st<=9223372036854775807:=U;have n9 : -9223372036854775808<=e.dst*B.st:=U;have n10:e.dst*B.st<=9223372036854775807:=U
    repeat refine du ?_
    have q1:=K2 A B l;have q2:=YN A B hl;have q3:(tx A B l j).length<=65536*65536:=by
     rw[K1 (by rw[<-C];omega),<-z];exact zX U _h
    have q4:(vF B l e k).length=k:=Rb (by rw[<-z];exact hk);have q5:(tz A B l++tx A B l j++vF B l e k).length<=5000000000:=by rw[length_append,length_append,q1,q4];omega
    refine jK aT (x1:=⟨e.bh*B.st+f.bh,(l:Int),e.dst*B.st+f.dst⟩) rfl rfl rfl (fY rfl) (fe _) Y ?_;clear Y r;intro s2 w Y;refine nX ?_;intro s w Y;simp only[mM,mI]at Y;refine⟨k+1,s,⟨rfl,az⟩,aU,⟨U,?_⟩,U⟩;rw[YO (by rw[<-z];exact H'),<-fL,<-z,<-hf];unfold zn;exact Y.aY
   have J':k=LB.length:=U;subst J';refine O ?_;refine⟨j+1,ev,⟨rfl,az⟩,aU,⟨U,?_⟩,U⟩;rw[Ra (by rw[<-C];exact _e),<-fL,<-C,<-he,<-z];exact Y.aY
  have j':j=LA.length:=U;subst j';refine O ?_;refine⟨l+1,ev,⟨rfl,az⟩,aU,⟨U,?_⟩,U⟩;rw[Q9,<-C];exact Y.aY
 have y:l=A.aS.length:=U;subst y;rw[Q8]at Y;have hlen:(sG A B).length<=65536:=by rw[<-Q8,K2];omega
 refine O ?_;have Y:Z w0 w [X aT 190 ev (sG A B),ak P 142 [E (A.st*B.st),E (A.bR*B.st+B.bR),q,ev,gv],X ah 4 gv (na A B),X W 3 q A.aS,ak t 142 [E 0,E 0,nS,nS,nS]]:=Y.aY;refine aL rfl (YQ (s:=ev) (xs:=sG A B) Y U) ?_;rintro _ w' ⟨rfl,r⟩;clear Y;have Y:=r;clear r;refine⟨_,rfl,?_⟩;rw[K,Q];have z:=(bk (s:=ev) Y).one;have C:=(bk (s:=gv) Y).one;have o3:=(bk (s:=q) Y).one;refine O ?_;refine jF (n:=5) (p:=t) (vs:=[E (A.st*B.st),E (A.bR*B.st+B.bR),q,ev,gv]) rfl rfl Y inferInstance rfl rfl (by simp only[eD,eN,z,C,o3];rfl) ?_;clear Y;intro w Y;refine O ?_;refine lM (p:=t) (vs:=[E (A.st*B.st),E (A.bR*B.st+B.bR),q,ev,gv]) rfl rfl (v':=bI 0) (by rw[fK rfl];rfl) rfl (fun j v hv=>lK (i:=4) Y rfl hv) ⟨q,ev,gv,rfl,?_⟩;exact Y.aY
def ie (g:List Bool)(c:J)(k m:Nat):List Bool:=(List.range k).map fun (x:Nat)=>(List.range m).any fun s=>decide (c.getD s W.dflt=(x:Int)) && g.getD s ah.dflt
def Em:(ie g c k m).length=k:=by simp[ie]
def YR:ie g c k 0=replicate k false:=by
 apply iB (by simp[ie]);intro i h1 a;simp[ie]
def HG {i:Nat}(hi:i<k):(ie g c k m).getD i ah.dflt=(List.range m).any fun s=>decide (c.getD s W.dflt=(i:Int)) && g.getD s ah.dflt:=by
 unfold ie;rw[iD,tr,GN hi];rfl
def YS (q:0<=c.getD m W.dflt)(h1:c.getD m W.dflt<k) :
  ie g c k (m+1)=(ie g c k m).set (c.getD m W.dflt).toNat ((ie g c k m).getD (c.getD m W.dflt).toNat ah.dflt || g.getD m ah.dflt):=by
 apply iB (by rw[gY,Em,Em]);intro i f j;have a:i<k:=by rwa[Em]at f
 have n:(ie g c k (m+1))[i]=(ie g c k (m+1)).getD i ah.dflt:=(am f).symm;have a2:=(am (d:=ah.dflt) j).symm;rw[n,a2,kB,Em,HG a,l5,any_append];simp only[any_cons,any_nil,Kx];by_cases e:(c.getD m W.dflt).toNat=i
 ·have b:c.getD m W.dflt=(i:Int):=U
  rw[aM ⟨e,a⟩,e,HG a,b];simp only[decide_true,CK]
 have b:¬c.getD m W.dflt=(i:Int):=U;rw[aC (fun h=>e h.1),HG a];simp only[b,decide_false,Br,Kx]
def Re {cl:Value}(z:cX w0 u o sg S)(hv:dR S)(hc:RS W w0 cl c) :
  Calls ai 149 #[cM S u o sg,cl] w0 fun e w'=>∃ cv ev gv,e=.returned (.tuple #[cM (kC S c) cv ev gv,bI (fx S c)])/\s8 w0 w' cv ev gv (kC S c):=by
 have Y:=Z.start w0;have oS:=z.mi;have R':=z.aQ;have T':=z.aD;have D:=Cv hv;obtain⟨a1,a2,a3,a4,a5,a6,a7,V',N,_⟩:=id hv;obtain⟨n,t⟩:∃ n:Nat,S.st=(n:Int):=⟨S.st.toNat,U⟩
 refine bA an Tryz.func149 ?_;unfold cM;rw[t]at oS ⊢
 repeat (first|refine du ?_|(refine gX ?_;clear Y;intro p w Y))
 rename_i A ws;obtain⟨y,rfl⟩:=À p;have Y:Z w0 w [ak y 142 [E 0,E 0,nS,nS,nS],ak A 142 [E n,E S.bR,u,o,sg]]:=Y;refine aL rfl (YI (n:=n) (hc.at Y) U) ?_;rintro _ w' ⟨⟨f,rfl,P⟩,al⟩;refine aA ?_;clear al Y;intro Y;refine O ?_;refine aL rfl (by have:=Ei (S:=S) (z.at Y);unfold cM at this;rw[t]at this;exact this) ?_;refine gZ ?_;clear Y;intro w' Y;rw[D];by_cases r:ln c n=true
 case neg =>
  have F:fx S c=2:=by unfold fx;rw[t,aC (fun h=>r h.2)]
  have Q:kC S c=cE:=by unfold kC;rw[aC (by rw[F];decide)]
  rw[F,Q];rw[tt]at r;rw[r];refine O ?_;refine lw (parts:=[]) (vs:=[]) rfl rfl rfl ?_;refine fm ?_;intro w Y;exact lM (p:=y) (vs:=[E 0,E 0,nS,nS,nS]) rfl rfl (v':=bI 2) (by rw[cS dc];rfl) rfl (fun j v hv=>lK (i:=0) Y rfl hv) ⟨_,_,_,rfl,yd Y⟩
 rw[r];obtain⟨R,_a,bL⟩:=P r;have F:fx S c=0:=by unfold fx;rw[t,aM ⟨D,r⟩]
 have Q:kC S c=⟨f,c.getD S.bR.toNat W.dflt,S.aS,lL (iu jg (S.aD.map (rA c))),sH S.aQ c f.toNat⟩:=by unfold kC;rw[aM F,t,<-R]
 rw[F,Q];obtain⟨k1,k2,k3,k4⟩:=bL;have _b:f<=n:=by
  rcases Int.lt_or_le (n:Int) f with h|h
  ·have:=(k2 _ (k4 n U h)).2;omega
  exact h
 have V:∀ i:Nat,i<n->0<=c.getD i W.dflt/\c.getD i W.dflt<f:=fun i hi=>by
  have hm:c.getD i W.dflt∈c:=cH W.dflt U;exact⟨(k2 _ hm).1,k3 _ hm⟩
 refine O ?_;refine sh [8,8,29,40] (G:=Addr × Value × Value) (fun x=>[(8,.pointer (some x.1))]) (fun x w=>Z w0 w [ak x.1 142 [E f,E (c.getD S.bR.toNat W.dflt),x.2.1,nS,x.2.2],X ah 4 x.2.2 (replicate f.toNat false),X W 3 x.2.1 S.aS,ak y 142 [E 0,E 0,nS,nS,nS],ak A 142 [E n,E S.bR,u,o,sg]]) (fun _=>rfl) ?_ ?_
 ·refine wu (.s [0,1,2,6,9,3,4,5,7] (.d 8 [3,5] (.d 10 [3,5,7] (.d 11 [] (.c 12 [3,5,7] (.s [13] (.jE []))) (.d 12 [3,5,7] (.s [11,13] (.jE [])) (.stop))) (.d 12 [3,5,7] (.c 10 [3,5,7] (.s [11,13] (.jE []))) (.stop))) (.d 10 [3,5,7] (.d 8 [3,5] (.d 11 [] (.c 12 [3,5,7] (.s [13] (.jE []))) (.d 12 [3,5,7] (.s [11,13] (.jE [])) (.stop))) (.d 12 [3,5,7] (.c 8 [3,5] (.s [11,13] (.jE []))) (.stop))) (.d 12 [3,5,7] (.d 8 [3,5] (.c 10 [3,5,7] (.s [11,13] (.jE []))) (.d 10 [3,5,7] (.c 8 [3,5] (.s [11,13] (.jE []))) (.stop))) (.stop))))) Y kr kr ?_;clear Y;intro w Y
  refine O ?_;refine jq ?_ (jq ?_ (jq ?_ pZ))
  ·refine O ?_
   refine aL rfl (ns (z.aS.at Y) U) ?_;rintro _ w' ⟨b,rfl,al⟩;refine aI ?_;clear al Y;intro Y;refine O ?_;refine jq ?_ (jq ?_ pZ)
   ·refine nX ?_;intro s w Y
    refine jq ?_ (jq ?_ pZ)
    ·refine O ?_
     refine lw (parts:=[(0,.tmp 29),(1,.tmp 34),(2,.tmp 37),(4,.tmp 39)]) (vs:=[(0,E f),(1,E (c.getD S.bR.toNat W.dflt)),(2,b),(4,s)]) rfl rfl (by simp only[eD,eN,(bk (s:=b) Y).one,(bk (s:=s) Y).one];rfl) ?_;refine db ?_;intro p w Y;refine jF (n:=5) (p:=p) (vs:=[E f,E (c.getD S.bR.toNat W.dflt),b,nS,s]) rfl rfl Y inferInstance rfl rfl (by simp only[eD,eN,(bk (s:=b) Y).one,(bk (s:=s) Y).one];rfl) ?_;clear Y;intro w Y;refine O ?_;exact⟨(p,b,s),⟨rfl,az⟩,aU,Y.aY⟩
    refine db ?_;intro p w Y;refine lw (parts:=[(0,.tmp 29),(1,.tmp 34),(2,.tmp 37),(4,.tmp 39)]) (vs:=[(0,E f),(1,E (c.getD S.bR.toNat W.dflt)),(2,b),(4,s)]) rfl rfl (by simp only[eD,eN,(bk (s:=b) Y).one,(bk (s:=s) Y).one];rfl) ?_;refine O ?_;refine jF (n:=5) (p:=p) (vs:=[E f,E (c.getD S.bR.toNat W.dflt),b,nS,s]) rfl rfl Y inferInstance rfl rfl (by simp only[eD,eN,(bk (s:=b) Y).one,(bk (s:=s) Y).one];rfl) ?_;clear Y;intro w Y;refine O ?_;exact⟨(p,b,s),⟨rfl,az⟩,aU,Y.aY⟩
   repeat (first|refine du ?_|(refine gX ?_;clear Y;intro p w Y)|(refine fA ?_;clear Y;intro s w Y))
   refine lw (parts:=[(0,.tmp 29),(1,.tmp 34),(2,.tmp 37),(4,.tmp 39)]) (vs:=[(0,E f),(1,E (c.getD S.bR.toNat W.dflt)),(2,b),(4,s)]) rfl rfl (by simp only[eD,eN,(bk (s:=b) Y).one,(bk (s:=s) Y).one];rfl) ?_;refine O ?_;refine jF (n:=5) (p:=p) (vs:=[E f,E (c.getD S.bR.toNat W.dflt),b,nS,s]) rfl rfl Y inferInstance rfl rfl (by simp only[eD,eN,(bk (s:=b) Y).one,(bk (s:=s) Y).one];rfl) ?_;clear Y;intro w Y;refine O ?_;exact⟨(p,b,s),⟨rfl,az⟩,aU,Y.aY⟩
  ·refine nX ?_;intro s w Y
   refine jq ?_ (jq ?_ pZ)
   ·refine O ?_
    refine aL rfl (ns (z.aS.at Y) U) ?_;rintro _ w' ⟨b,rfl,al⟩;refine aI ?_;clear al Y;intro Y;refine O ?_;refine jq ?_ (jq ?_ pZ)
    ·refine O ?_
     refine lw (parts:=[(0,.tmp 29),(1,.tmp 34),(2,.tmp 37),(4,.tmp 39)]) (vs:=[(0,E f),(1,E (c.getD S.bR.toNat W.dflt)),(2,b),(4,s)]) rfl rfl (by simp only[eD,eN,(bk (s:=b) Y).one,(bk (s:=s) Y).one];rfl) ?_;refine db ?_;intro p w Y;refine jF (n:=5) (p:=p) (vs:=[E f,E (c.getD S.bR.toNat W.dflt),b,nS,s]) rfl rfl Y inferInstance rfl rfl (by simp only[eD,eN,(bk (s:=b) Y).one,(bk (s:=s) Y).one];rfl) ?_;clear Y;intro w Y;refine O ?_;exact⟨(p,b,s),⟨rfl,az⟩,aU,Y.aY⟩
    refine db ?_;intro p w Y;refine lw (parts:=[(0,.tmp 29),(1,.tmp 34),(2,.tmp 37),(4,.tmp 39)]) (vs:=[(0,E f),(1,E (c.getD S.bR.toNat W.dflt)),(2,b),(4,s)]) rfl rfl (by simp only[eD,eN,(bk (s:=b) Y).one,(bk (s:=s) Y).one];rfl) ?_;refine O ?_;refine jF (n:=5) (p:=p) (vs:=[E f,E (c.getD S.bR.toNat W.dflt),b,nS,s]) rfl rfl Y inferInstance rfl rfl (by simp only[eD,eN,(bk (s:=b) Y).one,(bk (s:=s) Y).one];rfl) ?_;clear Y;intro w Y;refine O ?_;exact⟨(p,b,s),⟨rfl,az⟩,aU,Y.aY⟩
   refine db ?_;intro p w Y;refine aL rfl (ns (z.aS.at Y) U) ?_;rintro _ w' ⟨b,rfl,al⟩;refine aI ?_;clear al Y;intro Y;refine O ?_;refine lw (parts:=[(0,.tmp 29),(1,.tmp 34),(2,.tmp 37),(4,.tmp 39)]) (vs:=[(0,E f),(1,E (c.getD S.bR.toNat W.dflt)),(2,b),(4,s)]) rfl rfl (by simp only[eD,eN,(bk (s:=b) Y).one,(bk (s:=s) Y).one];rfl) ?_;refine O ?_;refine jF (n:=5) (p:=p) (vs:=[E f,E (c.getD S.bR.toNat W.dflt),b,nS,s]) rfl rfl Y inferInstance rfl rfl (by simp only[eD,eN,(bk (s:=b) Y).one,(bk (s:=s) Y).one];rfl) ?_;clear Y;intro w Y;refine O ?_;exact⟨(p,b,s),⟨rfl,az⟩,aU,Y.aY⟩
  refine db ?_;intro p w Y;refine jq ?_ (jq ?_ pZ)
  ·refine O ?_
   refine aL rfl (ns (z.aS.at Y) U) ?_;rintro _ w' ⟨b,rfl,al⟩;refine aI ?_;clear al Y;intro Y;refine nX ?_;intro s w Y;refine lw (parts:=[(0,.tmp 29),(1,.tmp 34),(2,.tmp 37),(4,.tmp 39)]) (vs:=[(0,E f),(1,E (c.getD S.bR.toNat W.dflt)),(2,b),(4,s)]) rfl rfl (by simp only[eD,eN,(bk (s:=b) Y).one,(bk (s:=s) Y).one];rfl) ?_;refine O ?_;refine jF (n:=5) (p:=p) (vs:=[E f,E (c.getD S.bR.toNat W.dflt),b,nS,s]) rfl rfl Y inferInstance rfl rfl (by simp only[eD,eN,(bk (s:=b) Y).one,(bk (s:=s) Y).one];rfl) ?_;clear Y;intro w Y;refine O ?_;exact⟨(p,b,s),⟨rfl,az⟩,aU,Y.aY⟩
  refine nX ?_;intro s w Y;refine aL rfl (ns (z.aS.at Y) U) ?_;rintro _ w' ⟨b,rfl,al⟩;refine aI ?_;clear al Y;intro Y;refine O ?_;refine lw (parts:=[(0,.tmp 29),(1,.tmp 34),(2,.tmp 37),(4,.tmp 39)]) (vs:=[(0,E f),(1,E (c.getD S.bR.toNat W.dflt)),(2,b),(4,s)]) rfl rfl (by simp only[eD,eN,(bk (s:=b) Y).one,(bk (s:=s) Y).one];rfl) ?_;refine O ?_;refine jF (n:=5) (p:=p) (vs:=[E f,E (c.getD S.bR.toNat W.dflt),b,nS,s]) rfl rfl Y inferInstance rfl rfl (by simp only[eD,eN,(bk (s:=b) Y).one,(bk (s:=s) Y).one];rfl) ?_;clear Y;intro w Y;refine O ?_;exact⟨(p,b,s),⟨rfl,az⟩,aU,Y.aY⟩
 clear Y;rintro σ ⟨K,b,q⟩ w Y
 dsimp only at Y
 rw[<-YR (g:=S.aQ) (c:=c)]at Y;have j':∀ m,(ie S.aQ c f.toNat m).length=f.toNat:=fun m=>Em;refine O ?_;refine cP [9,10,44,67] (G:=Nat) (fun m=>[(44,E m)]) (fun m w=>m<=S.aQ.length/\Z w0 w [ak K 142 [E f,E (c.getD S.bR.toNat W.dflt),b,nS,q],X ah 4 q (ie S.aQ c f.toNat m),X W 3 b S.aS,ak y 142 [E 0,E 0,nS,nS,nS],ak A 142 [E n,E S.bR,u,o,sg]]) (fun m=>S.aQ.length-m) 0 (fun _=>rfl) ⟨rfl,az⟩ ⟨bu _,Y⟩ ?_;clear Y;rintro σ m w ⟨hm,Y⟩;have P':=j' m;refine aB ?_ ?_<;>intro h2
 ·have C:m<S.aQ.length:=U
  have L:=V m U;have H':=YS (g:=S.aQ) (c:=c) (k:=f.toNat) (m:=m) L.1 U;obtain⟨J',_c⟩:=L;refine O ?_;refine fz (pl [0,1,2,3,4,5,6,7,8,9,10,11,12,13,14,15,16,17,18] []) Y kr ?_;clear Y;intro w Y;refine iE ?_;intro w Y;rw[<-H']at Y;exact⟨m+1,⟨rfl,az⟩,aU,⟨U,Y.aY⟩,U⟩
 have H':m=S.aQ.length:=U;subst H';have J':ie S.aQ c f.toNat S.aQ.length=sH S.aQ c f.toNat:=rfl;rw[J']at Y;have Y:Z w0 w [ak K 142 [E f,E (c.getD S.bR.toNat W.dflt),b,nS,q],X ah 4 q (sH S.aQ c f.toNat),X aT 190 (nS) [],X W 3 b S.aS,ak y 142 [E 0,E 0,nS,nS,nS],ak A 142 [E n,E S.bR,u,o,sg]]:=(Y.nil (T:=aT) (e:=190)).aY;refine O ?_;refine dQ [12,12,71,93] (G:=Nat) (H:=Value) (fun m ev=>[(71,E m)]) (fun m ev w=>m<=S.aD.length/\Z w0 w [ak K 142 [E f,E (c.getD S.bR.toNat W.dflt),b,ev,q],X ah 4 q (sH S.aQ c f.toNat),X aT 190 ev ((S.aD.take m).map (rA c)),X W 3 b S.aS,ak y 142 [E 0,E 0,nS,nS,nS],ak A 142 [E n,E S.bR,u,o,sg]]) (fun m _=>S.aD.length-m) 0 (nS) (fun _ _=>rfl) ⟨rfl,az⟩ ⟨bu _,Y⟩ ?_;clear Y;rintro σ m ev w ⟨hm,Y⟩;refine aB ?_ ?_<;>intro h3
 ·have C:m<S.aD.length:=U
  obtain⟨a,ha⟩:=À (S.aD.getD m aT.dflt);have L:=N _ (cH aT.dflt C);rw[<-ha]at L;obtain⟨⟨e1,e2⟩,⟨e3,e4⟩,_⟩:=L;refine db ?_;intro p w Y;have Y:Z w0 w [ak p 190 [E a.bh,E a.cK,E a.dst],ak K 142 [E f,E (c.getD S.bR.toNat W.dflt),b,ev,q],X ah 4 q (sH S.aQ c f.toNat),X aT 190 ev ((S.aD.take m).map (rA c)),X W 3 b S.aS,ak y 142 [E 0,E 0,nS,nS,nS],ak A 142 [E n,E S.bR,u,o,sg]]:=by rw[ha];exact Y
  refine fz (pl [0,1,2,3,4,5,6,7,8,9,10,11,12,13,14] (.cI 1::pl [15] (.cI 1::pl [16,17,18] []))) Y kr ?_;clear Y;intro w Y
  repeat refine du ?_
  refine jK aT (x1:=⟨c.getD a.bh.toNat W.dflt,a.cK,c.getD a.dst.toNat W.dflt⟩) rfl rfl rfl (fY rfl) (fe _) Y ?_;clear Y;intro s2 w Y;have _c:((S.aD.take m).map (rA c)).length=m:=by rw[iz,jd];omega
  refine nX ?_;intro s w Y;simp only[mM,mI]at Y;refine⟨m+1,s,⟨rfl,az⟩,aU,⟨U,?_⟩,U⟩;rw[eC aT.dflt C,oh,<-ha,show List.map (rA c) [a]=[⟨c.getD a.bh.toNat W.dflt,a.cK,c.getD a.dst.toNat W.dflt⟩] from rfl];exact Y.aY
 rw[gH U]at Y;refine O ?_;have Y:Z w0 w [X aT 190 ev (S.aD.map (rA c)),ak K 142 [E f,E (c.getD S.bR.toNat W.dflt),b,ev,q],X ah 4 q (sH S.aQ c f.toNat),X W 3 b S.aS,ak y 142 [E 0,E 0,nS,nS,nS],ak A 142 [E n,E S.bR,u,o,sg]]:=Y.aY;refine aL rfl (YK (s:=ev) (xs:=S.aD.map (rA c)) Y (by rw[iz];omega)) ?_;rintro _ w' ⟨ex,rfl,C⟩;clear Y;have Y:=C;clear C;refine⟨_,rfl,?_⟩;refine iE ?_;intro w Y;simp only[mM,mI]at Y;have L:=(bk (s:=ex) Y).one;have o2:=(bk (s:=q) Y).one;have o3:=(bk (s:=b) Y).one;refine jF (n:=5) (p:=y) (vs:=[E f,E (c.getD S.bR.toNat W.dflt),b,ex,q]) rfl rfl Y inferInstance rfl rfl (by simp only[eD,eN,L,o2,o3];rfl) ?_;clear Y;intro w Y;refine O ?_;refine lM (p:=y) (vs:=[E f,E (c.getD S.bR.toNat W.dflt),b,ex,q]) rfl rfl (v':=bI 0) (by rw[fK rfl];rfl) rfl (fun j v hv=>lK (i:=4) Y rfl hv) ⟨b,ex,q,rfl,?_⟩;exact Y.aY
end Go.Proofs.YtmapkjoefdgjfaaGreatDoor
