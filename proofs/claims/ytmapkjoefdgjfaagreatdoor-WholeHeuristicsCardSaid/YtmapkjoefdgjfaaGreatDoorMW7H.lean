/- Several texts. -/
import Derived.Test.YtmapkjoefdgjfaaGreatDoorMW6H
set_option linter.unusedSimpArgs false
set_option linter.unusedVariables false
set_option linter.defProp false
set_option maxRecDepth 8000
set_option maxHeartbeats 16000000
open List Nat
namespace Go.Proofs.YtmapkjoefdgjfaaGreatDoor
open Go.Sl Go
variable {w0:World}{c:J}{k l m:Nat}{g:List Bool}{B S:ct}{u o sg:Value}
attribute [local irreducible] vc opsW opsD opV opW PureV ReadV Thn Blk
noncomputable def tb (S:ct):J:=if jY S=true then oI S else []
def Tv (y:dE w0 u o sg S)(hT:nF w0) :
  Calls ak 147 #[df S u o sg] w0 fun e w'=>∃ v,e=.returned (.tuple #[v,bS (jI S)])/\(jY S=true->∃ L:List ByteArray,L.length=S.st.toNat/\oI S=dX L)/\Z w0 w' [X W 3 v (tb S)]:=by
 have Y:=Z.start w0;have oS:=y.nG;have j':=y.aW;refine bI ar Tryz.func147 ?_;unfold df;refine dj ?_;intro p w Y;have Y:Z w0 w [am p 142 [E S.st,E S.cj,u,o,sg]]:=Y;obtain⟨z,rfl⟩:=À p;refine aR rfl (F5 (S:=S) (y.at Y)) ?_;refine gk ?_;clear Y;intro w' Y;by_cases hv:jY S=true
 case neg =>
  rw[tL]at hv;rw[hv];have A:jI S=2:=by unfold jI;rw[aM (by rw[hv];simp)]
  have C:tb S=[]:=by unfold tb;rw[aM (by rw[hv];simp)]
  rw[A,C];refine O ?_;exact dw (v:=nS) (v':=.iface 57 (E 2)) rfl rfl rfl ⟨nS,by rw[c9 dc],(fun h=>by simp[hv]at h),(iH Y).nil⟩
 rw[hv];have t:cW S:=oE fun h=>by rw[xP h]at hv;cases hv
 have A:jI S=0:=by unfold jI;rw[ba hv]
 have C:tb S=oI S:=by unfold tb;rw[ba hv]
 rw[A,C];obtain⟨a1,a2,a3,a4,a5,a6,a7,_⟩:=id t;obtain⟨n,D⟩:=À S.st.toNat;have H':S.st=(n:Int):=U;have F:S.aW.length=n:=U;refine O ?_;refine Ct l6 ⟨#[]⟩ rfl rfl rfl rfl U U U Y ?_;clear Y;intro R w Y;rw[show S.st.toNat=n from D.symm]at Y;refine O ?_;refine de [5,6,21,31] (G:=Nat) (fun k=>[(21,E k)]) (fun k w=>k<=n/\Z w0 w [X l6 9 R ((S.aW.take k).map lJ++replicate (n-k) ⟨#[]⟩),am z 142 [E S.st,E S.cj,u,o,sg]]) (fun k=>n-k) 0 (fun _=>rfl) ⟨rfl,az⟩ ⟨bC _,Y⟩ ?_;clear Y;rintro σ k w ⟨hk,Y⟩;have f:((S.aW.take k).map lJ).length=k:=by rw[lA,jC];omega
 have J':((S.aW.take k).map lJ++replicate (n-k) (⟨#[]⟩:ByteArray)).length=n:=by rw[length_append,f,mp];omega
 refine aC ?_ ?_<;>intro h2
 ·have b:k<n:=U
  refine O ?_;refine aR rfl (ę (S.aW.getD k ah.dflt)) ?_;refine xu ?_;intro w Y;refine⟨k+1,⟨rfl,az⟩,aX,⟨U,?_⟩,U⟩;have e:((S.aW.take k).map lJ++replicate (n-k) (⟨#[]⟩:ByteArray)).set k (lJ (S.aW.getD k ah.dflt))=(S.aW.take (k+1)).map lJ++replicate (n-(k+1)) ⟨#[]⟩:=by
   have d:n-k=(n-(k+1))+1:=U;rw[d,Cz,eX ah.dflt (show k<S.aW.length by omega),qG,fk,xQ _ _ (by rw[f];exact cP _),f,pW];rfl
  rw[e]at Y;exact Y.bj
 have K:k=n:=U;rw[K,pW,Bk,gj,io U]at Y;have N:(S.aW.map lJ).length=n:=by rw[lA];exact F
 refine O ?_;refine aR rfl (Tw (L:=S.aW.map lJ) (bB (s:=R) Y) U) ?_;rintro _ w' ⟨a,rfl,aw⟩;refine aO ?_;clear aw Y;intro Y;have Y:Z w0 w' [X W 3 a (dX (S.aW.map lJ)),am z 142 [E S.st,E S.cj,u,o,sg]]:=Y.bj;refine O ?_;refine dP [2,3,7,10,37,48] (G:=List ByteArray) (H:=Value) (fun L a=>[(7,a),(8,E ((cR L).length:Nat))]) (fun L a w=>L.length=n/\(∃ j,ln (jc S) j (pK S)=(dX L,(cR L).length,false))/\Z w0 w [X W 3 a (dX L),am z 142 [E S.st,E S.cj,u,o,sg]]) (fun L _=>n+1-(cR L).length) (S.aW.map lJ) a (fun _ _=>rfl) ⟨rfl,rfl,az⟩ ⟨N,⟨0,rfl⟩,Y⟩ ?_;clear Y;rintro σ L a w ⟨P',⟨j,hj⟩,Y⟩;have R':=BC L;have q:ln (jc S) (j+1) (pK S)=(dX (jr S (dX L)),(cR (jr S (dX L))).length,decide ((cR (jr S (dX L))).length=(cR L).length)):=by
  show jc S (ln (jc S) j (pK S))=_;rw[hj];rfl
 have r:=Tx (S:=S) (l:=L) U;refine O ?_;refine aR rfl (Ě (S:=S) (c:=dX L) (y.at Y) t (hT.at Y) (bB (s:=a) Y) (by rw[Au];omega) (fun i T=>?_)) ?_
 ·rw[Au]at T
  have:=Er T;omega
 rintro _ w' ⟨P,rfl,aw⟩;refine aO ?_;clear aw Y;intro Y;obtain⟨b,x⟩:=À (jr S (dX L));have d:b.length=n:=by rw[x,Tz];exact D.symm
 rw[<-x]at Y q r ⊢;refine aC ?_ ?_<;>intro h3
 ·have V:ln (jc S) (j+1) (pK S)=(dX b,(cR b).length,true):=by rw[q,dH U]
  have Q:oI S=dX b:=by
   unfold oI;rw[li (TA S) (n:=j+1) (by rw[V];rfl),V]
  have hex:∃ L':List ByteArray,L'.length=S.st.toNat/\dX b=dX L':=⟨b,by rw[d,D],rfl⟩
  rw[Q];refine O ?_;exact dw (v:=P) (v':=.nilIface) rfl rfl rfl ⟨P,by rw[ff rfl],fun _=>hex,Y.bj⟩
 have Q:=BC b;refine O ?_;exact⟨b,P,⟨rfl,rfl,az⟩,aX,⟨d,⟨j+1,by rw[q,dB U]⟩,Y.bj⟩,U⟩
def ě {v:Value}(r:RS ah w0 v g)(t:g.length<=65536) :
  Calls ak 169 #[v] w0 fun e w'=>e=.returned (.tuple #[E ((sN g).1:Nat),E ((sN g).2:Nat)])/\Z w0 w' []:=by
 have Y:=Z.start w0;refine bI ar Tryz.func169 ?_;refine O ?_;refine de [2,5,9,29] (G:=Nat) (fun K=>[(4,E ((K:Int)-1))]) (fun K w=>K<=g.length/\BD g K=sN g/\Z w0 w []) (fun K=>K) g.length (fun _=>rfl) ⟨rfl,az⟩ ⟨cP _,rfl,Y⟩ ?_;clear Y;rintro n K w ⟨x,d,Y⟩;refine aC ?_ ?_<;>intro h1
 ·obtain⟨k,rfl⟩:∃ k,K=k+1:=⟨K-1,U⟩
  have f:k≠0:=U;unfold BD at d;rw[aM f]at d;have q:(((k+1:Nat):Int)-1)=(k:Int):=U;rw[q];refine O ?_;refine de [2,3,5,5,15,29] (G:=Nat) (fun b=>[(5,E ((b:Int)-1))]) (fun b w=>b<=k/\BE g k b=BE g k k/\Z w0 w []) (fun b=>b) k (fun _=>rfl) ⟨rfl,az⟩ ⟨cP _,rfl,Y⟩ ?_;clear Y;rintro n b w ⟨y,a,Y⟩;refine aC ?_ ?_<;>intro z
  ·obtain⟨i,rfl⟩:∃ i,b=i+1:=⟨b-1,U⟩
   have j:(((i+1:Nat):Int)-1)=(i:Int):=U;rw[j];rw[show BE g k (i+1)=if g.getD i ah.dflt=g.getD k ah.dflt then some i else BE g k i from rfl]at a;refine dD ?_;intro w Y;by_cases he:g.getD i ah.dflt=g.getD k ah.dflt
   ·rw[ba he]at a
    rw[<-a]at d;have hq:(g.getD i ah.dflt == g.getD k ah.dflt)=true:=by rw[he];exact yk _
    rw[hq];refine O ?_;exact dw (v:=E (i:Nat)) (v':=E (k:Nat)) rfl rfl rfl ⟨by rw[<-d],Y⟩
   rw[aM he]at a;have hq:(g.getD i ah.dflt == g.getD k ah.dflt)=false:=by rw[beq_eq_false_iff_ne];exact he
   rw[hq];refine O ?_;exact⟨i,⟨rfl,az⟩,aX,⟨U,a,Y⟩,U⟩
  have j:b=0:=U;subst j;rw[<-a]at d;refine O ?_;exact⟨k,⟨rfl,az⟩,aX,⟨U,d,Y⟩,U⟩
 have a:sN g=(0,1):=by
  rw[<-d];rcases pB K 1 with h|h
  ·have:K=0:=U
   subst this;rfl
  have:K=1:=U;subst this;rfl
 rw[a];refine O ?_;exact dw (v:=E 0) (v':=E 1) rfl rfl rfl ⟨rfl,Y⟩
noncomputable def vK (S:ct)(most:Int):J:=if jY S=true then iy S most else []
def Ĝ {most:Int}(hS:dE w0 u o sg S)(hT:nF w0) :
  Calls ak 146 #[df S u o sg,E most] w0 fun e w'=>∃ v,e=.returned (.tuple #[v,bS (jI S)])/\(jY S=true->0<(iy S most).length/\∀ x∈iy S most,0<=x/\x<=65536)/\Z w0 w' [X W 3 v (vK S most)]:=by
 have Y:=Z.start w0;have oS:=hS.nG;have _k:=hS.aW;refine bI ar Tryz.func146 ?_;unfold df;refine dj ?_;intro p w Y;have Y:Z w0 w [am p 142 [E S.st,E S.cj,u,o,sg]]:=Y;obtain⟨T,rfl⟩:=À p;refine aR rfl (Tv (S:=S) (hS.at Y) (hT.at Y)) ?_;rintro _ w' ⟨t,rfl,R',aw⟩;refine aO ?_;clear aw Y;intro Y;by_cases hv:jY S=true
 case neg =>
  have hE:jI S=2:=by unfold jI;rw[aM hv]
  have hR:vK S most=[]:=by unfold vK;rw[aM hv]
  rw[hE,hR,c9 dc];refine O ?_;exact dw (v:=nS) (v':=.iface 57 (E 2)) rfl rfl rfl ⟨nS,rfl,(fun h=>absurd h hv),(iH Y).nil⟩
 have T':cW S:=oE fun h=>by rw[xP h]at hv;cases hv
 have hE:jI S=0:=by unfold jI;rw[ba hv]
 have hR:vK S most=iy S most:=by unfold vK;rw[ba hv]
 have V':tb S=oI S:=by unfold tb;rw[ba hv]
 rw[hE,hR,ff rfl];obtain⟨a1,a2,a3,a4,a5,a6,a7,_⟩:=id T';obtain⟨L,_l,V⟩:=R' hv;obtain⟨n,hn⟩:=À S.st.toNat;have _m:S.aW.length=n:=U;obtain⟨a,z⟩:=À (oI S);have A:a.length=n:=by rw[z,V,Au];omega
 have f:∀ x∈a,0<=x/\x<4096:=fun x hx=>by
  rw[z,V]at hx;obtain⟨i,hi,rfl⟩:=ga hx;have h1:=Er (l:=L) (i:=i) (by rw[Au]at hi;exact hi);rw[aq hi]at h1;have:=BC L;omega
 have _a:=Jd (l:=a) U;have _n:=f _ _a;rw[V',<-z]at Y;refine O ?_;obtain⟨d,hM⟩:∃ d:Nat,(d:Int)=max 1 (min most 4096):=⟨(max 1 (min most 4096)).toNat,U⟩
 have _b:(if (if (4096:Int)<most then 4096 else most)>1 then (if (4096:Int)<most then 4096 else most) else 1)=(d:Int):=by
  rw[hM]
  repeat' split
  all_goals omega
 rw[_b];have _c:(max 1 (min most 4096)).toNat=d:=U;have _o:1<=d:=U;refine aR rfl (TB (l:=a) (bB (s:=t) Y) U) ?_;refine gk ?_;clear Y;intro w' Y;refine Cw ?_;refine ĝ ah false (n:=kh a+1) rfl rfl rfl rfl U (by show (1:Int)*_<=_;omega) U Y ?_;clear Y;intro D w Y;obtain⟨m,hm⟩:=À ((kh a+1).toNat);have _p:(m:Int)=kh a+1:=U;rw[<-hm]at Y ⊢;have j':∀ i:Nat,i<n->0<=a.getD i W.dflt/\a.getD i W.dflt<m:=fun i hi=>by
  have hx:a.getD i W.dflt∈a:=cS W.dflt U;have h1:=TC hx;have h2:=f _ hx;omega
 rw[<-Ğ (g:=S.aW) (c:=a)]at Y;refine O ?_;have Y:Z w0 w [X ah 4 (.slice (some ⟨D,0,none⟩) m m) (nh S.aW a m 0),X W 3 t a,am T 142 [E S.st,E S.cj,u,o,sg]]:=Y.bj;refine de [9,10,32,45] (G:=Nat) (fun k=>[(32,E k)]) (fun k w=>k<=n/\Z w0 w [X ah 4 (.slice (some ⟨D,0,none⟩) m m) (nh S.aW a m k),X W 3 t a,am T 142 [E S.st,E S.cj,u,o,sg]]) (fun k=>n-k) 0 (fun _=>rfl) ⟨rfl,az⟩ ⟨bC _,Y⟩ ?_;clear Y;rintro σ k w ⟨hk,Y⟩;have _j:(nh S.aW a m k).length=m:=Es;refine aC ?_ ?_<;>intro h2
 ·have H':k<n:=U
  obtain⟨b,j⟩:=j' k H';have q:=ğ (g:=S.aW) (c:=a) (k:=m) (m:=k) b j;refine jD ?_;intro w Y;rw[<-q]at Y;exact⟨k+1,⟨rfl,az⟩,aX,⟨U,Y.bj⟩,U⟩
 have _d:k=n:=U;have J':nh S.aW a m n=xW S.aW a m:=by rw[<-A];rfl
 rw[_d,J']at Y;have F:(xW S.aW a m).length=m:=by rw[<-J'];exact Es
 refine O ?_;have Y:Z w0 w [X ah 4 (.slice (some ⟨D,0,none⟩) (xW S.aW a m).length m) (xW S.aW a m),X W 3 t a,am T 142 [E S.st,E S.cj,u,o,sg]]:=by rw[F];exact Y.bj
 refine dP [8,8,11,14,46,82] (G:=J) (H:=List Bool) (fun C G=>[(8,.slice (some ⟨D,0,none⟩) G.length m)]) (fun C G w=>C.length=n/\G.length<=m/\(∀ x∈C,0<=x/\x<=65536)/\(∃ j,ln (il d) j (a,xW S.aW a m)=(C,G))/\Z w0 w [X ah 4 (.slice (some ⟨D,0,none⟩) G.length m) G,X W 3 t C,am T 142 [E S.st,E S.cj,u,o,sg]]) (fun C G=>G.length) a (xW S.aW a m) (fun _ _=>rfl) ⟨by rw[F];rfl,az⟩ ⟨A,U,fun x hx=>by have:=f x hx;omega,⟨0,rfl⟩,Y⟩ ?_;clear Y;rintro σ C G w ⟨_e,_q,N,⟨j,hj⟩,Y⟩;refine aC ?_ ?_<;>intro h3
 ·have _r:d<G.length:=U
  obtain⟨_f,P⟩:=TD (g:=G) U;have q:ln (il d) (j+1) (a,xW S.aW a m)=(C.map (oD (sN G).1 (sN G).2),G.eraseIdx (sN G).2):=by
   show il d (ln (il d) j _)=_;rw[hj];unfold il;rw[aM (by show ¬G.length<=d;omega)]
  obtain⟨pi,_g⟩:=À ((sN G).1);obtain⟨b,P'⟩:=À ((sN G).2);refine O ?_;refine aR rfl (ě (g:=G) (bB (s:=.slice (some ⟨D,0,none⟩) G.length m) Y) U) ?_;refine gk ?_;clear Y;intro w' Y;rw[<-_g,<-P']at _f q ⊢;rw[<-P']at P;refine O ?_;have Y:Z w0 w' [X ah 4 (.slice (some ⟨D,0,none⟩) G.length m) G,X W 3 t ((C.take 0).map (oD pi b)++C.drop 0),am T 142 [E S.st,E S.cj,u,o,sg]]:=Y;refine de [13,14,57,77] (G:=Nat) (fun k=>[(57,E k)]) (fun k w=>k<=n/\Z w0 w [X ah 4 (.slice (some ⟨D,0,none⟩) G.length m) G,X W 3 t ((C.take k).map (oD pi b)++C.drop k),am T 142 [E S.st,E S.cj,u,o,sg]]) (fun k=>n-k) 0 (fun _=>rfl) ⟨rfl,az⟩ ⟨bC _,Y⟩ ?_;clear Y;rintro σ k w ⟨hk,Y⟩;have r:((C.take k).map (oD pi b)).length=k:=by rw[lA,jC];omega
  have _s:((C.take k).map (oD pi b)++C.drop k).length=n:=by rw[length_append,r,Bq];omega
  refine aC ?_ ?_<;>intro h4
  ·have H':k<n:=U
   obtain⟨x,hx⟩:=À (C.getD k W.dflt);have _h:=N _ (cS W.dflt (show k<C.length by omega));rw[<-hx]at _h;have _i:((C.take k).map (oD pi b)++C.drop k).getD k W.dflt=x:=by
    rw[hx,ow,lP U,r,pW,Iq,Ai,<-ow]
   have K:∀ y,y=oD pi b x->((C.take k).map (oD pi b)++C.drop k).set k y=(C.take (k+1)).map (oD pi b)++C.drop (k+1):=fun y hy=>by
    have Q:C.drop k=C.getD k W.dflt::C.drop (k+1):=by rw[xd (show k<C.length by omega),aq]
    rw[Q,xQ _ _ U,r,pW,lO,eX W.dflt (show k<C.length by omega),qG,fk,hy,<-hx];rfl
   have R:oD pi b x=x->((C.take k).map (oD pi b)++C.drop k)=(C.take (k+1)).map (oD pi b)++C.drop (k+1):=fun h=>by
    have Q:C.drop k=C.getD k W.dflt::C.drop (k+1):=by rw[xd (show k<C.length by omega),aq]
    rw[Q,eX W.dflt (show k<C.length by omega),qG,fk,<-hx,pV,h];rfl
   refine O ?_;rw[_i];by_cases c1:x=(b:Int)
   ·have Q:oD pi b x=(pi:Int):=by unfold oD;rw[ba c1]
    have d1:decide (x=(b:Int))=true:=dH c1;have d2:decide ((b:Int)<x)=false:=dB U;rw[d1];refine jD ?_;intro w Y;rw[K _ Q.symm]at Y;rw[d2];refine O ?_;exact⟨k+1,⟨rfl,az⟩,aX,⟨U,Y.bj⟩,U⟩
   have d1:decide (x=(b:Int))=false:=dB c1;rw[d1];by_cases c2:x>(b:Int)
   ·have Q:oD pi b x=x-1:=by unfold oD;rw[aM c1,ba c2]
    have d2:decide ((b:Int)<x)=true:=dH c2;refine O ?_;rw[d2];refine jD ?_;intro w Y;rw[K _ Q.symm]at Y;exact⟨k+1,⟨rfl,az⟩,aX,⟨U,Y.bj⟩,U⟩
   have Q:oD pi b x=x:=by unfold oD;rw[aM c1,aM c2]
   have d2:decide ((b:Int)<x)=false:=dB U;refine O ?_;rw[d2];refine O ?_;rw[R Q]at Y;exact⟨k+1,⟨rfl,az⟩,aX,⟨U,Y.bj⟩,U⟩
  have K:k=n:=U;rw[K,io U,oG U,gj]at Y;have Q:∀ x∈C.map (oD pi b),0<=x/\x<=65536:=fun x hx=>by
   obtain⟨y,hy,rfl⟩:=iG.1 hx;have:=N y hy;unfold oD;split
   ·omega
   split<;>omega
  refine O ?_;refine aR rfl (Ġ (k:=b) Y U P) ?_;rintro _ w' ⟨rfl,R⟩;clear Y;have Y:=R;clear R;refine⟨_,rfl,?_⟩;have H':(G.eraseIdx b).length=G.length-1:=L0 P;refine O ?_;exact⟨C.map (oD pi b),G.eraseIdx b,⟨rfl,az⟩,aX,⟨by rw[lA];exact _e,U,Q,⟨j+1,q⟩,Y.bj⟩,U⟩
 have b:iy S most=C:=by
  unfold iy;rw[_c,<-z,<-hm,li (MO d) (n:=j) (by rw[hj];unfold o9;exact dH (by show G.length<=d;omega)),hj]
 rw[b];refine O ?_;exact dw (v:=t) (v':=.nilIface) rfl rfl rfl ⟨t,rfl,fun _=>⟨U,N⟩,Y.bj⟩
instance Km:j9 ak 190 3:=⟨kr⟩
instance Kn:AU ak 190 aV:=⟨fun a b w=>by
 have h:=j9.run (P:=ak) (t:=190) inferInstance (us:=[a.br,a.cU,a.dst]) (zs:=[b.br,b.cU,b.dst]) rfl rfl w;have e:decide ([a.br,a.cU,a.dst]=[b.br,b.cU,b.dst])=decide (a=b):=by
  rw[decide_eq_decide];cases a;cases b;simp
 rw[e]at h
 exact h⟩
def ġ {w:World}{Γ:List HP}{s:Value}{xs:List dr}(Y:Z w0 w (X aV 190 s xs::Γ))(hn:xs.length<=65536) :
  Calls ak 196 #[s] w fun e w'=>∃ d,e=.returned d/\Z w0 w' (X aV 190 d (ml xs)::Γ):=by
 refine bI ar Tryz.func196 ?_;refine aC ?_ ?_<;>intro h1
 ·have he:ml xs=xs:=by
   match xs,h1 with
   | [],_=>rfl
   | [_],_=>rfl
   | _::_::_,h=>simp only[length_cons]at h;omega
  refine O ?_;exact bo (v:=s) rfl rfl ⟨s,rfl,by rw[he];exact Y.cu⟩
 have j':2<=xs.length:=U;refine O ?_;refine de [2,5,10,59] (G:=Nat) (fun k=>[(3,E k)]) (fun k w=>1<=k/\k<=xs.length/\ml (xs.take k)=xs.take k/\Z w0 w (X aV 190 s xs::Γ)) (fun k=>xs.length-k) 1 (fun _=>rfl) ⟨rfl,az⟩ ⟨cP _,U,by cases xs with|nil=>rfl|cons a r=>rfl,Y.cu⟩ ?_;clear Y;rintro σ k w ⟨N,hk,n,Y⟩;refine aC ?_ ?_<;>intro P
 ·have A:k<xs.length:=U
  have i:=Je aV.dflt N A;have ek:((k:Int)-1).toNat=k-1:=U;rw[<-ek]at i;refine O ?_;refine qM ?_;clear Y;intro w Y;refine O ?_;refine fR rfl (TE (T:=aV) (a:=xs.getD k aV.dflt) (b:=xs.getD ((k:Int)-1).toNat aV.dflt) rfl rfl) ?_;refine aC ?_ ?_<;>intro V
  ·rw[ba V.symm,gj,n]at i
   refine O ?_;refine dP [3,3,5,5,29,53] (G:=Nat) (H:=Nat) (fun d q=>[(3,E q),(5,E d)]) (fun d q w=>1<=d/\k+d<=xs.length/\k<=q/\q<k+d/\∃ C:List dr,C.length=xs.length/\C.take q=ml (xs.take (k+d))/\(∀ j,k+d<=j+1->C.getD j aV.dflt=xs.getD j aV.dflt)/\Z w0 w (X aV 190 s C::Γ)) (fun d _=>xs.length-(k+d)) 1 k (fun _ _=>rfl) ⟨rfl,rfl,az⟩ ⟨cP _,U,cP _,U,xs,rfl,i.symm,fun _ _=>rfl,Y.cu⟩ ?_;clear Y;rintro σ d q w ⟨H',D,Q,J',C,hC,x,t,Y⟩;have P':(cut C k xs.length).length=xs.length-k:=Ar U;have L:=zJ (T:=aV) (bB (s:=s) Y) (lo:=k) (hi:=xs.length) U U;refine aC ?_ ?_<;>intro h4
   ·have F:k+d<xs.length:=U
    have f:=Je aV.dflt (show 0<k+d by omega) F;refine O ?_;refine qM ?_;clear Y L;intro w Y;have L:=zJ (T:=aV) (bB (s:=s) Y) (lo:=k) (hi:=xs.length) U U;have R:((d:Int)-1).toNat=d-1:=U;have e1:(cut C k xs.length).getD d aV.dflt=xs.getD (k+d) aV.dflt:=by rw[<-t (k+d) U];simp[cut,List.getD,yj,F]
    have e2:(cut C k xs.length).getD ((d:Int)-1).toNat aV.dflt=xs.getD (k+d-1) aV.dflt:=by
     rw[<-t (k+d-1) U,R];simp[cut,List.getD,yj,show k+(d-1)=k+d-1 by omega,show k+d-1<xs.length by omega]
    refine O ?_;refine fR rfl (TF (T:=aV) (a:=(cut C k xs.length).getD d aV.dflt) (b:=(cut C k xs.length).getD ((d:Int)-1).toNat aV.dflt) rfl rfl) ?_;refine O ?_;rw[e1,e2];refine j2 ?_ ?_<;>intro h5
    ·have y:¬xs.getD (k+d-1) aV.dflt=xs.getD (k+d) aV.dflt:=fun e=>h5 e.symm
     rw[aM y]at f;refine O ?_;refine vW (T:=aV) (s:=s) (j:=q) (x':=(cut C k xs.length).getD d aV.dflt) rfl rfl rfl rfl Y inferInstance U ?_;clear Y L;intro w Y;rw[e1]at Y;refine O ?_;have K:q<C.length:=U;refine⟨d+1,q+1,⟨rfl,rfl,az⟩,aX,⟨U,U,U,U,C.set q (xs.getD (k+d) aV.dflt),by rw[iU];exact hC,?_,fun j hj=>?_,Y.cu⟩,U⟩
     ·rw[eX aV.dflt (by rw[iU];exact K),Io (cP _),x,nI,ba ⟨rfl,K⟩]
      exact f.symm
     rw[nI,aM U];exact t j U
    have y:xs.getD (k+d-1) aV.dflt=xs.getD (k+d) aV.dflt:=by
     exact h5.symm
    rw[ba y,gj]at f;refine O ?_;exact⟨d+1,q,⟨rfl,rfl,az⟩,aX,⟨U,U,Q,U,C,hC,by rw[x,<-f];rfl,fun j hj=>t j U,Y.cu⟩,U⟩
   have y:k+d=xs.length:=U;have R:q<=xs.length:=U;have F:ml xs=C.take q:=by rw[x,y,mK]
   refine O ?_;have K:=zJ (T:=aV) (bB (s:=s) Y) (lo:=q) (hi:=C.length) U (cP _);refine TG (T:=aV) (s:=s) (j:=q) (z:=(⟨0,0,0⟩:dr)) rfl rfl rfl rfl Y inferInstance U ?_;clear Y L K;intro w Y;have f:(C.take q).length=q:=by rw[jC];omega
   have R':(C.take q++replicate (C.length-q) (⟨0,0,0⟩:dr)).length=C.length:=by rw[length_append,f,mp];omega
   refine O ?_;have P:=Y.sub (s:=s) own_here 0 q (bC _) (by rw[length_append,f];omega);have e3:cut (C.take q++replicate (C.length-q) (⟨0,0,0⟩:dr)) 0 q=C.take q:=by simp[cut,f]
   rw[e3,<-F]at P;exact bo (v:=ssub s aV.sz 0 q) rfl rfl ⟨_,rfl,P.cu⟩
  rw[aM (fun e=>V e.symm),n]at i;refine O ?_;refine⟨k+1,⟨rfl,az⟩,aX,⟨U,U,?_,Y.cu⟩,U⟩;rw[i,eX aV.dflt A]
 have D:k=xs.length:=U;rw[D,mK]at n;refine O ?_;exact bo (v:=s) rfl rfl ⟨s,rfl,by rw[n];exact Y.cu⟩
def MP {n:Int}(h:∀ k,0<=k->¬gK c n k):mG c n=false:=by
 unfold mG;rw[rL];rintro⟨k,hk,h1⟩;exact h k hk h1
def Ģ {v:Value}{n:Nat}(hc:RS W w0 v c)(hn:n<=4096) :
  Calls ak 174 #[v,E n] w0 fun e w'=>(∃ k,e=.returned (.tuple #[E k,.bool (mG c n)])/\(mG c n=true->k=nJ c n/\0<=k/\gK c n k))/\Z w0 w' []:=by
 have j':=hc.cn;have Y:=Z.start w0;refine bI ar Tryz.func174 ?_;refine aC ?_ ?_<;>intro h1
 ·have f:mG c n=false:=MP fun k hk h=>h1 h.1
  refine O ?_;exact dw (v:=E 0) (v':=.bool false) rfl rfl rfl ⟨⟨0,by rw[f],fun h=>by rw[f]at h;cases h⟩,Y.bj⟩
 have H':c.length=n:=U;refine kO ?_;intro s w Y;rw[show ((n:Int)).toNat=n from by omega]at Y;refine pu [4,5,7,7,9,9,20,38] (G:=Nat) (H:=Int) (I':=List Bool) (fun k m _=>[(20,E k),(7,E m),(4,E 0),(5,.bool false)]) (fun k m o w=>k<=c.length/\(0<=m/\m<=n)/\(∀ x∈c.take k,0<=x/\x<m)/\(m=0\/m-1∈c.take k)/\o.length=n/\(∀ j:Nat,j<n->(o.getD j ah.dflt=true↔(j:Int)∈c.take k))/\Z w0 w [X ah 4 s o]) (fun k _ _=>c.length-k) 0 0 (replicate n false) (fun _ _ _=>rfl) ⟨rfl,rfl,rfl,rfl,az⟩ ⟨bC _,⟨iq _,U⟩,fun x hx=>by simp at hx,.inl rfl,mp,fun j C=>by rw[F6 C];simp,Y⟩ ?_;clear Y;rintro σ k m o w ⟨hk,⟨t,J'⟩,hx,r,D,b,Y⟩;refine aC ?_ ?_<;>intro F
 ·have z:k<c.length:=U
  have d:c.take (k+1)=c.take k++[c.getD k W.dflt]:=eX W.dflt z;have q:c.getD k W.dflt∈c:=cS W.dflt z;refine aC ?_ ?_<;>intro L
  ·have f:mG c n=false:=MP fun k' aw h=>by have:=h.2.1 _ q;omega
   refine O ?_;exact dw (v:=E 0) (v':=.bool false) rfl rfl rfl ⟨⟨0,by rw[f],fun h=>by rw[f]at h;cases h⟩,Y.bj⟩
  obtain⟨Q,K⟩:=L;obtain⟨y,A⟩:=À (c.getD k W.dflt);rw[<-A]at Q K d q;refine dD ?_;intro w Y;rw[<-A]at Y;refine⟨k+1,max m (y+1),o.set y.toNat true,⟨rfl,by rw[A];show Value.int .i64 _=Value.int .i64 _;congr 1;split<;>omega,rfl,rfl,az⟩,aX,⟨U,⟨U,U⟩,fun x a => ?_,?_,by rw[iU];exact D,fun j C=>?_,Y⟩,U⟩
  ·rw[d,kK,fU]at a
   rcases a with h|h
   ·have:=hx x h;omega
   omega
  ·rw[d,kK,fU]
   by_cases e:m<=y+1
   ·right;right;omega
   rcases r with h|h
   ·omega
   right;left;rw[show max m (y+1)=m from by omega];exact h
  rw[nI,d,kK,fU];by_cases e:y.toNat=j
  ·rw[ba ⟨e,U⟩]
   have:(j:Int)=y:=U;simp[this]
  rw[aM (fun h=>e h.1),b j C];have:¬(j:Int)=y:=U;simp[this]
 have L:k=c.length:=U;rw[L,mK]at hx r b;have R:(cut o 0 m.toNat).length=m.toNat:=by rw[Ar U];omega
 have V:=zJ (T:=ah) (bB (s:=s) Y) (lo:=0) (hi:=m.toNat) U U;refine O ?_;refine de [4,5,11,11,43,49] (G:=Nat) (fun k=>[(43,E k),(4,E 0),(5,.bool false)]) (fun k w=>k<=m.toNat/\(∀ i:Nat,i<k->o.getD i ah.dflt=true)/\Z w0 w [X ah 4 s o]) (fun k=>m.toNat-k) 0 (fun _=>rfl) ⟨rfl,rfl,rfl,az⟩ ⟨bC _,fun i A=>absurd A (eo _),Y⟩ ?_;clear Y V;rintro σ q w ⟨P',d,Y⟩;have V:=zJ (T:=ah) (bB (s:=s) Y) (lo:=0) (hi:=m.toNat) U U;refine aC ?_ ?_<;>intro Q
 ·have N:q<m.toNat:=U
  have P:(cut o 0 m.toNat).getD q ah.dflt=o.getD q ah.dflt:=by simp[cut,List.getD,yj,N]
  refine O ?_;rw[P];by_cases z:o.getD q ah.dflt=true
  ·rw[z]
   refine O ?_;refine⟨q+1,⟨rfl,rfl,rfl,az⟩,aX,⟨U,fun i A=>?_,Y⟩,U⟩;by_cases e:i=q
   ·subst e;exact z
   exact d i U
  have f:mG c n=false:=MP fun k' aw h=>z ((b q U).2 (h.2.2.2 _ U (by
   rcases r with F|F
   ·omega
   have:=h.2.2.1 _ F;omega)))
  rw[tL]at z;rw[z];refine O ?_;exact dw (v:=E 0) (v':=.bool false) rfl rfl rfl ⟨⟨0,by rw[f],fun h=>by rw[f]at h;cases h⟩,Y.bj⟩
 have bX:gK c n m:=⟨U,fun x a=>by have:=hx x a;omega,fun x a=>(hx x a).2,fun x N h1=>by
  have K:=(b x.toNat U).1 (d x.toNat U)
  rwa[show ((x.toNat:Nat):Int)=x from by omega]at K⟩
 obtain⟨f,z⟩:=TH t bX;refine O ?_;exact dw (v:=E m) (v':=.bool true) rfl rfl rfl ⟨⟨m,by rw[f],fun _=>⟨z.symm,t,bX⟩⟩,Y.bj⟩
def ģ {w:World}{Γ:List HP}{s:Value}{xs:List dr}(Y:Z w0 w (X aV 190 s xs::Γ))(d:xs.length<=65536) :
  Calls ak 175 #[s] w fun e w'=>∃ b,e=.returned b/\Z w0 w' (X aV 190 b (ml (gF fE xs))::Γ):=by
 refine bI ar Tryz.func175 ?_;refine O ?_;refine aR rfl (Ĥ (s:=s) (xs:=xs) Y U) ?_;rintro _ w' ⟨rfl,a⟩;clear Y;have Y:=a;clear a;refine⟨_,rfl,?_⟩;have f:=Et qk (l:=xs);refine O ?_;refine aR rfl (ġ (s:=s) (xs:=gF fE xs) Y U) ?_;rintro _ w' ⟨b,rfl,a⟩;clear Y;have Y:=a;clear a;refine⟨_,rfl,?_⟩;refine O ?_;exact bo (v:=b) rfl rfl ⟨b,rfl,Y⟩
def F7 {a b M' N:Int}(d:0<=a)(h1:a<=M')(h2:0<=b)(e:b<=N):0<=a*b/\a*b<=M'*N:=⟨vX d h2,w9 h1 e h2 U⟩
def qm (A B:ct)(i j:Nat):List Bool:=(List.range j).map fun j=>A.aW.getD i ah.dflt && B.aW.getD j ah.dflt
def ni (A B:ct)(i:Nat):List Bool:=(List.range i).flatMap fun i=>qm A B i B.st.toNat
def ĥ (A B:ct)(i j:Nat):qm A B i (j+1)=qm A B i j++[A.aW.getD i ah.dflt && B.aW.getD j ah.dflt]:=by simp[qm,lN]
def MQ (A B:ct)(i:Nat):ni A B (i+1)=ni A B i++qm A B i B.st.toNat:=by simp[ni,lN]
def TJ (A B:ct)(i j:Nat):(qm A B i j).length=j:=by simp[qm]
def Jf (A B:ct):∀ i,(ni A B i).length=i*B.st.toNat
 | 0=>by simp[ni]
 | i+1=>by rw[MQ,length_append,Jf A B i,TJ,r8,x8]
def kG (A B:ct)(k:Nat):Nat:=((List.range k).map fun l=>((da A).getD l []).length*((da B).getD l []).length).foldl (·+·) 0
def F8 (A B:ct)(k:Nat):kG A B (k+1)=kG A B k+((da A).getD k []).length*((da B).getD k []).length:=by simp[kG,lN]
def Jg {A B:ct}(a:A.aH.length<=65536)(b:B.aH.length<=65536):∀ k,kG A B k<=k*4294967296
 | 0=>by simp[kG]
 | k+1=>by
  have e:=Jg a b k;have h1:((da A).getD k []).length<=65536:=rN zK a;have d:((da B).getD k []).length<=65536:=rN zK b;have f:((da A).getD k []).length*((da B).getD k []).length<=65536*65536:=xc h1 d;rw[F8];omega
def Ħ (A B:ct){i j:Nat}(h:i<=j):kG A B i<=kG A B j:=by
 induction j with
 | zero =>
   have:i=0:=U
   subst this;exact cP _
 | succ j a =>
  by_cases e:i=j+1
  ·subst e;exact cP _
  rw[F8];have:=a U;omega
def AV (B:ct)(l:Nat)(e:dr)(f:dr):dr:=⟨e.br*B.st+f.br,l,e.dst*B.st+f.dst⟩
def xg (B:ct)(l:Nat)(e:dr)(k:Nat):List dr:=(((da B).getD l []).take k).map (AV B l e)
def uT (A B:ct)(l j:Nat):List dr:=(((da A).getD l []).take j).flatMap fun e=>((da B).getD l []).map (AV B l e)
def uU (A B:ct)(l:Nat):List dr:=(List.range l).flatMap fun l=>uT A B l ((da A).getD l []).length
def MR (A B:ct):uU A B A.aN.length=nK A B:=by
 unfold uU nK uT;congr 1
 funext l
 rw[mK];rfl
def TK (A B:ct)(l:Nat):uU A B (l+1)=uU A B l++uT A B l ((da A).getD l []).length:=by simp[uU,lN]
def TL {A:ct}{j:Nat}(a:j<((da A).getD l []).length):uT A B l (j+1)=uT A B l j++xg B l (((da A).getD l []).getD j aV.dflt) ((da B).getD l []).length:=by
 unfold uT xg;rw[eX aV.dflt a,ya,mK];simp
def ħ {e:dr}(hk:k<((da B).getD l []).length):xg B l e (k+1)=xg B l e k++[AV B l e (((da B).getD l []).getD k aV.dflt)]:=by
 unfold xg;rw[eX aV.dflt hk,qG];rfl
def TM {e:dr}(hk:k<=((da B).getD l []).length):(xg B l e k).length=k:=by unfold xg;rw[lA,jC];omega
def MS {A B:ct}{l:Nat}:∀ {j:Nat},j<=((da A).getD l []).length->(uT A B l j).length=j*((da B).getD l []).length
 | 0,_=>by simp[uT]
 | j+1,h=>by rw[TL U,length_append,MS U,TM (cP _),r8,x8]
def Jh (A B:ct):∀ l,(uU A B l).length=kG A B l
 | 0=>rfl
 | l+1=>by rw[TK,length_append,Jh A B l,MS (cP _),F8]
def Ĩ {ac ae ag D be F:Value}{A:ct}(hA:dE w0 ac ae ag A)(hB:dE w0 D be F B) :
  Calls ak 117 #[df A ac ae ag,df B D be F] w0 fun e w'=>∃ cv ev gv,e=.returned (.tuple #[df (iM A B) cv ev gv,bS (dG A B)])/\uA w0 w' cv ev gv (iM A B):=by
 have Y:=Z.start w0;have oA:=hA.nG;have oB:=hB.nG;have _n:=hA.aW;have _o:=hB.aW;refine bI ar Tryz.func117 ?_;unfold df
 repeat (first|refine dS ?_|(refine iT ?_;clear Y;intro p w Y))
 rename_i pa wa L wb;obtain⟨t,rfl⟩:=À p;have Y:Z w0 w [am t 142 [E 0,E 0,nS,nS,nS],am L 142 [E B.st,E B.cj,D,be,F],am pa 142 [E A.st,E A.cj,ac,ae,ag]]:=Y;refine aR rfl (F5 (S:=A) (hA.at Y)) ?_;refine gk ?_;clear Y;intro w' Y;by_cases vA:jY A=true
 case neg =>
  have z:dG A B=2:=by
   have:¬cW A:=fun h=>vA (Cx h);unfold dG;rw[aM (fun h=>this h.1)]
  have Q:iM A B=cT:=by unfold iM;rw[aM (by rw[z];decide)]
  rw[z,Q];rw[tL]at vA;rw[vA];refine O ?_;refine mq (parts:=[]) (vs:=[]) rfl rfl rfl ?_;refine dD ?_;intro w Y;exact jF (p:=t) (vs:=[E 0,E 0,nS,nS,nS]) rfl rfl (v':=bS 2) (by rw[c9 dc];rfl) rfl (fun j v hv=>nw (i:=0) Y rfl hv) ⟨_,_,_,rfl,zL Y⟩
 rw[vA];refine O ?_;refine aR rfl (F5 (S:=B) (hB.at Y)) ?_;refine gk ?_;clear Y;intro w' Y;by_cases vB:jY B=true
 case neg =>
  have z:dG A B=2:=by
   have:¬cW B:=fun h=>vB (Cx h);unfold dG;rw[aM (fun h=>this h.2.1)]
  have Q:iM A B=cT:=by unfold iM;rw[aM (by rw[z];decide)]
  rw[z,Q];rw[tL]at vB;rw[vB];refine O ?_;refine mq (parts:=[]) (vs:=[]) rfl rfl rfl ?_;refine dD ?_;intro w Y;exact jF (p:=t) (vs:=[E 0,E 0,nS,nS,nS]) rfl rfl (v':=bS 2) (by rw[c9 dc];rfl) rfl (fun j v hv=>nw (i:=0) Y rfl hv) ⟨_,_,_,rfl,zL Y⟩
 rw[vB];refine O ?_;refine aR rfl (Fe (hA.aN.at Y) (hB.aN.at Y)) ?_;rintro _ w' ⟨⟨eq,rfl,heq⟩,aw⟩;refine aL ?_;clear aw Y;intro Y
 cases eq with
 | false =>
  have z:dG A B=2:=by
   unfold dG;rw[aM (fun h=>by have:=heq.2 h.2.2;cases this)]
  have Q:iM A B=cT:=by unfold iM;rw[aM (by rw[z];decide)]
  rw[z,Q];refine O ?_;refine mq (parts:=[]) (vs:=[]) rfl rfl rfl ?_;refine dD ?_;intro w Y
  exact jF (p:=t) (vs:=[E 0,E 0,nS,nS,nS]) rfl rfl (v':=bS 2) (by rw[c9 dc];rfl) rfl (fun j v hv=>nw (i:=0) Y rfl hv) ⟨_,_,_,rfl,zL Y⟩
 | true =>
 have P':=heq.1 rfl;have R':cW A:=oE fun h=>by rw[xP h]at vA;cases vA
 have T':cW B:=oE fun h=>by rw[xP h]at vB;cases vB
 have K:dG A B=if 4096<A.st*B.st then 5 else if 65536<AW A B then 5 else 0:=by unfold dG;rw[ba ⟨R',T',P'⟩]
 obtain⟨a1,a2,a3,a4,a5,a6,a7,_p,V',_⟩:=R';obtain⟨b1,b2,b3,b4,b5,b6,b7,_q,_a,_⟩:=T';have m1:=F7 (a:=A.st) (b:=B.st) (M':=4096) (N:=4096) U a2 U b2;have m2:=F7 (a:=A.cj) (b:=B.st) (M':=4096) (N:=4096) a3 U U b2;obtain⟨m3,m4⟩:=m1;have R:A.aH.length<=65536:=U;have V:B.aH.length<=65536:=U;obtain⟨m5,m6⟩:=m2;have m7 : -9223372036854775808<=A.st*B.st:=U;have m8:A.st*B.st<=9223372036854775807:=U;have m9 : -9223372036854775808<=A.cj*B.st:=U;have m10:A.cj*B.st<=9223372036854775807:=U;refine aC ?_ ?_<;>intro h1
 ·have z:dG A B=5:=by rw[K,ba h1]
  have Q:iM A B=cT:=by unfold iM;rw[aM (by rw[z];decide)]
  rw[z,Q];refine O ?_;refine mq (parts:=[]) (vs:=[]) rfl rfl rfl ?_;refine dD ?_;intro w Y;exact jF (p:=t) (vs:=[E 0,E 0,nS,nS,nS]) rfl rfl (v':=bS 5) (by rw[c9 dc];rfl) rfl (fun j v hv=>nw (i:=0) Y rfl hv) ⟨_,_,_,rfl,zL Y⟩
 rw[aM U]at K;refine O ?_;refine rJ [6,6,44,60] (G:=Addr × Value) (fun x=>[(6,.pointer (some x.1))]) (fun x w=>Z w0 w [am x.1 142 [E (A.st*B.st),E (A.cj*B.st+B.cj),x.2,nS,nS],X W 3 x.2 A.aN,am t 142 [E 0,E 0,nS,nS,nS],am L 142 [E B.st,E B.cj,D,be,F],am pa 142 [E A.st,E A.cj,ac,ae,ag]]) (fun _=>rfl) ?_ ?_
 ·refine u7 (.s [0,2,5,7,10,13,1,3,4,6,8,9,11,12,14] (.d 15 [1,3,6,8,11] (.d 16 [] (.c 17 [1,3,6,8,11,14] (.s [18] (.jz []))) (.d 17 [1,3,6,8,11,14] (.s [16,18] (.jz [])) (.stop))) (.d 17 [1,3,6,8,11,14] (.c 15 [1,3,6,8,11] (.s [16,18] (.jz []))) (.stop)))) Y kr kr ?_;clear Y;intro w Y
  refine O ?_;refine jl ?_ (jl ?_ pP)
  ·refine O ?_
   refine aR rfl (pU (hA.aN.at Y) U) ?_;rintro _ w' ⟨q,rfl,aw⟩;refine aO ?_;clear aw Y;intro Y;refine O ?_;refine jl ?_ (jl ?_ pP)
   ·refine O ?_
    have r:=(bB (s:=q) Y).one;refine mq (parts:=[(0,.tmp 48),(1,.tmp 56),(2,.tmp 59)]) (vs:=[(0,E (A.st*B.st)),(1,E (A.cj*B.st+B.cj)),(2,q)]) rfl rfl (by simp only[fo,fB,r];rfl) ?_;refine dj ?_;intro p w Y;have r:=(bB (s:=q) Y).one;refine lm (n:=5) (p:=p) (vs:=[E (A.st*B.st),E (A.cj*B.st+B.cj),q,nS,nS]) rfl rfl Y inferInstance rfl rfl (by simp only[fo,fB,r];rfl) ?_;clear Y;intro w Y;refine O ?_;exact⟨(p,q),⟨rfl,az⟩,aX,Y.bj⟩
   refine dj ?_;intro p w Y;have r:=(bB (s:=q) Y).one;refine mq (parts:=[(0,.tmp 48),(1,.tmp 56),(2,.tmp 59)]) (vs:=[(0,E (A.st*B.st)),(1,E (A.cj*B.st+B.cj)),(2,q)]) rfl rfl (by simp only[fo,fB,r];rfl) ?_;refine O ?_;have r:=(bB (s:=q) Y).one;refine lm (n:=5) (p:=p) (vs:=[E (A.st*B.st),E (A.cj*B.st+B.cj),q,nS,nS]) rfl rfl Y inferInstance rfl rfl (by simp only[fo,fB,r];rfl) ?_;clear Y;intro w Y;refine O ?_;exact⟨(p,q),⟨rfl,az⟩,aX,Y.bj⟩
  refine dj ?_;intro p w Y;refine aR rfl (pU (hA.aN.at Y) U) ?_;rintro _ w' ⟨q,rfl,aw⟩;refine aO ?_;clear aw Y;intro Y;refine O ?_;have r:=(bB (s:=q) Y).one;refine mq (parts:=[(0,.tmp 48),(1,.tmp 56),(2,.tmp 59)]) (vs:=[(0,E (A.st*B.st)),(1,E (A.cj*B.st+B.cj)),(2,q)]) rfl rfl (by simp only[fo,fB,r];rfl) ?_;refine O ?_;have r:=(bB (s:=q) Y).one;refine lm (n:=5) (p:=p) (vs:=[E (A.st*B.st),E (A.cj*B.st+B.cj),q,nS,nS]) rfl rfl Y inferInstance rfl rfl (by simp only[fo,fB,r];rfl) ?_;clear Y;intro w Y;refine O ?_;exact⟨(p,q),⟨rfl,az⟩,aX,Y.bj⟩
 clear Y;rintro σ ⟨P,q⟩ w Y
 dsimp only at Y
 refine O ?_;have Y:Z w0 w [am P 142 [E (A.st*B.st),E (A.cj*B.st+B.cj),q,nS,nS],X ah 4 (nS) (ni A B 0),X W 3 q A.aN,am t 142 [E 0,E 0,nS,nS,nS],am L 142 [E B.st,E B.cj,D,be,F],am pa 142 [E A.st,E A.cj,ac,ae,ag]]:=by rw[show ni A B 0=[] from rfl];exact(Y.nil (T:=ah) (e:=4)).bj
 refine dP [7,8,63,89] (G:=Nat) (H:=Value) (fun i gv=>[(63,E i)]) (fun i gv w=>(i:Int)<=A.st/\Z w0 w [am P 142 [E (A.st*B.st),E (A.cj*B.st+B.cj),q,nS,gv],X ah 4 gv (ni A B i),X W 3 q A.aN,am t 142 [E 0,E 0,nS,nS,nS],am L 142 [E B.st,E B.cj,D,be,F],am pa 142 [E A.st,E A.cj,ac,ae,ag]]) (fun i _=>A.st.toNat-i) 0 (nS) (fun _ _=>rfl) ⟨rfl,az⟩ ⟨U,Y⟩ ?_;clear Y;rintro σ i gv w ⟨hi,Y⟩;refine aC ?_ ?_<;>intro h2
 ·refine O ?_
  have Y:Z w0 w [am P 142 [E (A.st*B.st),E (A.cj*B.st+B.cj),q,nS,gv],X ah 4 gv (ni A B i++qm A B i 0),X W 3 q A.aN,am t 142 [E 0,E 0,nS,nS,nS],am L 142 [E B.st,E B.cj,D,be,F],am pa 142 [E A.st,E A.cj,ac,ae,ag]]:=by
   rw[show qm A B i 0=[] from rfl,gj];exact Y
  refine dP [8,8,68,88] (G:=Nat) (H:=Value) (fun j gv=>[(68,E j)]) (fun j gv w=>(j:Int)<=B.st/\Z w0 w [am P 142 [E (A.st*B.st),E (A.cj*B.st+B.cj),q,nS,gv],X ah 4 gv (ni A B i++qm A B i j),X W 3 q A.aN,am t 142 [E 0,E 0,nS,nS,nS],am L 142 [E B.st,E B.cj,D,be,F],am pa 142 [E A.st,E A.cj,ac,ae,ag]]) (fun j _=>B.st.toNat-j) 0 gv (fun _ _=>rfl) ⟨rfl,az⟩ ⟨U,Y⟩ ?_;clear Y;rintro σ j gv w ⟨hj,Y⟩;refine aC ?_ ?_<;>intro h3
  ·have r:=Jf A B i
   have _b:=TJ A B i j;have C:i*B.st.toNat<=4096*4096:=xc U U;have y:(ni A B i++qm A B i j).length<=20000000:=by rw[length_append,r,_b];omega
   refine O ?_;refine gi (pl [0,1,2,3,4,5,6,7,8,9,10,11,12,13,14] (.cY 1::pl [15,16,17] [])) Y kr ?_;clear Y;intro w Y
   repeat refine dS ?_
   refine jA ah (x1:=A.aW.getD i ah.dflt && B.aW.getD j ah.dflt) rfl rfl rfl (fP rfl) (fg _) Y ?_;clear Y;intro s2 w Y;refine qJ ?_;intro s w Y;refine⟨j+1,s,⟨rfl,az⟩,aX,⟨U,?_⟩,U⟩;rw[ĥ,<-fk];simp only[mY,lO]at Y;exact Y.bj
  have j':j=B.st.toNat:=U;subst j';refine O ?_;exact⟨i+1,gv,⟨rfl,az⟩,aX,⟨U,by rw[MQ];exact Y.bj⟩,U⟩
 have _j:i=A.st.toNat:=U;subst _j;have _k:ni A B A.st.toNat=nL A B:=rfl;rw[_k]at Y;refine O ?_;refine gi (pl [0,2,1] (.cY 2::pl [3,4,5] [])) Y kr ?_;clear Y;intro w Y;refine O ?_;refine aR rfl (TN (S:=A) (hA.at Y) U U (fun e he=>(V' e he).2.2)) ?_;rintro _ w' ⟨lv,ls,rfl,aw⟩;refine kl ?_;clear aw Y;intro Y;refine O ?_;refine aR rfl (TN (S:=B) (hB.at Y) U U (fun e he=>(_a e he).2.2)) ?_;rintro _ w' ⟨rv,rs,rfl,aw⟩;refine kl ?_;clear aw Y;intro Y;have _r:(da A).length=A.aN.length:=Av;have _s:(da B).length=B.aN.length:=Av;have Y:Z w0 w' [am P 142 [E (A.st*B.st),E (A.cj*B.st+B.cj),q,nS,gv],X aV 190 (nS) (uU A B 0),ai aV 190 ls (da A),X aA 139 lv ls,ai aV 190 rs (da B),X aA 139 rv rs,X ah 4 gv (nL A B),X W 3 q A.aN,am t 142 [E 0,E 0,nS,nS,nS],am L 142 [E B.st,E B.cj,D,be,F]]:=by rw[show uU A B 0=[] from rfl];exact(Y.nil (T:=aV) (e:=190)).bj
 have _t:=(Y.bN 2 rfl).bU;have _b:=(Y.bN 4 rfl).bU;have _u:B.aN.length=A.aN.length:=by rw[P']
 obtain⟨w,rfl⟩:=À w';refine O ?_;refine de [11,12,96,112] (G:=Nat) (fun k=>[(96,E k),(11,E (kG A B k))]) (fun k w=>k<=A.aN.length/\Z w0 w [am P 142 [E (A.st*B.st),E (A.cj*B.st+B.cj),q,nS,gv],X aV 190 (nS) (uU A B 0),ai aV 190 ls (da A),X aA 139 lv ls,ai aV 190 rs (da B),X aA 139 rv rs,X ah 4 gv (nL A B),X W 3 q A.aN,am t 142 [E 0,E 0,nS,nS,nS],am L 142 [E B.st,E B.cj,D,be,F]]) (fun k=>A.aN.length-k) 0 (fun _=>rfl) ⟨rfl,rfl,az⟩ ⟨bC _,Y⟩ ?_;clear Y;rintro σ k w ⟨hk,Y⟩;refine aC ?_ ?_<;>intro h4
 ·have H':k<A.aN.length:=U
  have hM:=Jg R V k;have J':=Jg R V (k+1);have C:=F8 A B k;have g1:((da A).getD k []).length<=65536:=rN zK R;have g2:((da B).getD k []).length<=65536:=rN zK V;have g3:=F7 (a:=(((da A).getD k []).length:Int)) (b:=(((da B).getD k []).length:Int)) (M':=65536) (N:=65536) U U U U;obtain⟨g4,g5⟩:=g3;have g6 : -9223372036854775808<=(((da A).getD k []).length:Int)*(((da B).getD k []).length:Int):=U;have g7:(((da A).getD k []).length:Int)*(((da B).getD k []).length:Int)<=9223372036854775807:=U;refine O ?_;refine qM ?_;clear Y;intro w Y;have y:=(Y.bN 2 rfl).row (i:=k) U;have r:=(Y.bN 4 rfl).row (i:=k) U;refine O ?_;exact⟨k+1,⟨rfl,by show Value.int .i64 _=Value.int .i64 _;rw[C,DC,D8],az⟩,aX,⟨U,Y.bj⟩,U⟩
 have J':k=A.aN.length:=U;subst J';have _v:=Jg R V A.aN.length;have _l:AW A B=kG A B A.aN.length:=rfl;rw[_l]at K;refine aC ?_ ?_<;>intro h5
 ·have z:dG A B=5:=by rw[K,ba U]
  have Q:iM A B=cT:=by unfold iM;rw[aM (by rw[z];decide)]
  rw[z,Q];refine O ?_;refine mq (parts:=[]) (vs:=[]) rfl rfl rfl ?_;refine dD ?_;intro w Y;exact jF (p:=t) (vs:=[E 0,E 0,nS,nS,nS]) rfl rfl (v':=bS 5) (by rw[c9 dc];rfl) rfl (fun j v hv=>nw (i:=8) Y rfl hv) ⟨_,_,_,rfl,zL Y⟩
 rw[aM U]at K;have Q:iM A B=⟨A.st*B.st,A.cj*B.st+B.cj,A.aN,gF fE (nK A B),nL A B⟩:=by unfold iM;rw[ba K]
 refine O ?_;refine dP [13,13,15,15,17,17,119,165] (G:=Nat) (H:=Value) (fun l ev=>[(119,E l)]) (fun l ev w=>l<=A.aN.length/\Z w0 w [am P 142 [E (A.st*B.st),E (A.cj*B.st+B.cj),q,ev,gv],X aV 190 ev (uU A B l),ai aV 190 ls (da A),X aA 139 lv ls,ai aV 190 rs (da B),X aA 139 rv rs,X ah 4 gv (nL A B),X W 3 q A.aN,am t 142 [E 0,E 0,nS,nS,nS],am L 142 [E B.st,E B.cj,D,be,F]]) (fun l _=>A.aN.length-l) 0 (nS) (fun _ _=>rfl) ⟨rfl,az⟩ ⟨bC _,Y⟩ ?_;clear Y;rintro σ l ev w ⟨hl,Y⟩;refine aC ?_ ?_<;>intro h6
 ·have _c:l<A.aN.length:=U
  have y:=(Y.bN 2 rfl).row (i:=l) U;obtain⟨LA,C⟩:=À ((da A).getD l []);have _d:∀ e∈LA,e∈A.aH:=fun e he=>((Aw (g:=fun e:dr=>e.cU) (l:=A.aH) _c).1 (by rw[C]at he;exact he)).1;have _m:LA.length<=65536:=by rw[C];exact rN zK R
  rw[<-C]at y;refine O ?_;have Y:Z w0 w [am P 142 [E (A.st*B.st),E (A.cj*B.st+B.cj),q,ev,gv],X aV 190 ev (uU A B l++uT A B l 0),ai aV 190 ls (da A),X aA 139 lv ls,ai aV 190 rs (da B),X aA 139 rv rs,X ah 4 gv (nL A B),X W 3 q A.aN,am t 142 [E 0,E 0,nS,nS,nS],am L 142 [E B.st,E B.cj,D,be,F]]:=by rw[show uT A B l 0=[] from rfl,gj];exact Y
  refine dP [15,15,17,17,127,164] (G:=Nat) (H:=Value) (fun j ev=>[(127,E j)]) (fun j ev w=>j<=LA.length/\Z w0 w [am P 142 [E (A.st*B.st),E (A.cj*B.st+B.cj),q,ev,gv],X aV 190 ev (uU A B l++uT A B l j),ai aV 190 ls (da A),X aA 139 lv ls,ai aV 190 rs (da B),X aA 139 rv rs,X ah 4 gv (nL A B),X W 3 q A.aN,am t 142 [E 0,E 0,nS,nS,nS],am L 142 [E B.st,E B.cj,D,be,F]]) (fun j _=>LA.length-j) 0 ev (fun _ _=>rfl) ⟨rfl,az⟩ ⟨bC _,Y⟩ ?_;clear Y y;rintro σ j ev w ⟨hj,Y⟩;have y:=(Y.bN 2 rfl).row (i:=l) U;rw[<-C]at y;refine aC ?_ ?_<;>intro h7
  ·have _e:j<LA.length:=U
   obtain⟨e,he⟩:=À (LA.getD j aV.dflt);have _f:=_d _ (cS aV.dflt _e);rw[<-he]at _f;obtain⟨⟨e1,e2⟩,⟨e3,e4⟩,_⟩:=V' e _f;refine dj ?_;intro pe w Y;have Y:Z w0 w [am pe 190 [E e.br,E e.cU,E e.dst],am P 142 [E (A.st*B.st),E (A.cj*B.st+B.cj),q,ev,gv],X aV 190 ev (uU A B l++uT A B l j++xg B l e 0),ai aV 190 ls (da A),X aA 139 lv ls,ai aV 190 rs (da B),X aA 139 rv rs,X ah 4 gv (nL A B),X W 3 q A.aN,am t 142 [E 0,E 0,nS,nS,nS],am L 142 [E B.st,E B.cj,D,be,F]]:=by rw[he,show xg B l (LA.getD j aV.dflt) 0=[] from rfl,gj];exact Y
   have r:=(Y.bN 5 rfl).row (i:=l) U;obtain⟨LB,z⟩:=À ((da B).getD l []);have _g:∀ e∈LB,e∈B.aH:=fun e he=>((Aw (g:=fun e:dr=>e.cU) (l:=B.aH) (x:=l) (n:=B.aN.length) U).1 (by rw[z]at he;exact he)).1;have _h:LB.length<=65536:=by rw[z];exact rN zK V
   rw[<-z]at r;refine O ?_;refine dP [17,17,136,163] (G:=Nat) (H:=Value) (fun k ev=>[(136,E k)]) (fun k ev w=>k<=LB.length/\Z w0 w [am pe 190 [E e.br,E e.cU,E e.dst],am P 142 [E (A.st*B.st),E (A.cj*B.st+B.cj),q,ev,gv],X aV 190 ev (uU A B l++uT A B l j++xg B l e k),ai aV 190 ls (da A),X aA 139 lv ls,ai aV 190 rs (da B),X aA 139 rv rs,X ah 4 gv (nL A B),X W 3 q A.aN,am t 142 [E 0,E 0,nS,nS,nS],am L 142 [E B.st,E B.cj,D,be,F]]) (fun k _=>LB.length-k) 0 ev (fun _ _=>rfl) ⟨rfl,az⟩ ⟨bC _,Y⟩ ?_;clear Y y r;rintro σ k ev w ⟨hk,Y⟩;have r:=(Y.bN 5 rfl).row (i:=l) U;rw[<-z]at r;refine aC ?_ ?_<;>intro h8
   ·have H':k<LB.length:=U
    obtain⟨f,hf⟩:=À (LB.getD k aV.dflt);have _i:=_g _ (cS aV.dflt H');rw[<-hf]at _i;obtain⟨⟨f1,f2⟩,⟨f3,f4⟩,_⟩:=_a f _i;refine dj ?_;intro p w Y;have Y:Z w0 w [am p 190 [E f.br,E f.cU,E f.dst],am pe 190 [E e.br,E e.cU,E e.dst],am P 142 [E (A.st*B.st),E (A.cj*B.st+B.cj),q,ev,gv],X aV 190 ev (uU A B l++uT A B l j++xg B l e k),ai aV 190 ls (da A),X aA 139 lv ls,ai aV 190 rs (da B),X aA 139 rv rs,X ah 4 gv (nL A B),X W 3 q A.aN,am t 142 [E 0,E 0,nS,nS,nS],am L 142 [E B.st,E B.cj,D,be,F]]:=by rw[hf];exact Y
    have n1:=F7 (a:=e.br) (b:=B.st) (M':=4096) (N:=4096) e1 U U b2;have n2:=F7 (a:=e.dst) (b:=B.st) (M':=4096) (N:=4096) e3 U U b2;obtain⟨n3,n4⟩:=n1;obtain⟨n5,n6⟩:=n2;have n7 : -9223372036854775808<=e.br*B.st:=U;have n8:e.br*B.st<=9223372036854775807:=U;have n9 : -9223372036854775808<=e.dst*B.st:=U;have n10:e.dst*B.st<=9223372036854775807:=U
    repeat refine dS ?_
    have q1:=Jh A B l;have q2:=Ħ A B hl;have q3:(uT A B l j).length<=65536*65536:=by
     rw[MS (by rw[<-C];omega),<-z];exact xc U _h
    have q4:(xg B l e k).length=k:=TM (by rw[<-z];exact hk);have q5:(uU A B l++uT A B l j++xg B l e k).length<=5000000000:=by rw[length_append,length_append,q1,q4];omega
    refine jA aV (x1:=⟨e.br*B.st+f.br,(l:Int),e.dst*B.st+f.dst⟩) rfl rfl rfl (fP rfl) (fg _) Y ?_;clear Y r;intro s2 w Y;refine qJ ?_;intro s w Y;simp only[mY,lO]at Y;refine⟨k+1,s,⟨rfl,az⟩,aX,⟨U,?_⟩,U⟩;rw[ħ (by rw[<-z];exact H'),<-fk,<-z,<-hf];unfold AV;exact Y.bj
   have J':k=LB.length:=U;subst J';refine O ?_;refine⟨j+1,ev,⟨rfl,az⟩,aX,⟨U,?_⟩,U⟩;rw[TL (by rw[<-C];exact _e),<-fk,<-C,<-he,<-z];exact Y.bj
  have j':j=LA.length:=U;subst j';refine O ?_;refine⟨l+1,ev,⟨rfl,az⟩,aX,⟨U,?_⟩,U⟩;rw[TK,<-C];exact Y.bj
 have y:l=A.aN.length:=U;subst y;rw[MR]at Y;have hlen:(nK A B).length<=65536:=by rw[<-MR,Jh];omega
 refine O ?_;have Y:Z w0 w [X aV 190 ev (nK A B),am P 142 [E (A.st*B.st),E (A.cj*B.st+B.cj),q,ev,gv],X ah 4 gv (nL A B),X W 3 q A.aN,am t 142 [E 0,E 0,nS,nS,nS]]:=Y.bj;refine aR rfl (ĩ (s:=ev) (xs:=nK A B) Y U) ?_;rintro _ w' ⟨rfl,r⟩;clear Y;have Y:=r;clear r;refine⟨_,rfl,?_⟩;rw[K,Q];have z:=(bB (s:=ev) Y).one;have C:=(bB (s:=gv) Y).one;have o3:=(bB (s:=q) Y).one;refine O ?_;refine lm (n:=5) (p:=t) (vs:=[E (A.st*B.st),E (A.cj*B.st+B.cj),q,ev,gv]) rfl rfl Y inferInstance rfl rfl (by simp only[fo,fB,z,C,o3];rfl) ?_;clear Y;intro w Y;refine O ?_;refine jF (p:=t) (vs:=[E (A.st*B.st),E (A.cj*B.st+B.cj),q,ev,gv]) rfl rfl (v':=bS 0) (by rw[ff rfl];rfl) rfl (fun j v hv=>nw (i:=4) Y rfl hv) ⟨q,ev,gv,rfl,?_⟩;exact Y.bj
def jg (g:List Bool)(c:J)(k m:Nat):List Bool:=(List.range k).map fun (x:Nat)=>(List.range m).any fun s=>decide (c.getD s W.dflt=(x:Int)) && g.getD s ah.dflt
def F9:(jg g c k m).length=k:=by simp[jg]
def Ī:jg g c k 0=replicate k false:=by
 apply jB (by simp[jg]);intro i h1 a;simp[jg]
def Ji {i:Nat}(hi:i<k):(jg g c k m).getD i ah.dflt=(List.range m).any fun s=>decide (c.getD s W.dflt=(i:Int)) && g.getD s ah.dflt:=by
 unfold jg;rw[ow,vh,L7 hi];rfl
def ī (q:0<=c.getD m W.dflt)(h1:c.getD m W.dflt<k) :
  jg g c k (m+1)=(jg g c k m).set (c.getD m W.dflt).toNat ((jg g c k m).getD (c.getD m W.dflt).toNat ah.dflt || g.getD m ah.dflt):=by
 apply jB (by rw[iU,F9,F9]);intro i f j;have a:i<k:=by rwa[F9]at f
 have n:(jg g c k (m+1))[i]=(jg g c k (m+1)).getD i ah.dflt:=(aq f).symm;have a2:=(aq (d:=ah.dflt) j).symm;rw[n,a2,nI,F9,Ji a,lN,any_append];simp only[any_cons,any_nil,Mn];by_cases e:(c.getD m W.dflt).toNat=i
 ·have b:c.getD m W.dflt=(i:Int):=U
  rw[ba ⟨e,a⟩,e,Ji a,b];simp only[decide_true,Ej]
 have b:¬c.getD m W.dflt=(i:Int):=U;rw[aM (fun h=>e h.1),Ji a];simp only[b,decide_false,Ei,Mn]
def TO {cl:Value}(z:dE w0 u o sg S)(hv:cW S)(hc:RS W w0 cl c) :
  Calls ak 149 #[df S u o sg,cl] w0 fun e w'=>∃ cv ev gv,e=.returned (.tuple #[df (jK S c) cv ev gv,bS (eU S c)])/\uA w0 w' cv ev gv (jK S c):=by
 have Y:=Z.start w0;have oS:=z.nG;have R':=z.aW;have T':=z.aH;have D:=Cx hv;obtain⟨a1,a2,a3,a4,a5,a6,a7,V',N,_⟩:=id hv;obtain⟨n,t⟩:∃ n:Nat,S.st=(n:Int):=⟨S.st.toNat,U⟩
 refine bI ar Tryz.func149 ?_;unfold df;rw[t]at oS ⊢
 repeat (first|refine dS ?_|(refine iT ?_;clear Y;intro p w Y))
 rename_i A ws;obtain⟨y,rfl⟩:=À p;have Y:Z w0 w [am y 142 [E 0,E 0,nS,nS,nS],am A 142 [E n,E S.cj,u,o,sg]]:=Y;refine aR rfl (Ģ (n:=n) (hc.at Y) U) ?_;rintro _ w' ⟨⟨f,rfl,P⟩,aw⟩;refine aL ?_;clear aw Y;intro Y;refine O ?_;refine aR rfl (by have:=F5 (S:=S) (z.at Y);unfold df at this;rw[t]at this;exact this) ?_;refine gk ?_;clear Y;intro w' Y;rw[D];by_cases r:mG c n=true
 case neg =>
  have F:eU S c=2:=by unfold eU;rw[t,aM (fun h=>r h.2)]
  have Q:jK S c=cT:=by unfold jK;rw[aM (by rw[F];decide)]
  rw[F,Q];rw[tL]at r;rw[r];refine O ?_;refine mq (parts:=[]) (vs:=[]) rfl rfl rfl ?_;refine dD ?_;intro w Y;exact jF (p:=y) (vs:=[E 0,E 0,nS,nS,nS]) rfl rfl (v':=bS 2) (by rw[c9 dc];rfl) rfl (fun j v hv=>nw (i:=0) Y rfl hv) ⟨_,_,_,rfl,zL Y⟩
 rw[r];obtain⟨R,_a,bX⟩:=P r;have F:eU S c=0:=by unfold eU;rw[t,ba ⟨D,r⟩]
 have Q:jK S c=⟨f,c.getD S.cj.toNat W.dflt,S.aN,ml (gF fE (S.aH.map (qT c))),qo S.aW c f.toNat⟩:=by unfold jK;rw[ba F,t,<-R]
 rw[F,Q];obtain⟨k1,k2,k3,k4⟩:=bX;have _b:f<=n:=by
  rcases Int.lt_or_le (n:Int) f with h|h
  ·have:=(k2 _ (k4 n U h)).2;omega
  exact h
 have V:∀ i:Nat,i<n->0<=c.getD i W.dflt/\c.getD i W.dflt<f:=fun i hi=>by
  have hm:c.getD i W.dflt∈c:=cS W.dflt U;exact⟨(k2 _ hm).1,k3 _ hm⟩
 refine O ?_;refine rJ [8,8,29,40] (G:=Addr × Value × Value) (fun x=>[(8,.pointer (some x.1))]) (fun x w=>Z w0 w [am x.1 142 [E f,E (c.getD S.cj.toNat W.dflt),x.2.1,nS,x.2.2],X ah 4 x.2.2 (replicate f.toNat false),X W 3 x.2.1 S.aN,am y 142 [E 0,E 0,nS,nS,nS],am A 142 [E n,E S.cj,u,o,sg]]) (fun _=>rfl) ?_ ?_
 ·refine u7 (.s [0,1,2,6,9,3,4,5,7] (.d 8 [3,5] (.d 10 [3,5,7] (.d 11 [] (.c 12 [3,5,7] (.s [13] (.jz []))) (.d 12 [3,5,7] (.s [11,13] (.jz [])) (.stop))) (.d 12 [3,5,7] (.c 10 [3,5,7] (.s [11,13] (.jz []))) (.stop))) (.d 10 [3,5,7] (.d 8 [3,5] (.d 11 [] (.c 12 [3,5,7] (.s [13] (.jz []))) (.d 12 [3,5,7] (.s [11,13] (.jz [])) (.stop))) (.d 12 [3,5,7] (.c 8 [3,5] (.s [11,13] (.jz []))) (.stop))) (.d 12 [3,5,7] (.d 8 [3,5] (.c 10 [3,5,7] (.s [11,13] (.jz []))) (.d 10 [3,5,7] (.c 8 [3,5] (.s [11,13] (.jz []))) (.stop))) (.stop))))) Y kr kr ?_;clear Y;intro w Y
  refine O ?_;refine jl ?_ (jl ?_ (jl ?_ pP))
  ·refine O ?_
   refine aR rfl (pU (z.aN.at Y) U) ?_;rintro _ w' ⟨b,rfl,aw⟩;refine aO ?_;clear aw Y;intro Y;refine O ?_;refine jl ?_ (jl ?_ pP)
   ·refine qJ ?_;intro s w Y
    refine jl ?_ (jl ?_ pP)
    ·refine O ?_
     refine mq (parts:=[(0,.tmp 29),(1,.tmp 34),(2,.tmp 37),(4,.tmp 39)]) (vs:=[(0,E f),(1,E (c.getD S.cj.toNat W.dflt)),(2,b),(4,s)]) rfl rfl (by simp only[fo,fB,(bB (s:=b) Y).one,(bB (s:=s) Y).one];rfl) ?_;refine dj ?_;intro p w Y;refine lm (n:=5) (p:=p) (vs:=[E f,E (c.getD S.cj.toNat W.dflt),b,nS,s]) rfl rfl Y inferInstance rfl rfl (by simp only[fo,fB,(bB (s:=b) Y).one,(bB (s:=s) Y).one];rfl) ?_;clear Y;intro w Y;refine O ?_;exact⟨(p,b,s),⟨rfl,az⟩,aX,Y.bj⟩
    refine dj ?_;intro p w Y;refine mq (parts:=[(0,.tmp 29),(1,.tmp 34),(2,.tmp 37),(4,.tmp 39)]) (vs:=[(0,E f),(1,E (c.getD S.cj.toNat W.dflt)),(2,b),(4,s)]) rfl rfl (by simp only[fo,fB,(bB (s:=b) Y).one,(bB (s:=s) Y).one];rfl) ?_;refine O ?_;refine lm (n:=5) (p:=p) (vs:=[E f,E (c.getD S.cj.toNat W.dflt),b,nS,s]) rfl rfl Y inferInstance rfl rfl (by simp only[fo,fB,(bB (s:=b) Y).one,(bB (s:=s) Y).one];rfl) ?_;clear Y;intro w Y;refine O ?_;exact⟨(p,b,s),⟨rfl,az⟩,aX,Y.bj⟩
   repeat (first|refine dS ?_|(refine iT ?_;clear Y;intro p w Y)|(refine gA ?_;clear Y;intro s w Y))
   refine mq (parts:=[(0,.tmp 29),(1,.tmp 34),(2,.tmp 37),(4,.tmp 39)]) (vs:=[(0,E f),(1,E (c.getD S.cj.toNat W.dflt)),(2,b),(4,s)]) rfl rfl (by simp only[fo,fB,(bB (s:=b) Y).one,(bB (s:=s) Y).one];rfl) ?_;refine O ?_;refine lm (n:=5) (p:=p) (vs:=[E f,E (c.getD S.cj.toNat W.dflt),b,nS,s]) rfl rfl Y inferInstance rfl rfl (by simp only[fo,fB,(bB (s:=b) Y).one,(bB (s:=s) Y).one];rfl) ?_;clear Y;intro w Y;refine O ?_;exact⟨(p,b,s),⟨rfl,az⟩,aX,Y.bj⟩
  ·refine qJ ?_;intro s w Y
   refine jl ?_ (jl ?_ pP)
   ·refine O ?_
    refine aR rfl (pU (z.aN.at Y) U) ?_;rintro _ w' ⟨b,rfl,aw⟩;refine aO ?_;clear aw Y;intro Y;refine O ?_;refine jl ?_ (jl ?_ pP)
    ·refine O ?_
     refine mq (parts:=[(0,.tmp 29),(1,.tmp 34),(2,.tmp 37),(4,.tmp 39)]) (vs:=[(0,E f),(1,E (c.getD S.cj.toNat W.dflt)),(2,b),(4,s)]) rfl rfl (by simp only[fo,fB,(bB (s:=b) Y).one,(bB (s:=s) Y).one];rfl) ?_;refine dj ?_;intro p w Y;refine lm (n:=5) (p:=p) (vs:=[E f,E (c.getD S.cj.toNat W.dflt),b,nS,s]) rfl rfl Y inferInstance rfl rfl (by simp only[fo,fB,(bB (s:=b) Y).one,(bB (s:=s) Y).one];rfl) ?_;clear Y;intro w Y;refine O ?_;exact⟨(p,b,s),⟨rfl,az⟩,aX,Y.bj⟩
    refine dj ?_;intro p w Y;refine mq (parts:=[(0,.tmp 29),(1,.tmp 34),(2,.tmp 37),(4,.tmp 39)]) (vs:=[(0,E f),(1,E (c.getD S.cj.toNat W.dflt)),(2,b),(4,s)]) rfl rfl (by simp only[fo,fB,(bB (s:=b) Y).one,(bB (s:=s) Y).one];rfl) ?_;refine O ?_;refine lm (n:=5) (p:=p) (vs:=[E f,E (c.getD S.cj.toNat W.dflt),b,nS,s]) rfl rfl Y inferInstance rfl rfl (by simp only[fo,fB,(bB (s:=b) Y).one,(bB (s:=s) Y).one];rfl) ?_;clear Y;intro w Y;refine O ?_;exact⟨(p,b,s),⟨rfl,az⟩,aX,Y.bj⟩
   refine dj ?_;intro p w Y;refine aR rfl (pU (z.aN.at Y) U) ?_;rintro _ w' ⟨b,rfl,aw⟩;refine aO ?_;clear aw Y;intro Y;refine O ?_;refine mq (parts:=[(0,.tmp 29),(1,.tmp 34),(2,.tmp 37),(4,.tmp 39)]) (vs:=[(0,E f),(1,E (c.getD S.cj.toNat W.dflt)),(2,b),(4,s)]) rfl rfl (by simp only[fo,fB,(bB (s:=b) Y).one,(bB (s:=s) Y).one];rfl) ?_;refine O ?_;refine lm (n:=5) (p:=p) (vs:=[E f,E (c.getD S.cj.toNat W.dflt),b,nS,s]) rfl rfl Y inferInstance rfl rfl (by simp only[fo,fB,(bB (s:=b) Y).one,(bB (s:=s) Y).one];rfl) ?_;clear Y;intro w Y;refine O ?_;exact⟨(p,b,s),⟨rfl,az⟩,aX,Y.bj⟩
  refine dj ?_;intro p w Y;refine jl ?_ (jl ?_ pP)
  ·refine O ?_
   refine aR rfl (pU (z.aN.at Y) U) ?_;rintro _ w' ⟨b,rfl,aw⟩;refine aO ?_;clear aw Y;intro Y;refine qJ ?_;intro s w Y;refine mq (parts:=[(0,.tmp 29),(1,.tmp 34),(2,.tmp 37),(4,.tmp 39)]) (vs:=[(0,E f),(1,E (c.getD S.cj.toNat W.dflt)),(2,b),(4,s)]) rfl rfl (by simp only[fo,fB,(bB (s:=b) Y).one,(bB (s:=s) Y).one];rfl) ?_;refine O ?_;refine lm (n:=5) (p:=p) (vs:=[E f,E (c.getD S.cj.toNat W.dflt),b,nS,s]) rfl rfl Y inferInstance rfl rfl (by simp only[fo,fB,(bB (s:=b) Y).one,(bB (s:=s) Y).one];rfl) ?_;clear Y;intro w Y;refine O ?_;exact⟨(p,b,s),⟨rfl,az⟩,aX,Y.bj⟩
  refine qJ ?_;intro s w Y;refine aR rfl (pU (z.aN.at Y) U) ?_;rintro _ w' ⟨b,rfl,aw⟩;refine aO ?_;clear aw Y;intro Y;refine O ?_;refine mq (parts:=[(0,.tmp 29),(1,.tmp 34),(2,.tmp 37),(4,.tmp 39)]) (vs:=[(0,E f),(1,E (c.getD S.cj.toNat W.dflt)),(2,b),(4,s)]) rfl rfl (by simp only[fo,fB,(bB (s:=b) Y).one,(bB (s:=s) Y).one];rfl) ?_;refine O ?_;refine lm (n:=5) (p:=p) (vs:=[E f,E (c.getD S.cj.toNat W.dflt),b,nS,s]) rfl rfl Y inferInstance rfl rfl (by simp only[fo,fB,(bB (s:=b) Y).one,(bB (s:=s) Y).one];rfl) ?_;clear Y;intro w Y;refine O ?_;exact⟨(p,b,s),⟨rfl,az⟩,aX,Y.bj⟩
 clear Y;rintro σ ⟨K,b,q⟩ w Y
 dsimp only at Y
 rw[<-Ī (g:=S.aW) (c:=c)]at Y;have j':∀ m,(jg S.aW c f.toNat m).length=f.toNat:=fun m=>F9;refine O ?_;refine de [9,10,44,67] (G:=Nat) (fun m=>[(44,E m)]) (fun m w=>m<=S.aW.length/\Z w0 w [am K 142 [E f,E (c.getD S.cj.toNat W.dflt),b,nS,q],X ah 4 q (jg S.aW c f.toNat m),X W 3 b S.aN,am y 142 [E 0,E 0,nS,nS,nS],am A 142 [E n,E S.cj,u,o,sg]]) (fun m=>S.aW.length-m) 0 (fun _=>rfl) ⟨rfl,az⟩ ⟨bC _,Y⟩ ?_;clear Y;rintro σ m w ⟨hm,Y⟩;have P':=j' m;refine aC ?_ ?_<;>intro h2
 ·have C:m<S.aW.length:=U
  have L:=V m U;have H':=ī (g:=S.aW) (c:=c) (k:=f.toNat) (m:=m) L.1 U;obtain⟨J',_c⟩:=L;refine O ?_;refine gi (pl [0,1,2,3,4,5,6,7,8,9,10,11,12,13,14,15,16,17,18] []) Y kr ?_;clear Y;intro w Y;refine jD ?_;intro w Y;rw[<-H']at Y;exact⟨m+1,⟨rfl,az⟩,aX,⟨U,Y.bj⟩,U⟩
 have H':m=S.aW.length:=U;subst H';have J':jg S.aW c f.toNat S.aW.length=qo S.aW c f.toNat:=rfl;rw[J']at Y;have Y:Z w0 w [am K 142 [E f,E (c.getD S.cj.toNat W.dflt),b,nS,q],X ah 4 q (qo S.aW c f.toNat),X aV 190 (nS) [],X W 3 b S.aN,am y 142 [E 0,E 0,nS,nS,nS],am A 142 [E n,E S.cj,u,o,sg]]:=(Y.nil (T:=aV) (e:=190)).bj;refine O ?_;refine dP [12,12,71,93] (G:=Nat) (H:=Value) (fun m ev=>[(71,E m)]) (fun m ev w=>m<=S.aH.length/\Z w0 w [am K 142 [E f,E (c.getD S.cj.toNat W.dflt),b,ev,q],X ah 4 q (qo S.aW c f.toNat),X aV 190 ev ((S.aH.take m).map (qT c)),X W 3 b S.aN,am y 142 [E 0,E 0,nS,nS,nS],am A 142 [E n,E S.cj,u,o,sg]]) (fun m _=>S.aH.length-m) 0 (nS) (fun _ _=>rfl) ⟨rfl,az⟩ ⟨bC _,Y⟩ ?_;clear Y;rintro σ m ev w ⟨hm,Y⟩;refine aC ?_ ?_<;>intro h3
 ·have C:m<S.aH.length:=U
  obtain⟨a,ha⟩:=À (S.aH.getD m aV.dflt);have L:=N _ (cS aV.dflt C);rw[<-ha]at L;obtain⟨⟨e1,e2⟩,⟨e3,e4⟩,_⟩:=L;refine dj ?_;intro p w Y;have Y:Z w0 w [am p 190 [E a.br,E a.cU,E a.dst],am K 142 [E f,E (c.getD S.cj.toNat W.dflt),b,ev,q],X ah 4 q (qo S.aW c f.toNat),X aV 190 ev ((S.aH.take m).map (qT c)),X W 3 b S.aN,am y 142 [E 0,E 0,nS,nS,nS],am A 142 [E n,E S.cj,u,o,sg]]:=by rw[ha];exact Y
  refine gi (pl [0,1,2,3,4,5,6,7,8,9,10,11,12,13,14] (.cY 1::pl [15] (.cY 1::pl [16,17,18] []))) Y kr ?_;clear Y;intro w Y
  repeat refine dS ?_
  refine jA aV (x1:=⟨c.getD a.br.toNat W.dflt,a.cU,c.getD a.dst.toNat W.dflt⟩) rfl rfl rfl (fP rfl) (fg _) Y ?_;clear Y;intro s2 w Y;have _c:((S.aH.take m).map (qT c)).length=m:=by rw[lA,jC];omega
  refine qJ ?_;intro s w Y;simp only[mY,lO]at Y;refine⟨m+1,s,⟨rfl,az⟩,aX,⟨U,?_⟩,U⟩;rw[eX aV.dflt C,qG,<-ha,show List.map (qT c) [a]=[⟨c.getD a.br.toNat W.dflt,a.cU,c.getD a.dst.toNat W.dflt⟩] from rfl];exact Y.bj
 rw[io U]at Y;refine O ?_;have Y:Z w0 w [X aV 190 ev (S.aH.map (qT c)),am K 142 [E f,E (c.getD S.cj.toNat W.dflt),b,ev,q],X ah 4 q (qo S.aW c f.toNat),X W 3 b S.aN,am y 142 [E 0,E 0,nS,nS,nS],am A 142 [E n,E S.cj,u,o,sg]]:=Y.bj;refine aR rfl (ģ (s:=ev) (xs:=S.aH.map (qT c)) Y (by rw[lA];omega)) ?_;rintro _ w' ⟨ex,rfl,C⟩;clear Y;have Y:=C;clear C;refine⟨_,rfl,?_⟩;refine jD ?_;intro w Y;simp only[mY,lO]at Y;have L:=(bB (s:=ex) Y).one;have o2:=(bB (s:=q) Y).one;have o3:=(bB (s:=b) Y).one;refine lm (n:=5) (p:=y) (vs:=[E f,E (c.getD S.cj.toNat W.dflt),b,ex,q]) rfl rfl Y inferInstance rfl rfl (by simp only[fo,fB,L,o2,o3];rfl) ?_;clear Y;intro w Y;refine O ?_;refine jF (p:=y) (vs:=[E f,E (c.getD S.cj.toNat W.dflt),b,ex,q]) rfl rfl (v':=bS 0) (by rw[ff rfl];rfl) rfl (fun j v hv=>nw (i:=4) Y rfl hv) ⟨b,ex,q,rfl,?_⟩;exact Y.bj
end Go.Proofs.YtmapkjoefdgjfaaGreatDoor
