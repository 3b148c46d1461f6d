/- Several texts. -/
import Derived.Test.YtmapkjoefdgjfaaGreatDoorMW26H
set_option linter.unusedSimpArgs false
set_option linter.unusedVariables false
set_option linter.defProp false
set_option maxRecDepth 8000
set_option maxHeartbeats 16000000
open List Nat
namespace Go.Proofs.YtmapkjoefdgjfaaGreatDoor
open Go.Sl Go
variable {w0 w:World}{C:List J}{i k:Nat}{c q:J}{A xs B:List Bool}{cs:List jo}{R:List (List Bool × Int)}{x:List Bool × Int}{T:Int × List (List bY) × List bY}
attribute [local irreducible] vc opsW opsD opV opW PureV ReadV Thn Blk
def mD (n:Nat)(C:List J)(c:J):J:=(List.range n).map fun op=>((gm C op:Nat):Int)+if (op:Int)∈c then 1 else 0
def Fl (n:Nat)(C:List J)(c:J):(mD n C c).length=n:=by simp[mD]
def H8 {n:Nat}{op:Nat}(h:op<n):(mD n C c).getD op W.dflt=((gm C op:Nat):Int)+if (op:Int)∈c then 1 else 0:=by
 rw[aq (by rw[Fl];exact h)];simp[mD]
def Y3 (n:Nat)(C:List J):mD n C []=gM n C:=by simp[mD,gM]
def Y4 (C:List J)(c:J)(op:Nat):gm (C++[c]) op=gm C op+if (op:Int)∈c then 1 else 0:=by
 unfold gm;rw[countP_append];by_cases h:(op:Int)∈c
 ·rw[ba h,countP_cons_of_pos (by simpa using h)];rfl
 rw[aM h,countP_cons_of_neg (by simpa using h)];rfl
def Y5 (n:Nat)(C:List J)(c:J):mD n C c=gM n (C++[c]):=by
 unfold mD gM;refine Bc fun op _=>?_;rw[Y4];split<;>simp
def Rf (C:List J)(op:Nat):gm C op<=C.length:=countP_le_length
def Y6 {op:Nat}(a:c∈C)(h:(op:Int)∈c):0<gm C op:=countP_pos_iff.2 ⟨c,a,by simpa using h⟩
def Y7 {n:Nat}(bX:lw n c)(hk:k<c.length):(mD n C (c.take k)).set (c.getD k W.dflt).toNat ((mD n C (c.take k)).getD (c.getD k W.dflt).toNat W.dflt+1)=mD n C (c.take (k+1)):=by
 obtain⟨o,b⟩:=À (c.getD k W.dflt);have l:=bX k hk;have r:0<=o:=by rw[b];exact l.1
 have h1:o<n:=by rw[b];exact l.2.1
 have f:o∉c.take k:=fun h=>by
  obtain⟨j,a,e⟩:=ga h;rw[jC]at a;rw[Fm]at e;have:=Rg bX j k U hk;rw[aq U,e,b]at this;omega
 rw[<-b];have g:o.toNat<n:=U;have j:((o.toNat:Nat):Int)=o:=U;rw[H8 g,j,aM f];refine jB (by rw[iU,Fl,Fl]) fun i h1 a=>?_;have m:i<n:=by rw[Fl]at a;exact a
 rw[<-aq (d:=W.dflt) a,H8 m,eX W.dflt hk,<-b];by_cases e:i=o.toNat
 ·rw[ba (kK.2 (.inr (fU.2 U))),tS,ba e.symm,e];omega
 rw[tS,aM (fun h=>e h.symm),<-aq (d:=W.dflt),H8 m];by_cases h:(i:Int)∈c.take k
 ·rw[ba h,ba (kK.2 (.inl h))]
 rw[aM h,aM fun a=>by
  rcases kK.1 a with a|a
  ·exact h a
  have:=fU.1 a
  omega]
def Y8 {many:J}{out:List bY}{U':Int × bY}(a:U'=mA q many 0 dF c):pZ q many out (c::C)=if U'.1=0 then pZ q many (out++[U'.2]) C else (U'.1,[]):=by
 subst a;conv=>lhs;unfold pZ
def Y9 {many:J}{cM:bY}{op:Int}{l:J}{S:Int × bY}(a:S=nC (q.getD op.toNat W.dflt) (many.getD op.toNat W.dflt)):mA q many i cM (op::l)=if S.1=0 then mA q many (i+1) (if i=0\/lT S.2 cM<0 then S.2 else cM) l else (S.1,cM):=by
 subst a;conv=>lhs;unfold mA
def Za {cv ov:Value}(hc:RS W w0 cv q)(_b:q.length<=4096)(P:∀ x∈q,0<=x/\x<=1048576)(hC:iX w0 ov cs C) :
  Calls ak 286 #[cv,ov] w0 fun e w'=>∃ lv,e=.returned (.tuple #[lv,bS (fJ 2 q C).1])/\Z w0 w' [X aI 409 lv (fJ 2 q C).2]:=by
 have H':=hC;obtain⟨_c,_d,Q⟩:=hC;obtain⟨R,g⟩:=À (fJ 2 q C);rw[<-g];unfold fJ at g;have Y:=Z.start w0;refine bI ar Tryz.func286 ?_;refine O ?_;refine aR rfl (LC (hc.at Y) P (H'.at Y)) ?_;refine gk ?_;clear Y;intro w' Y;by_cases he:na q.length C=0
 case neg =>
  rw[aM he]at g;rw[c9 he];refine O ?_;rw[g];exact dw (v:=nS) (v':=.iface 57 (E (na q.length C))) rfl rfl rfl ⟨nS,by rw[c9 he],(Y.nil (T:=aI) (e:=409)).only⟩
 rw[ba he,aM dc,ba rfl]at g;rw[ff he];obtain⟨_a,y⟩:=HC he;refine kO ?_;intro s w Y;obtain⟨z,rfl⟩:=À s;have e0:replicate ((q.length:Int)).toNat (0:Int)=gM q.length (C.take 0):=by
  rw[jU];refine jB (by simp[gM]) fun i h1 F=>?_;simp[gM,gm]
 rw[e0]at Y;refine de [9,9,11,11,31,49] (G:=Nat) (fun k=>[(31,E k)]) (fun k w=>k<=cs.length/\Z w0 w [X W 3 z (gM q.length (C.take k))]) (fun k=>cs.length-k) 0 (fun _=>rfl) ⟨rfl,az⟩ ⟨bC _,Y⟩ ?_;clear Y;rintro σ k w ⟨hk,Y⟩;refine aC ?_ ?_<;>intro h1
 ·have j:k<C.length:=U
  have l:=Q k j;have o:=l.one;have V:(cq.enc (aB cq cs k)).all Value.oneCell'=true:=by
   show ((aB cq cs k).M.oneCell' && ((Value.int .i64 (aB cq cs k).aT).oneCell' && true))=true;rw[o];rfl
  have D:cq.enc (aB cq cs k)=[(aB cq cs k).M,E (aB cq cs k).aT]:=rfl;obtain⟨c,m⟩:=À (C.getD k []);have r:c∈C:=by rw[m];exact cS [] j
  obtain⟨J',bX⟩:=y c r;rw[<-m]at l;have P':=l.cn;have t:mD q.length (C.take k) c=gM q.length (C.take (k+1)):=by rw[Y5,eX [] j,<-m]
  refine dj ?_;intro p w Y;rw[D]at Y;obtain⟨K,rfl⟩:=À p;rw[<-Y3]at Y;have a:Z w0 w [am K 361 [(aB cq cs k).M,E (aB cq cs k).aT],X W 3 z (mD q.length (C.take k) (c.take 0))]:=Y;clear Y;have Y:=a;clear a;refine O ?_;refine de [11,11,38,48] (G:=Nat) (fun i=>[(38,E i)]) (fun i w=>i<=c.length/\Z w0 w [am K 361 [(aB cq cs k).M,E (aB cq cs k).aT],X W 3 z (mD q.length (C.take k) (c.take i))]) (fun i=>c.length-i) 0 (fun _=>rfl) ⟨rfl,az⟩ ⟨bC _,Y⟩ ?_;clear Y;rintro N i w ⟨hi,Y⟩;have R':=Fl q.length (C.take k) (c.take i);refine aC ?_ ?_<;>intro F
  ·have n:i<c.length:=U
   have b:=bX i n;have T':0<=c.getD i W.dflt/\c.getD i W.dflt<q.length:=⟨b.1,b.2.1⟩
   have u:=Y7 (C:=C.take k) bX n;have hv:0<=(mD q.length (C.take k) (c.take i)).getD (c.getD i W.dflt).toNat W.dflt/\(mD q.length (C.take k) (c.take i)).getD (c.getD i W.dflt).toNat W.dflt<=100:=by
    rw[H8 U];have:=Rf (C.take k) (c.getD i W.dflt).toNat;rw[jC]at this;split<;>omega
   refine dD ?_;intro w Y;rw[u]at Y;exact⟨i+1,⟨rfl,az⟩,aX,⟨U,Y⟩,U⟩
  rw[io (show c.length<=i by omega),t]at Y;refine O ?_;exact⟨k+1,⟨rfl,az⟩,aX,⟨U,Y.tail⟩,U⟩
 rw[io U]at Y;replace Y:=Y.nil (T:=aI) (e:=409);have R':(gM q.length C).length=q.length:=by simp[gM]
 refine O ?_;refine pu [4,5,12,12,14,19,52,93] (G:=Nat) (H:=Value) (I':=List bY) (fun k lv _=>[(52,E k),(12,lv)]) (fun k lv L w=>k<=cs.length/\L.length=k/\R=pZ q (gM q.length C) L (C.drop k)/\Z w0 w [X aI 409 lv L,X W 3 z (gM q.length C)]) (fun k _ _=>cs.length-k) 0 (nS) [] (fun _ _ _=>rfl) ⟨rfl,rfl,az⟩ ⟨bC _,rfl,g,Y⟩ ?_;clear Y g;rintro _e k lv L w ⟨hk,V',g,Y⟩;refine aC ?_ ?_<;>intro h3
 ·have j:k<C.length:=U
  have l:=Q k j;have o:=l.one;have V:(cq.enc (aB cq cs k)).all Value.oneCell'=true:=by
   show ((aB cq cs k).M.oneCell' && ((Value.int .i64 (aB cq cs k).aT).oneCell' && true))=true;rw[o];rfl
  have D:cq.enc (aB cq cs k)=[(aB cq cs k).M,E (aB cq cs k).aT]:=rfl;obtain⟨c,m⟩:=À (C.getD k []);have r:c∈C:=by rw[m];exact cS [] j
  obtain⟨J',bX⟩:=y c r;rw[<-m]at l;have P':=l.cn;obtain⟨N,hU⟩:=À (mA q (gM q.length C) 0 dF c);rw[tK [] j,<-m,Y8 hU]at g
  repeat (first|refine dS ?_|(refine iT ?_;clear Y;intro p w Y)|(refine uP ?_;clear Y;intro w Y))
  rw[D]at Y;obtain⟨t,rfl⟩:=À p;replace Y:Z w0 w [am t 409 [E dF.num,E dF.den],X aI 409 lv L,X W 3 z (gM q.length C)]:=Y.bj (Δ:=[am t 409 [E 0,E 0],X aI 409 lv L,X W 3 z (gM q.length C)]);refine dP [4,5,16,19,59,88] (G:=Nat) (H:=bY) (fun i _=>[(59,E i)]) (fun i f w=>i<=c.length/\N=mA q (gM q.length C) i f (c.drop i)/\Z w0 w [am t 409 [E f.num,E f.den],X aI 409 lv L,X W 3 z (gM q.length C)]) (fun i _=>c.length-i) 0 dF (fun _ _=>rfl) ⟨rfl,az⟩ ⟨bC _,hU,Y⟩ ?_;clear Y;rintro _f i f w ⟨hi,a,Y⟩;refine aC ?_ ?_<;>intro h4
  ·have n:i<c.length:=U
   have b:=bX i n;have T':0<=c.getD i W.dflt/\c.getD i W.dflt<q.length:=⟨b.1,b.2.1⟩
   have _g:=P _ (cS W.dflt (show (c.getD i W.dflt).toNat<q.length by omega));have _h:1<=(gM q.length C).getD (c.getD i W.dflt).toNat W.dflt/\(gM q.length C).getD (c.getD i W.dflt).toNat W.dflt<=24:=by
    have u:(gM q.length C).getD (c.getD i W.dflt).toNat W.dflt=((gm C (c.getD i W.dflt).toNat:Nat):Int):=by
     rw[aq U];simp[gM]
    have h1:=Rf C (c.getD i W.dflt).toNat;have F:=Y6 (op:=(c.getD i W.dflt).toNat) r (by rw[show (((c.getD i W.dflt).toNat:Nat):Int)=c.getD i W.dflt by omega];exact cS _ n);omega
   obtain⟨S,hS⟩:=À (nC (q.getD (c.getD i W.dflt).toNat W.dflt) ((gM q.length C).getD (c.getD i W.dflt).toNat W.dflt));rw[tK W.dflt n,Y9 hS]at a;have j':nf (q.getD (c.getD i W.dflt).toNat W.dflt) ((gM q.length C).getD (c.getD i W.dflt).toNat W.dflt)=S:=by rw[hS,nf,aM U]
   refine O ?_;refine rJ [18,19,64,75] (G:=Addr) (fun x=>[(18,.pointer (some x)),(19,bS S.1)]) (fun x w=>Z w0 w [am x 409 [E S.2.num,E S.2.den],am t 409 [E f.num,E f.den],X aI 409 lv L,X W 3 z (gM q.length C)]) (fun _=>rfl) ?_ ?_
   ·refine u7 (.s [0,1,2,4,5,6,3,7] (.d 8 [] (.s [9,10,11] (.c 12 [3,7] (.s [13,14] (.jz [])))) (.d 12 [3,7] (.s [8,9,10,11,13,14] (.jz [])) (.stop)))) Y kr kr ?_;clear Y;intro w Y
    refine O ?_;refine jl ?_ (jl ?_ pP)
    ·refine O ?_
     refine aR rfl (DS U U U U) ?_;refine gk ?_;clear Y;intro w' Y;rw[j'];refine dj ?_;intro p w Y;exact⟨_,⟨rfl,rfl,az⟩,aX,Y⟩
    refine dj ?_;intro p w Y;refine aR rfl (DS U U U U) ?_;refine gk ?_;clear Y;intro w' Y;rw[j'];refine jD ?_;intro w Y;exact⟨_,⟨rfl,rfl,az⟩,aX,Y⟩
   clear Y;rintro _i _j w Y;by_cases u:S.1=0
   case neg =>
    rw[aM u]at a;have F:N.1≠0:=by rw[a];exact u
    rw[aM F]at g;have K:S.1=N.1:=by rw[a]
    rw[K,c9 F];refine O ?_;rw[g];exact dw (v:=nS) (v':=.iface 57 (E N.1)) rfl rfl rfl ⟨nS,by rw[c9 F],(Y.nil (T:=aI) (e:=409)).only⟩
   rw[ba u]at a;rw[ff u];by_cases q1:i=0
   ·rw[ba (Or.inl q1)]at a
    have F:decide ((i:Int)=0)=true:=dH U;refine O ?_
    try simp only[F];refine kt ?_
    refine dD ?_;intro w Y;exact⟨i+1,S.2,⟨rfl,az⟩,aX,⟨U,a,Y.tail⟩,U⟩
   have F:decide ((i:Int)=0)=false:=dB U;refine O ?_
   try simp only[F];refine kt ?_
   refine O ?_;refine aR rfl (Rh S.2 f) ?_;refine gk ?_;clear Y;intro w' Y;by_cases q2:lT S.2 f<0
   ·rw[ba (Or.inr q2)]at a
    refine O ?_;have K:decide (lT S.2 f<0)=true:=dH q2
    try simp only[K];refine kt ?_
    refine dD ?_;intro w Y;exact⟨i+1,S.2,⟨rfl,az⟩,aX,⟨U,a,Y.tail⟩,U⟩
   rw[aM (fun h=>h.elim q1 q2)]at a;refine O ?_;have K:decide (lT S.2 f<0)=false:=dB q2
   try simp only[K];refine kt ?_
   refine O ?_;exact⟨i+1,f,⟨rfl,az⟩,aX,⟨U,a,Y.tail⟩,U⟩
  rw[oG U]at a;have b:N.1=0:=by rw[a,mA]
  have n:N.2=f:=by rw[a,mA]
  rw[ba b,n]at g;refine O ?_;refine jA aI (x1:=f) rfl rfl rfl (fP rfl) (fg _) Y ?_;clear Y;intro u w Y;refine kO ?_;intro s w Y;exact⟨k+1,_,L++[f],⟨rfl,rfl,az⟩,aX,⟨U,by simp[V'],g,Y.tail.tail⟩,U⟩
 rw[oG U]at g;have a:R.1=0:=by rw[g,pZ]
 have b:R.2=L:=by rw[g,pZ]
 refine O ?_;exact dw (v:=lv) (v':=.nilIface) rfl rfl rfl ⟨lv,by rw[ff a],by rw[b];exact Y.only⟩
def Zb {a:Value}(j:RS ah w0 a xs) :
  Calls ak 317 #[a,.bool true] w0 fun e w'=>(∃ r:Int,e=.returned (E r)/\(0<=r↔true∈xs))/\Z w0 w' []:=by
 have l:=j.cn;have Y:=Z.start w0;refine bI ar Tryz.func317 ?_;refine O ?_;refine de [4,5,8,18] (G:=Nat) (fun k=>[(8,E k)]) (fun k w=>k<=xs.length/\(∀ i,i<k->xs.getD i ah.dflt≠true)/\Z w0 w []) (fun k=>xs.length-k) 0 (fun _=>rfl) ⟨rfl,az⟩ ⟨bC _,fun i d=>absurd d (eo _),Y⟩ ?_;clear Y;rintro m k w ⟨hk,b,Y⟩;refine aC ?_ ?_<;>intro h1
 ·have g:k<xs.length:=U
  cases f:xs.getD k ah.dflt
  ·refine O ?_
   rw[f];refine O ?_;refine⟨k+1,⟨rfl,az⟩,aX,⟨U,fun i d=>?_,Y⟩,U⟩;by_cases h:i=k
   ·rw[h,f];decide
   exact b i U
  refine O ?_;rw[f];refine O ?_;refine bo (v:=E k) rfl rfl ⟨⟨k,rfl,⟨fun _=>?_,fun _=>U⟩⟩,Y⟩;rw[<-f];exact cS _ g
 refine O ?_;refine bo (v:=E (-1)) rfl rfl ⟨⟨-1,rfl,⟨fun h=>U,fun h=>?_⟩⟩,Y⟩;obtain⟨i,d,he⟩:=Bd.1 h;exact absurd (by rw[aq d];exact he) (b i U)
def Zc {a:Value}(b:RS ah w0 a xs) :
  Calls ak 306 #[a,.bool true] w0 fun e w'=>e=.returned (.bool (decide (true∈xs)))/\Z w0 w' []:=by
 have Y:=Z.start w0;refine bI ar Tryz.func306 ?_;refine O ?_;refine aR rfl (Zb b) ?_;rintro _ w' ⟨⟨r,rfl,d⟩,aw⟩;refine aL ?_;clear aw Y;intro Y;refine O ?_;refine bo (v:=.bool (decide (0<=r))) rfl rfl ⟨?_,Y⟩;rw[decide_eq_decide.2 d]
def Zd (a:A.length=B.length)(h:∀ i,i<A.length->A.getD i ah.dflt=B.getD i ah.dflt):A=B:=by
 refine jB a fun i h1 b=>?_;have:=h i h1
 rwa[aq h1,aq b]at this
def Ze {d f:Value}(g:RS ah w0 d A)(h:RS ah w0 f B) :
  Calls ak 307 #[d,f] w0 fun e w'=>e=.returned (.bool (decide (A=B)))/\Z w0 w' []:=by
 have j:=g.cn;have l:=h.cn;have Y:=Z.start w0;refine bI ar Tryz.func307 ?_;refine aC ?_ ?_<;>intro h1
 ·refine O ?_
  exact bo (v:=.bool false) rfl rfl ⟨by rw[dB fun e=>by rw[e]at h1;omega],Y.bj⟩
 refine O ?_;refine de [4,5,13,25] (G:=Nat) (fun i=>[(13,E i)]) (fun i w=>i<=A.length/\(∀ m,m<i->A.getD m ah.dflt=B.getD m ah.dflt)/\Z w0 w []) (fun i=>A.length-i) 0 (fun _=>rfl) ⟨rfl,az⟩ ⟨bC _,fun m hm=>absurd hm (eo _),Y⟩ ?_;clear Y;rintro o i w ⟨r,a,Y⟩;refine aC ?_ ?_<;>intro t
 ·have n:i<A.length:=U
  refine sU ?_ ?_<;>intro w Y b
  ·refine O ?_
   exact bo (v:=.bool false) rfl rfl ⟨by rw[dB fun e=>by rw[e]at b;simp at b],Y.bj⟩
  refine O ?_;refine⟨i+1,⟨rfl,az⟩,aX,⟨U,fun m hm=>?_,Y.bj⟩,U⟩;by_cases e:m=i
  ·subst e;simpa using b
  exact a m U
 have b:i=A.length:=U;subst b;refine O ?_;exact bo (v:=.bool true) rfl rfl ⟨by rw[dH (Zd U a)],Y.bj⟩
structure vD where
 uQ:Value
 aT:Int
def du:Ty vD:=⟨2,fun x=>[x.uQ,E x.aT],fun _=>rfl,⟨nS,0⟩⟩
instance Pr:nR du:=⟨az⟩
def dR:List Bool × Int:=([],0)
def lI (vs:List vD)(R:List (List Bool × Int))(w:World):Prop:=∀ i:Nat,i<R.length->(aB du vs i).aT=(R.getD i dR).2/\RS ah w (aB du vs i).uQ (R.getD i dR).1
structure rR (w:World) (v:Value) (vs:List vD) (R:List (List Bool × Int)):Prop where
 rs:RS du w v vs
 len:vs.length=R.length
 row:lI vs R w
def lI.gD {vs:List vD}{v:vD}{r:List Bool × Int}(h:lI vs R w)(d:vs.length=R.length)(h1:v.aT=r.2)(h2:RS ah w v.uQ r.1):lI (vs++[v]) (R++[r]) w:=fun i f=>by
 rw[length_append,w7]at f;by_cases e:i=R.length
 ·subst e
  have a:aB du (vs++[v]) R.length=v:=by rw[oz,List.getD,<-d,lP (cP _),pW];rfl
  have b:(R++[r]).getD R.length dR=r:=by rw[List.getD,lP (cP _),pW];rfl
  rw[a,b];exact⟨h1,h2⟩
 have a:aB du (vs++[v]) i=aB du vs i:=by rw[oz,oz,List.getD,mu U];rfl
 have b:(R++[r]).getD i dR=R.getD i dR:=by rw[List.getD,mu U];rfl
 rw[a,b];exact h i U
def Zf {c:Int}{l:J}:mE C i (c::l)=if true∈nz C i then (nz C i,c)::mE C (i+1) l else mE C (i+1) l:=rfl
def Zg {l:List (List Bool × Int)}:iB R i (x::l)=if gY x i 0 R=true then iB R (i+1) l else x::iB R (i+1) l:=rfl
def Zh {y:List Bool × Int}{j:Nat}{l:List (List Bool × Int)}:gY x i j (y::l)=(decide (i≠j/\x.1=y.1/\(y.2<x.2\/(y.2=x.2/\j<i))) || gY x i (j+1) l):=rfl
def Zi (C:List J)(c:J)(op:Nat):nz (C++[c]) op=nz C op++[decide ((op:Int)∈c)]:=by simp[nz]
def Zj (C:List J)(op:Nat):(nz C op).length=C.length:=by simp[nz]
def Zk {x:Bool}{m:Nat}:(A++replicate (m+1) false).set A.length x=(A++[x])++replicate m false:=by
 rw[xQ _ _ (cP _),pW,Cz,lO,fk];rfl
def Zl {cv ov:Value}(hc:RS W w0 cv q)(_e:q.length<=4096)(hC:iX w0 ov cs C)(_f:C.length<=24) :
  Calls ak 298 #[cv,ov] w0 fun e w'=>∃ rv vs,e=.returned rv/\vs.length<=4096/\Z w0 w' [bA fun w=>rR w rv vs (gn q C)]:=by
 have _g:=hC;obtain⟨_h,V',_a⟩:=hC;have Y:=Z.start w0;refine bI ar Tryz.func298 ?_;replace Y:=Y.nil (T:=du) (e:=418);replace Y:=Z.r6 (φ:=lI [] []) (fun w i hi=>absurd hi (eo _)) Y;replace Y:=Y.swap;refine O ?_;refine zw [5,10,19,51] (G:=Nat) (H:=Value) (I':=List vD) (M':=List (List Bool × Int)) (fun k rv _ _=>[(19,E k),(5,rv)]) (fun k rv vs Q w=>k<=q.length/\vs.length<=k/\vs.length=Q.length/\mE C 0 q=Q++mE C k (q.drop k)/\Z w0 w [X du 418 rv vs,bA (lI vs Q)]) (fun k _ _ _=>q.length-k) 0 (nS) [] [] (fun _ _ _ _=>rfl) ⟨rfl,rfl,az⟩ ⟨bC _,cP _,rfl,rfl,Y⟩ ?_;clear Y;rintro σ k rv vs Q w ⟨hk,_i,V,N,Y⟩;refine aC ?_ ?_<;>intro h1
 ·have n:k<q.length:=U
  rw[tK W.dflt n,Zf]at N;refine kO ?_;clear Y;intro s w Y;obtain⟨a,rfl⟩:=À s;have t:replicate ((cs.length:Int)).toNat false=nz (C.take 0) k++replicate (C.length-0) false:=by
   rw[jU,V'];simp[nz]
  rw[t]at Y;refine de [9,10,29,41] (G:=Nat) (fun i=>[(29,E i)]) (fun i w=>i<=C.length/\Z w0 w [X ah 4 a (nz (C.take i) k++replicate (C.length-i) false),X du 418 rv vs,bA (lI vs Q)]) (fun i=>C.length-i) 0 (fun _=>rfl) ⟨rfl,az⟩ ⟨bC _,Y⟩ ?_;clear Y;rintro u i w ⟨hi,Y⟩;have d:(nz (C.take i) k).length=i:=by rw[Zj,jC];omega
  have r:(nz (C.take i) k++replicate (C.length-i) false).length=C.length:=by rw[length_append,d,mp];omega
  refine aC ?_ ?_<;>intro z
  ·have f:i<C.length:=U
   have j:=_a i f;have g:=j.one;have R':(cq.enc (aB cq cs i)).all Value.oneCell'=true:=by
    show ((aB cq cs i).M.oneCell' && ((Value.int .i64 (aB cq cs i).aT).oneCell' && true))=true;rw[g];rfl
   have o:cq.enc (aB cq cs i)=[(aB cq cs i).M,E (aB cq cs i).aT]:=rfl;refine dj ?_;clear Y;intro p w Y;rw[o]at Y;obtain⟨y,rfl⟩:=À p;refine O ?_;refine aR rfl (xR (v:=(k:Int)) (j.at Y)) ?_;rintro _ w' ⟨rfl,aw⟩;refine aL ?_;clear aw Y;intro Y;refine dD ?_;clear Y;intro w Y;have l:=Zk (A:=nz (C.take i) k) (x:=decide ((k:Int)∈C.getD i [])) (m:=C.length-(i+1));rw[d,show C.length-(i+1)+1=C.length-i by omega,<-Zi,<-eX [] f]at l;rw[l]at Y;exact⟨i+1,⟨rfl,az⟩,aX,⟨U,Y.tail⟩,U⟩
  have l:i=C.length:=U;rw[l,io (cP _),pW,Bk,gj]at Y;refine O ?_;refine aR rfl (Zc (bB (s:=a) Y)) ?_;rintro _ w' ⟨rfl,aw⟩;refine aL ?_;clear aw Y;intro Y;by_cases P:true∈nz C k
  case neg =>
   rw[aM P]at N;rw[dB P];refine O ?_;exact⟨k+1,rv,vs,Q,⟨rfl,rfl,az⟩,aX,⟨U,U,V,N,Y.tail⟩,U⟩
  rw[ba P]at N;rw[dH P];have f:=(bB (s:=a) Y).one;refine O ?_;refine zr (v1:=a) (v2:=E (q.getD k W.dflt)) rfl rfl rfl (by simp only[fo,fB,f];rfl) ?_;refine O ?_;refine jA du (x1:=⟨a,q.getD k W.dflt⟩) rfl rfl rfl (fP rfl) (fg _) Y ?_;clear Y;intro so w Y;refine sF (s:=rv) (s2:=so) inferInstance rfl rfl (bB Y) rfl rfl (fun x hx v hv=>?_) (by simp only[length_cons,length_nil];omega) (by unfold cn;simp only[length_cons,length_nil];omega) Y ?_
  ·rw[fU.1 hx]at hv
   simp only[du,gT,jd,pQ]at hv;rcases hv with rfl|rfl
   ·exact f
   rfl
  clear Y;intro j w Y;refine O ?_;replace Y:Z w0 w [X ah 4 a (nz C k),bA (lI vs Q),X du 418 j (vs++[⟨a,q.getD k W.dflt⟩])]:=Y.bj;replace Y:=Z.rd (Δ:=[X ah 4 a (nz C k),bA (lI vs Q)]) (φ:=lI (vs++[⟨a,q.getD k W.dflt⟩]) (Q++[(nz C k,q.getD k W.dflt)])) (fun _ w h=>(h.dQ 1 rfl).gD V rfl (h.rs 0 rfl)) Y;exact⟨k+1,j,_,Q++[(nz C k,q.getD k W.dflt)],⟨rfl,rfl,az⟩,aX,⟨U,by simp;omega,by simp[V],by rw[N,fk];rfl,Y.swap⟩,U⟩
 rw[oG U]at N;have hQ:Q=mE C 0 q:=by rw[N];simp[mE]
 have _j:vs.length<=4096:=U;have _b:gn q C=iB Q 0 Q:=by rw[gn,hQ]
 clear N;have _k:Q.length<=4096:=U;replace Y:=Y.nil (T:=du) (e:=418);refine O ?_;refine zw [11,16,54,105] (G:=Nat) (H:=Value) (I':=List vD) (M':=List (List Bool × Int)) (fun i l _ _=>[(54,E i),(11,l)]) (fun i l n K w=>i<=vs.length/\n.length<=i/\n.length=K.length/\iB Q 0 Q=K++iB Q i (Q.drop i)/\(∀ w,lI vs Q w->lI n K w)/\Z w0 w [X du 418 l n,X du 418 rv vs,bA (lI vs Q)]) (fun i _ _ _=>vs.length-i) 0 (nS) [] [] (fun _ _ _ _=>rfl) ⟨rfl,rfl,az⟩ ⟨bC _,cP _,rfl,rfl,(fun _ _ i hi=>absurd hi (eo _)),Y⟩ ?_;clear Y;rintro _l i l n K w ⟨hi,_m,z,S,o,Y⟩;refine aC ?_ ?_<;>intro h3
 ·have r:i<Q.length:=U
  have _n:i<vs.length:=U;obtain⟨a,hX⟩:=À (Q.getD i dR);obtain⟨xi,t⟩:=À ((aB du vs i).uQ);have f:lI vs Q w:=Y.dQ 2 rfl;have g:=(f i r).2.one;have T':du.enc (aB du vs i)=[xi,E a.2]:=by
   show [(aB du vs i).uQ,E (aB du vs i).aT]=_;rw[(f i r).1,<-t,<-hX]
  have R':(du.enc (aB du vs i)).all Value.oneCell'=true:=by
   rw[T'];simp only[fo,fB];rw[t,g];rfl
  rw[tK dR r,Zg,<-hX]at S;clear f;refine dj ?_;clear Y;intro p w Y;rw[T']at Y;obtain⟨_c,rfl⟩:=À p;refine O ?_;refine dP [14,16,61,98] (G:=Nat) (H:=Bool) (fun j b=>[(61,E j),(14,.bool b)]) (fun j b w=>j<=vs.length/\(b || gY a i j (Q.drop j))=gY a i 0 Q/\Z w0 w [am _c 418 [xi,E a.2],X du 418 l n,X du 418 rv vs,bA (lI vs Q)]) (fun j _=>vs.length-j) 0 false (fun _ _=>rfl) ⟨rfl,rfl,az⟩ ⟨bC _,rfl,Y⟩ ?_;clear Y;rintro _o j b w ⟨hj,y,Y⟩;refine aC ?_ ?_<;>intro h4
  ·have D:j<Q.length:=U
   obtain⟨Y',hY⟩:=À (Q.getD j dR);have f:lI vs Q w:=Y.dQ 3 rfl;have j':=(f j D).2.one;have F:(aB du vs j).aT=Y'.2:=by rw[(f j D).1,<-hY]
   have _d:(du.enc (aB du vs j)).all Value.oneCell'=true:=by
    show ((aB du vs j).uQ.oneCell' && ((Value.int .i64 (aB du vs j).aT).oneCell' && true))=true;rw[j'];rfl
   rw[tK dR D,Zh,<-hY]at y;clear f
   cases b with
   | true =>
    refine ep ?_;clear Y;intro p w Y
    exact⟨j+1,true,⟨rfl,rfl,az⟩,aX,⟨U,by rw[<-y];rfl,Y.tail⟩,U⟩
   | false =>
    by_cases P:i=j
    ·have H':decide ((i:Int)=(j:Int))=true:=dH U
     have d:(false || gY a i (j+1) (Q.drop (j+1)))=gY a i 0 Q:=by rw[<-y,dB fun h=>h.1 P];rfl
     refine dj ?_;clear Y;intro p w Y
     try simp only[H'];refine kt ?_
     refine O ?_;exact⟨j+1,false,⟨rfl,rfl,az⟩,aX,⟨U,d,Y.tail⟩,U⟩
    have H':decide ((i:Int)=(j:Int))=false:=dB U;refine dj ?_;clear Y;intro p w Y
    try simp only[H'];refine kt ?_
    refine O ?_;have J':lI vs Q w:=Y.dQ 4 rfl;have r1:=(J' i r).2;have r2:=(J' j D).2;rw[<-t,<-hX]at r1;rw[<-hY]at r2;refine aR rfl (Ze r1 r2) ?_;rintro _ w' ⟨rfl,aw⟩;replace Y:=Y.cH aw;clear aw J' r1 r2;refine⟨_,rfl,?_⟩;by_cases q2:a.1=Y'.1
    case neg =>
     rw[dB q2];have d:(false || gY a i (j+1) (Q.drop (j+1)))=gY a i 0 Q:=by rw[<-y,dB fun h=>q2 h.2.1];rfl
     refine O ?_;exact⟨j+1,false,⟨rfl,rfl,az⟩,aX,⟨U,d,Y.tail⟩,U⟩
    rw[dH q2];by_cases q3:Y'.2<a.2
    ·have u:decide ((aB du vs j).aT<a.2)=true:=dH (by rw[F];exact q3)
     have d:(true || gY a i (j+1) (Q.drop (j+1)))=gY a i 0 Q:=by rw[<-y,dH ⟨P,q2,.inl q3⟩];rfl
     refine O ?_
     try simp only[u];refine kt ?_
     refine O ?_;exact⟨j+1,true,⟨rfl,rfl,az⟩,aX,⟨U,d,Y.tail⟩,U⟩
    have u:decide ((aB du vs j).aT<a.2)=false:=dB (by rw[F];exact q3);by_cases q4:Y'.2=a.2
    case neg =>
     have L:decide ((aB du vs j).aT=a.2)=false:=dB (by rw[F];exact q4);have d:(false || gY a i (j+1) (Q.drop (j+1)))=gY a i 0 Q:=by rw[<-y,dB fun h=>h.2.2.elim q3 fun h=>q4 h.1];rfl
     refine O ?_
     try simp only[u];refine kt ?_
     refine O ?_
     try simp only[L];refine kt ?_
     refine O ?_;exact⟨j+1,false,⟨rfl,rfl,az⟩,aX,⟨U,d,Y.tail⟩,U⟩
    have L:decide ((aB du vs j).aT=a.2)=true:=dH (by rw[F];exact q4);by_cases q5:j<i
    ·have P':decide ((j:Int)<(i:Int))=true:=dH U
     have d:(true || gY a i (j+1) (Q.drop (j+1)))=gY a i 0 Q:=by rw[<-y,dH ⟨P,q2,.inr ⟨q4,q5⟩⟩];rfl
     refine O ?_
     try simp only[u];refine kt ?_
     refine O ?_
     try simp only[L];refine kt ?_
     refine O ?_
     try simp only[P'];refine kt ?_
     refine O ?_;exact⟨j+1,true,⟨rfl,rfl,az⟩,aX,⟨U,d,Y.tail⟩,U⟩
    have P':decide ((j:Int)<(i:Int))=false:=dB U;have d:(false || gY a i (j+1) (Q.drop (j+1)))=gY a i 0 Q:=by rw[<-y,dB fun h=>h.2.2.elim q3 fun h=>q5 h.2];rfl
    refine O ?_
    try simp only[u];refine kt ?_
    refine O ?_
    try simp only[L];refine kt ?_
    refine O ?_
    try simp only[P'];refine kt ?_
    refine O ?_;exact⟨j+1,false,⟨rfl,rfl,az⟩,aX,⟨U,d,Y.tail⟩,U⟩
  have d:b=gY a i 0 Q:=by
   rw[oG U]at y;rw[<-y];simp[gY]
  rw[<-d]at S
  cases b with
  | true =>
   rw[ba rfl]at S;refine O ?_
   exact⟨i+1,l,n,K,⟨rfl,rfl,az⟩,aX,⟨U,U,z,S,o,Y.tail⟩,U⟩
  | false =>
   rw[aM dc]at S;have u:xi.oneCell'=true:=by rw[t];exact g
   refine O ?_;refine jA du (x1:=⟨xi,a.2⟩) rfl rfl rfl (fP rfl) (fg _) Y ?_;clear Y;intro so w Y;refine sF (s:=l) (s2:=so) inferInstance rfl rfl (bB Y) rfl rfl (fun x hx v hv=>?_) (by simp only[length_cons,length_nil];omega) (by unfold cn;simp only[length_cons,length_nil];omega) Y ?_
   ·rw[fU.1 hx]at hv
    simp only[du,gT,jd,pQ]at hv;rcases hv with rfl|rfl
    ·exact u
    rfl
   clear Y;intro D w Y;refine O ?_;refine⟨i+1,D,n++[⟨xi,a.2⟩],K++[a],⟨rfl,rfl,az⟩,aX,⟨U,by simp;omega,by simp[z],by rw[S,fk];rfl,fun w h=>(o w h).gD z rfl ?_,Y.tail.tail⟩,U⟩;have:=(h i r).2;rw[<-t,<-hX]at this;exact this
 rw[oG U]at S;have a:K=gn q C:=by rw[_b,S];simp[iB]
 refine O ?_;replace Y:=Z.rd (Δ:=[X du 418 l n,X du 418 rv vs,bA (lI vs Q)]) (Γ:=[]) (φ:=fun w=>rR w l n (gn q C)) (fun _ w h=>by rw[<-a];exact⟨h.rs 0 rfl,z,o w (h.dQ 2 rfl)⟩) Y;exact bo (v:=l) rfl rfl ⟨l,n,rfl,U,Y⟩
def LD (x f y:bY) :
  Calls ak 322 #[dW x,dW f,dW y] w0 fun e w'=>(∃ g,e=.returned (.tuple #[dW g,bS (fz x f y).1])/\((fz x f y).1=0->g=(fz x f y).2))/\Z w0 w' []:=by
 have Y:=Z.start w0;obtain⟨R,a⟩:=À (fz x f y);rw[<-a];unfold fz at a;refine bI ar Tryz.func322 ?_
 repeat (first|refine dS ?_|(refine iT ?_;clear Y;intro p w Y))
 refine aR rfl (Ri f y) ?_;refine gk ?_;clear Y;intro w' Y;by_cases he:(fD f y).1=0
 ·rw[ba he]at a
  rw[ff he];refine ep ?_;intro p w Y;refine aR rfl (Zm x (fD f y).2) ?_;refine gk ?_;clear Y;intro w' Y;rw[<-a];refine dD ?_;intro w Y;exact jF (vs:=[E R.2.num,E R.2.den]) rfl rfl rfl rfl (Y.dA 1 rfl) ⟨⟨R.2,rfl,fun _=>rfl⟩,Y.bj⟩
 rw[aM he]at a;rw[c9 he];refine ep ?_;intro p w Y;refine mX (vs:=[]) (ls:=[]) rfl rfl rfl ?_;refine dD ?_;intro w Y;subst a;rw[c9 he];exact jF (vs:=[E 0,E 0]) rfl rfl rfl rfl (Y.dA 1 rfl) ⟨⟨⟨0,0⟩,rfl,fun _=>rfl⟩,Y.bj⟩
def Rj {Γ:List HP}{rv pv:Value}{xs ys:List bY}{f:bY}(K:xs.length<=ys.length)(Y:Z w0 w (X aI 409 rv xs::X aI 409 pv ys::Γ)) :
  Calls ak 321 #[rv,pv,dW f] w fun e w'=>e=.returned (bS (eF f xs ys).1)/\∃ zs,zs.length=xs.length/\((eF f xs ys).1=0->zs=(eF f xs ys).2)/\Z w0 w' (X aI 409 rv zs::X aI 409 pv ys::Γ):=by
 obtain⟨R,u⟩:=À (eF f xs ys);rw[<-u];have D:=(bB (s:=rv) Y).cn;refine bI ar Tryz.func321 ?_;refine ep ?_;intro p w Y;obtain⟨z,rfl⟩:=À p;refine dP [6,9,12,35] (G:=Nat) (H:=List bY) (fun k _=>[(12,E k)]) (fun k P w=>k<=xs.length/\P.length=k/\R.1=(eF f (xs.drop k) (ys.drop k)).1/\(R.1=0->R.2=P++(eF f (xs.drop k) (ys.drop k)).2)/\Z w0 w (am z 409 [E f.num,E f.den]::X aI 409 rv (P++xs.drop k)::X aI 409 pv ys::Γ)) (fun k _=>xs.length-k) 0 [] (fun _ _=>rfl) ⟨rfl,az⟩ ⟨bC _,rfl,by rw[u];rfl,by rw[u];exact fun _=>rfl,Y⟩ ?_;clear Y;rintro N k P w ⟨hk,n,a,b,Y⟩;have hlen:=H9 n hk;refine aC ?_ ?_<;>intro h1
 ·have m:k<xs.length:=U
  have y:k<ys.length:=U;rw[tK aI.dflt m,tK aI.dflt y]at a b;unfold eF at a b;have l:=Ia (d:=aI.dflt) n m;obtain⟨L,o⟩:=À (fz (xs.getD k aI.dflt) f (ys.getD k aI.dflt));rw[<-o]at a b;refine O ?_;refine rJ [8,9,15,27] (G:=Addr × bY) (fun x=>[(8,.pointer (some x.1)),(9,bS L.1)]) (fun x w=>(L.1=0->x.2=L.2)/\Z w0 w (am x.1 409 [E x.2.num,E x.2.den]::am z 409 [E f.num,E f.den]::X aI 409 rv (P++xs.drop k)::X aI 409 pv ys::Γ)) (fun _=>rfl) ?_ ?_
  ·refine u7 (.s [0,1,2,5,6,7,3,4,8] (.d 9 [] (.s [10,11,12] (.c 13 [3,4,8] (.s [14,15] (.jz [])))) (.d 13 [3,4,8] (.s [9,10,11,12,14,15] (.jz [])) (.stop)))) Y kr kr ?_;clear Y;intro w Y
   refine O ?_;refine jl ?_ (jl ?_ pP)
   ·refine O ?_
    refine aR rfl (LD ((P++xs.drop k).getD k aI.dflt) f (ys.getD k aI.dflt)) ?_;rintro _ w' ⟨⟨g,rfl,I⟩,aw⟩;refine aL ?_;clear aw Y;intro Y;rw[l,<-o]at I;refine dj ?_;intro p w Y;rw[l,<-o];exact⟨(_,g),⟨rfl,rfl,az⟩,aX,I,Y⟩
   refine dj ?_;intro p w Y;refine aR rfl (LD ((P++xs.drop k).getD k aI.dflt) f (ys.getD k aI.dflt)) ?_;rintro _ w' ⟨⟨g,rfl,I⟩,aw⟩;refine aL ?_;clear aw Y;intro Y;rw[l,<-o]at I;refine jD ?_;intro w Y;rw[l,<-o];exact⟨(_,g),⟨rfl,rfl,az⟩,aX,I,Y⟩
  clear Y;rintro F ⟨Q,g⟩ w ⟨I,Y⟩;simp only at I Y;by_cases he:L.1=0
  ·rw[ba he]at a b
   have I:=I he;rw[ff he];refine O ?_;refine vW (T:=aI) (s:=rv) (xs:=P++xs.drop k) (j:=k) (x':=g) rfl rfl rfl rfl Y inferInstance U ?_;clear Y;intro w Y;refine O ?_;rw[DT n m]at Y;refine⟨k+1,P++[g],⟨rfl,az⟩,aX,⟨U,by simp[n],?_,?_,Y.tail⟩,U⟩
   ·rw[a];split
    ·rename_i h;exact h.symm
    rfl
   intro r;rw[a]at r;split at r
   ·rename_i t
    rw[b (by rw[a,ba t]),ba t,I,fk];rfl
   rename_i t;exact absurd r t
  rw[aM he]at a b;rw[c9 he];refine O ?_;exact bo (v:=.iface 57 (E L.1)) rfl rfl ⟨by rw[a,c9 he],P++xs.drop k,hlen,fun h=>absurd (a ▸ h) he,Y.tail.tail⟩
 have l:k=xs.length:=U;subst l;rw[Ib]at a b;refine O ?_;have r:R.1=0:=a;exact bo (v:=.nilIface) rfl rfl ⟨by rw[ff r],P,n,fun h=>by rw[b h];simp[eF],by simpa using Y.tail⟩
def Rl {r k:Nat}{rowR:List bY}{xr:bY}:∀ {rows:List (List bY)}{right:List bY}{i:Nat},i<=r->cw r k rowR xr i (rows.set (r-i) rowR) (right.set (r-i) xr)=cw r k rowR xr i rows right
 | [],_,_,_=>rfl
 | _::_,[],_,_=>by
  rename_i i h
  cases a:r-i<;>rfl
 | row::rows,x::right,i,h=>by
  by_cases e:i=r
  ·have a:r-i=0:=U
   rw[a,lO,lO];unfold cw;rw[ba e,ba e]
  have a:r-i=(r-(i+1))+1:=U;have b:=Rl (r:=r) (k:=k) (rowR:=rowR) (xr:=xr) (rows:=rows) (right:=right) (i:=i+1) U;rw[a,mY,mY];unfold cw;rw[aM e,aM e,b]
def Zn {r:Nat}{R row:List bY}{x y F:bY}{rows:List (List bY)}{right:List bY}{a:Int × List bY}{b:Int × bY}(d:F=row.getD k aI.dflt)(e:a=eF F row R)(f:b=fz y F x)(g:T=cw r k R x (i+1) rows right) :
  cw r k R x i (row::rows) (y::right)=if i=r then (if T.1=0 then (0,R::T.2.1,x::T.2.2) else (T.1,[],[])) else if a.1=0 then (if b.1=0 then (if T.1=0 then (0,a.2::T.2.1,b.2::T.2.2) else (T.1,[],[])) else (b.1,[],[])) else (a.1,[],[]):=by
 subst g f e d
 conv=>lhs;unfold cw
 rfl
def Rm {a:List bY}{b:bY}{E_:Int × List (List bY) × List bY}{e:List (List bY)}{P2:List bY}(h1:E_.1=(if T.1=0 then ((0:Int),a::T.2.1,b::T.2.2) else (T.1,[],[])).1)(h2:E_.1=0->E_.2.1=e++(if T.1=0 then ((0:Int),a::T.2.1,b::T.2.2) else (T.1,[],[])).2.1/\E_.2.2=P2++(if T.1=0 then ((0:Int),a::T.2.1,b::T.2.2) else (T.1,[],[])).2.2):E_.1=T.1/\(E_.1=0->E_.2.1=(e++[a])++T.2.1/\E_.2.2=(P2++[b])++T.2.2):=by
 by_cases h:T.1=0
 ·rw[ba h]at h1 h2
  exact⟨by rw[h1,h],fun d=>by simpa using h2 d⟩
 rw[aM h]at h1 h2;exact⟨h1,fun d=>absurd (h1.symm.trans d) h⟩
def Zo (S:e8)(r k:Nat){D:bY}{a:Int × List bY}{b e f:Int × bY}{d:Int × List (List bY) × List bY}{g:Int × List bY}(h:D=(S.rows.getD r []).getD k aI.dflt)(h1:a=lY D (S.rows.getD r []))(h2:b=gN 22 (S.right.getD r aI.dflt) D)(j:d=cw r k a.2 b.2 0 S.rows S.right)(l:g=eF (S.aF.getD k aI.dflt) S.aF a.2)(m:e=fD (S.aF.getD k aI.dflt) b.2)(n:f=jJ S.value e.2) :
  nH S r k=if a.1≠0 then (a.1,S) else if b.1≠0 then (b.1,S) else if d.1≠0 then (d.1,S) else if g.1≠0 then (g.1,S) else if e.1≠0 then (e.1,S) else if f.1≠0 then (f.1,S) else (0,⟨d.2.1,d.2.2,S.bW.set r (k:Int),g.2,f.2⟩):=by
 subst n m l j h2 h1 h;rfl
def GN (b:Addr)(n m:Int)(rv bv a gv:Value)(ss:List Value)(S:e8):List HP:=[am b 431 [E n,E m,rv,bv,a,gv,E S.value.num,E S.value.den],X aA 388 rv ss,ai aI 409 ss S.rows,X aI 409 bv S.right,X W 3 a S.bW,X aI 409 gv S.aF]
def Zp {Γ:List HP}{pt:Addr}{n m:Int}{rv bv t gv:Value}{ss:List Value}{S:e8}{N M' r:Nat}(hS:iO N M' S)(hr:r<M')(hk:k<N)(hN:N<=4096)(hM:M'<=4096)(Y:Z w0 w (am pt 431 [E n,E m,rv,bv,t,gv,E S.value.num,E S.value.den]::X aA 388 rv ss::ai aI 409 ss S.rows::X aI 409 bv S.right::X W 3 t S.bW::X aI 409 gv S.aF::Γ)) :
  Calls ak 313 #[.pointer (some pt),E r,E k] w fun e w'=>e=.returned (bS (nH S r k).1)/\((nH S r k).1≠0->Z w0 w' Γ)/\((nH S r k).1=0->Z w0 w' (GN pt n m rv bv t gv ss (nH S r k).2++Γ)):=by
 obtain⟨R,b⟩:=À (nH S r k);rw[<-b];obtain⟨D,hD⟩:=À ((S.rows.getD r []).getD k aI.dflt);obtain⟨l,_f⟩:=À (lY D (S.rows.getD r []));obtain⟨a,_i⟩:=À (gN 22 (S.right.getD r aI.dflt) D);obtain⟨K,_j⟩:=À (cw r k l.2 a.2 0 S.rows S.right);obtain⟨E4,_k⟩:=À (eF (S.aF.getD k aI.dflt) S.aF l.2);obtain⟨E5,_l⟩:=À (fD (S.aF.getD k aI.dflt) a.2);obtain⟨E6,_o⟩:=À (jJ S.value E5.2);rw[Zo S r k hD _f _i _j _k _l _o]at b;have h1:=hS.rl;have h2:=hS.bl;have h3:=hS.al;have h4:=hS.gl;have _p:(S.rows.getD r []).length=N:=hS.DU _ (cS [] U);replace Y:Z w0 w (ai aI 409 ss S.rows::am pt 431 [E n,E m,rv,bv,t,gv,E S.value.num,E S.value.den]::X aA 388 rv ss::X aI 409 bv S.right::X W 3 t S.bW::X aI 409 gv S.aF::Γ):=Y.cu;have _G:ss.length=M':=by
  have:=Y.bU;omega
 obtain⟨Δ,_q,V'⟩:=Y.tk (i:=r) U;clear Y;have Y:=_q;clear _q;obtain⟨row,_y⟩:=À (S.rows.getD r []);rw[<-_y]at Y _p hD _f;refine bI ar Tryz.func313 ?_;refine ep ?_;clear Y;intro p w Y;rw[<-hD]at Y;obtain⟨p8,rfl⟩:=À p;have eD:aI.enc D=[E D.num,E D.den]:=rfl;rw[eD]at Y;refine dP [6,6,9,11,32,51] (G:=Nat) (H:=List bY) (fun k _=>[(32,E k)]) (fun k P w=>k<=row.length/\P.length=k/\l.1=(lY D (row.drop k)).1/\(l.1=0->l.2=P++(lY D (row.drop k)).2)/\Z w0 w (am p8 409 [E D.num,E D.den]::X aI 409 (cL ss r) (P++row.drop k)::kR Δ::am pt 431 [E n,E m,rv,bv,t,gv,E S.value.num,E S.value.den]::X aA 388 rv ss::X aI 409 bv S.right::X W 3 t S.bW::X aI 409 gv S.aF::Γ)) (fun k _=>row.length-k) 0 [] (fun _ _=>rfl) ⟨rfl,az⟩ ⟨bC _,rfl,by rw[_f];rfl,by rw[_f];exact fun _=>rfl,Y⟩ ?_;clear Y;rintro σ i P w ⟨hi,hP,u,Q,Y⟩;have hlen:=H9 hP hi;refine aC ?_ ?_<;>intro g1
 ·have o:i<row.length:=U
  have y:=Ia (d:=aI.dflt) hP o;rw[tK aI.dflt o]at u Q;unfold lY at u Q;obtain⟨L,z⟩:=À (gN 22 (row.getD i aI.dflt) D);rw[<-z]at u Q;refine O ?_;refine rJ [10,11,35,43] (G:=Addr) (fun x=>[(10,.pointer (some x)),(11,bS L.1)]) (fun x w=>Z w0 w (am x 409 [E L.2.num,E L.2.den]::am p8 409 [E D.num,E D.den]::X aI 409 (cL ss r) (P++row.drop i)::kR Δ::am pt 431 [E n,E m,rv,bv,t,gv,E S.value.num,E S.value.den]::X aA 388 rv ss::X aI 409 bv S.right::X W 3 t S.bW::X aI 409 gv S.aF::Γ)) (fun _=>rfl) ?_ ?_
  ·refine u7 (.s [0,1,2,3,4] (.d 5 [] (.s [6,7,8] (.c 9 [3,4] (.s [10,11] (.jz [])))) (.d 9 [3,4] (.s [5,6,7,8,10,11] (.jz [])) (.stop)))) Y kr kr ?_;clear Y;intro w Y
   refine O ?_;refine jl ?_ (jl ?_ pP)
   ·refine O ?_
    refine aR rfl (DV ((P++row.drop i).getD i aI.dflt) D) ?_;refine AN ?_;clear Y;intro p w Y;rw[y,<-z]at Y ⊢;exact⟨_,⟨rfl,rfl,az⟩,aX,Y⟩
   refine dj ?_;clear Y;intro p w Y;refine aR rfl (DV ((P++row.drop i).getD i aI.dflt) D) ?_;refine xu ?_;clear Y;intro w Y;rw[y,<-z]at Y ⊢;exact⟨_,⟨rfl,rfl,az⟩,aX,Y⟩
  clear Y;rintro _z j' w Y;by_cases he:L.1=0
  ·rw[ba he]at u Q
   rw[ff he];refine O ?_;refine vW (T:=aI) (s:=cL ss r) (xs:=P++row.drop i) (j:=i) (x':=L.2) rfl rfl rfl rfl Y inferInstance U ?_;clear Y;intro w Y;refine O ?_;rw[DT hP o]at Y;refine⟨i+1,P++[L.2],⟨rfl,az⟩,aX,⟨U,by simp[hP],?_,?_,Y.tail⟩,U⟩
   ·rw[u];split
    ·rename_i h;exact h.symm
    rfl
   intro V;rw[u]at V;split at V
   ·rename_i h2
    rw[Q (by rw[u,ba h2]),ba h2,fk];rfl
   rename_i h2;exact absurd V h2
  rw[aM he]at u Q;have _a:l.1=L.1:=u;rw[<-_a]at he ⊢;rw[ba he]at b;rw[c9 he];(refine O ?_);exact bo (v:=.iface 57 (E l.1)) rfl rfl ⟨by rw[b,c9 he],fun _=>Y.cu,fun h=>absurd (by rw[b]at h;exact h) he⟩
 have _r:i=row.length:=U;subst _r;rw[Ib]at u Q Y;have he:l.1=0:=u;have y:l.2=P:=by rw[Q he];simp[lY]
 rw[gj,<-y]at Y;rw[<-y]at hP;clear u Q hlen P y;rw[aM (z7.2 he)]at b;refine O ?_;refine rJ [12,13,52,63] (G:=Addr) (fun x=>[(12,.pointer (some x)),(13,bS a.1)]) (fun x w=>Z w0 w (am x 409 [E a.2.num,E a.2.den]::am p8 409 [E D.num,E D.den]::X aI 409 (cL ss r) l.2::kR Δ::am pt 431 [E n,E m,rv,bv,t,gv,E S.value.num,E S.value.den]::X aA 388 rv ss::X aI 409 bv S.right::X W 3 t S.bW::X aI 409 gv S.aF::Γ)) (fun _=>rfl) ?_ ?_
 ·refine u7 (.s [0,1,2,4,3,5,6,7] (.d 8 [] (.s [9,10,11] (.c 12 [3,6,7] (.s [13,14] (.jz [])))) (.d 12 [3,6,7] (.s [8,9,10,11,13,14] (.jz [])) (.stop)))) Y kr kr ?_;clear Y;intro w Y
  refine O ?_;refine jl ?_ (jl ?_ pP)
  ·refine O ?_
   refine aR rfl (DV (S.right.getD r aI.dflt) D) ?_;refine AN ?_;clear Y;intro p w Y;rw[<-_i]at Y ⊢;exact⟨_,⟨rfl,rfl,az⟩,aX,Y⟩
  refine dj ?_;clear Y;intro p w Y;refine aR rfl (DV (S.right.getD r aI.dflt) D) ?_;refine xu ?_;clear Y;intro w Y;rw[<-_i]at Y ⊢;exact⟨_,⟨rfl,rfl,az⟩,aX,Y⟩
 clear Y he;rintro _z P' w Y;by_cases he:a.1=0
 case neg =>
  rw[ba he]at b;rw[c9 he];(refine O ?_);exact bo (v:=.iface 57 (E a.1)) rfl rfl ⟨by rw[b,c9 he],fun _=>Y.cu,fun h=>absurd (by rw[b]at h;exact h) he⟩
 rw[aM (z7.2 he)]at b;rw[ff he];refine dD ?_;clear Y;intro w Y;refine vW (T:=aI) (s:=bv) (xs:=S.right) (j:=r) (x':=a.2) rfl rfl rfl rfl Y inferInstance U ?_;clear Y;intro w Y;replace Y:Z w0 w (X aI 409 (cL ss r) l.2::kR Δ::am P' 409 [E a.2.num,E a.2.den]::am pt 431 [E n,E m,rv,bv,t,gv,E S.value.num,E S.value.den]::X aA 388 rv ss::X aI 409 bv (S.right.set r a.2)::X W 3 t S.bW::X aI 409 gv S.aF::Γ):=Y.cu;replace Y:=V' Y;obtain⟨A,hA⟩:=À (S.rows.set r l.2);obtain⟨B,hB⟩:=À (S.right.set r a.2);rw[<-hA,<-hB]at Y;have _h:K=cw r k l.2 a.2 0 A B:=by rw[_j,hA,hB];exact(Rl (i:=0) (bC _)).symm
 have _H:A.length=M':=by rw[hA,iU];exact h1
 have _I:B.length=M':=by rw[hB,iU];exact h2
 have _m:A.getD r []=l.2:=by rw[hA,aq (by rw[iU];omega),DW]
 have _s:B.getD r aI.dflt=a.2:=by rw[hB,aq (by rw[iU];omega),DW]
 have _A:∀ i,i<M'->(A.getD i []).length=N:=fun i hi=>by
  by_cases e:r=i
  ·rw[<-e,_m];omega
  rw[hA];simp only[List.getD];rw[uO e];exact hS.DU _ (cS [] U)
 clear _j he V';refine O ?_;refine pu [6,6,13,16,79,136] (G:=Nat) (H:=List (List bY)) (I':=List bY) (fun i _ _=>[(79,E i)]) (fun i P1 V w=>i<=M'/\P1.length=i/\V.length=i/\(P1++A.drop i).getD r []=l.2/\(V++B.drop i).getD r aI.dflt=a.2/\K.1=(cw r k l.2 a.2 i (A.drop i) (B.drop i)).1/\(K.1=0->K.2.1=P1++(cw r k l.2 a.2 i (A.drop i) (B.drop i)).2.1/\K.2.2=V++(cw r k l.2 a.2 i (A.drop i) (B.drop i)).2.2)/\Z w0 w (ai aI 409 ss (P1++A.drop i)::am P' 409 [E a.2.num,E a.2.den]::am pt 431 [E n,E m,rv,bv,t,gv,E S.value.num,E S.value.den]::X aA 388 rv ss::X aI 409 bv (V++B.drop i)::X W 3 t S.bW::X aI 409 gv S.aF::Γ)) (fun i _ _=>M'-i) 0 [] [] (fun _ _ _=>rfl) ⟨rfl,az⟩ ⟨bC _,rfl,rfl,_m,_s,by rw[_h];rfl,fun _=>by rw[_h];exact⟨rfl,rfl⟩,Y⟩ ?_;clear Y;rintro _J i P1 V w ⟨hi,H',y,J',R',o,z,Y⟩;have _B:=H9 (xs:=A) H' U;have _C:=H9 (xs:=B) y U;refine aC ?_ ?_<;>intro g2
 ·have _D:i<M':=U
  have _b:i<A.length:=U;have _c:i<B.length:=U;have _E:=Ia (d:=([]:List bY)) H' _b;have _F:=Ia (d:=aI.dflt) y _c;obtain⟨F,hF⟩:=À ((A.getD i []).getD k aI.dflt);obtain⟨L3,_t⟩:=À (eF F (A.getD i []) l.2);obtain⟨L4,_u⟩:=À (fz (B.getD i aI.dflt) F a.2);obtain⟨T,hT⟩:=À (cw r k l.2 a.2 (i+1) (A.drop (i+1)) (B.drop (i+1)));rw[tK [] _b,tK aI.dflt _c,Zn hF _t _u hT]at o z;have _K:=_A i _D;refine aC ?_ ?_<;>intro g3
  ·have j':i=r:=U
   rw[ba j']at o z;obtain⟨_d,_e⟩:=Rm o z;rw[hT]at _d _e;refine O ?_;have e1:(P1++[l.2])++A.drop (i+1)=P1++A.drop i:=by rw[tK [] _b,j',_m,fk];rfl
   have e2:(V++[a.2])++B.drop (i+1)=V++B.drop i:=by rw[tK aI.dflt _c,j',_s,fk];rfl
   exact⟨i+1,P1++[l.2],V++[a.2],⟨rfl,az⟩,aX,⟨U,by simp[H'],by simp[y],by rw[e1];exact J',by rw[e2];exact R',_d,_e,by rw[e1,e2];exact Y⟩,U⟩
  have j':i≠r:=U;rw[aM j']at o z;obtain⟨_v,_g,_n⟩:=Y.Do (i:=i) (r:=r) U U j';rw[J']at _g _n;rw[_E]at _g;clear Y;have Y:=_g;clear _g;refine ep ?_;clear Y;intro p w Y;rw[<-hF]at Y ⊢;rw[show aI.enc F=[E F.num,E F.den] from rfl]at Y;obtain⟨_w,rfl⟩:=À p;refine aR rfl (Rj (rv:=cL ss i) (pv:=cL ss r) (xs:=A.getD i []) (ys:=l.2) (f:=F) U (Y.cu (Δ:=X aI 409 (cL ss i) (A.getD i [])::X aI 409 (cL ss r) l.2::am _w 409 [E F.num,E F.den]::kR _v::am P' 409 [E a.2.num,E a.2.den]::am pt 431 [E n,E m,rv,bv,t,gv,E S.value.num,E S.value.den]::X aA 388 rv ss::X aI 409 bv (V++B.drop i)::X W 3 t S.bW::X aI 409 gv S.aF::Γ))) ?_;clear Y;rintro _ w ⟨rfl,zs,_x,T',Y⟩;refine⟨_,rfl,?_⟩;rw[<-_t]at T' ⊢;by_cases he:L3.1=0
  case neg =>
   rw[aM he]at o;have _a:K.1=L3.1:=o;rw[<-_a]at he ⊢;rw[ba he]at b;rw[c9 he];(refine O ?_);exact bo (v:=.iface 57 (E K.1)) rfl rfl ⟨by rw[b,c9 he],fun _=>Y.cu,fun h=>absurd (by rw[b]at h;exact h) he⟩
  rw[ba he]at o z;rw[T' he]at Y;rw[ff he];replace Y:Z w0 w (X aI 409 (cL ss i) L3.2::X aI 409 (cL ss r) l.2::kR _v::am _w 409 [E F.num,E F.den]::am P' 409 [E a.2.num,E a.2.den]::am pt 431 [E n,E m,rv,bv,t,gv,E S.value.num,E S.value.den]::X aA 388 rv ss::X aI 409 bv (V++B.drop i)::X W 3 t S.bW::X aI 409 gv S.aF::Γ):=Y.cu;replace Y:=_n Y;rw[DT H' _b]at Y;clear he _n;refine O ?_;refine gi (pl [0,1,2,3,4,5,6,7,8,9,10,11,12,13,14,15,16,17,18,19,20] (.cY 3::pl [21,22,23,24,25,26] [])) Y kr ?_;clear Y;intro w Y;refine O ?_;refine aR rfl (LD ((V++B.drop i).getD i aI.dflt) F ((V++B.drop i).getD r aI.dflt)) ?_;rintro _ w' ⟨⟨g,rfl,I⟩,aw⟩;refine aL ?_;clear aw Y;intro Y;rw[_F,R',<-_u]at I ⊢;by_cases he:L4.1=0
  case neg =>
   rw[aM he]at o;have _a:K.1=L4.1:=o;rw[<-_a]at he ⊢;rw[ba he]at b;rw[c9 he];refine O ?_;refine vW (T:=aI) (s:=bv) (xs:=V++B.drop i) (j:=i) (x':=g) rfl rfl rfl rfl Y inferInstance U ?_;clear Y;intro w Y;refine O ?_;exact bo (v:=.iface 57 (E K.1)) rfl rfl ⟨by rw[b,c9 he],fun _=>Y.cu,fun h=>absurd (by rw[b]at h;exact h) he⟩
  rw[ba he]at o z;rw[ff he,I he];refine O ?_;refine vW (T:=aI) (s:=bv) (xs:=V++B.drop i) (j:=i) (x':=L4.2) rfl rfl rfl rfl Y inferInstance U ?_;clear Y;intro w Y;rw[DT y _c]at Y;obtain⟨_d,_e⟩:=Rm o z;rw[hT]at _d _e;refine O ?_;have e1:((P1++[L3.2])++A.drop (i+1)).getD r []=l.2:=by
   rw[<-DT H' _b,List.getD,uO j'];exact J'
  have e2:((V++[L4.2])++B.drop (i+1)).getD r aI.dflt=a.2:=by
   rw[<-DT y _c,List.getD,uO j'];exact R'
  exact⟨i+1,P1++[L3.2],V++[L4.2],⟨rfl,az⟩,aX,⟨U,by simp[H'],by simp[y],e1,e2,_d,_e,Y.cu⟩,U⟩
 have _r:i=M':=U;have e1:A.drop i=[]:=oG U;have e2:B.drop i=[]:=oG U;rw[e1,e2]at o z;rw[e1,gj]at J' Y;rw[e2,gj]at R' Y;have he:K.1=0:=o;have _a:K.2.1=P1:=by rw[(z he).1];simp[cw]
 have _b:K.2.2=V:=by rw[(z he).2];simp[cw]
 rw[<-_a]at J' Y H';rw[<-_b]at R' Y y;rw[aM (z7.2 he)]at b;clear o z _B _C he _a _b P1 V e1 e2;obtain⟨_c,j',_e⟩:=Y.tk (i:=r) U;rw[J']at j';clear Y;have Y:=j';clear j';obtain⟨G,hG⟩:=À (S.aF.getD k aI.dflt);rw[<-hG]at _k _l;refine ep ?_;clear Y;intro p w Y;rw[<-hG]at Y ⊢;rw[show aI.enc G=[E G.num,E G.den] from rfl]at Y;obtain⟨_d,rfl⟩:=À p;refine aR rfl (Rj (rv:=gv) (pv:=cL ss r) (xs:=S.aF) (ys:=l.2) (f:=G) U (Y.cu (Δ:=X aI 409 gv S.aF::X aI 409 (cL ss r) l.2::am _d 409 [E G.num,E G.den]::kR _c::am P' 409 [E a.2.num,E a.2.den]::am pt 431 [E n,E m,rv,bv,t,gv,E S.value.num,E S.value.den]::X aA 388 rv ss::X aI 409 bv K.2.2::X W 3 t S.bW::Γ))) ?_;clear Y;rintro _ w ⟨rfl,zs,_x,T',Y⟩;refine⟨_,rfl,?_⟩;rw[<-_k]at T' ⊢;by_cases he:E4.1=0
 case neg =>
  rw[ba he]at b;rw[c9 he];(refine O ?_);exact bo (v:=.iface 57 (E E4.1)) rfl rfl ⟨by rw[b,c9 he],fun _=>Y.cu,fun h=>absurd (by rw[b]at h;exact h) he⟩
 rw[aM (z7.2 he)]at b;rw[ff he];rw[T' he]at Y;replace Y:Z w0 w (X aI 409 (cL ss r) l.2::kR _c::am _d 409 [E G.num,E G.den]::am P' 409 [E a.2.num,E a.2.den]::am pt 431 [E n,E m,rv,bv,t,gv,E S.value.num,E S.value.den]::X aA 388 rv ss::X aI 409 bv K.2.2::X W 3 t S.bW::X aI 409 gv E4.2::Γ):=Y.cu;replace Y:=_e Y;have _g:K.2.1.set r l.2=K.2.1:=Rn (by rw[<-J',aq U];exact mL U);rw[_g]at Y;clear he _x T';refine dD ?_;clear Y;intro w Y;refine aR rfl (Ri G (K.2.2.getD r aI.dflt)) ?_;refine gk ?_;clear Y;intro w' Y;rw[R',<-_l];by_cases he:E5.1=0
 case neg =>
  rw[ba he]at b;rw[c9 he];((refine dD ?_;clear Y;intro w Y));exact bo (v:=.iface 57 (E E5.1)) rfl rfl ⟨by rw[b,c9 he],fun _=>Y.cu,fun h=>absurd (by rw[b]at h;exact h) he⟩
 rw[aM (z7.2 he)]at b;rw[ff he];clear he;refine dD ?_;clear Y;intro w Y;refine r7 rfl (zC (k:=6) (n:=2) (vs:=[E S.value.num,E S.value.den]) rfl (Y.dA 3 rfl) rfl rfl) ?_;refine O ?_;refine aR rfl (Ro S.value E5.2) ?_;refine gk ?_;clear Y;intro w' Y;rw[<-_o];by_cases he:E6.1=0
 case neg =>
  rw[ba he]at b;rw[c9 he];refine O ?_;refine Rp (k:=6) (n:=2) (vs:=[E E6.2.num,E E6.2.den]) rfl rfl Y inferInstance rfl (fP rfl) rfl rfl ?_;clear Y;intro w Y;refine O ?_;exact bo (v:=.iface 57 (E E6.1)) rfl rfl ⟨by rw[b,c9 he],fun _=>Y.cu,fun h=>absurd (by rw[b]at h;exact h) he⟩
 rw[aM (z7.2 he)]at b;rw[ff he];refine O ?_;refine Rp (k:=6) (n:=2) (cells':=[E n,E m,rv,bv,t,gv,E E6.2.num,E E6.2.den]) (vs:=[E E6.2.num,E E6.2.den]) rfl rfl Y inferInstance rfl (fP rfl) rfl rfl ?_;clear Y;intro w Y;refine dD ?_;clear Y;intro w Y;rw[b];exact bo (v:=.nilIface) rfl rfl ⟨by rw[ff rfl],fun h=>absurd rfl h,fun _=>Y.cu (Δ:=am pt 431 [E n,E m,rv,bv,t,gv,E E6.2.num,E E6.2.den]::X aA 388 rv ss::ai aI 409 ss K.2.1::X aI 409 bv K.2.2::X W 3 t (S.bW.set r (k:Int))::X aI 409 gv E4.2::Γ)⟩
end Go.Proofs.YtmapkjoefdgjfaaGreatDoor
