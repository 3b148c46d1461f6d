/- Several texts. -/
import Derived.Test.YtmapkjoefdgjfaaGreatDoorMW26E
set_option linter.unusedSimpArgs false
set_option linter.unusedVariables false
set_option linter.defProp false
set_option maxRecDepth 8000
set_option maxHeartbeats 16000000
open List Nat
namespace Go.Proofs.YtmapkjoefdgjfaaGreatDoor
open Go.Sl Go
variable {C:List J}{c b:J}
attribute [local irreducible] vc opsW opsD opV opW PureV ReadV Thn Blk
def li (n:Nat)(C:List J)(c:J):J:=(List.range n).map fun op=>((fC C op:Nat):Int)+if (op:Int)∈c then 1 else 0
def DF (n:Nat)(C:List J)(c:J):(li n C c).length=n:=by simp[li]
def Gp {n:Nat}{op:Nat}(h:op<n):(li n C c).getD op W.dflt=((fC C op:Nat):Int)+if (op:Int)∈c then 1 else 0:=by
 rw[am (by rw[DF];exact h)];simp[li]
def WD (n:Nat)(C:List J):li n C []=fT n C:=by simp[li,fT]
def WE (C:List J)(c:J)(op:Nat):fC (C++[c]) op=fC C op+if (op:Int)∈c then 1 else 0:=by
 unfold fC;rw[countP_append];by_cases h:(op:Int)∈c
 ·rw[aM h,countP_cons_of_pos (by simpa using h)];rfl
 rw[aC h,countP_cons_of_neg (by simpa using h)];rfl
def WF (n:Nat)(C:List J)(c:J):li n C c=fT n (C++[c]):=by
 unfold li fT;refine xN fun op _=>?_;rw[WE];split<;>simp
def O3 (C:List J)(op:Nat):fC C op<=C.length:=countP_le_length
def WG {op:Nat}(a:c∈C)(h:(op:Int)∈c):0<fC C op:=I0.2 ⟨c,a,by simpa using h⟩
def WH {n k:Nat}(bL:j9 n c)(hk:k<c.length):(li n C (c.take k)).set (c.getD k W.dflt).toNat ((li n C (c.take k)).getD (c.getD k W.dflt).toNat W.dflt+1)=li n C (c.take (k+1)):=by
 obtain⟨o,f⟩:=À (c.getD k W.dflt);have m:=bL k hk;have r:0<=o:=by rw[f];exact m.1
 have h1:o<n:=by rw[f];exact m.2.1
 have g:o∉c.take k:=fun h=>by
  obtain⟨j,a,e⟩:=fJ h;rw[jd]at a;rw[DG]at e;have:=O4 bL j k U hk;rw[am U,e,f]at this;omega
 rw[<-f];have j:o.toNat<n:=U;have l:((o.toNat:Nat):Int)=o:=U;rw[Gp j,l,aC g];refine iB (by rw[gY,DF,DF]) fun i h1 a=>?_;have q:i<n:=by rw[DF]at a;exact a
 rw[<-am (d:=W.dflt) a,Gp q,eC W.dflt hk,<-f];by_cases e:i=o.toNat
 ·rw[aM (gG.2 (.inr (dp.2 U))),si,aM e.symm,e];omega
 rw[si,aC (fun h=>e h.symm),<-am (d:=W.dflt),Gp q];by_cases h:(i:Int)∈c.take k
 ·rw[aM h,aM (gG.2 (.inl h))]
 rw[aC h,aC fun a=>by
  rcases gG.1 a with a|a
  ·exact h a
  have:=dp.1 a
  omega]
def WI {many:J}{out:List da}{U':Int × da}(a:U'=jO b many 0 dF c):nJ b many out (c::C)=if U'.1=0 then nJ b many (out++[U'.2]) C else (U'.1,[]):=by
 subst a;conv=>lhs;unfold nJ
def WJ {many:J}{i:Nat}{dq:da}{op:Int}{l:J}{S:Int × da}(a:S=me (b.getD op.toNat W.dflt) (many.getD op.toNat W.dflt)):jO b many i dq (op::l)=if S.1=0 then jO b many (i+1) (if i=0\/lO S.2 dq<0 then S.2 else dq) l else (S.1,dq):=by
 subst a;conv=>lhs;unfold jO
def WK {w0:World}{cv ov:Value}{cs:List il}(hc:RS W w0 cv b)(_a:b.length<=4096)(K:∀ x∈b,0<=x/\x<=1048576)(hC:iI w0 ov cs C) :
  Calls ai 286 #[cv,ov] w0 fun e w'=>∃ lv,e=.returned (.tuple #[lv,bI (gg 2 b C).1])/\Z w0 w' [X gL 409 lv (gg 2 b C).2]:=by
 have j':=hC;obtain⟨_b,_c,N⟩:=hC;obtain⟨R,j⟩:=À (gg 2 b C);rw[<-j];unfold gg at j;have Y:=Z.start w0;refine bA an Tryz.func286 ?_;refine O ?_;refine aL rfl (O5 (hc.at Y) K (j'.at Y)) ?_;refine gZ ?_;clear Y;intro w' Y;by_cases he:mQ b.length C=0
 case neg =>
  rw[aC he]at j;rw[cS he];refine O ?_;rw[j];exact cR (v:=nS) (v':=.iface 57 (E (mQ b.length C))) rfl rfl rfl ⟨nS,by rw[cS he],(Y.nil (T:=gL) (e:=409)).only⟩
 rw[aM he,aC dc,aM rfl]at j;rw[fK he];obtain⟨V',y⟩:=I1 he;refine l7 ?_;intro s w Y;obtain⟨z,rfl⟩:=À s;have e0:replicate ((b.length:Int)).toNat (0:Int)=fT b.length (C.take 0):=by
  rw[jo];refine iB (by simp[fT]) fun i h1 B=>?_;simp[fT,fC]
 rw[e0]at Y;refine cP [9,9,11,11,31,49] (G:=Nat) (fun k=>[(31,E k)]) (fun k w=>k<=cs.length/\Z w0 w [X W 3 z (fT b.length (C.take k))]) (fun k=>cs.length-k) 0 (fun _=>rfl) ⟨rfl,az⟩ ⟨bu _,Y⟩ ?_;clear Y;rintro σ k w ⟨hk,Y⟩;refine aB ?_ ?_<;>intro h1
 ·have l:k<C.length:=U
  have m:=N k l;have q:=m.one;have P:(ca.enc (au ca cs k)).all Value.oneCell'=true:=by
   show ((au ca cs k).M.oneCell' && ((Value.int .i64 (au ca cs k).aN).oneCell' && true))=true;rw[q];rfl
  have A:ca.enc (au ca cs k)=[(au ca cs k).M,E (au ca cs k).aN]:=rfl;obtain⟨c,n⟩:=À (C.getD k []);have r:c∈C:=by rw[n];exact cH [] l
  obtain⟨H',bL⟩:=y c r;rw[<-n]at m;have J':=m.bU;have t:li b.length (C.take k) c=fT b.length (C.take (k+1)):=by rw[WF,eC [] l,<-n]
  refine db ?_;intro p w Y;rw[A]at Y;obtain⟨D,rfl⟩:=À p;rw[<-WD]at Y;have a:Z w0 w [ak D 361 [(au ca cs k).M,E (au ca cs k).aN],X W 3 z (li b.length (C.take k) (c.take 0))]:=Y;clear Y;have Y:=a;clear a;refine O ?_;refine cP [11,11,38,48] (G:=Nat) (fun i=>[(38,E i)]) (fun i w=>i<=c.length/\Z w0 w [ak D 361 [(au ca cs k).M,E (au ca cs k).aN],X W 3 z (li b.length (C.take k) (c.take i))]) (fun i=>c.length-i) 0 (fun _=>rfl) ⟨rfl,az⟩ ⟨bu _,Y⟩ ?_;clear Y;rintro F i w ⟨hi,Y⟩;have P':=DF b.length (C.take k) (c.take i);refine aB ?_ ?_<;>intro B
  ·have o:i<c.length:=U
   have g:=bL i o;have R':0<=c.getD i W.dflt/\c.getD i W.dflt<b.length:=⟨g.1,g.2.1⟩
   have u:=WH (C:=C.take k) bL o;have hv:0<=(li b.length (C.take k) (c.take i)).getD (c.getD i W.dflt).toNat W.dflt/\(li b.length (C.take k) (c.take i)).getD (c.getD i W.dflt).toNat W.dflt<=100:=by
    rw[Gp U];have:=O3 (C.take k) (c.getD i W.dflt).toNat;rw[jd]at this;split<;>omega
   refine fm ?_;intro w Y;rw[u]at Y;exact⟨i+1,⟨rfl,az⟩,aU,⟨U,Y⟩,U⟩
  rw[gH (show c.length<=i by omega),t]at Y;refine O ?_;exact⟨k+1,⟨rfl,az⟩,aU,⟨U,Y.tail⟩,U⟩
 rw[gH U]at Y;replace Y:=Y.nil (T:=gL) (e:=409);have P':(fT b.length C).length=b.length:=by simp[fT]
 refine O ?_;refine nZ [4,5,12,12,14,19,52,93] (G:=Nat) (H:=Value) (I':=List da) (fun k lv _=>[(52,E k),(12,lv)]) (fun k lv L w=>k<=cs.length/\L.length=k/\R=nJ b (fT b.length C) L (C.drop k)/\Z w0 w [X gL 409 lv L,X W 3 z (fT b.length C)]) (fun k _ _=>cs.length-k) 0 (nS) [] (fun _ _ _=>rfl) ⟨rfl,rfl,az⟩ ⟨bu _,rfl,j,Y⟩ ?_;clear Y j;rintro _d k lv L w ⟨hk,T',j,Y⟩;refine aB ?_ ?_<;>intro h3
 ·have l:k<C.length:=U
  have m:=N k l;have q:=m.one;have P:(ca.enc (au ca cs k)).all Value.oneCell'=true:=by
   show ((au ca cs k).M.oneCell' && ((Value.int .i64 (au ca cs k).aN).oneCell' && true))=true;rw[q];rfl
  have A:ca.enc (au ca cs k)=[(au ca cs k).M,E (au ca cs k).aN]:=rfl;obtain⟨c,n⟩:=À (C.getD k []);have r:c∈C:=by rw[n];exact cH [] l
  obtain⟨H',bL⟩:=y c r;rw[<-n]at m;have J':=m.bU;obtain⟨F,hU⟩:=À (jO b (fT b.length C) 0 dF c);rw[Bi [] l,<-n,WI hU]at j
  repeat (first|refine du ?_|(refine gX ?_;clear Y;intro p w Y)|(refine tq ?_;clear Y;intro w Y))
  rw[A]at Y;obtain⟨t,rfl⟩:=À p;replace Y:Z w0 w [ak t 409 [E dF.num,E dF.den],X gL 409 lv L,X W 3 z (fT b.length C)]:=Y.aY (Δ:=[ak t 409 [E 0,E 0],X gL 409 lv L,X W 3 z (fT b.length C)]);refine dQ [4,5,16,19,59,88] (G:=Nat) (H:=da) (fun i _=>[(59,E i)]) (fun i f w=>i<=c.length/\F=jO b (fT b.length C) i f (c.drop i)/\Z w0 w [ak t 409 [E f.num,E f.den],X gL 409 lv L,X W 3 z (fT b.length C)]) (fun i _=>c.length-i) 0 dF (fun _ _=>rfl) ⟨rfl,az⟩ ⟨bu _,hU,Y⟩ ?_;clear Y;rintro _e i f w ⟨hi,a,Y⟩;refine aB ?_ ?_<;>intro h4
  ·have o:i<c.length:=U
   have g:=bL i o;have R':0<=c.getD i W.dflt/\c.getD i W.dflt<b.length:=⟨g.1,g.2.1⟩
   have _f:=K _ (cH W.dflt (show (c.getD i W.dflt).toNat<b.length by omega));have _g:1<=(fT b.length C).getD (c.getD i W.dflt).toNat W.dflt/\(fT b.length C).getD (c.getD i W.dflt).toNat W.dflt<=24:=by
    have u:(fT b.length C).getD (c.getD i W.dflt).toNat W.dflt=((fC C (c.getD i W.dflt).toNat:Nat):Int):=by
     rw[am U];simp[fT]
    have h1:=O3 C (c.getD i W.dflt).toNat;have B:=WG (op:=(c.getD i W.dflt).toNat) r (by rw[show (((c.getD i W.dflt).toNat:Nat):Int)=c.getD i W.dflt by omega];exact cH _ o);omega
   obtain⟨S,hS⟩:=À (me (b.getD (c.getD i W.dflt).toNat W.dflt) ((fT b.length C).getD (c.getD i W.dflt).toNat W.dflt));rw[Bi W.dflt o,WJ hS]at a;have Q:oL (b.getD (c.getD i W.dflt).toNat W.dflt) ((fT b.length C).getD (c.getD i W.dflt).toNat W.dflt)=S:=by rw[hS,oL,aC U]
   refine O ?_;refine sh [18,19,64,75] (G:=Addr) (fun x=>[(18,.pointer (some x)),(19,bI S.1)]) (fun x w=>Z w0 w [ak x 409 [E S.2.num,E S.2.den],ak t 409 [E f.num,E f.den],X gL 409 lv L,X W 3 z (fT b.length C)]) (fun _=>rfl) ?_ ?_
   ·refine wu (.s [0,1,2,4,5,6,3,7] (.d 8 [] (.s [9,10,11] (.c 12 [3,7] (.s [13,14] (.jE [])))) (.d 12 [3,7] (.s [8,9,10,11,13,14] (.jE [])) (.stop)))) Y kr kr ?_;clear Y;intro w Y
    refine O ?_;refine jq ?_ (jq ?_ pZ)
    ·refine O ?_
     refine aL rfl (Gq U U U U) ?_;refine gZ ?_;clear Y;intro w' Y;rw[Q];refine db ?_;intro p w Y;exact⟨_,⟨rfl,rfl,az⟩,aU,Y⟩
    refine db ?_;intro p w Y;refine aL rfl (Gq U U U U) ?_;refine gZ ?_;clear Y;intro w' Y;rw[Q];refine iE ?_;intro w Y;exact⟨_,⟨rfl,rfl,az⟩,aU,Y⟩
   clear Y;rintro _h _i w Y;by_cases u:S.1=0
   case neg =>
    rw[aC u]at a;have B:F.1≠0:=by rw[a];exact u
    rw[aC B]at j;have D:S.1=F.1:=by rw[a]
    rw[D,cS B];refine O ?_;rw[j];exact cR (v:=nS) (v':=.iface 57 (E F.1)) rfl rfl rfl ⟨nS,by rw[cS B],(Y.nil (T:=gL) (e:=409)).only⟩
   rw[aM u]at a;rw[fK u];by_cases q1:i=0
   ·rw[aM (Or.inl q1)]at a
    have B:decide ((i:Int)=0)=true:=dy U;refine O ?_
    try simp only[B];refine tG ?_
    refine fm ?_;intro w Y;exact⟨i+1,S.2,⟨rfl,az⟩,aU,⟨U,a,Y.tail⟩,U⟩
   have B:decide ((i:Int)=0)=false:=dU U;refine O ?_
   try simp only[B];refine tG ?_
   refine O ?_;refine aL rfl (WL S.2 f) ?_;refine gZ ?_;clear Y;intro w' Y;by_cases V:lO S.2 f<0
   ·rw[aM (Or.inr V)]at a
    refine O ?_;have D:decide (lO S.2 f<0)=true:=dy V
    try simp only[D];refine tG ?_
    refine fm ?_;intro w Y;exact⟨i+1,S.2,⟨rfl,az⟩,aU,⟨U,a,Y.tail⟩,U⟩
   rw[aC (fun h=>h.elim q1 V)]at a;refine O ?_;have D:decide (lO S.2 f<0)=false:=dU V
   try simp only[D];refine tG ?_
   refine O ?_;exact⟨i+1,f,⟨rfl,az⟩,aU,⟨U,a,Y.tail⟩,U⟩
  rw[pS U]at a;have g:F.1=0:=by rw[a,jO]
  have o:F.2=f:=by rw[a,jO]
  rw[aM g,o]at j;refine O ?_;refine jK gL (x1:=f) rfl rfl rfl (fY rfl) (fe _) Y ?_;clear Y;intro u w Y;refine l7 ?_;intro s w Y;exact⟨k+1,_,L++[f],⟨rfl,rfl,az⟩,aU,⟨U,by simp[T'],j,Y.tail.tail⟩,U⟩
 rw[pS U]at j;have a:R.1=0:=by rw[j,nJ]
 have g:R.2=L:=by rw[j,nJ]
 refine O ?_;exact cR (v:=lv) (v':=.nilIface) rfl rfl rfl ⟨lv,by rw[fK a],by rw[g];exact Y.only⟩
end Go.Proofs.YtmapkjoefdgjfaaGreatDoor
