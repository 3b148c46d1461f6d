/- Several texts. -/
import Derived.Test.YtmapkjoefdgjfaaGreatDoorMW26D
set_option linter.unusedSimpArgs false
set_option linter.unusedVariables false
set_option linter.defProp false
set_option maxRecDepth 8000
set_option maxHeartbeats 16000000
open List Nat
namespace Go.Proofs.YtmapkjoefdgjfaaGreatDoor
open Go.Sl Go
variable {C:List J}{c b:J}
attribute [local irreducible] vc opsW opsD opV opW PureV ReadV Thn Blk
def lh (n:Nat)(C:List J)(c:J):J:=(List.range n).map fun op=>((fB C op:Nat):Int)+if (op:Int)∈c then 1 else 0
def Dw (n:Nat)(C:List J)(c:J):(lh n C c).length=n:=by simp[lh]
def Gc {n:Nat}{op:Nat}(h:op<n):(lh n C c).getD op O.dflt=((fB C op:Nat):Int)+if (op:Int)∈c then 1 else 0:=by
 rw[al (by rw[Dw];exact h)];simp[lh]
def V3 (n:Nat)(C:List J):lh n C []=fS n C:=by simp[lh,fS]
def V4 (C:List J)(c:J)(op:Nat):fB (C++[c]) op=fB C op+if (op:Int)∈c then 1 else 0:=by
 unfold fB;rw[countP_append];by_cases h:(op:Int)∈c
 ·rw[aP h,countP_cons_of_pos (by simpa using h)];rfl
 rw[aH h,countP_cons_of_neg (by simpa using h)];rfl
def V5 (n:Nat)(C:List J)(c:J):lh n C c=fS n (C++[c]):=by
 unfold lh fS;refine xK fun op _=>?_;rw[V4];split<;>simp
def OP (C:List J)(op:Nat):fB C op<=C.length:=countP_le_length
def V6 {op:Nat}(a:c∈C)(h:(op:Int)∈c):0<fB C op:=IF.2 ⟨c,a,by simpa using h⟩
def V7 {n k:Nat}(bI:j9 n c)(hk:k<c.length):(lh n C (c.take k)).set (c.getD k O.dflt).toNat ((lh n C (c.take k)).getD (c.getD k O.dflt).toNat O.dflt+1)=lh n C (c.take (k+1)):=by
 obtain⟨o,f⟩:=À (c.getD k O.dflt);have m:=bI k hk;have r:0<=o:=by rw[f];exact m.1
 have h1:o<n:=by rw[f];exact m.2.1
 have g:o∉c.take k:=fun h=>by
  obtain⟨j,a,e⟩:=fF h;rw[jf]at a;rw[Dx]at e;have:=OQ bI j k U hk;rw[al U,e,f]at this;omega
 rw[<-f];have j:o.toNat<n:=U;have l:((o.toNat:Nat):Int)=o:=U;rw[Gc j,l,aH g];refine iA (by rw[gS,Dw,Dw]) fun i h1 a=>?_;have q:i<n:=by rw[Dw]at a;exact a
 rw[<-al (d:=O.dflt) a,Gc q,eD O.dflt hk,<-f];by_cases e:i=o.toNat
 ·rw[aP (gK.2 (.inr (dp.2 U))),sb,aP e.symm,e];omega
 rw[sb,aH (fun h=>e h.symm),<-al (d:=O.dflt),Gc q];by_cases h:(i:Int)∈c.take k
 ·rw[aP h,aP (gK.2 (.inl h))]
 rw[aH h,aH fun a=>by
  rcases gK.1 a with a|a
  ·exact h a
  have:=dp.1 a
  omega]
def V8 {many:J}{out:List cZ}{U':Int × cZ}(a:U'=jP b many 0 dF c):nJ b many out (c::C)=if U'.1=0 then nJ b many (out++[U'.2]) C else (U'.1,[]):=by
 subst a;conv=>lhs;unfold nJ
def V9 {many:J}{i:Nat}{dm:cZ}{op:Int}{l:J}{S:Int × cZ}(a:S=me (b.getD op.toNat O.dflt) (many.getD op.toNat O.dflt)):jP b many i dm (op::l)=if S.1=0 then jP b many (i+1) (if i=0\/lQ S.2 dm<0 then S.2 else dm) l else (S.1,dm):=by
 subst a;conv=>lhs;unfold jP
def Wa {w0:World}{cv ov:Value}{cs:List il}(hc:RS O w0 cv b)(_a:b.length<=4096)(K:∀ x∈b,0<=x/\x<=1048576)(hC:iG w0 ov cs C) :
  Calls aj 286 #[cv,ov] w0 fun e w'=>∃ lv,e=.returned (.tuple #[lv,bO (gi 2 b C).1])/\M w0 w' [X gM 409 lv (gi 2 b C).2]:=by
 have j':=hC;obtain⟨_b,_c,N⟩:=hC;obtain⟨R,j⟩:=À (gi 2 b C);rw[<-j];unfold gi at j;have Y:=M.start w0;refine bB ao Tryz.func286 ?_;refine W ?_;refine aU rfl (OR (hc.at Y) K (j'.at Y)) ?_;refine j7 ?_;clear Y;intro w' Y;by_cases he:mO b.length C=0
 case neg =>
  rw[aH he]at j;rw[dq he];refine W ?_;rw[j];exact cX (v:=nS) (v':=.iface 57 (E (mO b.length C))) rfl rfl rfl ⟨nS,by rw[dq he],(Y.nil (T:=gM) (e:=409)).only⟩
 rw[aP he,aH dc,aP rfl]at j;rw[gy he];obtain⟨V',y⟩:=IG he;refine lw ?_;intro s w Y;obtain⟨z,rfl⟩:=À s;have e0:replicate ((b.length:Int)).toNat (0:Int)=fS b.length (C.take 0):=by
  rw[gY];refine iA (by simp[fS]) fun i h1 B=>?_;simp[fS,fB]
 rw[e0]at Y;refine cN [9,9,11,11,31,49] (G:=Nat) (fun k=>[(31,E k)]) (fun k w=>k<=cs.length/\M w0 w [X O 3 z (fS b.length (C.take k))]) (fun k=>cs.length-k) 0 (fun _=>rfl) ⟨rfl,au⟩ ⟨br _,Y⟩ ?_;clear Y;rintro σ k w ⟨hk,Y⟩;refine aA ?_ ?_<;>intro h1
 ·have l:k<C.length:=U
  have m:=N k l;have q:=m.one;have P:(bW.enc (az bW cs k)).all Value.oneCell'=true:=by
   show ((az bW cs k).Z.oneCell' && ((Value.int .i64 (az bW cs k).aO).oneCell' && true))=true;rw[q];rfl
  have A:bW.enc (az bW cs k)=[(az bW cs k).Z,E (az bW cs k).aO]:=rfl;obtain⟨c,n⟩:=À (C.getD k []);have r:c∈C:=by rw[n];exact cD [] l
  obtain⟨H',bI⟩:=y c r;rw[<-n]at m;have J':=m.bT;have t:lh b.length (C.take k) c=fS b.length (C.take (k+1)):=by rw[V5,eD [] l,<-n]
  refine c9 ?_;intro p w Y;rw[A]at Y;obtain⟨D,rfl⟩:=À p;rw[<-V3]at Y;have a:M w0 w [ak D 361 [(az bW cs k).Z,E (az bW cs k).aO],X O 3 z (lh b.length (C.take k) (c.take 0))]:=Y;clear Y;have Y:=a;clear a;refine W ?_;refine cN [11,11,38,48] (G:=Nat) (fun i=>[(38,E i)]) (fun i w=>i<=c.length/\M w0 w [ak D 361 [(az bW cs k).Z,E (az bW cs k).aO],X O 3 z (lh b.length (C.take k) (c.take i))]) (fun i=>c.length-i) 0 (fun _=>rfl) ⟨rfl,au⟩ ⟨br _,Y⟩ ?_;clear Y;rintro F i w ⟨hi,Y⟩;have P':=Dw b.length (C.take k) (c.take i);refine aA ?_ ?_<;>intro B
  ·have o:i<c.length:=U
   have g:=bI i o;have R':0<=c.getD i O.dflt/\c.getD i O.dflt<b.length:=⟨g.1,g.2.1⟩
   have u:=V7 (C:=C.take k) bI o;have hv:0<=(lh b.length (C.take k) (c.take i)).getD (c.getD i O.dflt).toNat O.dflt/\(lh b.length (C.take k) (c.take i)).getD (c.getD i O.dflt).toNat O.dflt<=100:=by
    rw[Gc U];have:=OP (C.take k) (c.getD i O.dflt).toNat;rw[jf]at this;split<;>omega
   refine eQ ?_;intro w Y;rw[u]at Y;exact⟨i+1,⟨rfl,au⟩,aV,⟨U,Y⟩,U⟩
  rw[gH (show c.length<=i by omega),t]at Y;refine W ?_;exact⟨k+1,⟨rfl,au⟩,aV,⟨U,Y.tail⟩,U⟩
 rw[gH U]at Y;replace Y:=Y.nil (T:=gM) (e:=409);have P':(fS b.length C).length=b.length:=by simp[fS]
 refine W ?_;refine nE [4,5,12,12,14,19,52,93] (G:=Nat) (H:=Value) (I':=List cZ) (fun k lv _=>[(52,E k),(12,lv)]) (fun k lv L w=>k<=cs.length/\L.length=k/\R=nJ b (fS b.length C) L (C.drop k)/\M w0 w [X gM 409 lv L,X O 3 z (fS b.length C)]) (fun k _ _=>cs.length-k) 0 (nS) [] (fun _ _ _=>rfl) ⟨rfl,rfl,au⟩ ⟨br _,rfl,j,Y⟩ ?_;clear Y j;rintro _d k lv L w ⟨hk,T',j,Y⟩;refine aA ?_ ?_<;>intro h3
 ·have l:k<C.length:=U
  have m:=N k l;have q:=m.one;have P:(bW.enc (az bW cs k)).all Value.oneCell'=true:=by
   show ((az bW cs k).Z.oneCell' && ((Value.int .i64 (az bW cs k).aO).oneCell' && true))=true;rw[q];rfl
  have A:bW.enc (az bW cs k)=[(az bW cs k).Z,E (az bW cs k).aO]:=rfl;obtain⟨c,n⟩:=À (C.getD k []);have r:c∈C:=by rw[n];exact cD [] l
  obtain⟨H',bI⟩:=y c r;rw[<-n]at m;have J':=m.bT;obtain⟨F,hU⟩:=À (jP b (fS b.length C) 0 dF c);rw[Dy [] l,<-n,V8 hU]at j
  repeat (first|refine dB ?_|(refine iy ?_;clear Y;intro p w Y)|(refine tG ?_;clear Y;intro w Y))
  rw[A]at Y;obtain⟨t,rfl⟩:=À p;replace Y:M w0 w [ak t 409 [E dF.num,E dF.den],X gM 409 lv L,X O 3 z (fS b.length C)]:=Y.bb (Δ:=[ak t 409 [E 0,E 0],X gM 409 lv L,X O 3 z (fS b.length C)]);refine dN [4,5,16,19,59,88] (G:=Nat) (H:=cZ) (fun i _=>[(59,E i)]) (fun i f w=>i<=c.length/\F=jP b (fS b.length C) i f (c.drop i)/\M w0 w [ak t 409 [E f.num,E f.den],X gM 409 lv L,X O 3 z (fS b.length C)]) (fun i _=>c.length-i) 0 dF (fun _ _=>rfl) ⟨rfl,au⟩ ⟨br _,hU,Y⟩ ?_;clear Y;rintro _e i f w ⟨hi,a,Y⟩;refine aA ?_ ?_<;>intro h4
  ·have o:i<c.length:=U
   have g:=bI i o;have R':0<=c.getD i O.dflt/\c.getD i O.dflt<b.length:=⟨g.1,g.2.1⟩
   have _f:=K _ (cD O.dflt (show (c.getD i O.dflt).toNat<b.length by omega));have _g:1<=(fS b.length C).getD (c.getD i O.dflt).toNat O.dflt/\(fS b.length C).getD (c.getD i O.dflt).toNat O.dflt<=24:=by
    have u:(fS b.length C).getD (c.getD i O.dflt).toNat O.dflt=((fB C (c.getD i O.dflt).toNat:Nat):Int):=by
     rw[al U];simp[fS]
    have h1:=OP C (c.getD i O.dflt).toNat;have B:=V6 (op:=(c.getD i O.dflt).toNat) r (by rw[show (((c.getD i O.dflt).toNat:Nat):Int)=c.getD i O.dflt by omega];exact cD _ o);omega
   obtain⟨S,hS⟩:=À (me (b.getD (c.getD i O.dflt).toNat O.dflt) ((fS b.length C).getD (c.getD i O.dflt).toNat O.dflt));rw[Dy O.dflt o,V9 hS]at a;have Q:oI (b.getD (c.getD i O.dflt).toNat O.dflt) ((fS b.length C).getD (c.getD i O.dflt).toNat O.dflt)=S:=by rw[hS,oI,aH U]
   refine W ?_;refine th [18,19,64,75] (G:=Addr) (fun x=>[(18,.pointer (some x)),(19,bO S.1)]) (fun x w=>M w0 w [ak x 409 [E S.2.num,E S.2.den],ak t 409 [E f.num,E f.den],X gM 409 lv L,X O 3 z (fS b.length C)]) (fun _=>rfl) ?_ ?_
   ·refine xL (.s [0,1,2,4,5,6,3,7] (.d 8 [] (.s [9,10,11] (.c 12 [3,7] (.s [13,14] (.j6 [])))) (.d 12 [3,7] (.s [8,9,10,11,13,14] (.j6 [])) (.stop)))) Y kr kr ?_;clear Y;intro w Y
    refine W ?_;refine jF ?_ (jF ?_ qt)
    ·refine W ?_
     refine aU rfl (Ge U U U U) ?_;refine j7 ?_;clear Y;intro w' Y;rw[Q];refine c9 ?_;intro p w Y;exact⟨_,⟨rfl,rfl,au⟩,aV,Y⟩
    refine c9 ?_;intro p w Y;refine aU rfl (Ge U U U U) ?_;refine j7 ?_;clear Y;intro w' Y;rw[Q];refine iC ?_;intro w Y;exact⟨_,⟨rfl,rfl,au⟩,aV,Y⟩
   clear Y;rintro _h _i w Y;by_cases u:S.1=0
   case neg =>
    rw[aH u]at a;have B:F.1≠0:=by rw[a];exact u
    rw[aH B]at j;have D:S.1=F.1:=by rw[a]
    rw[D,dq B];refine W ?_;rw[j];exact cX (v:=nS) (v':=.iface 57 (E F.1)) rfl rfl rfl ⟨nS,by rw[dq B],(Y.nil (T:=gM) (e:=409)).only⟩
   rw[aP u]at a;rw[gy u];by_cases q1:i=0
   ·rw[aP (Or.inl q1)]at a
    have B:decide ((i:Int)=0)=true:=dY U;refine W ?_
    try simp only[B];refine tH ?_
    refine eQ ?_;intro w Y;exact⟨i+1,S.2,⟨rfl,au⟩,aV,⟨U,a,Y.tail⟩,U⟩
   have B:decide ((i:Int)=0)=false:=eA U;refine W ?_
   try simp only[B];refine tH ?_
   refine W ?_;refine aU rfl (Wb S.2 f) ?_;refine j7 ?_;clear Y;intro w' Y;by_cases V:lQ S.2 f<0
   ·rw[aP (Or.inr V)]at a
    refine W ?_;have D:decide (lQ S.2 f<0)=true:=dY V
    try simp only[D];refine tH ?_
    refine eQ ?_;intro w Y;exact⟨i+1,S.2,⟨rfl,au⟩,aV,⟨U,a,Y.tail⟩,U⟩
   rw[aH (fun h=>h.elim q1 V)]at a;refine W ?_;have D:decide (lQ S.2 f<0)=false:=eA V
   try simp only[D];refine tH ?_
   refine W ?_;exact⟨i+1,f,⟨rfl,au⟩,aV,⟨U,a,Y.tail⟩,U⟩
  rw[qz U]at a;have g:F.1=0:=by rw[a,jP]
  have o:F.2=f:=by rw[a,jP]
  rw[aP g,o]at j;refine W ?_;refine jG gM (x1:=f) rfl rfl rfl (fX rfl) (fb _) Y ?_;clear Y;intro u w Y;refine lw ?_;intro s w Y;exact⟨k+1,_,L++[f],⟨rfl,rfl,au⟩,aV,⟨U,by simp[T'],j,Y.tail.tail⟩,U⟩
 rw[qz U]at j;have a:R.1=0:=by rw[j,nJ]
 have g:R.2=L:=by rw[j,nJ]
 refine W ?_;exact cX (v:=lv) (v':=.nilIface) rfl rfl rfl ⟨lv,by rw[gy a],by rw[g];exact Y.only⟩
end Go.Proofs.YtmapkjoefdgjfaaGreatDoor
