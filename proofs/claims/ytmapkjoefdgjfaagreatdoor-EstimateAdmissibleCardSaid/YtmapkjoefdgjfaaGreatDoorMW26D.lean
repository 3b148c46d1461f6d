/- Several texts. -/
import Derived.Test.YtmapkjoefdgjfaaGreatDoorMW25D
set_option linter.unusedSimpArgs false
set_option linter.unusedVariables false
set_option linter.defProp false
set_option maxRecDepth 8000
set_option maxHeartbeats 16000000
open List Nat
namespace Go.Proofs.YtmapkjoefdgjfaaGreatDoor
open Go.Sl Go
variable {w0:World}{c:J}
attribute [local irreducible] vc opsW opsD opV opW PureV ReadV Thn Blk
def LR (a:cZ) :
  Calls aj 305 #[kj a] w0 fun e w'=>e=.returned (kj (fK a))/\M w0 w' []:=by
 have Y:=M.start w0;obtain⟨R,d⟩:=À (fK a);rw[<-d];refine bB ao Tryz.func305 ?_
 repeat (first|refine dB ?_|(refine iy ?_;clear Y;intro p w Y))
 refine aU rfl (HQ a) ?_;refine j7 ?_;clear Y;intro w' Y;by_cases b:ed a
 ·rw[dY b]
  have e:R=a:=by rw[d];exact aP b
  subst e;refine eQ ?_;intro w Y;exact Cl (vs:=[E R.num,E R.den]) rfl rfl rfl (Y.gB 0 rfl) ⟨rfl,Y.bb⟩
 rw[eA b];have e:R=⟨0,1⟩:=by rw[d];exact aH b
 subst e;refine eQ ?_;intro w Y;exact Cl (vs:=[E 0,E 1]) rfl rfl rfl (Y.gB 0 rfl) ⟨rfl,Y.bb⟩
def LS (a:cZ):ed (fK a):=by
 unfold fK;split
 ·rename_i h;exact h
 exact⟨dc,dc,dc,dc,dc⟩
def Wb (a b:cZ) :
  Calls aj 297 #[kj a,kj b] w0 fun e w'=>e=.returned (E (lQ a b))/\M w0 w' []:=by
 have Y:=M.start w0;obtain⟨R,d⟩:=À (lQ a b);rw[<-d];refine bB ao Tryz.func297 ?_
 repeat (first|refine dB ?_|(refine iy ?_;clear Y;intro p w Y))
 refine fQ (pl [0,2,1] (.cJ 2::pl [3,4,5] [])) Y kr ?_;clear Y;intro w Y;refine W ?_;refine aU rfl (LR a) ?_;refine lU ?_;intro w' Y;refine aU rfl (LR b) ?_;refine BG ?_;intro w Y;obtain⟨j,a2,a3,a4,_⟩:=LS a;obtain⟨k,f,g,h,_⟩:=LS b;have m1:=CU (x:=(fK a).num) (y:=(fK b).den) (X':=1099511627776) (Y':=1048576) a3 a4 U f;have m2:=CU (x:=(fK b).num) (y:=(fK a).den) (X':=1099511627776) (Y':=1048576) g h U a2;unfold lQ at d;refine fQ (pl [0,1,2,3,4,5,6,7,8,9,10,11] []) Y kr ?_;clear Y;intro w Y;refine W ?_;refine aA ?_ ?_<;>intro h1
 ·rw[aP h1]at d
  refine W ?_;exact bk (v:=E (-1)) rfl rfl ⟨by rw[d],Y.bb⟩
 rw[aH U]at d;refine aA ?_ ?_<;>intro i
 ·rw[aP i]at d
  refine W ?_;exact bk (v:=E 1) rfl rfl ⟨by rw[d],Y.bb⟩
 rw[aH U]at d;refine W ?_;exact bk (v:=E 0) rfl rfl ⟨by rw[d],Y.bb⟩
def ĝ (a:cZ) :
  Calls aj 301 #[kj a] w0 fun e w'=>e=.returned (E (lD a))/\M w0 w' []:=by
 have Y:=M.start w0;obtain⟨R,b⟩:=À (lD a);rw[<-b];refine bB ao Tryz.func301 ?_;refine eB ?_;intro p w Y;refine aU rfl (LR a) ?_;refine j7 ?_;clear Y;intro w' Y;unfold lD at b;obtain⟨d,a2,a3,a4,_⟩:=LS a;generalize fK a=v at *
 have q:((v.num.tdiv v.den).natAbs:Int)<=v.num.natAbs:=by
  rw[Int.natAbs_tdiv];exact Int.ofNat_le.2 (div_le_self ..)
 have m:=CU (x:=v.num.tdiv v.den) (y:=v.den) (X':=1099511627776) (Y':=1048576) U U U a2;refine sC ?_ ?_<;>intro w Y h1
 ·rw[aP h1]at b
  refine W ?_;exact bk (v:=E (v.num.tdiv v.den+1)) rfl rfl ⟨by rw[b],Y.bb⟩
 rw[aH U]at b;refine W ?_;exact bk (v:=E (v.num.tdiv v.den)) rfl rfl ⟨by rw[b],Y.bb⟩
def Ĝ {lv:Value}{l:List cZ}(i:RS gM w0 lv l) :
  Calls aj 300 #[lv] w0 fun e w'=>e=.returned (.tuple #[kj (mf ⟨0,1⟩ l).2,bO (mf ⟨0,1⟩ l).1])/\M w0 w' []:=by
 have Y:=M.start w0;obtain⟨R,a⟩:=À (mf ⟨0,1⟩ l);rw[<-a];refine bB ao Tryz.func300 ?_
 repeat (first|refine dB ?_|(refine iy ?_;clear Y;intro p w Y)|(refine qx ?_;clear Y;intro w Y))
 rename_i d _ _;have j:=i.bT;obtain⟨m,rfl⟩:=À p;refine dN [3,3,6,8,12,27] (G:=Nat) (H:=cZ) (fun k _=>[(12,E k)]) (fun k s w=>k<=l.length/\R=mf s (l.drop k)/\M w0 w [ak m 409 [E s.num,E s.den],ak d 409 [E 0,E 0]]) (fun k _=>l.length-k) 0 ⟨0,1⟩ (fun _ _=>rfl) ⟨rfl,au⟩ ⟨br _,a,Y⟩ ?_;clear Y;rintro n k s w ⟨hk,a,Y⟩;refine aA ?_ ?_<;>intro h1
 ·have b:k<l.length:=U
  have g:l.drop k=l.getD k gM.dflt::l.drop (k+1):=by rw[al b];exact wG b
  refine eB ?_;intro p w Y;obtain⟨f,h⟩:=À (l.getD k gM.dflt);rw[<-h]at g;rw[g]at a;refine aU rfl (å s (l.getD k gM.dflt)) ?_;refine j7 ?_;clear Y;intro w' Y;rw[<-h];unfold mf at a;by_cases he:(kl s f).1=0
  ·rw[aP he]at a
   rw[gy he];refine eB ?_;intro p w Y;refine⟨k+1,(kl s f).2,⟨rfl,au⟩,aV,⟨U,a,Y.bb⟩,U⟩
  rw[aH he]at a;rw[dq he];refine eB ?_;intro p w Y;refine sd (vs:=[]) (ls:=[]) rfl rfl rfl ?_;refine eQ ?_;intro w Y;subst a;rw[dq he];exact lO (p:=d) (vs:=[E 0,E 0]) rfl rfl rfl rfl (Y.gB 3 rfl) ⟨rfl,Y.bb⟩
 have b:k=l.length:=U;subst b;rw[drop_length]at a;refine eQ ?_;intro w Y;subst a;exact lO (p:=d) (vs:=[E s.num,E s.den]) rfl rfl rfl rfl (Y.gB 1 rfl) ⟨rfl,Y.bb⟩
def ĥ (left:J)(m:Int):jU left [] m=left:=by
 unfold jU;refine iA sm fun i h1 a=>?_;rw[mL,qW,aH fM,al a]
def Ħ {left:J}{m:Int}{n k:Nat}(bI:j9 n c)(r:left.length=n)(hk:k<c.length):(jU left (c.take k) m).set (c.getD k O.dflt).toNat ((jU left (c.take k) m).getD (c.getD k O.dflt).toNat O.dflt-m)=jU left (c.take (k+1)) m:=by
 obtain⟨o,b⟩:=À (c.getD k O.dflt);have l:=bI k hk;have t:0<=o:=by rw[b];exact l.1
 have h1:o<n:=by rw[b];exact l.2.1
 have f:o∉c.take k:=fun h=>by
  obtain⟨j,a,e⟩:=fF h;rw[jf]at a;rw[Dx]at e;have:=OQ bI j k U hk;rw[al U,e,b]at this;omega
 rw[<-b];have g:o.toNat<left.length:=U;have j:((o.toNat:Nat):Int)=o:=U;rw[By g,j,aH f];refine iA (by rw[gS,yX,yX]) fun i h1 a=>?_;have q:i<left.length:=by rw[yX]at a;exact a
 rw[<-al (d:=O.dflt) h1,<-al (d:=O.dflt) a,By q,eD O.dflt hk,<-b];by_cases e:i=o.toNat
 ·rw[aP (gK.2 (.inr (dp.2 U))),al h1,sb,aP e.symm,e]
 rw[al h1,sb,aH (fun h=>e h.symm),<-al (d:=O.dflt),By q];by_cases h:(i:Int)∈c.take k
 ·rw[aP h,aP (gK.2 (.inl h))]
 rw[aH h,aH fun a=>by
  rcases gK.1 a with a|a
  ·exact h a
  have:=dp.1 a
  omega]
def ħ {left:J}(a:c≠[]):nT left c=c.foldl (fun m o=>min m (left.getD o.toNat O.dflt)) (left.getD (c.getD 0 O.dflt).toNat O.dflt):=by
 cases c with
 | nil=>exact absurd rfl a
 | cons o c =>
  show _=(o::c).foldl _ (left.getD o.toNat O.dflt);rw[sr,Int.min_self];rfl
def Ĩ {left:J}{a:Int}:a<=1048576->0<=a->(∀ x∈left,0<=x)->0<=c.foldl (fun m o=>min m (left.getD o.toNat O.dflt)) a/\c.foldl (fun m o=>min m (left.getD o.toNat O.dflt)) a<=1048576:=fun h1 b d =>
 ⟨LU d b,rO (LV (left:=left) (c:=c) (a:=a)).1 h1⟩
def ĩ {left:J}(b:∀ x∈left,0<=x/\x<=1048576):∀ x∈jU left c (nT left c),0<=x/\x<=1048576:=fun x hx=>by
 have f:=LW (fun x h=>(b x h).1) x hx;obtain⟨i,e,rfl⟩:=fF hx;have a:i<left.length:=by rw[yX]at e;exact e
 refine⟨f,?_⟩;have h1:=b _ (cD O.dflt a);have g:=SU (c:=c) fun x h=>(b x h).1;rw[<-al (d:=O.dflt) e,By a];split<;>omega
def Ĥ {cv ov:Value}{b:J}{cs:List il}{C:List J}(hc:RS O w0 cv b)(_e:b.length<=4096)(z:∀ x∈b,0<=x/\x<=1048576)(hC:iG w0 ov cs C) :
  Calls aj 285 #[cv,ov] w0 fun e w'=>∃ lv,e=.returned (.tuple #[lv,bO (gi 1 b C).1])/\M w0 w' [X gM 409 lv (gi 1 b C).2]:=by
 have S:=hC;obtain⟨_f,_g,V⟩:=hC;obtain⟨R,q⟩:=À (gi 1 b C);rw[<-q];unfold gi at q;have Y:=M.start w0;refine bB ao Tryz.func285 ?_;refine W ?_;refine aU rfl (OR (hc.at Y) z (S.at Y)) ?_;rintro _ w' ⟨rfl,an⟩;refine aI ?_;clear an Y;intro Y;by_cases he:mO b.length C=0
 case neg =>
  rw[aH he]at q;rw[dq he];refine W ?_;rw[q];exact cX (v:=nS) (v':=.iface 57 (E (mO b.length C))) rfl rfl rfl ⟨nS,by rw[dq he],(Y.nil (T:=gM) (e:=409)).only⟩
 rw[aP he,aP rfl]at q;rw[gy he];obtain⟨_b,A⟩:=IG he;refine W ?_;refine aU rfl (nH (hc.at Y) U) ?_;rintro _ w' ⟨Q,rfl,an⟩;refine aL ?_;clear an Y;intro Y;replace Y:=Y.nil (T:=gM) (e:=409);refine W ?_;refine zF [8,8,10,11,13,13,15,15,26,71] (G:=Nat) (H:=Value) (I':=List cZ) (M':=J) (fun k lv _ _=>[(26,E k),(8,lv)]) (fun k lv L left w=>k<=cs.length/\L.length=k/\left.length=b.length/\(∀ x∈left,0<=x/\x<=1048576)/\R.1=0/\R.2=L++(jt left (C.drop k)).map yd/\M w0 w [X gM 409 lv L,X O 3 Q left]) (fun k _ _ _=>cs.length-k) 0 (nS) [] b (fun _ _ _ _=>rfl) ⟨rfl,rfl,au⟩ ⟨br _,rfl,rfl,z,by rw[q],by rw[q];rfl,Y⟩ ?_;clear Y;rintro σ k lv L left w ⟨hk,j',f,l,B,g,Y⟩;refine aA ?_ ?_<;>intro h1
 ·have r:k<C.length:=U
  have t:=V k r;have D:=t.one;have _c:(bW.enc (az bW cs k)).all Value.oneCell'=true:=by
   show ((az bW cs k).Z.oneCell' && ((Value.int .i64 (az bW cs k).aO).oneCell' && true))=true;rw[D];rfl
  have H':bW.enc (az bW cs k)=[(az bW cs k).Z,E (az bW cs k).aO]:=rfl;obtain⟨c,J'⟩:=À (C.getD k []);obtain⟨u,bI⟩:=A (C.getD k []) (cD [] r);rw[Dy [] r]at g;rw[<-J']at t u bI g;have _h:=t.bT;have P':0<c.length:=Jf.2 u;have n:=bI 0 P';have R':0<=c.getD 0 O.dflt/\c.getD 0 O.dflt<left.length:=⟨n.1,by rw[f];exact n.2.1⟩
  have _d:0<=c.getD (nat_lit 0) O.dflt/\c.getD (nat_lit 0) O.dflt<left.length:=R';have F:=ħ (left:=left) u;have K:=l _ (cD O.dflt (show (c.getD 0 O.dflt).toNat<left.length by omega));obtain⟨m,hm⟩:=À (nT left c);have N:R.2=L++yd m::(jt (jU left c m) (C.drop (k+1))).map yd:=by rw[g,hm];rfl
  have _i:0<=m/\m<=1048576:=by rw[hm,F];exact Ĩ K.2 K.1 fun x h=>(l x h).1
  refine c9 ?_;intro p w Y;rw[H']at Y;obtain⟨y,rfl⟩:=À p;refine W ?_;refine dN [11,11,13,13,40,50] (G:=Nat) (H:=Int) (fun i a=>[(40,E i),(11,E a)]) (fun i a w=>i<=c.length/\a=(c.take i).foldl (fun m o=>min m (left.getD o.toNat O.dflt)) (left.getD (c.getD 0 O.dflt).toNat O.dflt)/\M w0 w [ak y 361 [(az bW cs k).Z,E (az bW cs k).aO],X gM 409 lv L,X O 3 Q left]) (fun i _=>c.length-i) 0 _ (fun _ _=>rfl) ⟨rfl,rfl,au⟩ ⟨br _,rfl,Y⟩ ?_;clear Y;rintro _j i a w ⟨hi,ha,Y⟩;refine aA ?_ ?_<;>intro h2
  ·have j:i<c.length:=U
   have d:=bI i j;have T':0<=c.getD i O.dflt/\c.getD i O.dflt<left.length:=⟨d.1,by rw[f];exact d.2.1⟩
   have P:(c.take (i+1)).foldl (fun m o=>min m (left.getD o.toNat O.dflt)) (left.getD (c.getD 0 O.dflt).toNat O.dflt)=min a (left.getD (c.getD i O.dflt).toNat O.dflt):=by
    rw[eD O.dflt j,tf,<-ha];rfl
   refine W ?_;refine⟨i+1,_,⟨rfl,rfl,au⟩,aV,⟨U,?_,Y⟩,U⟩;rw[P,Int.min_def];split<;>split<;>omega
  have V':a=m:=by rw[ha,gH U,hm,F]
  subst V';clear ha hi h2;rw[<-ĥ left a]at Y;have P:M w0 w [ak y 361 [(az bW cs k).Z,E (az bW cs k).aO],X gM 409 lv L,X O 3 Q (jU left (c.take 0) a)]:=Y;clear Y;have Y:=P;clear P;refine W ?_;refine cN [15,15,54,65] (G:=Nat) (fun i=>[(54,E i)]) (fun i w=>i<=c.length/\M w0 w [ak y 361 [(az bW cs k).Z,E (az bW cs k).aO],X gM 409 lv L,X O 3 Q (jU left (c.take i) a)]) (fun i=>c.length-i) 0 (fun _=>rfl) ⟨rfl,au⟩ ⟨br _,Y⟩ ?_;clear Y;rintro _k i w ⟨hi,Y⟩;have _l:=yX left (c.take i) a;refine aA ?_ ?_<;>intro h3
  ·have j:i<c.length:=U
   have d:=bI i j;have T':0<=c.getD i O.dflt/\c.getD i O.dflt<left.length:=⟨d.1,by rw[f];exact d.2.1⟩
   have _a:=Ħ (m:=a) bI f j;have hv : -1048576<=(jU left (c.take i) a).getD (c.getD i O.dflt).toNat O.dflt/\(jU left (c.take i) a).getD (c.getD i O.dflt).toNat O.dflt<=1048576:=by
    rw[By U];have:=l _ (cD O.dflt (show (c.getD i O.dflt).toNat<left.length by omega));split<;>omega
   refine eQ ?_;intro w Y;rw[_a]at Y;exact⟨i+1,⟨rfl,au⟩,aV,⟨U,Y⟩,U⟩
  rw[gH U]at Y;refine W ?_;refine aU rfl (ă a) ?_;rintro _ w' ⟨rfl,an⟩;refine aI ?_;clear an Y;intro Y;refine W ?_;refine jG gM (x1:=yd a) rfl rfl rfl (fX rfl) (fb _) Y ?_;clear Y;intro j w Y;refine lw ?_;intro s w Y;rw[hm]at Y N;have d:=ĩ (c:=c) l;exact⟨k+1,_,L++[yd (nT left c)],jU left c (nT left c),⟨rfl,rfl,au⟩,aV,⟨U,by simp[j'],by rw[yX];exact f,d,B,by rw[N,fG];rfl,Y.tail.tail⟩,U⟩
 rw[qz U]at g;have d:R.2=L:=by rw[g];simp[jt]
 refine W ?_;exact cX (v:=lv) (v':=.nilIface) rfl rfl rfl ⟨lv,by rw[gy B],by rw[d];exact Y.only⟩
end Go.Proofs.YtmapkjoefdgjfaaGreatDoor
