/- Several texts. -/
import Derived.Test.YtmapkjoefdgjfaaGreatDoorMW25E
set_option linter.unusedSimpArgs false
set_option linter.unusedVariables false
set_option linter.defProp false
set_option maxRecDepth 8000
set_option maxHeartbeats 16000000
open List Nat
namespace Go.Proofs.YtmapkjoefdgjfaaGreatDoor
open Go.Sl Go
variable {w0:World}{c:J}
attribute [local irreducible] vc opsW opsD opV opW PureV ReadV Thn Blk
def L8 (a:da) :
  Calls ai 305 #[kh a] w0 fun e w'=>e=.returned (kh (fN a))/\Z w0 w' []:=by
 have Y:=Z.start w0;obtain⟨R,d⟩:=À (fN a);rw[<-d];refine bA an Tryz.func305 ?_
 repeat (first|refine du ?_|(refine gX ?_;clear Y;intro p w Y))
 refine aL rfl (Ib a) ?_;refine gZ ?_;clear Y;intro w' Y;by_cases b:eh a
 ·rw[dy b]
  have e:R=a:=by rw[d];exact aM b
  subst e;refine fm ?_;intro w Y;exact Cw (vs:=[E R.num,E R.den]) rfl rfl rfl (Y.gn 0 rfl) ⟨rfl,Y.aY⟩
 rw[dU b];have e:R=⟨0,1⟩:=by rw[d];exact aC b
 subst e;refine fm ?_;intro w Y;exact Cw (vs:=[E 0,E 1]) rfl rfl rfl (Y.gn 0 rfl) ⟨rfl,Y.aY⟩
def L9 (a:da):eh (fN a):=by
 unfold fN;split
 ·rename_i h;exact h
 exact⟨dc,dc,dc,dc,dc⟩
def WL (a b:da) :
  Calls ai 297 #[kh a,kh b] w0 fun e w'=>e=.returned (E (lO a b))/\Z w0 w' []:=by
 have Y:=Z.start w0;obtain⟨R,d⟩:=À (lO a b);rw[<-d];refine bA an Tryz.func297 ?_
 repeat (first|refine du ?_|(refine gX ?_;clear Y;intro p w Y))
 refine fz (pl [0,2,1] (.cI 2::pl [3,4,5] [])) Y kr ?_;clear Y;intro w Y;refine O ?_;refine aL rfl (L8 a) ?_;refine jT ?_;intro w' Y;refine aL rfl (L8 b) ?_;refine BP ?_;intro w Y;obtain⟨j,a2,a3,a4,_⟩:=L9 a;obtain⟨k,f,g,h,_⟩:=L9 b;have m1:=C4 (x:=(fN a).num) (y:=(fN b).den) (X':=1099511627776) (Y':=1048576) a3 a4 U f;have m2:=C4 (x:=(fN b).num) (y:=(fN a).den) (X':=1099511627776) (Y':=1048576) g h U a2;unfold lO at d;refine fz (pl [0,1,2,3,4,5,6,7,8,9,10,11] []) Y kr ?_;clear Y;intro w Y;refine O ?_;refine aB ?_ ?_<;>intro h1
 ·rw[aM h1]at d
  refine O ?_;exact bf (v:=E (-1)) rfl rfl ⟨by rw[d],Y.aY⟩
 rw[aC U]at d;refine aB ?_ ?_<;>intro i
 ·rw[aM i]at d
  refine O ?_;exact bf (v:=E 1) rfl rfl ⟨by rw[d],Y.aY⟩
 rw[aC U]at d;refine O ?_;exact bf (v:=E 0) rfl rfl ⟨by rw[d],Y.aY⟩
def Ĳ (a:da) :
  Calls ai 301 #[kh a] w0 fun e w'=>e=.returned (E (lB a))/\Z w0 w' []:=by
 have Y:=Z.start w0;obtain⟨R,b⟩:=À (lB a);rw[<-b];refine bA an Tryz.func301 ?_;refine eE ?_;intro p w Y;refine aL rfl (L8 a) ?_;refine gZ ?_;clear Y;intro w' Y;unfold lB at b;obtain⟨d,a2,a3,a4,_⟩:=L9 a;generalize fN a=v at *
 have q:((v.num.tdiv v.den).natAbs:Int)<=v.num.natAbs:=by
  rw[Int.natAbs_tdiv];exact Int.ofNat_le.2 (div_le_self ..)
 have m:=C4 (x:=v.num.tdiv v.den) (y:=v.den) (X':=1099511627776) (Y':=1048576) U U U a2;refine vJ ?_ ?_<;>intro w Y h1
 ·rw[aM h1]at b
  refine O ?_;exact bf (v:=E (v.num.tdiv v.den+1)) rfl rfl ⟨by rw[b],Y.aY⟩
 rw[aC U]at b;refine O ?_;exact bf (v:=E (v.num.tdiv v.den)) rfl rfl ⟨by rw[b],Y.aY⟩
def ı {lv:Value}{l:List da}(i:RS gL w0 lv l) :
  Calls ai 300 #[lv] w0 fun e w'=>e=.returned (.tuple #[kh (mf ⟨0,1⟩ l).2,bI (mf ⟨0,1⟩ l).1])/\Z w0 w' []:=by
 have Y:=Z.start w0;obtain⟨R,a⟩:=À (mf ⟨0,1⟩ l);rw[<-a];refine bA an Tryz.func300 ?_
 repeat (first|refine du ?_|(refine gX ?_;clear Y;intro p w Y)|(refine qB ?_;clear Y;intro w Y))
 rename_i d _ _;have j:=i.bU;obtain⟨m,rfl⟩:=À p;refine dQ [3,3,6,8,12,27] (G:=Nat) (H:=da) (fun k _=>[(12,E k)]) (fun k s w=>k<=l.length/\R=mf s (l.drop k)/\Z w0 w [ak m 409 [E s.num,E s.den],ak d 409 [E 0,E 0]]) (fun k _=>l.length-k) 0 ⟨0,1⟩ (fun _ _=>rfl) ⟨rfl,az⟩ ⟨bu _,a,Y⟩ ?_;clear Y;rintro n k s w ⟨hk,a,Y⟩;refine aB ?_ ?_<;>intro h1
 ·have b:k<l.length:=U
  have g:l.drop k=l.getD k gL.dflt::l.drop (k+1):=by rw[am b];exact wI b
  refine eE ?_;intro p w Y;obtain⟨f,h⟩:=À (l.getD k gL.dflt);rw[<-h]at g;rw[g]at a;refine aL rfl (Ā s (l.getD k gL.dflt)) ?_;refine gZ ?_;clear Y;intro w' Y;rw[<-h];unfold mf at a;by_cases he:(ki s f).1=0
  ·rw[aM he]at a
   rw[fK he];refine eE ?_;intro p w Y;refine⟨k+1,(ki s f).2,⟨rfl,az⟩,aU,⟨U,a,Y.aY⟩,U⟩
  rw[aC he]at a;rw[cS he];refine eE ?_;intro p w Y;refine rW (vs:=[]) (ls:=[]) rfl rfl rfl ?_;refine fm ?_;intro w Y;subst a;rw[cS he];exact lM (p:=d) (vs:=[E 0,E 0]) rfl rfl rfl rfl (Y.gn 3 rfl) ⟨rfl,Y.aY⟩
 have b:k=l.length:=U;subst b;rw[drop_length]at a;refine fm ?_;intro w Y;subst a;exact lM (p:=d) (vs:=[E s.num,E s.den]) rfl rfl rfl rfl (Y.gn 1 rfl) ⟨rfl,Y.aY⟩
def ĺ (left:J)(m:Int):jW left [] m=left:=by
 unfold jW;refine iB sm fun i h1 a=>?_;rw[mK,qZ,aC fI,am a]
def Ļ {left:J}{m:Int}{n k:Nat}(bL:j9 n c)(r:left.length=n)(hk:k<c.length):(jW left (c.take k) m).set (c.getD k W.dflt).toNat ((jW left (c.take k) m).getD (c.getD k W.dflt).toNat W.dflt-m)=jW left (c.take (k+1)) m:=by
 obtain⟨o,b⟩:=À (c.getD k W.dflt);have l:=bL k hk;have t:0<=o:=by rw[b];exact l.1
 have h1:o<n:=by rw[b];exact l.2.1
 have f:o∉c.take k:=fun h=>by
  obtain⟨j,a,e⟩:=fJ h;rw[jd]at a;rw[DG]at e;have:=O4 bL j k U hk;rw[am U,e,b]at this;omega
 rw[<-b];have g:o.toNat<left.length:=U;have j:((o.toNat:Nat):Int)=o:=U;rw[BG g,j,aC f];refine iB (by rw[gY,y8,y8]) fun i h1 a=>?_;have q:i<left.length:=by rw[y8]at a;exact a
 rw[<-am (d:=W.dflt) h1,<-am (d:=W.dflt) a,BG q,eC W.dflt hk,<-b];by_cases e:i=o.toNat
 ·rw[aM (gG.2 (.inr (dp.2 U))),am h1,si,aM e.symm,e]
 rw[am h1,si,aC (fun h=>e h.symm),<-am (d:=W.dflt),BG q];by_cases h:(i:Int)∈c.take k
 ·rw[aM h,aM (gG.2 (.inl h))]
 rw[aC h,aC fun a=>by
  rcases gG.1 a with a|a
  ·exact h a
  have:=dp.1 a
  omega]
def ļ {left:J}(a:c≠[]):nT left c=c.foldl (fun m o=>min m (left.getD o.toNat W.dflt)) (left.getD (c.getD 0 W.dflt).toNat W.dflt):=by
 cases c with
 | nil=>exact absurd rfl a
 | cons o c =>
  show _=(o::c).foldl _ (left.getD o.toNat W.dflt);rw[sy,Int.min_self];rfl
def Ľ {left:J}{a:Int}:a<=1048576->0<=a->(∀ x∈left,0<=x)->0<=c.foldl (fun m o=>min m (left.getD o.toNat W.dflt)) a/\c.foldl (fun m o=>min m (left.getD o.toNat W.dflt)) a<=1048576:=fun h1 b d =>
 ⟨Ma d b,rU (Mb (left:=left) (c:=c) (a:=a)).1 h1⟩
def ľ {left:J}(b:∀ x∈left,0<=x/\x<=1048576):∀ x∈jW left c (nT left c),0<=x/\x<=1048576:=fun x hx=>by
 have f:=Mc (fun x h=>(b x h).1) x hx;obtain⟨i,e,rfl⟩:=fJ hx;have a:i<left.length:=by rw[y8]at e;exact e
 refine⟨f,?_⟩;have h1:=b _ (cH W.dflt a);have g:=Tb (c:=c) fun x h=>(b x h).1;rw[<-am (d:=W.dflt) e,BG a];split<;>omega
def Ĺ {cv ov:Value}{b:J}{cs:List il}{C:List J}(hc:RS W w0 cv b)(_e:b.length<=4096)(z:∀ x∈b,0<=x/\x<=1048576)(hC:iI w0 ov cs C) :
  Calls ai 285 #[cv,ov] w0 fun e w'=>∃ lv,e=.returned (.tuple #[lv,bI (gg 1 b C).1])/\Z w0 w' [X gL 409 lv (gg 1 b C).2]:=by
 have S:=hC;obtain⟨_f,_g,V⟩:=hC;obtain⟨R,q⟩:=À (gg 1 b C);rw[<-q];unfold gg at q;have Y:=Z.start w0;refine bA an Tryz.func285 ?_;refine O ?_;refine aL rfl (O5 (hc.at Y) z (S.at Y)) ?_;rintro _ w' ⟨rfl,al⟩;refine aA ?_;clear al Y;intro Y;by_cases he:mQ b.length C=0
 case neg =>
  rw[aC he]at q;rw[cS he];refine O ?_;rw[q];exact cR (v:=nS) (v':=.iface 57 (E (mQ b.length C))) rfl rfl rfl ⟨nS,by rw[cS he],(Y.nil (T:=gL) (e:=409)).only⟩
 rw[aM he,aM rfl]at q;rw[fK he];obtain⟨_b,A⟩:=I1 he;refine O ?_;refine aL rfl (ns (hc.at Y) U) ?_;rintro _ w' ⟨Q,rfl,al⟩;refine aI ?_;clear al Y;intro Y;replace Y:=Y.nil (T:=gL) (e:=409);refine O ?_;refine zK [8,8,10,11,13,13,15,15,26,71] (G:=Nat) (H:=Value) (I':=List da) (M':=J) (fun k lv _ _=>[(26,E k),(8,lv)]) (fun k lv L left w=>k<=cs.length/\L.length=k/\left.length=b.length/\(∀ x∈left,0<=x/\x<=1048576)/\R.1=0/\R.2=L++(jr left (C.drop k)).map yl/\Z w0 w [X gL 409 lv L,X W 3 Q left]) (fun k _ _ _=>cs.length-k) 0 (nS) [] b (fun _ _ _ _=>rfl) ⟨rfl,rfl,az⟩ ⟨bu _,rfl,rfl,z,by rw[q],by rw[q];rfl,Y⟩ ?_;clear Y;rintro σ k lv L left w ⟨hk,j',f,l,B,g,Y⟩;refine aB ?_ ?_<;>intro h1
 ·have r:k<C.length:=U
  have t:=V k r;have D:=t.one;have _c:(ca.enc (au ca cs k)).all Value.oneCell'=true:=by
   show ((au ca cs k).M.oneCell' && ((Value.int .i64 (au ca cs k).aN).oneCell' && true))=true;rw[D];rfl
  have H':ca.enc (au ca cs k)=[(au ca cs k).M,E (au ca cs k).aN]:=rfl;obtain⟨c,J'⟩:=À (C.getD k []);obtain⟨u,bL⟩:=A (C.getD k []) (cH [] r);rw[Bi [] r]at g;rw[<-J']at t u bL g;have _h:=t.bU;have P':0<c.length:=Jz.2 u;have n:=bL 0 P';have R':0<=c.getD 0 W.dflt/\c.getD 0 W.dflt<left.length:=⟨n.1,by rw[f];exact n.2.1⟩
  have _d:0<=c.getD (nat_lit 0) W.dflt/\c.getD (nat_lit 0) W.dflt<left.length:=R';have F:=ļ (left:=left) u;have K:=l _ (cH W.dflt (show (c.getD 0 W.dflt).toNat<left.length by omega));obtain⟨m,hm⟩:=À (nT left c);have N:R.2=L++yl m::(jr (jW left c m) (C.drop (k+1))).map yl:=by rw[g,hm];rfl
  have _i:0<=m/\m<=1048576:=by rw[hm,F];exact Ľ K.2 K.1 fun x h=>(l x h).1
  refine db ?_;intro p w Y;rw[H']at Y;obtain⟨y,rfl⟩:=À p;refine O ?_;refine dQ [11,11,13,13,40,50] (G:=Nat) (H:=Int) (fun i a=>[(40,E i),(11,E a)]) (fun i a w=>i<=c.length/\a=(c.take i).foldl (fun m o=>min m (left.getD o.toNat W.dflt)) (left.getD (c.getD 0 W.dflt).toNat W.dflt)/\Z w0 w [ak y 361 [(au ca cs k).M,E (au ca cs k).aN],X gL 409 lv L,X W 3 Q left]) (fun i _=>c.length-i) 0 _ (fun _ _=>rfl) ⟨rfl,rfl,az⟩ ⟨bu _,rfl,Y⟩ ?_;clear Y;rintro _j i a w ⟨hi,ha,Y⟩;refine aB ?_ ?_<;>intro h2
  ·have j:i<c.length:=U
   have d:=bL i j;have T':0<=c.getD i W.dflt/\c.getD i W.dflt<left.length:=⟨d.1,by rw[f];exact d.2.1⟩
   have P:(c.take (i+1)).foldl (fun m o=>min m (left.getD o.toNat W.dflt)) (left.getD (c.getD 0 W.dflt).toNat W.dflt)=min a (left.getD (c.getD i W.dflt).toNat W.dflt):=by
    rw[eC W.dflt j,ti,<-ha];rfl
   refine O ?_;refine⟨i+1,_,⟨rfl,rfl,az⟩,aU,⟨U,?_,Y⟩,U⟩;rw[P,Int.min_def];split<;>split<;>omega
  have V':a=m:=by rw[ha,gH U,hm,F]
  subst V';clear ha hi h2;rw[<-ĺ left a]at Y;have P:Z w0 w [ak y 361 [(au ca cs k).M,E (au ca cs k).aN],X gL 409 lv L,X W 3 Q (jW left (c.take 0) a)]:=Y;clear Y;have Y:=P;clear P;refine O ?_;refine cP [15,15,54,65] (G:=Nat) (fun i=>[(54,E i)]) (fun i w=>i<=c.length/\Z w0 w [ak y 361 [(au ca cs k).M,E (au ca cs k).aN],X gL 409 lv L,X W 3 Q (jW left (c.take i) a)]) (fun i=>c.length-i) 0 (fun _=>rfl) ⟨rfl,az⟩ ⟨bu _,Y⟩ ?_;clear Y;rintro _k i w ⟨hi,Y⟩;have _l:=y8 left (c.take i) a;refine aB ?_ ?_<;>intro h3
  ·have j:i<c.length:=U
   have d:=bL i j;have T':0<=c.getD i W.dflt/\c.getD i W.dflt<left.length:=⟨d.1,by rw[f];exact d.2.1⟩
   have _a:=Ļ (m:=a) bL f j;have hv : -1048576<=(jW left (c.take i) a).getD (c.getD i W.dflt).toNat W.dflt/\(jW left (c.take i) a).getD (c.getD i W.dflt).toNat W.dflt<=1048576:=by
    rw[BG U];have:=l _ (cH W.dflt (show (c.getD i W.dflt).toNat<left.length by omega));split<;>omega
   refine fm ?_;intro w Y;rw[_a]at Y;exact⟨i+1,⟨rfl,az⟩,aU,⟨U,Y⟩,U⟩
  rw[gH U]at Y;refine O ?_;refine aL rfl (ĝ a) ?_;rintro _ w' ⟨rfl,al⟩;refine aA ?_;clear al Y;intro Y;refine O ?_;refine jK gL (x1:=yl a) rfl rfl rfl (fY rfl) (fe _) Y ?_;clear Y;intro j w Y;refine l7 ?_;intro s w Y;rw[hm]at Y N;have d:=ľ (c:=c) l;exact⟨k+1,_,L++[yl (nT left c)],jW left c (nT left c),⟨rfl,rfl,az⟩,aU,⟨U,by simp[j'],by rw[y8];exact f,d,B,by rw[N,fL];rfl,Y.tail.tail⟩,U⟩
 rw[pS U]at g;have d:R.2=L:=by rw[g];simp[jr]
 refine O ?_;exact cR (v:=lv) (v':=.nilIface) rfl rfl rfl ⟨lv,by rw[fK B],by rw[d];exact Y.only⟩
end Go.Proofs.YtmapkjoefdgjfaaGreatDoor
