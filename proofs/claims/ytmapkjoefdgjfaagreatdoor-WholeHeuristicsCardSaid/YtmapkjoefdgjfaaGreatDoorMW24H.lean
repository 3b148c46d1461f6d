/- Several texts. -/
import Derived.Test.YtmapkjoefdgjfaaGreatDoorMW23H
set_option linter.unusedSimpArgs false
set_option linter.unusedVariables false
set_option linter.defProp false
set_option maxRecDepth 8000
set_option maxHeartbeats 16000000
open List Nat
namespace Go.Proofs.YtmapkjoefdgjfaaGreatDoor
open Go.Sl Go
variable {w0:World}{t:aa}{i k:Nat}{m:Addr}{lv a gvv cv sv:Value}{G A:Prop}{s z:J}{us:List vn}{f:bE}
attribute [local irreducible] vc opsW opsD opV opW PureV ReadV Thn Blk
def NI:(true == false)=false:=rfl
def NJ:(false == true)=false:=rfl
def yV (v:Value):gv false v=undef:=by unfold gv;rfl
def yW (v:Value):gv true v=v:=bJ rfl
def kt (h:A)(b:Go.Sl.eO A->G:=by intro hgo;(try simp only[yk,NI,NJ,Ei,Ej,Iu,Bool.and_false,uS,ID,Mn,pz,r5,FH,FJ,yV,yW]);exact hgo.out):G:=b ⟨h⟩
def JF (h:A)(b:Go.Sl.eO A->G:=by intro hgo;(try simp only[yk,NI,NJ,Ei,Ej,uS,ID,pz,r5,FH,FJ,yV,yW]);exact hgo.out):G:=b ⟨h⟩
def Gl (h:A)(b:Go.Sl.eO A->G:=by intro hgo;(try simp only[yk,NI,NJ,Ei,Ej,Iu,Bool.and_false,uS,ID,pz,r5,FH,FJ,yV,yW]);exact hgo.out):G:=b ⟨h⟩
def xY (f:bY) :
  Calls ak 316 #[dW f] w0 fun e w'=>e=.returned (.bool (decide (ca f)))/\Z w0 w' []:=by
 have Y:=Z.start w0;obtain⟨n,d⟩:=f;refine bI ar Tryz.func316 ?_;refine ep ?_;intro p w Y;replace Y:Z w0 w [am p 409 [E n,E d]]:=Y;by_cases r:1<=d/\d<=1048576 /\ -1099511627776<=n/\n<=1099511627776
 ·obtain⟨c1,c2,o,q⟩:=r
  refine gi (pl [0,1,2,3,4,5,6,7,8,9,10,11,12,13,14,15,16,17,18,19,20,22,23,21] (.cY 23::pl [24,25,26,27] [])) Y kr ?_;clear Y;intro w Y;refine O ?_;have c:=dH c1;have g:=dH c2;have j:=dH o;have l:=dH q
  try simp only[c,g,j,l];refine Gl ?_
  refine O ?_;refine aR rfl (AG (n:=n) U U) ?_;refine iw ?_;intro w' Y;refine aR rfl (Gm (a:=(n.natAbs:Int)) (b:=d) U U U U) ?_;refine gk ?_;clear Y;intro w' Y;have u:Int.gcd (n.natAbs:Int) d=Int.gcd n d:=by simp[Int.gcd]
  rw[u];refine O ?_;refine bo (v:=.bool (decide (ca ⟨n,d⟩))) rfl ?_ ⟨rfl,Y.bj⟩;have e:decide (ca ⟨n,d⟩)=decide (((Int.gcd n d:Nat):Int)=1):=decide_eq_decide.2 ⟨fun h=>by have:=h.2.2.2.2;simp only at this;omega,fun h=>⟨c1,c2,o,q,by simp only;omega⟩⟩;rw[e];rfl
 have u:decide (ca ⟨n,d⟩)=false:=dB fun h=>r ⟨h.1,h.2.1,h.2.2.1,h.2.2.2.1⟩;rw[u];by_cases c1:1<=d
 ·have c:=dH c1
  by_cases c2:d<=1048576
  ·have g:=dH c2
   by_cases o : -1099511627776<=n
   ·have j:=dH o
    have l:decide (n<=1099511627776)=false:=dB fun q=>r ⟨c1,c2,o,q⟩;refine gi (pl [0,1,2,3,4,5,6,7,8,9,10,11,12,13,14,15,16,17,18,19,20,22,23,21] (.cY 23::pl [24,25,26,27] [])) Y kr ?_;clear Y;intro w Y;refine O ?_
    try simp only[c,g,j,l];refine Gl ?_
    refine O ?_;exact bo (v:=.bool false) rfl rfl ⟨rfl,Y.bj⟩
   have j:=dB o;refine gi (pl [0,1,2,3,4,5,6,7,8,9,10,11,12,13,14,15,16,17,18,19,20,22,23,21] (.cY 23::pl [24,25,26,27] [])) Y kr ?_;clear Y;intro w Y;refine O ?_
   try simp only[c,g,j];refine Gl ?_
   refine O ?_;exact bo (v:=.bool false) rfl rfl ⟨rfl,Y.bj⟩
  have g:=dB c2;refine gi (pl [0,1,2,3,4,5,6,7,8,9,10,11,12,13,14,15,16,17,18,19,20,22,23,21] (.cY 23::pl [24,25,26,27] [])) Y kr ?_;clear Y;intro w Y;refine O ?_
  try simp only[c,g];refine Gl ?_
  refine O ?_;exact bo (v:=.bool false) rfl rfl ⟨rfl,Y.bj⟩
 have c:=dB c1;refine gi (pl [0,1,2,3,4,5,6,7,8,9,10,11,12,13,14,15,16,17,18,19,20,22,23,21] (.cY 23::pl [24,25,26,27] [])) Y kr ?_;clear Y;intro w Y;refine O ?_
 try simp only[c];refine Gl ?_
 refine O ?_;exact bo (v:=.bool false) rfl rfl ⟨rfl,Y.bj⟩
def AH {x y X' Y':Int}(h1 : -X'<=x)(h2:x<=X')(b:0<=y)(c:y<=Y') : -(X'*Y')<=x*y/\x*y<=X'*Y':=by
 have e:=zF h2 b;have g:=Ii c (show 0<=X' by omega);have d:=zF (show -x<=X' by omega) b;rw[Int.neg_mul]at d;omega
def Ro (a b:bY) :
  Calls ak 315 #[dW a,dW b] w0 fun e w'=>e=.returned (.tuple #[dW (jJ a b).2,bS (jJ a b).1])/\Z w0 w' []:=by
 have Y:=Z.start w0;obtain⟨R,c⟩:=À (jJ a b);rw[<-c];refine bI ar Tryz.func315 ?_
 repeat (first|refine dS ?_|(refine iT ?_;clear Y;intro p w Y))
 refine aR rfl (xY a) ?_;refine gk ?_;clear Y;intro w' Y;by_cases d:ca a
 ·by_cases g:ca b
  ·rw[dH d]
   refine O ?_;refine aR rfl (xY b) ?_;refine gk ?_;clear Y;intro w' Y;rw[dH g];refine O ?_;obtain⟨r,a2,a3,a4,a5⟩:=d;obtain⟨u,j,l,n,v⟩:=g;have m1:=AH (x:=a.num) (y:=b.den) (X':=1099511627776) (Y':=1048576) a3 a4 U j;have m2:=AH (x:=b.num) (y:=a.den) (X':=1099511627776) (Y':=1048576) l n U a2;have m3:=AH (x:=a.den) (y:=b.den) (X':=1048576) (Y':=1048576) U a2 U j;have m4:0<a.den*b.den:=Ml U U;refine O ?_;have o:¬(¬ca a\/¬ca b):=fun h=>h.elim (fun h=>h ⟨r,a2,a3,a4,a5⟩) fun h=>h ⟨u,j,l,n,v⟩;have q:¬a.den*b.den=0:=U
   first
   | (replace c:R=nf (a.num*b.den+b.num*a.den) (a.den*b.den):=(by rw[c];unfold jJ nf;rw[aM o,aM q]);refine aR rfl (DS (a:=a.num*b.den+b.num*a.den) (b:=a.den*b.den) U U U U) ?_)
   | (replace c:R=nf (a.num*b.den-b.num*a.den) (a.den*b.den):=(by rw[c];unfold oV nf;rw[aM o,aM q]);refine aR rfl (DS (a:=a.num*b.den-b.num*a.den) (b:=a.den*b.den) U U U U) ?_)
   refine gk ?_;clear Y;intro w' Y;rw[<-c];refine dD ?_;intro w Y;exact jF (vs:=[E R.2.num,E R.2.den]) rfl rfl rfl rfl (Y.dA 0 rfl) ⟨rfl,Y.bj⟩
  rw[dH d];refine O ?_;refine aR rfl (xY b) ?_;refine gk ?_;clear Y;intro w' Y;rw[dB g];have e:R=(2,⟨0,0⟩):=by rw[c];exact ba (Or.inr g)
  refine O ?_;refine mX (vs:=[]) (ls:=[]) rfl rfl rfl ?_;refine dD ?_;intro w Y;subst e;exact jF (vs:=[E 0,E 0]) rfl rfl rfl rfl (Y.dA 0 rfl) ⟨rfl,Y.bj⟩
 rw[dB d];have e:R=(2,⟨0,0⟩):=by rw[c];exact ba (Or.inl d)
 refine O ?_;refine mX (vs:=[]) (ls:=[]) rfl rfl rfl ?_;refine dD ?_;intro w Y;subst e;exact jF (vs:=[E 0,E 0]) rfl rfl rfl rfl (Y.dA 0 rfl) ⟨rfl,Y.bj⟩
def Zm (a b:bY) :
  Calls ak 325 #[dW a,dW b] w0 fun e w'=>e=.returned (.tuple #[dW (oV a b).2,bS (oV a b).1])/\Z w0 w' []:=by
 have Y:=Z.start w0;obtain⟨R,c⟩:=À (oV a b);rw[<-c];refine bI ar Tryz.func325 ?_
 repeat (first|refine dS ?_|(refine iT ?_;clear Y;intro p w Y))
 refine aR rfl (xY a) ?_;refine gk ?_;clear Y;intro w' Y;by_cases d:ca a
 ·by_cases g:ca b
  ·rw[dH d]
   refine O ?_;refine aR rfl (xY b) ?_;refine gk ?_;clear Y;intro w' Y;rw[dH g];refine O ?_;obtain⟨r,a2,a3,a4,a5⟩:=d;obtain⟨u,j,l,n,v⟩:=g;have m1:=AH (x:=a.num) (y:=b.den) (X':=1099511627776) (Y':=1048576) a3 a4 U j;have m2:=AH (x:=b.num) (y:=a.den) (X':=1099511627776) (Y':=1048576) l n U a2;have m3:=AH (x:=a.den) (y:=b.den) (X':=1048576) (Y':=1048576) U a2 U j;have m4:0<a.den*b.den:=Ml U U;refine O ?_;have o:¬(¬ca a\/¬ca b):=fun h=>h.elim (fun h=>h ⟨r,a2,a3,a4,a5⟩) fun h=>h ⟨u,j,l,n,v⟩;have q:¬a.den*b.den=0:=U
   first
   | (replace c:R=nf (a.num*b.den+b.num*a.den) (a.den*b.den):=(by rw[c];unfold jJ nf;rw[aM o,aM q]);refine aR rfl (DS (a:=a.num*b.den+b.num*a.den) (b:=a.den*b.den) U U U U) ?_)
   | (replace c:R=nf (a.num*b.den-b.num*a.den) (a.den*b.den):=(by rw[c];unfold oV nf;rw[aM o,aM q]);refine aR rfl (DS (a:=a.num*b.den-b.num*a.den) (b:=a.den*b.den) U U U U) ?_)
   refine gk ?_;clear Y;intro w' Y;rw[<-c];refine dD ?_;intro w Y;exact jF (vs:=[E R.2.num,E R.2.den]) rfl rfl rfl rfl (Y.dA 0 rfl) ⟨rfl,Y.bj⟩
  rw[dH d];refine O ?_;refine aR rfl (xY b) ?_;refine gk ?_;clear Y;intro w' Y;rw[dB g];have e:R=(2,⟨0,0⟩):=by rw[c];exact ba (Or.inr g)
  refine O ?_;refine mX (vs:=[]) (ls:=[]) rfl rfl rfl ?_;refine dD ?_;intro w Y;subst e;exact jF (vs:=[E 0,E 0]) rfl rfl rfl rfl (Y.dA 0 rfl) ⟨rfl,Y.bj⟩
 rw[dB d];have e:R=(2,⟨0,0⟩):=by rw[c];exact ba (Or.inl d)
 refine O ?_;refine mX (vs:=[]) (ls:=[]) rfl rfl rfl ?_;refine dD ?_;intro w Y;subst e;exact jF (vs:=[E 0,E 0]) rfl rfl rfl rfl (Y.dA 0 rfl) ⟨rfl,Y.bj⟩
instance Xl:j9 ak 63 2:=⟨kr⟩
def ry (vars s:J)(v:Nat):List Bool:=(replicate (vars.getD v W.dflt).toNat false).set (s.getD v W.dflt).toNat true
def ji (vars s:J)(k:Nat):List (List Bool):=(List.range vars.length).map fun v=>if v<k then ry vars s v else []
def CT (vars s:J)(k:Nat):(ji vars s k).length=vars.length:=by simp[ji]
def NK {vars:J}{v:Nat}(hv:v<vars.length):(ji vars s k).getD v []=if v<k then ry vars s v else []:=by
 rw[aq (by rw[CT];exact hv)];simp[ji]
def y_ {vars:J}:(ji vars s k).set k (ry vars s k)=ji vars s (k+1):=by
 refine jB (by rw[iU,CT,CT]) fun i h1 b=>?_;rw[CT]at b;rw[tS];split
 ·rename_i e;subst e;simp[ji]
 rename_i e;have:(i<k)=(i<k+1):=by apply propext;omega
 simp only[ji,getElem_map,tI,this]
def z_ (vars s:J):ji vars s 0=replicate vars.length []:=by
 refine jB (by rw[CT,mp]) fun i h1 b=>?_;simp[ji]
def Hg {w:bE}(bX:aj t.vars s):q8 t s w (ji t.vars s t.vars.length):=by
 have h:=bX.1;refine⟨⟨CT _ _ _,fun v hv=>?_⟩,fun f d b=>?_,fun v hv=>?_⟩
 ·rw[NK hv,ba hv];simp[ry]
 ·obtain⟨f1,f2,f3,f4⟩:=CU d
  unfold vq at b;rw[NK f2,ba f2]at b;have g:=bX.2 f.var.toNat U;have e:(s.getD f.var.toNat W.dflt).toNat=f.val.toNat:=by
   apply oE;intro c;rw[ry,List.getD,uO c,Mu]at b;split at b<;>cases b
  have c:f=⟨((f.var.toNat:Nat):Int),s.getD f.var.toNat W.dflt⟩:=by
   cases f;simp only at *
   congr 1<;>omega
  rw[c];exact .st f2
 have g:=bX.2 v U;show ((ji t.vars s t.vars.length).getD (v:Int).toNat []).getD (s.getD v W.dflt).toNat false=true;rw[jU,NK hv,ba hv];unfold ry;rw[aq (by rw[iU,mp];omega),DW]
def ui.succ {w:bE}{F:List (List Bool)}{u:vr}(h:ui t w F i)(hi:i<(nA t).length)(hu:u=(nA t).getD i uj)(h2:u.aU≠w->mH F u.aG=true->vq F u.aU=true):ui t w F (i+1):=fun v hv=>by
 rw[IF,mL hi]at hv;rcases kK.1 hv with hv|hv
 ·exact h v hv
 have e:v=u:=by rw[hu,aq hi];simpa using hv
 rw[e];exact h2
def JG {x y:bE}:[x.var,x.val]=[y.var,y.val]↔x=y:=by
 constructor
 ·intro h
  have b:x.var=y.var/\x.val=y.val:=by simpa using h
  cases x;cases y;simp only at b;rw[b.1,b.2]
 rintro rfl;rfl
def NL (hr:q9 w0 m t a gvv cv lv us)(I:aJ t)(hs:RS W w0 sv z)(bX:aj t.vars z) :
  Calls ak 289 #[.pointer (some m),sv,.agg #[E f.var,E f.val]] w0 fun e w'=>∃ fv ss F,e=.returned fv/\q8 t z f F/\ui t f F (nA t).length/\Z w0 w' [X aA 140 fv ss,ai ah 4 ss F]:=by
 obtain⟨hb,T',V',_a,R,_b,hF⟩:=hr;have _c:=I.vars;have _d:=bX.1;have P':=R.cn;have Y:=Z.start w0;refine bI ar Tryz.func289 ?_
 repeat (first|refine dS ?_|(refine iT ?_;clear Y;intro p w Y)|(refine gA ?_;clear Y;intro s w Y))
 replace Y:=Y.iJ (T:=ah) (e:=4) t.vars.length;obtain⟨r,rfl⟩:=À p;obtain⟨fv,rfl⟩:=À s;rw[jU,<-z_ t.vars z]at Y;replace Y:Z w0 w [ai ah 4 (replicate t.vars.length (nS)) (ji t.vars z 0),X aA 140 fv (replicate t.vars.length (nS)),am r 63 [E f.var,E f.val]]:=Y;refine dP [8,9,24,43] (G:=Nat) (H:=List Value) (fun k _=>[(24,E k)]) (fun k ss w=>k<=t.vars.length/\Z w0 w [ai ah 4 ss (ji t.vars z k),X aA 140 fv ss,am r 63 [E f.var,E f.val]]) (fun k _=>t.vars.length-k) 0 _ (fun _ _=>rfl) ⟨rfl,az⟩ ⟨bC _,Y⟩ ?_;clear Y;rintro σ k ss w ⟨hk,Y⟩;have S:=CT t.vars z k;have q:=Y.bU;refine aC ?_ ?_<;>intro h1
 ·have c:k<t.vars.length:=U
  have j:=I.pC k c;have o:=bX.2 k U;refine qJ ?_;intro s w Y;obtain⟨b,rfl⟩:=À s;replace Y:Z w0 w [X ah 4 b (replicate (t.vars.getD k W.dflt).toNat false),ai ah 4 ss (ji t.vars z k),X aA 140 fv (ss.set k b),am r 63 [E f.var,E f.val]]:=Y.bj;replace Y:=Y.tn (i:=k) U;obtain⟨Δ,g,x⟩:=Y.tk (i:=k) (by rw[iU];omega);rw[show ((ji t.vars z k).set k (replicate (t.vars.getD k W.dflt).toNat false)).getD k []=replicate (t.vars.getD k W.dflt).toNat false by rw[aq (by rw[iU];omega),DW]]at g;clear Y;have Y:=g;clear g;have l:(replicate (t.vars.getD k W.dflt).toNat false).length=(t.vars.getD k W.dflt).toNat:=mp;have d:(ss.set k b).length=ss.length:=iU;refine dD ?_;intro w Y;replace Y:Z w0 w (X ah 4 (cL (ss.set k b) k) (ry t.vars z k)::kR Δ::[X aA 140 fv (ss.set k b),am r 63 [E f.var,E f.val]]):=Y;replace Y:=x Y;rw[set_set,y_]at Y;exact⟨k+1,_,⟨rfl,az⟩,aX,⟨U,Y⟩,U⟩
 have C:k=t.vars.length:=U;rw[C]at Y;have d:=Hg (w:=f) bX;clear S q C hk h1;refine O ?_;refine dP [10,10,12,12,44,88] (G:=Bool) (H:=List (List Bool)) (fun c _=>[(10,.bool c)]) (fun c F w=>q8 t z f F/\(c=false->ui t f F (nA t).length)/\Z w0 w [ai ah 4 ss F,X aA 140 fv ss,am r 63 [E f.var,E f.val]]) (fun c F=>2*rW F+(bif c then 1 else 0)) true _ (fun _ _=>rfl) ⟨rfl,az⟩ ⟨d,(fun h=>by cases h),Y⟩ ?_;clear Y d;rintro _e c F w ⟨d,hC,Y⟩;cases c
 ·refine O ?_
  exact bo (v:=fv) rfl rfl ⟨fv,ss,F,rfl,d,hC rfl,Y.bj⟩
 clear hC;refine O ?_;refine pu [10,10,12,12,50,88] (G:=Nat) (H:=Bool) (I':=List (List Bool)) (fun i c _=>[(50,E i),(10,.bool c)]) (fun i c b w=>i<=us.length/\q8 t z f b/\rW b<=rW F/\(c=true->rW b<rW F)/\(c=false->ui t f b i)/\Z w0 w [ai ah 4 ss b,X aA 140 fv ss,am r 63 [E f.var,E f.val]]) (fun i _ _=>us.length-i) 0 false F (fun _ _ _=>rfl) ⟨rfl,rfl,az⟩ ⟨bC _,d,cP _,(fun h=>by cases h),fun _ u hu=>by simp at hu,Y⟩ ?_;clear Y d;rintro _f i c b w ⟨hi,d,y,l,o,Y⟩;refine aC ?_ ?_<;>intro h2
 ·have _g:i<us.length:=U
  have j:i<(nA t).length:=U;obtain⟨u,hu⟩:=À ((nA t).getD i uj);have D:=hF i j;rw[<-hu]at D;obtain⟨l1,l2,l3⟩:=D;have K:u∈nA t:=by rw[hu];exact cS _ j
  obtain⟨o1,o2,o3⟩:=NM I K;obtain⟨x1,x2,x3,x4⟩:=CU o2;have _h:=d.zR.len;have _i:=d.zR.row _ x2;have q:=Y.bU;have V:=l3.one;have L:kN.enc (aB kN us i)=[E (u.op:Int),(aB kN us i).aG,E u.aU.var,E u.aU.val]:=by
   show [Value.int .i64 (aB kN us i).op,(aB kN us i).aG,E (aB kN us i).aU.var,E (aB kN us i).aU.val]=_;rw[l1,l2]
  have R':(kN.enc (aB kN us i)).all Value.oneCell'=true:=by
   rw[L];simp only[fo,fB,V];rfl
  refine dj ?_;intro p w Y;obtain⟨j',rfl⟩:=À p;rw[L]at Y;refine qM ?_;clear Y;intro w Y;refine O ?_;refine r7 rfl (zC (k:=2) (n:=2) (vs:=[E u.aU.var,E u.aU.val]) rfl (Y.dA 0 rfl) rfl rfl) ?_;refine O ?_;refine fR rfl (T7 (us:=[u.aU.var,u.aU.val]) (zs:=[f.var,f.val]) rfl rfl rfl rfl) ?_;by_cases P:u.aU=f
  ·rw[dH (JG.2 P)]
   refine O ?_;exact⟨i+1,c,b,⟨rfl,rfl,az⟩,aX,⟨U,d,y,l,fun h=>(o h).succ j hu (fun h=>absurd P h),Y.tail⟩,U⟩
  rw[dB fun h=>P (JG.1 h)];have H':RS ah w (cL ss u.aU.var.toNat) (b.getD u.aU.var.toNat []):=(Y.bN 1 rfl).row U;refine O ?_;by_cases q2:vq b u.aU=true
  ·have B:(b.getD u.aU.var.toNat []).getD u.aU.val.toNat ah.dflt=true:=q2
   try simp only[B];refine JF ?_
   refine O ?_;exact⟨i+1,c,b,⟨rfl,rfl,az⟩,aX,⟨U,d,y,l,fun h=>(o h).succ j hu (fun _ _=>q2),Y.tail⟩,U⟩
  have N:vq b u.aU=false:=vZ.2 q2;have B:(b.getD u.aU.var.toNat []).getD u.aU.val.toNat ah.dflt=false:=N
  try simp only[B];refine JF ?_
  refine O ?_;refine aR rfl (JH (ss:=ss) (F:=b) ⟨bB (s:=fv) Y,U,fun i hi=>(Y.bN 1 rfl).row hi⟩ d.zR (l3.at Y) o3) ?_;rintro _ w' ⟨rfl,aw⟩;replace Y:=Y.cH aw;clear aw H';refine⟨_,rfl,?_⟩;by_cases Q:mH b u.aG=true
  ·rw[Q]
   replace Y:Z w0 w' [ai ah 4 ss b,am j' 378 [E (u.op:Int),(aB kN us i).aG,E u.aU.var,E u.aU.val],X aA 140 fv ss,am r 63 [E f.var,E f.val]]:=Y.bj;obtain⟨Δ,g,x⟩:=Y.tk (i:=u.aU.var.toNat) U;clear Y;have Y:=g;clear g;refine dD ?_;intro w Y;replace Y:=x Y;rw[show b.set u.aU.var.toNat ((b.getD u.aU.var.toNat []).set u.aU.val.toNat true)=te b u.aU from rfl]at Y;have J':=d.kg I bX K P Q;have _j:=A_ d.zR o2 N;exact⟨i+1,true,te b u.aU,⟨rfl,rfl,az⟩,aX,⟨U,J',U,fun _=>U,(fun h=>by cases h),Y.bj⟩,U⟩
  rw[vZ.2 Q];refine O ?_;exact⟨i+1,c,b,⟨rfl,rfl,az⟩,aX,⟨U,d,y,l,fun h=>(o h).succ j hu (fun _ h=>absurd h Q),Y.tail⟩,U⟩
 refine O ?_;refine⟨c,b,⟨rfl,az⟩,aX,⟨d,fun g u hu hm=>o g u (by rw[io U];rw[io (cP _)]at hu;exact hu) hm,Y⟩,?_⟩;cases c
 ·simp only[cond_true,cond_false];omega
 have:=l rfl;simp only[cond_true];omega
def B_ (I:aJ t):∀ f∈t.aF,bV t.vars f:=fun f c=>by
 obtain⟨i,b,rfl⟩:=ga c;have:=(I.aF i b).1
 rwa[aq b]at this
def C_ (I:aJ t):∀ f∈ki t.vars,bV t.vars f:=fun f b=>by
 unfold ki nN at b;obtain⟨v,hv,b⟩:=tN.1 b;obtain⟨x,hx,rfl⟩:=iG.1 b;have hv:=mem_range.1 hv;have hx:=mem_range.1 hx;exact⟨D0 v,by show (v:Int)<_;omega,D0 x,by show (x:Int)<t.vars.getD (v:Int).toNat W.dflt;rw[jU];omega⟩
def NN {t:aa}(I:aJ t):∀ k,k<=t.M.length->((List.range k).flatMap (uk t)).length<=64*k
 | 0,_=>sm
 | k+1,h=>by
  have h1:=NN I k U;have b:=(I.op k U).aQ;rw[lN,ya,length_append];have c:([k].flatMap (uk t)).length=(t.M.getD k bz).aQ.length:=by simp[uk]
  omega
def Vm (I:aJ t):(nA t).length<=262144:=by
 have h1:=NN I t.M.length (cP _);have b:=I.M;show ((List.range t.M.length).flatMap (uk t)).length<=_;omega
open Classical in
def D_ (l:q9 w0 m t a gvv cv lv us)(I:aJ t)(K:RS W w0 sv z)(bX:aj t.vars z) :
  Calls ak 279 #[.pointer (some m),sv] w0 fun e w'=>(¬ub t z ⟨-1,-1⟩/\e=.returned (.tuple #[nS,bS 3])/\Z w0 w' [])\/∃ y,ub t z ⟨-1,-1⟩/\e=.returned (.tuple #[y,.nilIface])/\Z w0 w' [X aD 63 y (dK t z)]:=by
 have d:=B_ I;have L:=C_ I;have P':(ki t.vars).length<=4096:=by
  have:=JI (fun i n=>(I.pC i n).2) t.vars.length (cP _);have b:oW t.vars t.vars.length=ki t.vars:=rfl;rw[b]at this;have:=I.vars;omega
 have R':=bX.1;have Y:=Z.start w0;refine bI ar Tryz.func279 ?_;have T':=l.box;have N:=l.vars;have o:=l.aF;refine O ?_;refine aR rfl (zW (N.at Y) (K.at Y)) ?_;rintro _ w' ⟨⟨r,rfl,P⟩,aw⟩;refine aL ?_;clear aw Y;intro Y;obtain rfl:r=true:=P.2 bX;refine O ?_;refine gi (pl [0,1,4,5,6,7,2] (.cY 7::pl [3] (.cY 7::pl [8,9,10] []))) Y kr ?_;clear Y;intro w Y;refine O ?_;refine aR rfl F_ ?_;rintro _ w' ⟨rfl,aw⟩;refine aL ?_;clear aw Y;intro Y;refine O ?_;refine aR rfl (NL (f:=⟨-1,-1⟩) (l.at Y) I (K.at Y) bX) ?_;rintro _ w' ⟨fv,Q,F,rfl,hI,hC,aw⟩;refine kl ?_;clear aw Y;intro Y;have j:=hI.has hC d;refine O ?_;refine aR rfl (JH (ss:=Q) (F:=F) ⟨bB (s:=fv) Y,(Y.bN 1 rfl).bU,fun i n=>(Y.bN 1 rfl).row n⟩ hI.zR (o.at Y) d) ?_;rintro _ w' ⟨rfl,aw⟩;refine aL ?_;clear aw Y;intro Y;by_cases B:mH F t.aF=true
 case neg =>
  rw[vZ.2 B];refine O ?_;exact dw (v:=nS) (v':=.iface 57 (E 3)) rfl rfl rfl (.inl ⟨fun h=>B (j.2 h),by rw[c9 dc],iH Y⟩)
 have R:ub t z ⟨-1,-1⟩:=j.1 B;rw[B];refine O ?_;refine aR rfl (G_ (l.at Y) I) ?_;rintro _ w' ⟨y,rfl,aw⟩;refine aO ?_;clear aw Y;intro Y;replace Y:=(Y.only).nil (T:=aD) (e:=63);refine O ?_;refine dP [6,6,8,8,37,65] (G:=Nat) (H:=Value) (fun k g=>[(37,E k),(6,g)]) (fun k g w=>k<=(ki t.vars).length/\Z w0 w [X aD 63 g (((ki t.vars).take k).filter (sD t z)),X aD 63 y (ki t.vars)]) (fun k _=>(ki t.vars).length-k) 0 (nS) (fun _ _=>rfl) ⟨rfl,rfl,az⟩ ⟨bC _,Y⟩ ?_;clear Y;rintro σ k g w ⟨hk,Y⟩;have V':(((ki t.vars).take k).filter (sD t z)).length<=k:=rN (wV _ _) (by rw[jC];omega);refine aC ?_ ?_<;>intro h1
 ·have q:k<(ki t.vars).length:=U
  obtain⟨f,S⟩:=À ((ki t.vars).getD k aD.dflt);have V:f∈ki t.vars:=by rw[S];exact cS _ q
  obtain⟨x1,x2,x3,x4⟩:=CU (L f V)
  have b:((ki t.vars).take (k+1)).filter (sD t z)=if sD t z f=true then ((ki t.vars).take k).filter (sD t z)++[f] else ((ki t.vars).take k).filter (sD t z):=by
   rw[eX aD.dflt q,<-S,CF];by_cases h:sD t z f=true
   ·rw[ba h,L8 h];rfl
   rw[aM h,L9 h];simp
  refine dj ?_;intro p w Y;obtain⟨p8,rfl⟩:=À p;rw[<-S]at Y;by_cases C:z.getD f.var.toNat W.dflt=f.val
  ·have u:sD t z f=false:=by unfold sD;exact dB fun h=>h.1 C
   rw[aM (by rw[u];decide)]at b;have hd:decide (z.getD f.var.toNat W.dflt=f.val)=true:=dH C;refine gi (pl [0,1,2,3,4,5,6,7,8,9,10,11,13,14,15,16,12] (.cY 16::pl [17,18,19] [])) Y kr ?_;clear Y;intro w Y;refine O ?_
   try simp only[hd];refine JF ?_
   refine O ?_;rw[<-b]at Y;exact⟨k+1,g,⟨rfl,rfl,az⟩,aX,⟨U,Y.tail⟩,U⟩
  have hd:decide (z.getD f.var.toNat W.dflt=f.val)=false:=dB C;refine gi (pl [0,1,2,3,4,5,6,7,8,9,10,11,13,14,15,16,12] (.cY 16::pl [17,18,19] [])) Y kr ?_;clear Y;intro w Y;refine O ?_
  try simp only[hd];refine JF ?_
  refine O ?_;refine aR rfl (NL (f:=f) (l.at Y) I (K.at Y) bX) ?_;rintro _ w' ⟨j',H',F2,rfl,x,J',aw⟩;refine kl ?_;clear aw Y;intro Y;have c:=x.has J' d;refine O ?_;refine aR rfl (JH (ss:=H') (F:=F2) ⟨bB (s:=j') Y,(Y.bN 1 rfl).bU,fun i n=>(Y.bN 1 rfl).row n⟩ x.zR (o.at Y) d) ?_;rintro _ w' ⟨rfl,aw⟩;refine aL ?_;clear aw Y;intro Y;by_cases D:mH F2 t.aF=true
  ·have u:sD t z f=false:=by unfold sD;exact dB fun h=>h.2 (c.1 D)
   rw[aM (by rw[u];decide)]at b;rw[D];refine O ?_;rw[<-b]at Y;exact⟨k+1,g,⟨rfl,rfl,az⟩,aX,⟨U,Y.tail.tail.tail⟩,U⟩
  have u:sD t z f=true:=by unfold sD;exact dH ⟨C,fun h=>D (c.2 h)⟩
  rw[ba u]at b;rw[vZ.2 D];refine O ?_;refine jA aD (x1:=f) rfl rfl rfl (fP rfl) (fg _) Y ?_;clear Y;intro sl w Y;refine kO ?_;intro s w Y;rw[<-b]at Y;exact⟨k+1,_,⟨rfl,rfl,az⟩,aX,⟨U,Y.tail.tail.tail.tail⟩,U⟩
 rw[io U]at Y;refine O ?_;exact dw (v:=g) (v':=.nilIface) rfl rfl rfl (.inr ⟨g,R,rfl,Y.bj (Δ:=[X aD 63 g ((ki t.vars).filter (sD t z))])⟩)
open Classical in
def H_ (P:q9 w0 m t a gvv cv lv us)(I:aJ t)(hs:RS W w0 sv z)(bX:aj t.vars z) :
  Calls ak 280 #[.pointer (some m),sv,.agg #[E f.var,E f.val]] w0 fun e w'=>∃ l,e=.returned l/\Z w0 w' [X W 3 l (sS t z f)]:=by
 have H':=bX.1;have Y:=Z.start w0;refine bI ar Tryz.func280 ?_;obtain⟨hb,J',P',R',B,T',hF⟩:=id P;refine ep ?_;intro p w Y;obtain⟨Q,rfl⟩:=À p;refine aR rfl (NL (f:=f) (P.at Y) I (hs.at Y) bX) ?_;rintro _ w' ⟨C,j,F,rfl,R,hC,aw⟩;refine kl ?_;clear aw Y;intro Y;replace Y:=Y.nil (T:=W) (e:=3);replace Y:Z w0 w' [X W 3 (nS) [],X aA 140 C j,ai ah 4 j F,am Q 63 [E f.var,E f.val]]:=Y;have D:=(Y.bN 2 rfl).bU;have S:=Vm I;have V:=B.cn;refine O ?_;refine dP [8,8,10,10,20,39] (G:=Nat) (H:=Value) (fun k d=>[(20,E k),(8,d)]) (fun k d w=>k<=us.length/\Z w0 w [X W 3 d ((((nA t).take k).filter (tQ t z f)).map fun u=>(u.op:Int)),X aA 140 C j,ai ah 4 j F,am Q 63 [E f.var,E f.val]]) (fun k _=>us.length-k) 0 (nS) (fun _ _=>rfl) ⟨rfl,rfl,az⟩ ⟨bC _,Y⟩ ?_;clear Y;rintro σ k d w ⟨hk,Y⟩;have K:((((nA t).take k).filter (tQ t z f)).map fun u=>(u.op:Int)).length<=k:=by
  rw[lA];exact rN (wV _ _) (by rw[jC];omega)
 refine aC ?_ ?_<;>intro h1
 ·have V':k<us.length:=U
  have g:k<(nA t).length:=U;obtain⟨u,hu⟩:=À ((nA t).getD k uj);have o:=hF k g;rw[<-hu]at o;obtain⟨l1,l2,l3⟩:=o;have L:u∈nA t:=by rw[hu];exact cS _ g
  obtain⟨o1,o2,o3⟩:=NM I L;have N:=l3.one;have q:kN.enc (aB kN us k)=[E (u.op:Int),(aB kN us k).aG,E u.aU.var,E u.aU.val]:=by
   show [Value.int .i64 (aB kN us k).op,(aB kN us k).aG,E (aB kN us k).aU.var,E (aB kN us k).aU.val]=_;rw[l1,l2]
  have j':(kN.enc (aB kN us k)).all Value.oneCell'=true:=by
   rw[q];simp only[fo,fB,N];rfl
  have b:(((nA t).take (k+1)).filter (tQ t z f)).map (fun u=>(u.op:Int))=if tQ t z f u=true then ((((nA t).take k).filter (tQ t z f)).map fun u=>(u.op:Int))++[(u.op:Int)] else (((nA t).take k).filter (tQ t z f)).map fun u=>(u.op:Int):=by
   rw[eX uj g,<-hu,CF];by_cases h:tQ t z f u=true
   ·rw[ba h,L8 h];simp
   rw[aM h,L9 h];simp
  refine dj ?_;intro p w Y;obtain⟨_a,rfl⟩:=À p;rw[q]at Y;refine r7 rfl (zC (k:=2) (n:=2) (vs:=[E u.aU.var,E u.aU.val]) rfl (Y.dA 0 rfl) rfl rfl) ?_;refine O ?_;refine fR rfl (Ο (us:=[u.aU.var,u.aU.val]) (zs:=[f.var,f.val]) rfl rfl rfl rfl) ?_;by_cases x:u.aU=f
  case neg =>
   have r:tQ t z f u=false:=by unfold tQ;exact dB fun h=>x h.1
   rw[aM (by rw[r];decide)]at b;rw[dB fun h=>x (JG.1 h)];refine O ?_;rw[<-b]at Y;exact⟨k+1,d,⟨rfl,rfl,az⟩,aX,⟨U,Y.tail⟩,U⟩
  rw[dH (JG.2 x)];refine O ?_;refine aR rfl (JH (ss:=j) (F:=F) ⟨bB (s:=C) Y,D,fun i hi=>(Y.bN 3 rfl).row hi⟩ R.zR (l3.at Y) o3) ?_;rintro _ w' ⟨rfl,aw⟩;refine aL ?_;clear aw Y;intro Y;have c:=R.has hC o3;by_cases y:mH F u.aG=true
  ·have r:tQ t z f u=true:=by unfold tQ;exact dH ⟨x,c.1 y⟩
   rw[ba r]at b;rw[y]
   repeat (first|refine dS ?_|(refine gA ?_;clear Y;intro s w Y))
   rw[<-b]at Y;exact⟨k+1,_,⟨rfl,rfl,az⟩,aX,⟨U,Y.tail.tail⟩,U⟩
  have r:tQ t z f u=false:=by unfold tQ;exact dB fun h=>y (c.2 h.2)
  rw[aM (by rw[r];decide)]at b;rw[vZ.2 y];refine O ?_;rw[<-b]at Y;exact⟨k+1,d,⟨rfl,rfl,az⟩,aX,⟨U,Y.tail⟩,U⟩
 have b:(nA t).length<=k:=U;rw[io b]at Y K;refine O ?_;refine aR rfl (Ig (s:=d) Y U) ?_;clear Y;rintro _ w ⟨l,rfl,Y⟩;refine⟨_,rfl,?_⟩;refine O ?_;exact bo (v:=l) rfl rfl ⟨l,rfl,Y.only⟩
def NO {vv:Value}{l V:J}(C:RS W w0 lv l)(hv:RS W w0 vv V)(D:∀ f∈l,0<=f/\f<V.length) :
  Calls ak 271 #[lv,vv] w0 fun e w'=>e=.returned (E (jM V l))/\Z w0 w' []:=by
 have F:=C.cn;have K:=hv.cn;have Y:=Z.start w0;refine bI ar Tryz.func271 ?_;refine O ?_;refine dP [5,5,7,7,10,44] (G:=Nat) (H:=Int) (fun k o=>[(10,E k),(5,E o)]) (fun k o w=>k<=l.length/\o=jM V (l.take k)/\(o<0\/(0<=o/\o<V.length))/\Z w0 w []) (fun k _=>l.length-k) 0 (-1) (fun _ _=>rfl) ⟨rfl,rfl,az⟩ ⟨bC _,rfl,.inl dc,Y⟩ ?_;clear Y;rintro N k o w ⟨hk,y,n,Y⟩;refine aC ?_ ?_<;>intro h1
 ·have r:k<l.length:=U
  have B:=D _ (cS W.dflt r);have c:jM V (l.take (k+1))=rU V o (l.getD k W.dflt):=by rw[eX W.dflt r,Vb,<-y]
  refine O ?_;refine qM ?_;clear Y;intro w Y;by_cases c1:o<0
  ·have b:decide (o<0)=true:=dH c1
   have g:o<0\/dg V o<dg V (l.getD k W.dflt)\/(dg V (l.getD k W.dflt)=dg V o/\(l.getD k W.dflt)<o):=.inl c1;refine O ?_
   try simp only[b];refine eW ?_
   refine O ?_;exact⟨k+1,(l.getD k W.dflt),⟨rfl,rfl,az⟩,aX,⟨U,by rw[c,rU,ba g],.inr B,Y⟩,U⟩
  have b:decide (o<0)=false:=dB c1;have L:0<=o/\o<V.length:=by
   rcases n with h|h
   ·exact absurd h c1
   exact h
  by_cases c2:dg V o<dg V (l.getD k W.dflt)
  ·have d:decide (V.getD o.toNat W.dflt<V.getD ((l.getD k W.dflt)).toNat W.dflt)=true:=dH c2
   have g:o<0\/dg V o<dg V (l.getD k W.dflt)\/(dg V (l.getD k W.dflt)=dg V o/\(l.getD k W.dflt)<o):=.inr (.inl c2);refine O ?_
   try simp only[b];refine eW ?_
   refine O ?_
   try simp only[d];refine eW ?_
   refine O ?_;exact⟨k+1,(l.getD k W.dflt),⟨rfl,rfl,az⟩,aX,⟨U,by rw[c,rU,ba g],.inr B,Y⟩,U⟩
  have d:decide (V.getD o.toNat W.dflt<V.getD ((l.getD k W.dflt)).toNat W.dflt)=false:=dB c2;by_cases u:dg V (l.getD k W.dflt)=dg V o
  ·have j:decide (V.getD ((l.getD k W.dflt)).toNat W.dflt=V.getD o.toNat W.dflt)=true:=dH u
   by_cases x:(l.getD k W.dflt)<o
   ·have q:decide ((l.getD k W.dflt)<o)=true:=dH x
    have g:o<0\/dg V o<dg V (l.getD k W.dflt)\/(dg V (l.getD k W.dflt)=dg V o/\(l.getD k W.dflt)<o):=.inr (.inr ⟨u,x⟩);refine O ?_
    try simp only[b];refine eW ?_
    refine O ?_
    try simp only[d];refine eW ?_
    refine O ?_
    try simp only[j];refine eW ?_
    refine O ?_
    try simp only[q];refine eW ?_
    refine O ?_;exact⟨k+1,(l.getD k W.dflt),⟨rfl,rfl,az⟩,aX,⟨U,by rw[c,rU,ba g],.inr B,Y⟩,U⟩
   have q:decide ((l.getD k W.dflt)<o)=false:=dB x;have g:¬(o<0\/dg V o<dg V (l.getD k W.dflt)\/(dg V (l.getD k W.dflt)=dg V o/\(l.getD k W.dflt)<o)):=fun h=>by
    rcases h with h|h|h
    ·exact c1 h
    ·exact c2 h
    exact x h.2
   refine O ?_
   try simp only[b];refine eW ?_
   refine O ?_
   try simp only[d];refine eW ?_
   refine O ?_
   try simp only[j];refine eW ?_
   refine O ?_
   try simp only[q];refine eW ?_
   refine O ?_;exact⟨k+1,o,⟨rfl,rfl,az⟩,aX,⟨U,by rw[c,rU,aM g],n,Y⟩,U⟩
  have j:decide (V.getD ((l.getD k W.dflt)).toNat W.dflt=V.getD o.toNat W.dflt)=false:=dB u;have g:¬(o<0\/dg V o<dg V (l.getD k W.dflt)\/(dg V (l.getD k W.dflt)=dg V o/\(l.getD k W.dflt)<o)):=fun h=>by
   rcases h with h|h|h
   ·exact c1 h
   ·exact c2 h
   exact u h.1
  refine O ?_
  try simp only[b];refine eW ?_
  refine O ?_
  try simp only[d];refine eW ?_
  refine O ?_
  try simp only[j];refine eW ?_
  refine O ?_;exact⟨k+1,o,⟨rfl,rfl,az⟩,aX,⟨U,by rw[c,rU,aM g],n,Y⟩,U⟩
 have b:k=l.length:=U;rw[b,io (cP _)]at y;refine O ?_;exact bo (v:=E o) rfl rfl ⟨by rw[y],Y⟩
def NP {vv:Value}{l V:J}(c:RS W w0 lv l)(hv:RS W w0 vv V)(b:∀ f∈l,0<=f/\f<V.length) :
  Calls ak 269 #[lv,vv] w0 fun e w'=>e=.returned (E (lq V l))/\Z w0 w' []:=by
 have Y:=Z.start w0;refine bI ar Tryz.func269 ?_;refine O ?_;refine aR rfl (NO (c.at Y) (hv.at Y) b) ?_;rintro _ w' ⟨rfl,aw⟩;refine aL ?_;clear aw Y;intro Y;have I:=AD (V:=V) (l:=l) fun f d=>(b f d).1;refine aC ?_ ?_<;>intro h1
 ·have hm:jM V l∈l:=by
   rcases I with ⟨_,h⟩|⟨_,h⟩
   ·omega
   exact h.1
  have g:=b _ hm;have e:lq V l=dg V (jM V l):=aM U;refine O ?_;exact bo (v:=E (V.getD (jM V l).toNat W.dflt)) rfl rfl ⟨by rw[e],Y⟩
 have e:lq V l=0:=ba U;refine O ?_;exact bo (v:=E 0) rfl rfl ⟨by rw[e],Y⟩
def Eu {vars:J}(c:∀ x∈vars,1<=x)(d:∀ i,i<vars.length->vars.getD i W.dflt<=64)(e:vars.length<=64)(h:i<vars.length):(ew vars vars.length).getD i W.dflt=bP vars i/\0<=bP vars i/\bP vars i<=4096:=by
 have h1:=Ev c (b:=i) U;have g:=Ga d (b:=i) U;exact⟨I_ h,h1,U⟩
def MX {vars:J}{d c1 c2 g fv h j l n:Value}(q:eJ w0 m [d,c1,c2,g,fv,h,j,l,n])(r:RS W w0 fv (ew vars vars.length))(o:∀ x∈vars,1<=x)(c:∀ i,i<vars.length->vars.getD i W.dflt<=64)(b:vars.length<=64)(hx:bV vars f) :
  Calls ak 75 #[.pointer (some m),.agg #[E f.var,E f.val]] w0 fun e w'=>e=.returned (E (eC vars f))/\Z w0 w' []:=by
 obtain⟨u,y,B,C⟩:=hx;have hv:f.var.toNat<vars.length:=U;obtain⟨g0,g1,g2⟩:=Eu o c b hv;have g3:=c _ hv;have D:=BF vars vars.length;have Y:=Z.start w0;refine bI ar Tryz.func75 ?_;refine ep ?_;intro p w Y;exact bo (v:=E ((ew vars vars.length).getD f.var.toNat W.dflt+f.val)) rfl rfl ⟨by rw[g0];rfl,Y.bj⟩
def qu (vars:J)(Ls:List (List bE))(i:Nat):J:=(Ls.take i).foldl (fun acc l=>cG vars l acc) []
def J_ {vars:J}{Ls:List (List bE)}(h:i<Ls.length):qu vars Ls (i+1)=cG vars (Ls.getD i []) (qu vars Ls i):=by
 unfold qu;rw[eX [] h,u0];rfl
def NQ {vars:J}{acc:J}{l:List bE}(h:k<l.length):cG vars (l.take (k+1)) acc=ra (cG vars (l.take k) acc) (eC vars (l.getD k aD.dflt)):=by
 rw[eX aD.dflt h,NR]
def TS {α:Type}{T:Ty α}{xs:List α}{x:α}(h:i<xs.length):aB T (xs++[x]) i=aB T xs i:=by
 rw[oz,oz];simp[ow,mu h]
def TU {α:Type}{T:Ty α}{xs:List α}{x:α}(h:i=xs.length):aB T (xs++[x]) i=x:=by
 rw[oz];subst h;simp[ow]
def pY.gD {us:List zN}{U':List Un}{v:zN}{u:Un}{w:World}(h:pY us U' w)(d:us.length=U'.length)(hv:NS w v u):pY (us++[v]) (U'++[u]) w:=fun i b=>by
 by_cases e:i<U'.length
 ·rw[TS U,TT e];exact h i e
 have c:i=U'.length:=by rw[length_append,w7]at b;omega
 rw[TU U,c,TV];exact hv
def ĸ {w:World}{Γ:List HP}{K c1 c2 L fv P nv c v1 v2:Value}{us:List zN}{ss:List Value}{U':List Un}{vars:J}{N:Nat}{op fS aT aU:Int}{l1 l2:List bE}(hp:∀ x∈vars,1<=x)(hd:∀ i,i<vars.length->vars.getD i W.dflt<=64)(_a:vars.length<=64)(hN:(N:Int)=bP vars vars.length)(_g:N<=4096)(_h:U'.length<=1048576)(h1:RS aD w0 v1 l1)(h2:RS aD w0 v2 l2)(k1:∀ f∈l1,bV vars f)(k2:∀ f∈l2,bV vars f)(n1:l1.length<=64)(n2:l2.length<=64)(B:us.length=U'.length)(Y:Z w0 w (ai W 3 ss (gZ U' N)::X aA 22 nv ss::am m 127 [K,c1,c2,L,fv,E (N:Int),P,nv,c]::X W 3 fv (ew vars vars.length)::X my 131 P us::bA (pY us U')::X W 3 c (eQ U')::Γ)) :
  Calls ak 74 #[.pointer (some m),.agg #[E op,E fS,E aT,E aU,nS],v1,v2] w fun e w'=>e=.returned (.tuple #[])/\∃ g b d j,d.length=(U'++[(Un.mk op fS aT aU (cG vars l2 (cG vars l1 [])))]).length /\
   Z w0 w' (ai W 3 j (gZ (U'++[(Un.mk op fS aT aU (cG vars l2 (cG vars l1 [])))]) N)::X aA 22 nv j::am m 127 [K,c1,c2,L,fv,E (N:Int),g,nv,b]::X W 3 fv (ew vars vars.length)::X my 131 g d::bA (pY d (U'++[(Un.mk op fS aT aU (cG vars l2 (cG vars l1 [])))]))::X W 3 b (eQ (U'++[(Un.mk op fS aT aU (cG vars l2 (cG vars l1 [])))]))::Γ):=by
 have _b:=Y.bU;refine bI ar Tryz.func74 ?_;refine dj ?_;intro p5 w Y;have e1:=h1.fu;have e2:=h2.fu;have s1:v1.cells.size=1:=by rw[<-E7,e1];rfl
 have s2:v2.cells.size=1:=by rw[<-E7,e2];rfl
 refine D3 (T:=aA) [v1,v2] [v1,v2] rfl (by simp only[pA,e1,e2,Cu];rfl) (by simp[s1,s2]) rfl rfl dc dc dc Y ?_;clear Y;intro lv w Y;obtain⟨o,V⟩:∃ o:List (List bE),o=[l1,l2]:=⟨_,rfl⟩
 have _i:o.length=2:=by rw[V];rfl
 have P':∀ i,i<2->RS aD w0 (cL [v1,v2] i) (o.getD i [])/\(∀ f∈o.getD i [],bV vars f)/\(o.getD i []).length<=64:=fun i hi=>by
  rw[V]
  match i,hi with
  | 0,_=>exact⟨by rw[qL];exact h1,k1,n1⟩
  | 1,_=>exact⟨by rw[qL];exact h2,k2,n2⟩
 have R:qu vars o 2=cG vars l2 (cG vars l1 []):=by rw[V];rfl
 have C:Z w0 w (X W 3 (nS) (qu vars o 0)::am p5 131 [E op,E fS,E aT,E aU,nS]::X aA 23 lv [v1,v2]::ai W 3 ss (gZ U' N)::X aA 22 nv ss::am m 127 [K,c1,c2,L,fv,E (N:Int),P,nv,c]::X W 3 fv (ew vars vars.length)::X my 131 P us::bA (pY us U')::X W 3 c (eQ U')::Γ):=Z.nil (T:=W) (e:=3) Y.swap;clear Y;have Y:=C;clear C;refine O ?_;refine dP [9,9,11,12,20,45] (G:=Nat) (H:=Value) (fun i _=>[(20,E i)]) (fun i g w=>i<=2/\(qu vars o i).length<=64*i/\Z w0 w (X W 3 g (qu vars o i)::am p5 131 [E op,E fS,E aT,E aU,g]::X aA 23 lv [v1,v2]::ai W 3 ss (gZ U' N)::X aA 22 nv ss::am m 127 [K,c1,c2,L,fv,E (N:Int),P,nv,c]::X W 3 fv (ew vars vars.length)::X my 131 P us::bA (pY us U')::X W 3 c (eQ U')::Γ)) (fun i _=>2-i) 0 (nS) (fun _ _=>rfl) ⟨rfl,az⟩ ⟨U,cP 0,Y⟩ ?_;clear Y;rintro σ i g w ⟨hi,j',Y⟩;have _j:[v1,v2].length=2:=rfl;refine aC ?_ ?_<;>intro g1
 ·have r:i<2:=U
  obtain⟨r1,S,r3⟩:=P' i r;refine O ?_;obtain⟨l,y⟩:=À (o.getD i []);rw[<-y]at r1 S r3;have H':(o.getD i []).length=l.length:=by rw[y]
  refine dP [11,12,26,44] (G:=Nat) (H:=Value) (fun k _=>[(26,E k)]) (fun k g w=>k<=l.length/\(cG vars (l.take k) (qu vars o i)).length<=64*i+k/\Z w0 w (X W 3 g (cG vars (l.take k) (qu vars o i))::am p5 131 [E op,E fS,E aT,E aU,g]::X aA 23 lv [v1,v2]::ai W 3 ss (gZ U' N)::X aA 22 nv ss::am m 127 [K,c1,c2,L,fv,E (N:Int),P,nv,c]::X W 3 fv (ew vars vars.length)::X my 131 P us::bA (pY us U')::X W 3 c (eQ U')::Γ)) (fun k _=>l.length-k) 0 g (fun _ _=>rfl) ⟨rfl,az⟩ ⟨U,by simpa [cG] using j',Y⟩ ?_;clear Y;rintro _c k d w ⟨hk,D,Y⟩;refine aC ?_ ?_<;>intro g2
  ·have b:k<l.length:=U
   have F:=S _ (cS aD.dflt b);refine dj ?_;intro p w Y;refine aR rfl (MX (f:=l.getD k aD.dflt) (rk (p:=m) Y) (bB (s:=fv) Y) hp hd _a F) ?_;rintro _ w' ⟨rfl,aw⟩;refine aL ?_;clear aw Y;intro Y;refine O ?_;refine aR rfl (xR (bB (s:=d) Y)) ?_;rintro _ w' ⟨rfl,aw⟩;refine aL ?_;clear aw Y;intro Y;obtain⟨q,hq⟩:=À (decide (eC vars (l.getD k aD.dflt)∈cG vars (l.take k) (qu vars o i)));rw[<-hq];have Q:=K_ (cG vars (l.take k) (qu vars o i)) (eC vars (l.getD k aD.dflt));rw[<-NQ b]at Q;cases q
   ·have j:=of_decide_eq_false hq.symm
    repeat (first|refine dS ?_|(refine uP ?_;clear Y;intro w Y)|(refine gA ?_;clear Y;intro s w Y))
    refine⟨k+1,s,⟨rfl,az⟩,aX,⟨U,U,?_⟩,U⟩;rw[NQ b,ra,aM j];exact Y.tail.tail
   have j:=x5 hq.symm;refine O ?_;exact⟨k+1,d,⟨rfl,az⟩,aX,⟨U,U,by rw[NQ b,ra,ba j];exact Y.tail⟩,U⟩
  have b:k=l.length:=U;subst b;rw[io (cP _),y,<-J_ U]at Y D;refine O ?_;exact⟨i+1,d,⟨rfl,az⟩,aX,⟨U,U,Y⟩,U⟩
 have _d:i=2:=U;subst _d;refine O ?_;rw[R]at Y j';obtain⟨u,hu⟩:∃ u:Un,u=(Un.mk op fS aT aU (cG vars l2 (cG vars l1 []))):=⟨_,rfl⟩
 have D:u.aG=cG vars l2 (cG vars l1 []):=by rw[hu]
 rw[<-hu];rw[<-D]at Y j';have _f:(qu vars o 2).length=u.aG.length:=by rw[R,D]
 have R':u.aG.Nodup:=by rw[D];exact JJ (JJ Be _) _
 have S:∀ n∈u.aG,0<=n/\n<N:=fun n hn=>by
  rw[D]at hn;rw[hN];rcases zM.1 hn with hn|⟨f,d,rfl⟩
  ·rcases zM.1 hn with hn|⟨f,d,rfl⟩
   ·simp at hn
   exact xh hp (k1 f d)
  exact xh hp (k2 f d)
 rw[<-L_ U' u N]at Y;refine dP [15,15,54,74] (G:=Nat) (H:=List Value) (fun j _=>[(54,E j)]) (fun j ss w=>j<=u.aG.length/\ss.length=N/\Z w0 w (ai W 3 ss (lL U' u j N)::X aA 22 nv ss::X W 3 g u.aG::am p5 131 [E op,E fS,E aT,E aU,g]::X aA 23 lv [v1,v2]::am m 127 [K,c1,c2,L,fv,E (N:Int),P,nv,c]::X W 3 fv (ew vars vars.length)::X my 131 P us::bA (pY us U')::X W 3 c (eQ U')::Γ)) (fun j _=>u.aG.length-j) 0 ss (fun _ _=>rfl) ⟨rfl,az⟩ ⟨bC _,by rw[_b,MY],?_⟩ ?_
 ·exact(Y.bN 4 rfl).bN 4 rfl
 clear Y;rintro _c j ss w ⟨hj,T',Y⟩;refine aC ?_ ?_<;>intro g3
 ·have d:j<u.aG.length:=U
  have r:=S _ (cS W.dflt d);refine O ?_;have hi:(u.aG.getD j W.dflt).toNat<(lL U' u j N).length:=by rw[Vn];omega
  replace Y:=Y.ja hi;have y:=M_ U' u j N (u.aG.getD j W.dflt).toNat;refine gi (pl [0,1,2,3,4,5,6,7,8,9,10,11,12,13] (.cY 3::.cY 8::.cY 11::pl [14] (.cY 3::pl [15,16] []))) Y kr ?_;clear Y;intro w Y
  repeat (first|refine dS ?_|(refine rG ?_;clear Y;intro w Y)|(refine gA ?_;clear Y;intro s w Y))
  replace Y:=Z.re hi (by rw[T',Vn]) Y.tail;rw[B,N_ d R' S]at Y;exact⟨j+1,_,⟨rfl,az⟩,aX,⟨U,by rw[iU];exact T',Y⟩,U⟩
 have _e:j=u.aG.length:=U;subst _e;rw[O_]at Y;have _k:=Vo U';have V':=(bB (s:=g) Y).one;obtain⟨r,F⟩:∃ r:zN,r=⟨op,fS,aT,aU,g⟩:=⟨_,rfl⟩
 refine aC ?_ ?_<;>intro g4
 ·have Q:u.aG=[]:=qD U
  have H':eQ (U'++[u])=eQ U'++[(us.length:Int)]:=by rw[Vp,ba Q,B]
  repeat (first|refine dS ?_|(refine uP ?_;clear Y;intro w Y)|(refine gA ?_;clear Y;intro s w Y))
  rw[<-H']at Y;refine gi (pl [0,1,2,3,4,5,6] (.cY 4::pl [7,8,9,10] [])) Y kr ?_;clear Y;intro w Y;refine O ?_;refine jA my (x1:=r) rfl (by rw[F];rfl) rfl (fP rfl) (fg _) Y ?_;clear Y;intro sl w Y;have J':∀ v∈my.enc r,v.oneCell'=true:=by
   rw[F];intro v hv;simp only[my,gT,jd,pQ]at hv;rcases hv with rfl|rfl|rfl|rfl|rfl
   ·rfl
   ·rfl
   ·rfl
   ·rfl
   exact V'
  refine O ?_;refine sF (s:=P) (s2:=sl) inferInstance rfl rfl (bB Y) rfl rfl (fun x hx v hv=>by rw[fU.1 hx]at hv;exact J' v hv) (by simp only[length_cons,length_nil];omega) (by unfold cn;simp only[length_cons,length_nil];omega) Y ?_;clear Y;intro d w Y;refine jD ?_;intro w Y;obtain⟨y,rfl⟩:=À s;have C:Z w0 w (ai W 3 ss (gZ (U'++[u]) N)::X aA 22 nv ss::X W 3 g u.aG::am p5 131 [E op,E fS,E aT,E aU,g]::X aA 23 lv [v1,v2]::am m 127 [K,c1,c2,L,fv,E (N:Int),d,nv,y]::X W 3 fv (ew vars vars.length)::X my 131 d (us++[r])::bA (pY us U')::X W 3 y (eQ (U'++[u]))::Γ):=Y.tail.tail;exact uK rfl ⟨rfl,d,y,us++[r],ss,by simp[B],Z.cu (Z.rd (Δ:=[X W 3 g u.aG,bA (pY us U')]) (Γ:=ai W 3 ss (gZ (U'++[u]) N)::X aA 22 nv ss::am m 127 [K,c1,c2,L,fv,E (N:Int),d,nv,y]::X W 3 fv (ew vars vars.length)::X my 131 d (us++[r])::X W 3 y (eQ (U'++[u]))::Γ) (φ:=pY (us++[r]) (U'++[u])) (fun _ w h=>(h.dQ 1 rfl).gD B (by rw[F,hu];exact⟨rfl,rfl,rfl,rfl,by rw[<-D];exact h.rs 0 rfl⟩)) (show Z w0 w (X W 3 g u.aG::bA (pY us U')::ai W 3 ss (gZ (U'++[u]) N)::X aA 22 nv ss::am m 127 [K,c1,c2,L,fv,E (N:Int),d,nv,y]::X W 3 fv (ew vars vars.length)::X my 131 d (us++[r])::X W 3 y (eQ (U'++[u]))::Γ) from Z.cu C))⟩
 have Q:u.aG≠[]:=fun e=>g4 (by rw[e];rfl);have H':eQ (U'++[u])=eQ U':=by rw[Vp,aM Q,gj]
 refine O ?_;rw[<-H']at Y;refine gi (pl [0,1,2,3,4,5,6] (.cY 4::pl [7,8,9,10] [])) Y kr ?_;clear Y;intro w Y;refine O ?_;refine jA my (x1:=r) rfl (by rw[F];rfl) rfl (fP rfl) (fg _) Y ?_;clear Y;intro sl w Y;have J':∀ v∈my.enc r,v.oneCell'=true:=by
  rw[F];intro v hv;simp only[my,gT,jd,pQ]at hv;rcases hv with rfl|rfl|rfl|rfl|rfl
  ·rfl
  ·rfl
  ·rfl
  ·rfl
  exact V'
 refine O ?_;refine sF (s:=P) (s2:=sl) inferInstance rfl rfl (bB Y) rfl rfl (fun x hx v hv=>by rw[fU.1 hx]at hv;exact J' v hv) (by simp only[length_cons,length_nil];omega) (by unfold cn;simp only[length_cons,length_nil];omega) Y ?_;clear Y;intro d w Y;refine jD ?_;intro w Y;have C:Z w0 w (ai W 3 ss (gZ (U'++[u]) N)::X aA 22 nv ss::X W 3 g u.aG::am p5 131 [E op,E fS,E aT,E aU,g]::X aA 23 lv [v1,v2]::am m 127 [K,c1,c2,L,fv,E (N:Int),d,nv,c]::X W 3 fv (ew vars vars.length)::X my 131 d (us++[r])::bA (pY us U')::X W 3 c (eQ (U'++[u]))::Γ):=Y.tail;exact uK rfl ⟨rfl,d,c,us++[r],ss,by simp[B],Z.cu (Z.rd (Δ:=[X W 3 g u.aG,bA (pY us U')]) (Γ:=ai W 3 ss (gZ (U'++[u]) N)::X aA 22 nv ss::am m 127 [K,c1,c2,L,fv,E (N:Int),d,nv,c]::X W 3 fv (ew vars vars.length)::X my 131 d (us++[r])::X W 3 c (eQ (U'++[u]))::Γ) (φ:=pY (us++[r]) (U'++[u])) (fun _ w h=>(h.dQ 1 rfl).gD B (by rw[F,hu];exact⟨rfl,rfl,rfl,rfl,by rw[<-D];exact h.rs 0 rfl⟩)) (show Z w0 w (X W 3 g u.aG::bA (pY us U')::ai W 3 ss (gZ (U'++[u]) N)::X aA 22 nv ss::am m 127 [K,c1,c2,L,fv,E (N:Int),d,nv,c]::X W 3 fv (ew vars vars.length)::X my 131 d (us++[r])::X W 3 c (eQ (U'++[u]))::Γ) from Z.cu C))⟩
end Go.Proofs.YtmapkjoefdgjfaaGreatDoor
