/- Several texts. -/
import Derived.Test.YtmapkjoefdgjfaaGreatDoorMW23D
set_option linter.unusedSimpArgs false
set_option linter.unusedVariables false
set_option linter.defProp false
set_option maxRecDepth 8000
set_option maxHeartbeats 16000000
open List Nat
namespace Go.Proofs.YtmapkjoefdgjfaaGreatDoor
open Go.Sl Go
variable {w0:World}{t:aa}{i k:Nat}{m:Addr}{lv a gvv cv sv:Value}{G A:Prop}{s z:J}{us:List tO}{f:bo}
attribute [local irreducible] vc opsW opsD opV opW PureV ReadV Thn Blk
def Lv:(true == false)=false:=rfl
def Lw:(false == true)=false:=rfl
def xj (v:Value):gv false v=undef:=by unfold gv;rfl
def xk (v:Value):gv true v=v:=bu rfl
def tH (h:A)(b:Go.Sl.dR A->G:=by intro hgo;(try simp only[wF,Lv,Lw,Bj,CA,GE,Bool.and_false,tt,GM,J9,nq,qy,DN,DO,xj,xk]);exact hgo.out):G:=b ⟨h⟩
def HR (h:A)(b:Go.Sl.dR A->G:=by intro hgo;(try simp only[wF,Lv,Lw,Bj,CA,tt,GM,nq,qy,DN,DO,xj,xk]);exact hgo.out):G:=b ⟨h⟩
def Em (h:A)(b:Go.Sl.dR A->G:=by intro hgo;(try simp only[wF,Lv,Lw,Bj,CA,GE,Bool.and_false,tt,GM,nq,qy,DN,DO,xj,xk]);exact hgo.out):G:=b ⟨h⟩
def HQ (f:cZ) :
  Calls aj 316 #[kj f] w0 fun e w'=>e=.returned (.bool (decide (ed f)))/\M w0 w' []:=by
 have Y:=M.start w0;obtain⟨n,d⟩:=f;refine bB ao Tryz.func316 ?_;refine eB ?_;intro p w Y;replace Y:M w0 w [ak p 409 [E n,E d]]:=Y;by_cases r:1<=d/\d<=1048576 /\ -1099511627776<=n/\n<=1099511627776
 ·obtain⟨c1,c2,o,q⟩:=r
  refine fQ (pl [0,1,2,3,4,5,6,7,8,9,10,11,12,13,14,15,16,17,18,19,20,22,23,21] (.cJ 23::pl [24,25,26,27] [])) Y kr ?_;clear Y;intro w Y;refine W ?_;have c:=dY c1;have g:=dY c2;have j:=dY o;have l:=dY q
  try simp only[c,g,j,l];refine Em ?_
  refine W ?_;refine aU rfl (En (n:=n) U U) ?_;refine lU ?_;intro w' Y;refine aU rfl (Lx (a:=(n.natAbs:Int)) (b:=d) U U U U) ?_;refine j7 ?_;clear Y;intro w' Y;have u:Int.gcd (n.natAbs:Int) d=Int.gcd n d:=by simp[Int.gcd]
  rw[u];refine W ?_;refine bk (v:=.bool (decide (ed ⟨n,d⟩))) rfl ?_ ⟨rfl,Y.bb⟩;have e:decide (ed ⟨n,d⟩)=decide (((Int.gcd n d:Nat):Int)=1):=decide_eq_decide.2 ⟨fun h=>by have:=h.2.2.2.2;simp only at this;omega,fun h=>⟨c1,c2,o,q,by simp only;omega⟩⟩;rw[e];rfl
 have u:decide (ed ⟨n,d⟩)=false:=eA fun h=>r ⟨h.1,h.2.1,h.2.2.1,h.2.2.2.1⟩;rw[u];by_cases c1:1<=d
 ·have c:=dY c1
  by_cases c2:d<=1048576
  ·have g:=dY c2
   by_cases o : -1099511627776<=n
   ·have j:=dY o
    have l:decide (n<=1099511627776)=false:=eA fun q=>r ⟨c1,c2,o,q⟩;refine fQ (pl [0,1,2,3,4,5,6,7,8,9,10,11,12,13,14,15,16,17,18,19,20,22,23,21] (.cJ 23::pl [24,25,26,27] [])) Y kr ?_;clear Y;intro w Y;refine W ?_
    try simp only[c,g,j,l];refine Em ?_
    refine W ?_;exact bk (v:=.bool false) rfl rfl ⟨rfl,Y.bb⟩
   have j:=eA o;refine fQ (pl [0,1,2,3,4,5,6,7,8,9,10,11,12,13,14,15,16,17,18,19,20,22,23,21] (.cJ 23::pl [24,25,26,27] [])) Y kr ?_;clear Y;intro w Y;refine W ?_
   try simp only[c,g,j];refine Em ?_
   refine W ?_;exact bk (v:=.bool false) rfl rfl ⟨rfl,Y.bb⟩
  have g:=eA c2;refine fQ (pl [0,1,2,3,4,5,6,7,8,9,10,11,12,13,14,15,16,17,18,19,20,22,23,21] (.cJ 23::pl [24,25,26,27] [])) Y kr ?_;clear Y;intro w Y;refine W ?_
  try simp only[c,g];refine Em ?_
  refine W ?_;exact bk (v:=.bool false) rfl rfl ⟨rfl,Y.bb⟩
 have c:=eA c1;refine fQ (pl [0,1,2,3,4,5,6,7,8,9,10,11,12,13,14,15,16,17,18,19,20,22,23,21] (.cJ 23::pl [24,25,26,27] [])) Y kr ?_;clear Y;intro w Y;refine W ?_
 try simp only[c];refine Em ?_
 refine W ?_;exact bk (v:=.bool false) rfl rfl ⟨rfl,Y.bb⟩
def CU {x y X' Y':Int}(h1 : -X'<=x)(h2:x<=X')(b:0<=y)(c:y<=Y') : -(X'*Y')<=x*y/\x*y<=X'*Y':=by
 have e:=yt h2 b;have g:=Gl c (show 0<=X' by omega);have d:=yt (show -x<=X' by omega) b;rw[Int.neg_mul]at d;omega
def å (a b:cZ) :
  Calls aj 315 #[kj a,kj b] w0 fun e w'=>e=.returned (.tuple #[kj (kl a b).2,bO (kl a b).1])/\M w0 w' []:=by
 have Y:=M.start w0;obtain⟨R,c⟩:=À (kl a b);rw[<-c];refine bB ao Tryz.func315 ?_
 repeat (first|refine dB ?_|(refine iy ?_;clear Y;intro p w Y))
 refine aU rfl (HQ a) ?_;refine j7 ?_;clear Y;intro w' Y;by_cases d:ed a
 ·by_cases g:ed b
  ·rw[dY d]
   refine W ?_;refine aU rfl (HQ b) ?_;refine j7 ?_;clear Y;intro w' Y;rw[dY g];refine W ?_;obtain⟨r,a2,a3,a4,a5⟩:=d;obtain⟨u,j,l,n,v⟩:=g;have m1:=CU (x:=a.num) (y:=b.den) (X':=1099511627776) (Y':=1048576) a3 a4 U j;have m2:=CU (x:=b.num) (y:=a.den) (X':=1099511627776) (Y':=1048576) l n U a2;have m3:=CU (x:=a.den) (y:=b.den) (X':=1048576) (Y':=1048576) U a2 U j;have m4:0<a.den*b.den:=Int.mul_pos U U;refine W ?_;have o:¬(¬ed a\/¬ed b):=fun h=>h.elim (fun h=>h ⟨r,a2,a3,a4,a5⟩) fun h=>h ⟨u,j,l,n,v⟩;have q:¬a.den*b.den=0:=U
   first
   | (replace c:R=oI (a.num*b.den+b.num*a.den) (a.den*b.den):=(by rw[c];unfold kl oI;rw[aH o,aH q]);refine aU rfl (Ge (a:=a.num*b.den+b.num*a.den) (b:=a.den*b.den) U U U U) ?_)
   | (replace c:R=oI (a.num*b.den-b.num*a.den) (a.den*b.den):=(by rw[c];unfold ET oI;rw[aH o,aH q]);refine aU rfl (Ge (a:=a.num*b.den-b.num*a.den) (b:=a.den*b.den) U U U U) ?_)
   refine j7 ?_;clear Y;intro w' Y;rw[<-c];refine eQ ?_;intro w Y;exact lO (vs:=[E R.2.num,E R.2.den]) rfl rfl rfl rfl (Y.gB 0 rfl) ⟨rfl,Y.bb⟩
  rw[dY d];refine W ?_;refine aU rfl (HQ b) ?_;refine j7 ?_;clear Y;intro w' Y;rw[eA g];have e:R=(2,⟨0,0⟩):=by rw[c];exact aP (Or.inr g)
  refine W ?_;refine sd (vs:=[]) (ls:=[]) rfl rfl rfl ?_;refine eQ ?_;intro w Y;subst e;exact lO (vs:=[E 0,E 0]) rfl rfl rfl rfl (Y.gB 0 rfl) ⟨rfl,Y.bb⟩
 rw[eA d];have e:R=(2,⟨0,0⟩):=by rw[c];exact aP (Or.inl d)
 refine W ?_;refine sd (vs:=[]) (ls:=[]) rfl rfl rfl ?_;refine eQ ?_;intro w Y;subst e;exact lO (vs:=[E 0,E 0]) rfl rfl rfl rfl (Y.gB 0 rfl) ⟨rfl,Y.bb⟩
instance Ui:jd aj 63 2:=⟨kr⟩
def pB (vars s:J)(v:Nat):List Bool:=(replicate (vars.getD v O.dflt).toNat false).set (s.getD v O.dflt).toNat true
def ig (vars s:J)(k:Nat):List (List Bool):=(List.range vars.length).map fun v=>if v<k then pB vars s v else []
def Bt (vars s:J)(k:Nat):(ig vars s k).length=vars.length:=by simp[ig]
def Ly {vars:J}{v:Nat}(hv:v<vars.length):(ig vars s k).getD v []=if v<k then pB vars s v else []:=by
 rw[al (by rw[Bt];exact hv)];simp[ig]
def æ {vars:J}:(ig vars s k).set k (pB vars s k)=ig vars s (k+1):=by
 refine iA (by rw[gS,Bt,Bt]) fun i h1 b=>?_;rw[Bt]at b;rw[sb];split
 ·rename_i e;subst e;simp[ig]
 rename_i e;have:(i<k)=(i<k+1):=by apply propext;omega
 simp only[ig,mL,qW,this]
def ç (vars s:J):ig vars s 0=replicate vars.length []:=by
 refine iA (by rw[Bt,np]) fun i h1 b=>?_;simp[ig]
def Fg {w:bo}(bI:ab t.vars s):oQ t s w (ig t.vars s t.vars.length):=by
 have h:=bI.1;refine⟨⟨Bt _ _ _,fun v hv=>?_⟩,fun f d b=>?_,fun v hv=>?_⟩
 ·rw[Ly hv,aP hv];simp[pB]
 ·obtain⟨f1,f2,f3,f4⟩:=Bu d
  unfold tP at b;rw[Ly f2,aP f2]at b;have g:=bI.2 f.var.toNat U;have e:(s.getD f.var.toNat O.dflt).toNat=f.val.toNat:=by
   apply nl;intro c;rw[pB,List.getD,tn c,zJ]at b;split at b<;>cases b
  have c:f=⟨((f.var.toNat:Nat):Int),s.getD f.var.toNat O.dflt⟩:=by
   cases f;simp only at *
   congr 1<;>omega
  rw[c];exact .st f2
 have g:=bI.2 v U;show ((ig t.vars s t.vars.length).getD (v:Int).toNat []).getD (s.getD v O.dflt).toNat false=true;rw[gY,Ly hv,aP hv];unfold pB;rw[al (by rw[gS,np];omega),DL]
def sL.succ {w:bo}{F:List (List Bool)}{u:tQ}(h:sL t w F i)(hi:i<(l7 t).length)(hu:u=(l7 t).getD i sM)(h2:u.aK≠w->ln F u.aw=true->tP F u.aK=true):sL t w F (i+1):=fun v hv=>by
 rw[GP,kP hi]at hv;rcases gK.1 hv with hv|hv
 ·exact h v hv
 have e:v=u:=by rw[hu,al hi];simpa using hv
 rw[e];exact h2
def HS {x y:bo}:[x.var,x.val]=[y.var,y.val]↔x=y:=by
 constructor
 ·intro h
  have b:x.var=y.var/\x.val=y.val:=by simpa using h
  cases x;cases y;simp only at b;rw[b.1,b.2]
 rintro rfl;rfl
def Lz (hr:oR w0 m t a gvv cv lv us)(I:aC t)(hs:RS O w0 sv z)(bI:ab t.vars z) :
  Calls aj 289 #[.pointer (some m),sv,.agg #[E f.var,E f.val]] w0 fun e w'=>∃ fv ss F,e=.returned fv/\oQ t z f F/\sL t f F (l7 t).length/\M w0 w' [X ar 140 fv ss,ai ah 4 ss F]:=by
 obtain⟨hb,T',V',_a,R,_b,hF⟩:=hr;have _c:=I.vars;have _d:=bI.1;have P':=R.bT;have Y:=M.start w0;refine bB ao Tryz.func289 ?_
 repeat (first|refine dB ?_|(refine iy ?_;clear Y;intro p w Y)|(refine fR ?_;clear Y;intro s w Y))
 replace Y:=Y.gJ (T:=ah) (e:=4) t.vars.length;obtain⟨r,rfl⟩:=À p;obtain⟨fv,rfl⟩:=À s;rw[gY,<-ç t.vars z]at Y;replace Y:M w0 w [ai ah 4 (replicate t.vars.length (nS)) (ig t.vars z 0),X ar 140 fv (replicate t.vars.length (nS)),ak r 63 [E f.var,E f.val]]:=Y;refine dN [8,9,24,43] (G:=Nat) (H:=List Value) (fun k _=>[(24,E k)]) (fun k ss w=>k<=t.vars.length/\M w0 w [ai ah 4 ss (ig t.vars z k),X ar 140 fv ss,ak r 63 [E f.var,E f.val]]) (fun k _=>t.vars.length-k) 0 _ (fun _ _=>rfl) ⟨rfl,au⟩ ⟨br _,Y⟩ ?_;clear Y;rintro σ k ss w ⟨hk,Y⟩;have S:=Bt t.vars z k;have q:=Y.bP;refine aA ?_ ?_<;>intro h1
 ·have c:k<t.vars.length:=U
  have j:=I.nt k c;have o:=bI.2 k U;refine ot ?_;intro s w Y;obtain⟨b,rfl⟩:=À s;replace Y:M w0 w [X ah 4 b (replicate (t.vars.getD k O.dflt).toNat false),ai ah 4 ss (ig t.vars z k),X ar 140 fv (ss.set k b),ak r 63 [E f.var,E f.val]]:=Y.bb;replace Y:=Y.rG (i:=k) U;obtain⟨Δ,g,x⟩:=Y.xE (i:=k) (by rw[gS];omega);rw[show ((ig t.vars z k).set k (replicate (t.vars.getD k O.dflt).toNat false)).getD k []=replicate (t.vars.getD k O.dflt).toNat false by rw[al (by rw[gS];omega),DL]]at g;clear Y;have Y:=g;clear g;have l:(replicate (t.vars.getD k O.dflt).toNat false).length=(t.vars.getD k O.dflt).toNat:=np;have d:(ss.set k b).length=ss.length:=gS;refine eQ ?_;intro w Y;replace Y:M w0 w (X ah 4 (cF (ss.set k b) k) (pB t.vars z k)::ub Δ::[X ar 140 fv (ss.set k b),ak r 63 [E f.var,E f.val]]):=Y;replace Y:=x Y;rw[set_set,æ]at Y;exact⟨k+1,_,⟨rfl,au⟩,aV,⟨U,Y⟩,U⟩
 have C:k=t.vars.length:=U;rw[C]at Y;have d:=Fg (w:=f) bI;clear S q C hk h1;refine W ?_;refine dN [10,10,12,12,44,88] (G:=Bool) (H:=List (List Bool)) (fun c _=>[(10,.bool c)]) (fun c F w=>oQ t z f F/\(c=false->sL t f F (l7 t).length)/\M w0 w [ai ah 4 ss F,X ar 140 fv ss,ak r 63 [E f.var,E f.val]]) (fun c F=>2*qj F+(bif c then 1 else 0)) true _ (fun _ _=>rfl) ⟨rfl,au⟩ ⟨d,(fun h=>by cases h),Y⟩ ?_;clear Y d;rintro _e c F w ⟨d,hC,Y⟩;cases c
 ·refine W ?_
  exact bk (v:=fv) rfl rfl ⟨fv,ss,F,rfl,d,hC rfl,Y.bb⟩
 clear hC;refine W ?_;refine nE [10,10,12,12,50,88] (G:=Nat) (H:=Bool) (I':=List (List Bool)) (fun i c _=>[(50,E i),(10,.bool c)]) (fun i c b w=>i<=us.length/\oQ t z f b/\qj b<=qj F/\(c=true->qj b<qj F)/\(c=false->sL t f b i)/\M w0 w [ai ah 4 ss b,X ar 140 fv ss,ak r 63 [E f.var,E f.val]]) (fun i _ _=>us.length-i) 0 false F (fun _ _ _=>rfl) ⟨rfl,rfl,au⟩ ⟨br _,d,cz _,(fun h=>by cases h),fun _ u hu=>by simp at hu,Y⟩ ?_;clear Y d;rintro _f i c b w ⟨hi,d,y,l,o,Y⟩;refine aA ?_ ?_<;>intro h2
 ·have _g:i<us.length:=U
  have j:i<(l7 t).length:=U;obtain⟨u,hu⟩:=À ((l7 t).getD i sM);have D:=hF i j;rw[<-hu]at D;obtain⟨l1,l2,l3⟩:=D;have K:u∈l7 t:=by rw[hu];exact cD _ j
  obtain⟨o1,o2,o3⟩:=LC I K;obtain⟨x1,x2,x3,x4⟩:=Bu o2;have _h:=d.yc.len;have _i:=d.yc.row _ x2;have q:=Y.bP;have V:=l3.one;have L:jL.enc (az jL us i)=[E (u.op:Int),(az jL us i).aw,E u.aK.var,E u.aK.val]:=by
   show [Value.int .i64 (az jL us i).op,(az jL us i).aw,E (az jL us i).aK.var,E (az jL us i).aK.val]=_;rw[l1,l2]
  have R':(jL.enc (az jL us i)).all Value.oneCell'=true:=by
   rw[L];simp only[ew,eN,V];rfl
  refine c9 ?_;intro p w Y;obtain⟨j',rfl⟩:=À p;rw[L]at Y;refine r5 ?_;clear Y;intro w Y;refine W ?_;refine rW rfl (z8 (k:=2) (n:=2) (vs:=[E u.aK.var,E u.aK.val]) rfl (Y.gB 0 rfl) rfl rfl) ?_;refine W ?_;refine fi rfl (Ri (us:=[u.aK.var,u.aK.val]) (zs:=[f.var,f.val]) rfl rfl rfl rfl) ?_;by_cases P:u.aK=f
  ·rw[dY (HS.2 P)]
   refine W ?_;exact⟨i+1,c,b,⟨rfl,rfl,au⟩,aV,⟨U,d,y,l,fun h=>(o h).succ j hu (fun h=>absurd P h),Y.tail⟩,U⟩
  rw[eA fun h=>P (HS.1 h)];have H':RS ah w (cF ss u.aK.var.toNat) (b.getD u.aK.var.toNat []):=(Y.bJ 1 rfl).row U;refine W ?_;by_cases q2:tP b u.aK=true
  ·have B:(b.getD u.aK.var.toNat []).getD u.aK.val.toNat ah.dflt=true:=q2
   try simp only[B];refine HR ?_
   refine W ?_;exact⟨i+1,c,b,⟨rfl,rfl,au⟩,aV,⟨U,d,y,l,fun h=>(o h).succ j hu (fun _ _=>q2),Y.tail⟩,U⟩
  have N:tP b u.aK=false:=qX.2 q2;have B:(b.getD u.aK.var.toNat []).getD u.aK.val.toNat ah.dflt=false:=N
  try simp only[B];refine HR ?_
  refine W ?_;refine aU rfl (HT (ss:=ss) (F:=b) ⟨bm (s:=fv) Y,U,fun i hi=>(Y.bJ 1 rfl).row hi⟩ d.yc (l3.at Y) o3) ?_;rintro _ w' ⟨rfl,an⟩;replace Y:=Y.cr an;clear an H';refine⟨_,rfl,?_⟩;by_cases Q:ln b u.aw=true
  ·rw[Q]
   replace Y:M w0 w' [ai ah 4 ss b,ak j' 378 [E (u.op:Int),(az jL us i).aw,E u.aK.var,E u.aK.val],X ar 140 fv ss,ak r 63 [E f.var,E f.val]]:=Y.bb;obtain⟨Δ,g,x⟩:=Y.xE (i:=u.aK.var.toNat) U;clear Y;have Y:=g;clear g;refine eQ ?_;intro w Y;replace Y:=x Y;rw[show b.set u.aK.var.toNat ((b.getD u.aK.var.toNat []).set u.aK.val.toNat true)=ry b u.aK from rfl]at Y;have J':=d.iI I bI K P Q;have _j:=è d.yc o2 N;exact⟨i+1,true,ry b u.aK,⟨rfl,rfl,au⟩,aV,⟨U,J',U,fun _=>U,(fun h=>by cases h),Y.bb⟩,U⟩
  rw[qX.2 Q];refine W ?_;exact⟨i+1,c,b,⟨rfl,rfl,au⟩,aV,⟨U,d,y,l,fun h=>(o h).succ j hu (fun _ h=>absurd h Q),Y.tail⟩,U⟩
 refine W ?_;refine⟨c,b,⟨rfl,au⟩,aV,⟨d,fun g u hu hm=>o g u (by rw[gH U];rw[gH (cz _)]at hu;exact hu) hm,Y⟩,?_⟩;cases c
 ·simp only[cond_true,cond_false];omega
 have:=l rfl;simp only[cond_true];omega
def é (I:aC t):∀ f∈t.aG,bH t.vars f:=fun f c=>by
 obtain⟨i,b,rfl⟩:=fF c;have:=(I.aG i b).1
 rwa[al b]at this
def ê (I:aC t):∀ f∈jm t.vars,bH t.vars f:=fun f b=>by
 unfold jm mo at b;obtain⟨v,hv,b⟩:=tm.1 b;obtain⟨x,hx,rfl⟩:=iQ.1 b;have hv:=mem_range.1 hv;have hx:=mem_range.1 hx;exact⟨Cn v,by show (v:Int)<_;omega,Cn x,by show (x:Int)<t.vars.getD (v:Int).toNat O.dflt;rw[gY];omega⟩
def LD {t:aa}(I:aC t):∀ k,k<=t.Z.length->((List.range k).flatMap (sN t)).length<=64*k
 | 0,_=>sm
 | k+1,h=>by
  have h1:=LD I k U;have b:=(I.op k U).aJ;rw[lz,wy,length_append];have c:([k].flatMap (sN t)).length=(t.Z.getD k bf).aJ.length:=by simp[sN]
  omega
def Sz (I:aC t):(l7 t).length<=262144:=by
 have h1:=LD I t.Z.length (cz _);have b:=I.Z;show ((List.range t.Z.length).flatMap (sN t)).length<=_;omega
open Classical in
def ë (l:oR w0 m t a gvv cv lv us)(I:aC t)(K:RS O w0 sv z)(bI:ab t.vars z) :
  Calls aj 279 #[.pointer (some m),sv] w0 fun e w'=>(¬sB t z ⟨-1,-1⟩/\e=.returned (.tuple #[nS,bO 3])/\M w0 w' [])\/∃ y,sB t z ⟨-1,-1⟩/\e=.returned (.tuple #[y,.nilIface])/\M w0 w' [X aq 63 y (de t z)]:=by
 have d:=é I;have L:=ê I;have P':(jm t.vars).length<=4096:=by
  have:=HU (fun i n=>(I.nt i n).2) t.vars.length (cz _);have b:mY t.vars t.vars.length=jm t.vars:=rfl;rw[b]at this;have:=I.vars;omega
 have R':=bI.1;have Y:=M.start w0;refine bB ao Tryz.func279 ?_;have T':=l.box;have N:=l.vars;have o:=l.aG;refine W ?_;refine aU rfl (yi (N.at Y) (K.at Y)) ?_;rintro _ w' ⟨⟨r,rfl,P⟩,an⟩;refine aI ?_;clear an Y;intro Y;obtain rfl:r=true:=P.2 bI;refine W ?_;refine fQ (pl [0,1,4,5,6,7,2] (.cJ 7::pl [3] (.cJ 7::pl [8,9,10] []))) Y kr ?_;clear Y;intro w Y;refine W ?_;refine aU rfl ì ?_;rintro _ w' ⟨rfl,an⟩;refine aI ?_;clear an Y;intro Y;refine W ?_;refine aU rfl (Lz (f:=⟨-1,-1⟩) (l.at Y) I (K.at Y) bI) ?_;rintro _ w' ⟨fv,Q,F,rfl,hI,hC,an⟩;refine iL ?_;clear an Y;intro Y;have j:=hI.has hC d;refine W ?_;refine aU rfl (HT (ss:=Q) (F:=F) ⟨bm (s:=fv) Y,(Y.bJ 1 rfl).bP,fun i n=>(Y.bJ 1 rfl).row n⟩ hI.yc (o.at Y) d) ?_;rintro _ w' ⟨rfl,an⟩;refine aI ?_;clear an Y;intro Y;by_cases B:ln F t.aG=true
 case neg =>
  rw[qX.2 B];refine W ?_;exact cX (v:=nS) (v':=.iface 57 (E 3)) rfl rfl rfl (.inl ⟨fun h=>B (j.2 h),by rw[dq dc],iY Y⟩)
 have R:sB t z ⟨-1,-1⟩:=j.1 B;rw[B];refine W ?_;refine aU rfl (í (l.at Y) I) ?_;rintro _ w' ⟨y,rfl,an⟩;refine aL ?_;clear an Y;intro Y;replace Y:=(Y.only).nil (T:=aq) (e:=63);refine W ?_;refine dN [6,6,8,8,37,65] (G:=Nat) (H:=Value) (fun k g=>[(37,E k),(6,g)]) (fun k g w=>k<=(jm t.vars).length/\M w0 w [X aq 63 g (((jm t.vars).take k).filter (qU t z)),X aq 63 y (jm t.vars)]) (fun k _=>(jm t.vars).length-k) 0 (nS) (fun _ _=>rfl) ⟨rfl,rfl,au⟩ ⟨br _,Y⟩ ?_;clear Y;rintro σ k g w ⟨hk,Y⟩;have V':(((jm t.vars).take k).filter (qU t z)).length<=k:=oD (ux _ _) (by rw[jf];omega);refine aA ?_ ?_<;>intro h1
 ·have q:k<(jm t.vars).length:=U
  obtain⟨f,S⟩:=À ((jm t.vars).getD k aq.dflt);have V:f∈jm t.vars:=by rw[S];exact cD _ q
  obtain⟨x1,x2,x3,x4⟩:=Bu (L f V)
  have b:((jm t.vars).take (k+1)).filter (qU t z)=if qU t z f=true then ((jm t.vars).take k).filter (qU t z)++[f] else ((jm t.vars).take k).filter (qU t z):=by
   rw[eD aq.dflt q,<-S,A6];by_cases h:qU t z f=true
   ·rw[aP h,filter_cons_of_pos h];rfl
   rw[aH h,filter_cons_of_neg h];simp
  refine c9 ?_;intro p w Y;obtain⟨p8,rfl⟩:=À p;rw[<-S]at Y;by_cases C:z.getD f.var.toNat O.dflt=f.val
  ·have u:qU t z f=false:=by unfold qU;exact eA fun h=>h.1 C
   rw[aH (by rw[u];decide)]at b;have hd:decide (z.getD f.var.toNat O.dflt=f.val)=true:=dY C;refine fQ (pl [0,1,2,3,4,5,6,7,8,9,10,11,13,14,15,16,12] (.cJ 16::pl [17,18,19] [])) Y kr ?_;clear Y;intro w Y;refine W ?_
   try simp only[hd];refine HR ?_
   refine W ?_;rw[<-b]at Y;exact⟨k+1,g,⟨rfl,rfl,au⟩,aV,⟨U,Y.tail⟩,U⟩
  have hd:decide (z.getD f.var.toNat O.dflt=f.val)=false:=eA C;refine fQ (pl [0,1,2,3,4,5,6,7,8,9,10,11,13,14,15,16,12] (.cJ 16::pl [17,18,19] [])) Y kr ?_;clear Y;intro w Y;refine W ?_
  try simp only[hd];refine HR ?_
  refine W ?_;refine aU rfl (Lz (f:=f) (l.at Y) I (K.at Y) bI) ?_;rintro _ w' ⟨j',H',F2,rfl,x,J',an⟩;refine iL ?_;clear an Y;intro Y;have c:=x.has J' d;refine W ?_;refine aU rfl (HT (ss:=H') (F:=F2) ⟨bm (s:=j') Y,(Y.bJ 1 rfl).bP,fun i n=>(Y.bJ 1 rfl).row n⟩ x.yc (o.at Y) d) ?_;rintro _ w' ⟨rfl,an⟩;refine aI ?_;clear an Y;intro Y;by_cases D:ln F2 t.aG=true
  ·have u:qU t z f=false:=by unfold qU;exact eA fun h=>h.2 (c.1 D)
   rw[aH (by rw[u];decide)]at b;rw[D];refine W ?_;rw[<-b]at Y;exact⟨k+1,g,⟨rfl,rfl,au⟩,aV,⟨U,Y.tail.tail.tail⟩,U⟩
  have u:qU t z f=true:=by unfold qU;exact dY ⟨C,fun h=>D (c.2 h)⟩
  rw[aP u]at b;rw[qX.2 D];refine W ?_;refine jG aq (x1:=f) rfl rfl rfl (fX rfl) (fb _) Y ?_;clear Y;intro sl w Y;refine lw ?_;intro s w Y;rw[<-b]at Y;exact⟨k+1,_,⟨rfl,rfl,au⟩,aV,⟨U,Y.tail.tail.tail.tail⟩,U⟩
 rw[gH U]at Y;refine W ?_;exact cX (v:=g) (v':=.nilIface) rfl rfl rfl (.inr ⟨g,R,rfl,Y.bb (Δ:=[X aq 63 g ((jm t.vars).filter (qU t z))])⟩)
open Classical in
def î (P:oR w0 m t a gvv cv lv us)(I:aC t)(hs:RS O w0 sv z)(bI:ab t.vars z) :
  Calls aj 280 #[.pointer (some m),sv,.agg #[E f.var,E f.val]] w0 fun e w'=>∃ l,e=.returned l/\M w0 w' [X O 3 l (q9 t z f)]:=by
 have H':=bI.1;have Y:=M.start w0;refine bB ao Tryz.func280 ?_;obtain⟨hb,J',P',R',B,T',hF⟩:=id P;refine eB ?_;intro p w Y;obtain⟨Q,rfl⟩:=À p;refine aU rfl (Lz (f:=f) (P.at Y) I (hs.at Y) bI) ?_;rintro _ w' ⟨C,j,F,rfl,R,hC,an⟩;refine iL ?_;clear an Y;intro Y;replace Y:=Y.nil (T:=O) (e:=3);replace Y:M w0 w' [X O 3 (nS) [],X ar 140 C j,ai ah 4 j F,ak Q 63 [E f.var,E f.val]]:=Y;have D:=(Y.bJ 2 rfl).bP;have S:=Sz I;have V:=B.bT;refine W ?_;refine dN [8,8,10,10,20,39] (G:=Nat) (H:=Value) (fun k d=>[(20,E k),(8,d)]) (fun k d w=>k<=us.length/\M w0 w [X O 3 d ((((l7 t).take k).filter (r9 t z f)).map fun u=>(u.op:Int)),X ar 140 C j,ai ah 4 j F,ak Q 63 [E f.var,E f.val]]) (fun k _=>us.length-k) 0 (nS) (fun _ _=>rfl) ⟨rfl,rfl,au⟩ ⟨br _,Y⟩ ?_;clear Y;rintro σ k d w ⟨hk,Y⟩;have K:((((l7 t).take k).filter (r9 t z f)).map fun u=>(u.op:Int)).length<=k:=by
  rw[iW];exact oD (ux _ _) (by rw[jf];omega)
 refine aA ?_ ?_<;>intro h1
 ·have V':k<us.length:=U
  have g:k<(l7 t).length:=U;obtain⟨u,hu⟩:=À ((l7 t).getD k sM);have o:=hF k g;rw[<-hu]at o;obtain⟨l1,l2,l3⟩:=o;have L:u∈l7 t:=by rw[hu];exact cD _ g
  obtain⟨o1,o2,o3⟩:=LC I L;have N:=l3.one;have q:jL.enc (az jL us k)=[E (u.op:Int),(az jL us k).aw,E u.aK.var,E u.aK.val]:=by
   show [Value.int .i64 (az jL us k).op,(az jL us k).aw,E (az jL us k).aK.var,E (az jL us k).aK.val]=_;rw[l1,l2]
  have j':(jL.enc (az jL us k)).all Value.oneCell'=true:=by
   rw[q];simp only[ew,eN,N];rfl
  have b:(((l7 t).take (k+1)).filter (r9 t z f)).map (fun u=>(u.op:Int))=if r9 t z f u=true then ((((l7 t).take k).filter (r9 t z f)).map fun u=>(u.op:Int))++[(u.op:Int)] else (((l7 t).take k).filter (r9 t z f)).map fun u=>(u.op:Int):=by
   rw[eD sM g,<-hu,A6];by_cases h:r9 t z f u=true
   ·rw[aP h,filter_cons_of_pos h];simp
   rw[aH h,filter_cons_of_neg h];simp
  refine c9 ?_;intro p w Y;obtain⟨_a,rfl⟩:=À p;rw[q]at Y;refine rW rfl (z8 (k:=2) (n:=2) (vs:=[E u.aK.var,E u.aK.val]) rfl (Y.gB 0 rfl) rfl rfl) ?_;refine W ?_;refine fi rfl (ZK (us:=[u.aK.var,u.aK.val]) (zs:=[f.var,f.val]) rfl rfl rfl rfl) ?_;by_cases x:u.aK=f
  case neg =>
   have r:r9 t z f u=false:=by unfold r9;exact eA fun h=>x h.1
   rw[aH (by rw[r];decide)]at b;rw[eA fun h=>x (HS.1 h)];refine W ?_;rw[<-b]at Y;exact⟨k+1,d,⟨rfl,rfl,au⟩,aV,⟨U,Y.tail⟩,U⟩
  rw[dY (HS.2 x)];refine W ?_;refine aU rfl (HT (ss:=j) (F:=F) ⟨bm (s:=C) Y,D,fun i hi=>(Y.bJ 3 rfl).row hi⟩ R.yc (l3.at Y) o3) ?_;rintro _ w' ⟨rfl,an⟩;refine aI ?_;clear an Y;intro Y;have c:=R.has hC o3;by_cases y:ln F u.aw=true
  ·have r:r9 t z f u=true:=by unfold r9;exact dY ⟨x,c.1 y⟩
   rw[aP r]at b;rw[y]
   repeat (first|refine dB ?_|(refine fR ?_;clear Y;intro s w Y))
   rw[<-b]at Y;exact⟨k+1,_,⟨rfl,rfl,au⟩,aV,⟨U,Y.tail.tail⟩,U⟩
  have r:r9 t z f u=false:=by unfold r9;exact eA fun h=>y (c.2 h.2)
  rw[aH (by rw[r];decide)]at b;rw[qX.2 y];refine W ?_;rw[<-b]at Y;exact⟨k+1,d,⟨rfl,rfl,au⟩,aV,⟨U,Y.tail⟩,U⟩
 have b:(l7 t).length<=k:=U;rw[gH b]at Y K;refine W ?_;refine aU rfl (Gj (s:=d) Y U) ?_;clear Y;rintro _ w ⟨l,rfl,Y⟩;refine⟨_,rfl,?_⟩;refine W ?_;exact bk (v:=l) rfl rfl ⟨l,rfl,Y.only⟩
def LF {vv:Value}{l V:J}(C:RS O w0 lv l)(hv:RS O w0 vv V)(D:∀ f∈l,0<=f/\f<V.length) :
  Calls aj 271 #[lv,vv] w0 fun e w'=>e=.returned (E (iu V l))/\M w0 w' []:=by
 have F:=C.bT;have K:=hv.bT;have Y:=M.start w0;refine bB ao Tryz.func271 ?_;refine W ?_;refine dN [5,5,7,7,10,44] (G:=Nat) (H:=Int) (fun k o=>[(10,E k),(5,E o)]) (fun k o w=>k<=l.length/\o=iu V (l.take k)/\(o<0\/(0<=o/\o<V.length))/\M w0 w []) (fun k _=>l.length-k) 0 (-1) (fun _ _=>rfl) ⟨rfl,rfl,au⟩ ⟨br _,rfl,.inl dc,Y⟩ ?_;clear Y;rintro N k o w ⟨hk,y,n,Y⟩;refine aA ?_ ?_<;>intro h1
 ·have r:k<l.length:=U
  have B:=D _ (cD O.dflt r);have c:iu V (l.take (k+1))=qh V o (l.getD k O.dflt):=by rw[eD O.dflt r,Sh,<-y]
  refine W ?_;refine r5 ?_;clear Y;intro w Y;by_cases c1:o<0
  ·have b:decide (o<0)=true:=dY c1
   have g:o<0\/dg V o<dg V (l.getD k O.dflt)\/(dg V (l.getD k O.dflt)=dg V o/\(l.getD k O.dflt)<o):=.inl c1;refine W ?_
   try simp only[b];refine eG ?_
   refine W ?_;exact⟨k+1,(l.getD k O.dflt),⟨rfl,rfl,au⟩,aV,⟨U,by rw[c,qh,aP g],.inr B,Y⟩,U⟩
  have b:decide (o<0)=false:=eA c1;have L:0<=o/\o<V.length:=by
   rcases n with h|h
   ·exact absurd h c1
   exact h
  by_cases c2:dg V o<dg V (l.getD k O.dflt)
  ·have d:decide (V.getD o.toNat O.dflt<V.getD ((l.getD k O.dflt)).toNat O.dflt)=true:=dY c2
   have g:o<0\/dg V o<dg V (l.getD k O.dflt)\/(dg V (l.getD k O.dflt)=dg V o/\(l.getD k O.dflt)<o):=.inr (.inl c2);refine W ?_
   try simp only[b];refine eG ?_
   refine W ?_
   try simp only[d];refine eG ?_
   refine W ?_;exact⟨k+1,(l.getD k O.dflt),⟨rfl,rfl,au⟩,aV,⟨U,by rw[c,qh,aP g],.inr B,Y⟩,U⟩
  have d:decide (V.getD o.toNat O.dflt<V.getD ((l.getD k O.dflt)).toNat O.dflt)=false:=eA c2;by_cases u:dg V (l.getD k O.dflt)=dg V o
  ·have j:decide (V.getD ((l.getD k O.dflt)).toNat O.dflt=V.getD o.toNat O.dflt)=true:=dY u
   by_cases x:(l.getD k O.dflt)<o
   ·have q:decide ((l.getD k O.dflt)<o)=true:=dY x
    have g:o<0\/dg V o<dg V (l.getD k O.dflt)\/(dg V (l.getD k O.dflt)=dg V o/\(l.getD k O.dflt)<o):=.inr (.inr ⟨u,x⟩);refine W ?_
    try simp only[b];refine eG ?_
    refine W ?_
    try simp only[d];refine eG ?_
    refine W ?_
    try simp only[j];refine eG ?_
    refine W ?_
    try simp only[q];refine eG ?_
    refine W ?_;exact⟨k+1,(l.getD k O.dflt),⟨rfl,rfl,au⟩,aV,⟨U,by rw[c,qh,aP g],.inr B,Y⟩,U⟩
   have q:decide ((l.getD k O.dflt)<o)=false:=eA x;have g:¬(o<0\/dg V o<dg V (l.getD k O.dflt)\/(dg V (l.getD k O.dflt)=dg V o/\(l.getD k O.dflt)<o)):=fun h=>by
    rcases h with h|h|h
    ·exact c1 h
    ·exact c2 h
    exact x h.2
   refine W ?_
   try simp only[b];refine eG ?_
   refine W ?_
   try simp only[d];refine eG ?_
   refine W ?_
   try simp only[j];refine eG ?_
   refine W ?_
   try simp only[q];refine eG ?_
   refine W ?_;exact⟨k+1,o,⟨rfl,rfl,au⟩,aV,⟨U,by rw[c,qh,aH g],n,Y⟩,U⟩
  have j:decide (V.getD ((l.getD k O.dflt)).toNat O.dflt=V.getD o.toNat O.dflt)=false:=eA u;have g:¬(o<0\/dg V o<dg V (l.getD k O.dflt)\/(dg V (l.getD k O.dflt)=dg V o/\(l.getD k O.dflt)<o)):=fun h=>by
   rcases h with h|h|h
   ·exact c1 h
   ·exact c2 h
   exact u h.1
  refine W ?_
  try simp only[b];refine eG ?_
  refine W ?_
  try simp only[d];refine eG ?_
  refine W ?_
  try simp only[j];refine eG ?_
  refine W ?_;exact⟨k+1,o,⟨rfl,rfl,au⟩,aV,⟨U,by rw[c,qh,aH g],n,Y⟩,U⟩
 have b:k=l.length:=U;rw[b,gH (cz _)]at y;refine W ?_;exact bk (v:=E o) rfl rfl ⟨by rw[y],Y⟩
def LG {vv:Value}{l V:J}(c:RS O w0 lv l)(hv:RS O w0 vv V)(b:∀ f∈l,0<=f/\f<V.length) :
  Calls aj 269 #[lv,vv] w0 fun e w'=>e=.returned (E (jO V l))/\M w0 w' []:=by
 have Y:=M.start w0;refine bB ao Tryz.func269 ?_;refine W ?_;refine aU rfl (LF (c.at Y) (hv.at Y) b) ?_;rintro _ w' ⟨rfl,an⟩;refine aI ?_;clear an Y;intro Y;have I:=yT (V:=V) (l:=l) fun f d=>(b f d).1;refine aA ?_ ?_<;>intro h1
 ·have hm:iu V l∈l:=by
   rcases I with ⟨_,h⟩|⟨_,h⟩
   ·omega
   exact h.1
  have g:=b _ hm;have e:jO V l=dg V (iu V l):=aH U;refine W ?_;exact bk (v:=E (V.getD (iu V l).toNat O.dflt)) rfl rfl ⟨by rw[e],Y⟩
 have e:jO V l=0:=aP U;refine W ?_;exact bk (v:=E 0) rfl rfl ⟨by rw[e],Y⟩
def CJ {vars:J}(c:∀ x∈vars,1<=x)(d:∀ i,i<vars.length->vars.getD i O.dflt<=64)(e:vars.length<=64)(h:i<vars.length):(dE vars vars.length).getD i O.dflt=bC vars i/\0<=bC vars i/\bC vars i<=4096:=by
 have h1:=CK c (b:=i) U;have g:=Ef d (b:=i) U;exact⟨ï h,h1,U⟩
def KJ {vars:J}{d c1 c2 g fv h j l n:Value}(q:dO w0 m [d,c1,c2,g,fv,h,j,l,n])(r:RS O w0 fv (dE vars vars.length))(o:∀ x∈vars,1<=x)(c:∀ i,i<vars.length->vars.getD i O.dflt<=64)(b:vars.length<=64)(hx:bH vars f) :
  Calls aj 75 #[.pointer (some m),.agg #[E f.var,E f.val]] w0 fun e w'=>e=.returned (E (dG vars f))/\M w0 w' []:=by
 obtain⟨u,y,B,C⟩:=hx;have hv:f.var.toNat<vars.length:=U;obtain⟨g0,g1,g2⟩:=CJ o c b hv;have g3:=c _ hv;have D:=Ae vars vars.length;have Y:=M.start w0;refine bB ao Tryz.func75 ?_;refine eB ?_;intro p w Y;exact bk (v:=E ((dE vars vars.length).getD f.var.toNat O.dflt+f.val)) rfl rfl ⟨by rw[g0];rfl,Y.bb⟩
def nR (vars:J)(Ls:List (List bo))(i:Nat):J:=(Ls.take i).foldl (fun acc l=>cb vars l acc) []
def ð {vars:J}{Ls:List (List bo)}(h:i<Ls.length):nR vars Ls (i+1)=cb vars (Ls.getD i []) (nR vars Ls i):=by
 unfold nR;rw[eD [] h,tf];rfl
def LH {vars:J}{acc:J}{l:List bo}(h:k<l.length):cb vars (l.take (k+1)) acc=oT (cb vars (l.take k) acc) (dG vars (l.getD k aq.dflt)):=by
 rw[eD aq.dflt h,LJ]
def QX {α:Type}{T:Ty α}{xs:List α}{x:α}(h:i<xs.length):az T (xs++[x]) i=az T xs i:=by
 rw[nr,nr];simp[iB,js h]
def QZ {α:Type}{T:Ty α}{xs:List α}{x:α}(h:i=xs.length):az T (xs++[x]) i=x:=by
 rw[nr];subst h;simp[iB]
def nI.fe {us:List x9}{U':List Un}{v:x9}{u:Un}{w:World}(h:nI us U' w)(d:us.length=U'.length)(hv:LK w v u):nI (us++[v]) (U'++[u]) w:=fun i b=>by
 by_cases e:i<U'.length
 ·rw[QX U,QY e];exact h i e
 have c:i=U'.length:=by rw[length_append,tr]at b;omega
 rw[QZ U,c,Q0];exact hv
def Yz {w:World}{Γ:List HP}{K c1 c2 L fv P nv c v1 v2:Value}{us:List x9}{ss:List Value}{U':List Un}{vars:J}{N:Nat}{op fc aO aK:Int}{l1 l2:List bo}(hp:∀ x∈vars,1<=x)(hd:∀ i,i<vars.length->vars.getD i O.dflt<=64)(_a:vars.length<=64)(hN:(N:Int)=bC vars vars.length)(_g:N<=4096)(_h:U'.length<=1048576)(h1:RS aq w0 v1 l1)(h2:RS aq w0 v2 l2)(k1:∀ f∈l1,bH vars f)(k2:∀ f∈l2,bH vars f)(n1:l1.length<=64)(n2:l2.length<=64)(B:us.length=U'.length)(Y:M w0 w (ai O 3 ss (gg U' N)::X ar 22 nv ss::ak m 127 [K,c1,c2,L,fv,E (N:Int),P,nv,c]::X O 3 fv (dE vars vars.length)::X kY 131 P us::bj (nI us U')::X O 3 c (dS U')::Γ)) :
  Calls aj 74 #[.pointer (some m),.agg #[E op,E fc,E aO,E aK,nS],v1,v2] w fun e w'=>e=.returned (.tuple #[])/\∃ g b d j,d.length=(U'++[(Un.mk op fc aO aK (cb vars l2 (cb vars l1 [])))]).length /\
   M w0 w' (ai O 3 j (gg (U'++[(Un.mk op fc aO aK (cb vars l2 (cb vars l1 [])))]) N)::X ar 22 nv j::ak m 127 [K,c1,c2,L,fv,E (N:Int),g,nv,b]::X O 3 fv (dE vars vars.length)::X kY 131 g d::bj (nI d (U'++[(Un.mk op fc aO aK (cb vars l2 (cb vars l1 [])))]))::X O 3 b (dS (U'++[(Un.mk op fc aO aK (cb vars l2 (cb vars l1 [])))]))::Γ):=by
 have _b:=Y.bP;refine bB ao Tryz.func74 ?_;refine c9 ?_;intro p5 w Y;have e1:=h1.eJ;have e2:=h2.eJ;have s1:v1.cells.size=1:=by rw[<-FW,e1];rfl
 have s2:v2.cells.size=1:=by rw[<-FW,e2];rfl
 refine z7 (T:=ar) [v1,v2] [v1,v2] rfl (by simp only[kQ,e1,e2,A7];rfl) (by simp[s1,s2]) rfl rfl dc dc dc Y ?_;clear Y;intro lv w Y;obtain⟨o,V⟩:∃ o:List (List bo),o=[l1,l2]:=⟨_,rfl⟩
 have _i:o.length=2:=by rw[V];rfl
 have P':∀ i,i<2->RS aq w0 (cF [v1,v2] i) (o.getD i [])/\(∀ f∈o.getD i [],bH vars f)/\(o.getD i []).length<=64:=fun i hi=>by
  rw[V]
  match i,hi with
  | 0,_=>exact⟨by rw[l9];exact h1,k1,n1⟩
  | 1,_=>exact⟨by rw[l9];exact h2,k2,n2⟩
 have R:nR vars o 2=cb vars l2 (cb vars l1 []):=by rw[V];rfl
 have C:M w0 w (X O 3 (nS) (nR vars o 0)::ak p5 131 [E op,E fc,E aO,E aK,nS]::X ar 23 lv [v1,v2]::ai O 3 ss (gg U' N)::X ar 22 nv ss::ak m 127 [K,c1,c2,L,fv,E (N:Int),P,nv,c]::X O 3 fv (dE vars vars.length)::X kY 131 P us::bj (nI us U')::X O 3 c (dS U')::Γ):=M.nil (T:=O) (e:=3) Y.swap;clear Y;have Y:=C;clear C;refine W ?_;refine dN [9,9,11,12,20,45] (G:=Nat) (H:=Value) (fun i _=>[(20,E i)]) (fun i g w=>i<=2/\(nR vars o i).length<=64*i/\M w0 w (X O 3 g (nR vars o i)::ak p5 131 [E op,E fc,E aO,E aK,g]::X ar 23 lv [v1,v2]::ai O 3 ss (gg U' N)::X ar 22 nv ss::ak m 127 [K,c1,c2,L,fv,E (N:Int),P,nv,c]::X O 3 fv (dE vars vars.length)::X kY 131 P us::bj (nI us U')::X O 3 c (dS U')::Γ)) (fun i _=>2-i) 0 (nS) (fun _ _=>rfl) ⟨rfl,au⟩ ⟨U,cz 0,Y⟩ ?_;clear Y;rintro σ i g w ⟨hi,j',Y⟩;have _j:[v1,v2].length=2:=rfl;refine aA ?_ ?_<;>intro g1
 ·have r:i<2:=U
  obtain⟨r1,S,r3⟩:=P' i r;refine W ?_;obtain⟨l,y⟩:=À (o.getD i []);rw[<-y]at r1 S r3;have H':(o.getD i []).length=l.length:=by rw[y]
  refine dN [11,12,26,44] (G:=Nat) (H:=Value) (fun k _=>[(26,E k)]) (fun k g w=>k<=l.length/\(cb vars (l.take k) (nR vars o i)).length<=64*i+k/\M w0 w (X O 3 g (cb vars (l.take k) (nR vars o i))::ak p5 131 [E op,E fc,E aO,E aK,g]::X ar 23 lv [v1,v2]::ai O 3 ss (gg U' N)::X ar 22 nv ss::ak m 127 [K,c1,c2,L,fv,E (N:Int),P,nv,c]::X O 3 fv (dE vars vars.length)::X kY 131 P us::bj (nI us U')::X O 3 c (dS U')::Γ)) (fun k _=>l.length-k) 0 g (fun _ _=>rfl) ⟨rfl,au⟩ ⟨U,by simpa [cb] using j',Y⟩ ?_;clear Y;rintro _c k d w ⟨hk,D,Y⟩;refine aA ?_ ?_<;>intro g2
  ·have b:k<l.length:=U
   have F:=S _ (cD aq.dflt b);refine c9 ?_;intro p w Y;refine aU rfl (KJ (f:=l.getD k aq.dflt) (pj (p:=m) Y) (bm (s:=fv) Y) hp hd _a F) ?_;rintro _ w' ⟨rfl,an⟩;refine aI ?_;clear an Y;intro Y;refine W ?_;refine aU rfl (wC (bm (s:=d) Y)) ?_;rintro _ w' ⟨rfl,an⟩;refine aI ?_;clear an Y;intro Y;obtain⟨q,hq⟩:=À (decide (dG vars (l.getD k aq.dflt)∈cb vars (l.take k) (nR vars o i)));rw[<-hq];have Q:=ñ (cb vars (l.take k) (nR vars o i)) (dG vars (l.getD k aq.dflt));rw[<-LH b]at Q;cases q
   ·have j:=of_decide_eq_false hq.symm
    repeat (first|refine dB ?_|(refine tG ?_;clear Y;intro w Y)|(refine fR ?_;clear Y;intro s w Y))
    refine⟨k+1,s,⟨rfl,au⟩,aV,⟨U,U,?_⟩,U⟩;rw[LH b,oT,aH j];exact Y.tail.tail
   have j:=vX hq.symm;refine W ?_;exact⟨k+1,d,⟨rfl,au⟩,aV,⟨U,U,by rw[LH b,oT,aP j];exact Y.tail⟩,U⟩
  have b:k=l.length:=U;subst b;rw[gH (cz _),y,<-ð U]at Y D;refine W ?_;exact⟨i+1,d,⟨rfl,au⟩,aV,⟨U,U,Y⟩,U⟩
 have _d:i=2:=U;subst _d;refine W ?_;rw[R]at Y j';obtain⟨u,hu⟩:∃ u:Un,u=(Un.mk op fc aO aK (cb vars l2 (cb vars l1 []))):=⟨_,rfl⟩
 have D:u.aw=cb vars l2 (cb vars l1 []):=by rw[hu]
 rw[<-hu];rw[<-D]at Y j';have _f:(nR vars o 2).length=u.aw.length:=by rw[R,D]
 have R':u.aw.Nodup:=by rw[D];exact HV (HV zC _) _
 have S:∀ n∈u.aw,0<=n/\n<N:=fun n hn=>by
  rw[D]at hn;rw[hN];rcases x8.1 hn with hn|⟨f,d,rfl⟩
  ·rcases x8.1 hn with hn|⟨f,d,rfl⟩
   ·simp at hn
   exact vC hp (k1 f d)
  exact vC hp (k2 f d)
 rw[<-ò U' u N]at Y;refine dN [15,15,54,74] (G:=Nat) (H:=List Value) (fun j _=>[(54,E j)]) (fun j ss w=>j<=u.aw.length/\ss.length=N/\M w0 w (ai O 3 ss (km U' u j N)::X ar 22 nv ss::X O 3 g u.aw::ak p5 131 [E op,E fc,E aO,E aK,g]::X ar 23 lv [v1,v2]::ak m 127 [K,c1,c2,L,fv,E (N:Int),P,nv,c]::X O 3 fv (dE vars vars.length)::X kY 131 P us::bj (nI us U')::X O 3 c (dS U')::Γ)) (fun j _=>u.aw.length-j) 0 ss (fun _ _=>rfl) ⟨rfl,au⟩ ⟨br _,by rw[_b,KK],?_⟩ ?_
 ·exact(Y.bJ 4 rfl).bJ 4 rfl
 clear Y;rintro _c j ss w ⟨hj,T',Y⟩;refine aA ?_ ?_<;>intro g3
 ·have d:j<u.aw.length:=U
  have r:=S _ (cD O.dflt d);refine W ?_;have hi:(u.aw.getD j O.dflt).toNat<(km U' u j N).length:=by rw[SA];omega
  replace Y:=Y.gW hi;have y:=ó U' u j N (u.aw.getD j O.dflt).toNat;refine fQ (pl [0,1,2,3,4,5,6,7,8,9,10,11,12,13] (.cJ 3::.cJ 8::.cJ 11::pl [14] (.cJ 3::pl [15,16] []))) Y kr ?_;clear Y;intro w Y
  repeat (first|refine dB ?_|(refine qx ?_;clear Y;intro w Y)|(refine fR ?_;clear Y;intro s w Y))
  replace Y:=M.oZ hi (by rw[T',SA]) Y.tail;rw[B,ô d R' S]at Y;exact⟨j+1,_,⟨rfl,au⟩,aV,⟨U,by rw[gS];exact T',Y⟩,U⟩
 have _e:j=u.aw.length:=U;subst _e;rw[õ]at Y;have _k:=SB U';have V':=(bm (s:=g) Y).one;obtain⟨r,F⟩:∃ r:x9,r=⟨op,fc,aO,aK,g⟩:=⟨_,rfl⟩
 refine aA ?_ ?_<;>intro g4
 ·have Q:u.aw=[]:=nY U
  have H':dS (U'++[u])=dS U'++[(us.length:Int)]:=by rw[SC,aP Q,B]
  repeat (first|refine dB ?_|(refine tG ?_;clear Y;intro w Y)|(refine fR ?_;clear Y;intro s w Y))
  rw[<-H']at Y;refine fQ (pl [0,1,2,3,4,5,6] (.cJ 4::pl [7,8,9,10] [])) Y kr ?_;clear Y;intro w Y;refine W ?_;refine jG kY (x1:=r) rfl (by rw[F];rfl) rfl (fX rfl) (fb _) Y ?_;clear Y;intro sl w Y;have J':∀ v∈kY.enc r,v.oneCell'=true:=by
   rw[F];intro v hv;simp only[kY,dZ,fM,pL]at hv;rcases hv with rfl|rfl|rfl|rfl|rfl
   ·rfl
   ·rfl
   ·rfl
   ·rfl
   exact V'
  refine W ?_;refine rV (s:=P) (s2:=sl) inferInstance rfl rfl (bm Y) rfl rfl (fun x hx v hv=>by rw[dp.1 hx]at hv;exact J' v hv) (by simp only[length_cons,length_nil];omega) (by unfold bT;simp only[length_cons,length_nil];omega) Y ?_;clear Y;intro d w Y;refine iC ?_;intro w Y;obtain⟨y,rfl⟩:=À s;have C:M w0 w (ai O 3 ss (gg (U'++[u]) N)::X ar 22 nv ss::X O 3 g u.aw::ak p5 131 [E op,E fc,E aO,E aK,g]::X ar 23 lv [v1,v2]::ak m 127 [K,c1,c2,L,fv,E (N:Int),d,nv,y]::X O 3 fv (dE vars vars.length)::X kY 131 d (us++[r])::bj (nI us U')::X O 3 y (dS (U'++[u]))::Γ):=Y.tail.tail;exact ti rfl ⟨rfl,d,y,us++[r],ss,by simp[B],M.cq (M.rd (Δ:=[X O 3 g u.aw,bj (nI us U')]) (Γ:=ai O 3 ss (gg (U'++[u]) N)::X ar 22 nv ss::ak m 127 [K,c1,c2,L,fv,E (N:Int),d,nv,y]::X O 3 fv (dE vars vars.length)::X kY 131 d (us++[r])::X O 3 y (dS (U'++[u]))::Γ) (φ:=nI (us++[r]) (U'++[u])) (fun _ w h=>(h.cU 1 rfl).fe B (by rw[F,hu];exact⟨rfl,rfl,rfl,rfl,by rw[<-D];exact h.rs 0 rfl⟩)) (show M w0 w (X O 3 g u.aw::bj (nI us U')::ai O 3 ss (gg (U'++[u]) N)::X ar 22 nv ss::ak m 127 [K,c1,c2,L,fv,E (N:Int),d,nv,y]::X O 3 fv (dE vars vars.length)::X kY 131 d (us++[r])::X O 3 y (dS (U'++[u]))::Γ) from M.cq C))⟩
 have Q:u.aw≠[]:=fun e=>g4 (by rw[e];rfl);have H':dS (U'++[u])=dS U':=by rw[SC,aH Q,fI]
 refine W ?_;rw[<-H']at Y;refine fQ (pl [0,1,2,3,4,5,6] (.cJ 4::pl [7,8,9,10] [])) Y kr ?_;clear Y;intro w Y;refine W ?_;refine jG kY (x1:=r) rfl (by rw[F];rfl) rfl (fX rfl) (fb _) Y ?_;clear Y;intro sl w Y;have J':∀ v∈kY.enc r,v.oneCell'=true:=by
  rw[F];intro v hv;simp only[kY,dZ,fM,pL]at hv;rcases hv with rfl|rfl|rfl|rfl|rfl
  ·rfl
  ·rfl
  ·rfl
  ·rfl
  exact V'
 refine W ?_;refine rV (s:=P) (s2:=sl) inferInstance rfl rfl (bm Y) rfl rfl (fun x hx v hv=>by rw[dp.1 hx]at hv;exact J' v hv) (by simp only[length_cons,length_nil];omega) (by unfold bT;simp only[length_cons,length_nil];omega) Y ?_;clear Y;intro d w Y;refine iC ?_;intro w Y;have C:M w0 w (ai O 3 ss (gg (U'++[u]) N)::X ar 22 nv ss::X O 3 g u.aw::ak p5 131 [E op,E fc,E aO,E aK,g]::X ar 23 lv [v1,v2]::ak m 127 [K,c1,c2,L,fv,E (N:Int),d,nv,c]::X O 3 fv (dE vars vars.length)::X kY 131 d (us++[r])::bj (nI us U')::X O 3 c (dS (U'++[u]))::Γ):=Y.tail;exact ti rfl ⟨rfl,d,c,us++[r],ss,by simp[B],M.cq (M.rd (Δ:=[X O 3 g u.aw,bj (nI us U')]) (Γ:=ai O 3 ss (gg (U'++[u]) N)::X ar 22 nv ss::ak m 127 [K,c1,c2,L,fv,E (N:Int),d,nv,c]::X O 3 fv (dE vars vars.length)::X kY 131 d (us++[r])::X O 3 c (dS (U'++[u]))::Γ) (φ:=nI (us++[r]) (U'++[u])) (fun _ w h=>(h.cU 1 rfl).fe B (by rw[F,hu];exact⟨rfl,rfl,rfl,rfl,by rw[<-D];exact h.rs 0 rfl⟩)) (show M w0 w (X O 3 g u.aw::bj (nI us U')::ai O 3 ss (gg (U'++[u]) N)::X ar 22 nv ss::ak m 127 [K,c1,c2,L,fv,E (N:Int),d,nv,c]::X O 3 fv (dE vars vars.length)::X kY 131 d (us++[r])::X O 3 c (dS (U'++[u]))::Γ) from M.cq C))⟩
end Go.Proofs.YtmapkjoefdgjfaaGreatDoor
