/- Several texts. -/
import Derived.Test.YtmapkjoefdgjfaaGreatDoorMW23E
set_option linter.unusedSimpArgs false
set_option linter.unusedVariables false
set_option linter.defProp false
set_option maxRecDepth 8000
set_option maxHeartbeats 16000000
open List Nat
namespace Go.Proofs.YtmapkjoefdgjfaaGreatDoor
open Go.Sl Go
variable {w0:World}{t:aa}{i k:Nat}{m:Addr}{lv a gvv cv sv:Value}{G A:Prop}{s z:J}{us:List tQ}{f:bp}
attribute [local irreducible] vc opsW opsD opV opW PureV ReadV Thn Blk
def LQ:(true == false)=false:=rfl
def LR:(false == true)=false:=rfl
def xm (v:Value):gv false v=undef:=by unfold gv;rfl
def xn (v:Value):gv true v=v:=bw rfl
def tG (h:A)(b:Go.Sl.dV A->G:=by intro hgo;(try simp only[wH,LQ,LR,Br,CK,GQ,Bool.and_false,tw,GZ,Kx,nH,q6,DX,DY,xm,xn]);exact hgo.out):G:=b ⟨h⟩
def Ic (h:A)(b:Go.Sl.dV A->G:=by intro hgo;(try simp only[wH,LQ,LR,Br,CK,tw,GZ,nH,q6,DX,DY,xm,xn]);exact hgo.out):G:=b ⟨h⟩
def Ey (h:A)(b:Go.Sl.dV A->G:=by intro hgo;(try simp only[wH,LQ,LR,Br,CK,GQ,Bool.and_false,tw,GZ,nH,q6,DX,DY,xm,xn]);exact hgo.out):G:=b ⟨h⟩
def Ib (f:da) :
  Calls ai 316 #[kh f] w0 fun e w'=>e=.returned (.bool (decide (eh f)))/\Z w0 w' []:=by
 have Y:=Z.start w0;obtain⟨n,d⟩:=f;refine bA an Tryz.func316 ?_;refine eE ?_;intro p w Y;replace Y:Z w0 w [ak p 409 [E n,E d]]:=Y;by_cases r:1<=d/\d<=1048576 /\ -1099511627776<=n/\n<=1099511627776
 ·obtain⟨c1,c2,o,q⟩:=r
  refine fz (pl [0,1,2,3,4,5,6,7,8,9,10,11,12,13,14,15,16,17,18,19,20,22,23,21] (.cI 23::pl [24,25,26,27] [])) Y kr ?_;clear Y;intro w Y;refine O ?_;have c:=dy c1;have g:=dy c2;have j:=dy o;have l:=dy q
  try simp only[c,g,j,l];refine Ey ?_
  refine O ?_;refine aL rfl (Ez (n:=n) U U) ?_;refine jT ?_;intro w' Y;refine aL rfl (LS (a:=(n.natAbs:Int)) (b:=d) U U U U) ?_;refine gZ ?_;clear Y;intro w' Y;have u:Int.gcd (n.natAbs:Int) d=Int.gcd n d:=by simp[Int.gcd]
  rw[u];refine O ?_;refine bf (v:=.bool (decide (eh ⟨n,d⟩))) rfl ?_ ⟨rfl,Y.aY⟩;have e:decide (eh ⟨n,d⟩)=decide (((Int.gcd n d:Nat):Int)=1):=decide_eq_decide.2 ⟨fun h=>by have:=h.2.2.2.2;simp only at this;omega,fun h=>⟨c1,c2,o,q,by simp only;omega⟩⟩;rw[e];rfl
 have u:decide (eh ⟨n,d⟩)=false:=dU fun h=>r ⟨h.1,h.2.1,h.2.2.1,h.2.2.2.1⟩;rw[u];by_cases c1:1<=d
 ·have c:=dy c1
  by_cases c2:d<=1048576
  ·have g:=dy c2
   by_cases o : -1099511627776<=n
   ·have j:=dy o
    have l:decide (n<=1099511627776)=false:=dU fun q=>r ⟨c1,c2,o,q⟩;refine fz (pl [0,1,2,3,4,5,6,7,8,9,10,11,12,13,14,15,16,17,18,19,20,22,23,21] (.cI 23::pl [24,25,26,27] [])) Y kr ?_;clear Y;intro w Y;refine O ?_
    try simp only[c,g,j,l];refine Ey ?_
    refine O ?_;exact bf (v:=.bool false) rfl rfl ⟨rfl,Y.aY⟩
   have j:=dU o;refine fz (pl [0,1,2,3,4,5,6,7,8,9,10,11,12,13,14,15,16,17,18,19,20,22,23,21] (.cI 23::pl [24,25,26,27] [])) Y kr ?_;clear Y;intro w Y;refine O ?_
   try simp only[c,g,j];refine Ey ?_
   refine O ?_;exact bf (v:=.bool false) rfl rfl ⟨rfl,Y.aY⟩
  have g:=dU c2;refine fz (pl [0,1,2,3,4,5,6,7,8,9,10,11,12,13,14,15,16,17,18,19,20,22,23,21] (.cI 23::pl [24,25,26,27] [])) Y kr ?_;clear Y;intro w Y;refine O ?_
  try simp only[c,g];refine Ey ?_
  refine O ?_;exact bf (v:=.bool false) rfl rfl ⟨rfl,Y.aY⟩
 have c:=dU c1;refine fz (pl [0,1,2,3,4,5,6,7,8,9,10,11,12,13,14,15,16,17,18,19,20,22,23,21] (.cI 23::pl [24,25,26,27] [])) Y kr ?_;clear Y;intro w Y;refine O ?_
 try simp only[c];refine Ey ?_
 refine O ?_;exact bf (v:=.bool false) rfl rfl ⟨rfl,Y.aY⟩
def C4 {x y X' Y':Int}(h1 : -X'<=x)(h2:x<=X')(b:0<=y)(c:y<=Y') : -(X'*Y')<=x*y/\x*y<=X'*Y':=by
 have e:=xV h2 b;have g:=GB c (show 0<=X' by omega);have d:=xV (show -x<=X' by omega) b;rw[Int.neg_mul]at d;omega
def Ā (a b:da) :
  Calls ai 315 #[kh a,kh b] w0 fun e w'=>e=.returned (.tuple #[kh (ki a b).2,bI (ki a b).1])/\Z w0 w' []:=by
 have Y:=Z.start w0;obtain⟨R,c⟩:=À (ki a b);rw[<-c];refine bA an Tryz.func315 ?_
 repeat (first|refine du ?_|(refine gX ?_;clear Y;intro p w Y))
 refine aL rfl (Ib a) ?_;refine gZ ?_;clear Y;intro w' Y;by_cases d:eh a
 ·by_cases g:eh b
  ·rw[dy d]
   refine O ?_;refine aL rfl (Ib b) ?_;refine gZ ?_;clear Y;intro w' Y;rw[dy g];refine O ?_;obtain⟨r,a2,a3,a4,a5⟩:=d;obtain⟨u,j,l,n,v⟩:=g;have m1:=C4 (x:=a.num) (y:=b.den) (X':=1099511627776) (Y':=1048576) a3 a4 U j;have m2:=C4 (x:=b.num) (y:=a.den) (X':=1099511627776) (Y':=1048576) l n U a2;have m3:=C4 (x:=a.den) (y:=b.den) (X':=1048576) (Y':=1048576) U a2 U j;have m4:0<a.den*b.den:=Int.mul_pos U U;refine O ?_;have o:¬(¬eh a\/¬eh b):=fun h=>h.elim (fun h=>h ⟨r,a2,a3,a4,a5⟩) fun h=>h ⟨u,j,l,n,v⟩;have q:¬a.den*b.den=0:=U
   first
   | (replace c:R=oL (a.num*b.den+b.num*a.den) (a.den*b.den):=(by rw[c];unfold ki oL;rw[aC o,aC q]);refine aL rfl (Gq (a:=a.num*b.den+b.num*a.den) (b:=a.den*b.den) U U U U) ?_)
   | (replace c:R=oL (a.num*b.den-b.num*a.den) (a.den*b.den):=(by rw[c];unfold E6 oL;rw[aC o,aC q]);refine aL rfl (Gq (a:=a.num*b.den-b.num*a.den) (b:=a.den*b.den) U U U U) ?_)
   refine gZ ?_;clear Y;intro w' Y;rw[<-c];refine fm ?_;intro w Y;exact lM (vs:=[E R.2.num,E R.2.den]) rfl rfl rfl rfl (Y.gn 0 rfl) ⟨rfl,Y.aY⟩
  rw[dy d];refine O ?_;refine aL rfl (Ib b) ?_;refine gZ ?_;clear Y;intro w' Y;rw[dU g];have e:R=(2,⟨0,0⟩):=by rw[c];exact aM (Or.inr g)
  refine O ?_;refine rW (vs:=[]) (ls:=[]) rfl rfl rfl ?_;refine fm ?_;intro w Y;subst e;exact lM (vs:=[E 0,E 0]) rfl rfl rfl rfl (Y.gn 0 rfl) ⟨rfl,Y.aY⟩
 rw[dU d];have e:R=(2,⟨0,0⟩):=by rw[c];exact aM (Or.inl d)
 refine O ?_;refine rW (vs:=[]) (ls:=[]) rfl rfl rfl ?_;refine fm ?_;intro w Y;subst e;exact lM (vs:=[E 0,E 0]) rfl rfl rfl rfl (Y.gn 0 rfl) ⟨rfl,Y.aY⟩
instance Uw:jb ai 63 2:=⟨kr⟩
def pE (vars s:J)(v:Nat):List Bool:=(replicate (vars.getD v W.dflt).toNat false).set (s.getD v W.dflt).toNat true
def ig (vars s:J)(k:Nat):List (List Bool):=(List.range vars.length).map fun v=>if v<k then pE vars s v else []
def BC (vars s:J)(k:Nat):(ig vars s k).length=vars.length:=by simp[ig]
def LU {vars:J}{v:Nat}(hv:v<vars.length):(ig vars s k).getD v []=if v<k then pE vars s v else []:=by
 rw[am (by rw[BC];exact hv)];simp[ig]
def ā {vars:J}:(ig vars s k).set k (pE vars s k)=ig vars s (k+1):=by
 refine iB (by rw[gY,BC,BC]) fun i h1 b=>?_;rw[BC]at b;rw[si];split
 ·rename_i e;subst e;simp[ig]
 rename_i e;have:(i<k)=(i<k+1):=by apply propext;omega
 simp only[ig,mK,qZ,this]
def Ă (vars s:J):ig vars s 0=replicate vars.length []:=by
 refine iB (by rw[BC,nD]) fun i h1 b=>?_;simp[ig]
def Fu {w:bp}(bL:ab t.vars s):oU t s w (ig t.vars s t.vars.length):=by
 have h:=bL.1;refine⟨⟨BC _ _ _,fun v hv=>?_⟩,fun f d b=>?_,fun v hv=>?_⟩
 ·rw[LU hv,aM hv];simp[pE]
 ·obtain⟨f1,f2,f3,f4⟩:=BD d
  unfold tR at b;rw[LU f2,aM f2]at b;have g:=bL.2 f.var.toNat U;have e:(s.getD f.var.toNat W.dflt).toNat=f.val.toNat:=by
   apply nr;intro c;rw[pE,List.getD,tn c,zP]at b;split at b<;>cases b
  have c:f=⟨((f.var.toNat:Nat):Int),s.getD f.var.toNat W.dflt⟩:=by
   cases f;simp only at *
   congr 1<;>omega
  rw[c];exact .st f2
 have g:=bL.2 v U;show ((ig t.vars s t.vars.length).getD (v:Int).toNat []).getD (s.getD v W.dflt).toNat false=true;rw[jo,LU hv,aM hv];unfold pE;rw[am (by rw[gY,nD];omega),DV]
def sM.succ {w:bp}{F:List (List Bool)}{u:tS}(h:sM t w F i)(hi:i<(l6 t).length)(hu:u=(l6 t).getD i sN)(h2:u.aK≠w->lp F u.aw=true->tR F u.aK=true):sM t w F (i+1):=fun v hv=>by
 rw[G4,kN hi]at hv;rcases gG.1 hv with hv|hv
 ·exact h v hv
 have e:v=u:=by rw[hu,am hi];simpa using hv
 rw[e];exact h2
def Ie {x y:bp}:[x.var,x.val]=[y.var,y.val]↔x=y:=by
 constructor
 ·intro h
  have b:x.var=y.var/\x.val=y.val:=by simpa using h
  cases x;cases y;simp only at b;rw[b.1,b.2]
 rintro rfl;rfl
def LV (hr:oV w0 m t a gvv cv lv us)(I:aG t)(hs:RS W w0 sv z)(bL:ab t.vars z) :
  Calls ai 289 #[.pointer (some m),sv,.agg #[E f.var,E f.val]] w0 fun e w'=>∃ fv ss F,e=.returned fv/\oU t z f F/\sM t f F (l6 t).length/\Z w0 w' [X ap 140 fv ss,aj ah 4 ss F]:=by
 obtain⟨hb,T',V',_a,R,_b,hF⟩:=hr;have _c:=I.vars;have _d:=bL.1;have P':=R.bU;have Y:=Z.start w0;refine bA an Tryz.func289 ?_
 repeat (first|refine du ?_|(refine gX ?_;clear Y;intro p w Y)|(refine fA ?_;clear Y;intro s w Y))
 replace Y:=Y.gI (T:=ah) (e:=4) t.vars.length;obtain⟨r,rfl⟩:=À p;obtain⟨fv,rfl⟩:=À s;rw[jo,<-Ă t.vars z]at Y;replace Y:Z w0 w [aj ah 4 (replicate t.vars.length (nS)) (ig t.vars z 0),X ap 140 fv (replicate t.vars.length (nS)),ak r 63 [E f.var,E f.val]]:=Y;refine dQ [8,9,24,43] (G:=Nat) (H:=List Value) (fun k _=>[(24,E k)]) (fun k ss w=>k<=t.vars.length/\Z w0 w [aj ah 4 ss (ig t.vars z k),X ap 140 fv ss,ak r 63 [E f.var,E f.val]]) (fun k _=>t.vars.length-k) 0 _ (fun _ _=>rfl) ⟨rfl,az⟩ ⟨bu _,Y⟩ ?_;clear Y;rintro σ k ss w ⟨hk,Y⟩;have S:=BC t.vars z k;have q:=Y.cb;refine aB ?_ ?_<;>intro h1
 ·have c:k<t.vars.length:=U
  have j:=I.mN k c;have o:=bL.2 k U;refine nX ?_;intro s w Y;obtain⟨b,rfl⟩:=À s;replace Y:Z w0 w [X ah 4 b (replicate (t.vars.getD k W.dflt).toNat false),aj ah 4 ss (ig t.vars z k),X ap 140 fv (ss.set k b),ak r 63 [E f.var,E f.val]]:=Y.aY;replace Y:=Y.rL (i:=k) U;obtain⟨Δ,g,x⟩:=Y.xH (i:=k) (by rw[gY];omega);rw[show ((ig t.vars z k).set k (replicate (t.vars.getD k W.dflt).toNat false)).getD k []=replicate (t.vars.getD k W.dflt).toNat false by rw[am (by rw[gY];omega),DV]]at g;clear Y;have Y:=g;clear g;have l:(replicate (t.vars.getD k W.dflt).toNat false).length=(t.vars.getD k W.dflt).toNat:=nD;have d:(ss.set k b).length=ss.length:=gY;refine fm ?_;intro w Y;replace Y:Z w0 w (X ah 4 (cG (ss.set k b) k) (pE t.vars z k)::ud Δ::[X ap 140 fv (ss.set k b),ak r 63 [E f.var,E f.val]]):=Y;replace Y:=x Y;rw[set_set,ā]at Y;exact⟨k+1,_,⟨rfl,az⟩,aU,⟨U,Y⟩,U⟩
 have C:k=t.vars.length:=U;rw[C]at Y;have d:=Fu (w:=f) bL;clear S q C hk h1;refine O ?_;refine dQ [10,10,12,12,44,88] (G:=Bool) (H:=List (List Bool)) (fun c _=>[(10,.bool c)]) (fun c F w=>oU t z f F/\(c=false->sM t f F (l6 t).length)/\Z w0 w [aj ah 4 ss F,X ap 140 fv ss,ak r 63 [E f.var,E f.val]]) (fun c F=>2*qq F+(bif c then 1 else 0)) true _ (fun _ _=>rfl) ⟨rfl,az⟩ ⟨d,(fun h=>by cases h),Y⟩ ?_;clear Y d;rintro _e c F w ⟨d,hC,Y⟩;cases c
 ·refine O ?_
  exact bf (v:=fv) rfl rfl ⟨fv,ss,F,rfl,d,hC rfl,Y.aY⟩
 clear hC;refine O ?_;refine nZ [10,10,12,12,50,88] (G:=Nat) (H:=Bool) (I':=List (List Bool)) (fun i c _=>[(50,E i),(10,.bool c)]) (fun i c b w=>i<=us.length/\oU t z f b/\qq b<=qq F/\(c=true->qq b<qq F)/\(c=false->sM t f b i)/\Z w0 w [aj ah 4 ss b,X ap 140 fv ss,ak r 63 [E f.var,E f.val]]) (fun i _ _=>us.length-i) 0 false F (fun _ _ _=>rfl) ⟨rfl,rfl,az⟩ ⟨bu _,d,cD _,(fun h=>by cases h),fun _ u hu=>by simp at hu,Y⟩ ?_;clear Y d;rintro _f i c b w ⟨hi,d,y,l,o,Y⟩;refine aB ?_ ?_<;>intro h2
 ·have _g:i<us.length:=U
  have j:i<(l6 t).length:=U;obtain⟨u,hu⟩:=À ((l6 t).getD i sN);have D:=hF i j;rw[<-hu]at D;obtain⟨l1,l2,l3⟩:=D;have K:u∈l6 t:=by rw[hu];exact cH _ j
  obtain⟨o1,o2,o3⟩:=LW I K;obtain⟨x1,x2,x3,x4⟩:=BD o2;have _h:=d.yk.len;have _i:=d.yk.row _ x2;have q:=Y.cb;have V:=l3.one;have L:jJ.enc (au jJ us i)=[E (u.op:Int),(au jJ us i).aw,E u.aK.var,E u.aK.val]:=by
   show [Value.int .i64 (au jJ us i).op,(au jJ us i).aw,E (au jJ us i).aK.var,E (au jJ us i).aK.val]=_;rw[l1,l2]
  have R':(jJ.enc (au jJ us i)).all Value.oneCell'=true:=by
   rw[L];simp only[eD,eN,V];rfl
  refine db ?_;intro p w Y;obtain⟨j',rfl⟩:=À p;rw[L]at Y;refine r8 ?_;clear Y;intro w Y;refine O ?_;refine qX rfl (ym (k:=2) (n:=2) (vs:=[E u.aK.var,E u.aK.val]) rfl (Y.gn 0 rfl) rfl rfl) ?_;refine O ?_;refine eY rfl (J3 (us:=[u.aK.var,u.aK.val]) (zs:=[f.var,f.val]) rfl rfl rfl rfl) ?_;by_cases P:u.aK=f
  ·rw[dy (Ie.2 P)]
   refine O ?_;exact⟨i+1,c,b,⟨rfl,rfl,az⟩,aU,⟨U,d,y,l,fun h=>(o h).succ j hu (fun h=>absurd P h),Y.tail⟩,U⟩
  rw[dU fun h=>P (Ie.1 h)];have H':RS ah w (cG ss u.aK.var.toNat) (b.getD u.aK.var.toNat []):=(Y.bQ 1 rfl).row U;refine O ?_;by_cases q2:tR b u.aK=true
  ·have B:(b.getD u.aK.var.toNat []).getD u.aK.val.toNat ah.dflt=true:=q2
   try simp only[B];refine Ic ?_
   refine O ?_;exact⟨i+1,c,b,⟨rfl,rfl,az⟩,aU,⟨U,d,y,l,fun h=>(o h).succ j hu (fun _ _=>q2),Y.tail⟩,U⟩
  have N:tR b u.aK=false:=nG.2 q2;have B:(b.getD u.aK.var.toNat []).getD u.aK.val.toNat ah.dflt=false:=N
  try simp only[B];refine Ic ?_
  refine O ?_;refine aL rfl (If (ss:=ss) (F:=b) ⟨bk (s:=fv) Y,U,fun i hi=>(Y.bQ 1 rfl).row hi⟩ d.yk (l3.at Y) o3) ?_;rintro _ w' ⟨rfl,al⟩;replace Y:=Y.cy al;clear al H';refine⟨_,rfl,?_⟩;by_cases Q:lp b u.aw=true
  ·rw[Q]
   replace Y:Z w0 w' [aj ah 4 ss b,ak j' 378 [E (u.op:Int),(au jJ us i).aw,E u.aK.var,E u.aK.val],X ap 140 fv ss,ak r 63 [E f.var,E f.val]]:=Y.aY;obtain⟨Δ,g,x⟩:=Y.xH (i:=u.aK.var.toNat) U;clear Y;have Y:=g;clear g;refine fm ?_;intro w Y;replace Y:=x Y;rw[show b.set u.aK.var.toNat ((b.getD u.aK.var.toNat []).set u.aK.val.toNat true)=rC b u.aK from rfl]at Y;have J':=d.iJ I bL K P Q;have _j:=ă d.yk o2 N;exact⟨i+1,true,rC b u.aK,⟨rfl,rfl,az⟩,aU,⟨U,J',U,fun _=>U,(fun h=>by cases h),Y.aY⟩,U⟩
  rw[nG.2 Q];refine O ?_;exact⟨i+1,c,b,⟨rfl,rfl,az⟩,aU,⟨U,d,y,l,fun h=>(o h).succ j hu (fun _ h=>absurd h Q),Y.tail⟩,U⟩
 refine O ?_;refine⟨c,b,⟨rfl,az⟩,aU,⟨d,fun g u hu hm=>o g u (by rw[gH U];rw[gH (cD _)]at hu;exact hu) hm,Y⟩,?_⟩;cases c
 ·simp only[cond_true,cond_false];omega
 have:=l rfl;simp only[cond_true];omega
def Ą (I:aG t):∀ f∈t.aH,bN t.vars f:=fun f c=>by
 obtain⟨i,b,rfl⟩:=fJ c;have:=(I.aH i b).1
 rwa[am b]at this
def ą (I:aG t):∀ f∈jk t.vars,bN t.vars f:=fun f b=>by
 unfold jk mp at b;obtain⟨v,hv,b⟩:=tE.1 b;obtain⟨x,hx,rfl⟩:=iS.1 b;have hv:=mem_range.1 hv;have hx:=mem_range.1 hx;exact⟨Cy v,by show (v:Int)<_;omega,Cy x,by show (x:Int)<t.vars.getD (v:Int).toNat W.dflt;rw[jo];omega⟩
def LX {t:aa}(I:aG t):∀ k,k<=t.M.length->((List.range k).flatMap (sO t)).length<=64*k
 | 0,_=>sm
 | k+1,h=>by
  have h1:=LX I k U;have b:=(I.op k U).aJ;rw[l5,wA,length_append];have c:([k].flatMap (sO t)).length=(t.M.getD k bj).aJ.length:=by simp[sO]
  omega
def SN (I:aG t):(l6 t).length<=262144:=by
 have h1:=LX I t.M.length (cD _);have b:=I.M;show ((List.range t.M.length).flatMap (sO t)).length<=_;omega
open Classical in
def Ć (l:oV w0 m t a gvv cv lv us)(I:aG t)(K:RS W w0 sv z)(bL:ab t.vars z) :
  Calls ai 279 #[.pointer (some m),sv] w0 fun e w'=>(¬sD t z ⟨-1,-1⟩/\e=.returned (.tuple #[nS,bI 3])/\Z w0 w' [])\/∃ y,sD t z ⟨-1,-1⟩/\e=.returned (.tuple #[y,.nilIface])/\Z w0 w' [X aq 63 y (dh t z)]:=by
 have d:=Ą I;have L:=ą I;have P':(jk t.vars).length<=4096:=by
  have:=Ig (fun i n=>(I.mN i n).2) t.vars.length (cD _);have b:nb t.vars t.vars.length=jk t.vars:=rfl;rw[b]at this;have:=I.vars;omega
 have R':=bL.1;have Y:=Z.start w0;refine bA an Tryz.func279 ?_;have T':=l.box;have N:=l.vars;have o:=l.aH;refine O ?_;refine aL rfl (xR (N.at Y) (K.at Y)) ?_;rintro _ w' ⟨⟨r,rfl,P⟩,al⟩;refine aA ?_;clear al Y;intro Y;obtain rfl:r=true:=P.2 bL;refine O ?_;refine fz (pl [0,1,4,5,6,7,2] (.cI 7::pl [3] (.cI 7::pl [8,9,10] []))) Y kr ?_;clear Y;intro w Y;refine O ?_;refine aL rfl ć ?_;rintro _ w' ⟨rfl,al⟩;refine aA ?_;clear al Y;intro Y;refine O ?_;refine aL rfl (LV (f:=⟨-1,-1⟩) (l.at Y) I (K.at Y) bL) ?_;rintro _ w' ⟨fv,Q,F,rfl,hI,hC,al⟩;refine iM ?_;clear al Y;intro Y;have j:=hI.has hC d;refine O ?_;refine aL rfl (If (ss:=Q) (F:=F) ⟨bk (s:=fv) Y,(Y.bQ 1 rfl).cb,fun i n=>(Y.bQ 1 rfl).row n⟩ hI.yk (o.at Y) d) ?_;rintro _ w' ⟨rfl,al⟩;refine aA ?_;clear al Y;intro Y;by_cases B:lp F t.aH=true
 case neg =>
  rw[nG.2 B];refine O ?_;exact cR (v:=nS) (v':=.iface 57 (E 3)) rfl rfl rfl (.inl ⟨fun h=>B (j.2 h),by rw[cS dc],gm Y⟩)
 have R:sD t z ⟨-1,-1⟩:=j.1 B;rw[B];refine O ?_;refine aL rfl (Ĉ (l.at Y) I) ?_;rintro _ w' ⟨y,rfl,al⟩;refine aI ?_;clear al Y;intro Y;replace Y:=(Y.only).nil (T:=aq) (e:=63);refine O ?_;refine dQ [6,6,8,8,37,65] (G:=Nat) (H:=Value) (fun k g=>[(37,E k),(6,g)]) (fun k g w=>k<=(jk t.vars).length/\Z w0 w [X aq 63 g (((jk t.vars).take k).filter (qW t z)),X aq 63 y (jk t.vars)]) (fun k _=>(jk t.vars).length-k) 0 (nS) (fun _ _=>rfl) ⟨rfl,rfl,az⟩ ⟨bu _,Y⟩ ?_;clear Y;rintro σ k g w ⟨hk,Y⟩;have V':(((jk t.vars).take k).filter (qW t z)).length<=k:=pT (uC _ _) (by rw[jd];omega);refine aB ?_ ?_<;>intro h1
 ·have q:k<(jk t.vars).length:=U
  obtain⟨f,S⟩:=À ((jk t.vars).getD k aq.dflt);have V:f∈jk t.vars:=by rw[S];exact cH _ q
  obtain⟨x1,x2,x3,x4⟩:=BD (L f V)
  have b:((jk t.vars).take (k+1)).filter (qW t z)=if qW t z f=true then ((jk t.vars).take k).filter (qW t z)++[f] else ((jk t.vars).take k).filter (qW t z):=by
   rw[eC aq.dflt q,<-S,Bd];by_cases h:qW t z f=true
   ·rw[aM h,filter_cons_of_pos h];rfl
   rw[aC h,filter_cons_of_neg h];simp
  refine db ?_;intro p w Y;obtain⟨p8,rfl⟩:=À p;rw[<-S]at Y;by_cases C:z.getD f.var.toNat W.dflt=f.val
  ·have u:qW t z f=false:=by unfold qW;exact dU fun h=>h.1 C
   rw[aC (by rw[u];decide)]at b;have hd:decide (z.getD f.var.toNat W.dflt=f.val)=true:=dy C;refine fz (pl [0,1,2,3,4,5,6,7,8,9,10,11,13,14,15,16,12] (.cI 16::pl [17,18,19] [])) Y kr ?_;clear Y;intro w Y;refine O ?_
   try simp only[hd];refine Ic ?_
   refine O ?_;rw[<-b]at Y;exact⟨k+1,g,⟨rfl,rfl,az⟩,aU,⟨U,Y.tail⟩,U⟩
  have hd:decide (z.getD f.var.toNat W.dflt=f.val)=false:=dU C;refine fz (pl [0,1,2,3,4,5,6,7,8,9,10,11,13,14,15,16,12] (.cI 16::pl [17,18,19] [])) Y kr ?_;clear Y;intro w Y;refine O ?_
  try simp only[hd];refine Ic ?_
  refine O ?_;refine aL rfl (LV (f:=f) (l.at Y) I (K.at Y) bL) ?_;rintro _ w' ⟨j',H',F2,rfl,x,J',al⟩;refine iM ?_;clear al Y;intro Y;have c:=x.has J' d;refine O ?_;refine aL rfl (If (ss:=H') (F:=F2) ⟨bk (s:=j') Y,(Y.bQ 1 rfl).cb,fun i n=>(Y.bQ 1 rfl).row n⟩ x.yk (o.at Y) d) ?_;rintro _ w' ⟨rfl,al⟩;refine aA ?_;clear al Y;intro Y;by_cases D:lp F2 t.aH=true
  ·have u:qW t z f=false:=by unfold qW;exact dU fun h=>h.2 (c.1 D)
   rw[aC (by rw[u];decide)]at b;rw[D];refine O ?_;rw[<-b]at Y;exact⟨k+1,g,⟨rfl,rfl,az⟩,aU,⟨U,Y.tail.tail.tail⟩,U⟩
  have u:qW t z f=true:=by unfold qW;exact dy ⟨C,fun h=>D (c.2 h)⟩
  rw[aM u]at b;rw[nG.2 D];refine O ?_;refine jK aq (x1:=f) rfl rfl rfl (fY rfl) (fe _) Y ?_;clear Y;intro sl w Y;refine l7 ?_;intro s w Y;rw[<-b]at Y;exact⟨k+1,_,⟨rfl,rfl,az⟩,aU,⟨U,Y.tail.tail.tail.tail⟩,U⟩
 rw[gH U]at Y;refine O ?_;exact cR (v:=g) (v':=.nilIface) rfl rfl rfl (.inr ⟨g,R,rfl,Y.aY (Δ:=[X aq 63 g ((jk t.vars).filter (qW t z))])⟩)
open Classical in
def ĉ (P:oV w0 m t a gvv cv lv us)(I:aG t)(hs:RS W w0 sv z)(bL:ab t.vars z) :
  Calls ai 280 #[.pointer (some m),sv,.agg #[E f.var,E f.val]] w0 fun e w'=>∃ l,e=.returned l/\Z w0 w' [X W 3 l (rf t z f)]:=by
 have H':=bL.1;have Y:=Z.start w0;refine bA an Tryz.func280 ?_;obtain⟨hb,J',P',R',B,T',hF⟩:=id P;refine eE ?_;intro p w Y;obtain⟨Q,rfl⟩:=À p;refine aL rfl (LV (f:=f) (P.at Y) I (hs.at Y) bL) ?_;rintro _ w' ⟨C,j,F,rfl,R,hC,al⟩;refine iM ?_;clear al Y;intro Y;replace Y:=Y.nil (T:=W) (e:=3);replace Y:Z w0 w' [X W 3 (nS) [],X ap 140 C j,aj ah 4 j F,ak Q 63 [E f.var,E f.val]]:=Y;have D:=(Y.bQ 2 rfl).cb;have S:=SN I;have V:=B.bU;refine O ?_;refine dQ [8,8,10,10,20,39] (G:=Nat) (H:=Value) (fun k d=>[(20,E k),(8,d)]) (fun k d w=>k<=us.length/\Z w0 w [X W 3 d ((((l6 t).take k).filter (sb t z f)).map fun u=>(u.op:Int)),X ap 140 C j,aj ah 4 j F,ak Q 63 [E f.var,E f.val]]) (fun k _=>us.length-k) 0 (nS) (fun _ _=>rfl) ⟨rfl,rfl,az⟩ ⟨bu _,Y⟩ ?_;clear Y;rintro σ k d w ⟨hk,Y⟩;have K:((((l6 t).take k).filter (sb t z f)).map fun u=>(u.op:Int)).length<=k:=by
  rw[iz];exact pT (uC _ _) (by rw[jd];omega)
 refine aB ?_ ?_<;>intro h1
 ·have V':k<us.length:=U
  have g:k<(l6 t).length:=U;obtain⟨u,hu⟩:=À ((l6 t).getD k sN);have o:=hF k g;rw[<-hu]at o;obtain⟨l1,l2,l3⟩:=o;have L:u∈l6 t:=by rw[hu];exact cH _ g
  obtain⟨o1,o2,o3⟩:=LW I L;have N:=l3.one;have q:jJ.enc (au jJ us k)=[E (u.op:Int),(au jJ us k).aw,E u.aK.var,E u.aK.val]:=by
   show [Value.int .i64 (au jJ us k).op,(au jJ us k).aw,E (au jJ us k).aK.var,E (au jJ us k).aK.val]=_;rw[l1,l2]
  have j':(jJ.enc (au jJ us k)).all Value.oneCell'=true:=by
   rw[q];simp only[eD,eN,N];rfl
  have b:(((l6 t).take (k+1)).filter (sb t z f)).map (fun u=>(u.op:Int))=if sb t z f u=true then ((((l6 t).take k).filter (sb t z f)).map fun u=>(u.op:Int))++[(u.op:Int)] else (((l6 t).take k).filter (sb t z f)).map fun u=>(u.op:Int):=by
   rw[eC sN g,<-hu,Bd];by_cases h:sb t z f u=true
   ·rw[aM h,filter_cons_of_pos h];simp
   rw[aC h,filter_cons_of_neg h];simp
  refine db ?_;intro p w Y;obtain⟨_a,rfl⟩:=À p;rw[q]at Y;refine qX rfl (ym (k:=2) (n:=2) (vs:=[E u.aK.var,E u.aK.val]) rfl (Y.gn 0 rfl) rfl rfl) ?_;refine O ?_;refine eY rfl (Ã (us:=[u.aK.var,u.aK.val]) (zs:=[f.var,f.val]) rfl rfl rfl rfl) ?_;by_cases x:u.aK=f
  case neg =>
   have r:sb t z f u=false:=by unfold sb;exact dU fun h=>x h.1
   rw[aC (by rw[r];decide)]at b;rw[dU fun h=>x (Ie.1 h)];refine O ?_;rw[<-b]at Y;exact⟨k+1,d,⟨rfl,rfl,az⟩,aU,⟨U,Y.tail⟩,U⟩
  rw[dy (Ie.2 x)];refine O ?_;refine aL rfl (If (ss:=j) (F:=F) ⟨bk (s:=C) Y,D,fun i hi=>(Y.bQ 3 rfl).row hi⟩ R.yk (l3.at Y) o3) ?_;rintro _ w' ⟨rfl,al⟩;refine aA ?_;clear al Y;intro Y;have c:=R.has hC o3;by_cases y:lp F u.aw=true
  ·have r:sb t z f u=true:=by unfold sb;exact dy ⟨x,c.1 y⟩
   rw[aM r]at b;rw[y]
   repeat (first|refine du ?_|(refine fA ?_;clear Y;intro s w Y))
   rw[<-b]at Y;exact⟨k+1,_,⟨rfl,rfl,az⟩,aU,⟨U,Y.tail.tail⟩,U⟩
  have r:sb t z f u=false:=by unfold sb;exact dU fun h=>y (c.2 h.2)
  rw[aC (by rw[r];decide)]at b;rw[nG.2 y];refine O ?_;rw[<-b]at Y;exact⟨k+1,d,⟨rfl,rfl,az⟩,aU,⟨U,Y.tail⟩,U⟩
 have b:(l6 t).length<=k:=U;rw[gH b]at Y K;refine O ?_;refine aL rfl (Gz (s:=d) Y U) ?_;clear Y;rintro _ w ⟨l,rfl,Y⟩;refine⟨_,rfl,?_⟩;refine O ?_;exact bf (v:=l) rfl rfl ⟨l,rfl,Y.only⟩
def LY {vv:Value}{l V:J}(C:RS W w0 lv l)(hv:RS W w0 vv V)(D:∀ f∈l,0<=f/\f<V.length) :
  Calls ai 271 #[lv,vv] w0 fun e w'=>e=.returned (E (iv V l))/\Z w0 w' []:=by
 have F:=C.bU;have K:=hv.bU;have Y:=Z.start w0;refine bA an Tryz.func271 ?_;refine O ?_;refine dQ [5,5,7,7,10,44] (G:=Nat) (H:=Int) (fun k o=>[(10,E k),(5,E o)]) (fun k o w=>k<=l.length/\o=iv V (l.take k)/\(o<0\/(0<=o/\o<V.length))/\Z w0 w []) (fun k _=>l.length-k) 0 (-1) (fun _ _=>rfl) ⟨rfl,rfl,az⟩ ⟨bu _,rfl,.inl dc,Y⟩ ?_;clear Y;rintro N k o w ⟨hk,y,n,Y⟩;refine aB ?_ ?_<;>intro h1
 ·have r:k<l.length:=U
  have B:=D _ (cH W.dflt r);have c:iv V (l.take (k+1))=qm V o (l.getD k W.dflt):=by rw[eC W.dflt r,Sw,<-y]
  refine O ?_;refine r8 ?_;clear Y;intro w Y;by_cases c1:o<0
  ·have b:decide (o<0)=true:=dy c1
   have g:o<0\/dg V o<dg V (l.getD k W.dflt)\/(dg V (l.getD k W.dflt)=dg V o/\(l.getD k W.dflt)<o):=.inl c1;refine O ?_
   try simp only[b];refine dI ?_
   refine O ?_;exact⟨k+1,(l.getD k W.dflt),⟨rfl,rfl,az⟩,aU,⟨U,by rw[c,qm,aM g],.inr B,Y⟩,U⟩
  have b:decide (o<0)=false:=dU c1;have L:0<=o/\o<V.length:=by
   rcases n with h|h
   ·exact absurd h c1
   exact h
  by_cases c2:dg V o<dg V (l.getD k W.dflt)
  ·have d:decide (V.getD o.toNat W.dflt<V.getD ((l.getD k W.dflt)).toNat W.dflt)=true:=dy c2
   have g:o<0\/dg V o<dg V (l.getD k W.dflt)\/(dg V (l.getD k W.dflt)=dg V o/\(l.getD k W.dflt)<o):=.inr (.inl c2);refine O ?_
   try simp only[b];refine dI ?_
   refine O ?_
   try simp only[d];refine dI ?_
   refine O ?_;exact⟨k+1,(l.getD k W.dflt),⟨rfl,rfl,az⟩,aU,⟨U,by rw[c,qm,aM g],.inr B,Y⟩,U⟩
  have d:decide (V.getD o.toNat W.dflt<V.getD ((l.getD k W.dflt)).toNat W.dflt)=false:=dU c2;by_cases u:dg V (l.getD k W.dflt)=dg V o
  ·have j:decide (V.getD ((l.getD k W.dflt)).toNat W.dflt=V.getD o.toNat W.dflt)=true:=dy u
   by_cases x:(l.getD k W.dflt)<o
   ·have q:decide ((l.getD k W.dflt)<o)=true:=dy x
    have g:o<0\/dg V o<dg V (l.getD k W.dflt)\/(dg V (l.getD k W.dflt)=dg V o/\(l.getD k W.dflt)<o):=.inr (.inr ⟨u,x⟩);refine O ?_
    try simp only[b];refine dI ?_
    refine O ?_
    try simp only[d];refine dI ?_
    refine O ?_
    try simp only[j];refine dI ?_
    refine O ?_
    try simp only[q];refine dI ?_
    refine O ?_;exact⟨k+1,(l.getD k W.dflt),⟨rfl,rfl,az⟩,aU,⟨U,by rw[c,qm,aM g],.inr B,Y⟩,U⟩
   have q:decide ((l.getD k W.dflt)<o)=false:=dU x;have g:¬(o<0\/dg V o<dg V (l.getD k W.dflt)\/(dg V (l.getD k W.dflt)=dg V o/\(l.getD k W.dflt)<o)):=fun h=>by
    rcases h with h|h|h
    ·exact c1 h
    ·exact c2 h
    exact x h.2
   refine O ?_
   try simp only[b];refine dI ?_
   refine O ?_
   try simp only[d];refine dI ?_
   refine O ?_
   try simp only[j];refine dI ?_
   refine O ?_
   try simp only[q];refine dI ?_
   refine O ?_;exact⟨k+1,o,⟨rfl,rfl,az⟩,aU,⟨U,by rw[c,qm,aC g],n,Y⟩,U⟩
  have j:decide (V.getD ((l.getD k W.dflt)).toNat W.dflt=V.getD o.toNat W.dflt)=false:=dU u;have g:¬(o<0\/dg V o<dg V (l.getD k W.dflt)\/(dg V (l.getD k W.dflt)=dg V o/\(l.getD k W.dflt)<o)):=fun h=>by
   rcases h with h|h|h
   ·exact c1 h
   ·exact c2 h
   exact u h.1
  refine O ?_
  try simp only[b];refine dI ?_
  refine O ?_
  try simp only[d];refine dI ?_
  refine O ?_
  try simp only[j];refine dI ?_
  refine O ?_;exact⟨k+1,o,⟨rfl,rfl,az⟩,aU,⟨U,by rw[c,qm,aC g],n,Y⟩,U⟩
 have b:k=l.length:=U;rw[b,gH (cD _)]at y;refine O ?_;exact bf (v:=E o) rfl rfl ⟨by rw[y],Y⟩
def LZ {vv:Value}{l V:J}(c:RS W w0 lv l)(hv:RS W w0 vv V)(b:∀ f∈l,0<=f/\f<V.length) :
  Calls ai 269 #[lv,vv] w0 fun e w'=>e=.returned (E (jN V l))/\Z w0 w' []:=by
 have Y:=Z.start w0;refine bA an Tryz.func269 ?_;refine O ?_;refine aL rfl (LY (c.at Y) (hv.at Y) b) ?_;rintro _ w' ⟨rfl,al⟩;refine aA ?_;clear al Y;intro Y;have I:=yY (V:=V) (l:=l) fun f d=>(b f d).1;refine aB ?_ ?_<;>intro h1
 ·have hm:iv V l∈l:=by
   rcases I with ⟨_,h⟩|⟨_,h⟩
   ·omega
   exact h.1
  have g:=b _ hm;have e:jN V l=dg V (iv V l):=aC U;refine O ?_;exact bf (v:=E (V.getD (iv V l).toNat W.dflt)) rfl rfl ⟨by rw[e],Y⟩
 have e:jN V l=0:=aM U;refine O ?_;exact bf (v:=E 0) rfl rfl ⟨by rw[e],Y⟩
def CU {vars:J}(c:∀ x∈vars,1<=x)(d:∀ i,i<vars.length->vars.getD i W.dflt<=64)(e:vars.length<=64)(h:i<vars.length):(dD vars vars.length).getD i W.dflt=bD vars i/\0<=bD vars i/\bD vars i<=4096:=by
 have h1:=CV c (b:=i) U;have g:=Ep d (b:=i) U;exact⟨Ċ h,h1,U⟩
def K7 {vars:J}{d c1 c2 g fv h j l n:Value}(q:dL w0 m [d,c1,c2,g,fv,h,j,l,n])(r:RS W w0 fv (dD vars vars.length))(o:∀ x∈vars,1<=x)(c:∀ i,i<vars.length->vars.getD i W.dflt<=64)(b:vars.length<=64)(hx:bN vars f) :
  Calls ai 75 #[.pointer (some m),.agg #[E f.var,E f.val]] w0 fun e w'=>e=.returned (E (dE vars f))/\Z w0 w' []:=by
 obtain⟨u,y,B,C⟩:=hx;have hv:f.var.toNat<vars.length:=U;obtain⟨g0,g1,g2⟩:=CU o c b hv;have g3:=c _ hv;have D:=Am vars vars.length;have Y:=Z.start w0;refine bA an Tryz.func75 ?_;refine eE ?_;intro p w Y;exact bf (v:=E ((dD vars vars.length).getD f.var.toNat W.dflt+f.val)) rfl rfl ⟨by rw[g0];rfl,Y.aY⟩
def nR (vars:J)(Ls:List (List bp))(i:Nat):J:=(Ls.take i).foldl (fun acc l=>cn vars l acc) []
def ċ {vars:J}{Ls:List (List bp)}(h:i<Ls.length):nR vars Ls (i+1)=cn vars (Ls.getD i []) (nR vars Ls i):=by
 unfold nR;rw[eC [] h,ti];rfl
def L0 {vars:J}{acc:J}{l:List bp}(h:k<l.length):cn vars (l.take (k+1)) acc=oW (cn vars (l.take k) acc) (dE vars (l.getD k aq.dflt)):=by
 rw[eC aq.dflt h,L1]
def Ri {α:Type}{T:Ty α}{xs:List α}{x:α}(h:i<xs.length):au T (xs++[x]) i=au T xs i:=by
 rw[nt,nt];simp[iD,iX h]
def Rl {α:Type}{T:Ty α}{xs:List α}{x:α}(h:i=xs.length):au T (xs++[x]) i=x:=by
 rw[nt];subst h;simp[iD]
def nI.eQ {us:List yh}{U':List Un}{v:yh}{u:Un}{w:World}(h:nI us U' w)(d:us.length=U'.length)(hv:L3 w v u):nI (us++[v]) (U'++[u]) w:=fun i b=>by
 by_cases e:i<U'.length
 ·rw[Ri U,Rj e];exact h i e
 have c:i=U'.length:=by rw[length_append,r6]at b;omega
 rw[Rl U,c,Rm];exact hv
def Y7 {w:World}{Γ:List HP}{K c1 c2 L fv P nv c v1 v2:Value}{us:List yh}{ss:List Value}{U':List Un}{vars:J}{N:Nat}{op ff aN aK:Int}{l1 l2:List bp}(hp:∀ x∈vars,1<=x)(hd:∀ i,i<vars.length->vars.getD i W.dflt<=64)(_a:vars.length<=64)(hN:(N:Int)=bD vars vars.length)(_g:N<=4096)(_h:U'.length<=1048576)(h1:RS aq w0 v1 l1)(h2:RS aq w0 v2 l2)(k1:∀ f∈l1,bN vars f)(k2:∀ f∈l2,bN vars f)(n1:l1.length<=64)(n2:l2.length<=64)(B:us.length=U'.length)(Y:Z w0 w (aj W 3 ss (gb U' N)::X ap 22 nv ss::ak m 127 [K,c1,c2,L,fv,E (N:Int),P,nv,c]::X W 3 fv (dD vars vars.length)::X kZ 131 P us::aZ (nI us U')::X W 3 c (dW U')::Γ)) :
  Calls ai 74 #[.pointer (some m),.agg #[E op,E ff,E aN,E aK,nS],v1,v2] w fun e w'=>e=.returned (.tuple #[])/\∃ g b d j,d.length=(U'++[(Un.mk op ff aN aK (cn vars l2 (cn vars l1 [])))]).length /\
   Z w0 w' (aj W 3 j (gb (U'++[(Un.mk op ff aN aK (cn vars l2 (cn vars l1 [])))]) N)::X ap 22 nv j::ak m 127 [K,c1,c2,L,fv,E (N:Int),g,nv,b]::X W 3 fv (dD vars vars.length)::X kZ 131 g d::aZ (nI d (U'++[(Un.mk op ff aN aK (cn vars l2 (cn vars l1 [])))]))::X W 3 b (dW (U'++[(Un.mk op ff aN aK (cn vars l2 (cn vars l1 [])))]))::Γ):=by
 have _b:=Y.cb;refine bA an Tryz.func74 ?_;refine db ?_;intro p5 w Y;have e1:=h1.et;have e2:=h2.et;have s1:v1.cells.size=1:=by rw[<-F9,e1];rfl
 have s2:v2.cells.size=1:=by rw[<-F9,e2];rfl
 refine ya (T:=ap) [v1,v2] [v1,v2] rfl (by simp only[kO,e1,e2,Be];rfl) (by simp[s1,s2]) rfl rfl dc dc dc Y ?_;clear Y;intro lv w Y;obtain⟨o,V⟩:∃ o:List (List bp),o=[l1,l2]:=⟨_,rfl⟩
 have _i:o.length=2:=by rw[V];rfl
 have P':∀ i,i<2->RS aq w0 (cG [v1,v2] i) (o.getD i [])/\(∀ f∈o.getD i [],bN vars f)/\(o.getD i []).length<=64:=fun i hi=>by
  rw[V]
  match i,hi with
  | 0,_=>exact⟨by rw[l9];exact h1,k1,n1⟩
  | 1,_=>exact⟨by rw[l9];exact h2,k2,n2⟩
 have R:nR vars o 2=cn vars l2 (cn vars l1 []):=by rw[V];rfl
 have C:Z w0 w (X W 3 (nS) (nR vars o 0)::ak p5 131 [E op,E ff,E aN,E aK,nS]::X ap 23 lv [v1,v2]::aj W 3 ss (gb U' N)::X ap 22 nv ss::ak m 127 [K,c1,c2,L,fv,E (N:Int),P,nv,c]::X W 3 fv (dD vars vars.length)::X kZ 131 P us::aZ (nI us U')::X W 3 c (dW U')::Γ):=Z.nil (T:=W) (e:=3) Y.swap;clear Y;have Y:=C;clear C;refine O ?_;refine dQ [9,9,11,12,20,45] (G:=Nat) (H:=Value) (fun i _=>[(20,E i)]) (fun i g w=>i<=2/\(nR vars o i).length<=64*i/\Z w0 w (X W 3 g (nR vars o i)::ak p5 131 [E op,E ff,E aN,E aK,g]::X ap 23 lv [v1,v2]::aj W 3 ss (gb U' N)::X ap 22 nv ss::ak m 127 [K,c1,c2,L,fv,E (N:Int),P,nv,c]::X W 3 fv (dD vars vars.length)::X kZ 131 P us::aZ (nI us U')::X W 3 c (dW U')::Γ)) (fun i _=>2-i) 0 (nS) (fun _ _=>rfl) ⟨rfl,az⟩ ⟨U,cD 0,Y⟩ ?_;clear Y;rintro σ i g w ⟨hi,j',Y⟩;have _j:[v1,v2].length=2:=rfl;refine aB ?_ ?_<;>intro g1
 ·have r:i<2:=U
  obtain⟨r1,S,r3⟩:=P' i r;refine O ?_;obtain⟨l,y⟩:=À (o.getD i []);rw[<-y]at r1 S r3;have H':(o.getD i []).length=l.length:=by rw[y]
  refine dQ [11,12,26,44] (G:=Nat) (H:=Value) (fun k _=>[(26,E k)]) (fun k g w=>k<=l.length/\(cn vars (l.take k) (nR vars o i)).length<=64*i+k/\Z w0 w (X W 3 g (cn vars (l.take k) (nR vars o i))::ak p5 131 [E op,E ff,E aN,E aK,g]::X ap 23 lv [v1,v2]::aj W 3 ss (gb U' N)::X ap 22 nv ss::ak m 127 [K,c1,c2,L,fv,E (N:Int),P,nv,c]::X W 3 fv (dD vars vars.length)::X kZ 131 P us::aZ (nI us U')::X W 3 c (dW U')::Γ)) (fun k _=>l.length-k) 0 g (fun _ _=>rfl) ⟨rfl,az⟩ ⟨U,by simpa [cn] using j',Y⟩ ?_;clear Y;rintro _c k d w ⟨hk,D,Y⟩;refine aB ?_ ?_<;>intro g2
  ·have b:k<l.length:=U
   have F:=S _ (cH aq.dflt b);refine db ?_;intro p w Y;refine aL rfl (K7 (f:=l.getD k aq.dflt) (pB (p:=m) Y) (bk (s:=fv) Y) hp hd _a F) ?_;rintro _ w' ⟨rfl,al⟩;refine aA ?_;clear al Y;intro Y;refine O ?_;refine aL rfl (wE (bk (s:=d) Y)) ?_;rintro _ w' ⟨rfl,al⟩;refine aA ?_;clear al Y;intro Y;obtain⟨q,hq⟩:=À (decide (dE vars (l.getD k aq.dflt)∈cn vars (l.take k) (nR vars o i)));rw[<-hq];have Q:=Č (cn vars (l.take k) (nR vars o i)) (dE vars (l.getD k aq.dflt));rw[<-L0 b]at Q;cases q
   ·have j:=of_decide_eq_false hq.symm
    repeat (first|refine du ?_|(refine tq ?_;clear Y;intro w Y)|(refine fA ?_;clear Y;intro s w Y))
    refine⟨k+1,s,⟨rfl,az⟩,aU,⟨U,U,?_⟩,U⟩;rw[L0 b,oW,aC j];exact Y.tail.tail
   have j:=uB hq.symm;refine O ?_;exact⟨k+1,d,⟨rfl,az⟩,aU,⟨U,U,by rw[L0 b,oW,aM j];exact Y.tail⟩,U⟩
  have b:k=l.length:=U;subst b;rw[gH (cD _),y,<-ċ U]at Y D;refine O ?_;exact⟨i+1,d,⟨rfl,az⟩,aU,⟨U,U,Y⟩,U⟩
 have _d:i=2:=U;subst _d;refine O ?_;rw[R]at Y j';obtain⟨u,hu⟩:∃ u:Un,u=(Un.mk op ff aN aK (cn vars l2 (cn vars l1 []))):=⟨_,rfl⟩
 have D:u.aw=cn vars l2 (cn vars l1 []):=by rw[hu]
 rw[<-hu];rw[<-D]at Y j';have _f:(nR vars o 2).length=u.aw.length:=by rw[R,D]
 have R':u.aw.Nodup:=by rw[D];exact Ih (Ih zI _) _
 have S:∀ n∈u.aw,0<=n/\n<N:=fun n hn=>by
  rw[D]at hn;rw[hN];rcases yf.1 hn with hn|⟨f,d,rfl⟩
  ·rcases yf.1 hn with hn|⟨f,d,rfl⟩
   ·simp at hn
   exact vG hp (k1 f d)
  exact vG hp (k2 f d)
 rw[<-č U' u N]at Y;refine dQ [15,15,54,74] (G:=Nat) (H:=List Value) (fun j _=>[(54,E j)]) (fun j ss w=>j<=u.aw.length/\ss.length=N/\Z w0 w (aj W 3 ss (kj U' u j N)::X ap 22 nv ss::X W 3 g u.aw::ak p5 131 [E op,E ff,E aN,E aK,g]::X ap 23 lv [v1,v2]::ak m 127 [K,c1,c2,L,fv,E (N:Int),P,nv,c]::X W 3 fv (dD vars vars.length)::X kZ 131 P us::aZ (nI us U')::X W 3 c (dW U')::Γ)) (fun j _=>u.aw.length-j) 0 ss (fun _ _=>rfl) ⟨rfl,az⟩ ⟨bu _,by rw[_b,K8],?_⟩ ?_
 ·exact(Y.bQ 4 rfl).bQ 4 rfl
 clear Y;rintro _c j ss w ⟨hj,T',Y⟩;refine aB ?_ ?_<;>intro g3
 ·have d:j<u.aw.length:=U
  have r:=S _ (cH W.dflt d);refine O ?_;have hi:(u.aw.getD j W.dflt).toNat<(kj U' u j N).length:=by rw[SO];omega
  replace Y:=Y.gV hi;have y:=Ď U' u j N (u.aw.getD j W.dflt).toNat;refine fz (pl [0,1,2,3,4,5,6,7,8,9,10,11,12,13] (.cI 3::.cI 8::.cI 11::pl [14] (.cI 3::pl [15,16] []))) Y kr ?_;clear Y;intro w Y
  repeat (first|refine du ?_|(refine qB ?_;clear Y;intro w Y)|(refine fA ?_;clear Y;intro s w Y))
  replace Y:=Z.o9 hi (by rw[T',SO]) Y.tail;rw[B,ď d R' S]at Y;exact⟨j+1,_,⟨rfl,az⟩,aU,⟨U,by rw[gY];exact T',Y⟩,U⟩
 have _e:j=u.aw.length:=U;subst _e;rw[Đ]at Y;have _k:=SP U';have V':=(bk (s:=g) Y).one;obtain⟨r,F⟩:∃ r:yh,r=⟨op,ff,aN,aK,g⟩:=⟨_,rfl⟩
 refine aB ?_ ?_<;>intro g4
 ·have Q:u.aw=[]:=n0 U
  have H':dW (U'++[u])=dW U'++[(us.length:Int)]:=by rw[SQ,aM Q,B]
  repeat (first|refine du ?_|(refine tq ?_;clear Y;intro w Y)|(refine fA ?_;clear Y;intro s w Y))
  rw[<-H']at Y;refine fz (pl [0,1,2,3,4,5,6] (.cI 4::pl [7,8,9,10] [])) Y kr ?_;clear Y;intro w Y;refine O ?_;refine jK kZ (x1:=r) rfl (by rw[F];rfl) rfl (fY rfl) (fe _) Y ?_;clear Y;intro sl w Y;have J':∀ v∈kZ.enc r,v.oneCell'=true:=by
   rw[F];intro v hv;simp only[kZ,ee,fI,pP]at hv;rcases hv with rfl|rfl|rfl|rfl|rfl
   ·rfl
   ·rfl
   ·rfl
   ·rfl
   exact V'
  refine O ?_;refine q7 (s:=P) (s2:=sl) inferInstance rfl rfl (bk Y) rfl rfl (fun x hx v hv=>by rw[dp.1 hx]at hv;exact J' v hv) (by simp only[length_cons,length_nil];omega) (by unfold bU;simp only[length_cons,length_nil];omega) Y ?_;clear Y;intro d w Y;refine iE ?_;intro w Y;obtain⟨y,rfl⟩:=À s;have C:Z w0 w (aj W 3 ss (gb (U'++[u]) N)::X ap 22 nv ss::X W 3 g u.aw::ak p5 131 [E op,E ff,E aN,E aK,g]::X ap 23 lv [v1,v2]::ak m 127 [K,c1,c2,L,fv,E (N:Int),d,nv,y]::X W 3 fv (dD vars vars.length)::X kZ 131 d (us++[r])::aZ (nI us U')::X W 3 y (dW (U'++[u]))::Γ):=Y.tail.tail;exact tj rfl ⟨rfl,d,y,us++[r],ss,by simp[B],Z.cw (Z.rd (Δ:=[X W 3 g u.aw,aZ (nI us U')]) (Γ:=aj W 3 ss (gb (U'++[u]) N)::X ap 22 nv ss::ak m 127 [K,c1,c2,L,fv,E (N:Int),d,nv,y]::X W 3 fv (dD vars vars.length)::X kZ 131 d (us++[r])::X W 3 y (dW (U'++[u]))::Γ) (φ:=nI (us++[r]) (U'++[u])) (fun _ w h=>(h.ct 1 rfl).eQ B (by rw[F,hu];exact⟨rfl,rfl,rfl,rfl,by rw[<-D];exact h.rs 0 rfl⟩)) (show Z w0 w (X W 3 g u.aw::aZ (nI us U')::aj W 3 ss (gb (U'++[u]) N)::X ap 22 nv ss::ak m 127 [K,c1,c2,L,fv,E (N:Int),d,nv,y]::X W 3 fv (dD vars vars.length)::X kZ 131 d (us++[r])::X W 3 y (dW (U'++[u]))::Γ) from Z.cw C))⟩
 have Q:u.aw≠[]:=fun e=>g4 (by rw[e];rfl);have H':dW (U'++[u])=dW U':=by rw[SQ,aC Q,fS]
 refine O ?_;rw[<-H']at Y;refine fz (pl [0,1,2,3,4,5,6] (.cI 4::pl [7,8,9,10] [])) Y kr ?_;clear Y;intro w Y;refine O ?_;refine jK kZ (x1:=r) rfl (by rw[F];rfl) rfl (fY rfl) (fe _) Y ?_;clear Y;intro sl w Y;have J':∀ v∈kZ.enc r,v.oneCell'=true:=by
  rw[F];intro v hv;simp only[kZ,ee,fI,pP]at hv;rcases hv with rfl|rfl|rfl|rfl|rfl
  ·rfl
  ·rfl
  ·rfl
  ·rfl
  exact V'
 refine O ?_;refine q7 (s:=P) (s2:=sl) inferInstance rfl rfl (bk Y) rfl rfl (fun x hx v hv=>by rw[dp.1 hx]at hv;exact J' v hv) (by simp only[length_cons,length_nil];omega) (by unfold bU;simp only[length_cons,length_nil];omega) Y ?_;clear Y;intro d w Y;refine iE ?_;intro w Y;have C:Z w0 w (aj W 3 ss (gb (U'++[u]) N)::X ap 22 nv ss::X W 3 g u.aw::ak p5 131 [E op,E ff,E aN,E aK,g]::X ap 23 lv [v1,v2]::ak m 127 [K,c1,c2,L,fv,E (N:Int),d,nv,c]::X W 3 fv (dD vars vars.length)::X kZ 131 d (us++[r])::aZ (nI us U')::X W 3 c (dW (U'++[u]))::Γ):=Y.tail;exact tj rfl ⟨rfl,d,c,us++[r],ss,by simp[B],Z.cw (Z.rd (Δ:=[X W 3 g u.aw,aZ (nI us U')]) (Γ:=aj W 3 ss (gb (U'++[u]) N)::X ap 22 nv ss::ak m 127 [K,c1,c2,L,fv,E (N:Int),d,nv,c]::X W 3 fv (dD vars vars.length)::X kZ 131 d (us++[r])::X W 3 c (dW (U'++[u]))::Γ) (φ:=nI (us++[r]) (U'++[u])) (fun _ w h=>(h.ct 1 rfl).eQ B (by rw[F,hu];exact⟨rfl,rfl,rfl,rfl,by rw[<-D];exact h.rs 0 rfl⟩)) (show Z w0 w (X W 3 g u.aw::aZ (nI us U')::aj W 3 ss (gb (U'++[u]) N)::X ap 22 nv ss::ak m 127 [K,c1,c2,L,fv,E (N:Int),d,nv,c]::X W 3 fv (dD vars vars.length)::X kZ 131 d (us++[r])::X W 3 c (dW (U'++[u]))::Γ) from Z.cw C))⟩
end Go.Proofs.YtmapkjoefdgjfaaGreatDoor
