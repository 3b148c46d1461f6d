/- Several texts. -/
import Derived.Test.YtmapkjoefdgjfaaGreatDoorMW4D
set_option linter.unusedSimpArgs false
set_option linter.unusedVariables false
set_option linter.defProp false
set_option maxRecDepth 8000
set_option maxHeartbeats 16000000
open List Nat
namespace Go.Proofs.YtmapkjoefdgjfaaGreatDoor
open Go.Sl Go
variable {w0:World}{S:bV}{C z v:Value}{k:Nat}{l:J}{u r:List ByteArray}{s:ByteArray}
attribute [local irreducible] vc opsW opsD opV opW PureV ReadV Thn Blk
instance Uh:y8 aj 291 2:=⟨3,kr,fun w=>kr⟩
def Y0 (d a2 f g:Int) :
  Calls aj 190 #[.agg #[E d,E a2],.agg #[E f,E g]] w0 fun e w'=>e=.returned (E (oM (d,a2) (f,g)))/\∃ (q:Nat) (os:Array Obj),w'=Sort.grow (w0.drewN q) os:=by
 have Y:=M.start w0;have a:=Dr.refl w0;refine bB ao Tryz.func190 ?_;refine vt ?_;refine tF ?_;refine CN (vs:=[E d,E a2]) rfl Y a ?_;clear Y a;intro p w Y a;refine CN (vs:=[E f,E g]) rfl Y a ?_;clear Y a;intro h w Y a;refine W ?_;refine KP (pl [0,1,2,3,5,6,7,8,4] (.cJ 6::.cJ 8::pl [9,10,11,12] [])) Y a kr ?_;clear Y a;intro w Y a;refine zZ ?_;refine fi (v:=.pointer (some (p.add 0))) rfl (Bf (n:=2) (j:=0) rfl rfl U U) ?_;refine W ?_;refine fi (v:=.pointer (some (h.add 0))) rfl (Bf (n:=2) (j:=0) rfl rfl U U) ?_;refine W ?_;refine fi (v:=.pointer (some (p.add 1))) rfl (Bf (n:=2) (j:=1) rfl rfl U U) ?_;refine W ?_;refine fi (v:=.pointer (some (h.add 1))) rfl (Bf (n:=2) (j:=1) rfl rfl U U) ?_;refine W ?_;refine aU rfl Ai ?_;rintro _ w' ⟨rfl,rfl⟩;refine⟨_,rfl,?_⟩;obtain⟨c1,b⟩:=À (gh d f);rw[<-b];refine W ?_;refine aU rfl Ai ?_;rintro _ w' ⟨rfl,rfl⟩;refine⟨_,rfl,?_⟩;obtain⟨c2,c⟩:=À (gh a2 g);rw[<-c];refine W ?_;refine KQ (T:=O) (len:=2) (parts:=[(0,.tmp 9),(1,.tmp 14)]) [c1,c2] [E c1,E c2] rfl rfl rfl rfl rfl (fX rfl) (fb _) (fX rfl) Y a ?_;clear Y a;intro s w Y a;refine W ?_;refine aU rfl (KR (M.rs Y 0 rfl)) ?_;rintro _ w' ⟨rfl,rfl⟩;refine⟨_,rfl,?_⟩;refine W ?_;exact bk (v:=E (wn [c1,c2])) rfl rfl ⟨by rw[b,c];rfl,xg Y a⟩
def Y1 {g:List Bool}(hk:k<g.length):gN g (k+1)=gN g k++(if g.getD k ah.dflt then [(k:Int)] else []):=by
 unfold gN;rw[lz,JZ];congr 1;by_cases h:g.getD k ah.dflt=true
 ·simp only[GC,GD,h,if_true]
 simp only[GC,GD,h,if_false,Cr]
def Rg (g:List Bool):∀ k,(gN g k).length<=k
 | 0=>by simp[gN]
 | k+1=>by
  have:=Rg g k;unfold gN at *
  rw[lz,JZ,length_append];have:(filterMap (fun i=>if g.getD i ah.dflt=true then some (i:Int) else none) [k]).length<=1:=by
   simp only[GC,GD];split<;>simp
  omega
def Y2 {cv ev gv:Value}(d:cV w0 cv ev gv S)(h:S.aR.length<=4096) :
  Calls aj 120 #[cK S cv ev gv] w0 fun e w'=>∃ v,e=.returned v/\M w0 w' [X O 3 v (vI S.aR)]:=by
 have I:=d.aR;have f:=I.bT;have Y:=M.start w0;refine bB ao Tryz.func120 ?_;unfold cK;refine eB ?_;intro p w Y;refine cN [3,5,9,19] (G:=Nat × Value) (fun x=>[(3,x.2),(9,E x.1)]) (fun x w=>x.1<=S.aR.length/\M w0 w [X O 3 x.2 (gN S.aR x.1)]) (fun x=>S.aR.length-x.1) (0,nS) (fun _=>rfl) ⟨rfl,rfl,au⟩ ⟨br _,(iY Y).nil⟩ ?_;clear Y;rintro i ⟨k,o⟩ w ⟨hk,Y⟩
 dsimp only at hk Y
 have g:=Rg S.aR k;refine aA ?_ ?_<;>intro h1
 ·have c:k<S.aR.length:=U
  have a:=Y1 c;refine W ?_;by_cases b:S.aR.getD k ah.dflt=true
  ·rw[b]
   rw[aP b]at a
   repeat (first|refine dB ?_|(refine fR ?_;clear Y;intro s w Y))
   refine⟨(k+1,s),⟨rfl,rfl,au⟩,aV,⟨U,?_⟩,U⟩;rw[a];exact Y.bb
  rw[qX.2 b];rw[aH b,fI]at a;refine W ?_;exact⟨(k+1,o),⟨rfl,rfl,au⟩,aV,⟨U,by rw[a];exact Y.bb⟩,U⟩
 have a:k=S.aR.length:=U;subst a;refine W ?_;exact bk rfl rfl ⟨o,rfl,by unfold vI;exact Y.bb⟩
def Y3 (hk:k<l.length)(b:0<k):lj (l.take (k+1))=max (lj (l.take k)) (l.getD k O.dflt):=by
 cases l with
 | nil=>simp at hk
 | cons x r =>
  obtain⟨j,rfl⟩:∃ j,k=j+1:=⟨k-1,U⟩
  have a:j<r.length:=by simpa using hk
  unfold lj;rw[J0,J0,eD O.dflt a];show (r.take j++[r.getD j O.dflt]).foldl max x=_;rw[tf];rfl
def QJ (c:RS O w0 v l)(b:0<l.length) :
  Calls aj 168 #[v] w0 fun e w'=>e=.returned (E (lj l))/\M w0 w' []:=by
 have d:=c.bT;have Y:=M.start w0;refine bB ao Tryz.func168 ?_;refine aA ?_ ?_<;>intro h1
 ·omega
 refine W ?_;refine cN [3,4,12,23] (G:=Nat) (fun k=>[(3,E (lj (l.take k))),(4,E k)]) (fun k w=>1<=k/\k<=l.length/\M w0 w []) (fun k=>l.length-k) 1 (fun _=>rfl) ⟨by rw[show l.take 1=[l.getD 0 O.dflt] from by cases l with|nil=>simp at b|cons x r=>rfl];rfl,rfl,au⟩ ⟨cz _,b,Y⟩ ?_;clear Y;rintro g k w ⟨f,hk,Y⟩;refine aA ?_ ?_<;>intro h
 ·have a:k<l.length:=U
  refine W ?_;exact⟨k+1,⟨by rw[Y3 a U];show Value.int .i64 _=Value.int .i64 _;congr 1;split<;>omega,rfl,au⟩,aV,⟨U,U,Y.bb⟩,U⟩
 rw[gH U];refine W ?_;exact bk rfl rfl ⟨rfl,Y.bb⟩
def Rh (a:RS O w0 v l)(b:0<l.length)(hm:0<=lj l/\lj l<=65536) :
  Calls aj 148 #[v] w0 fun e w'=>e=.returned (E (lj l+1))/\M w0 w' []:=by
 obtain⟨c,d⟩:=hm;have Y:=M.start w0;refine bB ao Tryz.func148 ?_;refine W ?_;refine aU rfl (QJ a b) ?_;refine lU ?_;intro w' Y;exact bk rfl rfl ⟨rfl,Y.bb⟩
def Hx {α:Type}{d:α}{A B:List α}(a:A.length=B.length)(h:∀ i,i<A.length->A.getD i d=B.getD i d):A=B:=by
 apply iA a;intro i h1 b;have:=h i h1
 rwa[al h1,al b]at this
instance M9:rh aj 3 .i64:=⟨kr⟩
def Y4 {x y:bo}(h1:x.var=y.var)(h2:x.val=y.val):x=y:=by cases x;cases y;simp_all
instance Na:jd aj 63 2:=⟨kr⟩
def KS {A B:List bo}(g:RS aq w0 C A)(h:RS aq w0 z B) :
  Calls aj 61 #[C,z] w0 fun e w'=>(∃ r,e=.returned (.bool r)/\(r=true↔A=B))/\M w0 w' []:=by
 have j:=g.bT;have n:=h.bT;have Y:=M.start w0;refine bB ao Tryz.func61 ?_;refine aA ?_ ?_<;>intro h1
 ·refine W ?_
  exact bk (v:=.bool false) rfl rfl ⟨⟨false,rfl,dr fun e=>by rw[e]at h1;omega⟩,Y.bb⟩
 refine W ?_;refine cN [4,5,13,25] (G:=Nat) (fun i=>[(13,E i)]) (fun i w=>i<=A.length/\(∀ m,m<i->A.getD m aq.dflt=B.getD m aq.dflt)/\M w0 w []) (fun i=>A.length-i) 0 (fun _=>rfl) ⟨rfl,au⟩ ⟨br _,fun i f=>absurd f (dx _),Y.bb⟩ ?_;clear Y;rintro t i w ⟨f,a,Y⟩;refine aA ?_ ?_<;>intro x
 ·have o:i<A.length:=U
  refine eQ ?_;intro w Y;refine fi rfl (Ri (us:=[(A.getD i aq.dflt).var,(A.getD i aq.dflt).val]) (zs:=[(B.getD i aq.dflt).var,(B.getD i aq.dflt).val]) rfl rfl rfl rfl) ?_;by_cases b:A.getD i aq.dflt=B.getD i aq.dflt
  ·have c:decide ([(A.getD i aq.dflt).var,(A.getD i aq.dflt).val]=[(B.getD i aq.dflt).var,(B.getD i aq.dflt).val])=true:=dY (by rw[b])
   refine pV ?_;simp only[c,nq];refine W ?_;refine⟨i+1,⟨rfl,au⟩,aV,⟨U,fun m hm=>?_,Y.bb⟩,U⟩;by_cases e:m=i
   ·subst e;exact b
   exact a m U
  have c:decide ([(A.getD i aq.dflt).var,(A.getD i aq.dflt).val]=[(B.getD i aq.dflt).var,(B.getD i aq.dflt).val])=false:=eA fun e=>b (by
   injection e with q d
   injection d with d _
   exact Y4 q d)
  refine pV ?_;simp only[c,qy];refine W ?_;exact bk (v:=.bool false) rfl rfl ⟨⟨false,rfl,dr fun e=>b (by rw[e])⟩,Y.bb⟩
 have b:i=A.length:=U;subst b;refine W ?_;exact bk (v:=.bool true) rfl rfl ⟨⟨true,rfl,iH (Hx U a)⟩,Y.bb⟩
def Do {A B:J}(d:RS O w0 C A)(f:RS O w0 z B) :
  Calls aj 60 #[C,z] w0 fun e w'=>(∃ r,e=.returned (.bool r)/\(r=true↔A=B))/\M w0 w' []:=by
 have g:=d.bT;have h:=f.bT;have Y:=M.start w0;refine bB ao Tryz.func60 ?_;refine aA ?_ ?_<;>intro h1
 ·refine W ?_
  exact bk (v:=.bool false) rfl rfl ⟨⟨false,rfl,dr fun e=>by rw[e]at h1;omega⟩,Y.bb⟩
 refine W ?_;refine cN [4,5,13,25] (G:=Nat) (fun i=>[(13,E i)]) (fun i w=>i<=A.length/\(∀ m,m<i->A.getD m O.dflt=B.getD m O.dflt)/\M w0 w []) (fun i=>A.length-i) 0 (fun _=>rfl) ⟨rfl,au⟩ ⟨br _,fun i c=>absurd c (dx _),Y.bb⟩ ?_;clear Y;rintro n i w ⟨c,a,Y⟩;refine aA ?_ ?_<;>intro o
 ·have j:i<A.length:=U
  refine sC ?_ ?_<;>intro w Y b
  ·refine W ?_
   exact bk (v:=.bool false) rfl rfl ⟨⟨false,rfl,dr fun e=>by rw[e]at b;exact b rfl⟩,Y.bb⟩
  refine W ?_;refine⟨i+1,⟨rfl,au⟩,aV,⟨U,fun m hm=>?_,Y.bb⟩,U⟩;by_cases e:m=i
  ·subst e;exact b
  exact a m U
 have b:i=A.length:=U;subst b;refine W ?_;exact bk (v:=.bool true) rfl rfl ⟨⟨true,rfl,iH (Hx U a)⟩,Y.bb⟩
def Rj:(true == false)=false:=rfl
def Rl:(false == true)=false:=rfl
def AF (v:Value):gv false v=undef:=by unfold gv;rfl
def AG (v:Value):gv true v=v:=bu rfl
def eG {G a:Prop}(h:a)(b:Go.Sl.dR a->G:=by intro hgo;(try simp only[wF,Rj,Rl,Bj,CA,tt,GM,nq,qy,DN,DO,AF,AG]);exact hgo.out):G:=b ⟨h⟩
def Aj {G a:Prop}(h:a)(b:Go.Sl.dR a->G:=by intro hgo;(try simp only[wF,Rj,Rl,Bj,CA,nq,qy,DN,DO,AF,AG]);exact hgo.out):G:=b ⟨h⟩
def KU {w:World}{Γ:List HP}{v:ke}{e:kU}(h:rf w0 v e)(Y:M w0 w Γ):rf w v e:=⟨h.var,h.val,h.bK.at Y⟩
def Rm {w:World}{Γ:List HP}{s:Value}{vs:List ke}{es:List kU}(h:lF w0 s vs es)(Y:M w0 w Γ):lF w s vs es:=⟨h.rs.at Y,h.len,fun i a=>KU (h.dK i a) Y⟩
def Y5 {x y:kU}(h1:x.var=y.var)(h2:x.val=y.val)(a:x.bK=y.bK):x=y:=by cases x;cases y;simp_all
def Y6 {x y:ke}{ex i:kU}(hx:rf w0 x ex)(c:rf w0 y i) :
  Calls aj 93 #[.agg (aY.enc x).toArray,.agg (aY.enc y).toArray] w0 fun e w'=>(∃ r,e=.returned (.bool r)/\(r=true↔ex=i))/\M w0 w' []:=by
 have t:=hx.one;have A:=c.one;have j:=hx.var;have m:=c.var;have n:=hx.val;have o:=c.val;have f:=hx.bK;have g:=c.bK;have Y:=M.start w0;refine bB ao Tryz.func93 ?_;by_cases h1:x.var=y.var;rotate_left
 ·have a:decide (x.var=y.var)=false:=eA h1
  repeat (first|refine dB ?_|(refine iy ?_;clear Y;intro p w Y))
  try simp only[a];refine Aj ?_
  refine W ?_;exact bk (v:=.bool false) rfl rfl ⟨⟨false,rfl,dr fun e=>h1 (by rw[j,m,e])⟩,Y.bb⟩
 have a:decide (x.var=y.var)=true:=dY h1;by_cases d:x.val=y.val;rotate_left
 ·have b:decide (x.val=y.val)=false:=eA d
  repeat (first|refine dB ?_|(refine iy ?_;clear Y;intro p w Y))
  try simp only[a,b];refine Aj ?_
  refine W ?_;exact bk (v:=.bool false) rfl rfl ⟨⟨false,rfl,dr fun e=>d (by rw[n,o,e])⟩,Y.bb⟩
 have b:decide (x.val=y.val)=true:=dY d
 repeat (first|refine dB ?_|(refine iy ?_;clear Y;intro p w Y))
 try simp only[a,b];refine Aj ?_
 refine W ?_;refine aU rfl (KS (f.at Y) (g.at Y)) ?_;rintro _ w' ⟨⟨r,rfl,q⟩,an⟩;refine aI ?_;clear an Y;intro Y;refine W ?_;exact bk (v:=.bool r) rfl rfl ⟨⟨r,rfl,q.trans ⟨fun h=>Y5 (by rw[<-j,<-m,h1]) (by rw[<-n,<-o,d]) h,fun h=>by rw[h]⟩⟩,Y.bb⟩
def Y7 {t x:List ke}{A B:List kU}(d:lF w0 C t A)(f:lF w0 z x B) :
  Calls aj 92 #[C,z,.func (.func 93) #[] #[]] w0 fun e w'=>(∃ r,e=.returned (.bool r)/\(r=true↔A=B))/\M w0 w' []:=by
 have g:=d.rs;have h:=f.rs;have j:=d.len;have y:=f.len;have D:=g.bT;have F:=h.bT;have Y:=M.start w0;refine bB ao Tryz.func92 ?_;refine aA ?_ ?_<;>intro h1
 ·refine W ?_
  exact bk (v:=.bool false) rfl rfl ⟨⟨false,rfl,dr fun e=>by rw[e]at j;omega⟩,Y.bb⟩
 refine W ?_;refine cN [6,9,17,31] (G:=Nat) (fun i=>[(17,E i)]) (fun i w=>i<=A.length/\(∀ m,m<i->A.getD m bE=B.getD m bE)/\M w0 w []) (fun i=>A.length-i) 0 (fun _=>rfl) ⟨rfl,au⟩ ⟨br _,fun i o=>absurd o (dx _),Y.bb⟩ ?_;clear Y;rintro H i w ⟨o,a,Y⟩;refine aA ?_ ?_<;>intro K
 ·have n:i<A.length:=U
  have b:=d.dK i n;have c:=f.dK i U;have L:=b.one;have N:=c.one
  repeat (first|refine dB ?_|(refine iy ?_;clear Y;intro p w Y)|(refine qx ?_;clear Y;intro w Y))
  refine wr (cs:=[]) rfl rfl (Y6 (KU b Y) (KU c Y)) ?_;rintro _ w' ⟨⟨r,rfl,q⟩,an⟩;refine aI ?_;clear an Y;intro Y;cases r
  ·refine W ?_
   exact bk (v:=.bool false) rfl rfl ⟨⟨false,rfl,dr fun e=>by have:=q.2 (by rw[e]);cases this⟩,Y.bb⟩
  refine W ?_;refine⟨i+1,⟨rfl,au⟩,aV,⟨U,fun m hm=>?_,Y.bb⟩,U⟩;by_cases e:m=i
  ·subst e;exact q.1 rfl
  exact a m U
 have b:i=A.length:=U;subst b;refine W ?_;exact bk (v:=.bool true) rfl rfl ⟨⟨true,rfl,iH (Hx U a)⟩,Y.bb⟩
def Y8 {x y:ko}(h1:x.name=y.name)(h2:x.aO=y.aO)(a:x.pre=y.pre)(b:x.aJ=y.aJ):x=y:=by cases x;cases y;simp_all
def Y9 {x y:iX}{m n:ko}(hx:oC w0 x m)(f:oC w0 y n) :
  Calls aj 63 #[.agg (cp.enc x).toArray,.agg (cp.enc y).toArray] w0 fun e w'=>(∃ r,e=.returned (.bool r)/\(r=true↔m=n))/\M w0 w' []:=by
 have H:=hx.one;have K:=f.one;have Y:=M.start w0;refine bB ao Tryz.func63 ?_;have o:=hx.name;have q:=f.name;have t:=hx.aO;have A:=f.aO;have F:=hx.pre;have G:=f.pre;obtain⟨ex,hex⟩:=hx.aJ;obtain⟨L,i⟩:=f.aJ
 repeat (first|refine dB ?_|(refine iy ?_;clear Y;intro p w Y))
 refine fi rfl (Za (a:=x.name) (b:=y.name) rfl rfl) ?_;by_cases h1:x.name=y.name;rotate_left
 ·have c:decide (x.name=y.name)=false:=eA h1
  refine W ?_
  try simp only[c];refine Aj ?_
  refine W ?_;exact bk (v:=.bool false) rfl rfl ⟨⟨false,rfl,dr fun e=>h1 (by rw[o,q,e])⟩,Y.bb⟩
 have c:decide (x.name=y.name)=true:=dY h1;by_cases g:x.aO=y.aO;rotate_left
 ·have d:decide (x.aO=y.aO)=false:=eA g
  refine W ?_
  try simp only[c,d];refine Aj ?_
  refine W ?_;exact bk (v:=.bool false) rfl rfl ⟨⟨false,rfl,dr fun e=>g (by rw[t,A,e])⟩,Y.bb⟩
 have d:decide (x.aO=y.aO)=true:=dY g;refine W ?_
 try simp only[c,d];refine Aj ?_
 refine W ?_;refine aU rfl (KS (F.at Y) (G.at Y)) ?_;rintro _ w' ⟨⟨r,rfl,B⟩,an⟩;refine aI ?_;clear an Y;intro Y;cases r
 ·refine W ?_
  exact bk (v:=.bool false) rfl rfl ⟨⟨false,rfl,dr fun e=>by have:=B.2 (by rw[e]);cases this⟩,Y.bb⟩
 refine W ?_;refine aU rfl (Y7 (Rm hex Y) (Rm i Y)) ?_;rintro _ w' ⟨⟨D,rfl,j⟩,an⟩;refine aI ?_;clear an Y;intro Y;refine W ?_;exact bk (v:=.bool D) rfl rfl ⟨⟨D,rfl,j.trans ⟨fun h=>Y8 (by rw[<-o,<-q,h1]) (by rw[<-t,<-A,g]) (B.1 rfl) h,fun h=>by rw[h]⟩⟩,Y.bb⟩
def Zb {t x:List iX}{A B:List ko}(d:tW w0 C t A)(f:tW w0 z x B) :
  Calls aj 62 #[C,z,.func (.func 63) #[] #[]] w0 fun e w'=>(∃ r,e=.returned (.bool r)/\(r=true↔A=B))/\M w0 w' []:=by
 have g:=d.rs;have h:=f.rs;have j:=d.len;have y:=f.len;have D:=g.bT;have F:=h.bT;have Y:=M.start w0;refine bB ao Tryz.func62 ?_;refine aA ?_ ?_<;>intro h1
 ·refine W ?_
  exact bk (v:=.bool false) rfl rfl ⟨⟨false,rfl,dr fun e=>by rw[e]at j;omega⟩,Y.bb⟩
 refine W ?_;refine cN [6,9,17,31] (G:=Nat) (fun i=>[(17,E i)]) (fun i w=>i<=A.length/\(∀ m,m<i->A.getD m bf=B.getD m bf)/\M w0 w []) (fun i=>A.length-i) 0 (fun _=>rfl) ⟨rfl,au⟩ ⟨br _,fun i o=>absurd o (dx _),Y.bb⟩ ?_;clear Y;rintro H i w ⟨o,a,Y⟩;refine aA ?_ ?_<;>intro K
 ·have n:i<A.length:=U
  have b:=d.dK i n;have c:=f.dK i U;have L:=b.one;have N:=c.one
  repeat (first|refine dB ?_|(refine iy ?_;clear Y;intro p w Y)|(refine qx ?_;clear Y;intro w Y))
  refine wr (cs:=[]) rfl rfl (Y9 (b.at Y) (c.at Y)) ?_;rintro _ w' ⟨⟨r,rfl,q⟩,an⟩;refine aI ?_;clear an Y;intro Y;cases r
  ·refine W ?_
   exact bk (v:=.bool false) rfl rfl ⟨⟨false,rfl,dr fun e=>by have:=q.2 (by rw[e]);cases this⟩,Y.bb⟩
  refine W ?_;refine⟨i+1,⟨rfl,au⟩,aV,⟨U,fun m hm=>?_,Y.bb⟩,U⟩;by_cases e:m=i
  ·subst e;exact q.1 rfl
  exact a m U
 have b:i=A.length:=U;subst b;refine W ?_;exact bk (v:=.bool true) rfl rfl ⟨⟨true,rfl,iH (Hx U a)⟩,Y.bb⟩
def Zc {x y:aa}(h1:x.vars=y.vars)(h2:x.cE=y.cE)(a:x.aG=y.aG)(b:x.Z=y.Z):x=y:=by cases x;cases y;simp_all
def Rn {a b c d a2 q c2 d2:Value}{vs us:List iX}{t u:aa}(x:bz w0 a b c d vs t)(hu:bz w0 a2 q c2 d2 us u) :
  Calls aj 36 #[.agg #[a,b,c,d],.agg #[a2,q,c2,d2]] w0 fun e w'=>(∃ r,e=.returned (.bool r)/\(r=true↔t=u))/\M w0 w' []:=by
 have B:=x;have D:=hu;obtain⟨F,G,H,K⟩:=x;obtain⟨i,j,m,n⟩:=hu;have Y:=M.start w0;refine bB ao Tryz.func36 ?_
 repeat (first|refine dB ?_|(refine iy ?_;clear Y;intro p w Y))
 refine aU rfl (Do (F.at Y) (i.at Y)) ?_;rintro _ w' ⟨⟨r,rfl,y⟩,an⟩;refine aI ?_;clear an Y;intro Y;cases r
 ·refine W ?_
  exact bk (v:=.bool false) rfl rfl ⟨⟨false,rfl,dr fun e=>by have:=y.2 (by rw[e]);cases this⟩,Y.bb⟩
 refine W ?_;refine aU rfl (Do (G.at Y) (j.at Y)) ?_;rintro _ w' ⟨⟨L,rfl,f⟩,an⟩;refine aI ?_;clear an Y;intro Y;cases L
 ·refine W ?_
  exact bk (v:=.bool false) rfl rfl ⟨⟨false,rfl,dr fun e=>by have:=f.2 (by rw[e]);cases this⟩,Y.bb⟩
 refine W ?_;refine aU rfl (KS (H.at Y) (m.at Y)) ?_;rintro _ w' ⟨⟨N,rfl,g⟩,an⟩;refine aI ?_;clear an Y;intro Y;cases N
 ·refine W ?_
  exact bk (v:=.bool false) rfl rfl ⟨⟨false,rfl,dr fun e=>by have:=g.2 (by rw[e]);cases this⟩,Y.bb⟩
 refine W ?_;refine aU rfl (Zb (K.at Y) (n.at Y)) ?_;rintro _ w' ⟨⟨A,rfl,o⟩,an⟩;refine aI ?_;clear an Y;intro Y;refine W ?_;exact bk (v:=.bool A) rfl rfl ⟨⟨A,rfl,o.trans ⟨fun h=>Zc (y.1 rfl) (f.1 rfl) (g.1 rfl) h,fun h=>by rw[h]⟩⟩,Y.bb⟩
def wc (h:¬dP S):iS S=false:=by unfold iS;simp only[h,decide_false]
def Ck (h:dP S):iS S=true:=by unfold iS;simp only[h,decide_true]
def zh (S:bV)(i:Nat):Prop:=(0<=(S.aB.getD i aM.dflt).ba/\(S.aB.getD i aM.dflt).ba<S.st)/\(0<=(S.aB.getD i aM.dflt).dst/\(S.aB.getD i aM.dflt).dst<S.st)/\(0<=(S.aB.getD i aM.dflt).cG/\(S.aB.getD i aM.dflt).cG<S.aT.length)/\(0<i->ji (S.aB.getD (i-1) aM.dflt) (S.aB.getD i aM.dflt)<0)
def dP.Ro (h:dP S){i:Nat}(hi:i<S.aB.length):zh S i:=by
 obtain⟨_,_,_,_,_,_,_,_,h1,d⟩:=h;obtain⟨a,b,c⟩:=h1 _ (cD aM.dflt hi);exact⟨a,b,c,fun e=>d i e hi⟩
def D9 {cv ev gv:Value}(H:cV w0 cv ev gv S) :
  Calls aj 118 #[cK S cv ev gv] w0 fun e w'=>e=.returned (.bool (iS S))/\M w0 w' []:=by
 have K:=H.aT;have L:=H.aB;have N:=H.aR;have T:=K.bT;have V:=L.bT;have j':=N.bT;have Y:=M.start w0;refine bB ao Tryz.func118 ?_;unfold cK;refine lR ?_ ?_<;>intro p w Y h1
 ·have x:¬dP S:=fun⟨a,b,c,d,e,f,g,_⟩=>U
  refine W ?_;exact bk (v:=.bool false) rfl rfl ⟨by rw[wc x],Y.bb⟩
 obtain⟨⟨⟨⟨⟨⟨a1,a2⟩,a3⟩,a4⟩,a5⟩,a6⟩,a7⟩:=h1;refine W ?_;have Y:M w0 w [ak p 142 [E S.st,E S.bL,cv,ev,gv]]:=Y;obtain⟨P,rfl⟩:=À p;refine cN [2,2,4,4,50,60] (G:=Nat) (fun k=>[(50,E k),(2,.bool false)]) (fun k w=>k<=S.aT.length/\(∀ i,i<k->0<=S.aT.getD i O.dflt/\S.aT.getD i O.dflt<=1048576)/\M w0 w [ak P 142 [E S.st,E S.bL,cv,ev,gv]]) (fun k=>S.aT.length-k) 0 (fun _=>rfl) ⟨rfl,rfl,au⟩ ⟨br _,fun i m=>absurd m (dx _),Y⟩ ?_;clear Y;rintro σ k w ⟨hk,y,Y⟩;refine aA ?_ ?_<;>intro h2
 ·refine aA ?_ ?_<;>intro n
  ·have x:¬dP S:=fun⟨_,_,_,_,_,_,_,h,_⟩=>by
    have:=h _ (cD O.dflt (show k<S.aT.length by omega));omega
   refine W ?_;exact bk (v:=.bool false) rfl rfl ⟨by rw[wc x],Y.bb⟩
  obtain⟨o,t⟩:=n;refine W ?_;refine⟨k+1,⟨rfl,rfl,au⟩,aV,⟨U,fun i m=>?_,Y⟩,U⟩;by_cases e:i=k
  ·subst e;exact⟨o,t⟩
  exact y i U
 have A:∀ c∈S.aT,0<=c/\c<=1048576:=fun c F=>by
  obtain⟨i,m,rfl⟩:=fF F;have:=y i U
  rwa[al m]at this
 clear y;refine W ?_;refine cN [2,2,5,6,64,119] (G:=Nat) (fun k=>[(64,E k),(2,.bool false)]) (fun k w=>k<=S.aB.length/\(∀ i,i<k->zh S i)/\M w0 w [ak P 142 [E S.st,E S.bL,cv,ev,gv]]) (fun k=>S.aB.length-k) 0 (fun _=>rfl) ⟨rfl,rfl,au⟩ ⟨br _,fun i m=>absurd m (dx _),Y⟩ ?_;clear Y;rintro σ k w ⟨hk,t,Y⟩;refine aA ?_ ?_<;>intro h4
 ·have B:k<S.aB.length:=U
  obtain⟨a,R⟩:=À (S.aB.getD k aM.dflt);have n:zh S k↔(0<=a.ba/\a.ba<S.st)/\(0<=a.dst/\a.dst<S.st)/\(0<=a.cG/\a.cG<S.aT.length)/\(0<k->ji (S.aB.getD (k-1) aM.dflt) a<0):=by rw[R];exact xV
  refine c9 ?_;intro p w Y;have Y:M w0 w [ak p 190 [E a.ba,E a.cG,E a.dst],ak P 142 [E S.st,E S.bL,cv,ev,gv]]:=by rw[R];exact Y
  refine r5 ?_;clear Y;intro w Y;refine W ?_;by_cases o:(decide (a.ba<0) || decide (S.st<=a.ba) || decide (a.dst<0) || decide (S.st<=a.dst) || decide (a.cG<0) || decide ((S.aT.length:Int)<=a.cG))=true
  ·have x:¬dP S:=fun h=>by
    have:=(n.1 (h.Ro B))
    simp only[pO,gR]at o;omega
   try simp only[o];refine eG ?_
   refine W ?_;exact bk (v:=.bool false) rfl rfl ⟨by rw[wc x],Y.bb⟩
  rw[rX]at o
  try simp only[o];refine eG ?_
  simp only[xR,pM]at o;refine W ?_;by_cases D:0<k
  ·have Q:decide ((0:Int)<(k:Int))=true:=dY U
   try simp only[Q];refine eG ?_
   refine W ?_;refine aU rfl (Rp (S.aB.getD ((k:Int)-1).toNat aM.dflt) a) ?_;rintro _ w' ⟨rfl,q,os,rfl⟩;refine⟨_,rfl,?_⟩;replace Y:=(Y.ahead q).grow os;have e1:((k:Int)-1).toNat=k-1:=U;rw[e1];obtain⟨c,F⟩:=À (ji (S.aB.getD (k-1) aM.dflt) a);rw[<-F]at n ⊢;clear F;refine aA ?_ ?_<;>intro h5
   ·have x:¬dP S:=fun h=>by
     have:=(n.1 (h.Ro B)).2.2.2 D;omega
    refine W ?_;exact bk (v:=.bool false) rfl rfl ⟨by rw[wc x],Y.bb⟩
   refine W ?_;refine⟨k+1,⟨rfl,rfl,au⟩,aV,⟨U,fun i m=>?_,Y.bb⟩,U⟩;by_cases e:i=k
   ·subst e;exact n.2 ⟨U,U,U,fun _=>U⟩
   exact t i U
  have Q:decide ((0:Int)<(k:Int))=false:=eA U
  try simp only[Q];refine eG ?_
  refine W ?_;refine⟨k+1,⟨rfl,rfl,au⟩,aV,⟨U,fun i m=>?_,Y.bb⟩,U⟩;by_cases e:i=k
  ·subst e;exact n.2 ⟨U,U,U,fun h=>absurd h D⟩
  exact t i U
 refine W ?_;refine bk (v:=.bool true) rfl rfl ⟨?_,Y.bb⟩;rw[Ck ⟨a1,a2,a3,a4,a5,U,U,A,fun e he=>?_,fun i n m=>(t i U).2.2.2 n⟩];obtain⟨i,m,rfl⟩:=fF he;have:=t i U;unfold zh at this;rw[al m]at this;exact⟨this.1,this.2.1,this.2.2.1⟩
instance Nb:vM aj 288 9 3:=⟨kr⟩
instance Nc:qO aj 3 (E 0):=⟨kr⟩
def kB:Ty ByteArray:=⟨1,fun b=>[.string b],fun _=>rfl,⟨#[]⟩⟩
def sy:List ByteArray->Nat->List (ByteArray × Value)
 | [],_=>[]
 | s::u,i=>(s,E i)::sy u (i+1)
def tN (u:List ByteArray)(s:ByteArray):Nat:=u.findIdx fun x=>decide (x=s)
def Rq (s:ByteArray):∀ (u:List ByteArray) (i:Nat),sy (u++[s]) i=sy u i++[(s,E (i+u.length:Nat))]
 | [],i=>rfl
 | x::u,i=>by
  simp only[qA,sy,Rq s u (i+1),length_cons];rw[show i+1+u.length=i+(u.length+1) from by omega]
def KV:∀ (u:List ByteArray) (i:Nat),(sy u i).length=u.length
 | [],_=>rfl
 | _::u,i=>by simp only[sy,length_cons,KV u]
def KW {s:ByteArray}:∀ {u:List ByteArray}{i j:Nat},s∉u->iK s (sy u i) j=none
 | [],_,_,_=>rfl
 | x::u,i,j,h=>by
  simp only[sy,iK];rw[aH (fun e=>h (by rw[e];simp)),KW (fun a=>h (iR _ a))]
def Rr {s:ByteArray}:∀ {u:List ByteArray}{i j:Nat},s∈u->(iK s (sy u i) j).map (·.2)=some (E (i+tN u s:Nat))
 | [],_,_,h=>by simp at h
 | x::u,i,j,h=>by
  simp only[sy,iK,tN,findIdx_cons];by_cases e:s=x
  ·rw[aP e,dY e.symm];rfl
  rw[aH e,eA (Ne.symm e)];rcases dZ.1 h with h|h
  ·exact absurd h e
  rw[Rr (i:=i+1) h];simp only[cond_false,tN];rw[show i+1+u.findIdx (fun x=>decide (x=s))=i+(u.findIdx (fun x=>decide (x=s))+1) from by omega]
def BJ (u:List ByteArray)(s:ByteArray):List ByteArray:=if u.any (fun x=>decide (x=s)) then u else u++[s]
def Zd {l:List ByteArray}(hk:k<l.length):cP (l.take (k+1))=BJ (cP (l.take k)) (l.getD k kB.dflt):=by
 unfold cP;rw[eD kB.dflt hk,tf];rfl
def Rs:∀ (l u:List ByteArray),∃ r,l.foldl (fun u s=>if u.any (fun x=>decide (x=s)) then u else u++[s]) u=u++r
 | [],u=>⟨[],sm⟩
 | s::l,u=>by
  rw[sr];obtain⟨r,a⟩:=Rs l (if u.any (fun x=>decide (x=s)) then u else u++[s]);rw[a];split
  ·exact⟨r,rfl⟩
  exact⟨s::r,sm⟩
def Rt (l:List ByteArray)(k:Nat):∃ r,cP l=cP (l.take k)++r:=by
 have h:=Rs (l.drop k) (cP (l.take k));obtain⟨r,a⟩:=h;refine⟨r,?_⟩;rw[<-a];unfold cP;rw[<-tf,yC]
def Ru (h:s∈u):tN (u++r) s=tN u s:=by
 unfold tN;rw[findIdx_append,aP];exact Pl ⟨s,h,dY rfl⟩
def Ze (h:s∉u):tN (u++[s]++r) s=u.length:=by
 rw[Ru sm];unfold tN;rw[findIdx_append,aH]
 ·simp
 intro a;have:=findIdx_getElem (w:=a);have b:=vX this;exact h (by rw[<-b];exact wq _)
def Zf (l:List ByteArray):∀ u:List ByteArray,(l.foldl (fun u s=>if u.any (fun x=>decide (x=s)) then u else u++[s]) u).length<=u.length+l.length:=by
 induction l with
 | nil=>intro u;simp
 | cons s l a =>
  intro u;rw[sr];refine oD (a _) ?_;split
  ·simp only[length_cons];omega
  simp only[length_append,length_cons,length_nil];omega
def Zg (l:List ByteArray):(cP l).length<=l.length:=by have:=Zf l [];simpa [cP] using this
def QI {L:List ByteArray}(D:RS kB w0 v L)(F:L.length<=65536) :
  Calls aj 172 #[v] w0 fun e w'=>∃ cv,e=.returned (.tuple #[cv,E ((cP L).length:Nat)])/\M w0 w' [X O 3 cv (fg L)]:=by
 have Y:=M.start w0;refine bB ao Tryz.func172 ?_;refine W ?_;refine Zh oN Y ?_;clear Y;intro m w Y;refine W ?_;have o:fg L=L.map fun s=>(tN (cP L) s:Int):=rfl;have Y:M w0 w [X O 3 (nS) [],rr oN m (sy (cP (L.take 0)) 0)]:=by rw[wI,show sy (cP []) 0=[] from rfl];exact(Y.nil (T:=O) (e:=3)).bb
 refine dN [5,5,7,9,13,34] (G:=Nat) (H:=Value) (fun k n=>[(13,E k),(5,n)]) (fun k n w=>k<=L.length/\M w0 w [X O 3 n ((L.take k).map fun s=>(tN (cP L) s:Int)),rr oN m (sy (cP (L.take k)) 0)]) (fun k _=>L.length-k) 0 (nS) (fun _ _=>rfl) ⟨rfl,rfl,au⟩ ⟨br _,Y⟩ ?_;clear Y;rintro K k n w ⟨hk,Y⟩;refine aA ?_ ?_<;>intro h1
 ·have d:k<L.length:=U
  have f:=Zd d;have A:=Zg (L.take k);rw[jf]at A;obtain⟨u,hu⟩:=À (cP (L.take k));obtain⟨b,t⟩:=À (L.getD k kB.dflt);rw[<-hu,<-t]at f;rw[<-hu]at Y A;have B:((L.take k).map fun s=>(tN (cP L) s:Int)).length=k:=by rw[iW,jf];omega
  refine W ?_;rw[<-t];refine rW rfl (Zi (m:=m) (κ:=oN) (q:=b) rfl rfl Y inferInstance) ?_;by_cases hm:b∈u
  ·have I:uf (sy u 0) b=some (E (tN u b:Nat)):=by
    have:=Rr (i:=0) (j:=0) hm;rw[xU]at this;exact this
   rw[I]
   repeat (first|refine dB ?_|(refine fR ?_;clear Y;intro s w Y))
   have a:cP (L.take (k+1))=u:=by rw[f];unfold BJ;rw[aP (Hy.2 hm)]
   obtain⟨r,x⟩:=Rt L (k+1);have g:tN (cP L) b=tN u b:=by rw[x,a,Ru hm]
   refine⟨k+1,s,⟨rfl,rfl,au⟩,aV,⟨U,?_⟩,U⟩;rw[a,eD kB.dflt d,pX,<-t];simp only[l8,tD,g];exact Y.bb
  have I:uf (sy u 0) b=none:=by unfold uf;rw[KW hm];rfl
  rw[I];have a:cP (L.take (k+1))=u++[b]:=by rw[f];unfold BJ;rw[aH (fun h=>hm (Hy.1 h))]
  obtain⟨r,x⟩:=Rt L (k+1);have g:tN (cP L) b=u.length:=by rw[x,a,Ze hm]
  have c:=KV u 0;refine W ?_;refine rW rfl (Rv (m:=m) (κ:=oN) rfl Y inferInstance) ?_;rw[c];refine W ?_;refine Zj (m:=m) (κ:=oN) (q:=b) (v:=E (u.length:Nat)) rfl rfl rfl Y inferInstance ?_;clear Y;intro w Y;have y:uh (sy u 0) b (E (u.length:Nat))=sy (u++[b]) 0:=by
   unfold uh;rw[KW hm,Rq,xU]
  rw[y]at Y
  repeat (first|refine dB ?_|(refine fR ?_;clear Y;intro s w Y))
  refine⟨k+1,s,⟨rfl,rfl,au⟩,aV,⟨U,?_⟩,U⟩;rw[a,eD kB.dflt d,pX,<-t];simp only[l8,tD,g];exact Y.bb
 rw[gH U,<-o]at Y;have c:=KV (cP L) 0;refine W ?_;refine rW rfl (Rv (m:=m) (κ:=oN) rfl Y inferInstance) ?_;rw[c];refine W ?_;exact cX (v:=n) (v':=E ((cP L).length:Nat)) rfl rfl rfl ⟨n,rfl,Y.bb⟩
def Zk (b:Bool):Calls aj 188 #[.bool b] w0 fun e w'=>e=.returned (.string (kC b))/\M w0 w' []:=by
 have Y:=M.start w0;refine bB ao Tryz.func188 ?_
 cases b with
 | true =>
  refine W ?_
  exact bk (v:=.string (kC true)) rfl rfl ⟨rfl,Y⟩
 | false =>
  refine W ?_;exact bk (v:=.string (kC false)) rfl rfl ⟨rfl,Y⟩
instance Nd:ap aj 188:=⟨kr⟩
def XU (b:Bool):Calls aj 171 #[.bool b] w0 fun e w'=>e=.returned (.string (kC b))/\M w0 w' []:=by
 have Y:=M.start w0;refine bB ao Tryz.func171 ?_;refine W ?_;refine aU rfl (Zk b) ?_;refine lU ?_;intro w' Y;exact bk (v:=.string (kC b)) rfl rfl ⟨rfl,Y⟩
end Go.Proofs.YtmapkjoefdgjfaaGreatDoor
