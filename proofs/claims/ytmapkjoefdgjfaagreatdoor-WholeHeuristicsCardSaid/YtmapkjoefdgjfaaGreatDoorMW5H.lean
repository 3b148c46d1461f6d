/- Several texts. -/
import Derived.Test.YtmapkjoefdgjfaaGreatDoorMW4H
set_option linter.unusedSimpArgs false
set_option linter.unusedVariables false
set_option linter.defProp false
set_option maxRecDepth 8000
set_option maxHeartbeats 16000000
open List Nat
namespace Go.Proofs.YtmapkjoefdgjfaaGreatDoor
open Go.Sl Go
variable {w0:World}{S:ct}{z C v:Value}{k:Nat}{l:J}{u r:List ByteArray}{s:ByteArray}
attribute [local irreducible] vc opsW opsD opV opW PureV ReadV Thn Blk
instance Xk:AO ak 291 2:=⟨3,kr,fun w=>kr⟩
def œ (d a2 f g:Int) :
  Calls ak 190 #[.agg #[E d,E a2],.agg #[E f,E g]] w0 fun e w'=>e=.returned (E (qW (d,a2) (f,g)))/\∃ (q:Nat) (os:Array Obj),w'=Sort.grow (w0.drewN q) os:=by
 have Y:=Z.start w0;have a:=Dr.refl w0;refine bI ar Tryz.func190 ?_;refine w6 ?_;refine ve ?_;refine Ey (vs:=[E d,E a2]) rfl Y a ?_;clear Y a;intro p w Y a;refine Ey (vs:=[E f,E g]) rfl Y a ?_;clear Y a;intro h w Y a;refine O ?_;refine M4 (pl [0,1,2,3,5,6,7,8,4] (.cY 6::.cY 8::pl [9,10,11,12] [])) Y a kr ?_;clear Y a;intro w Y a;refine Bz ?_;refine fR (v:=.pointer (some (p.add 0))) rfl (CE (n:=2) (j:=0) rfl rfl U U) ?_;refine O ?_;refine fR (v:=.pointer (some (h.add 0))) rfl (CE (n:=2) (j:=0) rfl rfl U U) ?_;refine O ?_;refine fR (v:=.pointer (some (p.add 1))) rfl (CE (n:=2) (j:=1) rfl rfl U U) ?_;refine O ?_;refine fR (v:=.pointer (some (h.add 1))) rfl (CE (n:=2) (j:=1) rfl rfl U U) ?_;refine O ?_;refine aR rfl BJ ?_;rintro _ w' ⟨rfl,rfl⟩;refine⟨_,rfl,?_⟩;obtain⟨c1,b⟩:=À (ia d f);rw[<-b];refine O ?_;refine aR rfl BJ ?_;rintro _ w' ⟨rfl,rfl⟩;refine⟨_,rfl,?_⟩;obtain⟨c2,c⟩:=À (ia a2 g);rw[<-c];refine O ?_;refine M5 (T:=W) (len:=2) (parts:=[(0,.tmp 9),(1,.tmp 14)]) [c1,c2] [E c1,E c2] rfl rfl rfl rfl rfl (fP rfl) (fg _) (fP rfl) Y a ?_;clear Y a;intro s w Y a;refine O ?_;refine aR rfl (M6 (Z.rs Y 0 rfl)) ?_;rintro _ w' ⟨rfl,rfl⟩;refine⟨_,rfl,?_⟩;refine O ?_;exact bo (v:=E (xX [c1,c2])) rfl rfl ⟨by rw[b,c];rfl,yT Y a⟩
def Ŕ {g:List Bool}(hk:k<g.length):iN g (k+1)=iN g k++(if g.getD k ah.dflt then [(k:Int)] else []):=by
 unfold iN;rw[lN,Mc];congr 1;by_cases h:g.getD k ah.dflt=true
 ·simp only[Is,It,h,if_true]
 simp only[Is,It,h,if_false,Ea]
def T5 (g:List Bool):∀ k,(iN g k).length<=k
 | 0=>by simp[iN]
 | k+1=>by
  have:=T5 g k;unfold iN at *
  rw[lN,Mc,length_append];have:(filterMap (fun i=>if g.getD i ah.dflt=true then some (i:Int) else none) [k]).length<=1:=by
   simp only[Is,It];split<;>simp
  omega
def ŕ {cv ev gv:Value}(d:dE w0 cv ev gv S)(h:S.aW.length<=4096) :
  Calls ak 120 #[df S cv ev gv] w0 fun e w'=>∃ v,e=.returned v/\Z w0 w' [X W 3 v (xq S.aW)]:=by
 have I:=d.aW;have f:=I.cn;have Y:=Z.start w0;refine bI ar Tryz.func120 ?_;unfold df;refine ep ?_;intro p w Y;refine de [3,5,9,19] (G:=Nat × Value) (fun x=>[(3,x.2),(9,E x.1)]) (fun x w=>x.1<=S.aW.length/\Z w0 w [X W 3 x.2 (iN S.aW x.1)]) (fun x=>S.aW.length-x.1) (0,nS) (fun _=>rfl) ⟨rfl,rfl,az⟩ ⟨bC _,(iH Y).nil⟩ ?_;clear Y;rintro i ⟨k,o⟩ w ⟨hk,Y⟩
 dsimp only at hk Y
 have g:=T5 S.aW k;refine aC ?_ ?_<;>intro h1
 ·have c:k<S.aW.length:=U
  have a:=Ŕ c;refine O ?_;by_cases b:S.aW.getD k ah.dflt=true
  ·rw[b]
   rw[ba b]at a
   repeat (first|refine dS ?_|(refine gA ?_;clear Y;intro s w Y))
   refine⟨(k+1,s),⟨rfl,rfl,az⟩,aX,⟨U,?_⟩,U⟩;rw[a];exact Y.bj
  rw[vZ.2 b];rw[aM b,gj]at a;refine O ?_;exact⟨(k+1,o),⟨rfl,rfl,az⟩,aX,⟨U,by rw[a];exact Y.bj⟩,U⟩
 have a:k=S.aW.length:=U;subst a;refine O ?_;exact bo rfl rfl ⟨o,rfl,by unfold xq;exact Y.bj⟩
def Ŗ (hk:k<l.length)(b:0<k):kh (l.take (k+1))=max (kh (l.take k)) (l.getD k W.dflt):=by
 cases l with
 | nil=>simp at hk
 | cons x r =>
  obtain⟨j,rfl⟩:∃ j,k=j+1:=⟨k-1,U⟩
  have a:j<r.length:=by simpa using hk
  unfold kh;rw[Md,Md,eX W.dflt a];show (r.take j++[r.getD j W.dflt]).foldl max x=_;rw[u0];rfl
def TB (c:RS W w0 v l)(b:0<l.length) :
  Calls ak 168 #[v] w0 fun e w'=>e=.returned (E (kh l))/\Z w0 w' []:=by
 have d:=c.cn;have Y:=Z.start w0;refine bI ar Tryz.func168 ?_;refine aC ?_ ?_<;>intro h1
 ·omega
 refine O ?_;refine de [3,4,12,23] (G:=Nat) (fun k=>[(3,E (kh (l.take k))),(4,E k)]) (fun k w=>1<=k/\k<=l.length/\Z w0 w []) (fun k=>l.length-k) 1 (fun _=>rfl) ⟨by rw[show l.take 1=[l.getD 0 W.dflt] from by cases l with|nil=>simp at b|cons x r=>rfl];rfl,rfl,az⟩ ⟨cP _,b,Y⟩ ?_;clear Y;rintro g k w ⟨f,hk,Y⟩;refine aC ?_ ?_<;>intro h
 ·have a:k<l.length:=U
  refine O ?_;exact⟨k+1,⟨by rw[Ŗ a U];show Value.int .i64 _=Value.int .i64 _;congr 1;split<;>omega,rfl,az⟩,aX,⟨U,U,Y.bj⟩,U⟩
 rw[io U];refine O ?_;exact bo rfl rfl ⟨rfl,Y.bj⟩
def T6 (a:RS W w0 v l)(b:0<l.length)(hm:0<=kh l/\kh l<=65536) :
  Calls ak 148 #[v] w0 fun e w'=>e=.returned (E (kh l+1))/\Z w0 w' []:=by
 obtain⟨c,d⟩:=hm;have Y:=Z.start w0;refine bI ar Tryz.func148 ?_;refine O ?_;refine aR rfl (TB a b) ?_;refine iw ?_;intro w' Y;exact bo rfl rfl ⟨rfl,Y.bj⟩
def Jl {α:Type}{d:α}{A B:List α}(a:A.length=B.length)(h:∀ i,i<A.length->A.getD i d=B.getD i d):A=B:=by
 apply jB a;intro i h1 b;have:=h i h1
 rwa[aq h1,aq b]at this
instance Px:s5 ak 3 .i64:=⟨kr⟩
def ŗ {x y:bE}(h1:x.var=y.var)(h2:x.val=y.val):x=y:=by cases x;cases y;simp_all
instance Py:j9 ak 63 2:=⟨kr⟩
def M7 {A B:List bE}(g:RS aD w0 z A)(h:RS aD w0 C B) :
  Calls ak 61 #[z,C] w0 fun e w'=>(∃ r,e=.returned (.bool r)/\(r=true↔A=B))/\Z w0 w' []:=by
 have j:=g.cn;have n:=h.cn;have Y:=Z.start w0;refine bI ar Tryz.func61 ?_;refine aC ?_ ?_<;>intro h1
 ·refine O ?_
  exact bo (v:=.bool false) rfl rfl ⟨⟨false,rfl,dU fun e=>by rw[e]at h1;omega⟩,Y.bj⟩
 refine O ?_;refine de [4,5,13,25] (G:=Nat) (fun i=>[(13,E i)]) (fun i w=>i<=A.length/\(∀ m,m<i->A.getD m aD.dflt=B.getD m aD.dflt)/\Z w0 w []) (fun i=>A.length-i) 0 (fun _=>rfl) ⟨rfl,az⟩ ⟨bC _,fun i f=>absurd f (eo _),Y.bj⟩ ?_;clear Y;rintro t i w ⟨f,a,Y⟩;refine aC ?_ ?_<;>intro x
 ·have o:i<A.length:=U
  refine dD ?_;intro w Y;refine fR rfl (T7 (us:=[(A.getD i aD.dflt).var,(A.getD i aD.dflt).val]) (zs:=[(B.getD i aD.dflt).var,(B.getD i aD.dflt).val]) rfl rfl rfl rfl) ?_;by_cases b:A.getD i aD.dflt=B.getD i aD.dflt
  ·have c:decide ([(A.getD i aD.dflt).var,(A.getD i aD.dflt).val]=[(B.getD i aD.dflt).var,(B.getD i aD.dflt).val])=true:=dH (by rw[b])
   refine rK ?_;simp only[c,pz];refine O ?_;refine⟨i+1,⟨rfl,az⟩,aX,⟨U,fun m hm=>?_,Y.bj⟩,U⟩;by_cases e:m=i
   ·subst e;exact b
   exact a m U
  have c:decide ([(A.getD i aD.dflt).var,(A.getD i aD.dflt).val]=[(B.getD i aD.dflt).var,(B.getD i aD.dflt).val])=false:=dB fun e=>b (by
   injection e with q d
   injection d with d _
   exact ŗ q d)
  refine rK ?_;simp only[c,r5];refine O ?_;exact bo (v:=.bool false) rfl rfl ⟨⟨false,rfl,dU fun e=>b (by rw[e])⟩,Y.bj⟩
 have b:i=A.length:=U;subst b;refine O ?_;exact bo (v:=.bool true) rfl rfl ⟨⟨true,rfl,js (Jl U a)⟩,Y.bj⟩
def Fe {A B:J}(d:RS W w0 z A)(f:RS W w0 C B) :
  Calls ak 60 #[z,C] w0 fun e w'=>(∃ r,e=.returned (.bool r)/\(r=true↔A=B))/\Z w0 w' []:=by
 have g:=d.cn;have h:=f.cn;have Y:=Z.start w0;refine bI ar Tryz.func60 ?_;refine aC ?_ ?_<;>intro h1
 ·refine O ?_
  exact bo (v:=.bool false) rfl rfl ⟨⟨false,rfl,dU fun e=>by rw[e]at h1;omega⟩,Y.bj⟩
 refine O ?_;refine de [4,5,13,25] (G:=Nat) (fun i=>[(13,E i)]) (fun i w=>i<=A.length/\(∀ m,m<i->A.getD m W.dflt=B.getD m W.dflt)/\Z w0 w []) (fun i=>A.length-i) 0 (fun _=>rfl) ⟨rfl,az⟩ ⟨bC _,fun i c=>absurd c (eo _),Y.bj⟩ ?_;clear Y;rintro n i w ⟨c,a,Y⟩;refine aC ?_ ?_<;>intro o
 ·have j:i<A.length:=U
  refine sU ?_ ?_<;>intro w Y b
  ·refine O ?_
   exact bo (v:=.bool false) rfl rfl ⟨⟨false,rfl,dU fun e=>by rw[e]at b;exact b rfl⟩,Y.bj⟩
  refine O ?_;refine⟨i+1,⟨rfl,az⟩,aX,⟨U,fun m hm=>?_,Y.bj⟩,U⟩;by_cases e:m=i
  ·subst e;exact b
  exact a m U
 have b:i=A.length:=U;subst b;refine O ?_;exact bo (v:=.bool true) rfl rfl ⟨⟨true,rfl,js (Jl U a)⟩,Y.bj⟩
def T8:(true == false)=false:=rfl
def T9:(false == true)=false:=rfl
def B7 (v:Value):gv false v=undef:=by unfold gv;rfl
def B8 (v:Value):gv true v=v:=bJ rfl
def eW {G a:Prop}(h:a)(b:Go.Sl.eO a->G:=by intro hgo;(try simp only[yk,T8,T9,Ei,Ej,uS,ID,pz,r5,FH,FJ,B7,B8]);exact hgo.out):G:=b ⟨h⟩
def BK {G a:Prop}(h:a)(b:Go.Sl.eO a->G:=by intro hgo;(try simp only[yk,T8,T9,Ei,Ej,pz,r5,FH,FJ,B7,B8]);exact hgo.out):G:=b ⟨h⟩
def M8 {w:World}{Γ:List HP}{v:lG}{e:mr}(h:sZ w0 v e)(Y:Z w0 w Γ):sZ w v e:=⟨h.var,h.val,h.cb.at Y⟩
def Ua {w:World}{Γ:List HP}{s:Value}{vs:List lG}{es:List mr}(h:mQ w0 s vs es)(Y:Z w0 w Γ):mQ w s vs es:=⟨h.rs.at Y,h.len,fun i a=>M8 (h.eI i a) Y⟩
def Ř {x y:mr}(h1:x.var=y.var)(h2:x.val=y.val)(a:x.cb=y.cb):x=y:=by cases x;cases y;simp_all
def ř {x y:lG}{ex i:mr}(hx:sZ w0 x ex)(c:sZ w0 y i) :
  Calls ak 93 #[.agg (bm.enc x).toArray,.agg (bm.enc y).toArray] w0 fun e w'=>(∃ r,e=.returned (.bool r)/\(r=true↔ex=i))/\Z w0 w' []:=by
 have t:=hx.one;have A:=c.one;have j:=hx.var;have m:=c.var;have n:=hx.val;have o:=c.val;have f:=hx.cb;have g:=c.cb;have Y:=Z.start w0;refine bI ar Tryz.func93 ?_;by_cases h1:x.var=y.var;rotate_left
 ·have a:decide (x.var=y.var)=false:=dB h1
  repeat (first|refine dS ?_|(refine iT ?_;clear Y;intro p w Y))
  try simp only[a];refine BK ?_
  refine O ?_;exact bo (v:=.bool false) rfl rfl ⟨⟨false,rfl,dU fun e=>h1 (by rw[j,m,e])⟩,Y.bj⟩
 have a:decide (x.var=y.var)=true:=dH h1;by_cases d:x.val=y.val;rotate_left
 ·have b:decide (x.val=y.val)=false:=dB d
  repeat (first|refine dS ?_|(refine iT ?_;clear Y;intro p w Y))
  try simp only[a,b];refine BK ?_
  refine O ?_;exact bo (v:=.bool false) rfl rfl ⟨⟨false,rfl,dU fun e=>d (by rw[n,o,e])⟩,Y.bj⟩
 have b:decide (x.val=y.val)=true:=dH d
 repeat (first|refine dS ?_|(refine iT ?_;clear Y;intro p w Y))
 try simp only[a,b];refine BK ?_
 refine O ?_;refine aR rfl (M7 (f.at Y) (g.at Y)) ?_;rintro _ w' ⟨⟨r,rfl,q⟩,aw⟩;refine aL ?_;clear aw Y;intro Y;refine O ?_;exact bo (v:=.bool r) rfl rfl ⟨⟨r,rfl,q.trans ⟨fun h=>Ř (by rw[<-j,<-m,h1]) (by rw[<-n,<-o,d]) h,fun h=>by rw[h]⟩⟩,Y.bj⟩
def Ś {t x:List lG}{A B:List mr}(d:mQ w0 z t A)(f:mQ w0 C x B) :
  Calls ak 92 #[z,C,.func (.func 93) #[] #[]] w0 fun e w'=>(∃ r,e=.returned (.bool r)/\(r=true↔A=B))/\Z w0 w' []:=by
 have g:=d.rs;have h:=f.rs;have j:=d.len;have y:=f.len;have D:=g.cn;have F:=h.cn;have Y:=Z.start w0;refine bI ar Tryz.func92 ?_;refine aC ?_ ?_<;>intro h1
 ·refine O ?_
  exact bo (v:=.bool false) rfl rfl ⟨⟨false,rfl,dU fun e=>by rw[e]at j;omega⟩,Y.bj⟩
 refine O ?_;refine de [6,9,17,31] (G:=Nat) (fun i=>[(17,E i)]) (fun i w=>i<=A.length/\(∀ m,m<i->A.getD m bQ=B.getD m bQ)/\Z w0 w []) (fun i=>A.length-i) 0 (fun _=>rfl) ⟨rfl,az⟩ ⟨bC _,fun i o=>absurd o (eo _),Y.bj⟩ ?_;clear Y;rintro H i w ⟨o,a,Y⟩;refine aC ?_ ?_<;>intro K
 ·have n:i<A.length:=U
  have b:=d.eI i n;have c:=f.eI i U;have L:=b.one;have N:=c.one
  repeat (first|refine dS ?_|(refine iT ?_;clear Y;intro p w Y)|(refine rG ?_;clear Y;intro w Y))
  refine xK (cs:=[]) rfl rfl (ř (M8 b Y) (M8 c Y)) ?_;rintro _ w' ⟨⟨r,rfl,q⟩,aw⟩;refine aL ?_;clear aw Y;intro Y;cases r
  ·refine O ?_
   exact bo (v:=.bool false) rfl rfl ⟨⟨false,rfl,dU fun e=>by have:=q.2 (by rw[e]);cases this⟩,Y.bj⟩
  refine O ?_;refine⟨i+1,⟨rfl,az⟩,aX,⟨U,fun m hm=>?_,Y.bj⟩,U⟩;by_cases e:m=i
  ·subst e;exact q.1 rfl
  exact a m U
 have b:i=A.length:=U;subst b;refine O ?_;exact bo (v:=.bool true) rfl rfl ⟨⟨true,rfl,js (Jl U a)⟩,Y.bj⟩
def ś {x y:mM}(h1:x.name=y.name)(h2:x.aT=y.aT)(a:x.pre=y.pre)(b:x.aQ=y.aQ):x=y:=by cases x;cases y;simp_all
def Ŝ {x y:kq}{m n:mM}(hx:sK w0 x m)(f:sK w0 y n) :
  Calls ak 63 #[.agg (cN.enc x).toArray,.agg (cN.enc y).toArray] w0 fun e w'=>(∃ r,e=.returned (.bool r)/\(r=true↔m=n))/\Z w0 w' []:=by
 have H:=hx.one;have K:=f.one;have Y:=Z.start w0;refine bI ar Tryz.func63 ?_;have o:=hx.name;have q:=f.name;have t:=hx.aT;have A:=f.aT;have F:=hx.pre;have G:=f.pre;obtain⟨ex,hex⟩:=hx.aQ;obtain⟨L,i⟩:=f.aQ
 repeat (first|refine dS ?_|(refine iT ?_;clear Y;intro p w Y))
 refine fR rfl (ŝ (a:=x.name) (b:=y.name) rfl rfl) ?_;by_cases h1:x.name=y.name;rotate_left
 ·have c:decide (x.name=y.name)=false:=dB h1
  refine O ?_
  try simp only[c];refine BK ?_
  refine O ?_;exact bo (v:=.bool false) rfl rfl ⟨⟨false,rfl,dU fun e=>h1 (by rw[o,q,e])⟩,Y.bj⟩
 have c:decide (x.name=y.name)=true:=dH h1;by_cases g:x.aT=y.aT;rotate_left
 ·have d:decide (x.aT=y.aT)=false:=dB g
  refine O ?_
  try simp only[c,d];refine BK ?_
  refine O ?_;exact bo (v:=.bool false) rfl rfl ⟨⟨false,rfl,dU fun e=>g (by rw[t,A,e])⟩,Y.bj⟩
 have d:decide (x.aT=y.aT)=true:=dH g;refine O ?_
 try simp only[c,d];refine BK ?_
 refine O ?_;refine aR rfl (M7 (F.at Y) (G.at Y)) ?_;rintro _ w' ⟨⟨r,rfl,B⟩,aw⟩;refine aL ?_;clear aw Y;intro Y;cases r
 ·refine O ?_
  exact bo (v:=.bool false) rfl rfl ⟨⟨false,rfl,dU fun e=>by have:=B.2 (by rw[e]);cases this⟩,Y.bj⟩
 refine O ?_;refine aR rfl (Ś (Ua hex Y) (Ua i Y)) ?_;rintro _ w' ⟨⟨D,rfl,j⟩,aw⟩;refine aL ?_;clear aw Y;intro Y;refine O ?_;exact bo (v:=.bool D) rfl rfl ⟨⟨D,rfl,j.trans ⟨fun h=>ś (by rw[<-o,<-q,h1]) (by rw[<-t,<-A,g]) (B.1 rfl) h,fun h=>by rw[h]⟩⟩,Y.bj⟩
def Ş {t x:List kq}{A B:List mM}(d:vE w0 z t A)(f:vE w0 C x B) :
  Calls ak 62 #[z,C,.func (.func 63) #[] #[]] w0 fun e w'=>(∃ r,e=.returned (.bool r)/\(r=true↔A=B))/\Z w0 w' []:=by
 have g:=d.rs;have h:=f.rs;have j:=d.len;have y:=f.len;have D:=g.cn;have F:=h.cn;have Y:=Z.start w0;refine bI ar Tryz.func62 ?_;refine aC ?_ ?_<;>intro h1
 ·refine O ?_
  exact bo (v:=.bool false) rfl rfl ⟨⟨false,rfl,dU fun e=>by rw[e]at j;omega⟩,Y.bj⟩
 refine O ?_;refine de [6,9,17,31] (G:=Nat) (fun i=>[(17,E i)]) (fun i w=>i<=A.length/\(∀ m,m<i->A.getD m bz=B.getD m bz)/\Z w0 w []) (fun i=>A.length-i) 0 (fun _=>rfl) ⟨rfl,az⟩ ⟨bC _,fun i o=>absurd o (eo _),Y.bj⟩ ?_;clear Y;rintro H i w ⟨o,a,Y⟩;refine aC ?_ ?_<;>intro K
 ·have n:i<A.length:=U
  have b:=d.eI i n;have c:=f.eI i U;have L:=b.one;have N:=c.one
  repeat (first|refine dS ?_|(refine iT ?_;clear Y;intro p w Y)|(refine rG ?_;clear Y;intro w Y))
  refine xK (cs:=[]) rfl rfl (Ŝ (b.at Y) (c.at Y)) ?_;rintro _ w' ⟨⟨r,rfl,q⟩,aw⟩;refine aL ?_;clear aw Y;intro Y;cases r
  ·refine O ?_
   exact bo (v:=.bool false) rfl rfl ⟨⟨false,rfl,dU fun e=>by have:=q.2 (by rw[e]);cases this⟩,Y.bj⟩
  refine O ?_;refine⟨i+1,⟨rfl,az⟩,aX,⟨U,fun m hm=>?_,Y.bj⟩,U⟩;by_cases e:m=i
  ·subst e;exact q.1 rfl
  exact a m U
 have b:i=A.length:=U;subst b;refine O ?_;exact bo (v:=.bool true) rfl rfl ⟨⟨true,rfl,js (Jl U a)⟩,Y.bj⟩
def ş {x y:aa}(h1:x.vars=y.vars)(h2:x.dt=y.dt)(a:x.aF=y.aF)(b:x.M=y.M):x=y:=by cases x;cases y;simp_all
def Ub {a b c d a2 q c2 d2:Value}{vs us:List kq}{t u:aa}(x:bR w0 a b c d vs t)(hu:bR w0 a2 q c2 d2 us u) :
  Calls ak 36 #[.agg #[a,b,c,d],.agg #[a2,q,c2,d2]] w0 fun e w'=>(∃ r,e=.returned (.bool r)/\(r=true↔t=u))/\Z w0 w' []:=by
 have B:=x;have D:=hu;obtain⟨F,G,H,K⟩:=x;obtain⟨i,j,m,n⟩:=hu;have Y:=Z.start w0;refine bI ar Tryz.func36 ?_
 repeat (first|refine dS ?_|(refine iT ?_;clear Y;intro p w Y))
 refine aR rfl (Fe (F.at Y) (i.at Y)) ?_;rintro _ w' ⟨⟨r,rfl,y⟩,aw⟩;refine aL ?_;clear aw Y;intro Y;cases r
 ·refine O ?_
  exact bo (v:=.bool false) rfl rfl ⟨⟨false,rfl,dU fun e=>by have:=y.2 (by rw[e]);cases this⟩,Y.bj⟩
 refine O ?_;refine aR rfl (Fe (G.at Y) (j.at Y)) ?_;rintro _ w' ⟨⟨L,rfl,f⟩,aw⟩;refine aL ?_;clear aw Y;intro Y;cases L
 ·refine O ?_
  exact bo (v:=.bool false) rfl rfl ⟨⟨false,rfl,dU fun e=>by have:=f.2 (by rw[e]);cases this⟩,Y.bj⟩
 refine O ?_;refine aR rfl (M7 (H.at Y) (m.at Y)) ?_;rintro _ w' ⟨⟨N,rfl,g⟩,aw⟩;refine aL ?_;clear aw Y;intro Y;cases N
 ·refine O ?_
  exact bo (v:=.bool false) rfl rfl ⟨⟨false,rfl,dU fun e=>by have:=g.2 (by rw[e]);cases this⟩,Y.bj⟩
 refine O ?_;refine aR rfl (Ş (K.at Y) (n.at Y)) ?_;rintro _ w' ⟨⟨A,rfl,o⟩,aw⟩;refine aL ?_;clear aw Y;intro Y;refine O ?_;exact bo (v:=.bool A) rfl rfl ⟨⟨A,rfl,o.trans ⟨fun h=>ş (y.1 rfl) (f.1 rfl) (g.1 rfl) h,fun h=>by rw[h]⟩⟩,Y.bj⟩
def xP (h:¬cW S):jY S=false:=by unfold jY;simp only[h,decide_false]
def Cx (h:cW S):jY S=true:=by unfold jY;simp only[h,decide_true]
def AX (S:ct)(i:Nat):Prop:=(0<=(S.aH.getD i aV.dflt).br/\(S.aH.getD i aV.dflt).br<S.st)/\(0<=(S.aH.getD i aV.dflt).dst/\(S.aH.getD i aV.dflt).dst<S.st)/\(0<=(S.aH.getD i aV.dflt).cU/\(S.aH.getD i aV.dflt).cU<S.aN.length)/\(0<i->fE (S.aH.getD (i-1) aV.dflt) (S.aH.getD i aV.dflt)<0)
def cW.Uc (h:cW S){i:Nat}(hi:i<S.aH.length):AX S i:=by
 obtain⟨_,_,_,_,_,_,_,_,h1,d⟩:=h;obtain⟨a,b,c⟩:=h1 _ (cS aV.dflt hi);exact⟨a,b,c,fun e=>d i e hi⟩
def F5 {cv ev gv:Value}(H:dE w0 cv ev gv S) :
  Calls ak 118 #[df S cv ev gv] w0 fun e w'=>e=.returned (.bool (jY S))/\Z w0 w' []:=by
 have K:=H.aN;have L:=H.aH;have N:=H.aW;have T:=K.cn;have V:=L.cn;have j':=N.cn;have Y:=Z.start w0;refine bI ar Tryz.func118 ?_;unfold df;refine lE ?_ ?_<;>intro p w Y h1
 ·have x:¬cW S:=fun⟨a,b,c,d,e,f,g,_⟩=>U
  refine O ?_;exact bo (v:=.bool false) rfl rfl ⟨by rw[xP x],Y.bj⟩
 obtain⟨⟨⟨⟨⟨⟨a1,a2⟩,a3⟩,a4⟩,a5⟩,a6⟩,a7⟩:=h1;refine O ?_;have Y:Z w0 w [am p 142 [E S.st,E S.cj,cv,ev,gv]]:=Y;obtain⟨P,rfl⟩:=À p;refine de [2,2,4,4,50,60] (G:=Nat) (fun k=>[(50,E k),(2,.bool false)]) (fun k w=>k<=S.aN.length/\(∀ i,i<k->0<=S.aN.getD i W.dflt/\S.aN.getD i W.dflt<=1048576)/\Z w0 w [am P 142 [E S.st,E S.cj,cv,ev,gv]]) (fun k=>S.aN.length-k) 0 (fun _=>rfl) ⟨rfl,rfl,az⟩ ⟨bC _,fun i m=>absurd m (eo _),Y⟩ ?_;clear Y;rintro σ k w ⟨hk,y,Y⟩;refine aC ?_ ?_<;>intro h2
 ·refine aC ?_ ?_<;>intro n
  ·have x:¬cW S:=fun⟨_,_,_,_,_,_,_,h,_⟩=>by
    have:=h _ (cS W.dflt (show k<S.aN.length by omega));omega
   refine O ?_;exact bo (v:=.bool false) rfl rfl ⟨by rw[xP x],Y.bj⟩
  obtain⟨o,t⟩:=n;refine O ?_;refine⟨k+1,⟨rfl,rfl,az⟩,aX,⟨U,fun i m=>?_,Y⟩,U⟩;by_cases e:i=k
  ·subst e;exact⟨o,t⟩
  exact y i U
 have A:∀ c∈S.aN,0<=c/\c<=1048576:=fun c F=>by
  obtain⟨i,m,rfl⟩:=ga F;have:=y i U
  rwa[aq m]at this
 clear y;refine O ?_;refine de [2,2,5,6,64,119] (G:=Nat) (fun k=>[(64,E k),(2,.bool false)]) (fun k w=>k<=S.aH.length/\(∀ i,i<k->AX S i)/\Z w0 w [am P 142 [E S.st,E S.cj,cv,ev,gv]]) (fun k=>S.aH.length-k) 0 (fun _=>rfl) ⟨rfl,rfl,az⟩ ⟨bC _,fun i m=>absurd m (eo _),Y⟩ ?_;clear Y;rintro σ k w ⟨hk,t,Y⟩;refine aC ?_ ?_<;>intro h4
 ·have B:k<S.aH.length:=U
  obtain⟨a,R⟩:=À (S.aH.getD k aV.dflt);have n:AX S k↔(0<=a.br/\a.br<S.st)/\(0<=a.dst/\a.dst<S.st)/\(0<=a.cU/\a.cU<S.aN.length)/\(0<k->fE (S.aH.getD (k-1) aV.dflt) a<0):=by rw[R];exact zI
  refine dj ?_;intro p w Y;have Y:Z w0 w [am p 190 [E a.br,E a.cU,E a.dst],am P 142 [E S.st,E S.cj,cv,ev,gv]]:=by rw[R];exact Y
  refine qM ?_;clear Y;intro w Y;refine O ?_;by_cases o:(decide (a.br<0) || decide (S.st<=a.br) || decide (a.dst<0) || decide (S.st<=a.dst) || decide (a.cU<0) || decide ((S.aN.length:Int)<=a.cU))=true
  ·have x:¬cW S:=fun h=>by
    have:=(n.1 (h.Uc B))
    simp only[sL,jV]at o;omega
   try simp only[o];refine eW ?_
   refine O ?_;exact bo (v:=.bool false) rfl rfl ⟨by rw[xP x],Y.bj⟩
  rw[tL]at o
  try simp only[o];refine eW ?_
  simp only[zG,rL]at o;refine O ?_;by_cases D:0<k
  ·have Q:decide ((0:Int)<(k:Int))=true:=dH U
   try simp only[Q];refine eW ?_
   refine O ?_;refine aR rfl (Ud (S.aH.getD ((k:Int)-1).toNat aV.dflt) a) ?_;rintro _ w' ⟨rfl,q,os,rfl⟩;refine⟨_,rfl,?_⟩;replace Y:=(Y.ahead q).grow os;have e1:((k:Int)-1).toNat=k-1:=U;rw[e1];obtain⟨c,F⟩:=À (fE (S.aH.getD (k-1) aV.dflt) a);rw[<-F]at n ⊢;clear F;refine aC ?_ ?_<;>intro h5
   ·have x:¬cW S:=fun h=>by
     have:=(n.1 (h.Uc B)).2.2.2 D;omega
    refine O ?_;exact bo (v:=.bool false) rfl rfl ⟨by rw[xP x],Y.bj⟩
   refine O ?_;refine⟨k+1,⟨rfl,rfl,az⟩,aX,⟨U,fun i m=>?_,Y.bj⟩,U⟩;by_cases e:i=k
   ·subst e;exact n.2 ⟨U,U,U,fun _=>U⟩
   exact t i U
  have Q:decide ((0:Int)<(k:Int))=false:=dB U
  try simp only[Q];refine eW ?_
  refine O ?_;refine⟨k+1,⟨rfl,rfl,az⟩,aX,⟨U,fun i m=>?_,Y.bj⟩,U⟩;by_cases e:i=k
  ·subst e;exact n.2 ⟨U,U,U,fun h=>absurd h D⟩
  exact t i U
 refine O ?_;refine bo (v:=.bool true) rfl rfl ⟨?_,Y.bj⟩;rw[Cx ⟨a1,a2,a3,a4,a5,U,U,A,fun e he=>?_,fun i n m=>(t i U).2.2.2 n⟩];obtain⟨i,m,rfl⟩:=ga he;have:=t i U;unfold AX at this;rw[aq m]at this;exact⟨this.1,this.2.1,this.2.2.1⟩
instance Pz:xy ak 288 9 3:=⟨kr⟩
instance PA:sB ak 3 (E 0):=⟨kr⟩
def l6:Ty ByteArray:=⟨1,fun b=>[.string b],fun _=>rfl,⟨#[]⟩⟩
def tY:List ByteArray->Nat->List (ByteArray × Value)
 | [],_=>[]
 | s::u,i=>(s,E i)::tY u (i+1)
def vm (u:List ByteArray)(s:ByteArray):Nat:=u.findIdx fun x=>decide (x=s)
def Ue (s:ByteArray):∀ (u:List ByteArray) (i:Nat),tY (u++[s]) i=tY u i++[(s,E (i+u.length:Nat))]
 | [],i=>rfl
 | x::u,i=>by
  simp only[uR,tY,Ue s u (i+1),length_cons];rw[show i+1+u.length=i+(u.length+1) from by omega]
def M9:∀ (u:List ByteArray) (i:Nat),(tY u i).length=u.length
 | [],_=>rfl
 | _::u,i=>by simp only[tY,length_cons,M9 u]
def Na {s:ByteArray}:∀ {u:List ByteArray}{i j:Nat},s∉u->jP s (tY u i) j=none
 | [],_,_,_=>rfl
 | x::u,i,j,h=>by
  simp only[tY,jP];rw[aM (fun e=>h (by rw[e];simp)),Na (fun a=>h (nt _ a))]
def Uf {s:ByteArray}:∀ {u:List ByteArray}{i j:Nat},s∈u->(jP s (tY u i) j).map (·.2)=some (E (i+vm u s:Nat))
 | [],_,_,h=>by simp at h
 | x::u,i,j,h=>by
  simp only[tY,jP,vm,findIdx_cons];by_cases e:s=x
  ·rw[ba e,dH e.symm];rfl
  rw[aM e,dB (Ne.symm e)];rcases gT.1 h with h|h
  ·exact absurd h e
  rw[Uf (i:=i+1) h];simp only[cond_false,vm];rw[show i+1+u.findIdx (fun x=>decide (x=s))=i+(u.findIdx (fun x=>decide (x=s))+1) from by omega]
def Da (u:List ByteArray)(s:ByteArray):List ByteArray:=if u.any (fun x=>decide (x=s)) then u else u++[s]
def Š {l:List ByteArray}(hk:k<l.length):cR (l.take (k+1))=Da (cR (l.take k)) (l.getD k l6.dflt):=by
 unfold cR;rw[eX l6.dflt hk,u0];rfl
def Ug:∀ (l u:List ByteArray),∃ r,l.foldl (fun u s=>if u.any (fun x=>decide (x=s)) then u else u++[s]) u=u++r
 | [],u=>⟨[],sm⟩
 | s::l,u=>by
  rw[xe];obtain⟨r,a⟩:=Ug l (if u.any (fun x=>decide (x=s)) then u else u++[s]);rw[a];split
  ·exact⟨r,rfl⟩
  exact⟨s::r,sm⟩
def Uh (l:List ByteArray)(k:Nat):∃ r,cR l=cR (l.take k)++r:=by
 have h:=Ug (l.drop k) (cR (l.take k));obtain⟨r,a⟩:=h;refine⟨r,?_⟩;rw[<-a];unfold cR;rw[<-u0,Ak]
def Ui (h:s∈u):vm (u++r) s=vm u s:=by
 unfold vm;rw[findIdx_append,ba];exact findIdx_lt_length_of_exists ⟨s,h,dH rfl⟩
def š (h:s∉u):vm (u++[s]++r) s=u.length:=by
 rw[Ui sm];unfold vm;rw[findIdx_append,aM]
 ·simp
 intro a;have:=findIdx_getElem (w:=a);have b:=x5 this;exact h (by rw[<-b];exact zq _)
def Ţ (l:List ByteArray):∀ u:List ByteArray,(l.foldl (fun u s=>if u.any (fun x=>decide (x=s)) then u else u++[s]) u).length<=u.length+l.length:=by
 induction l with
 | nil=>intro u;simp
 | cons s l a =>
  intro u;rw[xe];refine rN (a _) ?_;split
  ·simp only[length_cons];omega
  simp only[length_append,length_cons,length_nil];omega
def ţ (l:List ByteArray):(cR l).length<=l.length:=by have:=Ţ l [];simpa [cR] using this
def Tw {L:List ByteArray}(D:RS l6 w0 v L)(F:L.length<=65536) :
  Calls ak 172 #[v] w0 fun e w'=>∃ cv,e=.returned (.tuple #[cv,E ((cR L).length:Nat)])/\Z w0 w' [X W 3 cv (dX L)]:=by
 have Y:=Z.start w0;refine bI ar Tryz.func172 ?_;refine O ?_;refine Ť qX Y ?_;clear Y;intro m w Y;refine O ?_;have o:dX L=L.map fun s=>(vm (cR L) s:Int):=rfl;have Y:Z w0 w [X W 3 (nS) [],tc qX m (tY (cR (L.take 0)) 0)]:=by rw[yn,show tY (cR []) 0=[] from rfl];exact(Y.nil (T:=W) (e:=3)).bj
 refine dP [5,5,7,9,13,34] (G:=Nat) (H:=Value) (fun k n=>[(13,E k),(5,n)]) (fun k n w=>k<=L.length/\Z w0 w [X W 3 n ((L.take k).map fun s=>(vm (cR L) s:Int)),tc qX m (tY (cR (L.take k)) 0)]) (fun k _=>L.length-k) 0 (nS) (fun _ _=>rfl) ⟨rfl,rfl,az⟩ ⟨bC _,Y⟩ ?_;clear Y;rintro K k n w ⟨hk,Y⟩;refine aC ?_ ?_<;>intro h1
 ·have d:k<L.length:=U
  have f:=Š d;have A:=ţ (L.take k);rw[jC]at A;obtain⟨u,hu⟩:=À (cR (L.take k));obtain⟨b,t⟩:=À (L.getD k l6.dflt);rw[<-hu,<-t]at f;rw[<-hu]at Y A;have B:((L.take k).map fun s=>(vm (cR L) s:Int)).length=k:=by rw[lA,jC];omega
  refine O ?_;rw[<-t];refine r7 rfl (ť (m:=m) (κ:=qX) (q:=b) rfl rfl Y inferInstance) ?_;by_cases hm:b∈u
  ·have I:vM (tY u 0) b=some (E (vm u b:Nat)):=by
    have:=Uf (i:=0) (j:=0) hm;rw[xT]at this;exact this
   rw[I]
   repeat (first|refine dS ?_|(refine gA ?_;clear Y;intro s w Y))
   have a:cR (L.take (k+1))=u:=by rw[f];unfold Da;rw[ba (Jm.2 hm)]
   obtain⟨r,x⟩:=Uh L (k+1);have g:vm (cR L) b=vm u b:=by rw[x,a,Ui hm]
   refine⟨k+1,s,⟨rfl,rfl,az⟩,aX,⟨U,?_⟩,U⟩;rw[a,eX l6.dflt d,qG,<-t];simp only[pV,uL,g];exact Y.bj
  have I:vM (tY u 0) b=none:=by unfold vM;rw[Na hm];rfl
  rw[I];have a:cR (L.take (k+1))=u++[b]:=by rw[f];unfold Da;rw[aM (fun h=>hm (Jm.1 h))]
  obtain⟨r,x⟩:=Uh L (k+1);have g:vm (cR L) b=u.length:=by rw[x,a,š hm]
  have c:=M9 u 0;refine O ?_;refine r7 rfl (Uj (m:=m) (κ:=qX) rfl Y inferInstance) ?_;rw[c];refine O ?_;refine Ŧ (m:=m) (κ:=qX) (q:=b) (v:=E (u.length:Nat)) rfl rfl rfl Y inferInstance ?_;clear Y;intro w Y;have y:vN (tY u 0) b (E (u.length:Nat))=tY (u++[b]) 0:=by
   unfold vN;rw[Na hm,Ue,xT]
  rw[y]at Y
  repeat (first|refine dS ?_|(refine gA ?_;clear Y;intro s w Y))
  refine⟨k+1,s,⟨rfl,rfl,az⟩,aX,⟨U,?_⟩,U⟩;rw[a,eX l6.dflt d,qG,<-t];simp only[pV,uL,g];exact Y.bj
 rw[io U,<-o]at Y;have c:=M9 (cR L) 0;refine O ?_;refine r7 rfl (Uj (m:=m) (κ:=qX) rfl Y inferInstance) ?_;rw[c];refine O ?_;exact dw (v:=n) (v':=E ((cR L).length:Nat)) rfl rfl rfl ⟨n,rfl,Y.bj⟩
def ŧ (b:Bool):Calls ak 188 #[.bool b] w0 fun e w'=>e=.returned (.string (lJ b))/\Z w0 w' []:=by
 have Y:=Z.start w0;refine bI ar Tryz.func188 ?_
 cases b with
 | true =>
  refine O ?_
  exact bo (v:=.string (lJ true)) rfl rfl ⟨rfl,Y⟩
 | false =>
  refine O ?_;exact bo (v:=.string (lJ false)) rfl rfl ⟨rfl,Y⟩
instance PB:au ak 188:=⟨kr⟩
def ę (b:Bool):Calls ak 171 #[.bool b] w0 fun e w'=>e=.returned (.string (lJ b))/\Z w0 w' []:=by
 have Y:=Z.start w0;refine bI ar Tryz.func171 ?_;refine O ?_;refine aR rfl (ŧ b) ?_;refine iw ?_;intro w' Y;exact bo (v:=.string (lJ b)) rfl rfl ⟨rfl,Y⟩
end Go.Proofs.YtmapkjoefdgjfaaGreatDoor
