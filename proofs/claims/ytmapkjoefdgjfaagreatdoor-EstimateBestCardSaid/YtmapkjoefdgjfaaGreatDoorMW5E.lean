/- Several texts. -/
import Derived.Test.YtmapkjoefdgjfaaGreatDoorMW4E
set_option linter.unusedSimpArgs false
set_option linter.unusedVariables false
set_option linter.defProp false
set_option maxRecDepth 8000
set_option maxHeartbeats 16000000
open List Nat
namespace Go.Proofs.YtmapkjoefdgjfaaGreatDoor
open Go.Sl Go
variable {w0:World}{S:bZ}{z C v:Value}{k:Nat}{l:J}{u r:List ByteArray}{s:ByteArray}
attribute [local irreducible] vc opsW opsD opV opW PureV ReadV Thn Blk
instance Uv:zj ai 291 2:=⟨3,kr,fun w=>kr⟩
def Zx (d a2 f g:Int) :
  Calls ai 190 #[.agg #[E d,E a2],.agg #[E f,E g]] w0 fun e w'=>e=.returned (E (oP (d,a2) (f,g)))/\∃ (q:Nat) (os:Array Obj),w'=Sort.grow (w0.drewN q) os:=by
 have Y:=Z.start w0;have a:=Dr.refl w0;refine bA an Tryz.func190 ?_;refine uI ?_;refine tm ?_;refine CX (vs:=[E d,E a2]) rfl Y a ?_;clear Y a;intro p w Y a;refine CX (vs:=[E f,E g]) rfl Y a ?_;clear Y a;intro h w Y a;refine O ?_;refine Lb (pl [0,1,2,3,5,6,7,8,4] (.cI 6::.cI 8::pl [9,10,11,12] [])) Y a kr ?_;clear Y a;intro w Y a;refine Ag ?_;refine eY (v:=.pointer (some (p.add 0))) rfl (Bk (n:=2) (j:=0) rfl rfl U U) ?_;refine O ?_;refine eY (v:=.pointer (some (h.add 0))) rfl (Bk (n:=2) (j:=0) rfl rfl U U) ?_;refine O ?_;refine eY (v:=.pointer (some (p.add 1))) rfl (Bk (n:=2) (j:=1) rfl rfl U U) ?_;refine O ?_;refine eY (v:=.pointer (some (h.add 1))) rfl (Bk (n:=2) (j:=1) rfl rfl U U) ?_;refine O ?_;refine aL rfl Ao ?_;rintro _ w' ⟨rfl,rfl⟩;refine⟨_,rfl,?_⟩;obtain⟨c1,b⟩:=À (gd d f);rw[<-b];refine O ?_;refine aL rfl Ao ?_;rintro _ w' ⟨rfl,rfl⟩;refine⟨_,rfl,?_⟩;obtain⟨c2,c⟩:=À (gd a2 g);rw[<-c];refine O ?_;refine Lc (T:=W) (len:=2) (parts:=[(0,.tmp 9),(1,.tmp 14)]) [c1,c2] [E c1,E c2] rfl rfl rfl rfl rfl (fY rfl) (fe _) (fY rfl) Y a ?_;clear Y a;intro s w Y a;refine O ?_;refine aL rfl (Ld (Z.rs Y 0 rfl)) ?_;rintro _ w' ⟨rfl,rfl⟩;refine⟨_,rfl,?_⟩;refine O ?_;exact bf (v:=E (wn [c1,c2])) rfl rfl ⟨by rw[b,c];rfl,xk Y a⟩
def Zy {g:List Bool}(hk:k<g.length):gM g (k+1)=gM g k++(if g.getD k ah.dflt then [(k:Int)] else []):=by
 unfold gM;rw[l5,Km];congr 1;by_cases h:g.getD k ah.dflt=true
 ·simp only[GO,GP,h,if_true]
 simp only[GO,GP,h,if_false,CC]
def Ry (g:List Bool):∀ k,(gM g k).length<=k
 | 0=>by simp[gM]
 | k+1=>by
  have:=Ry g k;unfold gM at *
  rw[l5,Km,length_append];have:(filterMap (fun i=>if g.getD i ah.dflt=true then some (i:Int) else none) [k]).length<=1:=by
   simp only[GO,GP];split<;>simp
  omega
def Zz {cv ev gv:Value}(d:cX w0 cv ev gv S)(h:S.aQ.length<=4096) :
  Calls ai 120 #[cM S cv ev gv] w0 fun e w'=>∃ v,e=.returned v/\Z w0 w' [X W 3 v (vL S.aQ)]:=by
 have I:=d.aQ;have f:=I.bU;have Y:=Z.start w0;refine bA an Tryz.func120 ?_;unfold cM;refine eE ?_;intro p w Y;refine cP [3,5,9,19] (G:=Nat × Value) (fun x=>[(3,x.2),(9,E x.1)]) (fun x w=>x.1<=S.aQ.length/\Z w0 w [X W 3 x.2 (gM S.aQ x.1)]) (fun x=>S.aQ.length-x.1) (0,nS) (fun _=>rfl) ⟨rfl,rfl,az⟩ ⟨bu _,(gm Y).nil⟩ ?_;clear Y;rintro i ⟨k,o⟩ w ⟨hk,Y⟩
 dsimp only at hk Y
 have g:=Ry S.aQ k;refine aB ?_ ?_<;>intro h1
 ·have c:k<S.aQ.length:=U
  have a:=Zy c;refine O ?_;by_cases b:S.aQ.getD k ah.dflt=true
  ·rw[b]
   rw[aM b]at a
   repeat (first|refine du ?_|(refine fA ?_;clear Y;intro s w Y))
   refine⟨(k+1,s),⟨rfl,rfl,az⟩,aU,⟨U,?_⟩,U⟩;rw[a];exact Y.aY
  rw[nG.2 b];rw[aC b,fS]at a;refine O ?_;exact⟨(k+1,o),⟨rfl,rfl,az⟩,aU,⟨U,by rw[a];exact Y.aY⟩,U⟩
 have a:k=S.aQ.length:=U;subst a;refine O ?_;exact bf rfl rfl ⟨o,rfl,by unfold vL;exact Y.aY⟩
def ZA (hk:k<l.length)(b:0<k):lm (l.take (k+1))=max (lm (l.take k)) (l.getD k W.dflt):=by
 cases l with
 | nil=>simp at hk
 | cons x r =>
  obtain⟨j,rfl⟩:∃ j,k=j+1:=⟨k-1,U⟩
  have a:j<r.length:=by simpa using hk
  unfold lm;rw[Kn,Kn,eC W.dflt a];show (r.take j++[r.getD j W.dflt]).foldl max x=_;rw[ti];rfl
def Q0 (c:RS W w0 v l)(b:0<l.length) :
  Calls ai 168 #[v] w0 fun e w'=>e=.returned (E (lm l))/\Z w0 w' []:=by
 have d:=c.bU;have Y:=Z.start w0;refine bA an Tryz.func168 ?_;refine aB ?_ ?_<;>intro h1
 ·omega
 refine O ?_;refine cP [3,4,12,23] (G:=Nat) (fun k=>[(3,E (lm (l.take k))),(4,E k)]) (fun k w=>1<=k/\k<=l.length/\Z w0 w []) (fun k=>l.length-k) 1 (fun _=>rfl) ⟨by rw[show l.take 1=[l.getD 0 W.dflt] from by cases l with|nil=>simp at b|cons x r=>rfl];rfl,rfl,az⟩ ⟨cD _,b,Y⟩ ?_;clear Y;rintro g k w ⟨f,hk,Y⟩;refine aB ?_ ?_<;>intro h
 ·have a:k<l.length:=U
  refine O ?_;exact⟨k+1,⟨by rw[ZA a U];show Value.int .i64 _=Value.int .i64 _;congr 1;split<;>omega,rfl,az⟩,aU,⟨U,U,Y.aY⟩,U⟩
 rw[gH U];refine O ?_;exact bf rfl rfl ⟨rfl,Y.aY⟩
def Rz (a:RS W w0 v l)(b:0<l.length)(hm:0<=lm l/\lm l<=65536) :
  Calls ai 148 #[v] w0 fun e w'=>e=.returned (E (lm l+1))/\Z w0 w' []:=by
 obtain⟨c,d⟩:=hm;have Y:=Z.start w0;refine bA an Tryz.func148 ?_;refine O ?_;refine aL rfl (Q0 a b) ?_;refine jT ?_;intro w' Y;exact bf rfl rfl ⟨rfl,Y.aY⟩
def Bl {α:Type}{d:α}{A B:List α}(a:A.length=B.length)(h:∀ i,i<A.length->A.getD i d=B.getD i d):A=B:=by
 apply iB a;intro i h1 b;have:=h i h1
 rwa[am h1,am b]at this
instance Nq:rn ai 3 .i64:=⟨kr⟩
def Pc {x y:bp}(h1:x.var=y.var)(h2:x.val=y.val):x=y:=by cases x;cases y;simp_all
instance Nr:jb ai 63 2:=⟨kr⟩
def Le {A B:List bp}(g:RS aq w0 z A)(h:RS aq w0 C B) :
  Calls ai 61 #[z,C] w0 fun e w'=>(∃ r,e=.returned (.bool r)/\(r=true↔A=B))/\Z w0 w' []:=by
 have j:=g.bU;have n:=h.bU;have Y:=Z.start w0;refine bA an Tryz.func61 ?_;refine aB ?_ ?_<;>intro h1
 ·refine O ?_
  exact bf (v:=.bool false) rfl rfl ⟨⟨false,rfl,cL fun e=>by rw[e]at h1;omega⟩,Y.aY⟩
 refine O ?_;refine cP [4,5,13,25] (G:=Nat) (fun i=>[(13,E i)]) (fun i w=>i<=A.length/\(∀ m,m<i->A.getD m aq.dflt=B.getD m aq.dflt)/\Z w0 w []) (fun i=>A.length-i) 0 (fun _=>rfl) ⟨rfl,az⟩ ⟨bu _,fun i f=>absurd f (dr _),Y.aY⟩ ?_;clear Y;rintro t i w ⟨f,a,Y⟩;refine aB ?_ ?_<;>intro x
 ·have o:i<A.length:=U
  refine fm ?_;intro w Y;refine eY rfl (J3 (us:=[(A.getD i aq.dflt).var,(A.getD i aq.dflt).val]) (zs:=[(B.getD i aq.dflt).var,(B.getD i aq.dflt).val]) rfl rfl rfl rfl) ?_;by_cases b:A.getD i aq.dflt=B.getD i aq.dflt
  ·have c:decide ([(A.getD i aq.dflt).var,(A.getD i aq.dflt).val]=[(B.getD i aq.dflt).var,(B.getD i aq.dflt).val])=true:=dy (by rw[b])
   refine oC ?_;simp only[c,nH];refine O ?_;refine⟨i+1,⟨rfl,az⟩,aU,⟨U,fun m hm=>?_,Y.aY⟩,U⟩;by_cases e:m=i
   ·subst e;exact b
   exact a m U
  have c:decide ([(A.getD i aq.dflt).var,(A.getD i aq.dflt).val]=[(B.getD i aq.dflt).var,(B.getD i aq.dflt).val])=false:=dU fun e=>b (by
   injection e with q d
   injection d with d _
   exact Pc q d)
  refine oC ?_;simp only[c,q6];refine O ?_;exact bf (v:=.bool false) rfl rfl ⟨⟨false,rfl,cL fun e=>b (by rw[e])⟩,Y.aY⟩
 have b:i=A.length:=U;subst b;refine O ?_;exact bf (v:=.bool true) rfl rfl ⟨⟨true,rfl,im (Bl U a)⟩,Y.aY⟩
def Dz {A B:J}(d:RS W w0 z A)(f:RS W w0 C B) :
  Calls ai 60 #[z,C] w0 fun e w'=>(∃ r,e=.returned (.bool r)/\(r=true↔A=B))/\Z w0 w' []:=by
 have g:=d.bU;have h:=f.bU;have Y:=Z.start w0;refine bA an Tryz.func60 ?_;refine aB ?_ ?_<;>intro h1
 ·refine O ?_
  exact bf (v:=.bool false) rfl rfl ⟨⟨false,rfl,cL fun e=>by rw[e]at h1;omega⟩,Y.aY⟩
 refine O ?_;refine cP [4,5,13,25] (G:=Nat) (fun i=>[(13,E i)]) (fun i w=>i<=A.length/\(∀ m,m<i->A.getD m W.dflt=B.getD m W.dflt)/\Z w0 w []) (fun i=>A.length-i) 0 (fun _=>rfl) ⟨rfl,az⟩ ⟨bu _,fun i c=>absurd c (dr _),Y.aY⟩ ?_;clear Y;rintro n i w ⟨c,a,Y⟩;refine aB ?_ ?_<;>intro o
 ·have j:i<A.length:=U
  refine vJ ?_ ?_<;>intro w Y b
  ·refine O ?_
   exact bf (v:=.bool false) rfl rfl ⟨⟨false,rfl,cL fun e=>by rw[e]at b;exact b rfl⟩,Y.aY⟩
  refine O ?_;refine⟨i+1,⟨rfl,az⟩,aU,⟨U,fun m hm=>?_,Y.aY⟩,U⟩;by_cases e:m=i
  ·subst e;exact b
  exact a m U
 have b:i=A.length:=U;subst b;refine O ?_;exact bf (v:=.bool true) rfl rfl ⟨⟨true,rfl,im (Bl U a)⟩,Y.aY⟩
def RA:(true == false)=false:=rfl
def RB:(false == true)=false:=rfl
def AM (v:Value):gv false v=undef:=by unfold gv;rfl
def AN (v:Value):gv true v=v:=bw rfl
def dI {G a:Prop}(h:a)(b:Go.Sl.dV a->G:=by intro hgo;(try simp only[wH,RA,RB,Br,CK,tw,GZ,nH,q6,DX,DY,AM,AN]);exact hgo.out):G:=b ⟨h⟩
def Ap {G a:Prop}(h:a)(b:Go.Sl.dV a->G:=by intro hgo;(try simp only[wH,RA,RB,Br,CK,nH,q6,DX,DY,AM,AN]);exact hgo.out):G:=b ⟨h⟩
def Lf {w:World}{Γ:List HP}{v:jQ}{e:kP}(h:rm w0 v e)(Y:Z w0 w Γ):rm w v e:=⟨h.var,h.val,h.bO.at Y⟩
def Gx {w:World}{Γ:List HP}{s:Value}{vs:List jQ}{es:List kP}(h:j8 w0 s vs es)(Y:Z w0 w Γ):j8 w s vs es:=⟨h.rs.at Y,h.len,fun i a=>Lf (h.dJ i a) Y⟩
def Pd {x y:kP}(h1:x.var=y.var)(h2:x.val=y.val)(a:x.bO=y.bO):x=y:=by cases x;cases y;simp_all
def ZB {x y:jQ}{ex i:kP}(hx:rm w0 x ex)(c:rm w0 y i) :
  Calls ai 93 #[.agg (aV.enc x).toArray,.agg (aV.enc y).toArray] w0 fun e w'=>(∃ r,e=.returned (.bool r)/\(r=true↔ex=i))/\Z w0 w' []:=by
 have t:=hx.one;have A:=c.one;have j:=hx.var;have m:=c.var;have n:=hx.val;have o:=c.val;have f:=hx.bO;have g:=c.bO;have Y:=Z.start w0;refine bA an Tryz.func93 ?_;by_cases h1:x.var=y.var;rotate_left
 ·have a:decide (x.var=y.var)=false:=dU h1
  repeat (first|refine du ?_|(refine gX ?_;clear Y;intro p w Y))
  try simp only[a];refine Ap ?_
  refine O ?_;exact bf (v:=.bool false) rfl rfl ⟨⟨false,rfl,cL fun e=>h1 (by rw[j,m,e])⟩,Y.aY⟩
 have a:decide (x.var=y.var)=true:=dy h1;by_cases d:x.val=y.val;rotate_left
 ·have b:decide (x.val=y.val)=false:=dU d
  repeat (first|refine du ?_|(refine gX ?_;clear Y;intro p w Y))
  try simp only[a,b];refine Ap ?_
  refine O ?_;exact bf (v:=.bool false) rfl rfl ⟨⟨false,rfl,cL fun e=>d (by rw[n,o,e])⟩,Y.aY⟩
 have b:decide (x.val=y.val)=true:=dy d
 repeat (first|refine du ?_|(refine gX ?_;clear Y;intro p w Y))
 try simp only[a,b];refine Ap ?_
 refine O ?_;refine aL rfl (Le (f.at Y) (g.at Y)) ?_;rintro _ w' ⟨⟨r,rfl,q⟩,al⟩;refine aA ?_;clear al Y;intro Y;refine O ?_;exact bf (v:=.bool r) rfl rfl ⟨⟨r,rfl,q.trans ⟨fun h=>Pd (by rw[<-j,<-m,h1]) (by rw[<-n,<-o,d]) h,fun h=>by rw[h]⟩⟩,Y.aY⟩
def ZC {t x:List jQ}{A B:List kP}(d:j8 w0 z t A)(f:j8 w0 C x B) :
  Calls ai 92 #[z,C,.func (.func 93) #[] #[]] w0 fun e w'=>(∃ r,e=.returned (.bool r)/\(r=true↔A=B))/\Z w0 w' []:=by
 have g:=d.rs;have h:=f.rs;have j:=d.len;have y:=f.len;have D:=g.bU;have F:=h.bU;have Y:=Z.start w0;refine bA an Tryz.func92 ?_;refine aB ?_ ?_<;>intro h1
 ·refine O ?_
  exact bf (v:=.bool false) rfl rfl ⟨⟨false,rfl,cL fun e=>by rw[e]at j;omega⟩,Y.aY⟩
 refine O ?_;refine cP [6,9,17,31] (G:=Nat) (fun i=>[(17,E i)]) (fun i w=>i<=A.length/\(∀ m,m<i->A.getD m bE=B.getD m bE)/\Z w0 w []) (fun i=>A.length-i) 0 (fun _=>rfl) ⟨rfl,az⟩ ⟨bu _,fun i o=>absurd o (dr _),Y.aY⟩ ?_;clear Y;rintro H i w ⟨o,a,Y⟩;refine aB ?_ ?_<;>intro K
 ·have n:i<A.length:=U
  have b:=d.dJ i n;have c:=f.dJ i U;have L:=b.one;have N:=c.one
  repeat (first|refine du ?_|(refine gX ?_;clear Y;intro p w Y)|(refine qB ?_;clear Y;intro w Y))
  refine wr (cs:=[]) rfl rfl (ZB (Lf b Y) (Lf c Y)) ?_;rintro _ w' ⟨⟨r,rfl,q⟩,al⟩;refine aA ?_;clear al Y;intro Y;cases r
  ·refine O ?_
   exact bf (v:=.bool false) rfl rfl ⟨⟨false,rfl,cL fun e=>by have:=q.2 (by rw[e]);cases this⟩,Y.aY⟩
  refine O ?_;refine⟨i+1,⟨rfl,az⟩,aU,⟨U,fun m hm=>?_,Y.aY⟩,U⟩;by_cases e:m=i
  ·subst e;exact q.1 rfl
  exact a m U
 have b:i=A.length:=U;subst b;refine O ?_;exact bf (v:=.bool true) rfl rfl ⟨⟨true,rfl,im (Bl U a)⟩,Y.aY⟩
def Pf {x y:km}(h1:x.name=y.name)(h2:x.aN=y.aN)(a:x.pre=y.pre)(b:x.aJ=y.aJ):x=y:=by cases x;cases y;simp_all
def ZD {x y:iW}{m n:km}(hx:oG w0 x m)(f:oG w0 y n) :
  Calls ai 63 #[.agg (cd.enc x).toArray,.agg (cd.enc y).toArray] w0 fun e w'=>(∃ r,e=.returned (.bool r)/\(r=true↔m=n))/\Z w0 w' []:=by
 have H:=hx.one;have K:=f.one;have Y:=Z.start w0;refine bA an Tryz.func63 ?_;have o:=hx.name;have q:=f.name;have t:=hx.aN;have A:=f.aN;have F:=hx.pre;have G:=f.pre;obtain⟨ex,hex⟩:=hx.aJ;obtain⟨L,i⟩:=f.aJ
 repeat (first|refine du ?_|(refine gX ?_;clear Y;intro p w Y))
 refine eY rfl (ZE (a:=x.name) (b:=y.name) rfl rfl) ?_;by_cases h1:x.name=y.name;rotate_left
 ·have c:decide (x.name=y.name)=false:=dU h1
  refine O ?_
  try simp only[c];refine Ap ?_
  refine O ?_;exact bf (v:=.bool false) rfl rfl ⟨⟨false,rfl,cL fun e=>h1 (by rw[o,q,e])⟩,Y.aY⟩
 have c:decide (x.name=y.name)=true:=dy h1;by_cases g:x.aN=y.aN;rotate_left
 ·have d:decide (x.aN=y.aN)=false:=dU g
  refine O ?_
  try simp only[c,d];refine Ap ?_
  refine O ?_;exact bf (v:=.bool false) rfl rfl ⟨⟨false,rfl,cL fun e=>g (by rw[t,A,e])⟩,Y.aY⟩
 have d:decide (x.aN=y.aN)=true:=dy g;refine O ?_
 try simp only[c,d];refine Ap ?_
 refine O ?_;refine aL rfl (Le (F.at Y) (G.at Y)) ?_;rintro _ w' ⟨⟨r,rfl,B⟩,al⟩;refine aA ?_;clear al Y;intro Y;cases r
 ·refine O ?_
  exact bf (v:=.bool false) rfl rfl ⟨⟨false,rfl,cL fun e=>by have:=B.2 (by rw[e]);cases this⟩,Y.aY⟩
 refine O ?_;refine aL rfl (ZC (Gx hex Y) (Gx i Y)) ?_;rintro _ w' ⟨⟨D,rfl,j⟩,al⟩;refine aA ?_;clear al Y;intro Y;refine O ?_;exact bf (v:=.bool D) rfl rfl ⟨⟨D,rfl,j.trans ⟨fun h=>Pf (by rw[<-o,<-q,h1]) (by rw[<-t,<-A,g]) (B.1 rfl) h,fun h=>by rw[h]⟩⟩,Y.aY⟩
def ZF {t x:List iW}{A B:List km}(d:tY w0 z t A)(f:tY w0 C x B) :
  Calls ai 62 #[z,C,.func (.func 63) #[] #[]] w0 fun e w'=>(∃ r,e=.returned (.bool r)/\(r=true↔A=B))/\Z w0 w' []:=by
 have g:=d.rs;have h:=f.rs;have j:=d.len;have y:=f.len;have D:=g.bU;have F:=h.bU;have Y:=Z.start w0;refine bA an Tryz.func62 ?_;refine aB ?_ ?_<;>intro h1
 ·refine O ?_
  exact bf (v:=.bool false) rfl rfl ⟨⟨false,rfl,cL fun e=>by rw[e]at j;omega⟩,Y.aY⟩
 refine O ?_;refine cP [6,9,17,31] (G:=Nat) (fun i=>[(17,E i)]) (fun i w=>i<=A.length/\(∀ m,m<i->A.getD m bj=B.getD m bj)/\Z w0 w []) (fun i=>A.length-i) 0 (fun _=>rfl) ⟨rfl,az⟩ ⟨bu _,fun i o=>absurd o (dr _),Y.aY⟩ ?_;clear Y;rintro H i w ⟨o,a,Y⟩;refine aB ?_ ?_<;>intro K
 ·have n:i<A.length:=U
  have b:=d.dJ i n;have c:=f.dJ i U;have L:=b.one;have N:=c.one
  repeat (first|refine du ?_|(refine gX ?_;clear Y;intro p w Y)|(refine qB ?_;clear Y;intro w Y))
  refine wr (cs:=[]) rfl rfl (ZD (b.at Y) (c.at Y)) ?_;rintro _ w' ⟨⟨r,rfl,q⟩,al⟩;refine aA ?_;clear al Y;intro Y;cases r
  ·refine O ?_
   exact bf (v:=.bool false) rfl rfl ⟨⟨false,rfl,cL fun e=>by have:=q.2 (by rw[e]);cases this⟩,Y.aY⟩
  refine O ?_;refine⟨i+1,⟨rfl,az⟩,aU,⟨U,fun m hm=>?_,Y.aY⟩,U⟩;by_cases e:m=i
  ·subst e;exact q.1 rfl
  exact a m U
 have b:i=A.length:=U;subst b;refine O ?_;exact bf (v:=.bool true) rfl rfl ⟨⟨true,rfl,im (Bl U a)⟩,Y.aY⟩
def Pg {x y:aa}(h1:x.vars=y.vars)(h2:x.cC=y.cC)(a:x.aH=y.aH)(b:x.M=y.M):x=y:=by cases x;cases y;simp_all
def RC {a b c d a2 q c2 d2:Value}{vs us:List iW}{t u:aa}(x:bn w0 a b c d vs t)(hu:bn w0 a2 q c2 d2 us u) :
  Calls ai 36 #[.agg #[a,b,c,d],.agg #[a2,q,c2,d2]] w0 fun e w'=>(∃ r,e=.returned (.bool r)/\(r=true↔t=u))/\Z w0 w' []:=by
 have B:=x;have D:=hu;obtain⟨F,G,H,K⟩:=x;obtain⟨i,j,m,n⟩:=hu;have Y:=Z.start w0;refine bA an Tryz.func36 ?_
 repeat (first|refine du ?_|(refine gX ?_;clear Y;intro p w Y))
 refine aL rfl (Dz (F.at Y) (i.at Y)) ?_;rintro _ w' ⟨⟨r,rfl,y⟩,al⟩;refine aA ?_;clear al Y;intro Y;cases r
 ·refine O ?_
  exact bf (v:=.bool false) rfl rfl ⟨⟨false,rfl,cL fun e=>by have:=y.2 (by rw[e]);cases this⟩,Y.aY⟩
 refine O ?_;refine aL rfl (Dz (G.at Y) (j.at Y)) ?_;rintro _ w' ⟨⟨L,rfl,f⟩,al⟩;refine aA ?_;clear al Y;intro Y;cases L
 ·refine O ?_
  exact bf (v:=.bool false) rfl rfl ⟨⟨false,rfl,cL fun e=>by have:=f.2 (by rw[e]);cases this⟩,Y.aY⟩
 refine O ?_;refine aL rfl (Le (H.at Y) (m.at Y)) ?_;rintro _ w' ⟨⟨N,rfl,g⟩,al⟩;refine aA ?_;clear al Y;intro Y;cases N
 ·refine O ?_
  exact bf (v:=.bool false) rfl rfl ⟨⟨false,rfl,cL fun e=>by have:=g.2 (by rw[e]);cases this⟩,Y.aY⟩
 refine O ?_;refine aL rfl (ZF (K.at Y) (n.at Y)) ?_;rintro _ w' ⟨⟨A,rfl,o⟩,al⟩;refine aA ?_;clear al Y;intro Y;refine O ?_;exact bf (v:=.bool A) rfl rfl ⟨⟨A,rfl,o.trans ⟨fun h=>Pg (y.1 rfl) (f.1 rfl) (g.1 rfl) h,fun h=>by rw[h]⟩⟩,Y.aY⟩
def we (h:¬dR S):iT S=false:=by unfold iT;simp only[h,decide_false]
def Cv (h:dR S):iT S=true:=by unfold iT;simp only[h,decide_true]
def zp (S:bZ)(i:Nat):Prop:=(0<=(S.aD.getD i aT.dflt).bh/\(S.aD.getD i aT.dflt).bh<S.st)/\(0<=(S.aD.getD i aT.dflt).dst/\(S.aD.getD i aT.dflt).dst<S.st)/\(0<=(S.aD.getD i aT.dflt).cK/\(S.aD.getD i aT.dflt).cK<S.aS.length)/\(0<i->jg (S.aD.getD (i-1) aT.dflt) (S.aD.getD i aT.dflt)<0)
def dR.RD (h:dR S){i:Nat}(hi:i<S.aD.length):zp S i:=by
 obtain⟨_,_,_,_,_,_,_,_,h1,d⟩:=h;obtain⟨a,b,c⟩:=h1 _ (cH aT.dflt hi);exact⟨a,b,c,fun e=>d i e hi⟩
def Ei {cv ev gv:Value}(H:cX w0 cv ev gv S) :
  Calls ai 118 #[cM S cv ev gv] w0 fun e w'=>e=.returned (.bool (iT S))/\Z w0 w' []:=by
 have K:=H.aS;have L:=H.aD;have N:=H.aQ;have T:=K.bU;have V:=L.bU;have j':=N.bU;have Y:=Z.start w0;refine bA an Tryz.func118 ?_;unfold cM;refine mg ?_ ?_<;>intro p w Y h1
 ·have x:¬dR S:=fun⟨a,b,c,d,e,f,g,_⟩=>U
  refine O ?_;exact bf (v:=.bool false) rfl rfl ⟨by rw[we x],Y.aY⟩
 obtain⟨⟨⟨⟨⟨⟨a1,a2⟩,a3⟩,a4⟩,a5⟩,a6⟩,a7⟩:=h1;refine O ?_;have Y:Z w0 w [ak p 142 [E S.st,E S.bR,cv,ev,gv]]:=Y;obtain⟨P,rfl⟩:=À p;refine cP [2,2,4,4,50,60] (G:=Nat) (fun k=>[(50,E k),(2,.bool false)]) (fun k w=>k<=S.aS.length/\(∀ i,i<k->0<=S.aS.getD i W.dflt/\S.aS.getD i W.dflt<=1048576)/\Z w0 w [ak P 142 [E S.st,E S.bR,cv,ev,gv]]) (fun k=>S.aS.length-k) 0 (fun _=>rfl) ⟨rfl,rfl,az⟩ ⟨bu _,fun i m=>absurd m (dr _),Y⟩ ?_;clear Y;rintro σ k w ⟨hk,y,Y⟩;refine aB ?_ ?_<;>intro h2
 ·refine aB ?_ ?_<;>intro n
  ·have x:¬dR S:=fun⟨_,_,_,_,_,_,_,h,_⟩=>by
    have:=h _ (cH W.dflt (show k<S.aS.length by omega));omega
   refine O ?_;exact bf (v:=.bool false) rfl rfl ⟨by rw[we x],Y.aY⟩
  obtain⟨o,t⟩:=n;refine O ?_;refine⟨k+1,⟨rfl,rfl,az⟩,aU,⟨U,fun i m=>?_,Y⟩,U⟩;by_cases e:i=k
  ·subst e;exact⟨o,t⟩
  exact y i U
 have A:∀ c∈S.aS,0<=c/\c<=1048576:=fun c F=>by
  obtain⟨i,m,rfl⟩:=fJ F;have:=y i U
  rwa[am m]at this
 clear y;refine O ?_;refine cP [2,2,5,6,64,119] (G:=Nat) (fun k=>[(64,E k),(2,.bool false)]) (fun k w=>k<=S.aD.length/\(∀ i,i<k->zp S i)/\Z w0 w [ak P 142 [E S.st,E S.bR,cv,ev,gv]]) (fun k=>S.aD.length-k) 0 (fun _=>rfl) ⟨rfl,rfl,az⟩ ⟨bu _,fun i m=>absurd m (dr _),Y⟩ ?_;clear Y;rintro σ k w ⟨hk,t,Y⟩;refine aB ?_ ?_<;>intro h4
 ·have B:k<S.aD.length:=U
  obtain⟨a,R⟩:=À (S.aD.getD k aT.dflt);have n:zp S k↔(0<=a.bh/\a.bh<S.st)/\(0<=a.dst/\a.dst<S.st)/\(0<=a.cK/\a.cK<S.aS.length)/\(0<k->jg (S.aD.getD (k-1) aT.dflt) a<0):=by rw[R];exact x6
  refine db ?_;intro p w Y;have Y:Z w0 w [ak p 190 [E a.bh,E a.cK,E a.dst],ak P 142 [E S.st,E S.bR,cv,ev,gv]]:=by rw[R];exact Y
  refine r8 ?_;clear Y;intro w Y;refine O ?_;by_cases o:(decide (a.bh<0) || decide (S.st<=a.bh) || decide (a.dst<0) || decide (S.st<=a.dst) || decide (a.cK<0) || decide ((S.aS.length:Int)<=a.cK))=true
  ·have x:¬dR S:=fun h=>by
    have:=(n.1 (h.RD B))
    simp only[qa,gQ]at o;omega
   try simp only[o];refine dI ?_
   refine O ?_;exact bf (v:=.bool false) rfl rfl ⟨by rw[we x],Y.aY⟩
  rw[tt]at o
  try simp only[o];refine dI ?_
  simp only[zY,qA]at o;refine O ?_;by_cases D:0<k
  ·have Q:decide ((0:Int)<(k:Int))=true:=dy U
   try simp only[Q];refine dI ?_
   refine O ?_;refine aL rfl (RE (S.aD.getD ((k:Int)-1).toNat aT.dflt) a) ?_;rintro _ w' ⟨rfl,q,os,rfl⟩;refine⟨_,rfl,?_⟩;replace Y:=(Y.ahead q).grow os;have e1:((k:Int)-1).toNat=k-1:=U;rw[e1];obtain⟨c,F⟩:=À (jg (S.aD.getD (k-1) aT.dflt) a);rw[<-F]at n ⊢;clear F;refine aB ?_ ?_<;>intro h5
   ·have x:¬dR S:=fun h=>by
     have:=(n.1 (h.RD B)).2.2.2 D;omega
    refine O ?_;exact bf (v:=.bool false) rfl rfl ⟨by rw[we x],Y.aY⟩
   refine O ?_;refine⟨k+1,⟨rfl,rfl,az⟩,aU,⟨U,fun i m=>?_,Y.aY⟩,U⟩;by_cases e:i=k
   ·subst e;exact n.2 ⟨U,U,U,fun _=>U⟩
   exact t i U
  have Q:decide ((0:Int)<(k:Int))=false:=dU U
  try simp only[Q];refine dI ?_
  refine O ?_;refine⟨k+1,⟨rfl,rfl,az⟩,aU,⟨U,fun i m=>?_,Y.aY⟩,U⟩;by_cases e:i=k
  ·subst e;exact n.2 ⟨U,U,U,fun h=>absurd h D⟩
  exact t i U
 refine O ?_;refine bf (v:=.bool true) rfl rfl ⟨?_,Y.aY⟩;rw[Cv ⟨a1,a2,a3,a4,a5,U,U,A,fun e he=>?_,fun i n m=>(t i U).2.2.2 n⟩];obtain⟨i,m,rfl⟩:=fJ he;have:=t i U;unfold zp at this;rw[am m]at this;exact⟨this.1,this.2.1,this.2.2.1⟩
instance Ns:vP ai 288 9 3:=⟨kr⟩
instance Nt:qQ ai 3 (E 0):=⟨kr⟩
def kz:Ty ByteArray:=⟨1,fun b=>[.string b],fun _=>rfl,⟨#[]⟩⟩
def sB:List ByteArray->Nat->List (ByteArray × Value)
 | [],_=>[]
 | s::u,i=>(s,E i)::sB u (i+1)
def tP (u:List ByteArray)(s:ByteArray):Nat:=u.findIdx fun x=>decide (x=s)
def RF (s:ByteArray):∀ (u:List ByteArray) (i:Nat),sB (u++[s]) i=sB u i++[(s,E (i+u.length:Nat))]
 | [],i=>rfl
 | x::u,i=>by
  simp only[qC,sB,RF s u (i+1),length_cons];rw[show i+1+u.length=i+(u.length+1) from by omega]
def Lg:∀ (u:List ByteArray) (i:Nat),(sB u i).length=u.length
 | [],_=>rfl
 | _::u,i=>by simp only[sB,length_cons,Lg u]
def Lh {s:ByteArray}:∀ {u:List ByteArray}{i j:Nat},s∉u->iL s (sB u i) j=none
 | [],_,_,_=>rfl
 | x::u,i,j,h=>by
  simp only[sB,iL];rw[aC (fun e=>h (by rw[e];simp)),Lh (fun a=>h (iR _ a))]
def RG {s:ByteArray}:∀ {u:List ByteArray}{i j:Nat},s∈u->(iL s (sB u i) j).map (·.2)=some (E (i+tP u s:Nat))
 | [],_,_,h=>by simp at h
 | x::u,i,j,h=>by
  simp only[sB,iL,tP,findIdx_cons];by_cases e:s=x
  ·rw[aM e,dy e.symm];rfl
  rw[aC e,dU (Ne.symm e)];rcases ee.1 h with h|h
  ·exact absurd h e
  rw[RG (i:=i+1) h];simp only[cond_false,tP];rw[show i+1+u.findIdx (fun x=>decide (x=s))=i+(u.findIdx (fun x=>decide (x=s))+1) from by omega]
def BR (u:List ByteArray)(s:ByteArray):List ByteArray:=if u.any (fun x=>decide (x=s)) then u else u++[s]
def ZG {l:List ByteArray}(hk:k<l.length):cU (l.take (k+1))=BR (cU (l.take k)) (l.getD k kz.dflt):=by
 unfold cU;rw[eC kz.dflt hk,ti];rfl
def RH:∀ (l u:List ByteArray),∃ r,l.foldl (fun u s=>if u.any (fun x=>decide (x=s)) then u else u++[s]) u=u++r
 | [],u=>⟨[],sm⟩
 | s::l,u=>by
  rw[sy];obtain⟨r,a⟩:=RH l (if u.any (fun x=>decide (x=s)) then u else u++[s]);rw[a];split
  ·exact⟨r,rfl⟩
  exact⟨s::r,sm⟩
def RJ (l:List ByteArray)(k:Nat):∃ r,cU l=cU (l.take k)++r:=by
 have h:=RH (l.drop k) (cU (l.take k));obtain⟨r,a⟩:=h;refine⟨r,?_⟩;rw[<-a];unfold cU;rw[<-ti,yF]
def RK (h:s∈u):tP (u++r) s=tP u s:=by
 unfold tP;rw[findIdx_append,aM];exact PE ⟨s,h,dy rfl⟩
def ZH (h:s∉u):tP (u++[s]++r) s=u.length:=by
 rw[RK sm];unfold tP;rw[findIdx_append,aC]
 ·simp
 intro a;have:=findIdx_getElem (w:=a);have b:=uB this;exact h (by rw[<-b];exact wq _)
def ZI (l:List ByteArray):∀ u:List ByteArray,(l.foldl (fun u s=>if u.any (fun x=>decide (x=s)) then u else u++[s]) u).length<=u.length+l.length:=by
 induction l with
 | nil=>intro u;simp
 | cons s l a =>
  intro u;rw[sy];refine pT (a _) ?_;split
  ·simp only[length_cons];omega
  simp only[length_append,length_cons,length_nil];omega
def ZJ (l:List ByteArray):(cU l).length<=l.length:=by have:=ZI l [];simpa [cU] using this
def QZ {L:List ByteArray}(D:RS kz w0 v L)(F:L.length<=65536) :
  Calls ai 172 #[v] w0 fun e w'=>∃ cv,e=.returned (.tuple #[cv,E ((cU L).length:Nat)])/\Z w0 w' [X W 3 cv (fb L)]:=by
 have Y:=Z.start w0;refine bA an Tryz.func172 ?_;refine O ?_;refine ZK oQ Y ?_;clear Y;intro m w Y;refine O ?_;have o:fb L=L.map fun s=>(tP (cU L) s:Int):=rfl;have Y:Z w0 w [X W 3 (nS) [],rB oQ m (sB (cU (L.take 0)) 0)]:=by rw[wK,show sB (cU []) 0=[] from rfl];exact(Y.nil (T:=W) (e:=3)).aY
 refine dQ [5,5,7,9,13,34] (G:=Nat) (H:=Value) (fun k n=>[(13,E k),(5,n)]) (fun k n w=>k<=L.length/\Z w0 w [X W 3 n ((L.take k).map fun s=>(tP (cU L) s:Int)),rB oQ m (sB (cU (L.take k)) 0)]) (fun k _=>L.length-k) 0 (nS) (fun _ _=>rfl) ⟨rfl,rfl,az⟩ ⟨bu _,Y⟩ ?_;clear Y;rintro K k n w ⟨hk,Y⟩;refine aB ?_ ?_<;>intro h1
 ·have d:k<L.length:=U
  have f:=ZG d;have A:=ZJ (L.take k);rw[jd]at A;obtain⟨u,hu⟩:=À (cU (L.take k));obtain⟨b,t⟩:=À (L.getD k kz.dflt);rw[<-hu,<-t]at f;rw[<-hu]at Y A;have B:((L.take k).map fun s=>(tP (cU L) s:Int)).length=k:=by rw[iz,jd];omega
  refine O ?_;rw[<-t];refine qX rfl (ZL (m:=m) (κ:=oQ) (q:=b) rfl rfl Y inferInstance) ?_;by_cases hm:b∈u
  ·have I:ui (sB u 0) b=some (E (tP u b:Nat)):=by
    have:=RG (i:=0) (j:=0) hm;rw[xZ]at this;exact this
   rw[I]
   repeat (first|refine du ?_|(refine fA ?_;clear Y;intro s w Y))
   have a:cU (L.take (k+1))=u:=by rw[f];unfold BR;rw[aM (HJ.2 hm)]
   obtain⟨r,x⟩:=RJ L (k+1);have g:tP (cU L) b=tP u b:=by rw[x,a,RK hm]
   refine⟨k+1,s,⟨rfl,rfl,az⟩,aU,⟨U,?_⟩,U⟩;rw[a,eC kz.dflt d,oh,<-t];simp only[l8,tD,g];exact Y.aY
  have I:ui (sB u 0) b=none:=by unfold ui;rw[Lh hm];rfl
  rw[I];have a:cU (L.take (k+1))=u++[b]:=by rw[f];unfold BR;rw[aC (fun h=>hm (HJ.1 h))]
  obtain⟨r,x⟩:=RJ L (k+1);have g:tP (cU L) b=u.length:=by rw[x,a,ZH hm]
  have c:=Lg u 0;refine O ?_;refine qX rfl (RL (m:=m) (κ:=oQ) rfl Y inferInstance) ?_;rw[c];refine O ?_;refine ZM (m:=m) (κ:=oQ) (q:=b) (v:=E (u.length:Nat)) rfl rfl rfl Y inferInstance ?_;clear Y;intro w Y;have y:uj (sB u 0) b (E (u.length:Nat))=sB (u++[b]) 0:=by
   unfold uj;rw[Lh hm,RF,xZ]
  rw[y]at Y
  repeat (first|refine du ?_|(refine fA ?_;clear Y;intro s w Y))
  refine⟨k+1,s,⟨rfl,rfl,az⟩,aU,⟨U,?_⟩,U⟩;rw[a,eC kz.dflt d,oh,<-t];simp only[l8,tD,g];exact Y.aY
 rw[gH U,<-o]at Y;have c:=Lg (cU L) 0;refine O ?_;refine qX rfl (RL (m:=m) (κ:=oQ) rfl Y inferInstance) ?_;rw[c];refine O ?_;exact cR (v:=n) (v':=E ((cU L).length:Nat)) rfl rfl rfl ⟨n,rfl,Y.aY⟩
def ZN (b:Bool):Calls ai 188 #[.bool b] w0 fun e w'=>e=.returned (.string (kA b))/\Z w0 w' []:=by
 have Y:=Z.start w0;refine bA an Tryz.func188 ?_
 cases b with
 | true =>
  refine O ?_
  exact bf (v:=.string (kA true)) rfl rfl ⟨rfl,Y⟩
 | false =>
  refine O ?_;exact bf (v:=.string (kA false)) rfl rfl ⟨rfl,Y⟩
instance Nu:ao ai 188:=⟨kr⟩
def Yt (b:Bool):Calls ai 171 #[.bool b] w0 fun e w'=>e=.returned (.string (kA b))/\Z w0 w' []:=by
 have Y:=Z.start w0;refine bA an Tryz.func171 ?_;refine O ?_;refine aL rfl (ZN b) ?_;refine jT ?_;intro w' Y;exact bf (v:=.string (kA b)) rfl rfl ⟨rfl,Y⟩
end Go.Proofs.YtmapkjoefdgjfaaGreatDoor
