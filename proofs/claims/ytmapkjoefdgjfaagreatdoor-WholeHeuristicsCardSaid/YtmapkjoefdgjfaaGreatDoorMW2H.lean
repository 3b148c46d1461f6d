/- Several texts. -/
import Derived.Test.YtmapkjoefdgjfaaGreatDoorTypesH
import Derived.Test.YtmapkjoefdgjfaaGreatDoorMTAH
import Derived.Shelf.SlSortCmp.Whole1
set_option linter.unusedSimpArgs false
set_option linter.unusedVariables false
set_option linter.defProp false
set_option maxRecDepth 8000
set_option maxHeartbeats 16000000
open List Nat
namespace Go.Proofs.YtmapkjoefdgjfaaGreatDoor
open Go.Sl
variable {w0 w:World}{a b c d:Value}{t:aa}{s xs ys:J}{f:List bE}{vs:List kq}{k:Nat}{cs:List Value}{L:List (List bE)}
section
open Go.Sl Go Go.Shelf
attribute [local irreducible] vc opsW opsD opV opW PureV ReadV Thn Blk
def xI {P:Program}{f:FuncId}{B:Func}(h1:(((P.funcs[f]?).map Func.name).getD "" == "runtime.NumGoroutine") = false := by kernel_rfl)(h2 : P.funcs[f]? = some {B with name := ((P.funcs[f]?).map Func.name).getD ""} := by kernel_rfl) : Bears P f B := ⟨_, h1, h2⟩
def Pd:Ren:=⟨rl [6,140,14,164,15,98,20,180,21,181,22,182,23,183,24,184,25,185,26,186,27,187,28,132,29,133,46,205,47,154,48,155,49,206,50,207,57,214],rl [0,0,3,3,4,4,5,5,9,9,22,33,24,22,25,53,39,175,45,210,46,211,50,183,53,218,55,220,66,250,70,254,76,279,77,267],fun k=>k⟩
set_option maxRecDepth 100000 in
def O5:SlLaysF.n6 ak Pd:=by constructor<;>first|exact ar|kernel_rfl|(intro w;kernel_rfl)|exact xI
def TX {x:Int}:Calls ak 158 #[E x] w fun e w'=>e=.returned (.bool false)/\w'=w:=by
 have Y:=Z.start w;refine bI ar Tryz.func158 ?_;refine O ?_;exact bo (v:=.bool (!decide (x=x))) rfl rfl ⟨sm,rfl⟩
def TY {x y:Int}:Calls ak 165 #[E x,E y] w fun e w'=>e=.returned (E (if x<y then -1 else if y<x then 1 else 0))/\w'=w:=by
 have Y:=Z.start w;refine bI ar Tryz.func165 ?_;refine O ?_;refine aR rfl TX ?_;rintro _ w' ⟨rfl,rfl⟩;refine⟨_,rfl,?_⟩;refine O ?_;refine aR rfl TX ?_;rintro _ w' ⟨rfl,rfl⟩;refine⟨_,rfl,?_⟩;refine aC ?_ ?_<;>intro h1
 ·refine O ?_
  exact bo (v:=E (-1)) rfl rfl ⟨by rw[ba h1],rfl⟩
 refine aC ?_ ?_<;>intro g
 ·refine O ?_
  exact bo (v:=E 1) rfl rfl ⟨by rw[aM U,ba g],rfl⟩
 refine O ?_;exact bo (v:=E 0) rfl rfl ⟨by rw[aM U,aM U],rfl⟩
def Yh (l:RS W w0 a xs)(m:RS W w0 b ys) :
  Calls ak 141 #[a,b] w0 fun e w'=>e=.returned (E (gb xs ys))/\w'=w0:=by
 have n:=l.cn;have o:=m.cn;have Y:=Z.start w0;refine bI ar Tryz.func141 ?_;refine O ?_;refine de [4,8,11,30] (G:=Nat) (fun k=>[(11,E k)]) (fun k w=>w=w0/\k<=xs.length/\k<=ys.length/\gb xs ys=gb (xs.drop k) (ys.drop k)) (fun k=>xs.length-k) 0 (fun _=>rfl) ⟨rfl,az⟩ ⟨rfl,bC _,bC _,rfl⟩ ?_;clear Y;rintro u k w ⟨rfl,q,r,he⟩;have Y:=Z.start w;refine aC ?_ ?_<;>intro h1
 ·have j:k<xs.length:=U
  have h:xs.drop k=xs.getD k W.dflt::xs.drop (k+1):=by rw[xd j];simp[List.getD,j]
  refine aC ?_ ?_<;>intro x
  ·have g:ys.drop k=[]:=oG U
   refine O ?_;exact bo (v:=E 1) rfl rfl ⟨by rw[he,h,g];rfl,rfl⟩
  have i:k<ys.length:=U;have g:ys.drop k=ys.getD k W.dflt::ys.drop (k+1):=by rw[xd i];simp[List.getD,i]
  rw[h,g]at he;simp only[gb]at he;refine O ?_;refine aR rfl TY ?_;rintro _ w' ⟨rfl,rfl⟩;refine⟨_,rfl,?_⟩;by_cases c1:xs.getD k W.dflt<ys.getD k W.dflt
  ·rw[ba c1]at he ⊢
   refine O ?_;exact bo (v:=E (-1)) rfl rfl ⟨by rw[he],rfl⟩
  by_cases c2:ys.getD k W.dflt<xs.getD k W.dflt
  ·rw[aM c1,ba c2]at he ⊢
   refine O ?_;exact bo (v:=E 1) rfl rfl ⟨by rw[he],rfl⟩
  rw[aM c1,aM c2]at he ⊢;refine O ?_;exact⟨k+1,⟨rfl,az⟩,aX,⟨rfl,U,U,he⟩,U⟩
 have h:xs.drop k=[]:=oG U;refine aC ?_ ?_<;>intro j
 ·have i:k<ys.length:=U
  have g:ys.drop k=ys.getD k W.dflt::ys.drop (k+1):=by rw[xd i];simp[List.getD,i]
  refine O ?_;exact bo (v:=E (-1)) rfl rfl ⟨by rw[he,h,g];rfl,rfl⟩
 have g:ys.drop k=[]:=oG U;refine O ?_;exact bo (v:=E 0) rfl rfl ⟨by rw[he,h,g];rfl,rfl⟩
end
section
open Go.Sl
attribute [local irreducible] vc opsW opsD opV opW PureV ReadV Thn Blk
def bS (c:Int):Value:=if c=0 then .nilIface else .iface 57 (E c)
def ff {c:Int}(h:c=0):bS c=.nilIface:=by simp[bS,h]
def c9 {c:Int}(h:c≠0):bS c=.iface 57 (E c):=by simp[bS,h]
def ĺ {vars:J}(l:RS W w0 a vars)(m:RS W w0 b s) :
  Calls ak 64 #[a,b] w0 fun e w'=>(∃ r,e=.returned (.bool r)/\(r=true↔aj vars s))/\Z w0 w' []:=by
 have n:=l.cn;have o:=m.cn;have Y:=Z.start w0;refine bI ar Tryz.func64 ?_;refine aC ?_ ?_<;>intro q
 ·refine O ?_
  refine bo (v:=.bool false) rfl rfl ⟨⟨false,rfl,dU fun h=>?_⟩,Y⟩;exact absurd (by have:=h.1;omega) q
 refine O ?_;refine de [4,5,13,32] (G:=Nat) (fun k=>[(13,E k)]) (fun k w=>k<=s.length/\(∀ i,i<k->0<=s.getD i W.dflt/\s.getD i W.dflt<vars.getD i W.dflt)/\Z w0 w []) (fun k=>s.length-k) 0 (fun _=>rfl) ⟨rfl,az⟩ ⟨bC _,fun i j=>absurd j (eo _),Y⟩ ?_;clear Y;rintro u k w ⟨hk,g,Y⟩;refine aC ?_ ?_<;>intro h1
 ·refine sU ?_ ?_<;>intro w Y x
  ·refine O ?_
   refine bo (v:=.bool false) rfl rfl ⟨⟨false,rfl,dU fun h=>?_⟩,Y⟩;have:=h.2 k U;omega
  refine O ?_;refine⟨k+1,⟨rfl,az⟩,aX,⟨U,fun i j=>?_,Y⟩,U⟩;by_cases h:i=k
  ·subst h;omega
  exact g i U
 refine O ?_;exact bo (v:=.bool true) rfl rfl ⟨⟨true,rfl,js ⟨U,fun i j=>g i U⟩⟩,Y⟩
def Jk {vars:J}(n:RS W w0 a vars)(o:RS aD w0 b f) :
  Calls ak 65 #[a,b] w0 fun e w'=>(∃ r,e=.returned (.bool r)/\(r=true↔dN vars f))/\Z w0 w' []:=by
 have q:=n.cn;have u:=o.cn;have Y:=Z.start w0;refine bI ar Tryz.func65 ?_;refine O ?_;refine de [4,6,9,54] (G:=Nat) (fun k=>[(9,E k)]) (fun k w=>k<=f.length/\(∀ i,i<k->bV vars (f.getD i aD.dflt)/\(0<i->(f.getD (i-1) aD.dflt).var<(f.getD i aD.dflt).var))/\Z w0 w []) (fun k=>f.length-k) 0 (fun _=>rfl) ⟨rfl,az⟩ ⟨bC _,fun i l=>absurd l (eo _),Y⟩ ?_;clear Y;rintro x k w ⟨hk,g,Y⟩;refine aC ?_ ?_<;>intro h1
 ·refine lE ?_ ?_<;>intro p w Y m
  ·refine O ?_
   refine bo (v:=.bool false) rfl rfl ⟨⟨false,rfl,dU fun h=>?_⟩,Y.tail⟩;have:=h k U;unfold bV at this;have j:((k:Int)-1).toNat=k-1:=U;rw[j]at m;omega
  refine O ?_;refine⟨k+1,⟨rfl,az⟩,aX,⟨U,fun i l=>?_,Y.tail⟩,U⟩;by_cases h:i=k
  ·subst h
   have j:((i:Int)-1).toNat=i-1:=U;rw[j]at m;unfold bV;omega
  exact g i U
 refine O ?_;exact bo (v:=.bool true) rfl rfl ⟨⟨true,rfl,js fun i l=>g i U⟩,Y⟩
def Ļ {vars:J}{v:kq}{o:mM}(D:RS W w0 a vars)(hv:sK w0 v o) :
  Calls ak 66 #[a,.agg (cN.enc v).toArray] w0 fun e w'=>(∃ r,e=.returned (.bool r)/\(r=true↔vG vars o))/\Z w0 w' []:=by
 have R:=D.cn;have Y:=Z.start w0;obtain⟨g,F,H,l,es,m⟩:=hv;have K:=m.rs;have S:=l.cn;have T:=K.cn;have P:=m.len;refine bI ar Tryz.func66 ?_;refine ep ?_;intro p w Y;refine To (fun h1=>?_) (fun h1=>?_)
 ·simp only[h1,xm,xn];(try simp only[tW,Bool.and_eq_true,sL,jV,rL,tL,Ae,Af,pz,r5,Ag,zG,bne_iff_ne,ne_eq,tM,zH,yi,Ah]at h1)
  refine O ?_;refine bo (v:=.bool false) rfl rfl ⟨⟨false,rfl,dU fun h=>?_⟩,Y.tail⟩;have:=h.l9;have:=h.pG;have:=h.aQ;have:=h.name.1;rw[<-g]at this;omega
 simp only[h1,xm,xn];(try simp only[tW,Bool.and_eq_true,sL,jV,rL,tL,Ae,Af,pz,r5,Ag,zG,bne_iff_ne,ne_eq,tM,zH,yi,Ah]at h1);refine O ?_;refine aR rfl (Jk (a:=a) (b:=v.pre) (D.at Y) (l.at Y)) ?_;rintro _ w' ⟨⟨r,rfl,u⟩,hk⟩;replace Y:=Y.cH hk;clear hk;refine⟨_,rfl,?_⟩;refine O ?_
 cases r with
 | false =>
  refine O ?_;refine bo (v:=.bool false) rfl rfl ⟨⟨false,rfl,dU fun h=>?_⟩,Y.tail⟩;have:=u.2 h.pre
  cases this
 | true =>
  have x:=u.1 rfl;refine O ?_;refine de [4,5,38,53] (G:=Nat) (fun k=>[(38,E k)]) (fun k w=>k<=v.name.size/\(∀ i,i<k->32<=As v.name i/\As v.name i<=126)/\Z w0 w [am p 44 (cN.enc v)]) (fun k=>v.name.size-k) 0 (fun _=>rfl) ⟨rfl,az⟩ ⟨bC _,fun i n=>absurd n (eo _),Y⟩ ?_;clear Y;rintro σ k w ⟨hk,y,Y⟩;refine aC ?_ ?_<;>intro h2
  ·refine aC ?_ ?_<;>intro j
   ·refine O ?_
    refine bo (v:=.bool false) rfl rfl ⟨⟨false,rfl,dU fun h=>?_⟩,Y.tail⟩;have:=h.name.2 k (by rw[<-g];omega);rw[<-g]at this;omega
   refine O ?_;refine⟨k+1,⟨rfl,az⟩,aX,⟨U,fun i n=>?_,Y⟩,U⟩;by_cases h:i=k
   ·subst h;omega
   exact y i U
  have z:rC o.name:=by rw[<-g];exact⟨U,fun i n=>y i U⟩
  refine O ?_;refine de [4,4,7,7,57,77] (G:=Nat) (fun k=>[(57,E k)]) (fun k w=>k<=o.aQ.length/\(∀ i,i<k->iQ vars (o.aQ.getD i bQ))/\Z w0 w [am p 44 (cN.enc v)]) (fun k=>o.aQ.length-k) 0 (fun _=>rfl) ⟨rfl,az⟩ ⟨bC _,fun i n=>absurd n (eo _),Y⟩ ?_;clear Y;rintro V k w ⟨j',A,Y⟩;refine aC ?_ ?_<;>intro h4
  ·have j:=m.eI k U
   have N:=j.cb;have Q:=j.one;refine ep ?_;intro p w Y;refine aR rfl (Jk (a:=a) (b:=(aB bm es k).cb) (D.at Y) (N.at Y)) ?_;rintro _ w' ⟨⟨r,rfl,u⟩,aw⟩;refine aL ?_;clear aw Y;intro Y
   cases r with
   | false =>
    refine O ?_;refine bo (v:=.bool false) rfl rfl ⟨⟨false,rfl,dU fun h=>?_⟩,Y.tail.tail⟩;have:=u.2 (h.fS k U).1
    cases this
   | true =>
    have B:=u.1 rfl;refine O ?_;refine jA aD (x1:=⟨(aB bm es k).var,(aB bm es k).val⟩) rfl rfl rfl (fP rfl) (fg _) Y ?_;clear Y;intro s w Y;refine O ?_;refine aR rfl (Jk (a:=a) (b:=s) (D.at Y) (bB Y)) ?_;rintro _ w' ⟨⟨r,rfl,q⟩,aw⟩;replace Y:=Y.cH aw;clear aw;rw[j.var,j.val]at q;refine⟨_,rfl,?_⟩
    cases r with
    | false =>
     refine O ?_;refine bo (v:=.bool false) rfl rfl ⟨⟨false,rfl,dU fun h=>?_⟩,Y.tail.tail.tail⟩;have:=q.2 (h.fS k U).2
     cases this
    | true =>
     have C:=q.1 rfl;refine O ?_;refine⟨k+1,⟨rfl,az⟩,aX,⟨U,fun i n=>?_,Y.tail.tail⟩,U⟩;by_cases h:i=k
     ·subst h;exact⟨B,C⟩
     exact A i U
  refine O ?_;refine bo (v:=.bool true) rfl rfl ⟨⟨true,rfl,js ⟨U,U,U,z,x,fun i n=>A i U⟩⟩,Y.tail⟩
def ļ (B:bR w0 a b c d vs t) :
  Calls ak 40 #[.agg #[a,b,c,d]] w0 fun e w'=>(∃ r,e=.returned (.bool r)/\(r=true↔aJ t))/\Z w0 w' []:=by
 obtain⟨u,C,D,x⟩:=B;have y:=x.rs;have F:=x.len;have H:=u.cn;have K:=y.cn;have Y:=Z.start w0;refine bI ar Tryz.func40 ?_;refine lE ?_ ?_<;>intro p w Y h1
 ·refine O ?_
  refine bo (v:=.bool false) rfl rfl ⟨⟨false,rfl,dU fun h=>?_⟩,Y.tail⟩;have:=h.vars;have:=h.M;omega
 refine O ?_;refine de [2,2,4,4,20,30] (G:=Nat) (fun k=>[(20,E k)]) (fun k w=>k<=t.vars.length/\(∀ i,i<k->1<=t.vars.getD i W.dflt/\t.vars.getD i W.dflt<=64)/\Z w0 w [am p 26 [a,b,c,d]]) (fun k=>t.vars.length-k) 0 (fun _=>rfl) ⟨rfl,az⟩ ⟨bC _,fun i g=>absurd g (eo _),Y⟩ ?_;clear Y;rintro Q k w ⟨hk,j,Y⟩;refine aC ?_ ?_<;>intro R
 ·refine aC ?_ ?_<;>intro l
  ·refine O ?_
   refine bo (v:=.bool false) rfl rfl ⟨⟨false,rfl,dU fun h=>?_⟩,Y.tail⟩;have:=h.pC k U;omega
  refine O ?_;refine⟨k+1,⟨rfl,az⟩,aX,⟨U,fun i g=>?_,Y⟩,U⟩;by_cases h:i=k
  ·subst h;omega
  exact j i U
 refine O ?_;refine aR rfl (ĺ (a:=a) (b:=b) (u.at Y) (C.at Y)) ?_;rintro _ w' ⟨⟨r,rfl,z⟩,aw⟩;refine aL ?_;clear aw Y;intro Y
 cases r with
 | false =>
  refine O ?_;refine bo (v:=.bool false) rfl rfl ⟨⟨false,rfl,dU fun h=>?_⟩,Y.tail⟩;have:=z.2 h.dt
  cases this
 | true =>
  have l:=z.1 rfl;refine O ?_;refine aR rfl (Jk (a:=a) (b:=c) (u.at Y) (D.at Y)) ?_;rintro _ w' ⟨⟨r,rfl,m⟩,aw⟩;refine aL ?_;clear aw Y;intro Y
  cases r with
  | false =>
   refine O ?_;refine bo (v:=.bool false) rfl rfl ⟨⟨false,rfl,dU fun h=>?_⟩,Y.tail⟩;have:=m.2 h.aF
   cases this
  | true =>
   have n:=m.1 rfl;refine O ?_;refine de [2,2,6,6,48,57] (G:=Nat) (fun k=>[(48,E k)]) (fun k w=>k<=t.M.length/\(∀ i,i<k->vG t.vars (t.M.getD i bz))/\Z w0 w [am p 26 [a,b,c,d]]) (fun k=>t.M.length-k) 0 (fun _=>rfl) ⟨rfl,az⟩ ⟨bC _,fun i g=>absurd g (eo _),Y⟩ ?_;clear Y;rintro N k w ⟨P,o,Y⟩;refine aC ?_ ?_<;>intro S
   ·have bX:=x.eI k U
    have A:=bX.one;refine ep ?_;intro p w Y;refine aR rfl (Ļ (a:=a) (v:=aB cN vs k) (u.at Y) (bX.at Y)) ?_;rintro _ w' ⟨⟨r,rfl,q⟩,aw⟩;refine aL ?_;clear aw Y;intro Y
    cases r with
    | false =>
     refine O ?_;refine bo (v:=.bool false) rfl rfl ⟨⟨false,rfl,dU fun h=>?_⟩,Y.tail.tail⟩;have:=q.2 (h.op k U)
     cases this
    | true =>
     refine O ?_;refine⟨k+1,⟨rfl,az⟩,aX,⟨U,fun i g=>?_,Y.tail⟩,U⟩;by_cases h:i=k
     ·subst h;exact q.1 rfl
     exact o i U
   refine O ?_;refine bo (v:=.bool true) rfl rfl ⟨⟨true,rfl,js ⟨U,U,fun i g=>j i U,l,n,fun i g=>o i U⟩⟩,Y.tail⟩
def zW {vars:J}(l:RS W w0 a vars)(m:RS W w0 b s) :
  Calls ak 33 #[a,b] w0 fun e w'=>(∃ r,e=.returned (.bool r)/\(r=true↔aj vars s))/\Z w0 w' []:=by
 have n:=l.cn;have o:=m.cn;have Y:=Z.start w0;refine bI ar Tryz.func33 ?_;refine aC ?_ ?_<;>intro q
 ·refine O ?_
  refine bo (v:=.bool false) rfl rfl ⟨⟨false,rfl,dU fun h=>?_⟩,Y⟩;exact absurd (by have:=h.1;omega) q
 refine O ?_;refine de [4,6,14,29] (G:=Nat) (fun k=>[(14,E k)]) (fun k w=>k<=s.length/\(∀ i,i<k->0<=s.getD i W.dflt/\s.getD i W.dflt<vars.getD i W.dflt)/\Z w0 w []) (fun k=>s.length-k) 0 (fun _=>rfl) ⟨rfl,az⟩ ⟨bC _,fun i j=>absurd j (eo _),Y⟩ ?_;clear Y;rintro u k w ⟨hk,g,Y⟩;refine aC ?_ ?_<;>intro h1
 ·refine aC ?_ ?_<;>intro x
  ·refine O ?_
   refine bo (v:=.bool false) rfl rfl ⟨⟨false,rfl,dU fun h=>?_⟩,Y⟩;have:=h.2 k U;omega
  refine O ?_;refine⟨k+1,⟨rfl,az⟩,aX,⟨U,fun i j=>?_,Y⟩,U⟩;by_cases h:i=k
  ·subst h;omega
  exact g i U
 refine O ?_;exact bo (v:=.bool true) rfl rfl ⟨⟨true,rfl,js ⟨U,fun i j=>g i U⟩⟩,Y⟩
def TZ {vars:J}(n:RS W w0 a vars)(o:RS aD w0 b f) :
  Calls ak 69 #[a,b] w0 fun e w'=>(∃ r,e=.returned (.bool r)/\(r=true↔dN vars f))/\Z w0 w' []:=by
 have q:=n.cn;have u:=o.cn;have Y:=Z.start w0;refine bI ar Tryz.func69 ?_;refine O ?_;refine dP [4,5,7,7,10,42] (G:=Nat) (H:=Int) (fun k l=>[(10,E k),(5,E l)]) (fun k l w=>k<=f.length /\ -1<=l/\(l=if k=0 then -1 else (f.getD (k-1) aD.dflt).var)/\(∀ i,i<k->bV vars (f.getD i aD.dflt)/\(0<i->(f.getD (i-1) aD.dflt).var<(f.getD i aD.dflt).var))/\Z w0 w []) (fun k l=>f.length-k) 0 (-1) (fun _ _=>rfl) ⟨rfl,rfl,az⟩ ⟨bC _,U,rfl,fun i m=>absurd m (eo _),Y⟩ ?_;clear Y;rintro y k l w ⟨hk,x,j,g,Y⟩;refine aC ?_ ?_<;>intro h1
 ·refine lE ?_ ?_<;>intro p w Y z
  ·refine O ?_
   refine bo (v:=.bool false) rfl rfl ⟨⟨false,rfl,dU fun h=>?_⟩,Y.tail⟩;have:=h k U;unfold bV at this;split at j<;>omega
  refine O ?_;refine⟨k+1,_,⟨rfl,rfl,az⟩,aX,⟨U,U,sm,fun i m=>?_,Y.tail⟩,U⟩;by_cases h:i=k
  ·subst h
   unfold bV;split at j<;>omega
  exact g i U
 refine O ?_;exact bo (v:=.bool true) rfl rfl ⟨⟨true,rfl,js fun i m=>g i U⟩,Y⟩
def T0 (l:RS aD w0 a f)(m:RS W w0 b s) :
  Calls ak 137 #[a,b] w0 fun e w'=>(∃ r,e=.returned (.bool r)/\(r=true↔cE s f))/\Z w0 w' []:=by
 have n:=l.cn;have o:=m.cn;have Y:=Z.start w0;refine bI ar Tryz.func137 ?_;refine O ?_;refine de [4,4,6,6,9,33] (G:=Nat) (fun k=>[(9,E k)]) (fun k w=>k<=f.length/\(∀ i,i<k->jh s (f.getD i aD.dflt))/\Z w0 w []) (fun k=>f.length-k) 0 (fun _=>rfl) ⟨rfl,az⟩ ⟨bC _,fun i j=>absurd j (eo _),Y⟩ ?_;clear Y;rintro q k w ⟨hk,g,Y⟩;refine aC ?_ ?_<;>intro h1
 ·refine lE ?_ ?_<;>intro p w Y u
  ·refine O ?_
   refine bo (v:=.bool false) rfl rfl ⟨⟨false,rfl,dU fun h=>?_⟩,Y.tail⟩;have:=h k U;unfold jh at this;omega
  refine O ?_;refine⟨k+1,⟨rfl,az⟩,aX,⟨U,fun i j=>?_,Y.tail⟩,U⟩;by_cases h:i=k
  ·subst h;unfold jh;omega
  exact g i U
 refine O ?_;exact bo (v:=.bool true) rfl rfl ⟨⟨true,rfl,js fun i j=>g i U⟩,Y⟩
def MZ (l:RS aD w0 a f)(m:RS W w0 b s) :
  Calls ak 39 #[a,b] w0 fun e w'=>(∃ r,e=.returned (.bool r)/\(r=true↔cE s f))/\Z w0 w' []:=by
 have n:=l.cn;have o:=m.cn;have Y:=Z.start w0;refine bI ar Tryz.func39 ?_;refine O ?_;refine de [4,4,6,6,9,33] (G:=Nat) (fun k=>[(9,E k)]) (fun k w=>k<=f.length/\(∀ i,i<k->jh s (f.getD i aD.dflt))/\Z w0 w []) (fun k=>f.length-k) 0 (fun _=>rfl) ⟨rfl,az⟩ ⟨bC _,fun i j=>absurd j (eo _),Y⟩ ?_;clear Y;rintro q k w ⟨hk,g,Y⟩;refine aC ?_ ?_<;>intro h1
 ·refine lE ?_ ?_<;>intro p w Y u
  ·refine O ?_
   refine bo (v:=.bool false) rfl rfl ⟨⟨false,rfl,dU fun h=>?_⟩,Y.tail⟩;have:=h k U;unfold jh at this;omega
  refine O ?_;refine⟨k+1,⟨rfl,az⟩,aX,⟨U,fun i j=>?_,Y.tail⟩,U⟩;by_cases h:i=k
  ·subst h;unfold jh;omega
  exact g i U
 refine O ?_;exact bo (v:=.bool true) rfl rfl ⟨⟨true,rfl,js fun i j=>g i U⟩,Y⟩
def Ľ {b:ByteArray}(l:b.size<=9223372036854775807) :
  Calls ak 70 #[.string b] w0 fun e w'=>(∃ r,e=.returned (.bool r)/\(r=true↔rC b))/\Z w0 w' []:=by
 have Y:=Z.start w0;refine bI ar Tryz.func70 ?_;refine O ?_;refine de [2,3,6,19] (G:=Nat) (fun k=>[(6,E k)]) (fun k w=>k<=b.size/\(∀ i,i<k->32<=As b i/\As b i<=126)/\Z w0 w []) (fun k=>b.size-k) 0 (fun _=>rfl) ⟨rfl,az⟩ ⟨bC _,fun i j=>absurd j (eo _),Y⟩ ?_;clear Y;rintro m k w ⟨hk,g,Y⟩;refine aC ?_ ?_<;>intro h1
 ·refine aC ?_ ?_<;>intro n
  ·refine O ?_
   refine bo (v:=.bool false) rfl rfl ⟨⟨false,rfl,dU fun h=>?_⟩,Y⟩;have:=h.2 k U;omega
  refine O ?_;refine⟨k+1,⟨rfl,az⟩,aX,⟨U,fun i j=>?_,Y⟩,U⟩;by_cases h:i=k
  ·subst h;omega
  exact g i U
 refine O ?_;refine bo (v:=.bool (decide ((b.size:Int)<=256))) rfl rfl ⟨⟨_,rfl,?_⟩,Y⟩;rw[jV];exact⟨fun h=>⟨U,fun i j=>g i U⟩,fun h=>by have:=h.1;omega⟩
def iF (w:World)(cs:List Value)(L:List (List bE)):Prop:=cs.length=L.length/\∀ i,i<L.length->RS aD w (cL cs i) (L.getD i [])
def iF.gD {v:Value}(h:iF w cs L)(hv:RS aD w v f):iF w (cs++[v]) (L++[f]):=by
 refine⟨by simp[h.1],fun i g=>?_⟩;simp only[length_append,length_cons,length_nil]at g;by_cases e:i<L.length
 ·have:=h.2 i e
  rw[qL]at this ⊢;simp only[ow]at this ⊢;rw[mu (by rw[h.1];exact e),mu e];exact this
 have j:i=L.length:=U;subst j;rw[qL];simp only[ow];rw[lP (by rw[h.1];exact cP _),lP (cP _),h.1]
 simpa using hv
def iF.at {w0 w:World}{Γ:List HP}{cs:List Value}{L:List (List bE)}(h:iF w0 cs L)(Y:Z w0 w Γ):iF w cs L:=⟨h.1,fun i e=>(h.2 i e).at Y⟩
def km (t:aa)(k j:Nat):List (List bE):=gI t k++(t.M.getD k bz).pre::((t.M.getD k bz).aQ.take j).map (·.cb)
def ľ (t:aa){j:Nat}(e:j<(t.M.getD k bz).aQ.length):km t k (j+1)=km t k j++[((t.M.getD k bz).aQ.getD j bQ).cb]:=by
 unfold km;generalize t.M.getD k bz=o at *
 rw[eX bQ e];simp
def Ŀ (t:aa)(hk:k<t.M.length):km t k (t.M.getD k bz).aQ.length=gI t (k+1):=by
 rw[T1 t hk];unfold km oo;generalize t.M.getD k bz=o at *
 simp
def ŀ (t:aa){j:Nat}(e:j<=(t.M.getD k bz).aQ.length):(km t k j).length=(gI t k).length+1+j:=by
 unfold km;generalize t.M.getD k bz=o at *
 simp;omega
def T2 {m:World}{Γ:List HP}(n:bR m a b c d vs t)(Q:Z m w0 Γ)(hn:t.M.length<=4096)(he:∀ i,i<t.M.length->(t.M.getD i bz).aQ.length<=64) :
  Calls ak 68 #[.agg #[a,b,c,d]] w0 fun e w'=>∃ s cs,e=.returned s/\iF m cs (kH t)/\Z w0 w' [X aA 23 s cs]:=by
 have D:=n.M;have F:=n.aF;obtain⟨ha,hb,hc,K⟩:=n.at Q;have j':=K.rs;have H':=K.len;have Y:=Z.start w0;refine bI ar Tryz.func68 ?_
 repeat (first|refine dS ?_|(refine iT ?_;clear Y;intro p w Y)|(refine gA ?_;clear Y;intro s w Y))
 obtain⟨R,rfl⟩:=À p;have N:iF m [c] (gI t 0):=by
  rw[Ł];refine⟨rfl,fun i g=>?_⟩;simp at g;subst g;rw[qL]
  simpa using F
 refine dP [3,3,5,5,7,7,14,36] (G:=Nat) (H:=Value × List Value) (fun k x=>[(14,E k),(3,x.1)]) (fun k x w=>k<=t.M.length/\iF m x.2 (gI t k)/\Z w0 w [X aA 23 x.1 x.2,am R 26 [a,b,c,d]]) (fun k x=>t.M.length-k) 0 (s,[c]) (fun _ _=>rfl) ⟨rfl,rfl,az⟩ ⟨bC _,N,Y⟩ ?_;clear Y;rintro σ k ⟨s,cs⟩ w ⟨hk,g,Y⟩;simp only at g Y;have J':=M0 t k hk he;have r:=g.1;refine aC ?_ ?_<;>intro h1
 ·have u:=K.eI k U
  have S:=u.one;have h:=D.eI k U;have o:=h.pre;have T:=u.pre;obtain⟨es,l⟩:=h.aQ;have q:=l.at Q;have V:=q.rs;have P':=q.len;have R':=he k U
  repeat (first|refine dS ?_|(refine iT ?_;clear Y;intro p w Y)|(refine rG ?_;clear Y;intro w Y)|(refine gA ?_;clear Y;intro s w Y))
  have y:iF m (cs++[(aB cN vs k).pre]) (km t k 0):=by
   have:=g.gD o
   simpa [km] using this
  refine dP [3,3,7,7,26,35] (G:=Nat) (H:=Value × List Value) (fun j x=>[(26,E j),(3,x.1)]) (fun j x w=>j<=(t.M.getD k bz).aQ.length/\iF m x.2 (km t k j)/\Z w0 w [X aA 23 x.1 x.2,am R 26 [a,b,c,d]]) (fun j x=>(t.M.getD k bz).aQ.length-j) 0 (s,cs++[(aB cN vs k).pre]) (fun _ _=>rfl) ⟨rfl,rfl,az⟩ ⟨bC _,y,Y.tail.tail⟩ ?_;clear Y g r y;rintro T' j ⟨s2,z⟩ w ⟨hj,g,Y⟩;simp only at g Y;have V':=ŀ t hj;have r:=g.1;refine aC ?_ ?_<;>intro h2
  ·have A:=q.eI j U
   have P:=A.one;have _a:=A.cb;have B:=(l.eI j U).cb
   repeat (first|refine dS ?_|(refine iT ?_;clear Y;intro p w Y)|(refine rG ?_;clear Y;intro w Y)|(refine gA ?_;clear Y;intro s w Y))
   have C:=g.gD B;rw[<-ľ t U]at C;exact⟨j+1,(s,z++[(aB bm es j).cb]),⟨rfl,rfl,az⟩,aX,⟨U,C,Y.tail.tail⟩,U⟩
  have A:j=(t.M.getD k bz).aQ.length:=U;subst A;rw[Ŀ t U]at g;refine O ?_;exact⟨k+1,(s2,z),⟨rfl,rfl,az⟩,aX,⟨U,g,Y⟩,U⟩
 have h:k=t.M.length:=U;subst h;refine O ?_;exact bo (v:=s) rfl rfl ⟨s,cs,rfl,g,Y.only⟩
def ł (g:RS aD w0 a f) :
  Calls ak 95 #[a] w0 fun e w'=>e=.returned (.bool (decide (64<(f.length:Int))))/\Z w0 w' []:=by
 have h:=g.cn;have Y:=Z.start w0;refine bI ar Tryz.func95 ?_;refine O ?_;exact bo (v:=.bool (decide (64<(f.length:Int)))) rfl rfl ⟨rfl,Y⟩
def Ń (m:RS aA w0 a cs)(l:iF w0 cs L) :
  Calls ak 121 #[a,.func (.func 95) #[] #[]] w0 fun e w'=>(∃ r:Int,e=.returned (E r)/\(0<=r↔∃ i,i<L.length/\64<(L.getD i []).length))/\Z w0 w' []:=by
 have n:=m.cn;have o:=l.1;have Y:=Z.start w0;refine bI ar Tryz.func121 ?_;refine O ?_;refine de [4,5,8,18] (G:=Nat) (fun k=>[(8,E k)]) (fun k w=>k<=L.length/\(∀ i,i<k->(L.getD i []).length<=64)/\Z w0 w []) (fun k=>L.length-k) 0 (fun _=>rfl) ⟨rfl,az⟩ ⟨bC _,fun i j=>absurd j (eo _),Y⟩ ?_;clear Y;rintro q k w ⟨hk,g,Y⟩;refine aC ?_ ?_<;>intro h1
 ·refine O ?_
  refine xK (cs:=[]) rfl rfl (ł ((l.2 k U).at Y)) ?_;rintro _ w' ⟨rfl,aw⟩;refine aL ?_;clear aw Y;intro Y;refine aC ?_ ?_<;>intro u
  ·refine O ?_
   exact bo (v:=E k) rfl rfl ⟨⟨k,rfl,⟨fun _=>⟨k,U,U⟩,fun _=>U⟩⟩,Y⟩
  refine O ?_;refine⟨k+1,⟨rfl,az⟩,aX,⟨U,fun i j=>?_,Y⟩,U⟩;by_cases h:i=k
  ·subst h;omega
  exact g i U
 refine O ?_;refine bo (v:=E (-1)) rfl rfl ⟨⟨-1,rfl,⟨fun h=>absurd h dc,fun⟨i,j,u⟩=>?_⟩⟩,Y⟩;have:=g i U;omega
def ń (g:RS aA w0 a cs)(h:iF w0 cs L) :
  Calls ak 94 #[a,.func (.func 95) #[] #[]] w0 fun e w'=>(∃ r,e=.returned (.bool r)/\(r=true↔∃ i,i<L.length/\64<(L.getD i []).length))/\Z w0 w' []:=by
 have Y:=Z.start w0;refine bI ar Tryz.func94 ?_;refine O ?_;refine aR rfl (Ń (g.at Y) (h.at Y)) ?_;rintro _ w' ⟨⟨r,rfl,j⟩,aw⟩;refine aL ?_;clear aw Y;intro Y;refine O ?_;refine bo (v:=.bool (decide (0<=r))) rfl rfl ⟨⟨_,rfl,?_⟩,Y⟩;rw[jV,j]
def Ņ (x:bR w0 a b c d vs t) :
  Calls ak 67 #[.agg #[a,b,c,d]] w0 fun e w'=>(∃ r,e=.returned (.bool r)/\(r=true↔im t))/\Z w0 w' []:=by
 have o:=x;obtain⟨z,K,N,q⟩:=x;have u:=q.rs;have A:=q.len;have B:=z.cn;have C:=u.cn;have Y:=Z.start w0;refine bI ar Tryz.func67 ?_;refine lE ?_ ?_<;>intro p w Y h1
 ·refine O ?_
  refine bo (v:=.bool true) rfl rfl ⟨⟨true,rfl,js ?_⟩,Y.tail⟩;unfold im;omega
 refine O ?_;obtain⟨D,rfl⟩:=À p;refine de [2,2,4,4,18,26] (G:=Nat) (fun k=>[(18,E k)]) (fun k w=>k<=t.M.length/\(∀ i,i<k->(t.M.getD i bz).aQ.length<=64)/\Z w0 w [am D 26 [a,b,c,d]]) (fun k=>t.M.length-k) 0 (fun _=>rfl) ⟨rfl,az⟩ ⟨bC _,fun i n=>absurd n (eo _),Y⟩ ?_;clear Y;rintro P k w ⟨hk,g,Y⟩;refine aC ?_ ?_<;>intro Q
 ·have j:=q.eI k U
  have y:=j.one;obtain⟨es,l⟩:=j.aQ;have m:=l.rs;have F:=l.len;have H:=m.cn;refine lE ?_ ?_<;>intro p w Y R
  ·refine O ?_
   refine bo (v:=.bool true) rfl rfl ⟨⟨true,rfl,js (.inr (.inr (.inl ⟨k,U,U⟩)))⟩,Y.tail.tail⟩
  refine O ?_;refine⟨k+1,⟨rfl,az⟩,aX,⟨U,fun i n=>?_,Y.tail⟩,U⟩;by_cases h:i=k
  ·subst h;omega
  exact g i U
 refine O ?_;refine aR rfl (T2 o Y U (fun i n=>g i U)) ?_;rintro _ w' ⟨s,cs,rfl,j,aw⟩;refine aO ?_;clear aw Y;intro Y;refine O ?_;refine aR rfl (ń (a:=s) (bB Y) (j.at Y)) ?_;rintro _ w' ⟨⟨r,rfl,l⟩,aw⟩;refine aL ?_;clear aw Y;intro Y;refine O ?_;refine bo (v:=.bool r) rfl rfl ⟨⟨r,rfl,l.trans ⟨fun h=>.inr (.inr (.inr h)),fun h=>?_⟩⟩,Y.tail.tail⟩;rcases h with h|h|⟨i,n,h⟩|h
 ·omega
 ·omega
 ·have:=g i U;omega
 exact h
def ņ (h:im t):cC t=5:=by simp[cC,h]
def Ň (h1:¬im t)(h2:¬qV t):cC t=1:=by simp[cC,h1,h2]
def ň (h1:¬im t)(h2:qV t)(e:¬mT t):cC t=1:=by simp[cC,h1,h2,e]
def ŉ (h1:¬im t)(h2:qV t)(e:mT t)(g:¬aj t.vars t.dt):cC t=2:=by simp[cC,h1,h2,e,g]
def Ŋ (h1:¬im t)(h2:qV t)(e:mT t)(g:aj t.vars t.dt)(h:¬nX t):cC t=2:=by simp[cC,h1,h2,e,g,h]
def ŋ (h1:¬im t)(h2:qV t)(e:mT t)(g:aj t.vars t.dt)(h:nX t)(i:¬vL t):cC t=2:=by simp[cC,h1,h2,e,g,h,i]
def Ō (h1:¬im t)(h2:qV t)(e:mT t)(g:aj t.vars t.dt)(h:nX t)(i:vL t)(j:¬rD t):cC t=8:=by simp[cC,h1,h2,e,g,h,i,j]
def ō (h1:¬im t)(h2:qV t)(e:mT t)(g:aj t.vars t.dt)(h:nX t)(i:vL t)(j:rD t):cC t=0:=by simp[cC,h1,h2,e,g,h,i,j]
def xL (ht:bR w0 a b c d vs t) :
  Calls ak 42 #[.agg #[a,b,c,d]] w0 fun e w'=>e=.returned (bS (cC t))/\Z w0 w' []:=by
 have H:=ht;obtain⟨T,hb,hc,K⟩:=ht;have j':=K.rs;have T':=K.len;have V':=T.cn;have _a:=j'.cn;have Y:=Z.start w0;refine bI ar Tryz.func42 ?_;refine ep ?_;intro D w Y;refine aR rfl (Ņ (H.at Y)) ?_;rintro _ w' ⟨⟨r,rfl,hr⟩,aw⟩;refine aL ?_;clear aw Y;intro Y
 cases r with
 | true =>
  refine O ?_
  exact bo (v:=.iface 57 (E 5)) rfl rfl ⟨by rw[ņ (hr.1 rfl)];rfl,Y.tail⟩
 | false =>
  have h1:¬im t:=fun h=>by have:=hr.2 h;cases this
  have H':t.M.length<=4096:=Fi fun h=>h1 (.inr (.inl h));have N:∀ i,i<t.M.length->(t.M.getD i bz).aQ.length<=64:=fun i g=>Fi fun h=>h1 (.inr (.inr (.inl ⟨i,g,h⟩)));refine O ?_;refine de [2,2,4,4,21,32] (G:=Nat) (fun k=>[(21,E k)]) (fun k w=>k<=t.vars.length/\(∀ i,i<k->1<=t.vars.getD i W.dflt/\t.vars.getD i W.dflt<=64)/\Z w0 w [am D 26 [a,b,c,d]]) (fun k=>t.vars.length-k) 0 (fun _=>rfl) ⟨rfl,az⟩ ⟨bC _,fun i g=>absurd g (eo _),Y⟩ ?_;clear Y;rintro σ k w ⟨hk,u,Y⟩;refine aC ?_ ?_<;>intro o
  ·refine aC ?_ ?_<;>intro h3
   ·refine O ?_
    have l:¬qV t:=fun h=>by have:=h k U;omega
    exact bo (v:=.iface 57 (E 1)) rfl rfl ⟨by rw[Ň h1 l];rfl,Y.tail⟩
   refine O ?_;refine⟨k+1,⟨rfl,az⟩,aX,⟨U,fun i g=>?_,Y⟩,U⟩;by_cases h:i=k
   ·subst h;omega
   exact u i U
  have F:qV t:=fun i g=>u i U;clear u o hk;refine O ?_;refine de [2,2,6,6,36,49] (G:=Nat) (fun k=>[(36,E k)]) (fun k w=>k<=t.M.length/\(∀ i,i<k->0<=(t.M.getD i bz).aT/\(t.M.getD i bz).aT<=1048576)/\Z w0 w [am D 26 [a,b,c,d]]) (fun k=>t.M.length-k) 0 (fun _=>rfl) ⟨rfl,az⟩ ⟨bC _,fun i g=>absurd g (eo _),Y⟩ ?_;clear Y;rintro _b k w ⟨hk,x,Y⟩;refine aC ?_ ?_<;>intro o
  ·have m:=K.eI k U
   have q:=m.one;have j:=m.aT;refine lE ?_ ?_<;>intro p w Y h3
   ·refine O ?_
    have l:¬mT t:=fun h=>by have:=h k U;omega
    exact bo (v:=.iface 57 (E 1)) rfl rfl ⟨by rw[ň h1 F l];rfl,Y.tail.tail⟩
   refine O ?_;refine⟨k+1,⟨rfl,az⟩,aX,⟨U,fun i g=>?_,Y.tail⟩,U⟩;by_cases h:i=k
   ·subst h;omega
   exact x i U
  have P:mT t:=fun i g=>x i U;clear x o hk;refine O ?_;refine aR rfl (zW (a:=a) (b:=b) (T.at Y) (hb.at Y)) ?_;rintro _ w' ⟨⟨r,rfl,Q⟩,aw⟩;refine aL ?_;clear aw Y;intro Y
  cases r with
  | false =>
   refine O ?_;have l:¬aj t.vars t.dt:=fun h=>by have:=Q.2 h;cases this
   exact bo (v:=.iface 57 (E 2)) rfl rfl ⟨by rw[ŉ h1 F P l];rfl,Y.tail⟩
  | true =>
   have V:=Q.1 rfl;refine O ?_;refine aR rfl (T2 H Y H' N) ?_;rintro _ w' ⟨s,cs,rfl,y,aw⟩;replace Y:=Y.pI aw;clear aw;have J':=y.1;have _c:=M0 t t.M.length (cP _) N;have _d:(kH t).length=(gI t t.M.length).length:=rfl;refine⟨_,rfl,?_⟩;refine O ?_;refine de [2,2,8,8,60,70] (G:=Nat) (fun k=>[(60,E k)]) (fun k w=>k<=(kH t).length/\(∀ i,i<k->dN t.vars ((kH t).getD i []))/\Z w0 w [X aA 23 s cs,am D 26 [a,b,c,d]]) (fun k=>(kH t).length-k) 0 (fun _=>rfl) ⟨rfl,az⟩ ⟨bC _,fun i g=>absurd g (eo _),Y⟩ ?_;clear Y;rintro _e k w ⟨hk,z,Y⟩;refine aC ?_ ?_<;>intro o
   ·refine O ?_
    refine aR rfl (TZ (a:=a) (b:=cL cs k) (T.at Y) ((y.2 k U).at Y)) ?_;rintro _ w' ⟨⟨r,rfl,n⟩,aw⟩;refine aL ?_;clear aw Y;intro Y
    cases r with
    | false =>
     refine O ?_;have l:¬nX t:=fun h=>by have:=n.2 (h k U);cases this
     exact bo (v:=.iface 57 (E 2)) rfl rfl ⟨by rw[Ŋ h1 F P V l];rfl,Y.tail.tail⟩
    | true =>
     refine O ?_;refine⟨k+1,⟨rfl,az⟩,aX,⟨U,fun i g=>?_,Y⟩,U⟩;by_cases h:i=k
     ·subst h;exact n.1 rfl
     exact z i U
   have hK:nX t:=fun i g=>z i U;replace Y:=Y.tail;clear z o hk J' y;refine O ?_;refine de [2,2,10,10,12,12,74,97] (G:=Nat) (fun k=>[(74,E k)]) (fun k w=>k<=t.M.length/\(∀ i,i<k->∀ j,j<(t.M.getD i bz).aQ.length->dN t.vars [⟨((t.M.getD i bz).aQ.getD j bQ).var,((t.M.getD i bz).aQ.getD j bQ).val⟩])/\Z w0 w [am D 26 [a,b,c,d]]) (fun k=>t.M.length-k) 0 (fun _=>rfl) ⟨rfl,az⟩ ⟨bC _,fun i g=>absurd g (eo _),Y⟩ ?_;clear Y;rintro _f k w ⟨hk,A,Y⟩;refine aC ?_ ?_<;>intro o
   ·have m:=K.eI k U
    have q:=m.one;obtain⟨es,B⟩:=m.aQ;have R:=B.rs;have _g:=B.len;have _h:=R.cn;refine ep ?_;intro p w Y;refine de [2,2,12,12,81,96] (G:=Nat) (fun j=>[(81,E j)]) (fun j w=>j<=(t.M.getD k bz).aQ.length/\(∀ i,i<j->dN t.vars [⟨((t.M.getD k bz).aQ.getD i bQ).var,((t.M.getD k bz).aQ.getD i bQ).val⟩])/\Z w0 w [am D 26 [a,b,c,d]]) (fun j=>(t.M.getD k bz).aQ.length-j) 0 (fun _=>rfl) ⟨rfl,az⟩ ⟨bC _,fun i g=>absurd g (eo _),Y.tail⟩ ?_;clear Y;rintro P' j w ⟨hj,S,Y⟩;refine aC ?_ ?_<;>intro h3
    ·have C:=B.eI j U
     have R':=C.one;refine ep ?_;intro p w Y;refine jA aD (x1:=⟨(aB bm es j).var,(aB bm es j).val⟩) rfl rfl rfl (fP rfl) (fg _) Y ?_;clear Y;intro s w Y;refine O ?_;refine aR rfl (TZ (a:=a) (b:=s) (T.at Y) (bB Y)) ?_;rintro _ w' ⟨⟨r,rfl,n⟩,aw⟩;replace Y:=Y.cH aw;clear aw;rw[C.var,C.val]at n;refine⟨_,rfl,?_⟩
     cases r with
     | false =>
      refine O ?_;have l:¬vL t:=fun h=>by have:=n.2 (h k U j U);cases this
      exact bo (v:=.iface 57 (E 2)) rfl rfl ⟨by rw[ŋ h1 F P V hK l];rfl,Y.tail.tail.tail⟩
     | true =>
      refine O ?_;refine⟨j+1,⟨rfl,az⟩,aX,⟨U,fun i g=>?_,Y.tail.tail⟩,U⟩;by_cases h:i=j
      ·subst h;exact n.1 rfl
      exact S i U
    refine O ?_;refine⟨k+1,⟨rfl,az⟩,aX,⟨U,fun i g=>?_,Y⟩,U⟩;by_cases h:i=k
    ·subst h;exact fun C R'=>S C U
    exact A i U
   have C:vL t:=fun i g=>A i U;clear A o hk;refine O ?_;refine de [2,2,14,14,101,110] (G:=Nat) (fun k=>[(101,E k)]) (fun k w=>k<=t.M.length/\(∀ i,i<k->rC (t.M.getD i bz).name)/\Z w0 w [am D 26 [a,b,c,d]]) (fun k=>t.M.length-k) 0 (fun _=>rfl) ⟨rfl,az⟩ ⟨bC _,fun i g=>absurd g (eo _),Y⟩ ?_;clear Y;rintro P' k w ⟨hk,B,Y⟩;refine aC ?_ ?_<;>intro o
   ·have m:=K.eI k U
    have q:=m.one;refine ep ?_;intro p w Y;refine aR rfl (Ľ (b:=(aB cN vs k).name) (by rw[m.name];exact m.size)) ?_;rintro _ w' ⟨⟨r,rfl,n⟩,aw⟩;replace Y:=Y.cH aw;clear aw;rw[m.name]at n;refine⟨_,rfl,?_⟩
    cases r with
    | false =>
     refine O ?_;have l:¬rD t:=fun h=>by have:=n.2 (h k U);cases this
     exact bo (v:=.iface 57 (E 8)) rfl rfl ⟨by rw[Ō h1 F P V hK C l];rfl,Y.tail.tail⟩
    | true =>
     refine O ?_;refine⟨k+1,⟨rfl,az⟩,aX,⟨U,fun i g=>?_,Y.tail⟩,U⟩;by_cases h:i=k
     ·subst h;exact n.1 rfl
     exact B i U
   refine O ?_;exact bo (v:=.nilIface) rfl rfl ⟨by rw[ō h1 F P V hK C fun i g=>B i U];rfl,Y.tail⟩
def Ŏ (e:xs.length=ys.length)(h:∀ i,i<xs.length->xs.getD i W.dflt=ys.getD i W.dflt):xs=ys:=by
 apply jB e;intro i h1 g;have:=h i h1
 rwa[aq h1,aq g]at this
def qBk (l:RS W w0 a xs)(m:RS W w0 b ys) :
  Calls ak 50 #[a,b] w0 fun e w'=>(∃ r,e=.returned (.bool r)/\(r=true↔xs=ys))/\Z w0 w' []:=by
 have n:=l.cn;have o:=m.cn;have Y:=Z.start w0;refine bI ar Tryz.func50 ?_;refine aC ?_ ?_<;>intro u
 ·refine O ?_
  refine bo (v:=.bool false) rfl rfl ⟨⟨false,rfl,dU fun h=>?_⟩,Y⟩;subst h;omega
 refine O ?_;refine de [4,5,13,25] (G:=Nat) (fun k=>[(13,E k)]) (fun k w=>k<=xs.length/\(∀ i,i<k->xs.getD i W.dflt=ys.getD i W.dflt)/\Z w0 w []) (fun k=>xs.length-k) 0 (fun _=>rfl) ⟨rfl,az⟩ ⟨bC _,fun i j=>absurd j (eo _),Y⟩ ?_;clear Y;rintro x k w ⟨hk,g,Y⟩;refine aC ?_ ?_<;>intro h1
 ·refine sU ?_ ?_<;>intro w Y q
  ·refine O ?_
   refine bo (v:=.bool false) rfl rfl ⟨⟨false,rfl,dU fun h=>?_⟩,Y⟩;subst h;exact q rfl
  refine O ?_;refine⟨k+1,⟨rfl,az⟩,aX,⟨U,fun i j=>?_,Y⟩,U⟩;by_cases h:i=k
  ·subst h;omega
  exact g i U
 refine O ?_;exact bo (v:=.bool true) rfl rfl ⟨⟨true,rfl,js (Ŏ U fun i j=>g i U)⟩,Y⟩
def ŏ {n k m:Int}(i:1<=n)(hk:1<=k)(hm:n<=m)(j:m<=65536):let x:=n*(if m+1<(if 0>k then 0 else k) then m+1 else (if 0>k then 0 else k))
  0<=x/\x<=4295098368/\(x<=m->x=n*k)/\(m<x->m<n*k):=by
 intro x;have e:x=n*min k (m+1):=by
  show n*(if m+1<(if 0>k then 0 else k) then m+1 else (if 0>k then 0 else k))=_;have g:(if 0>k then 0 else k)=k:=aM U;rw[g];congr 1;split<;>omega
 have l:n*min k (m+1)<=65536*65537:=w9 U U U U;have o:0<=n*min k (m+1):=vX U U;refine⟨U,U,fun h=>?_,fun h=>?_⟩
 ·rw[e]at h ⊢
  by_cases g:k<=m+1
  ·rw[Int.min_eq_left g]
  rw[Int.min_eq_right U]at h;have:1*(m+1)<=n*(m+1):=zF i U;omega
 rw[e]at h;have:n*min k (m+1)<=n*k:=Ii U U;omega
def sr (vars:J)(m:Int):Int:=if cZ vars<=m then cZ vars else m+1
def Rq {vars:J}{m:Int}(u:RS W w0 a vars)(j:∀ x∈vars,1<=x)(q:1<=m)(r:m<=65536) :
  Calls ak 8 #[a,E m] w0 fun e w'=>e=.returned (E (sr vars m))/\Z w0 w' []:=by
 have y:=u.cn;have Y:=Z.start w0;refine bI ar Tryz.func8 ?_;refine O ?_;refine dP [4,5,7,7,10,26] (G:=Nat) (H:=Int) (fun k n=>[(10,E k),(5,E n)]) (fun k n w=>k<=vars.length/\n=cZ (vars.take k)/\n<=m/\Z w0 w []) (fun k _=>vars.length-k) 0 1 (fun _ _=>rfl) ⟨rfl,rfl,az⟩ ⟨bC _,rfl,q,Y⟩ ?_;clear Y;rintro C k n w ⟨hk,o,g,Y⟩;refine aC ?_ ?_<;>intro h1
 ·have h:k<vars.length:=U
  have hx:=j _ (cS W.dflt h);have i:1<=n:=by rw[o];exact Bl fun x hx=>j x (rZ hx)
  obtain⟨D,F,z,A⟩:=ŏ i hx g r;have B:cZ (vars.take (k+1))=n*vars.getD k W.dflt:=by rw[eX W.dflt h,BH,o]
  refine aC ?_ ?_<;>intro K
  ·refine O ?_
   refine bo (v:=E (m+1)) rfl rfl ⟨?_,Y⟩;have N:=A U;have P:cZ (vars.take (k+1))<=cZ vars:=by
    have:=T3 (l:=vars.take (k+1)) (m:=vars.drop (k+1)) (fun x hx=>j x (Ma hx)) (fun x hx=>j x (rZ hx))
    rwa[Ak]at this
   rw[sr,aM U]
  refine O ?_;refine⟨k+1,_,⟨rfl,rfl,az⟩,aX,⟨U,?_,U,Y⟩,U⟩;rw[B];exact z U
 refine O ?_;refine bo (v:=E n) rfl rfl ⟨?_,Y⟩;rw[io U]at o;rw[sr,<-o,ba g]
def È (y:bR w0 a b c d vs t) :
  Calls ak 18 #[.agg #[a,b,c,d]] w0 fun e w'=>(∃ r,e=.returned (.bool r)/\(r=true↔fx t))/\Z w0 w' []:=by
 have o:=y;obtain⟨z,N,P,q⟩:=y;have u:=q.rs;have B:=q.len;have C:=z.cn;have D:=u.cn;have Y:=Z.start w0;refine bI ar Tryz.func18 ?_;refine lE ?_ ?_<;>intro p w Y h1
 ·refine O ?_
  refine bo (v:=.bool false) rfl rfl ⟨⟨false,rfl,dU fun h=>?_⟩,Y.tail⟩;have:=h.vars;have:=h.M;omega
 refine O ?_;obtain⟨F,rfl⟩:=À p;refine de [2,2,4,4,18,26] (G:=Nat) (fun k=>[(18,E k)]) (fun k w=>k<=t.M.length/\(∀ i,i<k->(t.M.getD i bz).aQ.length<=8)/\Z w0 w [am F 26 [a,b,c,d]]) (fun k=>t.M.length-k) 0 (fun _=>rfl) ⟨rfl,az⟩ ⟨bC _,fun i x=>absurd x (eo _),Y⟩ ?_;clear Y;rintro Q k w ⟨hk,g,Y⟩;refine aC ?_ ?_<;>intro R
 ·have j:=q.eI k U
  have A:=j.one;obtain⟨es,l⟩:=j.aQ;have n:=l.rs;have H:=l.len;have K:=n.cn;refine lE ?_ ?_<;>intro p w Y S
  ·refine O ?_
   refine bo (v:=.bool false) rfl rfl ⟨⟨false,rfl,dU fun h=>?_⟩,Y.tail.tail⟩;have:=h.aQ k U;omega
  refine O ?_;refine⟨k+1,⟨rfl,az⟩,aX,⟨U,fun i x=>?_,Y.tail⟩,U⟩;by_cases h:i=k
  ·subst h;omega
  exact g i U
 refine O ?_;refine aR rfl (ļ (o.at Y)) ?_;rintro _ w' ⟨⟨r,rfl,j⟩,aw⟩;refine aL ?_;clear aw Y;intro Y
 cases r with
 | false =>
  refine O ?_;refine bo (v:=.bool false) rfl rfl ⟨⟨false,rfl,dU fun h=>?_⟩,Y.tail⟩;have:=j.2 h.dJ
  cases this
 | true =>
  have I:=j.1 rfl;refine O ?_;refine aR rfl (Rq (m:=512) (z.at Y) I.pos dc dc) ?_;rintro _ w' ⟨rfl,aw⟩;refine aL ?_;clear aw Y;intro Y;refine O ?_;refine bo (v:=.bool (decide (sr t.vars 512<=512))) rfl rfl ⟨⟨_,rfl,?_⟩,Y.tail⟩;rw[jV,sr];constructor
  ·intro h
   exact⟨I,U,U,fun i x=>g i U,by split at h<;>omega⟩
  intro h;rw[ba h.many];exact h.many
def Ő {sv:Value}{st:J}{op:Int}(C:bR w0 a b c d vs t)(D:RS W w0 sv st)(I:aJ t)(bX:aj t.vars st) :
  Calls ak 34 #[.agg #[a,b,c,d],sv,E op] w0 fun e w'=>∃ r rv,e=.returned (.tuple #[rv,.bool r])/\(r=true↔0<=op/\op<t.M.length/\jZ t st op.toNat)/\Z w0 w' [X W 3 rv (if r then cD t st op.toNat else [])]:=by
 have N:=C;obtain⟨P,hb,hc,u⟩:=C;have x:=u.rs;have Q:=u.len;have R:=P.cn;have S:=x.cn;have T:=bX.1;have V:=I.vars;have Y:=Z.start w0;refine bI ar Tryz.func34 ?_;refine ep ?_;intro pt w Y;refine To (fun h1=>?_) (fun h1=>?_)
 ·simp only[h1,xm,xn];(try simp only[tW,Bool.and_eq_true,sL,jV,rL,tL,Ae,Af,pz,r5,Ag,zG,bne_iff_ne,ne_eq,tM,zH,yi,Ah]at h1)
  refine O ?_;refine dw (v:=nS) (v':=.bool false) rfl rfl rfl ⟨false,_,rfl,dU fun h=>?_,Y.tail.nil⟩;omega
 simp only[h1,xm,xn];(try simp only[tW,Bool.and_eq_true,sL,jV,rL,tL,Ae,Af,pz,r5,Ag,zG,bne_iff_ne,ne_eq,tM,zH,yi,Ah]at h1);have i:=u.eI op.toNat U;have F:=i.one;obtain⟨es,j⟩:=i.aQ;have m:=j.rs;have j':=j.len;have H':=m.cn;have n:=i.pre;have hgo:=I.op op.toNat U;have H:=hgo.aQ;refine O ?_;refine aR rfl (MZ (n.at Y) (D.at Y)) ?_;rintro _ w' ⟨⟨r,rfl,K⟩,aw⟩;refine aL ?_;clear aw Y;intro Y
 cases r with
 | false =>
  refine O ?_;refine dw (v:=nS) (v':=.bool false) rfl rfl rfl ⟨false,_,rfl,dU fun h=>?_,Y.tail.nil⟩;have:=K.2 h.2.2
  cases this
 | true =>
  have o:=K.1 rfl;refine O ?_;refine zU W Y ?_;clear Y;intro s1 w Y;refine kO ?_;intro s w Y;obtain⟨out,rfl⟩:=À s;rw[lQ]at Y;refine de [10,10,41,55] (G:=Nat) (fun k=>[(41,E k)]) (fun k w=>k<=(t.M.getD op.toNat bz).aQ.length/\Z w0 w [X W 3 out (fL st ((t.M.getD op.toNat bz).aQ.take k)),am pt 26 [a,b,c,d]]) (fun k=>(t.M.getD op.toNat bz).aQ.length-k) 0 (fun _=>rfl) ⟨rfl,az⟩ ⟨bC _,Y⟩ ?_;clear Y;rintro σ k w ⟨hk,Y⟩;refine aC ?_ ?_<;>intro h2
  ·have g:=j.eI k U
   have y:=g.cb;have z:=g.one;have A:=g.var;have B:=g.val;obtain⟨r1,r2,r3,r4⟩:=uW (hgo.fS k U);have l:=Ex st ((t.M.getD op.toNat bz).aQ.take k) ((t.M.getD op.toNat bz).aQ.getD k bQ);rw[<-eX bQ U]at l;have J':=M2 st ((t.M.getD op.toNat bz).aQ.take k);refine ep ?_;intro p w Y;refine aR rfl (MZ (y.at Y) (D.at Y)) ?_;rintro _ w' ⟨⟨r,rfl,q⟩,aw⟩;refine aL ?_;clear aw Y;intro Y
   cases r with
   | false =>
    refine O ?_;refine⟨k+1,⟨rfl,az⟩,aX,⟨U,?_⟩,U⟩;rw[l,aM fun h=>by have:=q.2 h;cases this]
    exact Y.tail
   | true =>
    refine dD ?_;intro w Y;refine⟨k+1,⟨rfl,az⟩,aX,⟨U,?_⟩,U⟩;rw[l,ba (q.1 rfl),<-A,<-B];exact Y.tail
  rw[io U]at Y;refine O ?_;exact dw (v:=out) (v':=.bool true) rfl rfl rfl ⟨true,_,rfl,js ⟨U,U,o⟩,Y.only⟩
def aj.take {vars s:J}(h:aj vars s)(k:Nat):aj (vars.take k) (s.take k):=by
 refine⟨by simp[h.1],fun i e=>?_⟩;simp only[jC]at e;have:=h.2 i U;simp only[ow]at this ⊢
 rwa[getElem?_take_of_lt U,getElem?_take_of_lt U]
def Fx {l:J}(h:∀ x∈l,1<=x)(k:Nat):cZ (l.take k)<=cZ l:=by
 have:=T3 (l:=l.take k) (m:=l.drop k) (fun x hx=>h x (Ma hx)) (fun x hx=>h x (rZ hx))
 rwa[Ak]at this
def T4 {vars:J}(h:aj vars s)(hk:k<s.length):dO (vars.take (k+1)) (s.take (k+1))=dO (vars.take k) (s.take k)*vars.getD k W.dflt+s.getD k W.dflt:=by
 rw[eX W.dflt hk,eX W.dflt (show k<vars.length by rw[<-h.1];exact hk),M3 (by simp[h.1])]
def ő {vars:J}(h:aj vars s)(e:∀ x∈vars,1<=x)(hk:k<s.length):0<=dO (vars.take k) (s.take k)*vars.getD k W.dflt/\dO (vars.take k) (s.take k)*vars.getD k W.dflt+s.getD k W.dflt<cZ vars:=by
 have h1:=(zO (h.take k)).1;have i:=h.2 k hk;have g:=(zO (h.take (k+1))).2;rw[T4 h hk]at g;have j:=Fx e (k+1);exact⟨vX h1 U,U⟩
def Œ {vars:J}(i:RS W w0 a vars)(j:RS W w0 b s)(bX:aj vars s)(l:∀ x∈vars,1<=x)(u:cZ vars<=1099511627776) :
  Calls ak 22 #[a,b] w0 fun e w'=>e=.returned (E (dO vars s))/\Z w0 w' []:=by
 have m:=i.cn;have o:=j.cn;have y:=bX.1;have Y:=Z.start w0;refine bI ar Tryz.func22 ?_;refine O ?_;refine dP [5,6,9,23] (G:=Nat) (H:=Int) (fun k n=>[(9,E k),(5,E n)]) (fun k n w=>k<=s.length/\n=dO (vars.take k) (s.take k)/\Z w0 w []) (fun k _=>s.length-k) 0 0 (fun _ _=>rfl) ⟨rfl,rfl,az⟩ ⟨bC _,rfl,Y⟩ ?_;clear Y;rintro z k n w ⟨hk,h,Y⟩;refine aC ?_ ?_<;>intro h1
 ·have g:k<s.length:=U
  obtain⟨q,r⟩:=ő bX l g;have A:=bX.2 k g;rw[<-h]at q r;refine dD ?_;intro w Y;refine⟨k+1,_,⟨rfl,rfl,az⟩,aX,⟨U,?_,Y⟩,U⟩;rw[T4 bX g,h]
 refine O ?_;refine bo (v:=E n) rfl rfl ⟨?_,Y⟩;rw[h,io U,io U]
end
end Go.Proofs.YtmapkjoefdgjfaaGreatDoor
