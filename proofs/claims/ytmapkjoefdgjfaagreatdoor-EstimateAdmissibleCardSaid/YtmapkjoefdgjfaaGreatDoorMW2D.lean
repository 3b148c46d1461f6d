/- Several texts. -/
import Derived.Test.YtmapkjoefdgjfaaGreatDoorTypesD
import Derived.Test.YtmapkjoefdgjfaaGreatDoorMTAD
import Derived.Shelf.SlSortCmp.Whole1
set_option linter.unusedSimpArgs false
set_option linter.unusedVariables false
set_option linter.defProp false
set_option maxRecDepth 8000
set_option maxHeartbeats 16000000
open List Nat
namespace Go.Proofs.YtmapkjoefdgjfaaGreatDoor
open Go.Sl
variable {w0 w:World}{a b c d:Value}{t:aa}{s xs ys:J}{f:List bo}{vs:List iX}{k:Nat}{cs:List Value}{L:List (List bo)}
section
open Go.Sl Go Go.Shelf
attribute [local irreducible] vc opsW opsD opV opW PureV ReadV Thn Blk
def vW {P:Program}{f:FuncId}{B:Func}(h1:(((P.funcs[f]?).map Func.name).getD "" == "runtime.NumGoroutine") = false := by kernel_rfl)(h2 : P.funcs[f]? = some {B with name := ((P.funcs[f]?).map Func.name).getD ""} := by kernel_rfl) : Bears P f B := ⟨_, h1, h2⟩
def MO:Ren:=⟨rl [6,140,14,164,15,98,20,180,21,181,22,182,23,183,24,184,25,185,26,186,27,187,28,132,29,133,46,205,47,154,48,155,49,206,50,207,57,214],rl [0,0,3,3,4,4,5,5,9,9,22,33,24,22,25,53,39,175,45,210,46,211,50,183,53,218,55,220,66,250,70,254,76,279,77,267],fun k=>k⟩
set_option maxRecDepth 100000 in
def ME:SlLaysF.n6 aj MO:=by constructor<;>first|exact ao|kernel_rfl|(intro w;kernel_rfl)|exact vW
def Q3 {x:Int}:Calls aj 158 #[E x] w fun e w'=>e=.returned (.bool false)/\w'=w:=by
 have Y:=M.start w;refine bB ao Tryz.func158 ?_;refine W ?_;exact bk (v:=.bool (!decide (x=x))) rfl rfl ⟨sm,rfl⟩
def Q4 {x y:Int}:Calls aj 165 #[E x,E y] w fun e w'=>e=.returned (E (if x<y then -1 else if y<x then 1 else 0))/\w'=w:=by
 have Y:=M.start w;refine bB ao Tryz.func165 ?_;refine W ?_;refine aU rfl Q3 ?_;rintro _ w' ⟨rfl,rfl⟩;refine⟨_,rfl,?_⟩;refine W ?_;refine aU rfl Q3 ?_;rintro _ w' ⟨rfl,rfl⟩;refine⟨_,rfl,?_⟩;refine aA ?_ ?_<;>intro h1
 ·refine W ?_
  exact bk (v:=E (-1)) rfl rfl ⟨by rw[aP h1],rfl⟩
 refine aA ?_ ?_<;>intro g
 ·refine W ?_
  exact bk (v:=E 1) rfl rfl ⟨by rw[aH U,aP g],rfl⟩
 refine W ?_;exact bk (v:=E 0) rfl rfl ⟨by rw[aH U,aH U],rfl⟩
def Vf (l:RS O w0 a xs)(m:RS O w0 b ys) :
  Calls aj 141 #[a,b] w0 fun e w'=>e=.returned (E (ff xs ys))/\w'=w0:=by
 have n:=l.bT;have o:=m.bT;have Y:=M.start w0;refine bB ao Tryz.func141 ?_;refine W ?_;refine cN [4,8,11,30] (G:=Nat) (fun k=>[(11,E k)]) (fun k w=>w=w0/\k<=xs.length/\k<=ys.length/\ff xs ys=ff (xs.drop k) (ys.drop k)) (fun k=>xs.length-k) 0 (fun _=>rfl) ⟨rfl,au⟩ ⟨rfl,br _,br _,rfl⟩ ?_;clear Y;rintro u k w ⟨rfl,q,r,he⟩;have Y:=M.start w;refine aA ?_ ?_<;>intro h1
 ·have j:k<xs.length:=U
  have h:xs.drop k=xs.getD k O.dflt::xs.drop (k+1):=by rw[wG j];simp[List.getD,j]
  refine aA ?_ ?_<;>intro x
  ·have g:ys.drop k=[]:=qz U
   refine W ?_;exact bk (v:=E 1) rfl rfl ⟨by rw[he,h,g];rfl,rfl⟩
  have i:k<ys.length:=U;have g:ys.drop k=ys.getD k O.dflt::ys.drop (k+1):=by rw[wG i];simp[List.getD,i]
  rw[h,g]at he;simp only[ff]at he;refine W ?_;refine aU rfl Q4 ?_;rintro _ w' ⟨rfl,rfl⟩;refine⟨_,rfl,?_⟩;by_cases c1:xs.getD k O.dflt<ys.getD k O.dflt
  ·rw[aP c1]at he ⊢
   refine W ?_;exact bk (v:=E (-1)) rfl rfl ⟨by rw[he],rfl⟩
  by_cases c2:ys.getD k O.dflt<xs.getD k O.dflt
  ·rw[aH c1,aP c2]at he ⊢
   refine W ?_;exact bk (v:=E 1) rfl rfl ⟨by rw[he],rfl⟩
  rw[aH c1,aH c2]at he ⊢;refine W ?_;exact⟨k+1,⟨rfl,au⟩,aV,⟨rfl,U,U,he⟩,U⟩
 have h:xs.drop k=[]:=qz U;refine aA ?_ ?_<;>intro j
 ·have i:k<ys.length:=U
  have g:ys.drop k=ys.getD k O.dflt::ys.drop (k+1):=by rw[wG i];simp[List.getD,i]
  refine W ?_;exact bk (v:=E (-1)) rfl rfl ⟨by rw[he,h,g];rfl,rfl⟩
 have g:ys.drop k=[]:=qz U;refine W ?_;exact bk (v:=E 0) rfl rfl ⟨by rw[he,h,g];rfl,rfl⟩
end
section
open Go.Sl
attribute [local irreducible] vc opsW opsD opV opW PureV ReadV Thn Blk
def bO (c:Int):Value:=if c=0 then .nilIface else .iface 57 (E c)
def gy {c:Int}(h:c=0):bO c=.nilIface:=by simp[bO,h]
def dq {c:Int}(h:c≠0):bO c=.iface 57 (E c):=by simp[bO,h]
def YB {vars:J}(l:RS O w0 a vars)(m:RS O w0 b s) :
  Calls aj 64 #[a,b] w0 fun e w'=>(∃ r,e=.returned (.bool r)/\(r=true↔ab vars s))/\M w0 w' []:=by
 have n:=l.bT;have o:=m.bT;have Y:=M.start w0;refine bB ao Tryz.func64 ?_;refine aA ?_ ?_<;>intro q
 ·refine W ?_
  refine bk (v:=.bool false) rfl rfl ⟨⟨false,rfl,dr fun h=>?_⟩,Y⟩;exact absurd (by have:=h.1;omega) q
 refine W ?_;refine cN [4,5,13,32] (G:=Nat) (fun k=>[(13,E k)]) (fun k w=>k<=s.length/\(∀ i,i<k->0<=s.getD i O.dflt/\s.getD i O.dflt<vars.getD i O.dflt)/\M w0 w []) (fun k=>s.length-k) 0 (fun _=>rfl) ⟨rfl,au⟩ ⟨br _,fun i j=>absurd j (dx _),Y⟩ ?_;clear Y;rintro u k w ⟨hk,g,Y⟩;refine aA ?_ ?_<;>intro h1
 ·refine sC ?_ ?_<;>intro w Y x
  ·refine W ?_
   refine bk (v:=.bool false) rfl rfl ⟨⟨false,rfl,dr fun h=>?_⟩,Y⟩;have:=h.2 k U;omega
  refine W ?_;refine⟨k+1,⟨rfl,au⟩,aV,⟨U,fun i j=>?_,Y⟩,U⟩;by_cases h:i=k
  ·subst h;omega
  exact g i U
 refine W ?_;exact bk (v:=.bool true) rfl rfl ⟨⟨true,rfl,iH ⟨U,fun i j=>g i U⟩⟩,Y⟩
def Hw {vars:J}(n:RS O w0 a vars)(o:RS aq w0 b f) :
  Calls aj 65 #[a,b] w0 fun e w'=>(∃ r,e=.returned (.bool r)/\(r=true↔dj vars f))/\M w0 w' []:=by
 have q:=n.bT;have u:=o.bT;have Y:=M.start w0;refine bB ao Tryz.func65 ?_;refine W ?_;refine cN [4,6,9,54] (G:=Nat) (fun k=>[(9,E k)]) (fun k w=>k<=f.length/\(∀ i,i<k->bH vars (f.getD i aq.dflt)/\(0<i->(f.getD (i-1) aq.dflt).var<(f.getD i aq.dflt).var))/\M w0 w []) (fun k=>f.length-k) 0 (fun _=>rfl) ⟨rfl,au⟩ ⟨br _,fun i l=>absurd l (dx _),Y⟩ ?_;clear Y;rintro x k w ⟨hk,g,Y⟩;refine aA ?_ ?_<;>intro h1
 ·refine lR ?_ ?_<;>intro p w Y m
  ·refine W ?_
   refine bk (v:=.bool false) rfl rfl ⟨⟨false,rfl,dr fun h=>?_⟩,Y.tail⟩;have:=h k U;unfold bH at this;have j:((k:Int)-1).toNat=k-1:=U;rw[j]at m;omega
  refine W ?_;refine⟨k+1,⟨rfl,au⟩,aV,⟨U,fun i l=>?_,Y.tail⟩,U⟩;by_cases h:i=k
  ·subst h
   have j:((i:Int)-1).toNat=i-1:=U;rw[j]at m;unfold bH;omega
  exact g i U
 refine W ?_;exact bk (v:=.bool true) rfl rfl ⟨⟨true,rfl,iH fun i l=>g i U⟩,Y⟩
def YC {vars:J}{v:iX}{o:ko}(D:RS O w0 a vars)(hv:oC w0 v o) :
  Calls aj 66 #[a,.agg (cp.enc v).toArray] w0 fun e w'=>(∃ r,e=.returned (.bool r)/\(r=true↔tY vars o))/\M w0 w' []:=by
 have R:=D.bT;have Y:=M.start w0;obtain⟨g,F,H,l,es,m⟩:=hv;have K:=m.rs;have S:=l.bT;have T:=K.bT;have P:=m.len;refine bB ao Tryz.func66 ?_;refine eB ?_;intro p w Y;refine QA (fun h1=>?_) (fun h1=>?_)
 ·simp only[h1,vF,vG];(try simp only[sq,Bool.and_eq_true,pO,gR,pM,rX,yu,yw,nq,qy,yx,xR,bne_iff_ne,ne_eq,rY,xS,wg,yy]at h1)
  refine W ?_;refine bk (v:=.bool false) rfl rfl ⟨⟨false,rfl,dr fun h=>?_⟩,Y.tail⟩;have:=h.kI;have:=h.nz;have:=h.aJ;have:=h.name.1;rw[<-g]at this;omega
 simp only[h1,vF,vG];(try simp only[sq,Bool.and_eq_true,pO,gR,pM,rX,yu,yw,nq,qy,yx,xR,bne_iff_ne,ne_eq,rY,xS,wg,yy]at h1);refine W ?_;refine aU rfl (Hw (a:=a) (b:=v.pre) (D.at Y) (l.at Y)) ?_;rintro _ w' ⟨⟨r,rfl,u⟩,hk⟩;replace Y:=Y.cr hk;clear hk;refine⟨_,rfl,?_⟩;refine W ?_
 cases r with
 | false =>
  refine W ?_;refine bk (v:=.bool false) rfl rfl ⟨⟨false,rfl,dr fun h=>?_⟩,Y.tail⟩;have:=u.2 h.pre
  cases this
 | true =>
  have x:=u.1 rfl;refine W ?_;refine cN [4,5,38,53] (G:=Nat) (fun k=>[(38,E k)]) (fun k w=>k<=v.name.size/\(∀ i,i<k->32<=yJ v.name i/\yJ v.name i<=126)/\M w0 w [ak p 44 (cp.enc v)]) (fun k=>v.name.size-k) 0 (fun _=>rfl) ⟨rfl,au⟩ ⟨br _,fun i n=>absurd n (dx _),Y⟩ ?_;clear Y;rintro σ k w ⟨hk,y,Y⟩;refine aA ?_ ?_<;>intro h2
  ·refine aA ?_ ?_<;>intro j
   ·refine W ?_
    refine bk (v:=.bool false) rfl rfl ⟨⟨false,rfl,dr fun h=>?_⟩,Y.tail⟩;have:=h.name.2 k (by rw[<-g];omega);rw[<-g]at this;omega
   refine W ?_;refine⟨k+1,⟨rfl,au⟩,aV,⟨U,fun i n=>?_,Y⟩,U⟩;by_cases h:i=k
   ·subst h;omega
   exact y i U
  have z:pI o.name:=by rw[<-g];exact⟨U,fun i n=>y i U⟩
  refine W ?_;refine cN [4,4,7,7,57,77] (G:=Nat) (fun k=>[(57,E k)]) (fun k w=>k<=o.aJ.length/\(∀ i,i<k->gQ vars (o.aJ.getD i bE))/\M w0 w [ak p 44 (cp.enc v)]) (fun k=>o.aJ.length-k) 0 (fun _=>rfl) ⟨rfl,au⟩ ⟨br _,fun i n=>absurd n (dx _),Y⟩ ?_;clear Y;rintro V k w ⟨j',A,Y⟩;refine aA ?_ ?_<;>intro h4
  ·have j:=m.dK k U
   have N:=j.bK;have Q:=j.one;refine eB ?_;intro p w Y;refine aU rfl (Hw (a:=a) (b:=(az aY es k).bK) (D.at Y) (N.at Y)) ?_;rintro _ w' ⟨⟨r,rfl,u⟩,an⟩;refine aI ?_;clear an Y;intro Y
   cases r with
   | false =>
    refine W ?_;refine bk (v:=.bool false) rfl rfl ⟨⟨false,rfl,dr fun h=>?_⟩,Y.tail.tail⟩;have:=u.2 (h.fc k U).1
    cases this
   | true =>
    have B:=u.1 rfl;refine W ?_;refine jG aq (x1:=⟨(az aY es k).var,(az aY es k).val⟩) rfl rfl rfl (fX rfl) (fb _) Y ?_;clear Y;intro s w Y;refine W ?_;refine aU rfl (Hw (a:=a) (b:=s) (D.at Y) (bm Y)) ?_;rintro _ w' ⟨⟨r,rfl,q⟩,an⟩;replace Y:=Y.cr an;clear an;rw[j.var,j.val]at q;refine⟨_,rfl,?_⟩
    cases r with
    | false =>
     refine W ?_;refine bk (v:=.bool false) rfl rfl ⟨⟨false,rfl,dr fun h=>?_⟩,Y.tail.tail.tail⟩;have:=q.2 (h.fc k U).2
     cases this
    | true =>
     have C:=q.1 rfl;refine W ?_;refine⟨k+1,⟨rfl,au⟩,aV,⟨U,fun i n=>?_,Y.tail.tail⟩,U⟩;by_cases h:i=k
     ·subst h;exact⟨B,C⟩
     exact A i U
  refine W ?_;refine bk (v:=.bool true) rfl rfl ⟨⟨true,rfl,iH ⟨U,U,U,z,x,fun i n=>A i U⟩⟩,Y.tail⟩
def YD (B:bz w0 a b c d vs t) :
  Calls aj 40 #[.agg #[a,b,c,d]] w0 fun e w'=>(∃ r,e=.returned (.bool r)/\(r=true↔aC t))/\M w0 w' []:=by
 obtain⟨u,C,D,x⟩:=B;have y:=x.rs;have F:=x.len;have H:=u.bT;have K:=y.bT;have Y:=M.start w0;refine bB ao Tryz.func40 ?_;refine lR ?_ ?_<;>intro p w Y h1
 ·refine W ?_
  refine bk (v:=.bool false) rfl rfl ⟨⟨false,rfl,dr fun h=>?_⟩,Y.tail⟩;have:=h.vars;have:=h.Z;omega
 refine W ?_;refine cN [2,2,4,4,20,30] (G:=Nat) (fun k=>[(20,E k)]) (fun k w=>k<=t.vars.length/\(∀ i,i<k->1<=t.vars.getD i O.dflt/\t.vars.getD i O.dflt<=64)/\M w0 w [ak p 26 [a,b,c,d]]) (fun k=>t.vars.length-k) 0 (fun _=>rfl) ⟨rfl,au⟩ ⟨br _,fun i g=>absurd g (dx _),Y⟩ ?_;clear Y;rintro Q k w ⟨hk,j,Y⟩;refine aA ?_ ?_<;>intro R
 ·refine aA ?_ ?_<;>intro l
  ·refine W ?_
   refine bk (v:=.bool false) rfl rfl ⟨⟨false,rfl,dr fun h=>?_⟩,Y.tail⟩;have:=h.nt k U;omega
  refine W ?_;refine⟨k+1,⟨rfl,au⟩,aV,⟨U,fun i g=>?_,Y⟩,U⟩;by_cases h:i=k
  ·subst h;omega
  exact j i U
 refine W ?_;refine aU rfl (YB (a:=a) (b:=b) (u.at Y) (C.at Y)) ?_;rintro _ w' ⟨⟨r,rfl,z⟩,an⟩;refine aI ?_;clear an Y;intro Y
 cases r with
 | false =>
  refine W ?_;refine bk (v:=.bool false) rfl rfl ⟨⟨false,rfl,dr fun h=>?_⟩,Y.tail⟩;have:=z.2 h.cE
  cases this
 | true =>
  have l:=z.1 rfl;refine W ?_;refine aU rfl (Hw (a:=a) (b:=c) (u.at Y) (D.at Y)) ?_;rintro _ w' ⟨⟨r,rfl,m⟩,an⟩;refine aI ?_;clear an Y;intro Y
  cases r with
  | false =>
   refine W ?_;refine bk (v:=.bool false) rfl rfl ⟨⟨false,rfl,dr fun h=>?_⟩,Y.tail⟩;have:=m.2 h.aG
   cases this
  | true =>
   have n:=m.1 rfl;refine W ?_;refine cN [2,2,6,6,48,57] (G:=Nat) (fun k=>[(48,E k)]) (fun k w=>k<=t.Z.length/\(∀ i,i<k->tY t.vars (t.Z.getD i bf))/\M w0 w [ak p 26 [a,b,c,d]]) (fun k=>t.Z.length-k) 0 (fun _=>rfl) ⟨rfl,au⟩ ⟨br _,fun i g=>absurd g (dx _),Y⟩ ?_;clear Y;rintro N k w ⟨P,o,Y⟩;refine aA ?_ ?_<;>intro S
   ·have bI:=x.dK k U
    have A:=bI.one;refine eB ?_;intro p w Y;refine aU rfl (YC (a:=a) (v:=az cp vs k) (u.at Y) (bI.at Y)) ?_;rintro _ w' ⟨⟨r,rfl,q⟩,an⟩;refine aI ?_;clear an Y;intro Y
    cases r with
    | false =>
     refine W ?_;refine bk (v:=.bool false) rfl rfl ⟨⟨false,rfl,dr fun h=>?_⟩,Y.tail.tail⟩;have:=q.2 (h.op k U)
     cases this
    | true =>
     refine W ?_;refine⟨k+1,⟨rfl,au⟩,aV,⟨U,fun i g=>?_,Y.tail⟩,U⟩;by_cases h:i=k
     ·subst h;exact q.1 rfl
     exact o i U
   refine W ?_;refine bk (v:=.bool true) rfl rfl ⟨⟨true,rfl,iH ⟨U,U,fun i g=>j i U,l,n,fun i g=>o i U⟩⟩,Y.tail⟩
def yi {vars:J}(l:RS O w0 a vars)(m:RS O w0 b s) :
  Calls aj 33 #[a,b] w0 fun e w'=>(∃ r,e=.returned (.bool r)/\(r=true↔ab vars s))/\M w0 w' []:=by
 have n:=l.bT;have o:=m.bT;have Y:=M.start w0;refine bB ao Tryz.func33 ?_;refine aA ?_ ?_<;>intro q
 ·refine W ?_
  refine bk (v:=.bool false) rfl rfl ⟨⟨false,rfl,dr fun h=>?_⟩,Y⟩;exact absurd (by have:=h.1;omega) q
 refine W ?_;refine cN [4,6,14,29] (G:=Nat) (fun k=>[(14,E k)]) (fun k w=>k<=s.length/\(∀ i,i<k->0<=s.getD i O.dflt/\s.getD i O.dflt<vars.getD i O.dflt)/\M w0 w []) (fun k=>s.length-k) 0 (fun _=>rfl) ⟨rfl,au⟩ ⟨br _,fun i j=>absurd j (dx _),Y⟩ ?_;clear Y;rintro u k w ⟨hk,g,Y⟩;refine aA ?_ ?_<;>intro h1
 ·refine aA ?_ ?_<;>intro x
  ·refine W ?_
   refine bk (v:=.bool false) rfl rfl ⟨⟨false,rfl,dr fun h=>?_⟩,Y⟩;have:=h.2 k U;omega
  refine W ?_;refine⟨k+1,⟨rfl,au⟩,aV,⟨U,fun i j=>?_,Y⟩,U⟩;by_cases h:i=k
  ·subst h;omega
  exact g i U
 refine W ?_;exact bk (v:=.bool true) rfl rfl ⟨⟨true,rfl,iH ⟨U,fun i j=>g i U⟩⟩,Y⟩
def Q7 {vars:J}(n:RS O w0 a vars)(o:RS aq w0 b f) :
  Calls aj 69 #[a,b] w0 fun e w'=>(∃ r,e=.returned (.bool r)/\(r=true↔dj vars f))/\M w0 w' []:=by
 have q:=n.bT;have u:=o.bT;have Y:=M.start w0;refine bB ao Tryz.func69 ?_;refine W ?_;refine dN [4,5,7,7,10,42] (G:=Nat) (H:=Int) (fun k l=>[(10,E k),(5,E l)]) (fun k l w=>k<=f.length /\ -1<=l/\(l=if k=0 then -1 else (f.getD (k-1) aq.dflt).var)/\(∀ i,i<k->bH vars (f.getD i aq.dflt)/\(0<i->(f.getD (i-1) aq.dflt).var<(f.getD i aq.dflt).var))/\M w0 w []) (fun k l=>f.length-k) 0 (-1) (fun _ _=>rfl) ⟨rfl,rfl,au⟩ ⟨br _,U,rfl,fun i m=>absurd m (dx _),Y⟩ ?_;clear Y;rintro y k l w ⟨hk,x,j,g,Y⟩;refine aA ?_ ?_<;>intro h1
 ·refine lR ?_ ?_<;>intro p w Y z
  ·refine W ?_
   refine bk (v:=.bool false) rfl rfl ⟨⟨false,rfl,dr fun h=>?_⟩,Y.tail⟩;have:=h k U;unfold bH at this;split at j<;>omega
  refine W ?_;refine⟨k+1,_,⟨rfl,rfl,au⟩,aV,⟨U,U,sm,fun i m=>?_,Y.tail⟩,U⟩;by_cases h:i=k
  ·subst h
   unfold bH;split at j<;>omega
  exact g i U
 refine W ?_;exact bk (v:=.bool true) rfl rfl ⟨⟨true,rfl,iH fun i m=>g i U⟩,Y⟩
def Q8 (l:RS aq w0 a f)(m:RS O w0 b s) :
  Calls aj 137 #[a,b] w0 fun e w'=>(∃ r,e=.returned (.bool r)/\(r=true↔bZ s f))/\M w0 w' []:=by
 have n:=l.bT;have o:=m.bT;have Y:=M.start w0;refine bB ao Tryz.func137 ?_;refine W ?_;refine cN [4,4,6,6,9,33] (G:=Nat) (fun k=>[(9,E k)]) (fun k w=>k<=f.length/\(∀ i,i<k->ie s (f.getD i aq.dflt))/\M w0 w []) (fun k=>f.length-k) 0 (fun _=>rfl) ⟨rfl,au⟩ ⟨br _,fun i j=>absurd j (dx _),Y⟩ ?_;clear Y;rintro q k w ⟨hk,g,Y⟩;refine aA ?_ ?_<;>intro h1
 ·refine lR ?_ ?_<;>intro p w Y u
  ·refine W ?_
   refine bk (v:=.bool false) rfl rfl ⟨⟨false,rfl,dr fun h=>?_⟩,Y.tail⟩;have:=h k U;unfold ie at this;omega
  refine W ?_;refine⟨k+1,⟨rfl,au⟩,aV,⟨U,fun i j=>?_,Y.tail⟩,U⟩;by_cases h:i=k
  ·subst h;unfold ie;omega
  exact g i U
 refine W ?_;exact bk (v:=.bool true) rfl rfl ⟨⟨true,rfl,iH fun i j=>g i U⟩,Y⟩
def KL (l:RS aq w0 a f)(m:RS O w0 b s) :
  Calls aj 39 #[a,b] w0 fun e w'=>(∃ r,e=.returned (.bool r)/\(r=true↔bZ s f))/\M w0 w' []:=by
 have n:=l.bT;have o:=m.bT;have Y:=M.start w0;refine bB ao Tryz.func39 ?_;refine W ?_;refine cN [4,4,6,6,9,33] (G:=Nat) (fun k=>[(9,E k)]) (fun k w=>k<=f.length/\(∀ i,i<k->ie s (f.getD i aq.dflt))/\M w0 w []) (fun k=>f.length-k) 0 (fun _=>rfl) ⟨rfl,au⟩ ⟨br _,fun i j=>absurd j (dx _),Y⟩ ?_;clear Y;rintro q k w ⟨hk,g,Y⟩;refine aA ?_ ?_<;>intro h1
 ·refine lR ?_ ?_<;>intro p w Y u
  ·refine W ?_
   refine bk (v:=.bool false) rfl rfl ⟨⟨false,rfl,dr fun h=>?_⟩,Y.tail⟩;have:=h k U;unfold ie at this;omega
  refine W ?_;refine⟨k+1,⟨rfl,au⟩,aV,⟨U,fun i j=>?_,Y.tail⟩,U⟩;by_cases h:i=k
  ·subst h;unfold ie;omega
  exact g i U
 refine W ?_;exact bk (v:=.bool true) rfl rfl ⟨⟨true,rfl,iH fun i j=>g i U⟩,Y⟩
def YE {b:ByteArray}(l:b.size<=9223372036854775807) :
  Calls aj 70 #[.string b] w0 fun e w'=>(∃ r,e=.returned (.bool r)/\(r=true↔pI b))/\M w0 w' []:=by
 have Y:=M.start w0;refine bB ao Tryz.func70 ?_;refine W ?_;refine cN [2,3,6,19] (G:=Nat) (fun k=>[(6,E k)]) (fun k w=>k<=b.size/\(∀ i,i<k->32<=yJ b i/\yJ b i<=126)/\M w0 w []) (fun k=>b.size-k) 0 (fun _=>rfl) ⟨rfl,au⟩ ⟨br _,fun i j=>absurd j (dx _),Y⟩ ?_;clear Y;rintro m k w ⟨hk,g,Y⟩;refine aA ?_ ?_<;>intro h1
 ·refine aA ?_ ?_<;>intro n
  ·refine W ?_
   refine bk (v:=.bool false) rfl rfl ⟨⟨false,rfl,dr fun h=>?_⟩,Y⟩;have:=h.2 k U;omega
  refine W ?_;refine⟨k+1,⟨rfl,au⟩,aV,⟨U,fun i j=>?_,Y⟩,U⟩;by_cases h:i=k
  ·subst h;omega
  exact g i U
 refine W ?_;refine bk (v:=.bool (decide ((b.size:Int)<=256))) rfl rfl ⟨⟨_,rfl,?_⟩,Y⟩;rw[gR];exact⟨fun h=>⟨U,fun i j=>g i U⟩,fun h=>by have:=h.1;omega⟩
def gF (w:World)(cs:List Value)(L:List (List bo)):Prop:=cs.length=L.length/\∀ i,i<L.length->RS aq w (cF cs i) (L.getD i [])
def gF.fe {v:Value}(h:gF w cs L)(hv:RS aq w v f):gF w (cs++[v]) (L++[f]):=by
 refine⟨by simp[h.1],fun i g=>?_⟩;simp only[length_append,length_cons,length_nil]at g;by_cases e:i<L.length
 ·have:=h.2 i e
  rw[l9]at this ⊢;simp only[iB]at this ⊢;rw[js (by rw[h.1];exact e),js e];exact this
 have j:i=L.length:=U;subst j;rw[l9];simp only[iB];rw[kp (by rw[h.1];exact cz _),kp (cz _),h.1]
 simpa using hv
def gF.at {w0 w:World}{Γ:List HP}{cs:List Value}{L:List (List bo)}(h:gF w0 cs L)(Y:M w0 w Γ):gF w cs L:=⟨h.1,fun i e=>(h.2 i e).at Y⟩
def jo (t:aa)(k j:Nat):List (List bo):=fL t k++(t.Z.getD k bf).pre::((t.Z.getD k bf).aJ.take j).map (·.bK)
def YF (t:aa){j:Nat}(e:j<(t.Z.getD k bf).aJ.length):jo t k (j+1)=jo t k j++[((t.Z.getD k bf).aJ.getD j bE).bK]:=by
 unfold jo;generalize t.Z.getD k bf=o at *
 rw[eD bE e];simp
def YG (t:aa)(hk:k<t.Z.length):jo t k (t.Z.getD k bf).aJ.length=fL t (k+1):=by
 rw[Q9 t hk];unfold jo mG;generalize t.Z.getD k bf=o at *
 simp
def YH (t:aa){j:Nat}(e:j<=(t.Z.getD k bf).aJ.length):(jo t k j).length=(fL t k).length+1+j:=by
 unfold jo;generalize t.Z.getD k bf=o at *
 simp;omega
def Ra {m:World}{Γ:List HP}(n:bz m a b c d vs t)(Q:M m w0 Γ)(hn:t.Z.length<=4096)(he:∀ i,i<t.Z.length->(t.Z.getD i bf).aJ.length<=64) :
  Calls aj 68 #[.agg #[a,b,c,d]] w0 fun e w'=>∃ s cs,e=.returned s/\gF m cs (jC t)/\M w0 w' [X ar 23 s cs]:=by
 have D:=n.Z;have F:=n.aG;obtain⟨ha,hb,hc,K⟩:=n.at Q;have j':=K.rs;have H':=K.len;have Y:=M.start w0;refine bB ao Tryz.func68 ?_
 repeat (first|refine dB ?_|(refine iy ?_;clear Y;intro p w Y)|(refine fR ?_;clear Y;intro s w Y))
 obtain⟨R,rfl⟩:=À p;have N:gF m [c] (fL t 0):=by
  rw[YI];refine⟨rfl,fun i g=>?_⟩;simp at g;subst g;rw[l9]
  simpa using F
 refine dN [3,3,5,5,7,7,14,36] (G:=Nat) (H:=Value × List Value) (fun k x=>[(14,E k),(3,x.1)]) (fun k x w=>k<=t.Z.length/\gF m x.2 (fL t k)/\M w0 w [X ar 23 x.1 x.2,ak R 26 [a,b,c,d]]) (fun k x=>t.Z.length-k) 0 (s,[c]) (fun _ _=>rfl) ⟨rfl,rfl,au⟩ ⟨br _,N,Y⟩ ?_;clear Y;rintro σ k ⟨s,cs⟩ w ⟨hk,g,Y⟩;simp only at g Y;have J':=KM t k hk he;have r:=g.1;refine aA ?_ ?_<;>intro h1
 ·have u:=K.dK k U
  have S:=u.one;have h:=D.dK k U;have o:=h.pre;have T:=u.pre;obtain⟨es,l⟩:=h.aJ;have q:=l.at Q;have V:=q.rs;have P':=q.len;have R':=he k U
  repeat (first|refine dB ?_|(refine iy ?_;clear Y;intro p w Y)|(refine qx ?_;clear Y;intro w Y)|(refine fR ?_;clear Y;intro s w Y))
  have y:gF m (cs++[(az cp vs k).pre]) (jo t k 0):=by
   have:=g.fe o
   simpa [jo] using this
  refine dN [3,3,7,7,26,35] (G:=Nat) (H:=Value × List Value) (fun j x=>[(26,E j),(3,x.1)]) (fun j x w=>j<=(t.Z.getD k bf).aJ.length/\gF m x.2 (jo t k j)/\M w0 w [X ar 23 x.1 x.2,ak R 26 [a,b,c,d]]) (fun j x=>(t.Z.getD k bf).aJ.length-j) 0 (s,cs++[(az cp vs k).pre]) (fun _ _=>rfl) ⟨rfl,rfl,au⟩ ⟨br _,y,Y.tail.tail⟩ ?_;clear Y g r y;rintro T' j ⟨s2,z⟩ w ⟨hj,g,Y⟩;simp only at g Y;have V':=YH t hj;have r:=g.1;refine aA ?_ ?_<;>intro h2
  ·have A:=q.dK j U
   have P:=A.one;have _a:=A.bK;have B:=(l.dK j U).bK
   repeat (first|refine dB ?_|(refine iy ?_;clear Y;intro p w Y)|(refine qx ?_;clear Y;intro w Y)|(refine fR ?_;clear Y;intro s w Y))
   have C:=g.fe B;rw[<-YF t U]at C;exact⟨j+1,(s,z++[(az aY es j).bK]),⟨rfl,rfl,au⟩,aV,⟨U,C,Y.tail.tail⟩,U⟩
  have A:j=(t.Z.getD k bf).aJ.length:=U;subst A;rw[YG t U]at g;refine W ?_;exact⟨k+1,(s2,z),⟨rfl,rfl,au⟩,aV,⟨U,g,Y⟩,U⟩
 have h:k=t.Z.length:=U;subst h;refine W ?_;exact bk (v:=s) rfl rfl ⟨s,cs,rfl,g,Y.only⟩
def YJ (g:RS aq w0 a f) :
  Calls aj 95 #[a] w0 fun e w'=>e=.returned (.bool (decide (64<(f.length:Int))))/\M w0 w' []:=by
 have h:=g.bT;have Y:=M.start w0;refine bB ao Tryz.func95 ?_;refine W ?_;exact bk (v:=.bool (decide (64<(f.length:Int)))) rfl rfl ⟨rfl,Y⟩
def YK (m:RS ar w0 a cs)(l:gF w0 cs L) :
  Calls aj 121 #[a,.func (.func 95) #[] #[]] w0 fun e w'=>(∃ r:Int,e=.returned (E r)/\(0<=r↔∃ i,i<L.length/\64<(L.getD i []).length))/\M w0 w' []:=by
 have n:=m.bT;have o:=l.1;have Y:=M.start w0;refine bB ao Tryz.func121 ?_;refine W ?_;refine cN [4,5,8,18] (G:=Nat) (fun k=>[(8,E k)]) (fun k w=>k<=L.length/\(∀ i,i<k->(L.getD i []).length<=64)/\M w0 w []) (fun k=>L.length-k) 0 (fun _=>rfl) ⟨rfl,au⟩ ⟨br _,fun i j=>absurd j (dx _),Y⟩ ?_;clear Y;rintro q k w ⟨hk,g,Y⟩;refine aA ?_ ?_<;>intro h1
 ·refine W ?_
  refine wr (cs:=[]) rfl rfl (YJ ((l.2 k U).at Y)) ?_;rintro _ w' ⟨rfl,an⟩;refine aI ?_;clear an Y;intro Y;refine aA ?_ ?_<;>intro u
  ·refine W ?_
   exact bk (v:=E k) rfl rfl ⟨⟨k,rfl,⟨fun _=>⟨k,U,U⟩,fun _=>U⟩⟩,Y⟩
  refine W ?_;refine⟨k+1,⟨rfl,au⟩,aV,⟨U,fun i j=>?_,Y⟩,U⟩;by_cases h:i=k
  ·subst h;omega
  exact g i U
 refine W ?_;refine bk (v:=E (-1)) rfl rfl ⟨⟨-1,rfl,⟨fun h=>absurd h dc,fun⟨i,j,u⟩=>?_⟩⟩,Y⟩;have:=g i U;omega
def YL (g:RS ar w0 a cs)(h:gF w0 cs L) :
  Calls aj 94 #[a,.func (.func 95) #[] #[]] w0 fun e w'=>(∃ r,e=.returned (.bool r)/\(r=true↔∃ i,i<L.length/\64<(L.getD i []).length))/\M w0 w' []:=by
 have Y:=M.start w0;refine bB ao Tryz.func94 ?_;refine W ?_;refine aU rfl (YK (g.at Y) (h.at Y)) ?_;rintro _ w' ⟨⟨r,rfl,j⟩,an⟩;refine aI ?_;clear an Y;intro Y;refine W ?_;refine bk (v:=.bool (decide (0<=r))) rfl rfl ⟨⟨_,rfl,?_⟩,Y⟩;rw[gR,j]
def YM (x:bz w0 a b c d vs t) :
  Calls aj 67 #[.agg #[a,b,c,d]] w0 fun e w'=>(∃ r,e=.returned (.bool r)/\(r=true↔gn t))/\M w0 w' []:=by
 have o:=x;obtain⟨z,K,N,q⟩:=x;have u:=q.rs;have A:=q.len;have B:=z.bT;have C:=u.bT;have Y:=M.start w0;refine bB ao Tryz.func67 ?_;refine lR ?_ ?_<;>intro p w Y h1
 ·refine W ?_
  refine bk (v:=.bool true) rfl rfl ⟨⟨true,rfl,iH ?_⟩,Y.tail⟩;unfold gn;omega
 refine W ?_;obtain⟨D,rfl⟩:=À p;refine cN [2,2,4,4,18,26] (G:=Nat) (fun k=>[(18,E k)]) (fun k w=>k<=t.Z.length/\(∀ i,i<k->(t.Z.getD i bf).aJ.length<=64)/\M w0 w [ak D 26 [a,b,c,d]]) (fun k=>t.Z.length-k) 0 (fun _=>rfl) ⟨rfl,au⟩ ⟨br _,fun i n=>absurd n (dx _),Y⟩ ?_;clear Y;rintro P k w ⟨hk,g,Y⟩;refine aA ?_ ?_<;>intro Q
 ·have j:=q.dK k U
  have y:=j.one;obtain⟨es,l⟩:=j.aJ;have m:=l.rs;have F:=l.len;have H:=m.bT;refine lR ?_ ?_<;>intro p w Y R
  ·refine W ?_
   refine bk (v:=.bool true) rfl rfl ⟨⟨true,rfl,iH (.inr (.inr (.inl ⟨k,U,U⟩)))⟩,Y.tail.tail⟩
  refine W ?_;refine⟨k+1,⟨rfl,au⟩,aV,⟨U,fun i n=>?_,Y.tail⟩,U⟩;by_cases h:i=k
  ·subst h;omega
  exact g i U
 refine W ?_;refine aU rfl (Ra o Y U (fun i n=>g i U)) ?_;rintro _ w' ⟨s,cs,rfl,j,an⟩;refine aL ?_;clear an Y;intro Y;refine W ?_;refine aU rfl (YL (a:=s) (bm Y) (j.at Y)) ?_;rintro _ w' ⟨⟨r,rfl,l⟩,an⟩;refine aI ?_;clear an Y;intro Y;refine W ?_;refine bk (v:=.bool r) rfl rfl ⟨⟨r,rfl,l.trans ⟨fun h=>.inr (.inr (.inr h)),fun h=>?_⟩⟩,Y.tail.tail⟩;rcases h with h|h|⟨i,n,h⟩|h
 ·omega
 ·omega
 ·have:=g i U;omega
 exact h
def YN (h:gn t):bX t=5:=by simp[bX,h]
def YO (h1:¬gn t)(h2:¬oL t):bX t=1:=by simp[bX,h1,h2]
def YP (h1:¬gn t)(h2:oL t)(e:¬lI t):bX t=1:=by simp[bX,h1,h2,e]
def YQ (h1:¬gn t)(h2:oL t)(e:lI t)(g:¬ab t.vars t.cE):bX t=2:=by simp[bX,h1,h2,e,g]
def YR (h1:¬gn t)(h2:oL t)(e:lI t)(g:ab t.vars t.cE)(h:¬mC t):bX t=2:=by simp[bX,h1,h2,e,g,h]
def YS (h1:¬gn t)(h2:oL t)(e:lI t)(g:ab t.vars t.cE)(h:mC t)(i:¬ud t):bX t=2:=by simp[bX,h1,h2,e,g,h,i]
def YT (h1:¬gn t)(h2:oL t)(e:lI t)(g:ab t.vars t.cE)(h:mC t)(i:ud t)(j:¬pJ t):bX t=8:=by simp[bX,h1,h2,e,g,h,i,j]
def YU (h1:¬gn t)(h2:oL t)(e:lI t)(g:ab t.vars t.cE)(h:mC t)(i:ud t)(j:pJ t):bX t=0:=by simp[bX,h1,h2,e,g,h,i,j]
def vY (ht:bz w0 a b c d vs t) :
  Calls aj 42 #[.agg #[a,b,c,d]] w0 fun e w'=>e=.returned (bO (bX t))/\M w0 w' []:=by
 have H:=ht;obtain⟨T,hb,hc,K⟩:=ht;have j':=K.rs;have T':=K.len;have V':=T.bT;have _a:=j'.bT;have Y:=M.start w0;refine bB ao Tryz.func42 ?_;refine eB ?_;intro D w Y;refine aU rfl (YM (H.at Y)) ?_;rintro _ w' ⟨⟨r,rfl,hr⟩,an⟩;refine aI ?_;clear an Y;intro Y
 cases r with
 | true =>
  refine W ?_
  exact bk (v:=.iface 57 (E 5)) rfl rfl ⟨by rw[YN (hr.1 rfl)];rfl,Y.tail⟩
 | false =>
  have h1:¬gn t:=fun h=>by have:=hr.2 h;cases this
  have H':t.Z.length<=4096:=Dt fun h=>h1 (.inr (.inl h));have N:∀ i,i<t.Z.length->(t.Z.getD i bf).aJ.length<=64:=fun i g=>Dt fun h=>h1 (.inr (.inr (.inl ⟨i,g,h⟩)));refine W ?_;refine cN [2,2,4,4,21,32] (G:=Nat) (fun k=>[(21,E k)]) (fun k w=>k<=t.vars.length/\(∀ i,i<k->1<=t.vars.getD i O.dflt/\t.vars.getD i O.dflt<=64)/\M w0 w [ak D 26 [a,b,c,d]]) (fun k=>t.vars.length-k) 0 (fun _=>rfl) ⟨rfl,au⟩ ⟨br _,fun i g=>absurd g (dx _),Y⟩ ?_;clear Y;rintro σ k w ⟨hk,u,Y⟩;refine aA ?_ ?_<;>intro o
  ·refine aA ?_ ?_<;>intro h3
   ·refine W ?_
    have l:¬oL t:=fun h=>by have:=h k U;omega
    exact bk (v:=.iface 57 (E 1)) rfl rfl ⟨by rw[YO h1 l];rfl,Y.tail⟩
   refine W ?_;refine⟨k+1,⟨rfl,au⟩,aV,⟨U,fun i g=>?_,Y⟩,U⟩;by_cases h:i=k
   ·subst h;omega
   exact u i U
  have F:oL t:=fun i g=>u i U;clear u o hk;refine W ?_;refine cN [2,2,6,6,36,49] (G:=Nat) (fun k=>[(36,E k)]) (fun k w=>k<=t.Z.length/\(∀ i,i<k->0<=(t.Z.getD i bf).aO/\(t.Z.getD i bf).aO<=1048576)/\M w0 w [ak D 26 [a,b,c,d]]) (fun k=>t.Z.length-k) 0 (fun _=>rfl) ⟨rfl,au⟩ ⟨br _,fun i g=>absurd g (dx _),Y⟩ ?_;clear Y;rintro _b k w ⟨hk,x,Y⟩;refine aA ?_ ?_<;>intro o
  ·have m:=K.dK k U
   have q:=m.one;have j:=m.aO;refine lR ?_ ?_<;>intro p w Y h3
   ·refine W ?_
    have l:¬lI t:=fun h=>by have:=h k U;omega
    exact bk (v:=.iface 57 (E 1)) rfl rfl ⟨by rw[YP h1 F l];rfl,Y.tail.tail⟩
   refine W ?_;refine⟨k+1,⟨rfl,au⟩,aV,⟨U,fun i g=>?_,Y.tail⟩,U⟩;by_cases h:i=k
   ·subst h;omega
   exact x i U
  have P:lI t:=fun i g=>x i U;clear x o hk;refine W ?_;refine aU rfl (yi (a:=a) (b:=b) (T.at Y) (hb.at Y)) ?_;rintro _ w' ⟨⟨r,rfl,Q⟩,an⟩;refine aI ?_;clear an Y;intro Y
  cases r with
  | false =>
   refine W ?_;have l:¬ab t.vars t.cE:=fun h=>by have:=Q.2 h;cases this
   exact bk (v:=.iface 57 (E 2)) rfl rfl ⟨by rw[YQ h1 F P l];rfl,Y.tail⟩
  | true =>
   have V:=Q.1 rfl;refine W ?_;refine aU rfl (Ra H Y H' N) ?_;rintro _ w' ⟨s,cs,rfl,y,an⟩;replace Y:=Y.mu an;clear an;have J':=y.1;have _c:=KM t t.Z.length (cz _) N;have _d:(jC t).length=(fL t t.Z.length).length:=rfl;refine⟨_,rfl,?_⟩;refine W ?_;refine cN [2,2,8,8,60,70] (G:=Nat) (fun k=>[(60,E k)]) (fun k w=>k<=(jC t).length/\(∀ i,i<k->dj t.vars ((jC t).getD i []))/\M w0 w [X ar 23 s cs,ak D 26 [a,b,c,d]]) (fun k=>(jC t).length-k) 0 (fun _=>rfl) ⟨rfl,au⟩ ⟨br _,fun i g=>absurd g (dx _),Y⟩ ?_;clear Y;rintro _e k w ⟨hk,z,Y⟩;refine aA ?_ ?_<;>intro o
   ·refine W ?_
    refine aU rfl (Q7 (a:=a) (b:=cF cs k) (T.at Y) ((y.2 k U).at Y)) ?_;rintro _ w' ⟨⟨r,rfl,n⟩,an⟩;refine aI ?_;clear an Y;intro Y
    cases r with
    | false =>
     refine W ?_;have l:¬mC t:=fun h=>by have:=n.2 (h k U);cases this
     exact bk (v:=.iface 57 (E 2)) rfl rfl ⟨by rw[YR h1 F P V l];rfl,Y.tail.tail⟩
    | true =>
     refine W ?_;refine⟨k+1,⟨rfl,au⟩,aV,⟨U,fun i g=>?_,Y⟩,U⟩;by_cases h:i=k
     ·subst h;exact n.1 rfl
     exact z i U
   have hK:mC t:=fun i g=>z i U;replace Y:=Y.tail;clear z o hk J' y;refine W ?_;refine cN [2,2,10,10,12,12,74,97] (G:=Nat) (fun k=>[(74,E k)]) (fun k w=>k<=t.Z.length/\(∀ i,i<k->∀ j,j<(t.Z.getD i bf).aJ.length->dj t.vars [⟨((t.Z.getD i bf).aJ.getD j bE).var,((t.Z.getD i bf).aJ.getD j bE).val⟩])/\M w0 w [ak D 26 [a,b,c,d]]) (fun k=>t.Z.length-k) 0 (fun _=>rfl) ⟨rfl,au⟩ ⟨br _,fun i g=>absurd g (dx _),Y⟩ ?_;clear Y;rintro _f k w ⟨hk,A,Y⟩;refine aA ?_ ?_<;>intro o
   ·have m:=K.dK k U
    have q:=m.one;obtain⟨es,B⟩:=m.aJ;have R:=B.rs;have _g:=B.len;have _h:=R.bT;refine eB ?_;intro p w Y;refine cN [2,2,12,12,81,96] (G:=Nat) (fun j=>[(81,E j)]) (fun j w=>j<=(t.Z.getD k bf).aJ.length/\(∀ i,i<j->dj t.vars [⟨((t.Z.getD k bf).aJ.getD i bE).var,((t.Z.getD k bf).aJ.getD i bE).val⟩])/\M w0 w [ak D 26 [a,b,c,d]]) (fun j=>(t.Z.getD k bf).aJ.length-j) 0 (fun _=>rfl) ⟨rfl,au⟩ ⟨br _,fun i g=>absurd g (dx _),Y.tail⟩ ?_;clear Y;rintro P' j w ⟨hj,S,Y⟩;refine aA ?_ ?_<;>intro h3
    ·have C:=B.dK j U
     have R':=C.one;refine eB ?_;intro p w Y;refine jG aq (x1:=⟨(az aY es j).var,(az aY es j).val⟩) rfl rfl rfl (fX rfl) (fb _) Y ?_;clear Y;intro s w Y;refine W ?_;refine aU rfl (Q7 (a:=a) (b:=s) (T.at Y) (bm Y)) ?_;rintro _ w' ⟨⟨r,rfl,n⟩,an⟩;replace Y:=Y.cr an;clear an;rw[C.var,C.val]at n;refine⟨_,rfl,?_⟩
     cases r with
     | false =>
      refine W ?_;have l:¬ud t:=fun h=>by have:=n.2 (h k U j U);cases this
      exact bk (v:=.iface 57 (E 2)) rfl rfl ⟨by rw[YS h1 F P V hK l];rfl,Y.tail.tail.tail⟩
     | true =>
      refine W ?_;refine⟨j+1,⟨rfl,au⟩,aV,⟨U,fun i g=>?_,Y.tail.tail⟩,U⟩;by_cases h:i=j
      ·subst h;exact n.1 rfl
      exact S i U
    refine W ?_;refine⟨k+1,⟨rfl,au⟩,aV,⟨U,fun i g=>?_,Y⟩,U⟩;by_cases h:i=k
    ·subst h;exact fun C R'=>S C U
    exact A i U
   have C:ud t:=fun i g=>A i U;clear A o hk;refine W ?_;refine cN [2,2,14,14,101,110] (G:=Nat) (fun k=>[(101,E k)]) (fun k w=>k<=t.Z.length/\(∀ i,i<k->pI (t.Z.getD i bf).name)/\M w0 w [ak D 26 [a,b,c,d]]) (fun k=>t.Z.length-k) 0 (fun _=>rfl) ⟨rfl,au⟩ ⟨br _,fun i g=>absurd g (dx _),Y⟩ ?_;clear Y;rintro P' k w ⟨hk,B,Y⟩;refine aA ?_ ?_<;>intro o
   ·have m:=K.dK k U
    have q:=m.one;refine eB ?_;intro p w Y;refine aU rfl (YE (b:=(az cp vs k).name) (by rw[m.name];exact m.size)) ?_;rintro _ w' ⟨⟨r,rfl,n⟩,an⟩;replace Y:=Y.cr an;clear an;rw[m.name]at n;refine⟨_,rfl,?_⟩
    cases r with
    | false =>
     refine W ?_;have l:¬pJ t:=fun h=>by have:=n.2 (h k U);cases this
     exact bk (v:=.iface 57 (E 8)) rfl rfl ⟨by rw[YT h1 F P V hK C l];rfl,Y.tail.tail⟩
    | true =>
     refine W ?_;refine⟨k+1,⟨rfl,au⟩,aV,⟨U,fun i g=>?_,Y.tail⟩,U⟩;by_cases h:i=k
     ·subst h;exact n.1 rfl
     exact B i U
   refine W ?_;exact bk (v:=.nilIface) rfl rfl ⟨by rw[YU h1 F P V hK C fun i g=>B i U];rfl,Y.tail⟩
def YV (e:xs.length=ys.length)(h:∀ i,i<xs.length->xs.getD i O.dflt=ys.getD i O.dflt):xs=ys:=by
 apply iA e;intro i h1 g;have:=h i h1
 rwa[al h1,al g]at this
def Q_ (l:RS O w0 a xs)(m:RS O w0 b ys) :
  Calls aj 50 #[a,b] w0 fun e w'=>(∃ r,e=.returned (.bool r)/\(r=true↔xs=ys))/\M w0 w' []:=by
 have n:=l.bT;have o:=m.bT;have Y:=M.start w0;refine bB ao Tryz.func50 ?_;refine aA ?_ ?_<;>intro u
 ·refine W ?_
  refine bk (v:=.bool false) rfl rfl ⟨⟨false,rfl,dr fun h=>?_⟩,Y⟩;subst h;omega
 refine W ?_;refine cN [4,5,13,25] (G:=Nat) (fun k=>[(13,E k)]) (fun k w=>k<=xs.length/\(∀ i,i<k->xs.getD i O.dflt=ys.getD i O.dflt)/\M w0 w []) (fun k=>xs.length-k) 0 (fun _=>rfl) ⟨rfl,au⟩ ⟨br _,fun i j=>absurd j (dx _),Y⟩ ?_;clear Y;rintro x k w ⟨hk,g,Y⟩;refine aA ?_ ?_<;>intro h1
 ·refine sC ?_ ?_<;>intro w Y q
  ·refine W ?_
   refine bk (v:=.bool false) rfl rfl ⟨⟨false,rfl,dr fun h=>?_⟩,Y⟩;subst h;exact q rfl
  refine W ?_;refine⟨k+1,⟨rfl,au⟩,aV,⟨U,fun i j=>?_,Y⟩,U⟩;by_cases h:i=k
  ·subst h;omega
  exact g i U
 refine W ?_;exact bk (v:=.bool true) rfl rfl ⟨⟨true,rfl,iH (YV U fun i j=>g i U)⟩,Y⟩
def YW {n k m:Int}(i:1<=n)(hk:1<=k)(hm:n<=m)(j:m<=65536):let x:=n*(if m+1<(if 0>k then 0 else k) then m+1 else (if 0>k then 0 else k))
  0<=x/\x<=4295098368/\(x<=m->x=n*k)/\(m<x->m<n*k):=by
 intro x;have e:x=n*min k (m+1):=by
  show n*(if m+1<(if 0>k then 0 else k) then m+1 else (if 0>k then 0 else k))=_;have g:(if 0>k then 0 else k)=k:=aH U;rw[g];congr 1;split<;>omega
 have l:n*min k (m+1)<=65536*65537:=zP U U U U;have o:0<=n*min k (m+1):=tj U U;refine⟨U,U,fun h=>?_,fun h=>?_⟩
 ·rw[e]at h ⊢
  by_cases g:k<=m+1
  ·rw[Int.min_eq_left g]
  rw[Int.min_eq_right U]at h;have:1*(m+1)<=n*(m+1):=yt i U;omega
 rw[e]at h;have:n*min k (m+1)<=n*k:=Gl U U;omega
def qN (vars:J)(m:Int):Int:=if cC vars<=m then cC vars else m+1
def Rb {vars:J}{m:Int}(u:RS O w0 a vars)(j:∀ x∈vars,1<=x)(q:1<=m)(r:m<=65536) :
  Calls aj 8 #[a,E m] w0 fun e w'=>e=.returned (E (qN vars m))/\M w0 w' []:=by
 have y:=u.bT;have Y:=M.start w0;refine bB ao Tryz.func8 ?_;refine W ?_;refine dN [4,5,7,7,10,26] (G:=Nat) (H:=Int) (fun k n=>[(10,E k),(5,E n)]) (fun k n w=>k<=vars.length/\n=cC (vars.take k)/\n<=m/\M w0 w []) (fun k _=>vars.length-k) 0 1 (fun _ _=>rfl) ⟨rfl,rfl,au⟩ ⟨br _,rfl,q,Y⟩ ?_;clear Y;rintro C k n w ⟨hk,o,g,Y⟩;refine aA ?_ ?_<;>intro h1
 ·have h:k<vars.length:=U
  have hx:=j _ (cD O.dflt h);have i:1<=n:=by rw[o];exact Ag fun x hx=>j x (pU hx)
  obtain⟨D,F,z,A⟩:=YW i hx g r;have B:cC (vars.take (k+1))=n*vars.getD k O.dflt:=by rw[eD O.dflt h,Ah,o]
  refine aA ?_ ?_<;>intro K
  ·refine W ?_
   refine bk (v:=E (m+1)) rfl rfl ⟨?_,Y⟩;have N:=A U;have P:cC (vars.take (k+1))<=cC vars:=by
    have:=Rc (l:=vars.take (k+1)) (m:=vars.drop (k+1)) (fun x hx=>j x (JX hx)) (fun x hx=>j x (pU hx))
    rwa[yC]at this
   rw[qN,aH U]
  refine W ?_;refine⟨k+1,_,⟨rfl,rfl,au⟩,aV,⟨U,?_,U,Y⟩,U⟩;rw[B];exact z U
 refine W ?_;refine bk (v:=E n) rfl rfl ⟨?_,Y⟩;rw[gH U]at o;rw[qN,<-o,aP g]
def YX (y:bz w0 a b c d vs t) :
  Calls aj 18 #[.agg #[a,b,c,d]] w0 fun e w'=>(∃ r,e=.returned (.bool r)/\(r=true↔fA t))/\M w0 w' []:=by
 have o:=y;obtain⟨z,N,P,q⟩:=y;have u:=q.rs;have B:=q.len;have C:=z.bT;have D:=u.bT;have Y:=M.start w0;refine bB ao Tryz.func18 ?_;refine lR ?_ ?_<;>intro p w Y h1
 ·refine W ?_
  refine bk (v:=.bool false) rfl rfl ⟨⟨false,rfl,dr fun h=>?_⟩,Y.tail⟩;have:=h.vars;have:=h.Z;omega
 refine W ?_;obtain⟨F,rfl⟩:=À p;refine cN [2,2,4,4,18,26] (G:=Nat) (fun k=>[(18,E k)]) (fun k w=>k<=t.Z.length/\(∀ i,i<k->(t.Z.getD i bf).aJ.length<=8)/\M w0 w [ak F 26 [a,b,c,d]]) (fun k=>t.Z.length-k) 0 (fun _=>rfl) ⟨rfl,au⟩ ⟨br _,fun i x=>absurd x (dx _),Y⟩ ?_;clear Y;rintro Q k w ⟨hk,g,Y⟩;refine aA ?_ ?_<;>intro R
 ·have j:=q.dK k U
  have A:=j.one;obtain⟨es,l⟩:=j.aJ;have n:=l.rs;have H:=l.len;have K:=n.bT;refine lR ?_ ?_<;>intro p w Y S
  ·refine W ?_
   refine bk (v:=.bool false) rfl rfl ⟨⟨false,rfl,dr fun h=>?_⟩,Y.tail.tail⟩;have:=h.aJ k U;omega
  refine W ?_;refine⟨k+1,⟨rfl,au⟩,aV,⟨U,fun i x=>?_,Y.tail⟩,U⟩;by_cases h:i=k
  ·subst h;omega
  exact g i U
 refine W ?_;refine aU rfl (YD (o.at Y)) ?_;rintro _ w' ⟨⟨r,rfl,j⟩,an⟩;refine aI ?_;clear an Y;intro Y
 cases r with
 | false =>
  refine W ?_;refine bk (v:=.bool false) rfl rfl ⟨⟨false,rfl,dr fun h=>?_⟩,Y.tail⟩;have:=j.2 h.da
  cases this
 | true =>
  have I:=j.1 rfl;refine W ?_;refine aU rfl (Rb (m:=512) (z.at Y) I.pos dc dc) ?_;rintro _ w' ⟨rfl,an⟩;refine aI ?_;clear an Y;intro Y;refine W ?_;refine bk (v:=.bool (decide (qN t.vars 512<=512))) rfl rfl ⟨⟨_,rfl,?_⟩,Y.tail⟩;rw[gR,qN];constructor
  ·intro h
   exact⟨I,U,U,fun i x=>g i U,by split at h<;>omega⟩
  intro h;rw[aP h.many];exact h.many
def YY {sv:Value}{st:J}{op:Int}(C:bz w0 a b c d vs t)(D:RS O w0 sv st)(I:aC t)(bI:ab t.vars st) :
  Calls aj 34 #[.agg #[a,b,c,d],sv,E op] w0 fun e w'=>∃ r g,e=.returned (.tuple #[g,.bool r])/\(r=true↔0<=op/\op<t.Z.length/\iT t st op.toNat)/\M w0 w' [X O 3 g (if r then cd t st op.toNat else [])]:=by
 have N:=C;obtain⟨P,hb,hc,u⟩:=C;have x:=u.rs;have Q:=u.len;have R:=P.bT;have S:=x.bT;have T:=bI.1;have V:=I.vars;have Y:=M.start w0;refine bB ao Tryz.func34 ?_;refine eB ?_;intro pt w Y;refine QA (fun h1=>?_) (fun h1=>?_)
 ·simp only[h1,vF,vG];(try simp only[sq,Bool.and_eq_true,pO,gR,pM,rX,yu,yw,nq,qy,yx,xR,bne_iff_ne,ne_eq,rY,xS,wg,yy]at h1)
  refine W ?_;refine cX (v:=nS) (v':=.bool false) rfl rfl rfl ⟨false,_,rfl,dr fun h=>?_,Y.tail.nil⟩;omega
 simp only[h1,vF,vG];(try simp only[sq,Bool.and_eq_true,pO,gR,pM,rX,yu,yw,nq,qy,yx,xR,bne_iff_ne,ne_eq,rY,xS,wg,yy]at h1);have i:=u.dK op.toNat U;have F:=i.one;obtain⟨es,j⟩:=i.aJ;have m:=j.rs;have j':=j.len;have H':=m.bT;have n:=i.pre;have hgo:=I.op op.toNat U;have H:=hgo.aJ;refine W ?_;refine aU rfl (KL (n.at Y) (D.at Y)) ?_;rintro _ w' ⟨⟨r,rfl,K⟩,an⟩;refine aI ?_;clear an Y;intro Y
 cases r with
 | false =>
  refine W ?_;refine cX (v:=nS) (v':=.bool false) rfl rfl rfl ⟨false,_,rfl,dr fun h=>?_,Y.tail.nil⟩;have:=K.2 h.2.2
  cases this
 | true =>
  have o:=K.1 rfl;refine W ?_;refine zB O Y ?_;clear Y;intro s1 w Y;refine lw ?_;intro s w Y;obtain⟨out,rfl⟩:=À s;rw[kq]at Y;refine cN [10,10,41,55] (G:=Nat) (fun k=>[(41,E k)]) (fun k w=>k<=(t.Z.getD op.toNat bf).aJ.length/\M w0 w [X O 3 out (eW st ((t.Z.getD op.toNat bf).aJ.take k)),ak pt 26 [a,b,c,d]]) (fun k=>(t.Z.getD op.toNat bf).aJ.length-k) 0 (fun _=>rfl) ⟨rfl,au⟩ ⟨br _,Y⟩ ?_;clear Y;rintro σ k w ⟨hk,Y⟩;refine aA ?_ ?_<;>intro h2
  ·have g:=j.dK k U
   have y:=g.bK;have z:=g.one;have A:=g.var;have B:=g.val;obtain⟨r1,r2,r3,r4⟩:=tz (hgo.fc k U);have l:=CM st ((t.Z.getD op.toNat bf).aJ.take k) ((t.Z.getD op.toNat bf).aJ.getD k bE);rw[<-eD bE U]at l;have J':=KN st ((t.Z.getD op.toNat bf).aJ.take k);refine eB ?_;intro p w Y;refine aU rfl (KL (y.at Y) (D.at Y)) ?_;rintro _ w' ⟨⟨r,rfl,q⟩,an⟩;refine aI ?_;clear an Y;intro Y
   cases r with
   | false =>
    refine W ?_;refine⟨k+1,⟨rfl,au⟩,aV,⟨U,?_⟩,U⟩;rw[l,aH fun h=>by have:=q.2 h;cases this]
    exact Y.tail
   | true =>
    refine eQ ?_;intro w Y;refine⟨k+1,⟨rfl,au⟩,aV,⟨U,?_⟩,U⟩;rw[l,aP (q.1 rfl),<-A,<-B];exact Y.tail
  rw[gH U]at Y;refine W ?_;exact cX (v:=out) (v':=.bool true) rfl rfl rfl ⟨true,_,rfl,iH ⟨U,U,o⟩,Y.only⟩
def ab.take {vars s:J}(h:ab vars s)(k:Nat):ab (vars.take k) (s.take k):=by
 refine⟨by simp[h.1],fun i e=>?_⟩;simp only[jf]at e;have:=h.2 i U;simp only[iB]at this ⊢
 rwa[getElem?_take_of_lt U,getElem?_take_of_lt U]
def DA {l:J}(h:∀ x∈l,1<=x)(k:Nat):cC (l.take k)<=cC l:=by
 have:=Rc (l:=l.take k) (m:=l.drop k) (fun x hx=>h x (JX hx)) (fun x hx=>h x (pU hx))
 rwa[yC]at this
def Re {vars:J}(h:ab vars s)(hk:k<s.length):cQ (vars.take (k+1)) (s.take (k+1))=cQ (vars.take k) (s.take k)*vars.getD k O.dflt+s.getD k O.dflt:=by
 rw[eD O.dflt hk,eD O.dflt (show k<vars.length by rw[<-h.1];exact hk),KO (by simp[h.1])]
def YZ {vars:J}(h:ab vars s)(e:∀ x∈vars,1<=x)(hk:k<s.length):0<=cQ (vars.take k) (s.take k)*vars.getD k O.dflt/\cQ (vars.take k) (s.take k)*vars.getD k O.dflt+s.getD k O.dflt<cC vars:=by
 have h1:=(wK (h.take k)).1;have i:=h.2 k hk;have g:=(wK (h.take (k+1))).2;rw[Re h hk]at g;have j:=DA e (k+1);exact⟨tj h1 U,U⟩
def Rf {vars:J}(i:RS O w0 a vars)(j:RS O w0 b s)(bI:ab vars s)(l:∀ x∈vars,1<=x)(u:cC vars<=1099511627776) :
  Calls aj 22 #[a,b] w0 fun e w'=>e=.returned (E (cQ vars s))/\M w0 w' []:=by
 have m:=i.bT;have o:=j.bT;have y:=bI.1;have Y:=M.start w0;refine bB ao Tryz.func22 ?_;refine W ?_;refine dN [5,6,9,23] (G:=Nat) (H:=Int) (fun k n=>[(9,E k),(5,E n)]) (fun k n w=>k<=s.length/\n=cQ (vars.take k) (s.take k)/\M w0 w []) (fun k _=>s.length-k) 0 0 (fun _ _=>rfl) ⟨rfl,rfl,au⟩ ⟨br _,rfl,Y⟩ ?_;clear Y;rintro z k n w ⟨hk,h,Y⟩;refine aA ?_ ?_<;>intro h1
 ·have g:k<s.length:=U
  obtain⟨q,r⟩:=YZ bI l g;have A:=bI.2 k g;rw[<-h]at q r;refine eQ ?_;intro w Y;refine⟨k+1,_,⟨rfl,rfl,au⟩,aV,⟨U,?_,Y⟩,U⟩;rw[Re bI g,h]
 refine W ?_;refine bk (v:=E n) rfl rfl ⟨?_,Y⟩;rw[h,gH U,gH U]
end
end Go.Proofs.YtmapkjoefdgjfaaGreatDoor
