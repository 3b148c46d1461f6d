/- Several texts. -/
import Derived.Test.YtmapkjoefdgjfaaGreatDoorTypesE
import Derived.Test.YtmapkjoefdgjfaaGreatDoorMTAE
import Derived.Shelf.SlSortCmp.Whole1
set_option linter.unusedSimpArgs false
set_option linter.unusedVariables false
set_option linter.defProp false
set_option maxRecDepth 8000
set_option maxHeartbeats 16000000
open List Nat
namespace Go.Proofs.YtmapkjoefdgjfaaGreatDoor
open Go.Sl
variable {w0 w:World}{a b c d:Value}{t:aa}{s xs ys:J}{f:List bp}{vs:List iW}{k:Nat}{cs:List Value}{L:List (List bp)}
section
open Go.Sl Go Go.Shelf
attribute [local irreducible] vc opsW opsD opV opW PureV ReadV Thn Blk
def vY {P:Program}{f:FuncId}{B:Func}(h1:(((P.funcs[f]?).map Func.name).getD "" == "runtime.NumGoroutine") = false := by kernel_rfl)(h2 : P.funcs[f]? = some {B with name := ((P.funcs[f]?).map Func.name).getD ""} := by kernel_rfl) : Bears P f B := ⟨_, h1, h2⟩
def M4:Ren:=⟨rl [6,140,14,164,15,98,20,180,21,181,22,182,23,183,24,184,25,185,26,186,27,187,28,132,29,133,46,205,47,154,48,155,49,206,50,207,57,214],rl [0,0,3,3,4,4,5,5,9,9,22,33,24,22,25,53,39,175,45,210,46,211,50,183,53,218,55,220,66,250,70,254,76,279,77,267],fun k=>k⟩
set_option maxRecDepth 100000 in
def MU:SlLaysF.n6 ai M4:=by constructor<;>first|exact an|kernel_rfl|(intro w;kernel_rfl)|exact vY
def Ro {x:Int}:Calls ai 158 #[E x] w fun e w'=>e=.returned (.bool false)/\w'=w:=by
 have Y:=Z.start w;refine bA an Tryz.func158 ?_;refine O ?_;exact bf (v:=.bool (!decide (x=x))) rfl rfl ⟨sm,rfl⟩
def Rp {x y:Int}:Calls ai 165 #[E x,E y] w fun e w'=>e=.returned (E (if x<y then -1 else if y<x then 1 else 0))/\w'=w:=by
 have Y:=Z.start w;refine bA an Tryz.func165 ?_;refine O ?_;refine aL rfl Ro ?_;rintro _ w' ⟨rfl,rfl⟩;refine⟨_,rfl,?_⟩;refine O ?_;refine aL rfl Ro ?_;rintro _ w' ⟨rfl,rfl⟩;refine⟨_,rfl,?_⟩;refine aB ?_ ?_<;>intro h1
 ·refine O ?_
  exact bf (v:=E (-1)) rfl rfl ⟨by rw[aM h1],rfl⟩
 refine aB ?_ ?_<;>intro g
 ·refine O ?_
  exact bf (v:=E 1) rfl rfl ⟨by rw[aC U,aM g],rfl⟩
 refine O ?_;exact bf (v:=E 0) rfl rfl ⟨by rw[aC U,aC U],rfl⟩
def VN (l:RS W w0 a xs)(m:RS W w0 b ys) :
  Calls ai 141 #[a,b] w0 fun e w'=>e=.returned (E (e8 xs ys))/\w'=w0:=by
 have n:=l.bU;have o:=m.bU;have Y:=Z.start w0;refine bA an Tryz.func141 ?_;refine O ?_;refine cP [4,8,11,30] (G:=Nat) (fun k=>[(11,E k)]) (fun k w=>w=w0/\k<=xs.length/\k<=ys.length/\e8 xs ys=e8 (xs.drop k) (ys.drop k)) (fun k=>xs.length-k) 0 (fun _=>rfl) ⟨rfl,az⟩ ⟨rfl,bu _,bu _,rfl⟩ ?_;clear Y;rintro u k w ⟨rfl,q,r,he⟩;have Y:=Z.start w;refine aB ?_ ?_<;>intro h1
 ·have j:k<xs.length:=U
  have h:xs.drop k=xs.getD k W.dflt::xs.drop (k+1):=by rw[wI j];simp[List.getD,j]
  refine aB ?_ ?_<;>intro x
  ·have g:ys.drop k=[]:=pS U
   refine O ?_;exact bf (v:=E 1) rfl rfl ⟨by rw[he,h,g];rfl,rfl⟩
  have i:k<ys.length:=U;have g:ys.drop k=ys.getD k W.dflt::ys.drop (k+1):=by rw[wI i];simp[List.getD,i]
  rw[h,g]at he;simp only[e8]at he;refine O ?_;refine aL rfl Rp ?_;rintro _ w' ⟨rfl,rfl⟩;refine⟨_,rfl,?_⟩;by_cases c1:xs.getD k W.dflt<ys.getD k W.dflt
  ·rw[aM c1]at he ⊢
   refine O ?_;exact bf (v:=E (-1)) rfl rfl ⟨by rw[he],rfl⟩
  by_cases c2:ys.getD k W.dflt<xs.getD k W.dflt
  ·rw[aC c1,aM c2]at he ⊢
   refine O ?_;exact bf (v:=E 1) rfl rfl ⟨by rw[he],rfl⟩
  rw[aC c1,aC c2]at he ⊢;refine O ?_;exact⟨k+1,⟨rfl,az⟩,aU,⟨rfl,U,U,he⟩,U⟩
 have h:xs.drop k=[]:=pS U;refine aB ?_ ?_<;>intro j
 ·have i:k<ys.length:=U
  have g:ys.drop k=ys.getD k W.dflt::ys.drop (k+1):=by rw[wI i];simp[List.getD,i]
  refine O ?_;exact bf (v:=E (-1)) rfl rfl ⟨by rw[he,h,g];rfl,rfl⟩
 have g:ys.drop k=[]:=pS U;refine O ?_;exact bf (v:=E 0) rfl rfl ⟨by rw[he,h,g];rfl,rfl⟩
end
section
open Go.Sl
attribute [local irreducible] vc opsW opsD opV opW PureV ReadV Thn Blk
def bI (c:Int):Value:=if c=0 then .nilIface else .iface 57 (E c)
def fK {c:Int}(h:c=0):bI c=.nilIface:=by simp[bI,h]
def cS {c:Int}(h:c≠0):bI c=.iface 57 (E c):=by simp[bI,h]
def Y9 (c:Int) :
  Calls ai 49 #[bI c] w0 fun e w'=>e=.returned (E c)/\Z w0 w' []:=by
 have Y:=Z.start w0;by_cases g:c=0
 ·subst g
  refine bA an Tryz.func49 ?_;refine O ?_;exact bf (v:=E 0) rfl rfl ⟨rfl,Y⟩
 rw[cS g];refine bA an Tryz.func49 ?_;refine O ?_;exact bf (v:=E c) rfl rfl ⟨rfl,Y⟩
def Za {vars:J}(l:RS W w0 a vars)(m:RS W w0 b s) :
  Calls ai 64 #[a,b] w0 fun e w'=>(∃ r,e=.returned (.bool r)/\(r=true↔ab vars s))/\Z w0 w' []:=by
 have n:=l.bU;have o:=m.bU;have Y:=Z.start w0;refine bA an Tryz.func64 ?_;refine aB ?_ ?_<;>intro q
 ·refine O ?_
  refine bf (v:=.bool false) rfl rfl ⟨⟨false,rfl,cL fun h=>?_⟩,Y⟩;exact absurd (by have:=h.1;omega) q
 refine O ?_;refine cP [4,5,13,32] (G:=Nat) (fun k=>[(13,E k)]) (fun k w=>k<=s.length/\(∀ i,i<k->0<=s.getD i W.dflt/\s.getD i W.dflt<vars.getD i W.dflt)/\Z w0 w []) (fun k=>s.length-k) 0 (fun _=>rfl) ⟨rfl,az⟩ ⟨bu _,fun i j=>absurd j (dr _),Y⟩ ?_;clear Y;rintro u k w ⟨hk,g,Y⟩;refine aB ?_ ?_<;>intro h1
 ·refine vJ ?_ ?_<;>intro w Y x
  ·refine O ?_
   refine bf (v:=.bool false) rfl rfl ⟨⟨false,rfl,cL fun h=>?_⟩,Y⟩;have:=h.2 k U;omega
  refine O ?_;refine⟨k+1,⟨rfl,az⟩,aU,⟨U,fun i j=>?_,Y⟩,U⟩;by_cases h:i=k
  ·subst h;omega
  exact g i U
 refine O ?_;exact bf (v:=.bool true) rfl rfl ⟨⟨true,rfl,im ⟨U,fun i j=>g i U⟩⟩,Y⟩
def HI {vars:J}(n:RS W w0 a vars)(o:RS aq w0 b f) :
  Calls ai 65 #[a,b] w0 fun e w'=>(∃ r,e=.returned (.bool r)/\(r=true↔dm vars f))/\Z w0 w' []:=by
 have q:=n.bU;have u:=o.bU;have Y:=Z.start w0;refine bA an Tryz.func65 ?_;refine O ?_;refine cP [4,6,9,54] (G:=Nat) (fun k=>[(9,E k)]) (fun k w=>k<=f.length/\(∀ i,i<k->bN vars (f.getD i aq.dflt)/\(0<i->(f.getD (i-1) aq.dflt).var<(f.getD i aq.dflt).var))/\Z w0 w []) (fun k=>f.length-k) 0 (fun _=>rfl) ⟨rfl,az⟩ ⟨bu _,fun i l=>absurd l (dr _),Y⟩ ?_;clear Y;rintro x k w ⟨hk,g,Y⟩;refine aB ?_ ?_<;>intro h1
 ·refine mg ?_ ?_<;>intro p w Y m
  ·refine O ?_
   refine bf (v:=.bool false) rfl rfl ⟨⟨false,rfl,cL fun h=>?_⟩,Y.tail⟩;have:=h k U;unfold bN at this;have j:((k:Int)-1).toNat=k-1:=U;rw[j]at m;omega
  refine O ?_;refine⟨k+1,⟨rfl,az⟩,aU,⟨U,fun i l=>?_,Y.tail⟩,U⟩;by_cases h:i=k
  ·subst h
   have j:((i:Int)-1).toNat=i-1:=U;rw[j]at m;unfold bN;omega
  exact g i U
 refine O ?_;exact bf (v:=.bool true) rfl rfl ⟨⟨true,rfl,im fun i l=>g i U⟩,Y⟩
def Zb {vars:J}{v:iW}{o:km}(D:RS W w0 a vars)(hv:oG w0 v o) :
  Calls ai 66 #[a,.agg (cd.enc v).toArray] w0 fun e w'=>(∃ r,e=.returned (.bool r)/\(r=true↔ua vars o))/\Z w0 w' []:=by
 have R:=D.bU;have Y:=Z.start w0;obtain⟨g,F,H,l,es,m⟩:=hv;have K:=m.rs;have S:=l.bU;have T:=K.bU;have P:=m.len;refine bA an Tryz.func66 ?_;refine eE ?_;intro p w Y;refine Ym (fun h1=>?_) (fun h1=>?_)
 ·simp only[h1,zd,zf];(try simp only[tI,Bool.and_eq_true,qa,gQ,qA,tt,Bm,Bn,nH,q6,Bo,zY,bne_iff_ne,ne_eq,tu,zZ,xW,Bp]at h1)
  refine O ?_;refine bf (v:=.bool false) rfl rfl ⟨⟨false,rfl,cL fun h=>?_⟩,Y.tail⟩;have:=h.lE;have:=h.pd;have:=h.aJ;have:=h.name.1;rw[<-g]at this;omega
 simp only[h1,zd,zf];(try simp only[tI,Bool.and_eq_true,qa,gQ,qA,tt,Bm,Bn,nH,q6,Bo,zY,bne_iff_ne,ne_eq,tu,zZ,xW,Bp]at h1);refine O ?_;refine aL rfl (HI (a:=a) (b:=v.pre) (D.at Y) (l.at Y)) ?_;rintro _ w' ⟨⟨r,rfl,u⟩,hk⟩;replace Y:=Y.cy hk;clear hk;refine⟨_,rfl,?_⟩;refine O ?_
 cases r with
 | false =>
  refine O ?_;refine bf (v:=.bool false) rfl rfl ⟨⟨false,rfl,cL fun h=>?_⟩,Y.tail⟩;have:=u.2 h.pre
  cases this
 | true =>
  have x:=u.1 rfl;refine O ?_;refine cP [4,5,38,53] (G:=Nat) (fun k=>[(38,E k)]) (fun k w=>k<=v.name.size/\(∀ i,i<k->32<=yL v.name i/\yL v.name i<=126)/\Z w0 w [ak p 44 (cd.enc v)]) (fun k=>v.name.size-k) 0 (fun _=>rfl) ⟨rfl,az⟩ ⟨bu _,fun i n=>absurd n (dr _),Y⟩ ?_;clear Y;rintro σ k w ⟨hk,y,Y⟩;refine aB ?_ ?_<;>intro h2
  ·refine aB ?_ ?_<;>intro j
   ·refine O ?_
    refine bf (v:=.bool false) rfl rfl ⟨⟨false,rfl,cL fun h=>?_⟩,Y.tail⟩;have:=h.name.2 k (by rw[<-g];omega);rw[<-g]at this;omega
   refine O ?_;refine⟨k+1,⟨rfl,az⟩,aU,⟨U,fun i n=>?_,Y⟩,U⟩;by_cases h:i=k
   ·subst h;omega
   exact y i U
  have z:pL o.name:=by rw[<-g];exact⟨U,fun i n=>y i U⟩
  refine O ?_;refine cP [4,4,7,7,57,77] (G:=Nat) (fun k=>[(57,E k)]) (fun k w=>k<=o.aJ.length/\(∀ i,i<k->gP vars (o.aJ.getD i bE))/\Z w0 w [ak p 44 (cd.enc v)]) (fun k=>o.aJ.length-k) 0 (fun _=>rfl) ⟨rfl,az⟩ ⟨bu _,fun i n=>absurd n (dr _),Y⟩ ?_;clear Y;rintro V k w ⟨j',A,Y⟩;refine aB ?_ ?_<;>intro h4
  ·have j:=m.dJ k U
   have N:=j.bO;have Q:=j.one;refine eE ?_;intro p w Y;refine aL rfl (HI (a:=a) (b:=(au aV es k).bO) (D.at Y) (N.at Y)) ?_;rintro _ w' ⟨⟨r,rfl,u⟩,al⟩;refine aA ?_;clear al Y;intro Y
   cases r with
   | false =>
    refine O ?_;refine bf (v:=.bool false) rfl rfl ⟨⟨false,rfl,cL fun h=>?_⟩,Y.tail.tail⟩;have:=u.2 (h.ff k U).1
    cases this
   | true =>
    have B:=u.1 rfl;refine O ?_;refine jK aq (x1:=⟨(au aV es k).var,(au aV es k).val⟩) rfl rfl rfl (fY rfl) (fe _) Y ?_;clear Y;intro s w Y;refine O ?_;refine aL rfl (HI (a:=a) (b:=s) (D.at Y) (bk Y)) ?_;rintro _ w' ⟨⟨r,rfl,q⟩,al⟩;replace Y:=Y.cy al;clear al;rw[j.var,j.val]at q;refine⟨_,rfl,?_⟩
    cases r with
    | false =>
     refine O ?_;refine bf (v:=.bool false) rfl rfl ⟨⟨false,rfl,cL fun h=>?_⟩,Y.tail.tail.tail⟩;have:=q.2 (h.ff k U).2
     cases this
    | true =>
     have C:=q.1 rfl;refine O ?_;refine⟨k+1,⟨rfl,az⟩,aU,⟨U,fun i n=>?_,Y.tail.tail⟩,U⟩;by_cases h:i=k
     ·subst h;exact⟨B,C⟩
     exact A i U
  refine O ?_;refine bf (v:=.bool true) rfl rfl ⟨⟨true,rfl,im ⟨U,U,U,z,x,fun i n=>A i U⟩⟩,Y.tail⟩
def Zc (B:bn w0 a b c d vs t) :
  Calls ai 40 #[.agg #[a,b,c,d]] w0 fun e w'=>(∃ r,e=.returned (.bool r)/\(r=true↔aG t))/\Z w0 w' []:=by
 obtain⟨u,C,D,x⟩:=B;have y:=x.rs;have F:=x.len;have H:=u.bU;have K:=y.bU;have Y:=Z.start w0;refine bA an Tryz.func40 ?_;refine mg ?_ ?_<;>intro p w Y h1
 ·refine O ?_
  refine bf (v:=.bool false) rfl rfl ⟨⟨false,rfl,cL fun h=>?_⟩,Y.tail⟩;have:=h.vars;have:=h.M;omega
 refine O ?_;refine cP [2,2,4,4,20,30] (G:=Nat) (fun k=>[(20,E k)]) (fun k w=>k<=t.vars.length/\(∀ i,i<k->1<=t.vars.getD i W.dflt/\t.vars.getD i W.dflt<=64)/\Z w0 w [ak p 26 [a,b,c,d]]) (fun k=>t.vars.length-k) 0 (fun _=>rfl) ⟨rfl,az⟩ ⟨bu _,fun i g=>absurd g (dr _),Y⟩ ?_;clear Y;rintro Q k w ⟨hk,j,Y⟩;refine aB ?_ ?_<;>intro R
 ·refine aB ?_ ?_<;>intro l
  ·refine O ?_
   refine bf (v:=.bool false) rfl rfl ⟨⟨false,rfl,cL fun h=>?_⟩,Y.tail⟩;have:=h.mN k U;omega
  refine O ?_;refine⟨k+1,⟨rfl,az⟩,aU,⟨U,fun i g=>?_,Y⟩,U⟩;by_cases h:i=k
  ·subst h;omega
  exact j i U
 refine O ?_;refine aL rfl (Za (a:=a) (b:=b) (u.at Y) (C.at Y)) ?_;rintro _ w' ⟨⟨r,rfl,z⟩,al⟩;refine aA ?_;clear al Y;intro Y
 cases r with
 | false =>
  refine O ?_;refine bf (v:=.bool false) rfl rfl ⟨⟨false,rfl,cL fun h=>?_⟩,Y.tail⟩;have:=z.2 h.cC
  cases this
 | true =>
  have l:=z.1 rfl;refine O ?_;refine aL rfl (HI (a:=a) (b:=c) (u.at Y) (D.at Y)) ?_;rintro _ w' ⟨⟨r,rfl,m⟩,al⟩;refine aA ?_;clear al Y;intro Y
  cases r with
  | false =>
   refine O ?_;refine bf (v:=.bool false) rfl rfl ⟨⟨false,rfl,cL fun h=>?_⟩,Y.tail⟩;have:=m.2 h.aH
   cases this
  | true =>
   have n:=m.1 rfl;refine O ?_;refine cP [2,2,6,6,48,57] (G:=Nat) (fun k=>[(48,E k)]) (fun k w=>k<=t.M.length/\(∀ i,i<k->ua t.vars (t.M.getD i bj))/\Z w0 w [ak p 26 [a,b,c,d]]) (fun k=>t.M.length-k) 0 (fun _=>rfl) ⟨rfl,az⟩ ⟨bu _,fun i g=>absurd g (dr _),Y⟩ ?_;clear Y;rintro N k w ⟨P,o,Y⟩;refine aB ?_ ?_<;>intro S
   ·have bL:=x.dJ k U
    have A:=bL.one;refine eE ?_;intro p w Y;refine aL rfl (Zb (a:=a) (v:=au cd vs k) (u.at Y) (bL.at Y)) ?_;rintro _ w' ⟨⟨r,rfl,q⟩,al⟩;refine aA ?_;clear al Y;intro Y
    cases r with
    | false =>
     refine O ?_;refine bf (v:=.bool false) rfl rfl ⟨⟨false,rfl,cL fun h=>?_⟩,Y.tail.tail⟩;have:=q.2 (h.op k U)
     cases this
    | true =>
     refine O ?_;refine⟨k+1,⟨rfl,az⟩,aU,⟨U,fun i g=>?_,Y.tail⟩,U⟩;by_cases h:i=k
     ·subst h;exact q.1 rfl
     exact o i U
   refine O ?_;refine bf (v:=.bool true) rfl rfl ⟨⟨true,rfl,im ⟨U,U,fun i g=>j i U,l,n,fun i g=>o i U⟩⟩,Y.tail⟩
def xR {vars:J}(l:RS W w0 a vars)(m:RS W w0 b s) :
  Calls ai 33 #[a,b] w0 fun e w'=>(∃ r,e=.returned (.bool r)/\(r=true↔ab vars s))/\Z w0 w' []:=by
 have n:=l.bU;have o:=m.bU;have Y:=Z.start w0;refine bA an Tryz.func33 ?_;refine aB ?_ ?_<;>intro q
 ·refine O ?_
  refine bf (v:=.bool false) rfl rfl ⟨⟨false,rfl,cL fun h=>?_⟩,Y⟩;exact absurd (by have:=h.1;omega) q
 refine O ?_;refine cP [4,6,14,29] (G:=Nat) (fun k=>[(14,E k)]) (fun k w=>k<=s.length/\(∀ i,i<k->0<=s.getD i W.dflt/\s.getD i W.dflt<vars.getD i W.dflt)/\Z w0 w []) (fun k=>s.length-k) 0 (fun _=>rfl) ⟨rfl,az⟩ ⟨bu _,fun i j=>absurd j (dr _),Y⟩ ?_;clear Y;rintro u k w ⟨hk,g,Y⟩;refine aB ?_ ?_<;>intro h1
 ·refine aB ?_ ?_<;>intro x
  ·refine O ?_
   refine bf (v:=.bool false) rfl rfl ⟨⟨false,rfl,cL fun h=>?_⟩,Y⟩;have:=h.2 k U;omega
  refine O ?_;refine⟨k+1,⟨rfl,az⟩,aU,⟨U,fun i j=>?_,Y⟩,U⟩;by_cases h:i=k
  ·subst h;omega
  exact g i U
 refine O ?_;exact bf (v:=.bool true) rfl rfl ⟨⟨true,rfl,im ⟨U,fun i j=>g i U⟩⟩,Y⟩
def Rq {vars:J}(n:RS W w0 a vars)(o:RS aq w0 b f) :
  Calls ai 69 #[a,b] w0 fun e w'=>(∃ r,e=.returned (.bool r)/\(r=true↔dm vars f))/\Z w0 w' []:=by
 have q:=n.bU;have u:=o.bU;have Y:=Z.start w0;refine bA an Tryz.func69 ?_;refine O ?_;refine dQ [4,5,7,7,10,42] (G:=Nat) (H:=Int) (fun k l=>[(10,E k),(5,E l)]) (fun k l w=>k<=f.length /\ -1<=l/\(l=if k=0 then -1 else (f.getD (k-1) aq.dflt).var)/\(∀ i,i<k->bN vars (f.getD i aq.dflt)/\(0<i->(f.getD (i-1) aq.dflt).var<(f.getD i aq.dflt).var))/\Z w0 w []) (fun k l=>f.length-k) 0 (-1) (fun _ _=>rfl) ⟨rfl,rfl,az⟩ ⟨bu _,U,rfl,fun i m=>absurd m (dr _),Y⟩ ?_;clear Y;rintro y k l w ⟨hk,x,j,g,Y⟩;refine aB ?_ ?_<;>intro h1
 ·refine mg ?_ ?_<;>intro p w Y z
  ·refine O ?_
   refine bf (v:=.bool false) rfl rfl ⟨⟨false,rfl,cL fun h=>?_⟩,Y.tail⟩;have:=h k U;unfold bN at this;split at j<;>omega
  refine O ?_;refine⟨k+1,_,⟨rfl,rfl,az⟩,aU,⟨U,U,sm,fun i m=>?_,Y.tail⟩,U⟩;by_cases h:i=k
  ·subst h
   unfold bN;split at j<;>omega
  exact g i U
 refine O ?_;exact bf (v:=.bool true) rfl rfl ⟨⟨true,rfl,im fun i m=>g i U⟩,Y⟩
def Rr (l:RS aq w0 a f)(m:RS W w0 b s) :
  Calls ai 137 #[a,b] w0 fun e w'=>(∃ r,e=.returned (.bool r)/\(r=true↔cp s f))/\Z w0 w' []:=by
 have n:=l.bU;have o:=m.bU;have Y:=Z.start w0;refine bA an Tryz.func137 ?_;refine O ?_;refine cP [4,4,6,6,9,33] (G:=Nat) (fun k=>[(9,E k)]) (fun k w=>k<=f.length/\(∀ i,i<k->jA s (f.getD i aq.dflt))/\Z w0 w []) (fun k=>f.length-k) 0 (fun _=>rfl) ⟨rfl,az⟩ ⟨bu _,fun i j=>absurd j (dr _),Y⟩ ?_;clear Y;rintro q k w ⟨hk,g,Y⟩;refine aB ?_ ?_<;>intro h1
 ·refine mg ?_ ?_<;>intro p w Y u
  ·refine O ?_
   refine bf (v:=.bool false) rfl rfl ⟨⟨false,rfl,cL fun h=>?_⟩,Y.tail⟩;have:=h k U;unfold jA at this;omega
  refine O ?_;refine⟨k+1,⟨rfl,az⟩,aU,⟨U,fun i j=>?_,Y.tail⟩,U⟩;by_cases h:i=k
  ·subst h;unfold jA;omega
  exact g i U
 refine O ?_;exact bf (v:=.bool true) rfl rfl ⟨⟨true,rfl,im fun i j=>g i U⟩,Y⟩
def Zd {b:ByteArray}(l:b.size<=9223372036854775807) :
  Calls ai 70 #[.string b] w0 fun e w'=>(∃ r,e=.returned (.bool r)/\(r=true↔pL b))/\Z w0 w' []:=by
 have Y:=Z.start w0;refine bA an Tryz.func70 ?_;refine O ?_;refine cP [2,3,6,19] (G:=Nat) (fun k=>[(6,E k)]) (fun k w=>k<=b.size/\(∀ i,i<k->32<=yL b i/\yL b i<=126)/\Z w0 w []) (fun k=>b.size-k) 0 (fun _=>rfl) ⟨rfl,az⟩ ⟨bu _,fun i j=>absurd j (dr _),Y⟩ ?_;clear Y;rintro m k w ⟨hk,g,Y⟩;refine aB ?_ ?_<;>intro h1
 ·refine aB ?_ ?_<;>intro n
  ·refine O ?_
   refine bf (v:=.bool false) rfl rfl ⟨⟨false,rfl,cL fun h=>?_⟩,Y⟩;have:=h.2 k U;omega
  refine O ?_;refine⟨k+1,⟨rfl,az⟩,aU,⟨U,fun i j=>?_,Y⟩,U⟩;by_cases h:i=k
  ·subst h;omega
  exact g i U
 refine O ?_;refine bf (v:=.bool (decide ((b.size:Int)<=256))) rfl rfl ⟨⟨_,rfl,?_⟩,Y⟩;rw[gQ];exact⟨fun h=>⟨U,fun i j=>g i U⟩,fun h=>by have:=h.1;omega⟩
def gF (w:World)(cs:List Value)(L:List (List bp)):Prop:=cs.length=L.length/\∀ i,i<L.length->RS aq w (cG cs i) (L.getD i [])
def gF.eQ {v:Value}(h:gF w cs L)(hv:RS aq w v f):gF w (cs++[v]) (L++[f]):=by
 refine⟨by simp[h.1],fun i g=>?_⟩;simp only[length_append,length_cons,length_nil]at g;by_cases e:i<L.length
 ·have:=h.2 i e
  rw[l9]at this ⊢;simp only[iD]at this ⊢;rw[iX (by rw[h.1];exact e),iX e];exact this
 have j:i=L.length:=U;subst j;rw[l9];simp only[iD];rw[kn (by rw[h.1];exact cD _),kn (cD _),h.1]
 simpa using hv
def gF.at {w0 w:World}{Γ:List HP}{cs:List Value}{L:List (List bp)}(h:gF w0 cs L)(Y:Z w0 w Γ):gF w cs L:=⟨h.1,fun i e=>(h.2 i e).at Y⟩
def jm (t:aa)(k j:Nat):List (List bp):=fO t k++(t.M.getD k bj).pre::((t.M.getD k bj).aJ.take j).map (·.bO)
def Ze (t:aa){j:Nat}(e:j<(t.M.getD k bj).aJ.length):jm t k (j+1)=jm t k j++[((t.M.getD k bj).aJ.getD j bE).bO]:=by
 unfold jm;generalize t.M.getD k bj=o at *
 rw[eC bE e];simp
def Zf (t:aa)(hk:k<t.M.length):jm t k (t.M.getD k bj).aJ.length=fO t (k+1):=by
 rw[Rs t hk];unfold jm mG;generalize t.M.getD k bj=o at *
 simp
def Zg (t:aa){j:Nat}(e:j<=(t.M.getD k bj).aJ.length):(jm t k j).length=(fO t k).length+1+j:=by
 unfold jm;generalize t.M.getD k bj=o at *
 simp;omega
def Rt {m:World}{Γ:List HP}(n:bn m a b c d vs t)(Q:Z m w0 Γ)(hn:t.M.length<=4096)(he:∀ i,i<t.M.length->(t.M.getD i bj).aJ.length<=64) :
  Calls ai 68 #[.agg #[a,b,c,d]] w0 fun e w'=>∃ s cs,e=.returned s/\gF m cs (jB t)/\Z w0 w' [X ap 23 s cs]:=by
 have D:=n.M;have F:=n.aH;obtain⟨ha,hb,hc,K⟩:=n.at Q;have j':=K.rs;have H':=K.len;have Y:=Z.start w0;refine bA an Tryz.func68 ?_
 repeat (first|refine du ?_|(refine gX ?_;clear Y;intro p w Y)|(refine fA ?_;clear Y;intro s w Y))
 obtain⟨R,rfl⟩:=À p;have N:gF m [c] (fO t 0):=by
  rw[Zh];refine⟨rfl,fun i g=>?_⟩;simp at g;subst g;rw[l9]
  simpa using F
 refine dQ [3,3,5,5,7,7,14,36] (G:=Nat) (H:=Value × List Value) (fun k x=>[(14,E k),(3,x.1)]) (fun k x w=>k<=t.M.length/\gF m x.2 (fO t k)/\Z w0 w [X ap 23 x.1 x.2,ak R 26 [a,b,c,d]]) (fun k x=>t.M.length-k) 0 (s,[c]) (fun _ _=>rfl) ⟨rfl,rfl,az⟩ ⟨bu _,N,Y⟩ ?_;clear Y;rintro σ k ⟨s,cs⟩ w ⟨hk,g,Y⟩;simp only at g Y;have J':=K9 t k hk he;have r:=g.1;refine aB ?_ ?_<;>intro h1
 ·have u:=K.dJ k U
  have S:=u.one;have h:=D.dJ k U;have o:=h.pre;have T:=u.pre;obtain⟨es,l⟩:=h.aJ;have q:=l.at Q;have V:=q.rs;have P':=q.len;have R':=he k U
  repeat (first|refine du ?_|(refine gX ?_;clear Y;intro p w Y)|(refine qB ?_;clear Y;intro w Y)|(refine fA ?_;clear Y;intro s w Y))
  have y:gF m (cs++[(au cd vs k).pre]) (jm t k 0):=by
   have:=g.eQ o
   simpa [jm] using this
  refine dQ [3,3,7,7,26,35] (G:=Nat) (H:=Value × List Value) (fun j x=>[(26,E j),(3,x.1)]) (fun j x w=>j<=(t.M.getD k bj).aJ.length/\gF m x.2 (jm t k j)/\Z w0 w [X ap 23 x.1 x.2,ak R 26 [a,b,c,d]]) (fun j x=>(t.M.getD k bj).aJ.length-j) 0 (s,cs++[(au cd vs k).pre]) (fun _ _=>rfl) ⟨rfl,rfl,az⟩ ⟨bu _,y,Y.tail.tail⟩ ?_;clear Y g r y;rintro T' j ⟨s2,z⟩ w ⟨hj,g,Y⟩;simp only at g Y;have V':=Zg t hj;have r:=g.1;refine aB ?_ ?_<;>intro h2
  ·have A:=q.dJ j U
   have P:=A.one;have _a:=A.bO;have B:=(l.dJ j U).bO
   repeat (first|refine du ?_|(refine gX ?_;clear Y;intro p w Y)|(refine qB ?_;clear Y;intro w Y)|(refine fA ?_;clear Y;intro s w Y))
   have C:=g.eQ B;rw[<-Ze t U]at C;exact⟨j+1,(s,z++[(au aV es j).bO]),⟨rfl,rfl,az⟩,aU,⟨U,C,Y.tail.tail⟩,U⟩
  have A:j=(t.M.getD k bj).aJ.length:=U;subst A;rw[Zf t U]at g;refine O ?_;exact⟨k+1,(s2,z),⟨rfl,rfl,az⟩,aU,⟨U,g,Y⟩,U⟩
 have h:k=t.M.length:=U;subst h;refine O ?_;exact bf (v:=s) rfl rfl ⟨s,cs,rfl,g,Y.only⟩
def Zi (g:RS aq w0 a f) :
  Calls ai 95 #[a] w0 fun e w'=>e=.returned (.bool (decide (64<(f.length:Int))))/\Z w0 w' []:=by
 have h:=g.bU;have Y:=Z.start w0;refine bA an Tryz.func95 ?_;refine O ?_;exact bf (v:=.bool (decide (64<(f.length:Int)))) rfl rfl ⟨rfl,Y⟩
def Zj (m:RS ap w0 a cs)(l:gF w0 cs L) :
  Calls ai 121 #[a,.func (.func 95) #[] #[]] w0 fun e w'=>(∃ r:Int,e=.returned (E r)/\(0<=r↔∃ i,i<L.length/\64<(L.getD i []).length))/\Z w0 w' []:=by
 have n:=m.bU;have o:=l.1;have Y:=Z.start w0;refine bA an Tryz.func121 ?_;refine O ?_;refine cP [4,5,8,18] (G:=Nat) (fun k=>[(8,E k)]) (fun k w=>k<=L.length/\(∀ i,i<k->(L.getD i []).length<=64)/\Z w0 w []) (fun k=>L.length-k) 0 (fun _=>rfl) ⟨rfl,az⟩ ⟨bu _,fun i j=>absurd j (dr _),Y⟩ ?_;clear Y;rintro q k w ⟨hk,g,Y⟩;refine aB ?_ ?_<;>intro h1
 ·refine O ?_
  refine wr (cs:=[]) rfl rfl (Zi ((l.2 k U).at Y)) ?_;rintro _ w' ⟨rfl,al⟩;refine aA ?_;clear al Y;intro Y;refine aB ?_ ?_<;>intro u
  ·refine O ?_
   exact bf (v:=E k) rfl rfl ⟨⟨k,rfl,⟨fun _=>⟨k,U,U⟩,fun _=>U⟩⟩,Y⟩
  refine O ?_;refine⟨k+1,⟨rfl,az⟩,aU,⟨U,fun i j=>?_,Y⟩,U⟩;by_cases h:i=k
  ·subst h;omega
  exact g i U
 refine O ?_;refine bf (v:=E (-1)) rfl rfl ⟨⟨-1,rfl,⟨fun h=>absurd h dc,fun⟨i,j,u⟩=>?_⟩⟩,Y⟩;have:=g i U;omega
def Zk (g:RS ap w0 a cs)(h:gF w0 cs L) :
  Calls ai 94 #[a,.func (.func 95) #[] #[]] w0 fun e w'=>(∃ r,e=.returned (.bool r)/\(r=true↔∃ i,i<L.length/\64<(L.getD i []).length))/\Z w0 w' []:=by
 have Y:=Z.start w0;refine bA an Tryz.func94 ?_;refine O ?_;refine aL rfl (Zj (g.at Y) (h.at Y)) ?_;rintro _ w' ⟨⟨r,rfl,j⟩,al⟩;refine aA ?_;clear al Y;intro Y;refine O ?_;refine bf (v:=.bool (decide (0<=r))) rfl rfl ⟨⟨_,rfl,?_⟩,Y⟩;rw[gQ,j]
def Zl (x:bn w0 a b c d vs t) :
  Calls ai 67 #[.agg #[a,b,c,d]] w0 fun e w'=>(∃ r,e=.returned (.bool r)/\(r=true↔gl t))/\Z w0 w' []:=by
 have o:=x;obtain⟨z,K,N,q⟩:=x;have u:=q.rs;have A:=q.len;have B:=z.bU;have C:=u.bU;have Y:=Z.start w0;refine bA an Tryz.func67 ?_;refine mg ?_ ?_<;>intro p w Y h1
 ·refine O ?_
  refine bf (v:=.bool true) rfl rfl ⟨⟨true,rfl,im ?_⟩,Y.tail⟩;unfold gl;omega
 refine O ?_;obtain⟨D,rfl⟩:=À p;refine cP [2,2,4,4,18,26] (G:=Nat) (fun k=>[(18,E k)]) (fun k w=>k<=t.M.length/\(∀ i,i<k->(t.M.getD i bj).aJ.length<=64)/\Z w0 w [ak D 26 [a,b,c,d]]) (fun k=>t.M.length-k) 0 (fun _=>rfl) ⟨rfl,az⟩ ⟨bu _,fun i n=>absurd n (dr _),Y⟩ ?_;clear Y;rintro P k w ⟨hk,g,Y⟩;refine aB ?_ ?_<;>intro Q
 ·have j:=q.dJ k U
  have y:=j.one;obtain⟨es,l⟩:=j.aJ;have m:=l.rs;have F:=l.len;have H:=m.bU;refine mg ?_ ?_<;>intro p w Y R
  ·refine O ?_
   refine bf (v:=.bool true) rfl rfl ⟨⟨true,rfl,im (.inr (.inr (.inl ⟨k,U,U⟩)))⟩,Y.tail.tail⟩
  refine O ?_;refine⟨k+1,⟨rfl,az⟩,aU,⟨U,fun i n=>?_,Y.tail⟩,U⟩;by_cases h:i=k
  ·subst h;omega
  exact g i U
 refine O ?_;refine aL rfl (Rt o Y U (fun i n=>g i U)) ?_;rintro _ w' ⟨s,cs,rfl,j,al⟩;refine aI ?_;clear al Y;intro Y;refine O ?_;refine aL rfl (Zk (a:=s) (bk Y) (j.at Y)) ?_;rintro _ w' ⟨⟨r,rfl,l⟩,al⟩;refine aA ?_;clear al Y;intro Y;refine O ?_;refine bf (v:=.bool r) rfl rfl ⟨⟨r,rfl,l.trans ⟨fun h=>.inr (.inr (.inr h)),fun h=>?_⟩⟩,Y.tail.tail⟩;rcases h with h|h|⟨i,n,h⟩|h
 ·omega
 ·omega
 ·have:=g i U;omega
 exact h
def Zm (h:gl t):bM t=5:=by simp[bM,h]
def Zn (h1:¬gl t)(h2:¬oO t):bM t=1:=by simp[bM,h1,h2]
def Zo (h1:¬gl t)(h2:oO t)(e:¬lH t):bM t=1:=by simp[bM,h1,h2,e]
def Zp (h1:¬gl t)(h2:oO t)(e:lH t)(g:¬ab t.vars t.cC):bM t=2:=by simp[bM,h1,h2,e,g]
def Zq (h1:¬gl t)(h2:oO t)(e:lH t)(g:ab t.vars t.cC)(h:¬mC t):bM t=2:=by simp[bM,h1,h2,e,g,h]
def Zr (h1:¬gl t)(h2:oO t)(e:lH t)(g:ab t.vars t.cC)(h:mC t)(i:¬uh t):bM t=2:=by simp[bM,h1,h2,e,g,h,i]
def Zt (h1:¬gl t)(h2:oO t)(e:lH t)(g:ab t.vars t.cC)(h:mC t)(i:uh t)(j:¬pM t):bM t=8:=by simp[bM,h1,h2,e,g,h,i,j]
def Zu (h1:¬gl t)(h2:oO t)(e:lH t)(g:ab t.vars t.cC)(h:mC t)(i:uh t)(j:pM t):bM t=0:=by simp[bM,h1,h2,e,g,h,i,j]
def tC (ht:bn w0 a b c d vs t) :
  Calls ai 42 #[.agg #[a,b,c,d]] w0 fun e w'=>e=.returned (bI (bM t))/\Z w0 w' []:=by
 have H:=ht;obtain⟨T,hb,hc,K⟩:=ht;have j':=K.rs;have T':=K.len;have V':=T.bU;have _a:=j'.bU;have Y:=Z.start w0;refine bA an Tryz.func42 ?_;refine eE ?_;intro D w Y;refine aL rfl (Zl (H.at Y)) ?_;rintro _ w' ⟨⟨r,rfl,hr⟩,al⟩;refine aA ?_;clear al Y;intro Y
 cases r with
 | true =>
  refine O ?_
  exact bf (v:=.iface 57 (E 5)) rfl rfl ⟨by rw[Zm (hr.1 rfl)];rfl,Y.tail⟩
 | false =>
  have h1:¬gl t:=fun h=>by have:=hr.2 h;cases this
  have H':t.M.length<=4096:=DC fun h=>h1 (.inr (.inl h));have N:∀ i,i<t.M.length->(t.M.getD i bj).aJ.length<=64:=fun i g=>DC fun h=>h1 (.inr (.inr (.inl ⟨i,g,h⟩)));refine O ?_;refine cP [2,2,4,4,21,32] (G:=Nat) (fun k=>[(21,E k)]) (fun k w=>k<=t.vars.length/\(∀ i,i<k->1<=t.vars.getD i W.dflt/\t.vars.getD i W.dflt<=64)/\Z w0 w [ak D 26 [a,b,c,d]]) (fun k=>t.vars.length-k) 0 (fun _=>rfl) ⟨rfl,az⟩ ⟨bu _,fun i g=>absurd g (dr _),Y⟩ ?_;clear Y;rintro σ k w ⟨hk,u,Y⟩;refine aB ?_ ?_<;>intro o
  ·refine aB ?_ ?_<;>intro h3
   ·refine O ?_
    have l:¬oO t:=fun h=>by have:=h k U;omega
    exact bf (v:=.iface 57 (E 1)) rfl rfl ⟨by rw[Zn h1 l];rfl,Y.tail⟩
   refine O ?_;refine⟨k+1,⟨rfl,az⟩,aU,⟨U,fun i g=>?_,Y⟩,U⟩;by_cases h:i=k
   ·subst h;omega
   exact u i U
  have F:oO t:=fun i g=>u i U;clear u o hk;refine O ?_;refine cP [2,2,6,6,36,49] (G:=Nat) (fun k=>[(36,E k)]) (fun k w=>k<=t.M.length/\(∀ i,i<k->0<=(t.M.getD i bj).aN/\(t.M.getD i bj).aN<=1048576)/\Z w0 w [ak D 26 [a,b,c,d]]) (fun k=>t.M.length-k) 0 (fun _=>rfl) ⟨rfl,az⟩ ⟨bu _,fun i g=>absurd g (dr _),Y⟩ ?_;clear Y;rintro _b k w ⟨hk,x,Y⟩;refine aB ?_ ?_<;>intro o
  ·have m:=K.dJ k U
   have q:=m.one;have j:=m.aN;refine mg ?_ ?_<;>intro p w Y h3
   ·refine O ?_
    have l:¬lH t:=fun h=>by have:=h k U;omega
    exact bf (v:=.iface 57 (E 1)) rfl rfl ⟨by rw[Zo h1 F l];rfl,Y.tail.tail⟩
   refine O ?_;refine⟨k+1,⟨rfl,az⟩,aU,⟨U,fun i g=>?_,Y.tail⟩,U⟩;by_cases h:i=k
   ·subst h;omega
   exact x i U
  have P:lH t:=fun i g=>x i U;clear x o hk;refine O ?_;refine aL rfl (xR (a:=a) (b:=b) (T.at Y) (hb.at Y)) ?_;rintro _ w' ⟨⟨r,rfl,Q⟩,al⟩;refine aA ?_;clear al Y;intro Y
  cases r with
  | false =>
   refine O ?_;have l:¬ab t.vars t.cC:=fun h=>by have:=Q.2 h;cases this
   exact bf (v:=.iface 57 (E 2)) rfl rfl ⟨by rw[Zp h1 F P l];rfl,Y.tail⟩
  | true =>
   have V:=Q.1 rfl;refine O ?_;refine aL rfl (Rt H Y H' N) ?_;rintro _ w' ⟨s,cs,rfl,y,al⟩;replace Y:=Y.mu al;clear al;have J':=y.1;have _c:=K9 t t.M.length (cD _) N;have _d:(jB t).length=(fO t t.M.length).length:=rfl;refine⟨_,rfl,?_⟩;refine O ?_;refine cP [2,2,8,8,60,70] (G:=Nat) (fun k=>[(60,E k)]) (fun k w=>k<=(jB t).length/\(∀ i,i<k->dm t.vars ((jB t).getD i []))/\Z w0 w [X ap 23 s cs,ak D 26 [a,b,c,d]]) (fun k=>(jB t).length-k) 0 (fun _=>rfl) ⟨rfl,az⟩ ⟨bu _,fun i g=>absurd g (dr _),Y⟩ ?_;clear Y;rintro _e k w ⟨hk,z,Y⟩;refine aB ?_ ?_<;>intro o
   ·refine O ?_
    refine aL rfl (Rq (a:=a) (b:=cG cs k) (T.at Y) ((y.2 k U).at Y)) ?_;rintro _ w' ⟨⟨r,rfl,n⟩,al⟩;refine aA ?_;clear al Y;intro Y
    cases r with
    | false =>
     refine O ?_;have l:¬mC t:=fun h=>by have:=n.2 (h k U);cases this
     exact bf (v:=.iface 57 (E 2)) rfl rfl ⟨by rw[Zq h1 F P V l];rfl,Y.tail.tail⟩
    | true =>
     refine O ?_;refine⟨k+1,⟨rfl,az⟩,aU,⟨U,fun i g=>?_,Y⟩,U⟩;by_cases h:i=k
     ·subst h;exact n.1 rfl
     exact z i U
   have hK:mC t:=fun i g=>z i U;replace Y:=Y.tail;clear z o hk J' y;refine O ?_;refine cP [2,2,10,10,12,12,74,97] (G:=Nat) (fun k=>[(74,E k)]) (fun k w=>k<=t.M.length/\(∀ i,i<k->∀ j,j<(t.M.getD i bj).aJ.length->dm t.vars [⟨((t.M.getD i bj).aJ.getD j bE).var,((t.M.getD i bj).aJ.getD j bE).val⟩])/\Z w0 w [ak D 26 [a,b,c,d]]) (fun k=>t.M.length-k) 0 (fun _=>rfl) ⟨rfl,az⟩ ⟨bu _,fun i g=>absurd g (dr _),Y⟩ ?_;clear Y;rintro _f k w ⟨hk,A,Y⟩;refine aB ?_ ?_<;>intro o
   ·have m:=K.dJ k U
    have q:=m.one;obtain⟨es,B⟩:=m.aJ;have R:=B.rs;have _g:=B.len;have _h:=R.bU;refine eE ?_;intro p w Y;refine cP [2,2,12,12,81,96] (G:=Nat) (fun j=>[(81,E j)]) (fun j w=>j<=(t.M.getD k bj).aJ.length/\(∀ i,i<j->dm t.vars [⟨((t.M.getD k bj).aJ.getD i bE).var,((t.M.getD k bj).aJ.getD i bE).val⟩])/\Z w0 w [ak D 26 [a,b,c,d]]) (fun j=>(t.M.getD k bj).aJ.length-j) 0 (fun _=>rfl) ⟨rfl,az⟩ ⟨bu _,fun i g=>absurd g (dr _),Y.tail⟩ ?_;clear Y;rintro P' j w ⟨hj,S,Y⟩;refine aB ?_ ?_<;>intro h3
    ·have C:=B.dJ j U
     have R':=C.one;refine eE ?_;intro p w Y;refine jK aq (x1:=⟨(au aV es j).var,(au aV es j).val⟩) rfl rfl rfl (fY rfl) (fe _) Y ?_;clear Y;intro s w Y;refine O ?_;refine aL rfl (Rq (a:=a) (b:=s) (T.at Y) (bk Y)) ?_;rintro _ w' ⟨⟨r,rfl,n⟩,al⟩;replace Y:=Y.cy al;clear al;rw[C.var,C.val]at n;refine⟨_,rfl,?_⟩
     cases r with
     | false =>
      refine O ?_;have l:¬uh t:=fun h=>by have:=n.2 (h k U j U);cases this
      exact bf (v:=.iface 57 (E 2)) rfl rfl ⟨by rw[Zr h1 F P V hK l];rfl,Y.tail.tail.tail⟩
     | true =>
      refine O ?_;refine⟨j+1,⟨rfl,az⟩,aU,⟨U,fun i g=>?_,Y.tail.tail⟩,U⟩;by_cases h:i=j
      ·subst h;exact n.1 rfl
      exact S i U
    refine O ?_;refine⟨k+1,⟨rfl,az⟩,aU,⟨U,fun i g=>?_,Y⟩,U⟩;by_cases h:i=k
    ·subst h;exact fun C R'=>S C U
    exact A i U
   have C:uh t:=fun i g=>A i U;clear A o hk;refine O ?_;refine cP [2,2,14,14,101,110] (G:=Nat) (fun k=>[(101,E k)]) (fun k w=>k<=t.M.length/\(∀ i,i<k->pL (t.M.getD i bj).name)/\Z w0 w [ak D 26 [a,b,c,d]]) (fun k=>t.M.length-k) 0 (fun _=>rfl) ⟨rfl,az⟩ ⟨bu _,fun i g=>absurd g (dr _),Y⟩ ?_;clear Y;rintro P' k w ⟨hk,B,Y⟩;refine aB ?_ ?_<;>intro o
   ·have m:=K.dJ k U
    have q:=m.one;refine eE ?_;intro p w Y;refine aL rfl (Zd (b:=(au cd vs k).name) (by rw[m.name];exact m.size)) ?_;rintro _ w' ⟨⟨r,rfl,n⟩,al⟩;replace Y:=Y.cy al;clear al;rw[m.name]at n;refine⟨_,rfl,?_⟩
    cases r with
    | false =>
     refine O ?_;have l:¬pM t:=fun h=>by have:=n.2 (h k U);cases this
     exact bf (v:=.iface 57 (E 8)) rfl rfl ⟨by rw[Zt h1 F P V hK C l];rfl,Y.tail.tail⟩
    | true =>
     refine O ?_;refine⟨k+1,⟨rfl,az⟩,aU,⟨U,fun i g=>?_,Y.tail⟩,U⟩;by_cases h:i=k
     ·subst h;exact n.1 rfl
     exact B i U
   refine O ?_;exact bf (v:=.nilIface) rfl rfl ⟨by rw[Zu h1 F P V hK C fun i g=>B i U];rfl,Y.tail⟩
def Zv (e:xs.length=ys.length)(h:∀ i,i<xs.length->xs.getD i W.dflt=ys.getD i W.dflt):xs=ys:=by
 apply iB e;intro i h1 g;have:=h i h1
 rwa[am h1,am g]at this
def Pe (l:RS W w0 a xs)(m:RS W w0 b ys) :
  Calls ai 50 #[a,b] w0 fun e w'=>(∃ r,e=.returned (.bool r)/\(r=true↔xs=ys))/\Z w0 w' []:=by
 have n:=l.bU;have o:=m.bU;have Y:=Z.start w0;refine bA an Tryz.func50 ?_;refine aB ?_ ?_<;>intro u
 ·refine O ?_
  refine bf (v:=.bool false) rfl rfl ⟨⟨false,rfl,cL fun h=>?_⟩,Y⟩;subst h;omega
 refine O ?_;refine cP [4,5,13,25] (G:=Nat) (fun k=>[(13,E k)]) (fun k w=>k<=xs.length/\(∀ i,i<k->xs.getD i W.dflt=ys.getD i W.dflt)/\Z w0 w []) (fun k=>xs.length-k) 0 (fun _=>rfl) ⟨rfl,az⟩ ⟨bu _,fun i j=>absurd j (dr _),Y⟩ ?_;clear Y;rintro x k w ⟨hk,g,Y⟩;refine aB ?_ ?_<;>intro h1
 ·refine vJ ?_ ?_<;>intro w Y q
  ·refine O ?_
   refine bf (v:=.bool false) rfl rfl ⟨⟨false,rfl,cL fun h=>?_⟩,Y⟩;subst h;exact q rfl
  refine O ?_;refine⟨k+1,⟨rfl,az⟩,aU,⟨U,fun i j=>?_,Y⟩,U⟩;by_cases h:i=k
  ·subst h;omega
  exact g i U
 refine O ?_;exact bf (v:=.bool true) rfl rfl ⟨⟨true,rfl,im (Zv U fun i j=>g i U)⟩,Y⟩
def kT (c d:Int) :
  Calls ai 25 #[bI c,E d] w0 fun e w'=>e=.returned (.bool (decide (c≠0/\c=d)))/\Z w0 w' []:=by
 have Y:=Z.start w0;by_cases g:c=0
 ·subst g
  refine bA an Tryz.func25 ?_;refine O ?_;exact bf (v:=.bool false) rfl rfl ⟨rfl,Y⟩
 have h:=Y9 (w0:=w0) c;rw[cS g]at h ⊢;refine bA an Tryz.func25 ?_;refine O ?_;refine aL rfl h ?_;rintro _ w' ⟨rfl,al⟩;refine aA ?_;clear al Y;intro Y;refine O ?_;exact bf (v:=.bool (decide (c=d))) rfl rfl ⟨by simp[g],Y⟩
def Zw {n k m:Int}(i:1<=n)(hk:1<=k)(hm:n<=m)(j:m<=65536):let x:=n*(if m+1<(if 0>k then 0 else k) then m+1 else (if 0>k then 0 else k))
  0<=x/\x<=4295098368/\(x<=m->x=n*k)/\(m<x->m<n*k):=by
 intro x;have e:x=n*min k (m+1):=by
  show n*(if m+1<(if 0>k then 0 else k) then m+1 else (if 0>k then 0 else k))=_;have g:(if 0>k then 0 else k)=k:=aC U;rw[g];congr 1;split<;>omega
 have l:n*min k (m+1)<=65536*65537:=yx U U U U;have o:0<=n*min k (m+1):=sj U U;refine⟨U,U,fun h=>?_,fun h=>?_⟩
 ·rw[e]at h ⊢
  by_cases g:k<=m+1
  ·rw[Int.min_eq_left g]
  rw[Int.min_eq_right U]at h;have:1*(m+1)<=n*(m+1):=xV i U;omega
 rw[e]at h;have:n*min k (m+1)<=n*k:=GB U U;omega
def qP (vars:J)(m:Int):Int:=if bY vars<=m then bY vars else m+1
def Ru {vars:J}{m:Int}(u:RS W w0 a vars)(j:∀ x∈vars,1<=x)(q:1<=m)(r:m<=65536) :
  Calls ai 8 #[a,E m] w0 fun e w'=>e=.returned (E (qP vars m))/\Z w0 w' []:=by
 have y:=u.bU;have Y:=Z.start w0;refine bA an Tryz.func8 ?_;refine O ?_;refine dQ [4,5,7,7,10,26] (G:=Nat) (H:=Int) (fun k n=>[(10,E k),(5,E n)]) (fun k n w=>k<=vars.length/\n=bY (vars.take k)/\n<=m/\Z w0 w []) (fun k _=>vars.length-k) 0 1 (fun _ _=>rfl) ⟨rfl,rfl,az⟩ ⟨bu _,rfl,q,Y⟩ ?_;clear Y;rintro C k n w ⟨hk,o,g,Y⟩;refine aB ?_ ?_<;>intro h1
 ·have h:k<vars.length:=U
  have hx:=j _ (cH W.dflt h);have i:1<=n:=by rw[o];exact yy fun x hx=>j x (pO hx)
  obtain⟨D,F,z,A⟩:=Zw i hx g r;have B:bY (vars.take (k+1))=n*vars.getD k W.dflt:=by rw[eC W.dflt h,yz,o]
  refine aB ?_ ?_<;>intro K
  ·refine O ?_
   refine bf (v:=E (m+1)) rfl rfl ⟨?_,Y⟩;have N:=A U;have P:bY (vars.take (k+1))<=bY vars:=by
    have:=Rv (l:=vars.take (k+1)) (m:=vars.drop (k+1)) (fun x hx=>j x (Kk hx)) (fun x hx=>j x (pO hx))
    rwa[yF]at this
   rw[qP,aC U]
  refine O ?_;refine⟨k+1,_,⟨rfl,rfl,az⟩,aU,⟨U,?_,U,Y⟩,U⟩;rw[B];exact z U
 refine O ?_;refine bf (v:=E n) rfl rfl ⟨?_,Y⟩;rw[gH U]at o;rw[qP,<-o,aM g]
def Rx (y:bn w0 a b c d vs t) :
  Calls ai 18 #[.agg #[a,b,c,d]] w0 fun e w'=>(∃ r,e=.returned (.bool r)/\(r=true↔fy t))/\Z w0 w' []:=by
 have o:=y;obtain⟨z,N,P,q⟩:=y;have u:=q.rs;have B:=q.len;have C:=z.bU;have D:=u.bU;have Y:=Z.start w0;refine bA an Tryz.func18 ?_;refine mg ?_ ?_<;>intro p w Y h1
 ·refine O ?_
  refine bf (v:=.bool false) rfl rfl ⟨⟨false,rfl,cL fun h=>?_⟩,Y.tail⟩;have:=h.vars;have:=h.M;omega
 refine O ?_;obtain⟨F,rfl⟩:=À p;refine cP [2,2,4,4,18,26] (G:=Nat) (fun k=>[(18,E k)]) (fun k w=>k<=t.M.length/\(∀ i,i<k->(t.M.getD i bj).aJ.length<=8)/\Z w0 w [ak F 26 [a,b,c,d]]) (fun k=>t.M.length-k) 0 (fun _=>rfl) ⟨rfl,az⟩ ⟨bu _,fun i x=>absurd x (dr _),Y⟩ ?_;clear Y;rintro Q k w ⟨hk,g,Y⟩;refine aB ?_ ?_<;>intro R
 ·have j:=q.dJ k U
  have A:=j.one;obtain⟨es,l⟩:=j.aJ;have n:=l.rs;have H:=l.len;have K:=n.bU;refine mg ?_ ?_<;>intro p w Y S
  ·refine O ?_
   refine bf (v:=.bool false) rfl rfl ⟨⟨false,rfl,cL fun h=>?_⟩,Y.tail.tail⟩;have:=h.aJ k U;omega
  refine O ?_;refine⟨k+1,⟨rfl,az⟩,aU,⟨U,fun i x=>?_,Y.tail⟩,U⟩;by_cases h:i=k
  ·subst h;omega
  exact g i U
 refine O ?_;refine aL rfl (Zc (o.at Y)) ?_;rintro _ w' ⟨⟨r,rfl,j⟩,al⟩;refine aA ?_;clear al Y;intro Y
 cases r with
 | false =>
  refine O ?_;refine bf (v:=.bool false) rfl rfl ⟨⟨false,rfl,cL fun h=>?_⟩,Y.tail⟩;have:=j.2 h.cZ
  cases this
 | true =>
  have I:=j.1 rfl;refine O ?_;refine aL rfl (Ru (m:=512) (z.at Y) I.pos dc dc) ?_;rintro _ w' ⟨rfl,al⟩;refine aA ?_;clear al Y;intro Y;refine O ?_;refine bf (v:=.bool (decide (qP t.vars 512<=512))) rfl rfl ⟨⟨_,rfl,?_⟩,Y.tail⟩;rw[gQ,qP];constructor
  ·intro h
   exact⟨I,U,U,fun i x=>g i U,by split at h<;>omega⟩
  intro h;rw[aM h.many];exact h.many
def ab.take {vars s:J}(h:ab vars s)(k:Nat):ab (vars.take k) (s.take k):=by
 refine⟨by simp[h.1],fun i e=>?_⟩;simp only[jd]at e;have:=h.2 i U;simp only[iD]at this ⊢
 rwa[getElem?_take_of_lt U,getElem?_take_of_lt U]
def DI {l:J}(h:∀ x∈l,1<=x)(k:Nat):bY (l.take k)<=bY l:=by
 have:=Rv (l:=l.take k) (m:=l.drop k) (fun x hx=>h x (Kk hx)) (fun x hx=>h x (pO hx))
 rwa[yF]at this
def OW {vars:J}(h:ab vars s)(hk:k<s.length):fE (vars.take (k+1)) (s.take (k+1))=fE (vars.take k) (s.take k)*vars.getD k W.dflt+s.getD k W.dflt:=by
 rw[eC W.dflt hk,eC W.dflt (show k<vars.length by rw[<-h.1];exact hk),La (by simp[h.1])]
def Wp {vars:J}(h:ab vars s)(e:∀ x∈vars,1<=x)(hk:k<s.length):0<=fE (vars.take k) (s.take k)*vars.getD k W.dflt/\fE (vars.take k) (s.take k)*vars.getD k W.dflt+s.getD k W.dflt<bY vars:=by
 have h1:=(Cd (h.take k)).1;have i:=h.2 k hk;have g:=(Cd (h.take (k+1))).2;rw[OW h hk]at g;have j:=DI e (k+1);exact⟨sj h1 U,U⟩
end
end Go.Proofs.YtmapkjoefdgjfaaGreatDoor
