/- Several texts. -/
import Derived.Sort.Defs
import Derived.Lib.ItoaNum
import Derived.Test.YtmapkjoefdgjfaaGreatDoorMSlBH
import Derived.Sort.AssemblyPlain
import Derived.Shelf.SlSortCmp.Insertion
import Derived.Lib.ItoaMem
set_option linter.unusedSimpArgs false
set_option linter.unusedVariables false
set_option linter.defProp false
set_option maxRecDepth 8000
set_option maxHeartbeats 16000000
open List Nat
namespace Go.Proofs.YtmapkjoefdgjfaaGreatDoor
open Go.Sl
variable {b den:Int}{j P1 R1 y:Nat}{s' acc out':J}{ds:List (Int × Int)}
section
open Go.Sl
structure bE where
 var:Int
 val:Int
 deriving DecidableEq
def aD:Ty bE:=⟨2,fun f=>[E f.var,E f.val],fun _=>rfl,⟨0,0⟩⟩
instance Hu:lU aD:=⟨fun x v hv=>by simp only[aD,gT,jd,pQ]at hv;rcases hv with rfl|rfl<;>rfl⟩
structure mr where
 cb:List bE
 var:Int
 val:Int
structure mM where
 name:ByteArray
 aT:Int
 pre:List bE
 aQ:List mr
structure aa where
 vars:J
 dt:J
 aF:List bE
 M:List mM
structure lG where
 cb:Value
 var:Int
 val:Int
def bm:Ty lG:=⟨3,fun e=>[e.cb,E e.var,E e.val],fun _=>rfl,⟨nS,0,0⟩⟩
structure kq where
 name:ByteArray
 aT:Int
 pre:Value
 aQ:Value
def cN:Ty kq:=⟨4,fun o=>[.string o.name,E o.aT,o.pre,o.aQ],fun _=>rfl,⟨ByteArray.empty,0,nS,nS⟩⟩
instance Hv:nR bm:=⟨az⟩
instance Hw:nR cN:=⟨az⟩
def bQ:mr:=⟨[],0,0⟩
def bz:mM:=⟨ByteArray.empty,0,[],[]⟩
structure sZ (w:World) (v:lG) (e:mr):Prop where
 var:v.var=e.var
 val:v.val=e.val
 cb:RS aD w v.cb e.cb
structure mQ (w:World) (s:Value) (vs:List lG) (es:List mr):Prop where
 rs:RS bm w s vs
 len:vs.length=es.length
 eI:∀ i,i<es.length->sZ w (aB bm vs i) (es.getD i bQ)
structure sK (w:World) (v:kq) (o:mM):Prop where
 name:v.name=o.name
 size:o.name.size<=9223372036854775807
 aT:v.aT=o.aT
 pre:RS aD w v.pre o.pre
 aQ:∃ vs,mQ w v.aQ vs o.aQ
structure vE (w:World) (s:Value) (vs:List kq) (os:List mM):Prop where
 rs:RS cN w s vs
 len:vs.length=os.length
 eI:∀ i,i<os.length->sK w (aB cN vs i) (os.getD i bz)
structure bR (w:World) (a b c d:Value) (vs:List kq) (t:aa):Prop where
 vars:RS W w a t.vars
 dt:RS W w b t.dt
 aF:RS aD w c t.aF
 M:vE w d vs t.M
def sZ.one {w:World}{v:lG}{e:mr}(h:sZ w v e):(bm.enc v).all Value.oneCell'=true:=by
 simp only[bm,fo,fB,Iu,h.cb.one];rfl
def sK.one {w:World}{v:kq}{o:mM}(h:sK w v o):(cN.enc v).all Value.oneCell'=true:=by
 obtain⟨z,he⟩:=h.aQ;simp only[cN,fo,fB,Iu,h.pre.one,he.rs.one];rfl
def mQ.at {w0 w:World}{Γ:List HP}{s:Value}{vs:List lG}{es:List mr}(h:mQ w0 s vs es)(Y:Z w0 w Γ):mQ w s vs es :=
 ⟨h.rs.at Y,h.len,fun i o=>⟨(h.eI i o).var,(h.eI i o).val,(h.eI i o).cb.at Y⟩⟩
def sK.at {w0 w:World}{Γ:List HP}{v:kq}{o:mM}(h:sK w0 v o)(Y:Z w0 w Γ):sK w v o :=
 ⟨h.name,h.size,h.aT,h.pre.at Y,let ⟨z,he⟩:=h.aQ;⟨z,he.at Y⟩⟩
def vE.at {w0 w:World}{Γ:List HP}{s:Value}{vs:List kq}{os:List mM}(h:vE w0 s vs os)(Y:Z w0 w Γ):vE w s vs os :=
 ⟨h.rs.at Y,h.len,fun i o=>(h.eI i o).at Y⟩
def bR.at {w0 w:World}{Γ:List HP}{a b c d:Value}{vs:List kq}{t:aa}(h:bR w0 a b c d vs t)(Y:Z w0 w Γ):bR w a b c d vs t :=
 ⟨h.vars.at Y,h.dt.at Y,h.aF.at Y,h.M.at Y⟩
def cS {α:Type}{xs:List α}{i:Nat}(d:α)(h:i<xs.length):xs.getD i d∈xs:=by grind
def aq {α:Type}{l:List α}{d:α}{i:Nat}(h:i<l.length):l.getD i d=l[i]:=by grind
def dU {p:Prop}(h:¬p):(false=true)↔p:=⟨(fun e=>by cases e),fun e=>absurd e h⟩
def js {p:Prop}(h:p):(true=true)↔p:=⟨fun _=>h,fun _=>rfl⟩
def aj (vars s:J):Prop:=s.length=vars.length/\∀ i,i<s.length->0<=s.getD i W.dflt/\s.getD i W.dflt<vars.getD i W.dflt
def bV (vars:J)(x:bE):Prop:=0<=x.var/\x.var<vars.length/\0<=x.val/\x.val<vars.getD x.var.toNat W.dflt
def dN (vars:J)(f:List bE):Prop:=∀ i,i<f.length->bV vars (f.getD i aD.dflt)/\(0<i->(f.getD (i-1) aD.dflt).var<(f.getD i aD.dflt).var)
def rC (b:ByteArray):Prop:=b.size<=256/\∀ i,i<b.size->32<=As b i/\As b i<=126
def iQ (vars:J)(e:mr):Prop:=dN vars e.cb/\dN vars [⟨e.var,e.val⟩]
structure vG (vars:J) (o:mM):Prop where
 l9:0<=o.aT
 pG:o.aT<=1048576
 aQ:o.aQ.length<=64
 name:rC o.name
 pre:dN vars o.pre
 fS:∀ i,i<o.aQ.length->iQ vars (o.aQ.getD i bQ)
structure aJ (t:aa):Prop where
 vars:t.vars.length<=64
 M:t.M.length<=4096
 pC:∀ i,i<t.vars.length->1<=t.vars.getD i W.dflt/\t.vars.getD i W.dflt<=64
 dt:aj t.vars t.dt
 aF:dN t.vars t.aF
 op:∀ i,i<t.M.length->vG t.vars (t.M.getD i bz)
def cZ (vars:J):Int:=vars.foldl (·*·) 1
structure fx (t:aa):Prop where
 dJ:aJ t
 vars:t.vars.length<=12
 M:t.M.length<=20
 aQ:∀ i,i<t.M.length->(t.M.getD i bz).aQ.length<=8
 many:cZ t.vars<=512
def jh (s:J)(x:bE):Prop:=0<=x.var/\x.var<s.length/\s.getD x.var.toNat W.dflt=x.val
def cE (s:J)(f:List bE):Prop:=∀ i,i<f.length->jh s (f.getD i aD.dflt)
def BH (l:J)(x:Int):cZ (l++[x])=cZ l*x:=by simp[cZ]
def eX {α:Type}{l:List α}{k:Nat}(d:α)(h:k<l.length):l.take (k+1)=l.take k++[l.getD k d]:=by
 simp_all
def Bl {l:J}(h:∀ x∈l,1<=x):1<=cZ l:=by
 have key:∀ (l:J) (a:Int),1<=a->(∀ x∈l,1<=x)->1<=l.foldl (·*·) a:=by
  intro l
  induction l with
  | nil=>grind
  | cons x l z =>
   intro a F o;refine z (a*x) ?_ fun y K=>o y (nt _ K);have hx:=o x ku;have:=w9 F hx U U;omega
 exact key l 1 (iq _) h
def T3 {l m:J}(hm:∀ x∈m,1<=x)(o:∀ x∈l,1<=x):cZ l<=cZ (l++m):=by
 induction m generalizing l with
 | nil=>simp
 | cons x m z =>
  have h1:=z (l:=l++[x]) (fun y h=>hm y (nt _ h)) (fun y h=>by
   grind )
  rw[BH]at h1;have K:=Bl o;have F:=hm x ku;have L:cZ l*1<=cZ l*x:=Ii F U
  grind
def mN (ds:List (Int × Int)):Int:=ds.foldl (fun n d=>n*d.1+d.2) 0
def JM (l:List (Int × Int))(d:Int × Int):mN (l++[d])=mN l*d.1+d.2:=by simp[mN]
def rz (ds:List (Int × Int)):Prop:=∀ d∈ds,0<=d.2/\d.2<d.1
def pE {α:Type}{P:List α->Prop}(z:P [])(h1:∀ l x,P l->P (l++[x]))(l:List α):P l:=by
 have:∀ n,∀ l:List α,l.length=n->P l:=by
  intro n
  induction n with
  | zero=>grind
  | succ n F =>
   intro l K;have o:l≠[]:=fun h=>by grind
   rw[<-L5 o]
   grind
 grind
def ϸ:rz ds->0<=mN ds/\mN ds<cZ (ds.map (·.1)):=by
 refine pE (P:=fun ds=>rz ds->0<=mN ds/\mN ds<cZ (ds.map (·.1))) ?_ ?_ ds
 ·intro _;decide
 intro l d o h;obtain⟨a,b⟩:=o fun x hx=>h x (L6 _ hx);obtain⟨c,e⟩:=h d (LN _ (fU.2 rfl));rw[JM,qG,pV,uL,BH];have h1:0<=mN l*d.1:=vX a U;have z:(mN l+1)*d.1<=cZ (l.map (·.1))*d.1:=zF U U
 grind
def Ϲ:∀ {es:List (Int × Int)},rz ds->rz es->ds.map (·.1)=es.map (·.1)->mN ds=mN es->ds=es:=by
 refine pE (P:=fun ds=>∀ {es:List (Int × Int)},rz ds->rz es->ds.map (·.1)=es.map (·.1)->mN ds=mN es->ds=es) ?_ ?_ ds
 ·simp_all
 intro l d ih es h1 L hm he;have z:es≠[]:=fun h=>by simp[h]at hm
 obtain⟨m,f,rfl⟩:∃ m f,es=m++[f]:=⟨_,_,(L5 z).symm⟩
 simp only[qG,pV,uL]at hm;obtain⟨F,K⟩:=append_inj' hm rfl;have o:d.1=f.1:=by simpa using K
 rw[JM,JM]at he;obtain⟨a,b⟩:=h1 d sm;obtain⟨a',b'⟩:=L f sm;have hq:mN l=mN m:=by
  have V:(mN l*d.1+d.2) / d.1=mN l:=by
   rw[FC,RU _ _ U,RV a b];omega
  have e2:(mN m*f.1+f.2) / f.1=mN m:=by
   rw[FC,RU _ _ U,RV a' b'];omega
  rw[he,o,e2]at V;exact V.symm
 rw[hq,o]at he;have:d.2=f.2:=U;rw[ih (fun x hx=>h1 x (by simp[hx])) (fun x hx=>L x (by simp[hx])) F hq,HE o this]
def dO (vars s:J):Int:=mN (vars.zip s)
def M3 {vars s:J}(h:s.length=vars.length)(k x:Int):dO (vars++[k]) (s++[x])=dO vars s*k+x:=by
 unfold dO;rw[zip_append h.symm,zip_cons_cons,zip_nil_right,JM]
def aj.N3 {vars s:J}(h:aj vars s):rz (vars.zip s):=by
 intro d o;obtain⟨i,z,rfl⟩:=ga o;rw[length_zip]at z;have:=h.2 i U
 grind
def tz {a b:J}(h:b.length=a.length):(a.zip b).map (·.1)=a:=by
 have:=map_fst_zip (l₁:=a) (l₂:=b) U;exact this
def zO {vars s:J}(h:aj vars s):0<=dO vars s/\dO vars s<cZ vars:=by
 have:=ϸ h.N3
 rwa[tz h.1]at this
def A9 {a b c:J}(h1:b.length=a.length)(h2:c.length=a.length)(h:a.zip b=a.zip c):b=c:=by
 have o:=map_snd_zip (l₁:=a) (l₂:=b) U;have z:=map_snd_zip (l₁:=a) (l₂:=c) U
 grind
def VH {vars s u:J}(h:aj vars s)(k:aj vars u)(e:dO vars s=dO vars u):s=u :=
 A9 h.1 k.1 (Ϲ h.N3 k.N3 (by rw[tz h.1,tz k.1]) e)
def ka (out:List J)(k:Int):List J:=out.flatMap fun s=>(List.range k.toNat).map fun (x:Nat)=>s++[(x:Int)]
def aP (vars:J):List J:=vars.foldl ka [[]]
def Nd (vars:J)(k:Int):aP (vars++[k])=ka (aP vars) k:=by simp[aP]
def Ϻ (n k:Nat):(List.range n).flatMap (fun r=>(List.range k).map fun x=>r*k+x)=List.range (n*k):=by
 induction n with
 | zero=>simp
 | succ n h=>rw[lN,ya,h,z6,range_add];simp
def ϻ {α β:Type}{l:List α}{f g:α->List β}(h:∀ x∈l,f x=g x):l.flatMap f=l.flatMap g:=by
 induction l with
 | nil=>rfl
 | cons x l o=>grind
def qlt {vars s:J}{k x:Int}(h:aj vars s)(F:0<=x)(h1:x<k):aj (vars++[k]) (s++[x]):=by
 refine⟨by simp[h.1],fun i o=>?_⟩;simp only[length_append,length_cons,length_nil]at o;simp only[ow];by_cases e:i<s.length
 ·rw[mu e,mu (by rw[<-h.1];exact e)]
  simpa only[ow] using h.2 i e
 have z:i=s.length:=U;subst z;rw[lP (cP _),lP (by rw[h.1];omega),h.1]
 grind
def qiu {vars s:J}{k:Int}(h:aj (vars++[k]) s):∃ s' x,s=s'++[x]/\aj vars s'/\0<=x/\x<k:=by
 have z:=h.1;simp only[length_append,length_cons,length_nil]at z;have o:s≠[]:=fun e=>by grind
 refine⟨s.dropLast,s.getLast o,(L5 o).symm,?_,?_⟩
 ·refine⟨by simp;omega,fun i F=>?_⟩
  simp only[length_dropLast]at F;have:=h.2 i U
  grind
 have:=h.2 (s.length-1) U
 grind
def Jn {vars:J}:∀ {s:J},s∈aP vars↔aj vars s:=by
 refine pE (P:=fun vars=>∀ {s:J},s∈aP vars↔aj vars s) ?_ ?_ vars
 ·intro s
  simp only[aP,foldl_nil,fU];constructor
  ·rintro rfl;exact⟨rfl,fun i o=>absurd o (eo _)⟩
  intro h;exact length_eq_zero_iff.1 h.1
 intro l k z s;rw[Nd,ka,tN];constructor
 ·rintro⟨s',o,h⟩
  obtain⟨x,hx,rfl⟩:=iG.1 h;have:=mem_range.1 hx;exact qlt (z.1 o) U U
 intro h;obtain⟨s',x,rfl,h1,o,F⟩:=qiu h;exact⟨s',z.2 h1,iG.2 ⟨x.toNat,mem_range.2 U,by grind⟩⟩
def VJ {vars:J}:(∀ x∈vars,1<=x)->(aP vars).map (fun s=>(dO vars s).toNat)=List.range (cZ vars).toNat:=by
 refine pE (P:=fun vars=>(∀ x∈vars,1<=x)->(aP vars).map (fun s=>(dO vars s).toNat)=List.range (cZ vars).toNat) ?_ ?_ vars
 ·intro _;decide
 intro l k F h;have hk:=h k sm;have L:=Bl fun x hx=>h x (L6 [k] hx);have z:=F fun x hx=>h x (by simp[hx]);rw[Nd,ka,map_flatMap,BH,Int.toNat_mul U U,<-Ϻ,<-z,flatMap_map];refine ϻ fun s K=>?_;rw[Bb];refine Bc fun x hx=>?_;have o:=Jn.1 K;have V:=(zO o).1;simp only[Function.comp];rw[M3 o.1]
 grind
def z8 {vars:J}(h:∀ x∈vars,1<=x):(aP vars).length=(cZ vars).toNat:=by
 have:=uZ List.length (VJ h)
 grind
def Fq {vars:J}(h:∀ x∈vars,1<=x){i:Nat}(hi:i<(aP vars).length):aj vars ((aP vars).getD i [])/\dO vars ((aP vars).getD i [])=i:=by
 have hm:(aP vars).getD i []∈aP vars:=cS [] hi;have o:=Jn.1 hm;refine⟨o,?_⟩;have:=uZ (fun l=>l[i]?) (VJ h);rw[z8 h]at hi;simp only[vh]at this;rw[L7 U,mL (by grind)]at this;simp only[vk,Br]at this;rw[aq (by grind)]at o ⊢;have z:=(zO o).1;omega
def Gf {vars:J}(h:∀ x∈vars,1<=x){s:J}(o:aj vars s):(dO vars s).toNat<(aP vars).length/\(aP vars).getD (dO vars s).toNat []=s:=by
 have F:=zO o;have z:(dO vars s).toNat<(aP vars).length:=by rw[z8 h];omega
 refine⟨z,?_⟩;obtain⟨h1,K⟩:=Fq h z;exact VH h1 o U
instance (s:J) (x:bE):Decidable (jh s x):=by unfold jh;infer_instance
instance (s:J) (f:List bE):Decidable (cE s f):=by unfold cE;infer_instance
def yq {s:J}{f:List bE}:cE s f↔∀ x∈f,jh s x:=by
 constructor
 ·intro h x hx
  obtain⟨i,o,rfl⟩:=ga hx;have:=h i o
  grind
 intro h i o;grind
def fL (s:J)(h:List mr):J:=h.foldl (fun out e=>if cE s e.cb then out.set e.var.toNat e.val else out) s
def Ex (s:J)(l:List mr)(e:mr):fL s (l++[e])=if cE s e.cb then (fL s l).set e.var.toNat e.val else fL s l:=by simp[fL]
def M2 (s:J)(l:List mr):(fL s l).length=s.length:=by
 refine pE (P:=fun l=>(fL s l).length=s.length) rfl ?_ l;intro l e h;rw[Ex];grind
def jZ (t:aa)(s:J)(op:Nat):Prop:=cE s (t.M.getD op bz).pre
instance (t:aa) (s:J) (op:Nat):Decidable (jZ t s op):=by unfold jZ;infer_instance
def cD (t:aa)(s:J)(op:Nat):J:=fL s (t.M.getD op bz).aQ
def uW {vars:J}{e:mr}(h:iQ vars e):0<=e.var/\e.var<vars.length/\0<=e.val/\e.val<vars.getD e.var.toNat W.dflt:=by
 have:=(h.2 0 (fg _)).1;exact this
def NT {vars s:J}{v x:Int}(h:aj vars s)(h2:0<=v)(z:0<=x)(h1:x<vars.getD v.toNat W.dflt):aj vars (s.set v.toNat x):=by
 refine⟨by simp[h.1],fun i o=>?_⟩;rw[iU]at o;simp only[ow,D9]at h1 ⊢;split
 ·grind
 simpa only[ow] using h.2 i o
def VK {vars s:J}{l:List mr}(o:aj vars s):(∀ e∈l,iQ vars e)->aj vars (fL s l):=by
 refine pE (P:=fun l=>(∀ e∈l,iQ vars e)->aj vars (fL s l)) (fun _=>o) ?_ l;intro l e z h;have h1:=z fun x hx=>h x (by simp[hx]);rw[Ex];split
 ·obtain⟨a,b,c,d⟩:=uW (h e sm)
  exact NT h1 a c d
 exact h1
def vG.mem {vars:J}{o:mM}(h:vG vars o):∀ e∈o.aQ,iQ vars e:=by
 intro e he;obtain⟨i,z,rfl⟩:=ga he;have:=h.fS i z
 grind
def aJ.pos {t:aa}(h:aJ t):∀ x∈t.vars,1<=x:=by
 intro x hx;obtain⟨i,o,rfl⟩:=ga hx;have:=(h.pC i o).1
 grind
def sb {t:aa}{s:J}{op:Nat}(h:aJ t)(o:aj t.vars s)(z:op<t.M.length):aj t.vars (cD t s op):=VK o (h.op op z).mem
structure dr where
 br:Int
 cU:Int
 dst:Int
 deriving DecidableEq
def aV:Ty dr:=⟨3,fun e=>[E e.br,E e.cU,E e.dst],fun _=>rfl,⟨0,0,0⟩⟩
instance ER:lU aV:=⟨fun x v hv=>by simp only[aV,gT,jd,pQ]at hv;rcases hv with rfl|rfl|rfl<;>rfl⟩
def rr (t:aa)(s:J)(i:Nat)(op:Nat):List dr:=if jZ t s op then [⟨i,op,dO t.vars (cD t s op)⟩] else []
def ko (t:aa)(s:J)(i j:Nat):List dr:=(List.range j).flatMap (rr t s i)
def k9 (t:aa)(i:Nat):List dr:=(List.range i).flatMap fun i=>ko t ((aP t.vars).getD i []) i t.M.length
def cO (t:aa):List dr:=k9 t (aP t.vars).length
def Β (t:aa)(s:J)(i:Nat):ko t s i 0=[]:=rfl
def Nf (t:aa)(s:J)(i j:Nat):ko t s i (j+1)=ko t s i j++rr t s i j:=by simp[ko,lN]
def Uu (t:aa)(i:Nat):k9 t (i+1)=k9 t i++ko t ((aP t.vars).getD i []) i t.M.length:=by simp[k9,lN]
def Ut (t:aa)(s:J)(i j:Nat):(ko t s i j).length<=j:=by
 induction j with
 | zero=>simp[ko]
 | succ j h =>
  rw[Nf,length_append];have:(rr t s i j).length<=1:=by unfold rr;split<;>simp
  omega
def Us (t:aa)(i:Nat):(k9 t i).length<=i*t.M.length:=by
 induction i with
 | zero=>simp[k9]
 | succ i h =>
  rw[Uu,length_append,z6];have:=Ut t ((aP t.vars).getD i []) i t.M.length;omega
def Ng {t:aa}{e:dr}:e∈cO t↔∃ i op,i<(aP t.vars).length/\op<t.M.length/\jZ t ((aP t.vars).getD i []) op/\e=⟨i,op,dO t.vars (cD t ((aP t.vars).getD i []) op)⟩:=by
 simp only[cO,k9,ko,rr,tN,mem_range]
 grind
def oo (o:mM):List (List bE):=o.pre::o.aQ.map (·.cb)
def gI (t:aa)(k:Nat):List (List bE):=t.aF::(t.M.take k).flatMap oo
def kH (t:aa):List (List bE):=gI t t.M.length
def im (t:aa):Prop:=64<t.vars.length\/4096<t.M.length\/(∃ i,i<t.M.length/\64<(t.M.getD i bz).aQ.length)\/∃ i,i<(kH t).length/\64<((kH t).getD i []).length
def qV (t:aa):Prop:=∀ i,i<t.vars.length->1<=t.vars.getD i W.dflt/\t.vars.getD i W.dflt<=64
def mT (t:aa):Prop:=∀ i,i<t.M.length->0<=(t.M.getD i bz).aT/\(t.M.getD i bz).aT<=1048576
def nX (t:aa):Prop:=∀ i,i<(kH t).length->dN t.vars ((kH t).getD i [])
def vL (t:aa):Prop:=∀ i,i<t.M.length->∀ j,j<(t.M.getD i bz).aQ.length->dN t.vars [⟨((t.M.getD i bz).aQ.getD j bQ).var,((t.M.getD i bz).aQ.getD j bQ).val⟩]
def rD (t:aa):Prop:=∀ i,i<t.M.length->rC (t.M.getD i bz).name
open Classical in
noncomputable def cC (t:aa):Int :=
 if im t then 5 else if ¬qV t then 1 else if ¬mT t then 1 else if ¬aj t.vars t.dt then 2 else if ¬nX t then 2 else if ¬vL t then 2 else if ¬rD t then 8 else 0
def Ł (t:aa):gI t 0=[t.aF]:=by simp[gI]
def T1 (t:aa){k:Nat}(hk:k<t.M.length):gI t (k+1)=gI t k++oo (t.M.getD k bz):=by
 simp[gI,eX bz hk]
def M0 (t:aa):∀ k,k<=t.M.length->(∀ i,i<t.M.length->(t.M.getD i bz).aQ.length<=64)->(gI t k).length<=1+65*k
 | 0,_,_=>by simp[gI]
 | k+1,hk,h=>by
  have:=M0 t k U h;have o:=h k U;rw[T1 t U,length_append];simp only[oo,length_cons,lA];omega
def JN {t:aa}{f:List bE}:f∈kH t↔(f=t.aF\/∃ i,i<t.M.length/\(f=(t.M.getD i bz).pre\/∃ j,j<(t.M.getD i bz).aQ.length/\f=((t.M.getD i bz).aQ.getD j bQ).cb)):=by
 simp only[kH,gI,mK,gT,tN,oo,iG];constructor
 ·rintro (h|⟨o,F,h⟩)
  ·exact .inl h
  obtain⟨i,z,rfl⟩:=ga F;refine .inr ⟨i,z,?_⟩;rw[aq z];rcases h with h|⟨e,he,rfl⟩
  ·exact .inl h
  obtain⟨j,K,rfl⟩:=ga he;exact .inr ⟨j,K,by grind⟩
 grind
def VL {vars:J}{f:List bE}(h:dN vars f):∀ i,i<f.length->(i:Int)<=(f.getD i aD.dflt).var
 | 0,o=>(h 0 o).1.1
 | i+1,z=>by
  have h1:=VL h i U;have F:=(h (i+1) z).2 U
  grind
def tR {vars:J}{f:List bE}(h:dN vars f):f.length<=vars.length:=by
 rcases wg f.length with o|o
 ·omega
 have h1:=VL h (f.length-1) U;have z:=(h (f.length-1) U).1.2.1;omega
def VM {t:aa}:nX t↔∀ f∈kH t,dN t.vars f:=by
 constructor
 ·intro h f z
  obtain⟨i,o,rfl⟩:=ga z;have:=h i o
  grind
 intro h i o
 grind
def tE (t:aa):cC t=0↔aJ t:=by
 unfold cC;constructor
 ·intro h
  split at h
  ·cases h
  rename_i h1;split at h
  ·cases h
  rename_i L;split at h
  ·cases h
  rename_i K;split at h
  ·cases h
  rename_i V;split at h
  ·cases h
  rename_i h5;split at h
  ·cases h
  rename_i h6;split at h
  ·cases h
  rename_i h7;rw[wn]at L K V h5 h6 h7;simp only[im,not_or,not_exists,not_and,yi]at h1;have z:=VM.1 h5;refine⟨h1.1,h1.2.1,L,V,z _ (JN.2 (.inl rfl)),fun i o=>⟨(K i o).1,(K i o).2,h1.2.2.1 i o,h7 i o,z _ (JN.2 (.inr ⟨i,o,.inl rfl⟩)),fun j F=>⟨z _ (JN.2 (.inr ⟨i,o,.inr ⟨j,F,rfl⟩⟩)),h6 i o j F⟩⟩⟩
 intro h;have z:∀ f∈kH t,dN t.vars f:=fun f K=>by
  rcases JN.1 K with rfl|⟨i,o,rfl|⟨j,F,rfl⟩⟩
  ·exact h.aF
  ·exact(h.op i o).pre
  exact((h.op i o).fS j F).1
 have h1:¬im t:=by
  rintro (h1|h1|⟨i,o,h1⟩|⟨i,o,h1⟩)
  ·have:=h.vars;omega
  ·have:=h.M;omega
  ·have:=(h.op i o).aQ;omega
  have:=tR (z _ (cS [] o));have:=h.vars;omega
 have a2:qV t:=h.pC;have a3:mT t:=fun i o=>⟨(h.op i o).l9,(h.op i o).pG⟩
 have a5:nX t:=VM.2 z;have L:vL t:=fun i o j F=>((h.op i o).fS j F).2;have V:rD t:=fun i o=>(h.op i o).name;rw[aM h1,aM (wn.2 a2),aM (wn.2 a3),aM (wn.2 h.dt),aM (wn.2 a5),aM (wn.2 L),aM (wn.2 V)]
abbrev sg (s:J)(v:Int):Int:=s.getD v.toNat W.dflt
def gJ (s p:J):J:=p.map (sg s)
def bG (vars p:J):Int:=cZ (gJ vars p)
def cy (vars p s:J):Int:=dO (gJ vars p) (gJ s p)
def fX (vars p:J):Prop:=∀ i,i<p.length->(0<=p.getD i W.dflt/\p.getD i W.dflt<vars.length)/\(0<i->p.getD (i-1) W.dflt<p.getD i W.dflt)
structure jX (vars p:J):Prop where
 mem:∀ v∈p,0<=v/\v<vars.length
 Gg:p.Pairwise (·<·)
def EI {s:J}{v x:Int}(o:0<=v)(h:v<s.length):sg (s.set v.toNat x) v=x:=by
 grind
def BM {s:J}{v u x:Int}(o:0<=v)(h1:0<=u)(h:v≠u):sg (s.set v.toNat x) u=sg s u:=by
 grind
def wF {s:J}{i:Nat}:sg s (i:Int)=s.getD i W.dflt:=by simp[sg]
def fX.Qj {vars p:J}(h:fX vars p):jX vars p:=by
 refine⟨fun v hv=>?_,?_⟩
 ·obtain⟨i,o,rfl⟩:=ga hv
  have:=(h i o).1
  grind
 rw[u9];intro i j o K z;have key:∀ k,(hk:i+k+1<p.length)->p[i]<p[i+k+1]:=by
  intro k
  induction k with
  | zero=>intro hk;have:=(h (i+1) U).2 U;grind
  | succ k F =>
   intro hk;have h1:=F U;have:=(h (i+k+1+1) U).2 U
   grind
 have:=key (j-i-1) U
 grind
def jX.rM {vars p:J}(h:jX vars p):fX vars p:=fun i o =>
 ⟨h.mem _ (cS _ o),fun z=>by
  rw[aq o,aq U]
  exact u9.1 h.Gg _ _ _ _ U⟩
def jX.dt {vars l:J}{v:Int}(h:jX vars (l++[v])):jX vars l/\(0<=v/\v<vars.length)/\v∉l:=by
 refine⟨⟨fun u hu=>h.mem u (by simp[hu]),(D7.1 h.Gg).1⟩,h.mem v sm,fun hv=>?_⟩;have:=(D7.1 h.Gg).2.2 v hv v sm;omega
def jX.le {vars p:J}(h:jX vars p):∀ i,i<p.length->(i:Int)<=p.getD i W.dflt
 | 0,o=>(h.mem _ (cS _ o)).1
 | i+1,o=>by
  have h1:=jX.le h i U;have z:=(h.rM (i+1) o).2 U
  grind
def jX.len {vars p:J}(h:jX vars p):p.length<=vars.length:=by
 rcases wg p.length with o|o
 ·omega
 have h1:=h.le (p.length-1) U;have z:=h.mem _ (cS W.dflt (show p.length-1<p.length by omega));omega
def N4 (s l:J)(v:Int):gJ s (l++[v])=gJ s l++[sg s v]:=by simp[gJ]
def JO (s p:J):(gJ s p).length=p.length:=by simp[gJ]
def VN {s p:J}{i:Nat}(hi:i<p.length):(gJ s p).getD i W.dflt=sg s (p.getD i W.dflt):=by
 rw[aq (by rw[JO];exact hi),aq hi];simp[gJ]
def N5 {vars s p:J}(o:aj vars s)(z:∀ v∈p,0<=v/\v<vars.length):aj (gJ vars p) (gJ s p):=by
 refine⟨by simp[JO],fun i h=>?_⟩;rw[JO]at h;rw[VN h,VN h];have:=z _ (cS W.dflt h);exact o.2 _ (by rw[o.1];omega)
def RP {vars p:J}(h:∀ x∈vars,1<=x)(o:∀ v∈p,0<=v/\v<vars.length):∀ x∈gJ vars p,1<=x:=by
 intro x hx;obtain⟨v,hv,rfl⟩:=iG.1 hx;have:=o v hv;exact h _ (cS W.dflt U)
def qF {vars s p:J}(h:aj vars s)(o:∀ v∈p,0<=v/\v<vars.length):0<=cy vars p s/\cy vars p s<bG vars p:=zO (N5 h o)
def LX (vars l:J)(v:Int):bG vars (l++[v])=bG vars l*sg vars v:=by simp[bG,N4,BH]
def RQ (vars l s:J)(v:Int):cy vars (l++[v]) s=cy vars l s*sg vars v+sg s v:=by
 rw[cy,N4,N4,M3 (by simp[JO])];rfl
def EA {vars p s:J}(h:∀ v∈p,sg s v=sg s' v):cy vars p s=cy vars p s':=by
 unfold cy gJ;rw[Bc h]
def JP {vars p s:J}(F:aj vars s)(o:aj vars s')(z:∀ v∈p,0<=v/\v<vars.length)(h:cy vars p s=cy vars p s'):∀ v∈p,sg s v=sg s' v:=by
 have:=VH (N5 F z) (N5 o z) h;intro v hv;exact map_inj_left.1 this v hv
def EZ {vars p:J}(h:∀ x∈vars,1<=x)(o:∀ v∈p,0<=v/\v<vars.length):1<=bG vars p:=Bl (RP h o)
def vF (h:J)(p:J × Int)(v:Int):J × Int:=(p.1.set v.toNat (p.2.tmod (h.getD v.toNat W.dflt)),p.2.tdiv (h.getD v.toNat W.dflt))
def mF (h vs:J)(s:J)(n:Int):J × Int:=vs.foldl (vF h) (s,n)
def Ih (h vs:J)(s:J)(n v:Int):mF h (vs++[v]) s n=vF h (mF h vs s n) v:=by simp[mF]
def RN (h vs:J)(s:J)(n:Int):(mF h vs s n).1.length=s.length:=by
 refine pE (P:=fun vs=>(mF h vs s n).1.length=s.length) rfl ?_ vs;intro l v o;rw[Ih,vF];simp[o]
def Ð {o vs:J}{s:J}{n:Int}(z:∀ x∈o,1<=x)(F:0<=n):(∀ v∈vs,0<=v/\v<o.length)->0<=(mF o vs s n).2/\(mF o vs s n).2<=n:=by
 refine pE (P:=fun (vs:J)=>(∀ v∈vs,0<=v/\v<o.length)->0<=(mF o vs s n).2/\(mF o vs s n).2<=n) (fun _=>⟨F,iq _⟩) ?_ vs;intro l v K h;obtain⟨h1,L⟩:=K fun x hx=>h x (by simp[hx]);obtain⟨V,h4⟩:=h v sm;have h5:=z _ (cS W.dflt (show v.toNat<o.length by omega));rw[Ih,vF];simp only;rw[IA h1];exact⟨Int.ediv_nonneg h1 U,uJ (FB _ h1) L⟩
def jp (vars p s:J)(n:Int):J:=(mF vars p.reverse s n).1
def qs2 (vars l s:J)(v n:Int):jp vars (l++[v]) s n=jp vars l (s.set v.toNat (n.tmod (sg vars v))) (n.tdiv (sg vars v)):=by
 simp[jp,mF,vF,reverse_append]
def VO (vars p s:J)(n:Int):(jp vars p s n).length=s.length:=RN _ _ _ _
def Gv {vars p:J}(hd:∀ x∈vars,1<=x):∀ {s:J}{n:Int},jX vars p->s.length=vars.length->0<=n->n<bG vars p ->
  cy vars p (jp vars p s n)=n/\(∀ v∈p,0<=sg (jp vars p s n) v/\sg (jp vars p s n) v<sg vars v)/\∀ v,0<=v->v∉p->sg (jp vars p s n) v=sg s v:=by
 refine pE (P:=fun p=>∀ {s:J}{n:Int},jX vars p->s.length=vars.length->0<=n->n<bG vars p ->
  cy vars p (jp vars p s n)=n/\(∀ v∈p,0<=sg (jp vars p s n) v/\sg (jp vars p s n) v<sg vars v)/\∀ v,0<=v->v∉p->sg (jp vars p s n) v=sg s v) ?_ ?_ p
 ·intro s n _ _ K h1
  refine⟨?_,fun v hv=>by simp at hv,fun v _ _=>rfl⟩;have:bG vars []=1:=rfl;have:cy vars [] (jp vars [] s n)=0:=rfl;omega
 intro l v ih s n hV hl K h1;obtain⟨L,⟨o,P'⟩,V⟩:=hV.dt;have R':1<=sg vars v:=hd _ (cS W.dflt U);rw[qs2,RZ K,IA K];rw[LX]at h1;have j':0<=n / sg vars v:=Int.ediv_nonneg K U;have H':n / sg vars v<bG vars l:=Int.ediv_lt_of_lt_mul U h1;obtain⟨i1,i2,i3⟩:=ih (s:=s.set v.toNat (n % sg vars v)) L (by simp[hl]) j' H';have z:sg (jp vars l (s.set v.toNat (n % sg vars v)) (n / sg vars v)) v=n % sg vars v:=by
  rw[i3 v o V,EI o U]
 have T':=Int.emod_nonneg n (show sg vars v≠0 by omega);have V':=R0 n (show 0<sg vars v by omega);refine⟨?_,fun u hu=>?_,fun u F hu=>?_⟩
 ·rw[RQ,i1,z]
  have:=Int.mul_ediv_add_emod n (sg vars v)
  grind
 ·rcases kK.1 hu with h|h
  ·exact i2 u h
  rw[fU.1 h,z];omega
 have J':v≠u:=fun e=>hu (by simp[e]);rw[i3 u F (fun h=>hu (by simp[h])),BM o F J']
def JK {vars p s:J}{n:Int}(o:∀ x∈vars,1<=x)(z:jX vars p)(F:0<=n)(h1:n<bG vars p)(h:s.length=vars.length)(K:∀ v:Int,0<=v->v<vars.length->v∉p->0<=sg s v/\sg s v<sg vars v):aj vars (jp vars p s n):=by
 obtain⟨_,i2,i3⟩:=Gv (s:=s) o z h F h1;refine⟨by rw[VO,h],fun i L=>?_⟩;rw[VO,h]at L;rw[<-wF,<-wF];by_cases hm:(i:Int)∈p
 ·exact i2 _ hm
 rw[i3 _ U hm];exact K _ U U hm
def aj.et {vars s:J}(h:aj vars s){v:Int}(o:0<=v)(h1:v<vars.length):0<=sg s v/\sg s v<sg vars v:=h.2 _ (by rw[h.1];omega)
def qzO {l:J}:∀ {m:J},l.Pairwise (·<·)->m.Pairwise (·<·)->(∀ x,x∈l↔x∈m)->l=m:=by
 induction l with
 | nil =>
  intro m _ _ h
  cases m with
  | nil=>rfl
  | cons y m=>exact absurd ((h y).2 sm) sm
 | cons x l K =>
  intro m z hm h
  cases m with
  | nil=>grind
  | cons y m =>
   rw[Ef]at z hm;have F:x=y:=by
    rcases gT.1 ((h x).1 sm) with e|e
    ·exact e
    rcases gT.1 ((h y).2 sm) with o|o
    ·exact o.symm
    grind
   grind
def q6 (n:Int):J:=(List.range n.toNat).map fun (i:Nat)=>(i:Int)
def Nn {n x:Int}:x∈q6 n↔0<=x/\x<n:=by
 simp only[q6,iG,mem_range];constructor
 ·omega
 intro h;exact⟨x.toNat,U,U⟩
def qwH (n:Int):(q6 n).Pairwise (·<·):=by
 rw[q6,zB];exact Bj.imp fun h=>U
def qwI (n:Int):(q6 n).length=n.toNat:=by simp[q6]
open Classical in
noncomputable def pO (n:Int)(p:Int->Prop):J:=(q6 n).filter fun x=>decide (p x)
def BL {n x:Int}{p:Int->Prop}:x∈pO n p↔(0<=x/\x<n)/\p x:=by simp[pO,Nn]
def Jo (n:Int)(p:Int->Prop):(pO n p).Pairwise (·<·):=(qwH n).filter _
def Ϣ (n:Int)(p:Int->Prop):(pO n p).length<=n.toNat:=by
 have:=wV (fun x=>@decide (p x) (Classical.propDecidable _)) (q6 n);rw[qwI]at this;exact this
def LZ {l:J}{n:Int}{p:Int->Prop}(o:l.Pairwise (·<·))(h:∀ x,x∈l↔(0<=x/\x<n)/\p x):l=pO n p :=
 qzO o (Jo n p) fun x=>(h x).trans BL.symm
def Gx (t:aa)(p:J)(a:Int)(op:Nat)(b:Int):Prop:=∃ s,aj t.vars s/\cy t.vars p s=a/\jZ t s op/\cy t.vars p (cD t s op)=b
noncomputable def rS (t:aa)(p:J)(a:Int)(op:Nat):J:=pO (bG t.vars p) (Gx t p a op)
def yY (p:J)(f:List bE):List bE:=f.filter fun x=>decide (x.var∈p)
def wE (t:aa)(p:J)(a:Int):Prop:=∃ s,aj t.vars s/\cy t.vars p s=a/\cE s (yY p t.aF)
def za (o:mM)(p:J)(v:Int):Prop:=(∃ e∈o.aQ,e.var∈p/\∃ f∈e.cb,f.var=v)/\v∉p/\∀ f∈o.pre,f.var≠v
noncomputable def ut (vars:J)(o:mM)(p:J):J:=pO vars.length (za o p)
def Gh (vars:J)(o:mM)(p:J):jX vars (ut vars o p):=⟨fun v hv=>(BL.1 hv).1,Jo _ _⟩
def gL (p s:J)(h:List mr):J:=h.foldl (fun out e=>if e.var∈p/\cE s e.cb then out.set e.var.toNat e.val else out) s
def EF (p s:J)(l:List mr)(e:mr):gL p s (l++[e])=if e.var∈p/\cE s e.cb then (gL p s l).set e.var.toNat e.val else gL p s l:=by simp[gL]
def JL (p s:J)(l:List mr):(gL p s l).length=s.length:=by
 refine pE (P:=fun l=>(gL p s l).length=s.length) rfl ?_ l;intro l e h;rw[EF];grind
def N6 {vars p s:J}{l:List mr}(hs:s.length=vars.length)(K:∀ v∈p,0<=v/\v<vars.length):(∀ e∈l,iQ vars e)->∀ v∈p,sg (gL p s l) v=sg (fL s l) v:=by
 refine pE (P:=fun l=>(∀ e∈l,iQ vars e)->∀ v∈p,sg (gL p s l) v=sg (fL s l) v) (fun _ _ _=>rfl) ?_ l;intro l e L h v hv;have h1:=L (fun x hx=>h x (by simp[hx])) v hv;obtain⟨a,b,c,d⟩:=uW (h e sm);obtain⟨z,V⟩:=K v hv;rw[EF,Ex];by_cases F:cE s e.cb
 ·by_cases hm:e.var∈p
  ·rw[ba ⟨hm,F⟩,ba F]
   by_cases o:e.var=v
   ·rw[<-o,EI a (by rw[JL];omega),EI a (by rw[M2];omega)]
   rw[BM a z o,BM a z o,h1]
  grind
 grind
def VP {s:J}{x:bE}(o:s.length=s'.length)(h:sg s x.var=sg s' x.var):jh s x↔jh s' x:=by
 unfold jh
 grind
def qlP {s:J}{f:List bE}(z:s.length=s'.length)(h:∀ x∈f,sg s x.var=sg s' x.var):cE s f↔cE s' f:=by
 rw[yq,yq];constructor
 ·intro o x hx;exact(VP z (h x hx)).1 (o x hx)
 intro o x hx;exact(VP z (h x hx)).2 (o x hx)
def VQ {vars p s:J}{l:List mr}(V:s.length=vars.length)(F:s'.length=vars.length)(hp:∀ v∈p,0<=v/\v<vars.length)(K:∀ v∈p,sg s v=sg s' v) :
  (∀ e∈l,iQ vars e)->(∀ e∈l,e.var∈p->∀ f∈e.cb,sg s f.var=sg s' f.var)->∀ v∈p,sg (gL p s l) v=sg (gL p s' l) v:=by
 refine pE (P:=fun l=>(∀ e∈l,iQ vars e)->(∀ e∈l,e.var∈p->∀ f∈e.cb,sg s f.var=sg s' f.var)->∀ v∈p,sg (gL p s l) v=sg (gL p s' l) v) (fun _ _=>K) ?_ l;intro l e ih h Y v hv;have h1:=ih (fun x hx=>h x (by simp[hx])) (fun x hx=>Y x (by simp[hx])) v hv;obtain⟨a,b,c,d⟩:=uW (h e sm);obtain⟨z,j'⟩:=hp v hv;rw[EF,EF];by_cases hm:e.var∈p
 ·have hc:=qlP (V.trans F.symm) (Y e sm hm)
  by_cases L:cE s e.cb
  ·rw[ba ⟨hm,L⟩,ba ⟨hm,hc.1 L⟩]
   by_cases o:e.var=v
   ·rw[<-o,EI a (by rw[JL];omega),EI a (by rw[JL];omega)]
   rw[BM a z o,BM a z o,h1]
  grind
 grind
def la (n:Nat):J:=replicate n 0
def Gt (n:Nat):(la n).length=n:=by simp[la]
def quu (n:Nat)(v:Int):sg (la n) v=0:=by
 simp only[sg,la,ow,Mu];split<;>rfl
def np (p s:J)(f:List bE):J:=f.foldl (fun s x=>if x.var∈p then s else s.set x.var.toNat x.val) s
def Gu (p s:J)(f:List bE)(x:bE):np p s (f++[x])=if x.var∈p then np p s f else (np p s f).set x.var.toNat x.val:=by simp[np]
def Vx (p s:J)(f:List bE):(np p s f).length=s.length:=by
 refine pE (P:=fun f=>(np p s f).length=s.length) rfl ?_ f;intro l e h;rw[Gu];grind
def yX (p s:J)(f:List bE):Prop:=∀ x∈f,x.var∈p->sg s x.var=x.val
def Ad {vars:J}{f:List bE}(h:dN vars f):∀ x∈f,bV vars x:=by
 intro x hx;obtain⟨i,o,rfl⟩:=ga hx;have:=(h i o).1
 grind
def qxz {vars:J}{f:List bE}(h:dN vars f):f.Pairwise fun x y=>x.var<y.var:=by
 rw[u9];intro i j F K o;have key:∀ k,(hk:i+k+1<f.length)->f[i].var<f[i+k+1].var:=by
  intro k
  induction k with
  | zero=>intro hk;have:=(h (i+1) U).2 U;grind
  | succ k z =>
   intro hk;have h1:=z U;have:=(h (i+k+1+1) U).2 U
   grind
 have:=key (j-i-1) U
 grind
def Vy {vars p s:J}{f:List bE}{v:Int}(hv:0<=v):(∀ x∈f,bV vars x)->(∀ x∈f,x.var∉p->x.var≠v)->sg (np p s f) v=sg s v:=by
 refine pE (P:=fun f=>(∀ x∈f,bV vars x)->(∀ x∈f,x.var∉p->x.var≠v)->sg (np p s f) v=sg s v) (fun _ _=>rfl) ?_ f;intro l x F h z;have h1:=F (fun y o=>h y (by simp[o])) (fun y o=>z y (by simp[o]));have hx:=h x sm;rw[Gu];split
 ·exact h1
 rename_i hm;rw[BM hx.1 hv (z x sm hm),h1]
def VR {vars p s:J}{f:List bE}(hs:s.length=vars.length):(∀ x∈f,bV vars x)->(f.Pairwise fun x y=>x.var<y.var)->∀ x∈f,x.var∉p->sg (np p s f) x.var=x.val:=by
 refine pE (P:=fun f=>(∀ x∈f,bV vars x)->(f.Pairwise fun x y=>x.var<y.var)->∀ x∈f,x.var∉p->sg (np p s f) x.var=x.val) (fun _ _ x hx=>by simp at hx) ?_ f;intro l y ih h V x hx F;have K:=h y sm;have L:=h x hx;rw[Gu];rcases kK.1 hx with o|o
 ·have h1:=ih (fun z hz=>h z (by simp[hz])) (D7.1 V).1 x o F
  have j':=(D7.1 V).2.2 x o y sm;split
  ·exact h1
  rw[BM K.1 L.1 U,h1]
 rw[fU.1 o]at F ⊢;rw[aM F,EI K.1 (by rw[Vx,hs];exact K.2.1)]
def qAy {vars p s:J}{f:List bE}(o:aj vars s):(∀ x∈f,bV vars x)->aj vars (np p s f):=by
 refine pE (P:=fun f=>(∀ x∈f,bV vars x)->aj vars (np p s f)) (fun _=>o) ?_ f;intro l x z h;have h1:=z fun y F=>h y (by simp[F]);have hx:=h x sm;rw[Gu];split
 ·exact h1
 exact NT h1 hx.1 hx.2.2.1 hx.2.2.2
section
variable {t:aa}{p:J}{op:Nat}{a:Int}
def kM (t:aa)(op:Nat):mM:=t.M.getD op bz
def sh (t:aa)(p:J)(a:Int):J:=jp t.vars p (la t.vars.length) a
def ua (t:aa)(p:J)(op:Nat)(a:Int):J:=np p (sh t p a) (kM t op).pre
noncomputable def lp (t:aa)(p:J)(op:Nat):J:=ut t.vars (kM t op) p
def uF (t:aa)(p:J)(op:Nat)(a k b:Int):Prop:=∃ S,aj t.vars S/\(∀ v,0<=v->v∉lp t p op->sg S v=sg (ua t p op a) v)/\cy t.vars (lp t p op) S<k/\cy t.vars p (gL p S (kM t op).aQ)=b
def VA (o:∀ x∈t.vars,1<=x):aj t.vars (la t.vars.length):=by
 refine⟨Gt _,fun i h=>?_⟩;rw[Gt]at h;have:=o _ (cS W.dflt h);rw[<-wF,quu];omega
def Gq (I:aJ t)(o:jX t.vars p)(z:0<=a)(h1:a<bG t.vars p):aj t.vars (sh t p a)/\cy t.vars p (sh t p a)=a:=by
 have F:=VA (t:=t) I.pos;exact⟨JK I.pos o z h1 (Gt _) fun v hv h _=>F.et hv h,(Gv I.pos o (Gt _) z h1).1⟩
def Cc (I:aJ t)(h:jX t.vars p)(o:0<=a)(h1:a<bG t.vars p){s:J}(z:aj t.vars s)(F:cy t.vars p s=a):∀ v∈p,sg s v=sg (sh t p a) v :=
 JP z (Gq I h o h1).1 h.mem (F.trans (Gq I h o h1).2.symm)
def jx (I:aJ t)(h:op<t.M.length):(∀ x∈(kM t op).pre,bV t.vars x)/\((kM t op).pre.Pairwise fun x y=>x.var<y.var) :=
 ⟨Ad (I.op op h).pre,qxz (I.op op h).pre⟩
def Vw (I:aJ t)(h:jX t.vars p)(o:op<t.M.length)(z:0<=a)(h1:a<bG t.vars p):aj t.vars (ua t p op a):=qAy (Gq I h z h1).1 (jx I o).1
def yZ (I:aJ t)(h:jX t.vars p)(o:op<t.M.length):∀ v∈p,sg (ua t p op a) v=sg (sh t p a) v:=fun v hv =>
 Vy (h.mem v hv).1 (jx I o).1 fun x _ hx e=>hx (e ▸ hv)
def Cd {v:Int}(hv:v∈lp t p op):v∉p:=(BL.1 hv).2.2.1
def VS {x:bE}(hx:x∈(kM t op).pre):x.var∉lp t p op:=fun h=>(BL.1 h).2.2.2 x hx rfl
def ϙ (I:aJ t)(F:jX t.vars p)(K:0<=a)(h1:a<bG t.vars p)(L:¬yX p (sh t p a) (kM t op).pre):rS t p a op=[]:=by
 refine(LZ Pairwise.nil fun b=>⟨fun h=>by simp at h,?_⟩).symm;rintro⟨_,s,V,ha,o,_⟩
 exact absurd (fun x hx z=>by
  rw[<-Cc I F K h1 V ha _ z]
  exact(yq.1 o x hx).2.2) L
def Ϛ (I:aJ t)(z:jX t.vars p)(F:op<t.M.length)(h0:0<=a)(h1:a<bG t.vars p)(P':yX p (sh t p a) (kM t op).pre) :
  uF t p op a (bG t.vars (lp t p op)) b↔Gx t p a op b:=by
 obtain⟨R',_a⟩:=Gq I z h0 h1;have V:=Vw I z F h0 h1;have K:jX t.vars (lp t p op):=Gh t.vars (kM t op) p;have o:∀ e∈(kM t op).aQ,iQ t.vars e:=(I.op op F).mem;constructor
 ·rintro⟨S,hS,J',_,rfl⟩
  have j':∀ v∈p,sg S v=sg (sh t p a) v:=fun v hv=>by
   rw[J' v (z.mem v hv).1 (fun h=>Cd h hv),yZ I z F v hv]
  refine⟨S,hS,(EA j').trans _a,?_,EA fun v hv=>(N6 hS.1 z.mem o v hv).symm⟩;refine yq.2 fun x hx=>?_;have L:=(jx I F).1 x hx;refine⟨L.1,by rw[hS.1];exact L.2.1,?_⟩;show sg S x.var=x.val;rw[J' x.var L.1 (VS hx)];by_cases H':x.var∈p
  ·rw[yZ I z F _ H'];exact P' x hx H'
  exact VR R'.1 (jx I F).1 (jx I F).2 x hx H'
 rintro⟨s,hs,ha,T',rfl⟩;have _b:=Cc I z h0 h1 hs ha;have hb:=qF hs K.mem;have hq:=Gv (s:=ua t p op a) I.pos K V.1 hb.1 hb.2;have H':=JK (s:=ua t p op a) I.pos K hb.1 hb.2 V.1 fun v hv _c _=>V.et hv _c;have _d:=JP H' hs K.mem hq.1;refine⟨jp t.vars (lp t p op) (ua t p op a) (cy t.vars (lp t p op) s),H',hq.2.2,U,EA fun v hv=>?_⟩;rw[show sg (cD t s op) v=sg (gL p s (kM t op).aQ) v from (N6 hs.1 z.mem o v hv).symm];have j':∀ v∈p,sg (jp t.vars (lp t p op) (ua t p op a) (cy t.vars (lp t p op) s)) v=sg s v:=fun v hv=>by
  rw[show sg (jp t.vars (lp t p op) (ua t p op a) (cy t.vars (lp t p op) s)) v=_ from hq.2.2 v (z.mem v hv).1 (fun h=>Cd (op:=op) h hv),yZ I z F v hv,_b v hv]
 refine VQ H'.1 hs.1 z.mem j' o (fun e he _e f hf=>?_) v hv;have J':=Ad (o e he).1 f hf;by_cases _f:f.var∈p
 ·grind
 by_cases V':∃ x∈(kM t op).pre,x.var=f.var
 ·obtain⟨x,hx,L⟩:=V'
  rw[show sg (jp t.vars (lp t p op) (ua t p op a) (cy t.vars (lp t p op) s)) f.var=_ from hq.2.2 f.var J'.1 (by rw[<-L];exact VS hx)];rw[<-L,show sg (ua t p op a) x.var=x.val from VR R'.1 (jx I F).1 (jx I F).2 x hx (by grind)];exact(yq.1 T' x hx).2.2.symm
 refine _d f.var (BL.2 ⟨⟨J'.1,J'.2.1⟩,⟨e,he,_e,f,hf,rfl⟩,_f,fun x hx L=>V' ⟨x,hx,L⟩⟩)
def ϛ (I:aJ t)(hp:jX t.vars p)(ho:op<t.M.length){k:Int}{S:J}(hS:aj t.vars S)(j':∀ v,0<=v->v∉lp t p op->sg S v=sg (ua t p op a) v)(hk:cy t.vars (lp t p op) S=k) :
  uF t p op a (k+1) b↔uF t p op a k b\/b=cy t.vars p (gL p S (kM t op).aQ):=by
 have H':jX t.vars (lp t p op):=Gh t.vars (kM t op) p;have F:∀ e∈(kM t op).aQ,iQ t.vars e:=(I.op op ho).mem;constructor
 ·rintro⟨L,o,z,J',V⟩
  by_cases h:cy t.vars (lp t p op) L<k
  ·exact .inl ⟨L,o,z,h,V⟩
  right;have P':=JP o hS H'.mem (show cy t.vars (lp t p op) L=cy t.vars (lp t p op) S by omega);have K:∀ v,0<=v->sg L v=sg S v:=fun v hv=>by
   grind
  rw[<-V];exact EA (VQ o.1 hS.1 hp.mem (fun v hv=>K v (hp.mem v hv).1) F fun e he _ f hf=>K _ (Ad (F e he).1 f hf).1)
 rintro (⟨L,o,z,J',V⟩|rfl)
 ·exact⟨L,o,z,U,V⟩
 exact⟨S,hS,j',U,rfl⟩
def Ϝ (I:aJ t)(z:jX t.vars p)(K:op<t.M.length){k:Int}(h:uF t p op a k b):0<=b/\b<bG t.vars p:=by
 obtain⟨S,F,_,_,rfl⟩:=h;have o:∀ e∈(kM t op).aQ,iQ t.vars e:=(I.op op K).mem;rw[EA (N6 F.1 z.mem o)];exact qF (VK F o) z.mem
end
def mI (a:Int)(op:Nat)(l:J):List dr:=l.map fun b=>⟨a,op,b⟩
noncomputable def kB (t:aa)(p:J)(a:Int)(j:Nat):List dr:=(List.range j).flatMap fun op=>mI a op (rS t p a op)
noncomputable def jL (t:aa)(p:J)(k:Nat):List dr:=(List.range k).flatMap fun (a:Nat)=>kB t p (a:Int) t.M.length
noncomputable def cm (t:aa)(p:J):List dr:=jL t p (bG t.vars p).toNat
def VB (t:aa)(p:J)(a:Int):kB t p a 0=[]:=rfl
def Jp (t:aa)(p:J)(a:Int)(j:Nat):kB t p a (j+1)=kB t p a j++mI a j (rS t p a j):=by simp[kB,lN]
def ϟ (t:aa)(p:J):jL t p 0=[]:=rfl
def Jq (t:aa)(p:J)(k:Nat):jL t p (k+1)=jL t p k++kB t p (k:Int) t.M.length:=by simp[jL,lN]
def Nk (a:Int)(op:Nat)(l:J):(mI a op l).length=l.length:=by simp[mI]
def Ϥ {a:Int}{op:Nat}{l:J}{m:Nat}(hm:m<l.length):mI a op (l.take (m+1))=mI a op (l.take m)++[⟨a,op,l.getD m W.dflt⟩]:=by
 rw[eX W.dflt hm];simp[mI]
def quC (t:aa)(p:J)(a:Int){i:Nat}(h:i<=j):(kB t p a i).length<=(kB t p a j).length:=by
 induction j with
 | zero=>grind
 | succ j o =>
  by_cases e:i=j+1
  ·grind
  have:=o U;rw[Jp,length_append];omega
def quD (t:aa)(p:J){i:Nat}(h:i<=j):(jL t p i).length<=(jL t p j).length:=by
 induction j with
 | zero=>grind
 | succ j o =>
  by_cases e:i=j+1
  ·grind
  have:=o U;rw[Jq,length_append];omega
def ϣ {t:aa}{p:J}{k:Nat}(hk:(k:Int)<bG t.vars p)(o:j<t.M.length):(jL t p k).length+(kB t p (k:Int) j).length+(rS t p (k:Int) j).length<=(cm t p).length:=by
 have h1:=quD t p (show k+1<=(bG t.vars p).toNat by omega);have h:=quC t p (k:Int) (show j+1<=t.M.length by omega);rw[Jq,length_append]at h1;rw[Jp,length_append,Nk]at h;unfold cm;omega
def EY {t:aa}{p:J}{e:dr}:e∈cm t p↔∃ (a:Int) (op:Nat) (b:Int),(0<=a/\a<bG t.vars p)/\op<t.M.length/\(0<=b/\b<bG t.vars p)/\Gx t p a op b/\e=⟨a,op,b⟩:=by
 simp only[cm,jL,kB,mI,tN,mem_range,iG];constructor
 ·rintro⟨a,o,op,z,b,h,rfl⟩
  have:=BL.1 h
  grind
 rintro⟨a,op,b,o,z,h,F,rfl⟩;refine⟨a.toNat,U,op,z,b,?_,?_⟩
 ·rw[jW o.1];exact BL.2 ⟨h,F⟩
 grind
open Classical in
noncomputable def nY (t:aa)(p:J)(a:Int):Bool:=decide (wE t p a)
noncomputable def eT (t:aa)(p:J)(k:Nat):List Bool:=(List.range k).map fun (a:Nat)=>nY t p (a:Int)
def ϡ (t:aa)(p:J)(k:Nat):eT t p (k+1)=eT t p k++[nY t p (k:Int)]:=by simp[eT,lN]
def KU (t:aa)(p:J)(k:Nat):(eT t p k).length=k:=by simp[eT]
def Ux {t:aa}{p:J}{k a:Nat}(h:a<k):(eT t p k).getD a false=nY t p (a:Int):=by simp[eT,List.getD,h]
def Nh {t:aa}{p:J}{a:Int}:nY t p a=true↔wE t p a:=by simp[nY]
def uG (p S:J)(f:List bE):Prop:=∀ x∈f,x.var∈p->sg S x.var=x.val
def Ϡ {t:aa}{p S:J}{a:Int}(I:aJ t)(K:jX t.vars p)(z:aj t.vars S)(F:cy t.vars p S=a):uG p S t.aF↔wE t p a:=by
 constructor
 ·intro h
  refine⟨S,z,F,yq.2 fun x hx=>?_⟩;simp only[yY,wT,jV]at hx;have o:=Ad I.aF x hx.1;exact⟨o.1,by rw[z.1];exact o.2.1,h x hx.1 hx.2⟩
 rintro⟨s,L,V,hh⟩ x hx o;rw[JP z L K.mem (F.trans V.symm) _ o];exact(yq.1 hh x (by simp[yY,hx,o])).2.2
def ao (t:aa):J:=t.M.map (·.aT)
def tD {t:aa}{i:Nat}(h:i<t.M.length):(ao t).getD i W.dflt=(t.M.getD i bz).aT:=by
 rw[aq h];simp[ao,List.getD,h]
def tx (t:aa)(p:J):Prop:=∃ op,op<t.M.length/\4096<bG t.vars (lp t p op)
open Classical in
noncomputable def lu (t:aa)(p:J):Int:=if 4096<bG t.vars p then 5 else if tx t p then 5 else if 65536<(cm t p).length then 5 else 0
structure ct where
 st:Int
 cj:Int
 aN:J
 aH:List dr
 aW:List Bool
noncomputable def dY (t:aa)(p:J):ct:=⟨bG t.vars p,cy t.vars p t.dt,ao t,cm t p,eT t p (bG t.vars p).toNat⟩
def cT:ct:=⟨0,0,[],[],[]⟩
noncomputable def kQ (t:aa)(p:J)(c:Int):ct:=if c=0 then dY t p else cT
def nI {α:Type}{l:List α}{i:Nat}{x d:α}:(l.set i x).getD j d=if i=j/\j<l.length then x else l.getD j d:=by
 grind
def F6 {α:Type}{n i:Nat}{x d:α}(h:i<n):(replicate n x).getD i d=x:=by grind
def ln {α:Type}(f:α->α):Nat->α->α
 | 0,x=>x
 | n+1,x=>f (ln f n x)
section
variable {α:Type}{f:α->α}{d:α->Bool}
def VT (m n:Nat)(x:α):ln f (m+n) x=ln f m (ln f n x):=by
 induction m with
 | zero=>rw[xT];rfl
 | succ m h=>rw[succ_add];exact uZ f h
def VU (o:∀ y,d y=true->f y=y){x:α}(h:d x=true)(n:Nat):ln f n x=x:=by
 induction n with
 | zero=>rfl
 | succ n z=>show f (ln f n x)=x;grind
open Classical in
noncomputable def qy (f:α->α)(d:α->Bool)(x:α):α:=if h:∃ n,d (ln f n x)=true then ln f (Classical.choose h) x else x
def li (o:∀ y,d y=true->f y=y){n:Nat}{x:α}(h:d (ln f n x)=true):qy f d x=ln f n x:=by
 have hex:∃ n,d (ln f n x)=true:=⟨n,h⟩
 unfold qy;rw[dif_pos hex];have hm:=FN hex;generalize Classical.choose hex=m at hm ⊢;rcases Nat.le_total m n with fh|fh
 ·have e:n=(n-m)+m:=U
  rw[e,VT,VU o hm]
 have e:m=(m-n)+n:=U;rw[e,VT,VU o h]
end
section
variable {α:Type}{dflt:α}{g:α->Int}{n k:Nat}{l:List α}
def gQ (g:α->Int)(n:Nat)(l:List α):List (List α):=(List.range n).map fun (x:Nat)=>l.filter fun a=>decide (g a=(x:Int))
def Av:(gQ g n l).length=n:=by simp[gQ]
def Gz {x:Nat}(h:x<n):(gQ g n l).getD x []=l.filter fun a=>decide (g a=(x:Int)):=by simp[gQ,List.getD,h]
def N7:gQ g n []=replicate n []:=by
 apply jB (by simp[gQ]);intro i h1 h;simp[gQ]
def N8 (hk:k<l.length)(z:0<=g (l.getD k dflt))(h1:g (l.getD k dflt)<n) :
  gQ g n (l.take (k+1))=(gQ g n (l.take k)).set (g (l.getD k dflt)).toNat ((gQ g n (l.take k)).getD (g (l.getD k dflt)).toNat []++[l.getD k dflt]):=by
 apply jB (by simp[gQ]);intro i h F;have K:i<n:=by simpa [gQ] using h
 have o:(gQ g n (l.take k)).getD (g (l.getD k dflt)).toNat []=(l.take k).filter fun a=>decide (g a=(((g (l.getD k dflt)).toNat:Nat):Int)):=Gz U;rw[tS];simp only[gQ,getElem_map,tI];rw[eX dflt hk,CF,Fy,filter_nil]
 grind
def Aw {x:Nat}{a:α}(h:x<n):a∈(gQ g n l).getD x []↔a∈l/\g a=(x:Int):=by rw[Gz h];simp
end
instance Kq:Inhabited dr:=⟨⟨0,0,0⟩⟩
def ia (x y:Int):Int:=if x<y then -1 else if y<x then 1 else 0
def xX:J->Int
 | []=>0
 | x::r=>if x≠0 then x else xX r
def fE (a b:dr):Int:=xX [ia a.br b.br,ia a.cU b.cU,ia a.dst b.dst]
def qW (a b:Int × Int):Int:=xX [ia a.1 b.1,ia a.2 b.2]
def gF {α:Type}[Inhabited α](cf:α->α->Int)(l:List α):List α:=(Go.Sort.pdq (fun a b=>decide (cf a b<0)) l.toArray 0 l.length (Go.Lib.bitLen l.length) true true).toList
def ml {α:Type}[DecidableEq α]:List α->List α
 | []=>[]
 | x::r=>x::match r with|[]=>[]|y::_=>if x=y then (ml r).tail else ml r
def cW (S:ct):Prop:=1<=S.st/\S.st<=4096/\0<=S.cj/\S.cj<S.st/\(S.aW.length:Int)=S.st/\S.aN.length<=4096/\S.aH.length<=65536/\(∀ c∈S.aN,0<=c/\c<=1048576) /\
 (∀ e∈S.aH,(0<=e.br/\e.br<S.st)/\(0<=e.dst/\e.dst<S.st)/\0<=e.cU/\e.cU<S.aN.length)/\∀ i,0<i->i<S.aH.length->fE (S.aH.getD (i-1) aV.dflt) (S.aH.getD i aV.dflt)<0
open Classical in
noncomputable def jY (S:ct):Bool:=decide (cW S)
structure gR where
 br:Int
 dst:Int
 wt:Int
def fM:Ty gR:=⟨3,fun a=>[E a.br,E a.dst,E a.wt],fun _=>rfl,⟨0,0,0⟩⟩
instance Kr:lU fM:=⟨fun x v hv=>by simp only[fM,gT,jd,pQ]at hv;rcases hv with rfl|rfl|rfl<;>rfl⟩
structure wx where
 out:J
 waits:List Bool
 q:J
def eN (i:Int)(s:wx)(a:gR):wx :=
 if s.out.getD i.toNat W.dflt+a.wt≥s.out.getD a.dst.toNat W.dflt then s
 else if s.waits.getD a.dst.toNat ah.dflt then ⟨s.out.set a.dst.toNat (s.out.getD i.toNat W.dflt+a.wt),s.waits,s.q⟩
 else ⟨s.out.set a.dst.toNat (s.out.getD i.toNat W.dflt+a.wt),s.waits.set a.dst.toNat true,s.q++[a.dst]⟩
def cQ (arcs:List (List gR))(s:wx):wx:=match s.q with
 | []=>s
 | i::r=>(arcs.getD i.toNat []).foldl (eN i) ⟨s.out,s.waits.set i.toNat false,r⟩
def fb (s:wx):Bool:=s.q.isEmpty
def N9 (arcs:List (List gR)):∀ s,fb s=true->cQ arcs s=s:=by
 rintro⟨o,w,q⟩ h
 cases q with
 | nil=>rfl
 | cons _ _=>exact absurd h (by simp[fb])
def ul (S:ct)(iD:Bool)(e:dr):gR:=if iD then ⟨e.dst,e.br,S.aN.getD e.cU.toNat W.dflt⟩ else ⟨e.br,e.dst,S.aN.getD e.cU.toNat W.dflt⟩
def kJ (S:ct)(iD:Bool):List (List gR):=gQ (·.br) S.st.toNat (S.aH.map (ul S iD))
def fZ (n:Nat)(fr:J):wx:=⟨fr.foldl (fun o i=>o.set i.toNat 0) (replicate n 1125899906842624),fr.foldl (fun o i=>o.set i.toNat true) (replicate n false),fr⟩
noncomputable def DN (S:ct)(fr:J)(iD:Bool):J:=(qy (cQ (kJ S iD)) fb (fZ S.st.toNat fr)).out
def iN (g:List Bool)(k:Nat):J:=(List.range k).filterMap fun i=>if g.getD i ah.dflt then some (i:Int) else none
def xq (g:List Bool):J:=iN g g.length
noncomputable def oN (S:ct):J:=DN S (xq S.aW) true
def da (S:ct):List (List dr):=gQ (·.cU) S.aN.length S.aH
def nL (a b:ct):List Bool:=(List.range a.st.toNat).flatMap fun i=>(List.range b.st.toNat).map fun j=>a.aW.getD i ah.dflt && b.aW.getD j ah.dflt
def AW (a b:ct):Nat:=((List.range a.aN.length).map fun l=>((da a).getD l []).length*((da b).getD l []).length).foldl (·+·) 0
def nK (a b:ct):List dr:=(List.range a.aN.length).flatMap fun l=>((da a).getD l []).flatMap fun e=>((da b).getD l []).map fun f=>⟨e.br*b.st+f.br,l,e.dst*b.st+f.dst⟩
open Classical in
noncomputable def dG (a b:ct):Int:=if cW a/\cW b/\a.aN=b.aN then (if 4096<a.st*b.st then 5 else if 65536<AW a b then 5 else 0) else 2
noncomputable def iM (a b:ct):ct:=if dG a b=0 then ⟨a.st*b.st,a.cj*b.st+b.cj,a.aN,gF fE (nK a b),nL a b⟩ else cT
def gK (c:J)(n:Int)(k:Int):Prop:=(c.length:Int)=n/\(∀ x∈c,0<=x/\x<n)/\(∀ x∈c,x<k)/\∀ x:Int,0<=x->x<k->x∈c
def qAH {c:J}{n k o:Int}(h:gK c n k)(z:gK c n o)(hk:0<=k)(aw:0<=o):k=o:=by
 obtain⟨_,_,L,V⟩:=h;obtain⟨_,_,F,K⟩:=z
 grind
open Classical in
noncomputable def mG (c:J)(n:Int):Bool:=decide (∃ k,0<=k/\gK c n k)
open Classical in
noncomputable def nJ (c:J)(n:Int):Int:=if h:∃ k,0<=k/\gK c n k then Classical.choose h else 0
def TH {c:J}{n k:Int}(hk:0<=k)(h:gK c n k):mG c n=true/\nJ c n=k:=by
 have hx:∃ k,0<=k/\gK c n k:=⟨k,hk,h⟩
 refine⟨by unfold mG;grind,?_⟩;unfold nJ;rw[dif_pos hx];have:=FN hx;exact qAH this.2 h this.1 hk
noncomputable def eU (S:ct)(c:J):Int:=if jY S=true/\mG c S.st=true then 0 else 2
def qo (g:List Bool)(c:J)(k:Nat):List Bool:=(List.range k).map fun (x:Nat)=>(List.range g.length).any fun s=>decide (c.getD s W.dflt=(x:Int)) && g.getD s ah.dflt
def qT (c:J)(e:dr):dr:=⟨c.getD e.br.toNat W.dflt,e.cU,c.getD e.dst.toNat W.dflt⟩
noncomputable def jK (S:ct)(c:J):ct:=if eU S c=0 then ⟨nJ c S.st,c.getD S.cj.toNat W.dflt,S.aN,ml (gF fE (S.aH.map (qT c))),qo S.aW c (nJ c S.st).toNat⟩ else cT
def cR (l:List ByteArray):List ByteArray:=l.foldl (fun u s=>if u.any (fun x=>decide (x=s)) then u else u++[s]) []
def dX (l:List ByteArray):J:=l.map fun s=>((cR l).findIdx (fun x=>decide (x=s)):Int)
def JQ (S:ct)(c:J)(s:Nat):List (Int × Int):=(S.aH.filter fun e=>decide (e.br=(s:Int))).map fun e=>(e.cU,c.getD e.dst.toNat W.dflt)
def kf (n:Int):List UInt8:=Go.Lib.itoa n
def oY (p:Int × Int):List UInt8:=32::kf p.1++58::kf p.2
def mJ (S:ct)(c:J)(s:Nat):List UInt8:=kf (c.getD s W.dflt)++(ml (gF qW (JQ S c s))).flatMap oY
def jr (S:ct)(c:J):List ByteArray:=(List.range S.st.toNat).map fun s=>⟨(mJ S c s).toArray⟩
def jc (S:ct)(x:J × Nat × Bool):J × Nat × Bool:=if x.2.2 then x else (dX (jr S x.1),(cR (jr S x.1)).length,decide ((cR (jr S x.1)).length=x.2.1))
def vU (x:J × Nat × Bool):Bool:=x.2.2
def TA (S:ct):∀ x,vU x=true->jc S x=x:=fun x h=>by
 unfold jc vU at *
 rw[ba h]
def lJ (b:Bool):ByteArray:=if b then ⟨#[116,114,117,101]⟩ else ⟨#[102,97,108,115,101]⟩
def pK (S:ct):J × Nat × Bool:=(dX (S.aW.map lJ),(cR (S.aW.map lJ)).length,false)
noncomputable def oI (S:ct):J:=(qy (jc S) vU (pK S)).1
def BE (g:List Bool)(k:Nat):Nat->Option Nat
 | 0=>none
 | i+1=>if g.getD i ah.dflt=g.getD k ah.dflt then some i else BE g k i
def BD (g:List Bool):Nat->Nat × Nat
 | 0=>(0,1)
 | k+1=>if k=0 then (0,1) else match BE g k k with|some i=>(i,k)|none=>BD g k
def sN (g:List Bool):Nat × Nat:=BD g g.length
def oD (i k:Nat)(c:Int):Int:=if c=k then i else if c>k then c-1 else c
def il (most:Nat)(x:J × List Bool):J × List Bool:=if x.2.length<=most then x else (x.1.map (oD (sN x.2).1 (sN x.2).2),x.2.eraseIdx (sN x.2).2)
def o9 (most:Nat)(x:J × List Bool):Bool:=decide (x.2.length<=most)
def MO (most:Nat):∀ x,o9 most x=true->il most x=x:=fun x h=>by
 unfold il;rw[ba (x5 h)]
def kh (l:J):Int:=l.tail.foldl max (l.headD 0)
def xW (g:List Bool)(c:J)(k:Nat):List Bool:=(List.range k).map fun (x:Nat)=>(((List.range c.length).reverse.find? fun s=>decide (c.getD s W.dflt=(x:Int))).map fun s=>g.getD s ah.dflt).getD false
noncomputable def iy (S:ct)(most:Int):J:=(qy (il (max 1 (min most 4096)).toNat) (o9 (max 1 (min most 4096)).toNat) (oI S,xW S.aW (oI S) (kh (oI S)+1).toNat)).1
def dI (n:Nat):J:=(List.range n).map fun (i:Nat)=>(i:Int)
open Classical in
noncomputable def cK (S:ct)(most:Int):Int:=if S.st<=most then 0 else if cW S then eU S (iy S most) else 2
open Classical in
noncomputable def gP (S:ct)(most:Int):J:=if S.st<=most then dI S.st.toNat else if cW S then iy S most else []
open Classical in
noncomputable def dV (S:ct)(most:Int):ct:=if S.st<=most then S else if cW S then jK S (iy S most) else cT
abbrev ib (x v:Nat):Prop:=x.testBit v=true
structure Gr (n:Nat) (N:Nat->Nat):Prop where
 sym:∀ u v,ib (N u) v->ib (N v) u
 KZ:∀ u,¬ib (N u) u
 bd:∀ u v,ib (N u) v->v<n
structure sV (n:Nat) (N:Nat->Nat) (C:Nat):Prop where
 bd:∀ v,ib C v->v<n
 uN:∀ u v,ib C u->ib C v->u≠v->ib (N u) v
 max:∀ u,u<n->¬ib C u->∃ v,ib C v/\¬ib (N u) v
structure lF (n:Nat) (N:Nat->Nat) (R P C:Nat):Prop where
 mx:sV n N C
 lo:∀ v,ib R v->ib C v
 hi:∀ v,ib C v->ib R v\/ib P v
structure BI (n:Nat) (N:Nat->Nat) (R P X':Nat):Prop where
 rb:∀ v,ib R v->v<n
 pb:∀ v,ib P v->v<n
 xb:∀ v,ib X' v->v<n
 uN:∀ u v,ib R u->ib R v->u≠v->ib (N u) v
 x9:∀ u,ib P u\/ib X' u->∀ r,ib R r->ib (N u) r
 all:∀ u,u<n->(∀ r,ib R r->ib (N u) r)->ib P u\/ib X' u
section
variable {n:Nat}{N:Nat->Nat}{R P X' C:Nat}
def BI.fC (h:BI n N R P X')(K:∀ v,¬ib P v)(V:∀ v,¬ib X' v):lF n N R P C↔C=R:=by
 constructor
 ·intro F
  apply Eg;intro i;by_cases o:ib C i
  ·rcases F.hi i o with h1|h1
   ·grind
   grind
  have z:¬ib R i:=fun z=>o (F.lo i z)
  grind
 rintro rfl;refine⟨⟨h.rb,h.uN,fun u hu hn=>?_⟩,fun _ hv=>hv,fun _ hv=>.inl hv⟩;refine oE fun F=>?_;have o:∀ r,ib C r->ib (N u) r:=fun r z=>oE fun L=>F ⟨r,z,L⟩;rcases h.all u hu o with h1|h1
 ·exact K u h1
 grind
def BI.Pj (o:Gr n N)(h:BI n N R P X'){v:Nat}(hv:ib P v\/ib X' v):¬ib R v:=fun z=>o.KZ v (h.x9 v hv v z)
def BI.child (L:Gr n N)(h:BI n N R P X'){v X1:Nat}(hv:ib P v)(h1:∀ u,ib R1 u↔ib R u\/u=v)(h2:∀ u,ib P1 u↔ib P u/\ib (N v) u)(h3:∀ u,ib X1 u↔ib X' u/\ib (N v) u):BI n N R1 P1 X1 where
 rb u hu:=by
  rcases (h1 u).1 hu with V|rfl
  ·exact h.rb u V
  exact h.pb _ hv
 pb u hu:=h.pb u ((h2 u).1 hu).1
 xb u hu:=h.xb u ((h3 u).1 hu).1
 uN a b o z j':=by
  rcases (h1 a).1 o with o|rfl
  ·rcases (h1 b).1 z with z|rfl
   ·exact h.uN a b o z j'
   exact L.sym _ _ (h.x9 _ (.inl hv) a o)
  rcases (h1 b).1 z with z|rfl
  ·exact h.x9 _ (.inl hv) b z
  omega
 x9 u hu r F:=by
  have K:(ib P u\/ib X' u)/\ib (N v) u:=by
   rcases hu with hu|hu
   ·grind
   grind
  rcases (h1 r).1 F with F|rfl
  ·exact h.x9 u K.1 r F
  exact L.sym _ _ K.2
 all u hu o:=by
  have K:ib (N v) u:=L.sym _ _ (o v ((h1 v).2 (.inr rfl)));rcases h.all u hu (fun r F=>o r ((h1 r).2 (.inl F))) with V|V
  ·grind
  grind
def BI.next (h:BI n N R P X'){v F:Nat}(hv:ib P v)(h2:∀ u,ib P1 u↔ib P u/\u≠v)(K:∀ u,ib F u↔ib X' u\/u=v):BI n N R P1 F where
 rb:=h.rb
 pb u hu:=h.pb u ((h2 u).1 hu).1
 xb u hu:=by
  rcases (K u).1 hu with o|rfl
  ·exact h.xb u o
  exact h.pb _ hv
 uN:=h.uN
 x9 u hu r z:=by
  rcases hu with hu|hu
  ·exact h.x9 u (.inl ((h2 u).1 hu).1) r z
  rcases (K u).1 hu with o|rfl
  ·exact h.x9 u (.inr o) r z
  exact h.x9 _ (.inl hv) r z
 all u hu L:=by
  rcases h.all u hu L with o|o
  ·grind
  grind
def BI.split (V:Gr n N)(h:BI n N R P X'){v P2:Nat}(hv:ib P v)(h1:∀ u,ib R1 u↔ib R u\/u=v)(h2:∀ u,ib P1 u↔ib P u/\ib (N v) u)(h3:∀ u,ib P2 u↔ib P u/\u≠v) :
  (lF n N R P C↔lF n N R1 P1 C\/lF n N R P2 C)/\(lF n N R1 P1 C->ib C v)/\(lF n N R P2 C->¬ib C v):=by
 have L:=h.Pj V (.inl hv);refine⟨⟨fun o=>?_,fun o=>?_⟩,fun o=>o.lo v ((h1 v).2 (.inr rfl)),fun o F=>?_⟩
 ·by_cases F:ib C v
  ·refine .inl ⟨o.mx,fun u hu=>?_,fun u hu=>?_⟩
   ·rcases (h1 u).1 hu with z|rfl
    ·exact o.lo u z
    exact F
   by_cases e:u=v
   ·grind
   rcases o.hi u hu with z|z
   ·grind
   exact .inr ((h2 u).2 ⟨z,o.mx.uN v u F hu (fun hh=>e hh.symm)⟩)
  refine .inr ⟨o.mx,o.lo,fun u hu=>?_⟩;rcases o.hi u hu with z|z
  ·exact .inl z
  grind
 ·rcases o with o|o
  ·refine⟨o.mx,fun u hu=>o.lo u ((h1 u).2 (.inl hu)),fun u hu=>?_⟩
   rcases o.hi u hu with z|z
   ·grind
   grind
  refine⟨o.mx,o.lo,fun u hu=>?_⟩;rcases o.hi u hu with z|z
  ·exact .inl z
  grind
 rcases o.hi v F with z|z
 ·exact L z
 grind
def BI.pivot (hG:Gr n N)(h:BI n N R P X'){u:Nat}(hu:ib P u\/ib X' u)(V:lF n N R P C):∃ q,ib C q/\ib P q/\¬ib (N u) q:=by
 refine oE fun j'=>?_;have z:∀ c,ib C c->ib (N u) c:=fun c K=>by
  rcases V.hi c K with o|o
  ·exact h.x9 u hu c o
  grind
 by_cases F:ib C u
 ·exact hG.KZ u (z u F)
 have L:u<n:=by
  rcases hu with o|o
  ·exact h.pb u o
  exact h.xb u o
 obtain⟨v,hv,o⟩:=V.mx.max u L F
 grind
end
def CD (x v:Nat):Prop:=ib x v/\∀ u,u<v->¬ib x u
def QA {x:Nat}(h:x≠0):∃ v,CD x v:=by
 have:∃ v,ib x v:=by
  refine oE fun o=>h (Eg fun i=>?_);rw[zero_testBit];exact vZ.2 fun z=>o ⟨i,z⟩
 obtain⟨v,hv⟩:=this
 induction v using Nat.strongRecOn with
 | _ v F =>
  by_cases z:∃ u,u<v/\ib x u
  ·grind
  exact⟨v,hv,fun u hu o=>z ⟨u,hu,o⟩⟩
def qwO {x v:Nat}(h:CD x v):x=2 ^ (v+1)*(x / 2 ^ (v+1))+2 ^ v:=by
 apply Eg;intro i;rw[R3 _ (by grind)];split
 ·rename_i o
  rw[testBit_two_pow];by_cases e:v=i
  ·subst e;rw[dH rfl];exact h.1
  rw[dB e];exact vZ.2 (h.2 i U)
 rename_i o;rw[testBit_div_two_pow]
 grind
def VV {x v:Nat}(h:CD x v)(i:Nat):(x-1).testBit i=if i<v then true else if i=v then false else x.testBit i:=by
 have o:=Nat.two_pow_pos v;have e:x-1=2 ^ (v+1)*(x / 2 ^ (v+1))+(2 ^ v-1):=by
  have:=qwO h;omega
 rw[e,R3 _ U];split
 ·grind
 rename_i z;rw[aM U,aM U,testBit_div_two_pow]
 grind
def QC {x v:Nat}(h:CD x v)(i:Nat):ib (x &&& (x-1)) i↔ib x i/\i≠v:=by
 unfold ib;rw[testBit_and,VV h,Bool.and_eq_true]
 grind
def QB {x:Nat}(h:x≠0):x &&& (x-1)<x:=by
 have:=and_le_right (n:=x) (m:=x-1);omega
def ZL {x v:Nat}(h:CD x v)(hx:x<2 ^ 64):x &&& (2 ^ 64-x)=2 ^ v:=by
 have o:x≠0:=fun e=>by have:=h.1;grind
 have hv:v<64:=Mm fun fh=>by
  have h1:=h.1;unfold ib at h1;rw[Ec (Cr hx (zA dc fh))]at h1;cases h1
 apply Eg;intro i;rw[testBit_and,show 2 ^ 64-x=2 ^ 64-((x-1)+1) by omega,R4 U,VV h,testBit_two_pow];by_cases z:i<v
 ·grind
 rw[aM z];by_cases F:i=v
 ·subst F
  rw[ba rfl,show x.testBit i=true from h.1,dH hv,dH rfl];rfl
 grind
def ZK {x v k:Nat}(h:CD x v)(hx:x<2 ^ k):v<k:=Mm fun fh=>by
 have h1:=h.1;unfold ib at h1;rw[Ec (Cr hx (zA dc fh))]at h1;cases h1
def ee (C:Nat)(k:Nat):J:=((List.range k).filter fun v=>C.testBit v).map fun (v:Nat)=>(v:Int)
def Oa (C k:Nat):ee C (k+1)=ee C k++if C.testBit k then [(k:Int)] else []:=by
 unfold ee;rw[lN,CF,qG]
 grind
def Qw (C:Nat):∀ k,(ee C k).length<=k
 | 0=>cP _
 | k+1=>by
  rw[Oa,length_append];have:=Qw C k
  grind
def GA {C k:Nat}{x:Int}:x∈ee C k↔∃ v:Nat,v<k/\ib C v/\x=v:=by
 simp only[ee,iG,wT,mem_range]
 grind
def Yj {C o n:Nat}(h:∀ v,ib C v->v<n)(F:∀ v,ib o v->v<n)(he:ee C n=ee o n):C=o:=by
 apply Eg;intro i;have key:ib C i↔ib o i:=by
  constructor
  ·intro z
   have:(i:Int)∈ee C n:=GA.2 ⟨i,h i z,z,rfl⟩;rw[he]at this;obtain⟨v,_,hv,e⟩:=GA.1 this
   grind
  intro z;have:(i:Int)∈ee o n:=GA.2 ⟨i,F i z,z,rfl⟩;rw[<-he]at this;obtain⟨v,_,hv,e⟩:=GA.1 this
  grind
 grind
def gb:J->J->Int
 | [],[]=>0
 | [],_::_ => -1
 | _::_,[]=>1
 | x::xs,y::h=>if x<y then -1 else if y<x then 1 else gb xs h
def QF:∀ xs,gb xs xs=0
 | []=>rfl
 | x::xs=>by simp[gb,QF xs]
def qxZ:∀ xs ys,gb xs ys = -1\/gb xs ys=0\/gb xs ys=1
 | [],[]=>.inr (.inl rfl)
 | [],_::_=>.inl rfl
 | _::_,[]=>.inr (.inr rfl)
 | x::xs,y::ys=>by
  simp only[gb];split
  ·omega
  split
  ·omega
  exact qxZ xs ys
def K4:∀ xs ys,gb ys xs =-gb xs ys
 | [],[]=>rfl
 | [],_::_=>rfl
 | _::_,[]=>rfl
 | x::xs,y::ys=>by
  simp only[gb];by_cases h1:x<y
  ·omega
  by_cases h:y<x
  ·omega
  rw[aM h1,aM h,aM h,aM h1];exact K4 xs ys
def K3:∀ {xs ys},gb xs ys=0->xs=ys
 | [],[],_=>rfl
 | [],_::_,h=>by simp[gb]at h
 | _::_,[],h=>by simp[gb]at h
 | x::xs,y::ys,h=>by
  simp only[gb]at h;split at h
  ·cases h
  split at h
  ·cases h
  rw[K3 h];grind
def K2:∀ {xs ys zs},gb xs ys<0->gb ys zs<0->gb xs zs<0
 | [],[],_,h,_=>U
 | [],_::_,[],_,h=>by simp[gb]at h
 | [],_::_,_::_,_,_=>by simp[gb]
 | _::_,[],_,h,_=>by simp[gb]at h
 | _::_,_::_,[],_,h=>by simp[gb]at h
 | x::xs,y::ys,z::zs,h1,o=>by
  simp only[gb]at h1 o ⊢;by_cases a:x<y
  ·omega
  rw[aM a]at h1;split at h1
  ·cases h1
  by_cases b:y<z
  ·omega
  rw[aM b]at o;split at o
  ·cases o
  rw[aM U,aM U];exact K2 h1 o
def C5 (L:List J):Prop:=L.Pairwise fun a b=>gb a b<0
section
variable {n:Nat}{N:Nat->Nat}{l:J}{v:Nat}{E_ E1 E2:List J}
def Qx {C k:Nat}(hv:ib C k):ee C (k+1)=ee C k++[(k:Int)]:=by rw[Oa,ba hv]
def Qy {C k:Nat}(hv:¬ib C k):ee C (k+1)=ee C k:=by rw[Oa,aM hv,gj]
end
structure mh where
 br:Int
 dst:Int
 wt:Int
 deriving DecidableEq
def bO:Ty mh:=⟨3,fun a=>[E a.br,E a.dst,E a.wt],fun _=>rfl,⟨0,0,0⟩⟩
def fV (n:Int)(a:mh):Prop:=0<=a.br/\a.br<n/\0<=a.dst/\a.dst<n /\ -1099511627776<=a.wt/\a.wt<=1099511627776
instance (n:Int) (a:mh):Decidable (fV n a):=by unfold fV;infer_instance
def cI (n:Int)(arcs:List mh):Int :=
 if n<0 then 1 else if 4096<n\/65536<(arcs.length:Int) then 5 else if ∀ a∈arcs,fV n a then 0 else 1
def X8 {n:Int}{arcs:List mh}(h:n<0):cI n arcs=1:=by simp[cI,h]
def X9 {n:Int}{arcs:List mh}(h:0<=n)(h1:4096<n\/65536<(arcs.length:Int)):cI n arcs=5:=by simp only[cI,aM (tM.2 h),h1,if_true]
def Ya {n:Int}{arcs:List mh}(h:0<=n)(h1:¬(4096<n\/65536<(arcs.length:Int))){k:Nat}(hk:k<arcs.length)(o:¬fV n (arcs.getD k bO.dflt)):cI n arcs=1:=by
 have:¬∀ a∈arcs,fV n a:=fun z=>o (z _ (cS _ hk));simp only[cI,aM (tM.2 h),h1,this,if_false]
def Qv {n:Int}{arcs:List mh}(h:0<=n)(h1:¬(4096<n\/65536<(arcs.length:Int)))(z:∀ i,i<arcs.length->fV n (arcs.getD i bO.dflt)):cI n arcs=0:=by
 have:∀ a∈arcs,fV n a:=fun a o=>by
  obtain⟨i,F,rfl⟩:=ga o
  grind
 simp only[cI,aM (tM.2 h),h1,if_false,ba this]
def Yl {n:Int}{arcs:List mh}(h:cI n arcs=0):0<=n/\n<=4096/\arcs.length<=65536/\∀ a∈arcs,fV n a:=by
 unfold cI at h
 grind
def oM (arcs:List mh)(u v:Nat):Prop:=u≠v/\∃ a∈arcs,(a.br=u/\a.dst=v)\/(a.br=v/\a.dst=u)
def oM.symm {arcs:List mh}{u v:Nat}(h:oM arcs u v):oM arcs v u:=⟨fun e=>h.1 e.symm,let ⟨a,o,z⟩:=h.2;⟨a,o,z.symm⟩⟩
def nE (L:List Nat)(u v:Nat):List Nat:=L.set u (L.getD u ed.dflt ||| 2 ^ v)
def QI (L:List Nat)(u v:Nat):(nE L u v).length=L.length:=by simp[nE]
def K9 {L:List Nat}{u v x:Nat}(hu:u<L.length):ib ((nE L u v).getD x ed.dflt) y↔ib (L.getD x ed.dflt) y\/(x=u/\y=v):=by
 unfold nE;by_cases e:x=u
 ·grind
 grind
def rh (L:List Nat)(a:mh):List Nat:=if a.br=a.dst then L else nE (nE L a.br.toNat a.dst.toNat) a.dst.toNat a.br.toNat
def fK (n:Nat)(arcs:List mh)(k:Nat):List Nat:=(arcs.take k).foldl rh (replicate n 0)
def qrf (n:Nat)(arcs:List mh):fK n arcs 0=replicate n 0:=rfl
def HV {n:Nat}{arcs:List mh}{k:Nat}(h:k<arcs.length):fK n arcs (k+1)=rh (fK n arcs k) (arcs.getD k bO.dflt):=by
 rw[fK,eX bO.dflt h,u0];rfl
def quP (L:List Nat)(a:mh):(rh L a).length=L.length:=by unfold rh;split<;>simp[nE]
def HU {n:Nat}{arcs:List mh}:∀ k,k<=arcs.length->(fK n arcs k).length=n
 | 0,_=>by simp[fK]
 | k+1,h=>by rw[HV U,quP,HU k U]
def HW {n:Nat}{arcs:List mh}(bX:∀ a∈arcs,fV n a){x y:Nat}:∀ k,k<=arcs.length->(ib ((fK n arcs k).getD x ed.dflt) y↔oM (arcs.take k) x y)
 | 0,_=>by
  constructor
  ·intro h
   have e:(fK n arcs 0).getD x ed.dflt=0:=by
    rw[qrf];simp only[List.getD,Mu];split<;>rfl
   grind
  rintro⟨_,a,z,_⟩;simp at z
 | k+1,h=>by
  have F:=HW bX (x:=x) (y:=y) k U;have K:=HU (n:=n) (arcs:=arcs) k U;have z:=bX _ (cS bO.dflt (show k<arcs.length by omega));unfold fV at z;have o:oM (arcs.take (k+1)) x y↔oM (arcs.take k) x y\/(x≠y/\(((arcs.getD k bO.dflt).br=x/\(arcs.getD k bO.dflt).dst=y)\/((arcs.getD k bO.dflt).br=y/\(arcs.getD k bO.dflt).dst=x))):=by
   rw[eX bO.dflt U];unfold oM;constructor
   ·grind
   grind
  rw[HV U,o,<-F];unfold rh;split
  ·grind
  rename_i e;rw[K9 (by rw[QI];omega),K9 U]
  grind
def wy (n:Nat)(arcs:List mh):List Nat:=fK n arcs arcs.length
def tJ (n:Nat)(arcs:List mh)(u:Nat):Nat:=(wy n arcs).getD u ed.dflt
def Fk {n:Nat}{arcs:List mh}(bX:∀ a∈arcs,fV n a){x:Nat}:ib (tJ n arcs x) y↔oM arcs x y:=by
 have:=HW bX (x:=x) (y:=y) arcs.length (cP _)
 rwa[mK]at this
def oM.lt {n:Nat}{arcs:List mh}(bX:∀ a∈arcs,fV n a){x:Nat}(h:oM arcs x y):x<n/\y<n:=by
 obtain⟨_,a,o,z⟩:=h;have:=bX a o;unfold fV at this;omega
def QJ {n:Nat}{arcs:List mh}(bX:∀ a∈arcs,fV n a):Gr n (tJ n arcs) :=
 ⟨fun _ _ h=>(Fk bX).2 ((Fk bX).1 h).symm,fun _ h=>((Fk bX).1 h).1 rfl,fun _ _ h=>(((Fk bX).1 h).lt bX).2⟩
def KX {C n:Nat}(h:∀ v,ib C v->v<n):C<2 ^ n:=lt_pow_two_of_testBit C fun i o=>vZ.2 fun z=>by grind
def Ym {n:Nat}{arcs:List mh}(bX:∀ a∈arcs,fV n a){k x:Nat}(hk:k<=arcs.length):(fK n arcs k).getD x ed.dflt<2 ^ n:=KX fun v hv=>by
 have:=(HW bX k hk).1 hv;exact(oM.lt (arcs:=arcs.take k) (fun a h=>bX a (rZ h)) this).2
end
section
open Go.Sl Go Go.Sort
def yt {a b:dr}:fE a b<0↔(a.br<b.br\/a.br=b.br/\(a.cU<b.cU\/a.cU=b.cU/\a.dst<b.dst)):=by
 simp only[fE,xX,ia,ne_eq];omega
def Ob {a b:Int × Int}:qW a b<0↔(a.1<b.1\/a.1=b.1/\a.2<b.2):=by
 simp only[qW,xX,ia,ne_eq];omega
def qk:SWO (ltOf fE) where
 irrefl x:=by simp only[ltOf,rL,yt];omega
 trans x y z h1 h:=by simp only[ltOf,jV,yt]at h1 h ⊢;omega
 ntrans x y z h1 h:=by simp only[ltOf,rL,yt]at h1 h ⊢;omega
def Db:SWO (ltOf qW) where
 irrefl x:=by simp only[ltOf,rL,Ob];omega
 trans x y z h1 h:=by simp only[ltOf,jV,Ob]at h1 h ⊢;omega
 ntrans x y z h1 h:=by simp only[ltOf,rL,Ob]at h1 h ⊢;omega
section
variable {α:Type} [Inhabited α] {cf:α->α->Int}(hO:SWO (ltOf cf)) {l:List α}
include hO
def Oc:(gF cf l).Perm l:=by
 have h:=pdq_sorts (ltOf cf) hO l.toArray 0 l.toArray.size (Lib.bitLen l.toArray.size) true true (bC _) (cP _) (Or.inl rfl);obtain⟨⟨o,_,z⟩,_⟩:=h;have e:gF cf l=(pdq (ltOf cf) l.toArray 0 l.toArray.size (Lib.bitLen l.toArray.size) true true).toList:=rfl;rw[e];generalize pdq (ltOf cf) l.toArray 0 l.toArray.size (Lib.bitLen l.toArray.size) true true=d at o z ⊢;have F:d.extract 0 l.toArray.size=d:=by
  have:=K5 (xs:=d)
  rwa[o]at this
 grind
def Et:(gF cf l).length=l.length:=(Oc hO).length_eq
def GB {a:α}:a∈gF cf l↔a∈l:=(Oc hO).mem_iff
def qzY:gF cf []=[]:=qD (Et hO)
def VW:(gF cf l).Pairwise fun a b=>¬cf b a<0:=by
 have h:=pdq_sorts (ltOf cf) hO l.toArray 0 l.toArray.size (Lib.bitLen l.toArray.size) true true (bC _) (cP _) (Or.inl rfl);obtain⟨⟨L,_,_⟩,z⟩:=h;have e:gF cf l=(pdq (ltOf cf) l.toArray 0 l.toArray.size (Lib.bitLen l.toArray.size) true true).toList:=rfl;rw[e];generalize pdq (ltOf cf) l.toArray 0 l.toArray.size (Lib.bitLen l.toArray.size) true true=d at L z ⊢;rw[u9];intro i j F K o;simp only[E7]at F K;have h1:=z i j (bC _) o U;rw[getElem!_pos d j K,getElem!_pos d i F]at h1
 simpa [ltOf] using h1
end
section
variable {α:Type} [DecidableEq α]
def JR (x:α)(r:List α):∃ t,ml (x::r)=x::t:=⟨_,rfl⟩
def CY (a b:α)(l:List α):ml (a::b::l)=a::(if a=b then (ml (b::l)).tail else ml (b::l)):=rfl
def Od (x y:α):∀ l:List α,ml (l++[y]++[x])=ml (l++[y])++(if y=x then [] else [x])
 | []=>by simp only[lQ,uR,ml];split<;>rfl
 | [a]=>by
  have h:=Od x y [];simp only[lQ,uR]at h ⊢;obtain⟨t,o⟩:=JR y [];rw[CY a y [x],CY a y [],h,o]
  grind
 | a::b::r=>by
  have h:=Od x y (b::r);simp only[uR]at h ⊢;obtain⟨t,o⟩:=JR b (r++[y]);rw[CY a b (r++[y]++[x]),CY a b (r++[y]),h,o]
  grind
def Je (d:α){l:List α}{k:Nat}(h:0<k)(hk:k<l.length):ml (l.take (k+1))=ml (l.take k)++(if l.getD (k-1) d=l.getD k d then [] else [l.getD k d]):=by
 obtain⟨j,rfl⟩:∃ j,k=j+1:=⟨k-1,U⟩
 rw[eX d hk,eX d (show j<l.length by omega)];exact Od _ _ _
def JS {a:α}:∀ {l:List α},a∈ml l↔a∈l
 | []=>zI
 | [x]=>by simp[ml]
 | x::y::r=>by
  have h:=JS (a:=a) (l:=y::r);rw[CY];obtain⟨t,o⟩:=JR y r
  grind
def Oe:∀ (l:List α),(ml l).length<=l.length
 | []=>cP _
 | [x]=>cP _
 | x::y::r=>by
  have h:=Oe (y::r);rw[CY]
  grind
def VX {lt:α->α->Prop}(K:∀ x y,¬lt x y->¬lt y x->x=y)(L:∀ x y z,lt x y->lt y z->lt x z):∀ {l:List α},l.Pairwise (fun a b=>¬lt b a)->(ml l).Pairwise lt
 | [],_=>Pairwise.nil
 | [x],_=>by simp[ml]
 | x::y::r,h=>by
  obtain⟨h1,V⟩:=Ef.1 h;have F:=VX K L V;rw[CY];obtain⟨t,he⟩:=JR y r;rw[he]at F ⊢;obtain⟨i1,i2⟩:=Ef.1 F;by_cases o:x=y
  ·grind
  simp only[aM o];have j':lt x y:=oE fun hn=>o (K x y hn (h1 y ku))
  exact Ef.2 ⟨fun z hz=>by
   grind ,F⟩
end
end
section
open Go.Sl
abbrev bZ:Int:=1125899906842624
abbrev dg (D:J)(i:Int):Int:=D.getD i.toNat W.dflt
abbrev iS (c:J)(e:dr):Int:=c.getD e.cU.toNat W.dflt
inductive lK (E_:List dr) (c:J) (G:Int->Prop):Int->Int->Prop
 | aF {a:Int}:G a->lK E_ c G a 0
 | step {e:dr}{k:Int}:e∈E_->lK E_ c G e.dst k->lK E_ c G e.br (iS c e+k)
structure pR (E_:List dr) (c:J) (n:Nat):Prop where
 br:∀ e∈E_,0<=e.br/\e.br<n
 dst:∀ e∈E_,0<=e.dst/\e.dst<n
 cU:∀ e∈E_,0<=e.cU/\e.cU<c.length
 aT:∀ x∈c,0<=x/\x<=1099511627776
def pR.iS {E_:List dr}{c:J}{n:Nat}(h:pR E_ c n){e:dr}(he:e∈E_):0<=iS c e/\iS c e<=1099511627776 :=
 h.aT _ (cS W.dflt (by have:=h.cU e he;omega))
def pR.getD {E_:List dr}{c:J}{n k:Nat}(h:pR E_ c n)(hk:k<E_.length):(0<=(E_.getD k aV.dflt).br/\(E_.getD k aV.dflt).br<n)/\(0<=(E_.getD k aV.dflt).dst/\(E_.getD k aV.dflt).dst<n)/\(0<=(E_.getD k aV.dflt).cU/\(E_.getD k aV.dflt).cU<c.length)/\0<=Go.Proofs.YtmapkjoefdgjfaaGreatDoor.iS c (E_.getD k aV.dflt)/\Go.Proofs.YtmapkjoefdgjfaaGreatDoor.iS c (E_.getD k aV.dflt)<=1099511627776 :=
 have hm:=cS aV.dflt hk
 ⟨h.br _ hm,h.dst _ hm,h.cU _ hm,h.iS hm⟩
structure td (E_:List dr) (c:J) (G:Int->Prop) (n:Nat) (D:J):Prop where
 len:D.length=n
 et:∀ i:Nat,i<n->0<=dg D i/\dg D i<=bZ
 ww:∀ i:Nat,i<n->dg D i<bZ->lK E_ c G i (dg D i)
 Of:∀ i:Nat,i<n->G i->dg D i=0
def xA (c:J)(D:J)(e:dr):Prop:=dg D e.dst<bZ->dg D e.br<=dg D e.dst+iS c e
structure db (E_:List dr) (c:J) (G:Int->Prop) (n:Nat) (D:J):Prop where
 len:D.length=n
 et:∀ i:Nat,i<n->0<=dg D i/\dg D i<=bZ
 ww:∀ i:Nat,i<n->dg D i<bZ->lK E_ c G i (dg D i)
 low:∀ i:Nat,i<n->∀ k,lK E_ c G i k->dg D i<=k
def lK.Dw {E_:List dr}{c:J}{G:Int->Prop}{n:Nat}(h:pR E_ c n){a k:Int}(Y:lK E_ c G a k):0<=k:=by
 induction Y with
 | aF _=>omega
 | step he _ o=>have:=h.iS he;omega
def td.cr {E_:List dr}{c:J}{G:Int->Prop}{n:Nat}{D:J}(o:pR E_ c n)(h:td E_ c G n D)(F:∀ e∈E_,xA c D e):db E_ c G n D:=by
 refine⟨h.len,h.et,h.ww,?_⟩;have key:∀ {a k:Int},lK E_ c G a k->0<=a->a<n->dg D a<=k:=by
  intro a k Y
  induction Y with
  | @aF a I =>
   intro K h1;have:=h.Of a.toNat U (by grind)
   grind
  | @step e k he _ L =>
   intro K h1;have z:=o.dst e he;have hc:=o.iS he;have h2:=L z.1 z.2;have V:=F e he;by_cases h4:dg D e.dst<bZ
   ·have:=V h4;omega
   have:=(h.et e.br.toNat U).2
   grind
 grind
def db.aF {E_:List dr}{c:J}{G:Int->Prop}{n:Nat}{D:J}(h:db E_ c G n D){i:Nat}(hi:i<n)(I:G i):dg D i=0:=by
 have:=h.low i hi 0 (.aF I);have:=h.et i hi;omega
def db.GV {E_:List dr}{c:J}{G:Int->Prop}{n:Nat}{D:J}(o:pR E_ c n)(h:db E_ c G n D){e:dr}(he:e∈E_):xA c D e:=by
 intro K;have z:=o.dst e he;have F:=o.br e he;have h1:=h.ww e.dst.toNat U (by grind);rw[jW z.1]at h1;have L:=h.low e.br.toNat U _ (by rw[jW F.1];exact .step he h1)
 grind
def gO (D:J):Nat:=(D.map Int.toNat).sum
def NB {v:Int}:∀ {D:J}{i:Nat},i<D.length->v.toNat<(D.getD i W.dflt).toNat->gO (D.set i v)<gO D
 | [],i,h,_=>by simp at h
 | x::D,0,_,h=>by simp[gO]at h ⊢;omega
 | x::D,i+1,h,o=>by
  have:=NB (i:=i) (D:=D) (by simpa using h) (by simpa using o);simp only[gO,mY,pV,sum_cons]at this ⊢;omega
def DB {D:J}{a v:Int}(h:0<=a)(o:0<=b)(z:b<D.length):dg (D.set b.toNat v) a=if a=b then v else dg D a:=by
 grind
def td.rf {E_:List dr}{c:J}{G:Int->Prop}{n:Nat}{D:J}(L:pR E_ c n)(h:td E_ c G n D){e:dr}(he:e∈E_)(h1:dg D e.dst<bZ)(h2:dg D e.dst+iS c e<dg D e.br) :
  td E_ c G n (D.set e.br.toNat (dg D e.dst+iS c e))/\gO (D.set e.br.toNat (dg D e.dst+iS c e))<gO D:=by
 have V:=L.dst e he;have hs:=L.br e he;have hc:=L.iS he;have hl:=h.len;have r1:=h.et e.dst.toNat U;have r2:=h.et e.br.toNat U;rw[jW V.1]at r1;rw[jW hs.1]at r2;have F:=h.ww e.dst.toNat U (by grind);rw[jW V.1]at F;have I:∀ i:Nat,dg (D.set e.br.toNat (dg D e.dst+iS c e)) i=if (i:Int)=e.br then dg D e.dst+iS c e else dg D i:=fun i=>DB U hs.1 U
 refine⟨⟨by simp[hl],fun i z=>?_,fun i z o=>?_,fun i z hgo=>?_⟩,NB U (by simp only[dg]at *;omega)⟩
 ·rw[I];split
  ·omega
  exact h.et i z
 ·rw[I]at o ⊢
  split
  ·rename_i K;rw[K,FC];exact .step he F
  rename_i K;rw[aM K]at o;exact h.ww i z o
 rw[I];split
 ·rename_i K
  have:=h.Of i z hgo
  grind
 exact h.Of i z hgo
noncomputable def zi (p:Prop):Int:=@ite _ p (Classical.propDecidable _) 0 bZ
def CZ {p:Prop}(h:p):zi p=0:=ba h
def JT {p:Prop}(h:¬p):zi p=bZ:=aM h
def VY {p q:Prop}(h:p↔q):zi p=zi q:=by
 grind
noncomputable def rA (G:Int->Prop)(n:Nat):J:=(List.range n).map fun (i:Nat)=>zi (G (i:Int))
def EJ {G:Int->Prop}{n i:Nat}(hi:i<n):dg (rA G n) i=zi (G (i:Int)):=by simp[dg,rA,List.getD,hi]
def Uv (E_:List dr)(c:J)(G:Int->Prop)(n:Nat):td E_ c G n (rA G n):=by
 refine⟨by simp[rA],fun i o=>?_,fun i o h=>?_,fun i o h=>?_⟩
 ·rw[EJ o]
  by_cases g:G (i:Int)
  ·rw[CZ g];grind
  rw[JT g];grind
 ·rw[EJ o]at h ⊢
  by_cases g:G (i:Int)
  ·rw[CZ g];exact .aF g
  rw[JT g]at h;omega
 rw[EJ o,CZ h]
noncomputable def dM (G:Int->Prop)(n k:Nat):J:=(List.range n).map fun (i:Nat)=>zi (i<k->G (i:Int))
def Qb (G:Int->Prop)(n k:Nat):(dM G n k).length=n:=by simp[dM]
def Qa (G:Int->Prop)(n:Nat):dM G n 0=replicate n 0:=by
 apply jB (by simp[dM]);intro i h1 o;simp only[dM,getElem_map,tI,getElem_replicate];exact CZ fun h=>absurd h (eo _)
def Qe (G:Int->Prop)(n:Nat):dM G n n=rA G n:=by
 unfold dM rA
 simp_all
def Qd {G:Int->Prop}{n k:Nat}(h:¬G (k:Int)):(dM G n k).set k bZ=dM G n (k+1):=by
 apply jB (by simp[dM]);intro i h1 F;rw[tS];simp only[dM,getElem_map,tI];split
 ·rename_i e;subst e;rw[JT];grind
 rename_i e;exact VY ⟨fun o z=>o U,fun o z=>o U⟩
def qqW {G:Int->Prop}{n k:Nat}(h:G (k:Int)):dM G n k=dM G n (k+1):=by
 unfold dM;refine Bc fun i o=>VY ⟨fun z o=>?_,fun z o=>z U⟩
 grind
def Qc {G:Int->Prop}{n k:Nat}{v:Int}(h:G (k:Int)):((dM G n k).set k v).set k 0=dM G n (k+1):=by
 rw[set_set,<-qqW h];apply jB sm;intro i h1 o;rw[tS];split
 ·rename_i e;subst e
  simp only[dM,getElem_map,tI];exact(CZ fun h=>absurd h (Nat.lt_irrefl _)).symm
 rfl
inductive IR|qBo|Dx|Ba
 deriving DecidableEq
structure Og where
 exp:Nat
 next:Int
 vis:J->Option Int
 path:J
structure Pk where
 t:aa
 H:J->Int
 lim:Nat
 ru:Int
def oF (t:aa)(op:Nat):Int:=(t.M.getD op bz).aT
section
variable {I':Pk}{rec:J->Int->Og->IR × Og}{s:J}{g:Int}{op:Nat}{l:List Nat}{S:Og}
end
inductive mg (t:aa):J->J->Int->Prop
 | aF {s:J}:cE s t.aF->mg t s [] 0
 | step {s:J}{op:Nat}{p:J}{c:Int}:op<t.M.length->jZ t s op->mg t (cD t s op) p c->mg t s ((op:Int)::p) (oF t op+c)
def x6 {t:aa}(I:aJ t){op:Nat}(h:op<t.M.length):0<=oF t op/\oF t op<=1048576:=⟨(I.op op h).l9,(I.op op h).pG⟩
def mg.nn {t:aa}(I:aJ t){s p:J}{c:Int}(h:mg t s p c):0<=c:=by
 induction h with
 | aF _=>exact iq _
 | step o _ _ z=>have:=x6 I o;omega
end
section
open Go.Sl Go

end
section
open Go.Sl
def fj (n:Nat)(f:Nat->Int)(k:Nat):J:=(List.range n).map fun i=>if i<k then f i else 0
def Fj (n:Nat)(f:Nat->Int)(k:Nat):(fj n f k).length=n:=by simp[fj]
def Lw (n:Nat)(f:Nat->Int):fj n f 0=replicate n 0:=by
 apply jB (by simp[fj]);intro i h1 h;simp[fj]
def Lx {n:Nat}{f:Nat->Int}{k:Nat}:(fj n f k).set k (f k)=fj n f (k+1):=by
 apply jB (by simp[fj]);intro i h1 o;rw[tS];simp only[fj,getElem_map,tI];split
 ·rename_i e;subst e;rw[ba U]
 by_cases h:i<k
 ·rw[ba h,ba U]
 rw[aM h,aM U]
def Rc {n:Nat}{f:Nat->Int}{k i:Nat}(h:i<n)(hk:i<k):(fj n f k).getD i W.dflt=f i:=by simp[fj,List.getD,h,hk]
def wJ (l:List UInt8):Nat:=l.foldl (fun v c=>v*10+(c.toNat-48)) 0
def Oh {d:Nat}(h:d<10):(UInt8.ofNat (48+d)).toNat=48+d:=by rw[UInt8.toNat_ofNat'];omega
def qAz (u:Nat):wJ (Go.Lib.decDigits u)=u/\Go.Lib.decDigits u≠[]/\∀ c∈Go.Lib.decDigits u,48<=c.toNat:=by
 induction u using Nat.strongRecOn with
 | _ u z =>
  rw[Go.Lib.decDigits];by_cases h:u<10
  ·rw[dif_pos h]
   refine⟨?_,sm,fun c o=>?_⟩
   ·unfold wJ;rw[xe,foldl_nil,Oh h];omega
   rw[fU.1 o,Oh h];omega
  rw[dif_neg h];obtain⟨h1,F,K⟩:=z (u / 10) U;have L:=Oh (DZ u (show 10>0 by decide));refine⟨?_,sm,fun c o=>?_⟩
  ·unfold wJ at h1 ⊢
   grind
  grind
def JU {n:Int}(h:0<=n):(wJ (kf n):Int)=n/\kf n≠[]/\∀ c∈kf n,48<=c.toNat:=by
 obtain⟨u,rfl⟩:∃ u:Nat,n=u:=⟨n.toNat,U⟩
 unfold kf;rw[Go.Lib.itoa_nonneg];obtain⟨h1,o,z⟩:=qAz u
 grind
def VZ {p:UInt8->Bool}:∀ {a b:List UInt8},(∀ c∈a,p c=true)->(∀ x r,b=x::r->p x=false)->(a++b).takeWhile p=a
 | [],[],_,_=>rfl
 | [],x::r,_,h=>by simp_all
 | c::a,b,h,o=>by
  rw[uR,takeWhile_cons,h c ku,ba rfl,VZ (fun d z=>h d (nt _ z)) o]
def V0 {S:ct}{c:J}{s:Nat}(h:0<=c.getD s W.dflt):(mJ S c s).takeWhile (fun x=>decide (x≠32))=kf (c.getD s W.dflt):=by
 unfold mJ;refine VZ (fun x hx=>?_) (fun x r e=>?_)
 ·have:=(JU h).2.2 x hx
  rw[jV];rintro rfl
  grind
 cases o:ml (gF qW (JQ S c s)) with
 | nil=>grind
 | cons y t =>
  rw[o,pA]at e;simp only[oY,uR,List.cons.injEq]at e
  grind
def qAA {S:ct}{c:J}{s t:Nat}(h:0<=c.getD s W.dflt)(o:0<=c.getD t W.dflt)(e:mJ S c s=mJ S c t):c.getD s W.dflt=c.getD t W.dflt:=by
 have h1:=V0 (S:=S) h;rw[e,V0 o]at h1;have:=(JU h).1;rw[<-h1,(JU o).1]at this;omega
def y6 {α:Type}[DecidableEq α]:∀ {l m:List α},l.Nodup->(∀ x∈l,x∈m)->l.length<=m.length
 | [],_,_,_=>bC _
 | x::l,m,o,h=>by
  obtain⟨h1,z⟩:=wW.1 o;have hx:=h x ku;have K:=y6 (m:=m.erase x) z fun y F=>(Mk (fun e=>h1 (by grind))).2 (h y (nt _ F))
  grind
def Jm {u:List ByteArray}{s:ByteArray}:u.any (fun x=>decide (x=s))=true↔s∈u:=by
 grind
def JV:∀ (l u:List ByteArray),u.Nodup->(l.foldl (fun u s=>if u.any (fun x=>decide (x=s)) then u else u++[s]) u).Nodup/\∀ x,x∈l.foldl (fun u s=>if u.any (fun x=>decide (x=s)) then u else u++[s]) u↔x∈u\/x∈l
 | [],u,h=>⟨h,fun x=>sm⟩
 | s::l,u,h=>by
  rw[xe];by_cases o:s∈u
  ·rw[ba (Jm.2 o)]
   obtain⟨h1,z⟩:=JV l u h
   grind
  rw[aM (fun h=>o (Jm.1 h))];obtain⟨h1,z⟩:=JV l (u++[s]) (by grind)
  grind
def V1 (l:List ByteArray):(cR l).Nodup:=(JV l [] Be).1
def JW {l:List ByteArray}{x:ByteArray}:x∈cR l↔x∈l:=by
 have:=(JV l [] Be).2 x
 simpa [cR] using this
def Au (l:List ByteArray):(dX l).length=l.length:=by simp[dX]
def V2 {l:List ByteArray}{i:Nat}(hi:i<l.length):(dX l).getD i W.dflt=((cR l).findIdx (fun x=>decide (x=l[i])):Int):=by simp[dX,List.getD,hi]
def Er {l:List ByteArray}{i:Nat}(hi:i<l.length):0<=(dX l).getD i W.dflt/\(dX l).getD i W.dflt<(cR l).length:=by
 rw[V2 hi];have hm:l[i]∈cR l:=JW.2 (zq hi)
 grind
def V3 {l:List ByteArray}{v:Nat}(hv:v<(cR l).length):∃ i,i<l.length/\(dX l).getD i W.dflt=(v:Int):=by
 have hm:(cR l)[v]∈l:=JW.1 (zq hv);obtain⟨i,h,he⟩:=ga hm;refine⟨i,h,?_⟩;rw[V2 h,he];congr 1;rw[findIdx_eq hv];refine⟨dH rfl,fun j o=>?_⟩;rw[rL];intro e;exact absurd e (u9.1 (V1 l) j v U hv o)
def BC (l:List ByteArray):(cR l).length<=l.length:=y6 (V1 l) fun _ hx=>JW.1 hx
def Tz (S:ct)(c:J):(jr S c).length=S.st.toNat:=by simp[jr]
def Tx {S:ct}{l:List ByteArray}(hl:l.length=S.st.toNat):(cR l).length<=(cR (jr S (dX l))).length:=by
 have z:∀ v:Nat,v<(cR l).length->∃ i,i<l.length/\(dX l).getD i W.dflt=(v:Int):=fun v hv=>V3 hv
 let F:Nat->ByteArray:=fun v=>if h:v<(cR l).length then ⟨(mJ S (dX l) (Classical.choose (z v h))).toArray⟩ else ⟨#[]⟩
 have K:∀ v (h:v<(cR l).length),∃ i,i<l.length/\(dX l).getD i W.dflt=(v:Int)/\F v=⟨(mJ S (dX l) i).toArray⟩:=fun v h=>by
  grind
 have fh:=y6 (l:=(List.range (cR l).length).map F) (m:=cR (jr S (dX l))) ?_ ?_
 ·grind
 ·rw[IC,zB]
  refine DG (fun {a b} ha hb j'=>?_) Bj;rw[mem_range]at ha hb;obtain⟨i,hi,L,o⟩:=K a ha;obtain⟨j,hj,H',V⟩:=K b hb;rw[o,V];intro e;have e2:mJ S (dX l) i=mJ S (dX l) j:=by
   injection e with e
   have:=uZ Array.toList e
   simpa using this
  have:=qAA (Er hi).1 (Er hj).1 e2;omega
 intro x hx;obtain⟨v,hv,rfl⟩:=iG.1 hx;rw[mem_range]at hv;obtain⟨i,hi,L,o⟩:=K v hv;rw[JW,o];unfold jr
 grind
def JX:∀ {N:Nat}{l:J},l.Nodup->(∀ v∈l,0<=v/\v<(N:Int))->l.length<=N
 | 0,l,_,h=>by
  cases l with
  | nil=>grind
  | cons x r=>have:=h x ku;omega
 | N+1,l,F,h=>by
  have V:=JX (N:=N) (l:=l.filter fun v=>decide (v≠(N:Int))) (F.filter _) (fun v hv=>by
   grind )
  have h1:(l.filter fun v=>decide (v≠(N:Int))).length+(l.filter fun v => !decide (v≠(N:Int))).length=l.length:=by
   rw[<-R5,<-R5];have:=length_eq_countP_add_countP (fun v=>decide (v≠(N:Int))) (l:=l);simp only[tL,jV]at this;rw[this];congr 1;apply countP_congr;intro a _;simp
  have h2:(l.filter fun v => !decide (v≠(N:Int))).length<=1:=by
   have z:=F.filter (fun v => !decide (v≠(N:Int)));have o:∀ v∈(l.filter fun v => !decide (v≠(N:Int))),v=(N:Int):=fun v hv=>by grind
   generalize (l.filter fun v => !decide (v≠(N:Int)))=m at z o ⊢
   match m,z,o with
   | [],_,_=>simp
   | [_],_,_=>simp
   | a::b::r,z,o =>
    have K:=o a sm;have L:=o b sm;subst K;rw[L]at z;simp at z
  omega
def V4:∀ {l:J}{k:Nat}{v:Int},k<l.length->((l.set k v).map Int.toNat).sum+(l.getD k W.dflt).toNat=(l.map Int.toNat).sum+v.toNat
 | x::r,0,v,_=>by grind
 | x::r,k+1,v,h=>by
  have:=V4 (l:=r) (k:=k) (v:=v) (by simpa using h)
  grind
structure me (n:Nat) (a:gR):Prop where
 s0:0<=a.br
 s1:a.br<n
 d0:0<=a.dst
 d1:a.dst<n
 w0:0<=a.wt
 w1:a.wt<=1048576
structure iz (n:Nat) (s:wx):Prop where
 ol:s.out.length=n
 wl:s.waits.length=n
 ob:∀ i,i<n->0<=s.out.getD i W.dflt/\s.out.getD i W.dflt<=1125899906842624
 qb:∀ i∈s.q,0<=i/\i<n
 qn:s.q.Nodup
 qw:∀ i:Int,0<=i->i<n->(s.waits.getD i.toNat ah.dflt=true↔i∈s.q)
def iz.ql {n:Nat}{s:wx}(h:iz n s):s.q.length<=n:=JX h.qn h.qb
def rP (s:wx):Nat:=2*(s.out.map Int.toNat).sum+s.q.length
def rc (s:wx)(a:gR):Prop:=s.out.getD a.dst.toNat W.dflt<=s.out.getD a.br.toNat W.dflt+a.wt
section
variable {n:Nat}{s:wx}{i:Int}{a:gR}
def rE {x y:Int}(hx:0<=x)(o:0<=y)(h:x.toNat=y.toNat):x=y:=U
def iz.rel (h:iz n s)(hi:0<=i/\i<n)(ha:me n a):iz n (eN i s a)/\rP (eN i s a)<=rP s/\(∀ j∈s.q,j∈(eN i s a).q)/\(∀ j,(eN i s a).out.getD j W.dflt<=s.out.getD j W.dflt) /\
  ((eN i s a).out=s.out/\s.out.getD a.dst.toNat W.dflt<=s.out.getD i.toNat W.dflt+a.wt\/i≠a.dst/\(eN i s a).out=s.out.set a.dst.toNat (s.out.getD i.toNat W.dflt+a.wt)/\s.out.getD i.toNat W.dflt+a.wt<s.out.getD a.dst.toNat W.dflt/\a.dst∈(eN i s a).q):=by
 obtain⟨_,_,d0,d1,w0,w1⟩:=ha;have J':=h.ob i.toNat U;have P':=h.ob a.dst.toNat U;unfold eN;split
 ·grind
 rename_i hc;have F:i≠a.dst:=fun e=>by grind
 have K:∀ j,j<n->0<=(s.out.set a.dst.toNat (s.out.getD i.toNat W.dflt+a.wt)).getD j W.dflt/\(s.out.set a.dst.toNat (s.out.getD i.toNat W.dflt+a.wt)).getD j W.dflt<=1125899906842624:=fun j z=>by
  rw[nI];split
  ·omega
  exact h.ob j z
 have fh:∀ j,(s.out.set a.dst.toNat (s.out.getD i.toNat W.dflt+a.wt)).getD j W.dflt<=s.out.getD j W.dflt:=fun j=>by
  grind
 have H':=V4 (l:=s.out) (k:=a.dst.toNat) (v:=s.out.getD i.toNat W.dflt+a.wt) (by rw[h.ol];omega);have hm:((s.out.set a.dst.toNat (s.out.getD i.toNat W.dflt+a.wt)).map Int.toNat).sum+1<=(s.out.map Int.toNat).sum:=by
  have:(s.out.getD i.toNat W.dflt+a.wt).toNat<(s.out.getD a.dst.toNat W.dflt).toNat:=U;omega
 split
 ·rename_i o
  refine⟨⟨by rw[iU];exact h.ol,h.wl,K,h.qb,h.qn,h.qw⟩,by unfold rP;grind,fun _ h=>h,fh,.inr ⟨F,rfl,U,(h.qw _ d0 d1).1 o⟩⟩
 rename_i o;have V:a.dst∉s.q:=fun hq=>o ((h.qw _ d0 d1).2 hq);refine⟨⟨by rw[iU];exact h.ol,by rw[iU];exact h.wl,K,fun j z=>?_,?_,fun j L j'=>?_⟩,?_,fun _ h=>L6 _ h,fh,.inr ⟨F,rfl,U,sm⟩⟩
 ·rcases kK.1 z with z|z
  ·exact h.qb j z
  grind
 ·rw[DY]
  exact⟨h.qn,sm,fun x hx y hy e=>V (by grind)⟩
 ·simp only
  rw[nI,h.wl];by_cases e:a.dst=j
  ·grind
  rw[aM (fun hh=>e (rE d0 L hh.1)),h.qw j L j']
  grind
 unfold rP
 grind
def iz.Dc:∀ {L:List gR}{s:wx},iz n s->0<=i/\i<n->(∀ a∈L,me n a)->iz n (L.foldl (eN i) s)/\rP (L.foldl (eN i) s)<=rP s/\∀ j,(L.foldl (eN i) s).out.getD j W.dflt<=s.out.getD j W.dflt
 | [],s,h,_,_=>⟨h,cP _,fun _=>iq _⟩
 | a::L,s,h,o,z=>by
  obtain⟨h1,K,_,V,_⟩:=h.rel o (z a ku);obtain⟨g1,g2,g3⟩:=h1.Dc o fun b F=>z b (nt _ F)
  grind
def iz.pop {i:Int}{r:J}(h:iz n s)(hq:s.q=i::r):iz n ⟨s.out,s.waits.set i.toNat false,r⟩/\rP ⟨s.out,s.waits.set i.toNat false,r⟩+1=rP s/\0<=i/\i<n:=by
 have o:=h.qb i (by rw[hq];simp);have L:=h.qn;rw[hq]at L;obtain⟨V,F⟩:=wW.1 L;refine⟨⟨h.ol,by rw[iU];exact h.wl,h.ob,fun j hj=>h.qb j (by grind),F,fun j z K=>?_⟩,by unfold rP;grind,o⟩;simp only;rw[nI,h.wl];by_cases e:i=j
 ·grind
 rw[aM (fun hh=>e (rE o.1 z hh.1)),h.qw j z K,hq]
 grind
variable {arcs:List (List gR)}
def iz.step (h:iz n s)(z:∀ l∈arcs,∀ a∈l,me n a):iz n (cQ arcs s)/\(fb s=false->rP (cQ arcs s)<rP s)/\∀ j,(cQ arcs s).out.getD j W.dflt<=s.out.getD j W.dflt:=by
 unfold cQ;split
 ·rename_i hq
  exact⟨h,fun o=>by simp[fb,hq]at o,fun _=>iq _⟩
 rename_i i r hq;obtain⟨h1,F,o⟩:=h.pop hq
 obtain⟨g1,g2,g3⟩:=h1.Dc (L:=arcs.getD i.toNat []) o (fun a hm=>by
  grind )
 grind
def iz.AZ (h:iz n s)(z:∀ l∈arcs,∀ a∈l,me n a):∀ k,iz n (ln (cQ arcs) k s)/\(fb (ln (cQ arcs) k s)=false->rP (ln (cQ arcs) k s)+k<=rP s)/\∀ j,(ln (cQ arcs) k s).out.getD j W.dflt<=s.out.getD j W.dflt
 | 0=>⟨h,fun _=>cP _,fun _=>iq _⟩
 | k+1=>by
  obtain⟨h1,F,K⟩:=iz.AZ h z k;obtain⟨g1,g2,g3⟩:=h1.step z;refine⟨g1,fun L=>?_,fun j=>uJ (g3 j) (K j)⟩;have o:fb (ln (cQ arcs) k s)=false:=by
   cases he:fb (ln (cQ arcs) k s) with
   | false=>rfl
   | true =>
    have:ln (cQ arcs) (k+1) s=ln (cQ arcs) k s:=N9 arcs _ he
    grind
  have V:=F o;have a2:=g2 o;show rP (cQ arcs _)+(k+1)<=rP s;omega
def iz.ends (h:iz n s)(o:∀ l∈arcs,∀ a∈l,me n a):fb (ln (cQ arcs) (rP s+1) s)=true:=by
 obtain⟨_,z,_⟩:=h.AZ o (rP s+1)
 grind
def iz.fix (h:iz n s)(o:∀ l∈arcs,∀ a∈l,me n a):qy (cQ arcs) fb s=ln (cQ arcs) (rP s+1) s:=li (N9 arcs) (h.ends o)
end
section
variable {α:Type}{v d:α}
def GC:∀ {fr:J}{l:List α},(fr.foldl (fun o i=>o.set i.toNat v) l).length=l.length
 | [],_=>rfl
 | i::fr,l=>by rw[xe,GC,iU]
def JY:∀ {fr:J}{l:List α}{j:Nat},j<l.length->(∃ i∈fr,i.toNat=j)->(fr.foldl (fun o i=>o.set i.toNat v) l).getD j d=v
 | [],_,_,_,h=>by grind
 | i::fr,l,j,F,h=>by
  rw[xe];by_cases z:∃ i∈fr,i.toNat=j
  ·exact JY (by grind) z
  obtain⟨K,hm,he⟩:=h;rcases gT.1 hm with rfl|hm
  ·have key:∀ {fr:J}{l:List α},(¬∃ i∈fr,i.toNat=j)->(fr.foldl (fun o i=>o.set i.toNat v) l).getD j d=l.getD j d:=by
    intro fr
    induction fr with
    | nil=>grind
    | cons i fr L =>
     grind
   grind
  grind
def JZ:∀ {fr:J}{l:List α}{j:Nat},(¬∃ i∈fr,i.toNat=j)->(fr.foldl (fun o i=>o.set i.toNat v) l).getD j d=l.getD j d
 | [],_,_,_=>rfl
 | i::fr,l,j,h=>by rw[xe,JZ (fun⟨k,hk,e⟩=>h ⟨k,nt _ hk,e⟩),nI,aM (fun z=>h ⟨i,ku,z.1⟩)]
end
section
variable {n:Nat}{fr:J}
def V5 (h1:fr.Nodup)(h2:∀ i∈fr,0<=i/\i<n):iz n (fZ n fr) where
 ol:=by unfold fZ;simp only;rw[GC];simp
 wl:=by unfold fZ;simp only;rw[GC];simp
 ob i o:=by
  unfold fZ;simp only;by_cases h:∃ k∈fr,k.toNat=i
  ·rw[JY (by grind) h];omega
  rw[JZ h,F6 o];omega
 qb:=h2
 qn:=h1
 qw i z h1:=by
  unfold fZ;simp only;by_cases h:∃ k∈fr,k.toNat=i.toNat
  ·rw[JY (by simp;omega) h]
   grind
  rw[JZ h,F6 U]
  grind
def qqE {i:Int}(hi:i∈fr)(h:0<=i)(h1:i<n):(fZ n fr).out.getD i.toNat W.dflt=0:=by
 unfold fZ;exact JY (by simp;omega) ⟨i,hi,rfl⟩
def qsM {i:Nat}(hi:i<n)(h:¬∃ k∈fr,k.toNat=i):(fZ n fr).out.getD i W.dflt=1125899906842624:=by
 unfold fZ;simp only;rw[JZ h,F6 hi]
variable {s:wx}{i:Int}{A:gR->Prop}
def V6 (hA:∀ a,A a->me n a):∀ {L:List gR}{s:wx},iz n s->0<=i/\i<n->(∀ a∈L,me n a/\a.br=i)->(∀ a,A a->a.br∈s.q\/rc s a\/a∈L)->∀ a,A a->a.br∈(L.foldl (eN i) s).q\/rc (L.foldl (eN i) s) a
 | [],s,_,_,_,h,a,ha=>by
  grind
 | a0::L,s,hs,hi,hL,h,a,ha=>by
  obtain⟨o,z⟩:=hL a0 ku;obtain⟨h1,_,hq,fh,hd⟩:=hs.rel hi o;refine V6 hA h1 hi (fun b F=>hL b (nt _ F)) (fun b F=>?_) a ha;have K:=hA b F;rcases h b F with h|h|h
  ·grind
  ·rcases hd with ⟨e,_⟩|⟨_,e,j',hm⟩
   ·right;left;unfold rc at h ⊢;grind
   by_cases V:b.br=a0.dst
   ·grind
   right;left;unfold rc at h ⊢;have h2:=fh b.dst.toNat;have h3:(eN i s a0).out.getD b.br.toNat W.dflt=s.out.getD b.br.toNat W.dflt:=by
    rw[e,nI,aM (fun hh=>V (rE K.s0 o.d0 hh.1.symm))]
   omega
  rcases gT.1 h with rfl|h
  ·right;left
   unfold rc;rcases hd with ⟨e,hc⟩|⟨V,e,_,_⟩
   ·grind
   have g1:=o.d1;have g0:=o.d0;rw[e,nI,nI,ba ⟨rfl,by rw[hs.ol];omega⟩,aM (fun hh=>V U),z];omega
  grind
variable {arcs:List (List gR)}
structure tw (n:Nat) (arcs:List (List gR)):Prop where
 ok:∀ l∈arcs,∀ a∈l,me n a
 br:∀ i,i<arcs.length->∀ a∈arcs.getD i [],a.br=(i:Int)
 len:arcs.length=n
def pj (arcs:List (List gR))(a:gR):Prop:=a∈arcs.getD a.br.toNat []/\0<=a.br/\a.br<arcs.length
def J0 {α:Type}{l:List (List α)}{i:Nat}(h:i<l.length):l.getD i []∈l:=by grind
def qzH (L:tw n arcs)(h:iz n s)(z:∀ a,pj arcs a->a.br∈s.q\/rc s a):∀ a,pj arcs a->a.br∈(cQ arcs s).q\/rc (cQ arcs s) a:=by
 unfold cQ;split
 ·exact z
 rename_i i r hq;obtain⟨h1,_,V⟩:=h.pop hq;have F:i.toNat<arcs.length:=by rw[L.len];omega
 refine V6 (fun a o=>L.ok _ (J0 (by have:=o.2;omega)) a o.1) h1 V (fun a hm=>⟨L.ok _ (J0 F) a hm,by have:=L.br _ F a hm;omega⟩) (fun a o=>?_);rcases z a o with K|K
 ·rw[hq]at K
  rcases gT.1 K with e|K
  ·right;right;rw[<-e];exact o.1
  grind
 exact .inr (.inl K)
def V7 (z:tw n arcs)(h:iz n s)(o:∀ a,pj arcs a->a.br∈s.q\/rc s a):∀ k,∀ a,pj arcs a->a.br∈(ln (cQ arcs) k s).q\/rc (ln (cQ arcs) k s) a
 | 0=>o
 | k+1=>qzH z (h.AZ z.ok k).1 (V7 z h o k)
def Q4 (o:tw n arcs)(h1:fr.Nodup)(h2:∀ i∈fr,0<=i/\i<n) :
  iz n (qy (cQ arcs) fb (fZ n fr))/\(∀ a,pj arcs a->rc (qy (cQ arcs) fb (fZ n fr)) a)/\∀ i∈fr,(qy (cQ arcs) fb (fZ n fr)).out.getD i.toNat W.dflt=0:=by
 have z:=V5 h1 h2;rw[z.fix o.ok];have L:=z.ends o.ok;obtain⟨g1,_,g3⟩:=z.AZ o.ok (rP (fZ n fr)+1);refine⟨g1,fun a h=>?_,fun i K=>?_⟩
 ·have:=V7 o z (fun b h=>by
   by_cases hm:b.br∈fr
   ·exact .inl hm
   right;have F:=o.ok _ (J0 (by have:=h.2;omega)) b h.1;obtain⟨V,s1,d0,d1,w0,w1⟩:=F;unfold rc;rw[qsM (i:=b.br.toNat) U (fun⟨k,hk,e⟩=>hm (by grind))];have:=(z.ob b.dst.toNat U).2
   omega) (rP (fZ n fr)+1) a h
  rcases this with hq|F
  ·unfold fb at L
   grind
  exact F
 have F:=h2 i K;have V:=g3 i.toNat;rw[qqE K F.1 F.2]at V;have a2:=(g1.ob i.toNat U).1;omega
end
def V8 {g:List Bool}{k:Nat}:∀ {m i:Nat},BE g k m=some i->i<m
 | 0,_,h=>by cases h
 | m+1,i,h=>by
  unfold BE at h;split at h
  ·grind
  exact lt_succ_of_lt (V8 h)
def V9 {g:List Bool}:∀ {K:Nat},2<=g.length->K<=g.length->(BD g K).1<(BD g K).2/\(BD g K).2<g.length
 | 0,h,_=>⟨Mp _,h⟩
 | K+1,h,o=>by
  unfold BD;split
  ·omega
  split
  ·rename_i i z;exact⟨V8 z,o⟩
  exact V9 h U
def TD {g:List Bool}(h2:2<=g.length):(sN g).1<(sN g).2/\(sN g).2<g.length:=V9 h2 (cP _)
def Oi:∀ {l:J}{a:Int},a<=l.foldl max a/\∀ x∈l,x<=l.foldl max a
 | [],a=>⟨iq _,fun x hx=>by simp at hx⟩
 | y::l,a=>by
  obtain⟨h1,h⟩:=Oi (l:=l) (a:=max a y)
  grind
def Wa:∀ {l:J}{a:Int},l.foldl max a=a\/l.foldl max a∈l
 | [],_=>.inl rfl
 | y::l,a=>by
  rw[xe];rcases Wa (l:=l) (a:=max a y) with h|h
  ·by_cases e:a<=y
   ·grind
   omega
  grind
def TC {l:J}{x:Int}(hx:x∈l):x<=kh l:=by
 cases l with
 | nil=>simp at hx
 | cons y l =>
  unfold kh;rcases gT.1 hx with rfl|hx
  ·exact(Oi (l:=l) (a:=x)).1
  exact(Oi (l:=l) (a:=y)).2 x hx
def Jd {l:J}(h:0<l.length):kh l∈l:=by
 cases l with
 | nil=>simp at h
 | cons y l =>
  unfold kh;rcases Wa (l:=l) (a:=y) with h|h
  ·grind
  grind
def nh (g:List Bool)(c:J)(k m:Nat):List Bool:=(List.range k).map fun (x:Nat)=>(((List.range m).reverse.find? fun s=>decide (c.getD s W.dflt=(x:Int))).map fun s=>g.getD s ah.dflt).getD false
def Es {g:List Bool}{c:J}{k m:Nat}:(nh g c k m).length=k:=by simp[nh]
def Ğ {g:List Bool}{c:J}{k:Nat}:nh g c k 0=replicate k false:=by
 apply jB (by simp[nh]);intro i h1 h;simp[nh]
def Wb {g:List Bool}{c:J}{k m i:Nat}(hi:i<k):(nh g c k m).getD i ah.dflt=(((List.range m).reverse.find? fun s=>decide (c.getD s W.dflt=(i:Int))).map fun s=>g.getD s ah.dflt).getD false:=by
 unfold nh
 grind
def ğ {g:List Bool}{c:J}{k m:Nat}(V:0<=c.getD m W.dflt)(h1:c.getD m W.dflt<k) :
  nh g c k (m+1)=(nh g c k m).set (c.getD m W.dflt).toNat (g.getD m ah.dflt):=by
 apply jB (by rw[iU,Es,Es]);intro i o F;have z:i<k:=by rwa[Es]at o
 have K:(nh g c k (m+1))[i]=(nh g c k (m+1)).getD i ah.dflt:=(aq o).symm;have a2:=(aq (d:=ah.dflt) F).symm;rw[K,a2,nI,Es,Wb z,lN,reverse_append,reverse_cons,reverse_nil,lQ,singleton_append,find?_cons];by_cases e:(c.getD m W.dflt).toNat=i
 ·grind
 have L:¬c.getD m W.dflt=(i:Int):=U;rw[aM (fun h=>e h.1),dB L,Wb z]
end
section
open Go.Sl Go
def QBm (w0:World)(Γ:List HP)(φ:World->Prop):Prop:=∀ (w:World) (h:List HP),Z w0 w (h++Γ)->φ w
end
section
open Go.Sl
section
variable {t:aa}
end
structure AS where
 st:List J
 g:J
 wt:List Bool
section
variable {t:aa}{H:J->Int}{B:Option Int}{S:AS}
end
section
variable {t:aa}{H:J->Int}{lim f:Nat}{next:Int}{e:Nat}{bs:J}
structure CQ (t:aa) (H:J->Int):Prop where
 dJ:aJ t
 nn:∀ y,0<=H y
 le:∀ y,H y<=bZ
end
class qz {α:Type}(lt:α->α->Bool):Prop where
 asym:∀ a b,lt a b=true->lt b a=false
 trans:∀ a b c,lt b a=false->lt c b=false->lt c a=false
abbrev fh {α:Type}(lt:α->α->Bool)(a b:α):Prop:=lt b a=false
section
variable {α:Type}{d:α}{lt:α->α->Bool}
def Cn [qz lt](a:α):fh lt a a:=by
 show lt a a=false
 cases h:lt a a with
 | false=>rfl
 | true=>exact absurd (qz.asym a a h) (by grind)
def J1 [qz lt]{a b c:α}(h1:fh lt a b)(h2:fh lt b c):fh lt a c:=qz.trans a b c h1 h2
def HJ [qz lt]{a b:α}(h:lt a b=true):fh lt a b:=qz.asym a b h
abbrev I (d:α)(xs:List α)(i:Nat):α:=xs.getD i d
def dz (d:α)(lt:α->α->Bool)(xs:List α):Prop:=∀ i,0<i->i<xs.length->fh lt (I d xs ((i-1) / 2)) (I d xs i)
def sw (d:α)(xs:List α)(i j:Nat):List α:=(xs.set i (I d xs j)).set j (I d xs i)
def Co (xs:List α)(i j:Nat):(sw d xs i j).length=xs.length:=by simp[sw]
def PC {xs:List α}{i k:Nat}{x:α}(hi:i<xs.length):I d (xs.set i x) k=if k=i then x else I d xs k:=by
 grind
def tF {xs:List α}{i k:Nat}(hi:i<xs.length)(h:j<xs.length):I d (sw d xs i j) k=if k=j then I d xs i else if k=i then I d xs j else I d xs k:=by
 unfold sw
 grind
def zu {xs:List α}{i:Nat}(hi:i<xs.length)(h:j<xs.length):(sw d xs i j).Perm xs:=by
 have h1:I d xs i=xs[i]:=aq hi;have o:I d xs j=xs[j]:=aq h;unfold sw;rw[h1,o];exact set_set_perm hi h
structure zt (d:α) (lt:α->α->Bool) (xs:List α) (j:Nat):Prop where
 KF:j<xs.length
 rest:∀ i,0<i->i<xs.length->i≠j->fh lt (I d xs ((i-1) / 2)) (I d xs i)
 over:∀ i,0<i->i<xs.length->(i-1) / 2=j->0<j->fh lt (I d xs ((j-1) / 2)) (I d xs i)
def zt.done {xs:List α}(h:zt d lt xs j)(F:(j-1) / 2=j\/fh lt (I d xs ((j-1) / 2)) (I d xs j)):dz d lt xs:=by
 intro i z h1;by_cases o:i=j
 ·grind
 exact h.rest i z h1 o
def zt.step [qz lt]{xs:List α}{j:Nat}(h:zt d lt xs j)(hj:(j-1) / 2≠j)(hl:lt (I d xs j) (I d xs ((j-1) / 2))=true):zt d lt (sw d xs ((j-1) / 2) j) ((j-1) / 2):=by
 have z:=h.KF;have L:(j-1) / 2<xs.length:=U;have H':0<j:=U;have V:=HJ hl;refine⟨by rw[Co];exact L,fun i h0 h1 J'=>?_,fun i h0 h1 he j'=>?_⟩
 ·rw[Co]at h1
  rw[tF L z,tF L z];by_cases o:i=j
  ·grind
  rw[aM o,aM J'];by_cases F:(i-1) / 2=j
  ·rw[ba F]
   exact h.over i h0 h1 F H'
  rw[aM F];by_cases K:(i-1) / 2=(j-1) / 2
  ·rw[ba K]
   have:=h.rest i h0 h1 o;rw[K]at this;exact J1 V this
  rw[aM K];exact h.rest i h0 h1 o
 rw[Co]at h1;rw[tF L z,tF L z];have K:=h.rest ((j-1) / 2) j' L U;have e1:¬((j-1) / 2-1) / 2=j:=U;have e2:¬((j-1) / 2-1) / 2=(j-1) / 2:=U;rw[aM e1,aM e2];by_cases o:i=j
 ·grind
 rw[aM o];by_cases F:i=(j-1) / 2
 ·omega
 rw[aM F];have:=h.rest i h0 h1 o;rw[he]at this;exact J1 K this
def P4 {xs:List α}{x:α}(h:dz d lt xs):zt d lt (xs++[x]) xs.length:=by
 have o:∀ k,k<xs.length->I d (xs++[x]) k=I d xs k:=fun k hk=>by grind
 refine⟨sm,fun i z h1 F=>?_,fun i z h1 he K=>?_⟩
 ·simp only[length_append,length_cons,length_nil]at h1
  rw[o _ U,o _ U];exact h i z U
 grind
structure xM (d:α) (lt:α->α->Bool) (xs:List α) (n i:Nat):Prop where
 le:n<=xs.length
 rest:∀ c,0<c->c<n->(c-1) / 2≠i->fh lt (I d xs ((c-1) / 2)) (I d xs c)
 over:∀ c,0<c->c<n->(c-1) / 2=i->0<i->fh lt (I d xs ((i-1) / 2)) (I d xs c)
def uo (d:α)(lt:α->α->Bool)(xs:List α)(n:Nat):Prop:=∀ c,0<c->c<n->fh lt (I d xs ((c-1) / 2)) (I d xs c)
def xM.leaf {xs:List α}{n i:Nat}(h:xM d lt xs n i)(z:n<=2*i+1):uo d lt xs n:=fun c o h1=>h.rest c o h1 U
def xM.done [qz lt]{xs:List α}{n i:Nat}(h:xM d lt xs n i)(o:∀ c,0<c->c<n->(c-1) / 2=i->fh lt (I d xs j) (I d xs c))(z:fh lt (I d xs i) (I d xs j)):uo d lt xs n:=by
 intro c K h1;by_cases F:(c-1) / 2=i
 ·have:=o c K h1 F
  rw[F];exact J1 z this
 exact h.rest c K h1 F
def xM.step [qz lt]{xs:List α}{n i j:Nat}(h:xM d lt xs n i)(hj:j=2*i+1\/j=2*i+2)(j':j<n)(P':∀ c,0<c->c<n->(c-1) / 2=i->fh lt (I d xs j) (I d xs c))(H':lt (I d xs j) (I d xs i)=true):xM d lt (sw d xs i j) n j:=by
 have K:=h.le;have L:i<xs.length:=U;have o:j<xs.length:=U;refine⟨by rw[Co];exact K,fun c V h1 J'=>?_,fun c V h1 he hp=>?_⟩
 ·rw[tF L o,tF L o,aM J']
  by_cases z:(c-1) / 2=i
  ·rw[ba z]
   by_cases F:c=j
   ·rw[ba F];exact HJ H'
   grind
  rw[aM z];by_cases F:c=j
  ·omega
  rw[aM F];by_cases hc:c=i
  ·subst hc
   rw[ba rfl];exact h.over j U j' U V
  rw[aM hc];exact h.rest c V h1 z
 rw[tF L o,tF L o];have z:(j-1) / 2=i:=U;rw[z,aM (show ¬i=j by omega),ba rfl,aM (show ¬c=j by omega),aM (show ¬c=i by omega)];have:=h.rest c V h1 U
 grind
def P5 {xs:List α}(h:dz d lt xs)(z:0<xs.length):xM d lt (sw d xs 0 (xs.length-1)) (xs.length-1) 0:=by
 refine⟨by rw[Co];omega,fun c o h1 F=>?_,fun c _ _ _ o=>absurd o U⟩;rw[tF z U,tF z U,aM U,aM U,aM U,aM U];exact h c o U
def qwe [qz lt]{xs:List α}(h:dz d lt xs):∀ i,i<xs.length->fh lt (I d xs 0) (I d xs i):=by
 intro i
 induction i using Nat.strongRecOn with
 | _ i z =>
  intro F;rcases wg i with o|o
  ·subst o;exact Cn _
  exact J1 (z ((i-1) / 2) U U) (h i o F)
def P7 [qz lt]{xs:List α}(h:dz d lt xs){x:α}(hx:x∈xs):fh lt (I d xs 0) x:=by
 obtain⟨i,o,rfl⟩:=ga hx;have:=qwe h i o
 grind
def P6 {xs ys:List α}(V:0<xs.length)(z:ys.Perm xs)(F:uo d lt ys (xs.length-1))(h:I d ys (xs.length-1)=I d xs 0) :
  dz d lt (ys.take (xs.length-1))/\xs.Perm (I d xs 0::ys.take (xs.length-1)):=by
 have K:=z.length_eq;refine⟨fun i L h1=>?_,?_⟩
 ·simp only[jC]at h1
  have o:∀ k,k<xs.length-1->I d (ys.take (xs.length-1)) k=I d ys k:=fun k hk=>by simp[I,hk]
  rw[o _ U,o _ U];exact F i L U
 have e:ys=ys.take (xs.length-1)++[I d xs 0]:=by
  have h1:ys.drop (xs.length-1)=[I d xs 0]:=by
   rw[xd U,oG U,<-h];rw[show I d ys (xs.length-1)=ys[xs.length-1] from aq U]
  rw[<-h1,Ak]
 refine z.symm.trans ?_;have:=KG (l₁:=ys.take (xs.length-1)) (l₂:=[I d xs 0])
 grind
def XQ:dz d lt []:=fun _ _ h=>absurd h (eo _)
end
def P0 (j:Nat):Int.tdiv ((j:Int)-1) 2=(((j-1) / 2:Nat):Int):=by
 grind
structure GY where
 t:aa
 H:J->Int
 B:Option Int
inductive AR where
 | Dx (i:Nat)
 | none
 | Ba
def Y_ {α:Type}{l:List α}{i:Nat}{x d:α}(hi:i<l.length):(l.set i x).getD j d=if j=i then x else l.getD j d:=by
 simp only[List.getD,D9];by_cases h:i=j
 ·subst h;simp[hi]
 rw[aM h,aM (Ne.symm h)]


structure cV where
 cr:Int
 aY:Int
 deriving DecidableEq
def aK:Ty cV:=⟨2,fun x=>[E x.cr,E x.aY],fun _=>rfl,⟨0,0⟩⟩
instance Hx:lU aK:=⟨fun x v hv=>by simp only[aK,gT,jd,pQ]at hv;rcases hv with rfl|rfl<;>rfl⟩
def iA (a b:cV):Bool:=decide (a.cr<b.cr)
instance Hy:qz iA:=⟨fun a b h=>by simp only[iA,jV,rL]at *;omega,fun a b c h1 o=>by simp only[iA,rL]at *;omega⟩
def dL (E_:List dr)(u:Int):List dr:=E_.filter fun e=>decide (e.dst=u)
def sj (E_:List dr)(S:J):Nat:=(E_.filter fun e=>decide (e.dst∉S)).length
def Qf {S:J}{u:Int}(hu:u∉S):∀ E_:List dr,sj E_ S=sj E_ (u::S)+(dL E_ u).length
 | []=>rfl
 | e::E_=>by
  have h:=Qf hu E_;simp only[sj,dL,Fy]at h ⊢
  grind
def XR (E_:List dr)(S:J):sj E_ S<=E_.length:=wV _ _
def Qg {E_:List dr}{u:Int}{e:dr}:e∈dL E_ u↔e∈E_/\e.dst=u:=by simp[dL]
structure DJ (E_:List dr) (c:J) (G:Int->Prop) (n:Nat) (D:J) (Q:List cV) (S:J) (m:Int) (done:dr->Prop):Prop where
 inv:td E_ c G n D
 pS:∀ x∈Q,(0<=x.aY/\x.aY<n)/\dg D x.aY<=x.cr/\m<=x.cr/\x.cr<bZ/\(x.aY∈S->dg D x.aY<x.cr)
 nd:Q.Nodup
 set:∀ u∈S,(0<=u/\u<n)/\dg D u<=m
 qK:∀ u:Int,0<=u->u<n->dg D u<bZ->u∉S->∃ x∈Q,x.aY=u/\x.cr=dg D u
 zV:∀ e∈E_,e.dst∈S->done e->xA c D e
 m0:0<=m
abbrev Bf (E_:List dr)(c:J)(G:Int->Prop)(n:Nat)(D:J)(Q:List cV)(S:J)(m:Int):Prop:=DJ E_ c G n D Q S m fun _=>True
section
variable {E_:List dr}{c:J}{G:Int->Prop}{n:Nat}{D:J}{Q:List cV}{S:J}{m:Int}{done:dr->Prop}
def DJ.qa (h:DJ E_ c G n D Q S m done){Q':List cV}(o:Q'.Perm Q):DJ E_ c G n D Q' S m done :=
 ⟨h.inv,fun x hx=>h.pS x (o.mem_iff.1 hx),o.nodup_iff.2 h.nd,h.set,fun u a b e f=>let ⟨x,hx,z⟩:=h.qK u a b e f;⟨x,o.mem_iff.2 hx,z⟩,h.zV,h.m0⟩
def DJ.qE (o:pR E_ c n)(h:Bf E_ c G n D [] S m):db E_ c G n D:=by
 refine h.inv.cr o fun e he z=>?_;have F:=o.dst e he;have hm:e.dst∈S:=by
  apply oE;intro K;obtain⟨x,hx,_⟩:=h.qK e.dst F.1 F.2 z K;simp at hx
 exact h.zV e he hm trivial z
def DJ.skip {x:cV}(h:Bf E_ c G n D (x::Q) S m)(hx:dg D x.aY<x.cr):Bf E_ c G n D Q S m:=by
 refine⟨h.inv,fun y o=>h.pS y (by simp[o]),(wW.1 h.nd).2,h.set,fun u a b e f=>?_,h.zV,h.m0⟩;obtain⟨y,o,h1,z⟩:=h.qK u a b e f
 grind
def DJ.take {x:cV}(h:Bf E_ c G n D (x::Q) S m)(hx:¬dg D x.aY<x.cr)(z:∀ y∈Q,x.cr<=y.cr) :
  DJ E_ c G n D Q (x.aY::S) x.cr (fun e=>e.dst∈S)/\x.aY∉S/\dg D x.aY=x.cr/\(0<=x.aY/\x.aY<n)/\x.cr<bZ:=by
 obtain⟨L,e2,e3,V,e5⟩:=h.pS x sm;have hS:x.aY∉S:=fun hm=>hx (e5 hm);have hd:dg D x.aY=x.cr:=U;have F:=wW.1 h.nd;refine⟨⟨h.inv,fun y K=>?_,F.2,fun u hu=>?_,fun u a b e f=>?_,fun e he _ hm=>h.zV e he hm trivial,by have:=h.m0;omega⟩,hS,hd,L,V⟩
 ·obtain⟨f1,f2,f3,f4,f5⟩:=h.pS y (by simp[K])
  refine⟨f1,f2,z y K,f4,fun hm=>?_⟩;rcases gT.1 hm with o|o
  ·have j':y.cr≠x.cr:=fun he=>F.1 (by
    have:y=x:=by
     clear hm;obtain⟨a,b⟩:=y;obtain⟨a',b'⟩:=x;simp only at he o;subst he o;rfl
    grind)
   grind
  grind
 ·rcases gT.1 hu with rfl|hu
  ·omega
  have:=h.set u hu;omega
 simp only[gT,not_or]at f;obtain⟨y,K,h1,o⟩:=h.qK u a b e f.2
 grind
def DJ.keep (h:DJ E_ c G n D Q S m done){e:dr}(F:xA c D e):DJ E_ c G n D Q S m (fun o=>done o\/o=e) :=
 ⟨h.inv,h.pS,h.nd,h.set,h.qK,fun o z hm K=>K.elim (h.zV o z hm) fun L=>L ▸ F,h.m0⟩
def DJ.rf (F:pR E_ c n)(h:DJ E_ c G n D Q S m done){e:dr}(he:e∈E_)(hu:e.dst∈S)(hm:dg D e.dst=m)(P':m<bZ)(hl:m+iS c e<dg D e.br) :
  DJ E_ c G n (D.set e.br.toNat (m+iS c e)) (⟨m+iS c e,e.br⟩::Q) S m (fun z=>done z\/z=e):=by
 have hs:=F.br e he;have hd:=F.dst e he;have hc:=F.iS he;have hlen:=h.inv.len;have hr:=(h.inv.et e.br.toNat U).2;rw[jW hs.1]at hr;have H':e.br∉S:=fun hv=>by have:=(h.set _ hv).2;omega
 have I:∀ i:Int,0<=i->dg (D.set e.br.toNat (m+iS c e)) i=if i=e.br then m+iS c e else dg D i:=fun i hi=>DB hi hs.1 U
 have K:=h.inv.rf F he U U;rw[hm]at K;have hS:∀ i∈S,dg (D.set e.br.toNat (m+iS c e)) i=dg D i:=fun i hi=>by
  rw[I i (h.set i hi).1.1,aM (fun (z:i=e.br)=>H' (by grind))]
 refine⟨K.1,fun y hy=>?_,wW.2 ⟨fun hq=>?_,h.nd⟩,fun u hu=>?_,fun u a b f hu=>?_,fun z L V o => ?_,h.m0⟩
 ·rcases gT.1 hy with rfl|hy
  ·grind
  obtain⟨f1,f2,f3,f4,f5⟩:=h.pS y hy;refine⟨f1,?_,f3,f4,fun hv=>by grind⟩;rw[I _ f1.1]
  grind
 ·have:=(h.pS _ hq).2.1
  grind
 ·rw[hS u hu];exact h.set u hu
 ·rw[I u a]at f ⊢
  by_cases ev:u=e.br
  ·rw[ba ev];exact⟨⟨m+iS c e,e.br⟩,sm,ev.symm,rfl⟩
  rw[aM ev]at f ⊢;obtain⟨y,hy,hh⟩:=h.qK u a b f hu
  grind
 intro j';have J':=F.br z L;rw[hS _ V]at j' ⊢;rw[I _ J'.1];rcases o with o|rfl
 ·have:=h.zV z L V o j'
  grind
 omega
def DJ.close {u:Int}(h:DJ E_ c G n D Q (u::S) m done)(o:∀ e∈E_,e.dst∈u::S->done e):Bf E_ c G n D Q (u::S) m :=
 ⟨h.inv,h.pS,h.nd,h.set,h.qK,fun e he hm _=>h.zV e he hm (o e he hm),h.m0⟩
end
def DJ.start (E_:List dr)(c:J)(G:Int->Prop)(n:Nat){Q:List cV}(o:∀ x,x∈Q↔∃ i:Nat,i<n/\G i/\x=⟨0,i⟩)(z:Q.Nodup):Bf E_ c G n (rA G n) Q [] 0:=by
 refine⟨Uv _ _ _ _,fun x hx=>?_,z,fun u hu=>(by simp at hu),fun u a b f _=>?_,fun e _ hm=>(by simp at hm),iq _⟩
 ·obtain⟨i,F,I,rfl⟩:=(o x).1 hx
  refine⟨⟨by grind,by grind⟩,?_,iq _,by grind,fun h=>by simp at h⟩;rw[EJ F,CZ I];grind
 have hu:u=((u.toNat:Nat):Int):=U;rw[hu,EJ U]at f;by_cases I:G ((u.toNat:Nat):Int)
 ·refine⟨⟨0,u⟩,(o _).2 ⟨u.toNat,U,I,by rw[<-hu]⟩,rfl,?_⟩
  rw[hu,EJ U,CZ I]
 rw[JT I]at f;omega
structure Un where
 op:Int
 fS:Int
 aT:Int
 aU:Int
 aG:J
def J2:Un:=⟨0,0,0,0,[]⟩
def un (U':List Un)(i:Int):Un:=U'.getD i.toNat J2
inductive lC (U':List Un) (S:Int->Prop):Int->Int->Prop
 | start {f:Int}:S f->lC U' S f 0
 | kg {i:Nat}{v:Int->Int}{m:Int}:i<U'.length->0<=m->(∀ n∈(un U' i).aG,lC U' S n (v n))->(∀ n∈(un U' i).aG,v n<=m)->lC U' S (un U' i).aU ((un U' i).aT+m)
structure yF (U':List Un) (N:Nat):Prop where
 aT:∀ i:Nat,i<U'.length->0<=(un U' i).aT/\(un U' i).aT<=1048576
 aU:∀ i:Nat,i<U'.length->0<=(un U' i).aU/\(un U' i).aU<N
 aG:∀ i:Nat,i<U'.length->∀ n∈(un U' i).aG,0<=n/\n<N
 nd:∀ i:Nat,i<U'.length->(un U' i).aG.Nodup
def vt (dn:J)(l:J):Nat:=(l.filter fun n=>decide (n∉dn)).length
def Wc {dn l:J}:vt dn l=0↔∀ n∈l,n∈dn:=by
 unfold vt
 simp_all
def qz8 (l:J):vt [] l=l.length:=by
 unfold vt
 simp_all
def Oj {f:Int}{dn:J}(o:f∉dn):∀ {l:J},l.Nodup->f∈l->vt dn l=vt (f::dn) l+1
 | [],_,h=>by simp at h
 | x::l,z,h=>by
  obtain⟨h1,F⟩:=wW.1 z;unfold vt;by_cases e:x=f
  ·subst e
   rw[Fy,ba (by simp[o]),Fy,aM sm];have K:(l.filter fun n=>decide (n∉dn))=l.filter fun n=>decide (n∉x::dn):=Ip fun y L=>by
    grind
   rw[K];rfl
  have K:=Oj o F (by grind);unfold vt at K
  grind
def qz9 {f:Int}{dn l:J}(h:f∉l):vt dn l=vt (f::dn) l:=by
 unfold vt
 rw[Ip fun y o=>by
  have:y≠f:=fun e=>h (by grind);show decide (y∉dn)=decide (y∉f::dn)
  simp[this]]
def e7 (U':List Un)(f:Int):J:=((List.range U'.length).filter fun (i:Nat)=>decide (f∈(un U' i).aG)).map fun (i:Nat)=>(i:Int)
def Wd {U':List Un}{f i:Int}:i∈e7 U' f↔∃ k:Nat,i=k/\k<U'.length/\f∈(un U' k).aG:=by
 unfold e7
 grind
def qqV (U':List Un)(f:Int):(e7 U' f).Nodup:=by
 unfold e7;refine Pairwise.map _ (fun a b h=>?_) (nodup_range.filter _);omega
structure RI (U':List Un) (S:Int->Prop) (N:Nat) (D lf:J) (dn:J) (Q:List cV) (m:Int) (f:Int) (ok:Nat->Prop):Prop where
 dl:D.length=N
 ll:lf.length=U'.length
 et:∀ g:Int,0<=g->g<N->0<=dg D g/\dg D g<=bZ
 sd:∀ g:Int,0<=g->g<N->dg D g<bZ->lC U' S g (dg D g)
 yG:∀ i:Nat,i<U'.length->ok i->dg lf i=vt dn (un U' i).aG
 xD:∀ i:Nat,i<U'.length->¬ok i->f∈(un U' i).aG/\dg lf i=vt dn (un U' i).aG+1
 low:∀ i:Nat,i<U'.length->ok i->(∀ n∈(un U' i).aG,n∈dn)->∀ k,0<=k->(∀ n∈(un U' i).aG,dg D n<=k)->dg D (un U' i).aU<=(un U' i).aT+k
 qK:∀ g:Int,0<=g->g<N->dg D g<bZ->g∉dn->∃ x∈Q,x.aY=g/\x.cr=dg D g
 pS:∀ x∈Q,(0<=x.aY/\x.aY<N)/\dg D x.aY<=x.cr/\m<=x.cr/\x.cr<bZ
 set:∀ g∈dn,(0<=g/\g<N)/\dg D g<=m
 m0:0<=m
 m1:m<bZ
section
variable {U':List Un}{S:Int->Prop}{N:Nat}{D lf dn:J}{Q:List cV}{m f:Int}{ok:Nat->Prop}
def RI.qa (h:RI U' S N D lf dn Q m f ok){Q':List cV}(o:Q'.Perm Q):RI U' S N D lf dn Q' m f ok :=
 { h with
  qK:=fun g a b c d=>let ⟨x,hx,z⟩:=h.qK g a b c d;⟨x,o.mem_iff.2 hx,z⟩
  pS:=fun x hx=>h.pS x (o.mem_iff.1 hx) }
def RI.reach (h:RI U' S N D lf dn Q m f ok){g v:Int}(I:0<=g/\g<N)(hv:v<dg D g)(hm:m<=v)(hd:lC U' S g v):RI U' S N (D.set g.toNat v) lf dn (⟨v,g⟩::Q) m f ok:=by
 have hr:=h.et g I.1 I.2;have H':=h.m0;have L:g∉dn:=fun hh=>by have:=(h.set g hh).2;omega
 have J':g.toNat<D.length:=by rw[h.dl];omega
 have o:∀ x:Int,0<=x->dg (D.set g.toNat v) x=if x=g then v else dg D x:=fun x hx=>by
  grind
 have fh:∀ x:Int,0<=x->dg (D.set g.toNat v) x<=dg D x:=fun x hx=>by
  grind
 refine⟨by simp[h.dl],h.ll,fun x z h1=>?_,fun x z h1 F=>?_,h.yG,h.xD,fun i hi ho hn k hk V=>?_,fun x z h1 F h3=>?_,fun x hx=>?_,fun x hx=>?_,h.m0,h.m1⟩
 ·rw[o x z];split
  ·omega
  exact h.et x z h1
 ·rw[o x z]at F ⊢
  split
  ·grind
  rename_i e;rw[aM e]at F;exact h.sd x z h1 F
 ·have j':(0:Int)<=(un U' i).aU\/(un U' i).aU<0:=U
  have hb:=h.low i hi ho hn k hk fun n K=>by
   have:=V n K;have z:=((h.set n (hn n K)).1).1;rw[o n z,aM (fun e=>L (by grind))]at this;exact this
  rcases j' with z|z
  ·grind
  unfold dg at hb ⊢;rw[show (un U' i).aU.toNat=(0:Int).toNat by omega]at hb ⊢;have:=fh 0 (iq _)
  grind
 ·rw[o x z]at F ⊢
  by_cases e:x=g
  ·simp_all
  rw[aM e]at F ⊢;obtain⟨y,K,h4⟩:=h.qK x z h1 F h3
  grind
 ·rcases gT.1 hx with rfl|hx
  ·grind
  obtain⟨K,e2,e3,e4⟩:=h.pS x hx
  grind
 obtain⟨K,e2⟩:=h.set x hx
 grind
def RI.skip {x:cV}(h:RI U' S N D lf dn (x::Q) m f ok)(hx:x.aY∈dn):RI U' S N D lf dn Q m f ok :=
 { h with
  qK:=fun g a b c d=>by
   obtain⟨y,o,h1,z⟩:=h.qK g a b c d
   grind
  pS:=fun y o=>h.pS y (nt _ o) }
def RI.take (hU:yF U' N){x:cV}(h:RI U' S N D lf dn (x::Q) m f fun _=>True)(hx:x.aY∉dn)(j':∀ y∈Q,x.cr<=y.cr) :
  RI U' S N D lf (x.aY::dn) Q x.cr x.aY (fun i=>x.aY∉(un U' i).aG)/\dg D x.aY=x.cr/\(0<=x.aY/\x.aY<N)/\0<=x.cr/\x.cr<bZ:=by
 obtain⟨K,e2,e3,e4⟩:=h.pS x ku;have H':=h.m0;have hd:dg D x.aY=x.cr:=by
  obtain⟨y,F,h1,L⟩:=h.qK x.aY K.1 K.2 U hx;rcases gT.1 F with rfl|F
  ·exact L.symm
  grind
 refine⟨⟨h.dl,h.ll,h.et,h.sd,fun i z o=>?_,fun i z o=>?_,fun i z o hn k hk V=>?_,fun g h0 h1 L h3=>?_,fun y F=>?_,fun g I=>?_,U,e4⟩,hd,K,U,e4⟩
 ·rw[h.yG i z trivial,qz9 o]
 ·have o:x.aY∈(un U' i).aG:=oE o
  refine⟨o,?_⟩;rw[h.yG i z trivial,Oj hx (hU.nd i z) o];rfl
 ·refine h.low i z trivial (fun n J' => ?_) k hk V
  grind
 ·obtain⟨y,F,h4,h5⟩:=h.qK g h0 h1 L (fun hh=>h3 (nt _ hh))
  grind
 ·obtain⟨f1,f2,f3,f4⟩:=h.pS y (nt _ F)
  grind
 rcases gT.1 I with rfl|I
 ·omega
 obtain⟨f1,f2⟩:=h.set g I;omega
def RI.count {i:Nat}(hi:i<U'.length)(h:RI U' S N D lf dn Q m f ok)(F:¬ok i)(hz:dg lf i-1≠0\/dg D (un U' i).aU<=m+(un U' i).aT)(hf:dg D f=m):RI U' S N D (lf.set i (dg lf i-1)) dn Q m f (fun k=>ok k\/k=i):=by
 obtain⟨V,hl⟩:=h.xD i hi F
 have o:∀ k:Nat,dg (lf.set i (dg lf i-1)) k=if k=i then dg lf i-1 else dg lf k:=fun k=>by
  unfold dg;by_cases e:k=i
  ·subst e
   rw[ba rfl];have:k<lf.length:=by rw[h.ll];exact hi
   simp_all
  rw[aM e];simp only[List.getD];rw[uO U]
 refine { h with ll:=by simp[h.ll],yG:=fun k hk z=>?_,xD:=fun k hk z=>?_,low:=fun k hk z L c hc K=>?_ }
 ·rw[o]
  by_cases e:k=i
  ·grind
  rw[aM e];exact h.yG k hk (z.resolve_right e)
 ·have e:k≠i:=fun e=>z (.inr e)
  rw[o,aM e];exact h.xD k hk fun hh=>z (.inl hh)
 by_cases e:ok k
 ·exact h.low k hk e L c hc K
 have e2:k=i:=z.resolve_left e;subst e2;have j':=Wc.2 L
 grind
def RI.qE (K:yF U' N)(h:RI U' S N D lf dn [] m f fun _=>True)(hS:∀ g,S g->0<=g/\g<N/\dg D g<=0):∀ g v,lC U' S g v->0<=g->g<N->dg D g<=v:=by
 have j':∀ g:Int,0<=g->g<N->dg D g<bZ->g∈dn:=fun g L h1 h2=>by
  apply oE;intro V;obtain⟨x,hx,_⟩:=h.qK g L h1 h2 V;simp at hx
 intro g v hd
 induction hd with
 | start hs=>grind
 | @kg i v m z hm V fh ih =>
  intro L h1;have hr:=h.et _ L h1;have hc:=(K.aT i z).1;by_cases F:∀ n∈(un U' i).aG,dg D n<bZ
  ·refine h.low i z trivial (fun n o => ?_) m hm fun n o => ?_
   ·have hb:=K.aG i z n o
    grind
   have hb:=K.aG i z n o
   grind
  have:∃ n,n∈(un U' i).aG/\¬dg D n<bZ:=by
   apply oE;intro hh;exact F fun n o=>oE fun h3=>hh ⟨n,o,h3⟩
  obtain⟨n,o,h3⟩:=this;have hb:=K.aG i z n o
  grind
def RI.Hj {i:Nat}(hi:i<U'.length)(h:RI U' S N D lf dn Q m f ok)(z:¬ok i)(hz:dg lf i-1=0)(hb:∀ n∈(un U' i).aG,0<=n/\n<N):lC U' S (un U' i).aU (m+(un U' i).aT):=by
 obtain⟨V,hl⟩:=h.xD i hi z;have F:vt dn (un U' i).aG=0:=U;have o:=Wc.1 F;rw[FC];have j':=h.m1;refine .kg (v:=dg D) hi h.m0 (fun n K=>?_) fun n K=>?_
 ·obtain⟨L,e2⟩:=h.set n (o n K)
  exact h.sd n L.1 L.2 U
 exact(h.set n (o n K)).2
end
def bP (vars:J)(v:Nat):Int:=(vars.take v).foldl (·+·) 0
def eC (vars:J)(f:bE):Int:=bP vars f.var.toNat+f.val
def ra (acc:J)(n:Int):J:=if n∈acc then acc else acc++[n]
def cG (vars:J)(l:List bE)(acc:J):J:=l.foldl (fun acc f=>ra acc (eC vars f)) acc
def We (vars:J):bP vars 0=0:=rfl
def Ew {vars:J}{v:Nat}(h:v<vars.length):bP vars (v+1)=bP vars v+vars.getD v W.dflt:=by
 unfold bP;rw[eX W.dflt h,u0];rfl
def J3 {vars:J}(o:∀ x∈vars,1<=x){a:Nat}:∀ {b:Nat},a<=b->b<=vars.length->bP vars a<=bP vars b
 | 0,h,_=>by grind
 | b+1,h,z=>by
  by_cases e:a=b+1
  ·grind
  have:=J3 o (a:=a) (b:=b) U U;have F:=o _ (cS W.dflt (show b<vars.length by omega));rw[Ew U];omega
def Ev {vars:J}(h:∀ x∈vars,1<=x){b:Nat}(o:b<=vars.length):0<=bP vars b:=J3 h (a:=0) (bC _) o
def Ga {vars:J}(h:∀ i,i<vars.length->vars.getD i W.dflt<=64):∀ {b:Nat},b<=vars.length->bP vars b<=64*(b:Int)
 | 0,_=>by rw[We];omega
 | b+1,o=>by
  have:=Ga h (b:=b) U;have:=h b U;rw[Ew U];omega
def xh {vars:J}(o:∀ x∈vars,1<=x){f:bE}(h:bV vars f):0<=eC vars f/\eC vars f<bP vars vars.length:=by
 obtain⟨z,h1,F,K⟩:=h;have hv:f.var.toNat<vars.length:=U;have a:=Ev o (b:=f.var.toNat) U;have b:=J3 o (a:=f.var.toNat+1) (b:=vars.length) U (cP _);rw[Ew hv]at b;unfold eC;omega
def GD {vars:J}(h:∀ x∈vars,1<=x){v:Nat}(hv:v<vars.length){x:Int}(o:0<=x)(h1:x<vars.getD v W.dflt):0<=bP vars v+x/\bP vars v+x<bP vars vars.length:=by
 have a:=Ev h (b:=v) U;have b:=J3 h (a:=v+1) (b:=vars.length) U (cP _);rw[Ew hv]at b;omega
def qwf {n x:Int}:x∈ra acc n↔x∈acc\/x=n:=by
 unfold ra
 grind
def qqz {n:Int}(h:acc.Nodup):(ra acc n).Nodup:=by
 unfold ra
 grind
def K_ (acc:J)(n:Int):(ra acc n).length<=acc.length+1:=by
 unfold ra;grind
def NR (vars:J)(l:List bE)(f:bE)(acc:J):cG vars (l++[f]) acc=ra (cG vars l acc) (eC vars f):=by simp[cG]
def zM {vars:J}{x:Int}:∀ {l:List bE},x∈cG vars l acc↔x∈acc\/∃ f∈l,eC vars f=x:=by
 intro l;refine pE (P:=fun l=>x∈cG vars l acc↔x∈acc\/∃ f∈l,eC vars f=x) (by simp[cG]) ?_ l;intro l f h;rw[NR,qwf,h]
 grind
def JJ {vars:J}(h:acc.Nodup)(l:List bE):(cG vars l acc).Nodup:=by
 refine pE (P:=fun l=>(cG vars l acc).Nodup) h ?_ l;intro l f o;rw[NR];exact qqz o
def Ay (vars:J)(i:Nat)(o:mM)(k:Nat):Un:=⟨i,k,o.aT,eC vars ⟨(o.aQ.getD k bQ).var,(o.aQ.getD k bQ).val⟩,cG vars (o.aQ.getD k bQ).cb (cG vars o.pre [])⟩
def mZ (vars:J)(i:Nat)(o:mM)(m:Nat):List Un:=(List.range m).map (Ay vars i o)
def iK (t:aa)(k:Nat):List Un:=(List.range k).flatMap fun i=>mZ t.vars i (t.M.getD i bz) (t.M.getD i bz).aQ.length
def cz (t:aa):List Un:=iK t t.M.length
def MW (vars:J)(i:Nat)(o:mM)(m:Nat):mZ vars i o (m+1)=mZ vars i o m++[Ay vars i o m]:=by simp[mZ,lN]
def Ax (t:aa)(k:Nat):iK t (k+1)=iK t k++mZ t.vars k (t.M.getD k bz) (t.M.getD k bz).aQ.length:=by simp[iK,lN]
def EC {t:aa}{k:Nat}{u:Un}:u∈iK t k↔∃ i j,i<k/\j<(t.M.getD i bz).aQ.length/\u=Ay t.vars i (t.M.getD i bz) j:=by
 simp only[iK,mZ,tN,mem_range,iG]
 grind
def CO (vars:J)(i:Nat)(o:mM)(m:Nat):(mZ vars i o m).length=m:=by simp[mZ]
def CN {t:aa}(I:aJ t):∀ {k:Nat},k<=t.M.length->(iK t k).length<=64*k
 | 0,_=>by simp[iK]
 | k+1,h=>by
  have:=CN I (k:=k) U;have:=(I.op k U).aQ;rw[Ax,length_append,CO];omega
def aZ (t:aa):Nat:=(bP t.vars t.vars.length).toNat
def uV {t:aa}(I:aJ t):(aZ t:Int)=bP t.vars t.vars.length:=by
 have:=Ev I.pos (b:=t.vars.length) (cP _);unfold aZ;omega
def BG {t:aa}(I:aJ t):aZ t<=4096:=by
 have h1:=Ga (fun i h=>(I.pC i h).2) (cP t.vars.length);have o:=I.vars;unfold aZ;omega
def AE {U':List Un}{i:Nat}(h:i<U'.length):un U' i∈U':=cS J2 h
def wk {t:aa}(I:aJ t):yF (cz t) (aZ t):=by
 have key:∀ u∈cz t,(0<=u.aT/\u.aT<=1048576)/\(0<=u.aU/\u.aU<aZ t)/\(∀ n∈u.aG,0<=n/\n<aZ t)/\u.aG.Nodup:=by
  intro u hu;obtain⟨i,j,o,K,rfl⟩:=EC.1 hu;have z:=I.op i o;have he:=uW (z.fS j K);rw[uV I];refine⟨⟨z.l9,z.pG⟩,xh I.pos he,fun n L=>?_,JJ (JJ Be _) _⟩;have Y:=(z.fS j K).1;rcases zM.1 L with h|⟨f,F,rfl⟩
  ·rcases zM.1 h with h|⟨f,F,rfl⟩
   ·simp at h
   obtain⟨k,hk,rfl⟩:=ga F;have:=(z.pre k hk).1;rw[aq hk]at this;exact xh I.pos this
  obtain⟨k,hk,rfl⟩:=ga F;have:=(Y k hk).1;rw[aq hk]at this;exact xh I.pos this
 exact⟨fun i o=>(key _ (AE o)).1,fun i o=>(key _ (AE o)).2.1,fun i o=>(key _ (AE o)).2.2.1,fun i o=>(key _ (AE o)).2.2.2⟩
def oH (vars s:J)(f:Int):Prop:=∃ v:Nat,v<vars.length/\f=bP vars v+s.getD v W.dflt
structure iL (t:aa) (s out:J):Prop where
 len:out.length=aZ t
 et:∀ g:Int,0<=g->g<aZ t->0<=dg out g/\dg out g<=bZ
 sd:∀ g:Int,0<=g->g<aZ t->dg out g<bZ->lC (cz t) (oH t.vars s) g (dg out g)
 low:∀ g v,lC (cz t) (oH t.vars s) g v->0<=g->g<aZ t->dg out g<=v
def dy (vars:J)(aF:List bE)(out:J):Int:=aF.foldl (fun m f=>max m (dg out (eC vars f))) 0
def Ol (vars:J)(l:List bE)(f:bE)(out:J):dy vars (l++[f]) out=max (dy vars l out) (dg out (eC vars f)):=by simp[dy]
def AC {vars:J}{out:J}(h:0<=b):∀ {l:List bE},dy vars l out<=b↔∀ f∈l,dg out (eC vars f)<=b:=by
 intro l;refine pE (P:=fun l=>dy vars l out<=b↔∀ f∈l,dg out (eC vars f)<=b) (by simp[dy,h]) ?_ l;intro l f o;rw[Ol,Int.max_le,o]
 grind
def BQ (vars:J)(l:List bE)(out:J):0<=dy vars l out:=by
 refine pE (P:=fun l=>0<=dy vars l out) (by simp[dy]) ?_ l;intro l f h;rw[Ol];omega
open Classical in
def lC.shift {U':List Un}{S S':Int->Prop}{c:Int}(K:0<=c)(h:∀ f,S' f->∃ v,v<=c/\lC U' S f v){f v:Int}(z:lC U' S' f v):∃ v',v'<=v+c/\lC U' S f v':=by
 induction z with
 | start L=>grind
 | @kg i v m F hm V fh ih =>
  refine⟨(un U' i).aT+(m+c),U,.kg (v:=fun n=>if hx:∃ v',v'<=v n+c/\lC U' S n v' then Classical.choose hx else 0) F U (fun n o => ?_) fun n o => ?_⟩
  ·grind
  grind
def EK {vars s:J}(o:aj vars s){f:bE}(h:jh s f):oH vars s (eC vars f) :=
 ⟨f.var.toNat,by have:=o.1;have:=h.1;have:=h.2.1;omega,by unfold eC;rw[h.2.2]⟩
def BU {s:J}{l:List bE}(h:cE s l){f:bE}(o:f∈l):jh s f:=by
 obtain⟨i,z,rfl⟩:=ga o;have:=h i z
 grind
def NG {s:J}{l:List mr}(h:∀ e∈l,0<=e.var/\e.var<s.length){v:Nat}(hv:v<s.length):(fL s l).getD v W.dflt=s.getD v W.dflt\/∃ k,k<l.length/\(l.getD k bQ).var=v/\(l.getD k bQ).val=(fL s l).getD v W.dflt/\cE s (l.getD k bQ).cb:=by
 revert h;refine pE (P:=fun l=>(∀ e∈l,0<=e.var/\e.var<(s.length:Int))->((fL s l).getD v W.dflt=s.getD v W.dflt\/∃ k,k<l.length/\(l.getD k bQ).var=v/\(l.getD k bQ).val=(fL s l).getD v W.dflt/\cE s (l.getD k bQ).cb)) (fun _=>.inl rfl) ?_ l;intro l e o h;have o:=o fun x hx=>h x (by simp[hx]);have K:∀ k,k<l.length->(l++[e]).getD k bQ=l.getD k bQ:=fun k hk=>by grind
 have hold:(∃ k,k<l.length/\(l.getD k bQ).var=v/\(l.getD k bQ).val=(fL s l).getD v W.dflt/\cE s (l.getD k bQ).cb)->∃ k,k<(l++[e]).length/\((l++[e]).getD k bQ).var=v/\((l++[e]).getD k bQ).val=(fL s l).getD v W.dflt/\cE s ((l++[e]).getD k bQ).cb:=fun⟨k,h1,L,V,h4⟩=>⟨k,by simp;omega,by grind,by grind,by grind⟩
 rw[Ex];by_cases Y:cE s e.cb
 ·rw[ba Y]
  have he:=h e sm;by_cases F:e.var=v
  ·right
   have I:(l++[e]).getD l.length bQ=e:=by simp[List.getD]
   refine⟨l.length,sm,by grind,?_,by grind⟩;rw[I,F,jU];have:v<(fL s l).length:=by rw[M2];exact hv
   grind
  have z:((fL s l).set e.var.toNat e.val).getD v W.dflt=(fL s l).getD v W.dflt:=by
   simp only[List.getD];rw[uO U]
  grind
 grind
def Wf {t:aa}{op k:Nat}(h:op<t.M.length)(hk:k<(t.M.getD op bz).aQ.length):∃ i,i<(cz t).length/\un (cz t) i=Ay t.vars op (t.M.getD op bz) k:=by
 have hm:Ay t.vars op (t.M.getD op bz) k∈cz t:=EC.2 ⟨op,k,h,hk,rfl⟩;obtain⟨i,o,he⟩:=ga hm;exact⟨i,o,by unfold un;grind⟩
def qzr {t:aa}(I:aJ t){s out:J}(L:aj t.vars s){op:Nat}(ho:op<t.M.length)(ha:jZ t s op)(h:iL t s out)(h':iL t (cD t s op) out'){g:Int}(V:0<=g)(h1:g<aZ t):dg out g<=(t.M.getD op bz).aT+dg out' g:=by
 have F:=I.op op ho;have hc:=F.l9;have hr:=h.et g V h1;have R':=h'.et g V h1;by_cases hi:dg out' g<bZ
 ·have hd:=h'.sd g V h1 hi
  obtain⟨v,hv,j'⟩:=lC.shift (S:=oH t.vars s) hc (fun f K=>by
   obtain⟨v,hv,rfl⟩:=K;have H':v<s.length:=by rw[L.1];exact hv
   rcases NG (s:=s) (l:=(t.M.getD op bz).aQ) (fun e he=>by have:=uW (F.mem e he);rw[L.1];omega) H' with e|⟨k,hk,e1,e2,e3⟩
   ·exact⟨0,hc,.start ⟨v,hv,by rw[<-e];rfl⟩⟩
   obtain⟨i,hi,o⟩:=Wf ho hk;refine⟨(t.M.getD op bz).aT+0,U,?_⟩;have J':(un (cz t) i).aU=bP t.vars v+(cD t s op).getD v W.dflt:=by
    rw[o];show bP t.vars ((t.M.getD op bz).aQ.getD k bQ).var.toNat+((t.M.getD op bz).aQ.getD k bQ).val=_;rw[e1,e2,jU];rfl
   have P':(un (cz t) i).aT=(t.M.getD op bz).aT:=by rw[o];rfl
   rw[<-J',<-P'];refine .kg (v:=fun _=>0) hi (iq _) (fun n z=>.start ?_) fun _ _=>iq _;rw[o]at z;rcases zM.1 z with z|⟨f,K,rfl⟩
   ·rcases zM.1 z with z|⟨f,K,rfl⟩
    ·simp at z
    exact EK L (BU ha K)
   exact EK L (BU e3 K)) hd
  have:=h.low g v j' V h1;omega
 omega
def qzs {t:aa}(I:aJ t){s out:J}(hs:aj t.vars s){op:Nat}(K:op<t.M.length)(ha:jZ t s op)(h:iL t s out)(h':iL t (cD t s op) out'):dy t.vars t.aF out<=(t.M.getD op bz).aT+dy t.vars t.aF out':=by
 have hc:=(I.op op K).l9;have z:=BQ t.vars t.aF out';refine(AC U).2 fun f L=>?_;obtain⟨i,V,rfl⟩:=ga L;have o:=(I.aF i V).1;rw[aq V]at o;have F:=xh I.pos o;rw[<-uV I]at F;have:=qzr I hs K ha h h' F.1 F.2;have:=(AC z).1 (iq _) _ L;omega
def qzt {t:aa}(I:aJ t){s out:J}(L:aj t.vars s)(h:iL t s out)(V:cE s t.aF):dy t.vars t.aF out=0:=by
 have h1:=BQ t.vars t.aF out;have h2:dy t.vars t.aF out<=0:=(AC (iq _)).2 fun f F=>by
  obtain⟨i,K,rfl⟩:=ga F;have o:=(I.aF i K).1;rw[aq K]at o;have z:=xh I.pos o;rw[<-uV I]at z;exact h.low _ 0 (.start (EK L (BU V F))) z.1 z.2
 omega
def wH {t:aa}(I:aJ t){s out:J}(h:iL t s out):dy t.vars t.aF out<=bZ:=(AC dc).2 fun f K=>by
 obtain⟨i,F,rfl⟩:=ga K;have o:=(I.aF i F).1;rw[aq F]at o;have z:=xh I.pos o;rw[<-uV I]at z;exact(h.et _ z.1 z.2).2
def BP {t:aa}{s out:J}(h:iL t s out)(o:iL t s out'):out=out':=by
 apply jB (by rw[h.len,o.len]);intro i h1 F;have K:i<aZ t:=by rw[<-h.len];exact h1
 have a:=h.et i U U;have L:=o.et i U U;have b:=h.sd i U U;have V:=o.sd i U U;have c:=fun v z=>h.low i v z U U;have c':=fun v z=>o.low i v z U U
 grind
def lC.nn {U':List Un}{S:Int->Prop}(o:∀ i:Nat,i<U'.length->0<=(un U' i).aT){g v:Int}(h:lC U' S g v):0<=v:=by
 cases h with
 | start _=>omega
 | kg z hm _ _=>grind
def qt5 {U':List Un}{S:Int->Prop}(z:∀ i:Nat,i<U'.length->0<=(un U' i).aT)(g:Int):∃ m,0<=m/\m<=bZ/\(m<bZ->lC U' S g m)/\∀ v,lC U' S g v->m<=v:=by
 have key:∀ n:Nat,(∃ v,lC U' S g v/\v<(n:Int))->∃ m,lC U' S g m/\∀ v,lC U' S g v->m<=v:=by
  intro n
  induction n with
  | zero=>rintro⟨v,h1,F⟩;have:=h1.nn z;omega
  | succ n K =>
   rintro⟨v,h1,F⟩;by_cases o:∃ v,lC U' S g v/\v<(n:Int)
   ·exact K o
   grind
 have L:bZ=1125899906842624:=rfl;by_cases h:∃ v,lC U' S g v/\v<bZ
 ·obtain⟨v,h1,F⟩:=h
  obtain⟨m,o,K⟩:=key bZ.toNat ⟨v,h1,U⟩;have:=K v h1;exact⟨m,o.nn z,U,fun _=>o,K⟩
 exact⟨bZ,U,iq _,fun o=>absurd o (Int.lt_irrefl _),fun v hv=>tM.1 fun o=>h ⟨v,hv,o⟩⟩
open Classical in
def BR {t:aa}(I:aJ t)(s:J):∃ out,iL t s out:=by
 have bX:=wk I;have h:=fun g:Int=>qt5 (U':=cz t) (S:=oH t.vars s) (fun i F=>(bX.aT i F).1) g;have K:∀ g:Int,0<=g->g<aZ t->dg ((List.range (aZ t)).map fun (i:Nat)=>Classical.choose (h i)) g=Classical.choose (h g):=fun g o h1=>by
  have z:g.toNat<aZ t:=U;unfold dg;simp[List.getD,z,jW o]
 refine⟨(List.range (aZ t)).map fun (i:Nat)=>Classical.choose (h i),sm,fun g o h1=>?_,fun g o h1 z=>?_,fun g v hv o h1=>?_⟩
 ·grind
 ·grind
 grind
open Classical in
noncomputable def dC (t:aa)(s:J):Int:=if h:aj t.vars s/\∃ out,iL t s out then dy t.vars t.aF (Classical.choose h.2) else 0
def yf {t:aa}{s out:J}(o:aj t.vars s)(h:iL t s out):dC t s=dy t.vars t.aF out:=by
 have hx:aj t.vars s/\∃ out,iL t s out:=⟨o,out,h⟩
 unfold dC;rw[dif_pos hx,BP (FN hx.2) h]
def Cm {t:aa}{s:J}(h:¬aj t.vars s):dC t s=0:=by
 unfold dC
 grind
def Wg {t:aa}(I:aJ t):CQ t (dC t):=by
 have z:(0:Int)<=bZ:=dc;refine⟨I,fun y=>?_,fun y=>?_⟩
 ·by_cases h:aj t.vars y
  ·obtain⟨out,o⟩:=BR I y
   rw[yf h o];exact BQ _ _ _
  rw[Cm h];omega
 by_cases h:aj t.vars y
 ·obtain⟨out,o⟩:=BR I y
  rw[yf h o];exact wH I o
 rw[Cm h];exact z
def HI {t:aa}(I:aJ t){s:J}(h:aj t.vars s){op:Nat}(o:op<t.M.length)(F:jZ t s op):dC t s<=oF t op+dC t (cD t s op):=by
 obtain⟨out,h1⟩:=BR I s;obtain⟨out',z⟩:=BR I (cD t s op);rw[yf h h1,yf (sb I h o) z];exact qzs I h o F h1 z
def KD {t:aa}(I:aJ t){s:J}(o:cE s t.aF):dC t s=0:=by
 by_cases h:aj t.vars s
 ·obtain⟨out,h1⟩:=BR I s
  rw[yf h h1];exact qzt I h h1 o
 exact Cm h
def XF {t:aa}(I:aJ t){s p:J}{c:Int}(h:mg t s p c):dC t s<=c:=by
 induction h with
 | aF F=>rw[KD I F];omega
 | @step s op p c o K _ L =>
  by_cases z:aj t.vars s
  ·have:=HI I z o K;omega
  rw[Cm z];have h1:=x6 I o;have V:=(Wg I).nn (cD t s op);omega
def RF {t:aa}{s out:J}(hl:out.length=aZ t)(hr:∀ g:Int,0<=g->g<aZ t->0<=dg out g/\dg out g<=bZ)(hU:yF (cz t) (aZ t))(hs:∀ g,oH t.vars s g->dg out g<=0)
  (o:∀ i:Nat,i<(cz t).length->dg out (un (cz t) i).aU<=(un (cz t) i).aT+(un (cz t) i).aG.foldl (fun m n=>max m (dg out n)) 0)
  (z:∀ g:Int,0<=g->g<aZ t->dg out g<bZ->lC (cz t) (oH t.vars s) g (dg out g)):iL t s out:=by
 have F:∀ (l:J) (a k:Int),a<=k->(∀ n∈l,dg out n<=k)->l.foldl (fun m n=>max m (dg out n)) a<=k:=by
  intro l
  induction l with
  | nil=>grind
  | cons x l V =>
   intro a k h K;exact V _ _ (Int.max_le.2 ⟨h,K x ku⟩) fun n hn=>K n (nt _ hn)
 refine⟨hl,hr,z,fun g v hd=>?_⟩
 induction hd with
 | start h=>grind
 | @kg i v m hi hm hn fh V =>
  intro h0 h1;have K:=o i hi;have h3:=F (un (cz t) i).aG 0 m hm fun n L=>by
   have hb:=hU.aG i hi n L
   grind
  omega
end
variable {Q':List cV}
section
def bH (f:Nat->Rat):Nat->Rat
 | 0=>0
 | n+1=>bH f n+f n
def oJ {f g:Nat->Rat}:∀ {n:Nat},(∀ j,j<n->f j=g j)->bH f n=bH g n
 | 0,_=>rfl
 | n+1,h=>by
  show bH f n+f n=bH g n+g n;rw[oJ fun j o=>h j (by omega),h n (by omega)]
def CS:∀ (n:Nat),bH (fun _=>0) n=0
 | 0=>rfl
 | n+1=>by
  show bH (fun _=>0) n+0=0;rw[CS n];grind
def Gk (f g:Nat->Rat):∀ n,bH (fun j=>f j+g j) n=bH f n+bH g n
 | 0=>by show (0:Rat)=0+0;grind
 | n+1=>by
  show bH (fun j=>f j+g j) n+(f n+g n)=bH f n+f n+(bH g n+g n)
  rw[Gk f g n];grind
def EL (a:Rat)(f:Nat->Rat):∀ n,bH (fun j=>a*f j) n=a*bH f n
 | 0=>by show (0:Rat)=a*0;grind
 | n+1=>by
  show bH (fun j=>a*f j) n+a*f n=a*(bH f n+f n)
  rw[EL a f n];grind
def Om (f g:Nat->Rat)(n:Nat):bH (fun j=>f j-g j) n=bH f n-bH g n:=by
 have h1:bH (fun j=>f j-g j) n=bH (fun j=>f j+(-1)*g j) n:=oJ fun j _=>by grind
 rw[h1,Gk,EL];grind
def Wh (f:Nat->Nat->Rat)(n:Nat):∀ m,bH (fun j=>bH (fun i=>f i j) m) n=bH (fun i=>bH (fun j=>f i j) n) m
 | 0=>by
  show bH (fun _=>0) n=0
  exact CS n
 | m+1=>by
  show bH (fun j=>bH (fun i=>f i j) m+f m j) n=bH (fun i=>bH (fun j=>f i j) n) m+bH (fun j=>f m j) n;rw[Gk,Wh f n m]
def EM {k:Nat}{f:Nat->Rat}:∀ {n:Nat},k<n->bH (fun j=>if j=k then f j else 0) n=f k
 | 0,h=>absurd h (not_lt_zero _)
 | n+1,h=>by
  show bH (fun j=>if j=k then f j else 0) n+(if n=k then f n else 0)=f k;by_cases e:n=k
  ·subst e
   rw[if_pos rfl,oJ (g:=fun _=>0) fun j o=>if_neg (by omega),CS];grind
  rw[if_neg e,EM (by omega)];grind
def Wi {f:Nat->Rat}:∀ {n:Nat},bH f n<0->∃ i,i<n/\f i<0
 | 0,h=>absurd h (by show ¬(0:Rat)<0;grind)
 | n+1,h=>by
  have o:bH f n+f n<0:=h;by_cases h1:f n<0
  ·grind
  obtain⟨i,z,F⟩:=Wi (f:=f) (n:=n) (by grind)
  grind
structure sP where
 A:Nat->Nat->Rat
 b:Nat->Rat
 B:Nat->Nat
 c:Nat->Rat
 z:Rat
def jN (T:sP)(r k:Nat):sP where
 A:=fun i j=>if i=r then T.A r j / T.A r k else T.A i j-T.A i k*(T.A r j / T.A r k)
 b:=fun i=>if i=r then T.b r / T.A r k else T.b i-T.A i k*(T.b r / T.A r k)
 B:=fun i=>if i=r then k else T.B i
 c:=fun j=>T.c j-T.c k*(T.A r j / T.A r k)
 z:=T.z+T.c k*(T.b r / T.A r k)
section
variable (N m:Nat)
structure ij (T:sP):Prop where
 lt:∀ i,i<m->T.B i<N
 one:∀ i,i<m->T.A i (T.B i)=1
 off:∀ i k,i<m->k<m->i≠k->T.A i (T.B k)=0
 aF:∀ i,i<m->T.c (T.B i)=0
 nn:∀ i,i<m->0<=T.b i
structure yH (T:sP) (r k:Nat):Prop where
 hk:k<N
 pos:0<T.c k
 low:∀ j,j<k->T.c j<=0
 hr:r<m
 a:0<T.A r k
 min:∀ i,i<m->0<T.A i k->T.b r / T.A r k<T.b i / T.A i k\/(T.b r / T.A r k=T.b i / T.A i k/\T.B r<=T.B i)
def zS (T:sP)(x:Nat->Rat):Prop:=∀ i,i<m->bH (fun j=>T.A i j*x j) N=T.b i
def rX (T:sP)(x:Nat->Rat):Rat:=T.z+bH (fun j=>T.c j*x j) N
end
section
variable {N m:Nat}{T:sP}{r k:Nat}
def Wj {a b:Rat}(h:0<=a)(o:0<b):0<=a / b:=by
 rw[Rat.div_def];have z:0<b⁻¹:=Rat.inv_pos.2 o;exact Rat.mul_nonneg h (Rat.le_of_lt z)
def ij.piv (h:ij N m T)(p:yH N m T r k):ij N m (jN T r k):=by
 have hp:=p.a;have j':T.A r k≠0:=by grind
 have K:=p.hr;have H':∀ i,i<m->T.B i≠k:=fun i o e=>by
  have:=h.aF i o;rw[e]at this;have:=p.pos
  grind
 refine⟨fun i o=>?_,fun i o=>?_,fun i l o L F=>?_,fun i o=>?_,fun i o=>?_⟩
 ·show (if i=r then k else T.B i)<N
  split
  ·exact p.hk
  exact h.lt i o
 ·by_cases e:i=r
  ·subst e
   show (if i=i then T.A i (if i=i then k else T.B i) / T.A i k else _)=1
   grind
  show (if i=r then _ else T.A i (if i=r then k else T.B i)-T.A i k*(T.A r (if i=r then k else T.B i) / T.A r k))=1;rw[if_neg e,if_neg e,h.one i o,h.off r i K o (fun z=>e z.symm)];grind
 ·by_cases e:i=r
  ·subst e
   show (if i=i then T.A i (if l=i then k else T.B l) / T.A i k else _)=0;rw[if_pos rfl,if_neg (fun z=>F z.symm),h.off i l o L F];grind
  show (if i=r then _ else T.A i (if l=r then k else T.B l)-T.A i k*(T.A r (if l=r then k else T.B l) / T.A r k))=0;rw[if_neg e];by_cases z:l=r
  ·grind
  rw[if_neg z,h.off i l o L F,h.off r l K L (fun V=>z V.symm)];grind
 ·show T.c (if i=r then k else T.B i)-T.c k*(T.A r (if i=r then k else T.B i) / T.A r k)=0
  by_cases e:i=r
  ·grind
  rw[if_neg e,h.aF i o,h.off r i K o (fun z=>e z.symm)];grind
 have z:=h.nn r K;have hq:0<=T.b r / T.A r k:=Wj z hp;show 0<=(if i=r then T.b r / T.A r k else T.b i-T.A i k*(T.b r / T.A r k));split
 ·exact hq
 have J':=h.nn i o;by_cases V:0<T.A i k
 ·have fh:T.b r / T.A r k<=T.b i / T.A i k:=by rcases p.min i o V with h1|⟨h1,_⟩<;>grind
  have h2:0<=(T.b i / T.A i k-T.b r / T.A r k)*T.A i k:=Rat.mul_nonneg (by grind) (Rat.le_of_lt V);have h3:T.b i / T.A i k*T.A i k=T.b i:=by grind
  grind
 have h2:0<=(-(T.A i k))*(T.b r / T.A r k):=Rat.mul_nonneg (by grind) hq
 grind
def qA (N:Nat)(T:sP)(x:Nat->Rat)(i:Nat):Rat:=bH (fun j=>T.A i j*x j) N-T.b i
def On {x:Nat->Rat}:zS N m T x↔∀ i,i<m->qA N T x i=0:=by
 unfold zS qA
 grind
def Ce (x:Nat->Rat):qA N (jN T r k) x r=qA N T x r / T.A r k:=by
 have h1:bH (fun j=>(jN T r k).A r j*x j) N=bH (fun j=>(T.A r k)⁻¹*(T.A r j*x j)) N:=oJ fun j _=>by
  show (if r=r then T.A r j / T.A r k else _)*x j=_
  grind
 have h:(jN T r k).b r=T.b r / T.A r k:=if_pos rfl;unfold qA;rw[h1,EL,h];grind
def Cf {i:Nat}(hi:i≠r)(x:Nat->Rat):qA N (jN T r k) x i=qA N T x i-T.A i k*(qA N T x r / T.A r k):=by
 have h1:bH (fun j=>(jN T r k).A i j*x j) N=bH (fun j=>T.A i j*x j-(T.A i k*(T.A r k)⁻¹)*(T.A r j*x j)) N:=oJ fun j _=>by
  show (if i=r then _ else T.A i j-T.A i k*(T.A r j / T.A r k))*x j=_
  grind
 have h:(jN T r k).b i=T.b i-T.A i k*(T.b r / T.A r k):=if_neg hi;unfold qA;rw[h1,Om,EL,h];grind
def qzP (p:yH N m T r k){x:Nat->Rat}:zS N m (jN T r k) x↔zS N m T x:=by
 have L:=p.a;have z:=p.hr;rw[On,On];constructor
 ·intro h i F
  have h1:=h r z;rw[Ce]at h1;have o:qA N T x r=0:=by
   have:qA N T x r / T.A r k*T.A r k=0:=by rw[h1];grind
   grind
  by_cases e:i=r
  ·grind
  have K:=h i F;rw[Cf e,o]at K
  grind
 intro h i F;have o:=h r z;by_cases e:i=r
 ·rw[e,Ce,o];grind
 rw[Cf e,o,h i F];grind
def qzQ (p:yH N m T r k){x:Nat->Rat}(hx:zS N m T x):rX N (jN T r k) x=rX N T x:=by
 have h:=On.1 hx r p.hr;have h1:bH (fun j=>(jN T r k).c j*x j) N=bH (fun j=>T.c j*x j-(T.c k*(T.A r k)⁻¹)*(T.A r j*x j)) N:=oJ fun j _=>by
  show (T.c j-T.c k*(T.A r j / T.A r k))*x j=_
  grind
 have o:(jN T r k).z=T.z+T.c k*(T.b r / T.A r k):=rfl;unfold rX;unfold qA at h;rw[h1,Om,EL,o];grind
def yu (m:Nat)(T:sP)(v:Nat->Rat)(s:Nat)(y:Rat)(j:Nat):Rat:=bH (fun i=>if T.B i=j then v i else 0) m+(if j=s then y else 0)
def J4 (h:ij N m T){v:Nat->Rat}{s:Nat}(o:s<N){y:Rat}(f:Nat->Rat):bH (fun j=>f j*yu m T v s y j) N=bH (fun i=>f (T.B i)*v i) m+f s*y:=by
 have h1:bH (fun j=>f j*yu m T v s y j) N=bH (fun j=>bH (fun i=>f j*(if T.B i=j then v i else 0)) m+(if j=s then f j*y else 0)) N:=oJ fun j _=>by
  unfold yu;rw[EL]
  grind
 rw[h1,Gk,EM o,Wh];congr 1;refine oJ fun i z=>?_;have F:bH (fun j=>f j*(if T.B i=j then v i else 0)) N=bH (fun j=>if j=T.B i then f j*v i else 0) N:=oJ fun j _=>by
  grind
 rw[F,EM (h.lt i z)]
def qs6 (h:ij N m T){i:Nat}(hi:i<m)(v:Nat->Rat):bH (fun l=>T.A i (T.B l)*v l) m=v i:=by
 have h1:bH (fun l=>T.A i (T.B l)*v l) m=bH (fun l=>if l=i then v l else 0) m:=oJ fun l o=>by
  by_cases e:l=i
  ·rw[if_pos e,e,h.one i hi];grind
  rw[if_neg e,h.off i l hi o fun z=>e z.symm];grind
 rw[h1,EM hi]
def Wk (h:ij N m T)(v:Nat->Rat):bH (fun l=>T.c (T.B l)*v l) m=0:=by
 have h1:bH (fun l=>T.c (T.B l)*v l) m=bH (fun _=>0) m:=oJ fun l o=>by rw[h.aF l o];grind
 rw[h1,CS]
def Oo (h:ij N m T){s:Nat}(o:s<N)(y:Rat):zS N m T (yu m T (fun i=>T.b i-T.A i s*y) s y)/\rX N T (yu m T (fun i=>T.b i-T.A i s*y) s y)=T.z+T.c s*y:=by
 constructor
 ·intro i F
  rw[J4 h o,qs6 h F];grind
 unfold rX;rw[J4 h o,Wk h];grind
end
def ij.inj {N m:Nat}{T:sP}(h:ij N m T){i l:Nat}(hi:i<m)(z:l<m)(e:T.B i=T.B l):i=l:=by
 refine Classical.byContradiction fun o=>?_;have h1:=h.off i l hi z o;have F:=h.one i hi
 grind
def uX (m:Nat)(T:sP)(v:Nat):Prop:=∃ i,i<m/\T.B i=v
structure lS (N m n:Nat) (T:Nat->sP) (r k:Nat->Nat):Prop where
 Wl:ij N m (T 0)
 xj:∀ s,s<n->yH N m (T s) (r s) (k s)
 C1:∀ s,s<n->T (s+1)=jN (T s) (r s) (k s)
section
variable {N m n:Nat}{T:Nat->sP}{r k:Nat->Nat}
def lS.ok (h:lS N m n T r k):∀ {s:Nat},s<=n->ij N m (T s)
 | 0,_=>h.Wl
 | s+1,o=>by
  rw[h.C1 s (by omega)];exact(h.ok (by omega)).piv (h.xj s (by omega))
def lS.J5 (h:lS N m n T r k){x:Nat->Rat}:∀ {s:Nat},s<=n->(zS N m (T s) x↔zS N m (T 0) x)
 | 0,_=>Iff.rfl
 | s+1,o=>by
  rw[h.C1 s (by omega),qzP (h.xj s (by omega))];exact h.J5 (by omega)
def lS.obj (h:lS N m n T r k){x:Nat->Rat}(hx:zS N m (T 0) x):∀ {s:Nat},s<=n->rX N (T s) x=rX N (T 0) x
 | 0,_=>rfl
 | s+1,o=>by
  rw[h.C1 s (by omega),qzQ (h.xj s (by omega)) ((h.J5 (by omega)).2 hx)];exact h.obj hx (by omega)
def lS.B (h:lS N m n T r k){s:Nat}(o:s<n)(i:Nat):(T (s+1)).B i=if i=r s then k s else (T s).B i:=by
 rw[h.C1 s o];rfl
def lS.out (h:lS N m n T r k){s:Nat}(o:s<n):¬uX m (T s) (k s):=by
 rintro⟨i,z,e⟩;have h1:=(h.ok (Nat.le_of_lt o)).aF i z;have F:=(h.xj s o).pos
 grind
def lS.uQ (h:lS N m n T r k){s:Nat}(o:s<n):uX m (T (s+1)) (k s):=⟨r s,(h.xj s o).hr,by rw[h.B o,if_pos rfl]⟩
def lS.gone (h:lS N m n T r k){s:Nat}(o:s<n):¬uX m (T (s+1)) ((T s).B (r s)):=by
 rintro⟨i,K,e⟩;have z:=(h.xj s o).hr;rw[h.B o]at e;by_cases F:i=r s
 ·rw[if_pos F]at e
  exact h.out o ⟨r s,z,e.symm⟩
 rw[if_neg F]at e;exact F ((h.ok (Nat.le_of_lt o)).inj K z e)
def lS.enter (h:lS N m n T r k){a v:Nat}(L:¬uX m (T a) v):∀ {b:Nat},a<=b->b<=n->uX m (T b) v->∃ s,a<=s/\s<b/\k s=v
 | 0,z,_,F=>absurd F (by grind)
 | b+1,z,hn,F=>by
  by_cases e:a=b+1
  ·grind
  by_cases o:uX m (T b) v
  ·obtain⟨s,s1,s2,K⟩:=h.enter L (b:=b) (by omega) (by omega) o
   grind
  obtain⟨i,V,K⟩:=F;rw[h.B (by omega)]at K;by_cases e3:i=r b
  ·grind
  rw[if_neg e3]at K;exact absurd ⟨i,V,K⟩ o
def lS.wK (h:lS N m n T r k){a v:Nat}(F:uX m (T a) v):∀ {b:Nat},a<=b->b<=n->¬uX m (T b) v->∃ s,a<=s/\s<b/\(T s).B (r s)=v
 | 0,z,_,K=>absurd F (by grind)
 | b+1,z,hn,K=>by
  by_cases e:a=b+1
  ·grind
  by_cases o:uX m (T b) v
  ·obtain⟨i,L,V⟩:=o
   by_cases e3:i=r b
   ·grind
   exact absurd ⟨i,L,by rw[h.B (by omega),if_neg e3];exact V⟩ K
  obtain⟨s,s1,s2,L⟩:=h.wK F (b:=b) (by omega) (by omega) o
  grind
def lS.Dd (h:lS N m n T r k){i:Nat}{a:Nat}:∀ {b:Nat},a<=b->b<=n->(∀ s,s<n->r s≠i)->(T b).B i=(T a).B i
 | 0,o,_,_=>by grind
 | b+1,o,K,z=>by
  by_cases e:a=b+1
  ·rw[e]
  rw[h.B (by omega),if_neg fun F=>z b (by omega) F.symm];exact h.Dd (by omega) (by omega) z
def lS.up (h:lS N m n T r k){s:Nat}(o:s<n):(T (s+1)).z=(T s).z+(T s).c (k s)*((T s).b (r s) / (T s).A (r s) (k s))/\0<=(T s).c (k s)*((T s).b (r s) / (T s).A (r s) (k s)):=by
 refine⟨by rw[h.C1 s o];rfl,?_⟩;have p:=h.xj s o;exact Rat.mul_nonneg (Rat.le_of_lt p.pos) (Wj ((h.ok (Nat.le_of_lt o)).nn _ p.hr) p.a)
def lS.mono (h:lS N m n T r k){a:Nat}:∀ {b:Nat},a<=b->b<=n->(T a).z<=(T b).z
 | 0,o,_=>by grind
 | b+1,o,F=>by
  by_cases e:a=b+1
  ·grind
  have h1:=h.mono (a:=a) (b:=b) (by omega) (by omega);obtain⟨K,L⟩:=h.up (s:=b) (by omega)
  grind
def Wm (k:Nat->Nat):∀ {n:Nat},0<n->∃ s,s<n/\∀ s',s'<n->k s'<=k s
 | 0,h=>absurd h (Nat.lt_irrefl _)
 | n+1,_=>by
  by_cases z:n=0
  ·simp_all
  obtain⟨s,h1,F⟩:=Wm k (n:=n) (by omega);by_cases K:k n<=k s
  ·refine⟨s,by omega,fun s' o=>?_⟩
   grind
  refine⟨n,by omega,fun s' o=>?_⟩
  grind
def qwK (h:lS N m n T r k)(hn:0<n)(hB:∀ i,i<m->(T n).B i=(T 0).B i):False:=by
 have T':∀ v,uX m (T n) v↔uX m (T 0) v:=fun v =>
  ⟨fun⟨i,K,e⟩=>⟨i,K,by grind⟩,fun⟨i,K,e⟩=>⟨i,K,by grind⟩⟩
 have h0:=h.Wl;have V':=(h.xj 0 hn).hk
 
 have hz:(T n).z=(T 0).z:=by
  obtain⟨d1,d2⟩:=Oo h0 V' 0;have d3:=h.obj d1 (Nat.le_refl n);rw[d2]at d3;have e:∀ j,yu m (T 0) (fun i=>(T 0).b i-(T 0).A i (k 0)*0) (k 0) 0 j=yu m (T n) (fun i=>(T 0).b i-(T 0).A i (k 0)*0) (k 0) 0 j:=fun j=>by
   unfold yu;congr 1;exact oJ fun i K=>by rw[hB i K]
  have e2:rX N (T n) (yu m (T 0) (fun i=>(T 0).b i-(T 0).A i (k 0)*0) (k 0) 0)=(T n).z:=by
   unfold rX;rw[oJ (g:=fun j=>(T n).c j*yu m (T n) (fun i=>(T 0).b i-(T 0).A i (k 0)*0) (k 0) 0 j) fun j _=>by rw[e j],J4 (h.ok (Nat.le_refl n)) V',Wk (h.ok (Nat.le_refl n))]
   grind
  rw[e2]at d3
  grind
 
 have J':∀ s,s<n->(T s).b (r s)=0:=fun s o=>by
  obtain⟨L,V⟩:=h.up o;have m1:=h.mono (a:=0) (b:=s) (zero_le _) (by omega);have m2:=h.mono (a:=s+1) (b:=n) (by omega) (Nat.le_refl _);have p:=h.xj s o;have F:=p.pos;have ha:=p.a;have h1:(T s).c (k s)*((T s).b (r s) / (T s).A (r s) (k s))=0:=by grind
  grind
 have _s:∀ s,s<n->∀ i,(T (s+1)).b i=(T s).b i:=fun s o i=>by
  rw[h.C1 s o];have h1:=J' s o;show (if i=r s then (T s).b (r s) / (T s).A (r s) (k s) else (T s).b i-(T s).A i (k s)*((T s).b (r s) / (T s).A (r s) (k s)))=_
  grind
 have _a:∀ s,s<=n->∀ i,(T s).b i=(T 0).b i:=fun s=>by
  induction s with
  | zero=>grind
  | succ s F=>grind
 
 have _j:∀ s,s<n->∃ s',s'<n/\k s'=(T s).B (r s):=fun s o=>by
  have F:uX m (T s) ((T s).B (r s)):=⟨r s,(h.xj s o).hr,rfl⟩
  by_cases hv:uX m (T n) ((T s).B (r s))
  ·obtain⟨s',_,L,V⟩:=h.enter (h.gone o) (b:=n) (by omega) (Nat.le_refl _) hv
   grind
  obtain⟨s',_,L,V⟩:=h.enter (a:=0) (fun h0=>hv ((T' _).2 h0)) (b:=s) (zero_le _) (by omega) F
  grind
 have _k:∀ s,s<n->∃ s',s'<n/\(T s').B (r s')=k s:=fun s o=>by
  by_cases hv:uX m (T n) (k s)
  ·obtain⟨s',_,L,V⟩:=h.wK ((T' _).1 hv) (b:=s) (zero_le _) (by omega) (h.out o)
   grind
  obtain⟨s',_,L,V⟩:=h.wK (h.uQ o) (b:=n) (by omega) (Nat.le_refl _) hv
  grind
 obtain⟨s2,j',_b⟩:=Wm k hn;obtain⟨s1,F,_c⟩:=_k s2 j';have P':=h.ok (Nat.le_of_lt F);have _l:=h.ok (Nat.le_of_lt j');have p1:=h.xj s1 F;have p2:=h.xj s2 j';have _d:=p1.hr;have _e:=p1.hk;have _t:k s1≠k s2:=fun e=>h.out F ⟨r s1,_d,by rw[_c,e]⟩;have _u:(T s2).c (k s1)<=0:=p2.low _ (by grind);have _v:=p1.pos;have _m:=p2.pos
 
 have _f:bH (fun i=>(T s2).c ((T s1).B i)*(T s1).A i (k s1)) m<0:=by
  have key:∀ y:Rat,(T s2).z+(bH (fun i=>(T s2).c ((T s1).B i)*((T s1).b i-(T s1).A i (k s1)*y)) m+(T s2).c (k s1)*y)=(T s1).z+(T s1).c (k s1)*y:=fun y=>by
   obtain⟨d1,d2⟩:=Oo P' _e y;have d0:=(h.J5 (Nat.le_of_lt F)).1 d1;have e1:=h.obj d0 (Nat.le_of_lt F);have e2:=h.obj d0 (Nat.le_of_lt j');rw[<-d2,e1,<-e2];unfold rX;rw[J4 P' _e]
  have k0:=key 0;have k1:=key 1;have e0:bH (fun i=>(T s2).c ((T s1).B i)*((T s1).b i-(T s1).A i (k s1)*0)) m=bH (fun i=>(T s2).c ((T s1).B i)*(T s1).b i) m:=oJ fun i _=>by grind
  have e1:bH (fun i=>(T s2).c ((T s1).B i)*((T s1).b i-(T s1).A i (k s1)*1)) m=bH (fun i=>(T s2).c ((T s1).B i)*(T s1).b i) m-bH (fun i=>(T s2).c ((T s1).B i)*(T s1).A i (k s1)) m:=by
   rw[<-Om];exact oJ fun i _=>by grind
  rw[e0]at k0;rw[e1]at k1
  grind
 obtain⟨i,K,_g⟩:=Wi _f;have _h:(T s2).c ((T s1).B i)≠0:=fun e=>by simp_all
 have R':¬uX m (T s2) ((T s1).B i):=fun⟨l,hl,e⟩=>_h (by rw[<-e];exact _l.aF l hl);have _i:uX m (T s1) ((T s1).B i):=⟨i,K,rfl⟩
 have _r:(T s1).B i<=k s2:=by
  have:∃ s,s<n/\k s=(T s1).B i:=by
   by_cases fh:s2<=s1
   ·obtain⟨s,_,L,V⟩:=h.enter R' fh (by omega) _i
    grind
   obtain⟨s,_,L,V⟩:=h.wK _i (b:=s2) (by omega) (by omega) R';obtain⟨s',h4,h5⟩:=_j s (by omega)
   grind
  obtain⟨s,L,V⟩:=this;rw[<-V];exact _b s L
 have _n:=p1.a;have _w:(T s1).B i≠k s2:=fun e=>by
  have e2:i=r s1:=P'.inj K _d (by rw[_c,e]);rw[e,e2]at _g;have:=Rat.mul_pos _m _n
  grind
 have _x:(T s2).c ((T s1).B i)<=0:=p2.low _ (by omega);have _o:0<(T s1).A i (k s1):=by
  refine Classical.byContradiction fun H'=>?_;have:=Rat.mul_nonneg (a := -(T s2).c ((T s1).B i)) (b := -(T s1).A i (k s1)) (by grind) (by grind)
  grind
 have _p:(T s1).b i=0:=by
  have:∃ s,s<n/\r s=i:=Classical.byContradiction fun _q=>by
   have H':∀ s,s<n->r s≠i:=fun s o e=>_q ⟨s,o,e⟩;have e0:(T s2).B i=(T s1).B i:=by
    rw[h.Dd (a:=0) (zero_le _) (by omega) H',h.Dd (a:=0) (b:=s1) (zero_le _) (by omega) H']
   exact R' ⟨i,K,e0⟩
  obtain⟨s,L,V⟩:=this;have h4:=J' s L;rw[V,_a s (by omega)]at h4;rw[_a s1 (by omega)];exact h4
 have L:=J' s1 F;rcases p1.min i K _o with h5|⟨_,h5⟩
 ·rw[L,_p]at h5
  grind
 omega
def mV (N:Nat)(B:Nat->Nat):Nat->Nat
 | 0=>0
 | m+1=>mV N B m+B m*N ^ m
def J6 {N:Nat}{B:Nat->Nat}:∀ {m:Nat},(∀ i,i<m->B i<N)->mV N B m<N ^ m
 | 0,_=>by show 0<1;omega
 | m+1,h=>by
  have h1:=J6 (m:=m) fun i F=>h i (by omega);have o:=h m (by omega);have z:(B m+1)*N ^ m<=N*N ^ m:=mul_le_mul_right _ o;have K:N ^ (m+1)=N*N ^ m:=by rw[Nat.pow_succ,Nat.mul_comm]
  rw[succ_mul]at z;show mV N B m+B m*N ^ m<_;omega
def Wn {N:Nat}{B C:Nat->Nat}:∀ {m:Nat},(∀ i,i<m->B i<N)->(∀ i,i<m->C i<N)->mV N B m=mV N C m->∀ i,i<m->B i=C i
 | 0,_,_,_,i,o=>absurd o (not_lt_zero _)
 | m+1,z,F,h,i,o=>by
  have L:=J6 (m:=m) fun i o=>z i (by omega);have c1:=J6 (m:=m) fun i o=>F i (by omega);have V:mV N B m+B m*N ^ m=mV N C m+C m*N ^ m:=h;have K:0<N ^ m:=by omega
  have e:B m=C m:=by
   have q1:(mV N B m+B m*N ^ m) / N ^ m=B m:=by rw[add_mul_div_right _ _ K,div_eq_of_lt L];omega
   have q2:(mV N C m+C m*N ^ m) / N ^ m=C m:=by rw[add_mul_div_right _ _ K,div_eq_of_lt c1];omega
   rw[<-q1,<-q2,V]
  by_cases hm:i=m
  ·grind
  exact Wn (m:=m) (fun i o=>z i (by omega)) (fun i o=>F i (by omega)) (by grind) i (by omega)
def Dy {f:Nat->Nat}{M' n:Nat}(hf:∀ s,s<=n->f s<M')(hn:M'<=n):∃ a b,a<b/\b<=n/\f a=f b:=by
 refine Classical.byContradiction fun F=>?_;have o:∀ a b,a<=n->b<=n->f a=f b->a=b:=fun a b L V e=>by
  rcases Nat.lt_trichotomy a b with h|h|h
  ·simp_all
  ·exact h
  exact absurd ⟨b,a,h,L,e.symm⟩ F
 have key:∀ (M':Nat) (l:List Nat),l.Nodup->(∀ x∈l,x<M')->l.length<=M':=by
  intro M'
  induction M' with
  | zero =>
   intro l _ h
   cases l with
   | nil=>grind
   | cons x l=>exact absurd (h x mem_cons_self) (not_lt_zero _)
  | succ M' K =>
   intro l z h;have h1:=K (l.filter fun x=>x≠M') (z.filter _) fun x hx=>by
    grind
   have h2:l.length<=(l.filter fun x=>x≠M').length+1:=by
    clear h K h1
    induction l with
    | nil=>simp
    | cons y l j' =>
     obtain⟨g1,g2⟩:=nodup_cons.1 z;by_cases e:y=M'
     ·subst e
      have:(l.filter fun x=>x≠y)=l:=filter_eq_self.2 fun x hx=>by grind
      grind
     grind
   omega
 have z:((List.range (n+1)).map f).Nodup:=by
  refine pairwise_map.2 (Pairwise.imp_of_mem ?_ (nodup_range (n:=n+1)));intro a b L V K e;exact K (o a b (by grind) (by grind) e)
 have:=key M' _ z fun x hx=>by
  obtain⟨s,K,rfl⟩:=mem_map.1 hx
  grind
 grind
def lS.shift (h:lS N m n T r k){a b:Nat}(o:a<=b)(F:b<=n):lS N m (b-a) (fun s=>T (a+s)) (fun s=>r (a+s)) (fun s=>k (a+s)) :=
 ⟨h.ok (by omega),fun s z=>h.xj (a+s) (by omega),fun s z=>h.C1 (a+s) (by omega)⟩
def lS.wG (h:lS N m n T r k):n<N ^ m:=by
 refine Nat.not_le.1 fun fh=>?_;obtain⟨a,b,h1,o,z⟩:=Dy (f:=fun s=>mV N (T s).B m) (M':=N ^ m) (n:=n) (fun s F=>J6 (h.ok F).lt) fh;have K:=h.shift (Nat.le_of_lt h1) o;refine qwK K (by omega) fun i L=>?_;show (T (a+(b-a))).B i=(T (a+0)).B i;rw[show a+(b-a)=b by omega,Nat.add_zero];exact(Wn (h.ok (by omega)).lt (h.ok o).lt z i L).symm
end
structure bY where
 num:Int
 den:Int
 deriving DecidableEq
def bb (f:bY):Rat:=(f.num:Rat) / (f.den:Rat)
def ca (f:bY):Prop:=1<=f.den/\f.den<=1048576 /\ -1099511627776<=f.num/\f.num<=1099511627776/\Int.gcd f.num f.den=1
instance PD (f:bY):Decidable (ca f):=by unfold ca;infer_instance
def nC (num den:Int):Int × bY :=
 let n:=if den<0 then -num else num
 let d:=if den<0 then -den else den
 let g:Int:=Int.gcd n d
 let f:bY:=⟨n / g,d / g⟩
 if 1099511627776<f.num.natAbs\/1048576<f.den then (5,⟨0,0⟩) else (0,f)
def jS (num den other rest:Int):Int × bY :=
 if num=0\/other=0 then (0,⟨0,1⟩) else
 let g:Int:=Int.gcd num rest
 let h:Int:=Int.gcd other den
 let n:=num / g
 let r:=rest / g
 let o:=other / h
 let d:=den / h
 if 1099511627776 / (o.natAbs:Int)<n.natAbs\/1048576 / r<d then (5,⟨0,0⟩) else (0,⟨n*o,d*r⟩)
def yw {a:Int}(h:a≠0):(a:Rat)≠0:=fun e=>h (by simp_all)
def Oq {a g:Int}(I:g≠0)(h:g ∣ a)(o:g ∣ b)(z:b≠0):((a / g:Int):Rat) / ((b / g:Int):Rat)=(a:Rat) / (b:Rat):=by
 obtain⟨L,rfl⟩:=h;obtain⟨F,rfl⟩:=o;have K:F≠0:=fun e=>z (by grind);rw[Int.mul_ediv_cancel_left _ I,Int.mul_ediv_cancel_left _ I,Rat.intCast_mul,Rat.intCast_mul];have h1:=yw I
 grind
def Kw {num:Int}{f:bY}(L:den≠0)(h:nC num den=(0,f)):bb f=(num:Rat) / (den:Rat)/\ca f:=by
 unfold nC at h;simp only at h;generalize V:(if den<0 then -num else num)=n at h;generalize F:(if den<0 then -den else den)=d at h;have z:0<d:=by rw[<-F];split<;>omega
 split at h
 ·grind
 rename_i K;have e:f=⟨n / (Int.gcd n d:Int),d / (Int.gcd n d:Int)⟩:=(congrArg Prod.snd h).symm;have I:0<(Int.gcd n d:Int):=by
  have:=Int.gcd_pos_of_ne_zero_right n (show d≠0 by omega);omega
 subst e;replace K:¬(1099511627776<((n / (Int.gcd n d:Int)).natAbs:Int)\/1048576<d / (Int.gcd n d:Int)):=by
  intro o;apply K;rcases o with o|o
  ·left;omega
  exact .inr o
 have h1:bb ⟨n / (Int.gcd n d:Int),d / (Int.gcd n d:Int)⟩=(n:Rat) / (d:Rat):=Oq (by omega) (Int.gcd_dvd_left ..) (Int.gcd_dvd_right ..) (by omega);refine⟨?_,?_,?_,?_,?_,?_⟩
 ·rw[h1,<-V,<-F]
  have:=yw L;split
  ·grind
  rfl
 ·exact Int.le_ediv_of_mul_le I (by have:=Int.le_of_dvd z (Int.gcd_dvd_right (a:=n) (b:=d));omega)
 ·grind
 ·grind
 ·grind
 simp only;rw[Int.gcd_ediv_gcd_ediv_gcd (by omega)]
def Ot {num other rest:Int}{f:bY}(z:0<den)(F:0<rest)(h:jS num den other rest=(0,f)):bb f=(num:Rat)*(other:Rat) / ((den:Rat)*(rest:Rat)):=by
 have c1:=yw (show den≠0 by omega);have c2:=yw (show rest≠0 by omega);unfold jS at h;simp only at h;split at h
 ·rename_i o
  have e:f=⟨0,1⟩:=(congrArg Prod.snd h).symm;subst e;unfold bb;rcases o with e|e<;>subst e<;>simp<;>grind
 split at h
 ·grind
 have e:=(congrArg Prod.snd h).symm;simp only at e;subst e;have g1:(Int.gcd num rest:Int)≠0:=by have:=Int.gcd_pos_of_ne_zero_right num (show rest≠0 by omega);omega
 have g2:(Int.gcd other den:Int)≠0:=by have:=Int.gcd_pos_of_ne_zero_right other (show den≠0 by omega);omega
 have v1:=Oq g1 (Int.gcd_dvd_left (a:=num) (b:=rest)) (Int.gcd_dvd_right ..) (show rest≠0 by omega);have v2:=Oq g2 (Int.gcd_dvd_left (a:=other) (b:=den)) (Int.gcd_dvd_right ..) (show den≠0 by omega);unfold bb
 grind
def Wo {a c d:Int}(h:Int.gcd a b=1)(h1:c ∣ a)(h2:d ∣ b):Int.gcd c d=1:=by
 have o:(Int.gcd c d:Int) ∣ (Int.gcd a b:Int):=Int.dvd_coe_gcd (Int.dvd_trans (Int.gcd_dvd_left ..) h1) (Int.dvd_trans (Int.gcd_dvd_right ..) h2);rw[h]at o;have z:Int.gcd c d ∣ 1:=by exact_mod_cast o
 simp_all
def qAD {a c d:Int}(h1:Int.gcd a c=1)(h2:Int.gcd a d=1)(h:Int.gcd b c=1)(o:Int.gcd b d=1):Int.gcd (a*b) (c*d)=1:=by
 unfold Int.gcd at *
 rw[Int.natAbs_mul,Int.natAbs_mul];exact Coprime.mul_left (Coprime.mul_right h1 h2) (Coprime.mul_right h o)
def Ou {num other rest:Int}{f:bY}(hd:0<den)(hr:0<rest)(c1:Int.gcd num den=1)(c2:Int.gcd other rest=1)(h:jS num den other rest=(0,f)):ca f:=by
 unfold jS at h;simp only at h;split at h
 ·have e:f=⟨0,1⟩:=(congrArg Prod.snd h).symm
  subst e;decide
 rename_i hz;split at h
 ·grind
 rename_i hc;have e:=(congrArg Prod.snd h).symm;simp only at e;subst e;have g1:0<(Int.gcd num rest:Int):=by have:=Int.gcd_pos_of_ne_zero_right num (show rest≠0 by omega);omega
 have g2:0<(Int.gcd other den:Int):=by have:=Int.gcd_pos_of_ne_zero_right other (show den≠0 by omega);omega
 have V:=Int.ediv_mul_cancel (Int.gcd_dvd_right (a:=num) (b:=rest));have k2:=Int.ediv_mul_cancel (Int.gcd_dvd_right (a:=other) (b:=den));have k3:=Int.ediv_mul_cancel (Int.gcd_dvd_left (a:=num) (b:=rest));have k4:=Int.ediv_mul_cancel (Int.gcd_dvd_left (a:=other) (b:=den));have q1:Int.gcd (num / (Int.gcd num rest:Int)) (rest / (Int.gcd num rest:Int))=1:=Int.gcd_ediv_gcd_ediv_gcd (by omega);have q2:Int.gcd (other / (Int.gcd other den:Int)) (den / (Int.gcd other den:Int))=1:=Int.gcd_ediv_gcd_ediv_gcd (by omega);obtain⟨n,K⟩:∃ n,n=num / (Int.gcd num rest:Int):=⟨_,rfl⟩
 obtain⟨r,z⟩:∃ r,r=rest / (Int.gcd num rest:Int):=⟨_,rfl⟩
 obtain⟨o,L⟩:∃ o,o=other / (Int.gcd other den:Int):=⟨_,rfl⟩
 obtain⟨d,F⟩:∃ d,d=den / (Int.gcd other den:Int):=⟨_,rfl⟩
 rw[<-K,<-z,<-L,<-F]at hc;rw[<-K,<-z]at q1;rw[<-L,<-F]at q2;rw[<-z]at V;rw[<-F]at k2;rw[<-K]at k3;rw[<-L]at k4;rw[<-K,<-z,<-L,<-F];have rp:0<r:=by
  refine Int.not_le.1 fun h=>?_;have:=Int.mul_nonpos_of_nonpos_of_nonneg h (Int.le_of_lt g1);omega
 have dp:0<d:=by
  refine Int.not_le.1 fun h=>?_;have:=Int.mul_nonpos_of_nonpos_of_nonneg h (Int.le_of_lt g2);omega
 have o0:o≠0:=fun e=>by grind
 have q3:Int.gcd n d=1:=Wo c1 ⟨_,k3.symm⟩ ⟨_,k2.symm⟩;have q4:Int.gcd o r=1:=Wo c2 ⟨_,k4.symm⟩ ⟨_,V.symm⟩;have op:0<(o.natAbs:Int):=by omega
 have b1:(n.natAbs:Int)*(o.natAbs:Int)<=1099511627776:=by
  have:=Int.mul_le_mul_of_nonneg_right (show (n.natAbs:Int)<=1099511627776 / (o.natAbs:Int) by omega) (Int.le_of_lt op);have h2:=Int.ediv_mul_le 1099511627776 (show (o.natAbs:Int)≠0 by omega);omega
 have b2:d*r<=1048576:=by
  have:=Int.mul_le_mul_of_nonneg_right (show d<=1048576 / r by omega) (Int.le_of_lt rp);have h2:=Int.ediv_mul_le 1048576 (show r≠0 by omega);omega
 have b3:((n*o).natAbs:Int)<=1099511627776:=by rw[Int.natAbs_mul,Int.natCast_mul];exact b1
 refine⟨?_,b2,?_,?_,qAD q3 q1 q2 q4⟩
 ·have:=Int.mul_pos dp rp
  grind
 ·grind
 grind
def jJ (a b:bY):Int × bY:=if ¬ca a\/¬ca b then (2,⟨0,0⟩) else nC (a.num*b.den+b.num*a.den) (a.den*b.den)
def oV (a b:bY):Int × bY:=if ¬ca a\/¬ca b then (2,⟨0,0⟩) else nC (a.num*b.den-b.num*a.den) (a.den*b.den)
def fD (a b:bY):Int × bY:=if ¬ca a\/¬ca b then (2,⟨0,0⟩) else jS a.num a.den b.num b.den
def gN (zc:Int)(a b:bY):Int × bY:=if ¬ca a\/¬ca b then (2,⟨0,0⟩) else if b.num=0 then (zc,⟨0,0⟩) else if b.num<0 then jS (-a.num) a.den b.den (-b.num) else jS a.num a.den b.den b.num
def Wp {a:Int}(h:Int.gcd a b=1):Int.gcd b a=1:=by rw[Int.gcd_comm];exact h
def wQ {a b f:bY}(h:jJ a b=(0,f)):ca a/\ca b/\ca f/\bb f=bb a+bb b:=by
 unfold jJ at h;split at h
 ·grind
 rename_i z;have F:ca a:=Classical.byContradiction fun o=>z (.inl o);have K:ca b:=Classical.byContradiction fun o=>z (.inr o);have a1:=F.1;have b1:=K.1;have L:a.den*b.den≠0:=by have:=Int.mul_pos (show 0<a.den by omega) (show 0<b.den by omega);omega
 obtain⟨h1,V⟩:=Kw L h;refine⟨F,K,V,?_⟩;rw[h1,Rat.intCast_add,Rat.intCast_mul,Rat.intCast_mul,Rat.intCast_mul];unfold bb;have c1:=yw (show a.den≠0 by omega);have c2:=yw (show b.den≠0 by omega)
 grind
def wR {a b f:bY}(h:oV a b=(0,f)):ca a/\ca b/\ca f/\bb f=bb a-bb b:=by
 unfold oV at h;split at h
 ·grind
 rename_i z;have F:ca a:=Classical.byContradiction fun o=>z (.inl o);have K:ca b:=Classical.byContradiction fun o=>z (.inr o);have a1:=F.1;have b1:=K.1;have L:a.den*b.den≠0:=by have:=Int.mul_pos (show 0<a.den by omega) (show 0<b.den by omega);omega
 obtain⟨h1,V⟩:=Kw L h;refine⟨F,K,V,?_⟩;rw[h1,Rat.intCast_sub,Rat.intCast_mul,Rat.intCast_mul,Rat.intCast_mul];unfold bb;have c1:=yw (show a.den≠0 by omega);have c2:=yw (show b.den≠0 by omega)
 grind
def tA {a b f:bY}(h:fD a b=(0,f)):ca a/\ca b/\ca f/\bb f=bb a*bb b:=by
 unfold fD at h;split at h
 ·grind
 rename_i K;have o:ca a:=Classical.byContradiction fun z=>K (.inl z);have F:ca b:=Classical.byContradiction fun z=>K (.inr z);have L:=o.1;have V:=F.1;refine⟨o,F,Ou (by omega) (by omega) o.2.2.2.2 F.2.2.2.2 h,?_⟩;rw[Ot (by omega) (by omega) h];unfold bb
 grind
def Ov {zc:Int}{a b f:bY}(hz:zc≠0)(h:gN zc a b=(0,f)):ca a/\ca b/\b.num≠0/\ca f/\bb f=bb a / bb b:=by
 unfold gN at h;split at h
 ·grind
 rename_i K;have z:ca a:=Classical.byContradiction fun o=>K (.inl o);have F:ca b:=Classical.byContradiction fun o=>K (.inr o);have a1:=z.1;have b1:=F.1;have c1:=yw (show a.den≠0 by omega);have c2:=yw (show b.den≠0 by omega);split at h
 ·grind
 rename_i o;have c3:=yw o;split at h
 ·rename_i L
  have V:Int.gcd (-a.num) a.den=1:=by rw[Int.neg_gcd];exact z.2.2.2.2
  have k2:Int.gcd b.den (-b.num)=1:=by rw[Int.gcd_neg];exact Wp F.2.2.2.2
  refine⟨z,F,o,Ou (by omega) (by omega) V k2 h,?_⟩;rw[Ot (by omega) (by omega) h,Rat.intCast_neg,Rat.intCast_neg];unfold bb
  grind
 refine⟨z,F,o,Ou (by omega) (by omega) z.2.2.2.2 (Wp F.2.2.2.2) h,?_⟩;rw[Ot (by omega) (by omega) h];unfold bb
 grind
def gG (f:bY):bY:=if ca f then f else ⟨0,1⟩
def lT (a b:bY):Int:=if (gG a).num*(gG b).den<(gG b).num*(gG a).den then -1 else if (gG b).num*(gG a).den<(gG a).num*(gG b).den then 1 else 0
def ES {a c d:Int}(z:0<b)(F:0<d):a*d<c*b↔(a:Rat) / (b:Rat)<(c:Rat) / (d:Rat):=by
 have c1:(0:Rat)<(b:Rat):=by exact_mod_cast z
 have c2:(0:Rat)<(d:Rat):=by exact_mod_cast F
 have e:((c:Rat) / (d:Rat)-(a:Rat) / (b:Rat))*((b:Rat)*(d:Rat))=(c:Rat)*(b:Rat)-(a:Rat)*(d:Rat):=by grind
 have o:=Rat.mul_pos c1 c2;have k:a*d<c*b↔(a:Rat)*(d:Rat)<(c:Rat)*(b:Rat):=by
  rw[<-Rat.intCast_mul,<-Rat.intCast_mul];constructor
  ·intro h;exact_mod_cast h
  intro h;exact_mod_cast h
 rw[k];constructor
 ·intro h
  refine Classical.byContradiction fun K=>?_;have:=Rat.mul_nonneg (a:=(a:Rat) / (b:Rat)-(c:Rat) / (d:Rat)) (by grind) (Rat.le_of_lt o)
  grind
 intro h;have:=Rat.mul_pos (a:=(c:Rat) / (d:Rat)-(a:Rat) / (b:Rat)) (by grind) o
 grind
def Kx {a b:bY}(h:ca a)(o:ca b):(lT a b<0↔bb a<bb b)/\(lT a b=0↔bb a=bb b):=by
 have L:=h.1;have V:=o.1;have h1:=ES (a:=a.num) (b:=a.den) (c:=b.num) (d:=b.den) (by omega) (by omega);have z:=ES (a:=b.num) (b:=b.den) (c:=a.num) (d:=a.den) (by omega) (by omega);have F:(a.num:Rat) / (a.den:Rat)=bb a:=rfl;have K:(b.num:Rat) / (b.den:Rat)=bb b:=rfl;rw[F,K]at h1 z;unfold lT gG;rw[if_pos h,if_pos o];by_cases h3:a.num*b.den<b.num*a.den
 ·grind
 grind
def mO (f:bY):Int:=if (gG f).num.tdiv (gG f).den*(gG f).den<(gG f).num then (gG f).num.tdiv (gG f).den+1 else (gG f).num.tdiv (gG f).den
def PR {f:bY}(z:ca f){k:Int}(h:bb f<=(k:Rat)):mO f<=k:=by
 have h1:=z.1;have c1:(0:Rat)<(f.den:Rat):=by exact_mod_cast (show 0<f.den by omega)
 have L:f.num<=k*f.den:=by
  have F:=Rat.mul_nonneg (a:=(k:Rat)-bb f) (b:=(f.den:Rat)) (by grind) (Rat.le_of_lt c1);have K:bb f*(f.den:Rat)=(f.num:Rat):=by unfold bb;grind
  have o:(f.num:Rat)<=(k:Rat)*(f.den:Rat):=by grind
  rw[<-Rat.intCast_mul]at o
  exact_mod_cast o
 have V:=Int.tmod_lt_of_pos f.num (show 0<f.den by omega);have h7:=Int.lt_tmod_of_pos f.num (show 0<f.den by omega);have K:=Int.tdiv_mul_add_tmod f.num f.den;unfold mO gG;rw[if_pos z];obtain⟨q,hq⟩:∃ q,q=f.num.tdiv f.den:=⟨_,rfl⟩
 rw[<-hq]at K ⊢;split
 ·rename_i F
  have:q*f.den<k*f.den:=by omega
  have:=Int.lt_of_mul_lt_mul_right this (by omega);omega
 have F:q*f.den-f.den<k*f.den:=by omega
 have o:(q-1)*f.den<k*f.den:=by rw[Int.sub_mul,Int.one_mul];exact F
 have:=Int.lt_of_mul_lt_mul_right o (by omega);omega
def Xw {f:bY}(h:0<=f.num):0<=mO f:=by
 have key:0<=(gG f).num/\1<=(gG f).den:=by
  unfold gG;split
  ·rename_i o;exact⟨h,o.1⟩
  decide
 have:=Int.tdiv_nonneg key.1 (show 0<=(gG f).den by omega);unfold mO;omega
def nD:bY->List bY->Int × bY
 | s,[]=>(0,s)
 | s,f::l=>if (jJ s f).1=0 then nD (jJ s f).2 l else ((jJ s f).1,⟨0,0⟩)
def PP:∀ {l:List bY}{s f:bY},nD s l=(0,f)->ca s->ca f/\bb f=bb s+bH (fun i=>bb (l.getD i ⟨0,1⟩)) l.length
 | [],s,f,h,o=>by
  have e:f=s:=(congrArg Prod.snd h).symm;subst e
  exact⟨o,by show _=_+(0:Rat);grind⟩
 | x::l,s,f,h,o=>by
  unfold nD at h;split at h
  ·rename_i z
   obtain⟨_,_,F,K⟩:=wQ (f:=(jJ s x).2) (show jJ s x=(0,(jJ s x).2) by rw[<-z]);obtain⟨g1,g2⟩:=PP h F;refine⟨g1,?_⟩;rw[g2,K,length_cons];have key:∀ n,bH (fun i=>bb ((x::l).getD i ⟨0,1⟩)) (n+1)=bb x+bH (fun i=>bb (l.getD i ⟨0,1⟩)) n:=by
    intro n
    induction n with
    | zero=>show (0:Rat)+bb x=bb x+0;grind
    | succ n L =>
     show bH (fun i=>bb ((x::l).getD i ⟨0,1⟩)) (n+1)+bb ((x::l).getD (n+1) ⟨0,1⟩)=bb x+(bH (fun i=>bb (l.getD i ⟨0,1⟩)) n+bb (l.getD n ⟨0,1⟩))
     grind
   grind
  grind
def dF:bY:=⟨0,0⟩
structure e8 where
 rows:List (List bY)
 right:List bY
 bW:List Int
 aF:List bY
 value:bY
def fz (x f y:bY):Int × bY:=if (fD f y).1=0 then oV x (fD f y).2 else ((fD f y).1,dF)
def eF (f:bY):List bY->List bY->Int × List bY
 | x::row,y::piv=>if (fz x f y).1=0 then (if (eF f row piv).1=0 then (0,(fz x f y).2::(eF f row piv).2) else ((eF f row piv).1,[])) else ((fz x f y).1,[])
 | [],_=>(0,[])
 | _::_,[]=>(0,[])
def lY (p:bY):List bY->Int × List bY
 | []=>(0,[])
 | x::row=>if (gN 22 x p).1=0 then (if (lY p row).1=0 then (0,(gN 22 x p).2::(lY p row).2) else ((lY p row).1,[])) else ((gN 22 x p).1,[])
def Ow {f:bY}:∀ {row piv out:List bY},row.length<=piv.length->eF f row piv=(0,out)->out.length=row.length/\∀ i,i<row.length->ca (out.getD i dF)/\bb (out.getD i dF)=bb (row.getD i dF)-bb f*bb (piv.getD i dF)
 | [],piv,out,_,h=>by
  have e:out=[]:=(congrArg Prod.snd h).symm
  grind
 | x::row,[],_,z,_=>absurd z (by simp)
 | x::row,y::piv,out,z,h=>by
  unfold eF at h;split at h
  ·rename_i o
   split at h
   ·rename_i h1
    have e:out=(fz x f y).2::(eF f row piv).2:=(congrArg Prod.snd h).symm;subst e;obtain⟨g1,g2⟩:=Ow (f:=f) (row:=row) (piv:=piv) (out:=(eF f row piv).2) (by grind) (by rw[<-h1]);refine⟨by simp[g1],fun i L=>?_⟩
    cases i with
    | zero =>
     have F:(fD f y).1=0:=Classical.byContradiction fun V=>by
      unfold fz at o
      grind
     have K:fz x f y=oV x (fD f y).2:=by unfold fz;rw[if_pos F]
     rw[K]at o;obtain⟨_,_,_,v1⟩:=tA (f:=(fD f y).2) (show fD f y=(0,(fD f y).2) by rw[<-F]);obtain⟨_,_,p2,v2⟩:=wR (f:=(oV x (fD f y).2).2) (show oV x (fD f y).2=(0,(oV x (fD f y).2).2) by rw[<-o])
     grind
    | succ i =>
     grind
   grind
  grind
def Wq {p:bY}:∀ {row out:List bY},lY p row=(0,out)->out.length=row.length/\∀ i,i<row.length->ca (out.getD i dF)/\bb (out.getD i dF)=bb (row.getD i dF) / bb p
 | [],out,h=>by
  have e:out=[]:=(congrArg Prod.snd h).symm
  grind
 | x::row,out,h=>by
  unfold lY at h;split at h
  ·rename_i o
   split at h
   ·rename_i h1
    have e:out=(gN 22 x p).2::(lY p row).2:=(congrArg Prod.snd h).symm;subst e;obtain⟨g1,g2⟩:=Wq (p:=p) (row:=row) (out:=(lY p row).2) (by rw[<-h1]);refine⟨by simp[g1],fun i z=>?_⟩
    cases i with
    | zero =>
     obtain⟨_,_,_,F,v2⟩:=Ov (zc:=22) (by decide) (f:=(gN 22 x p).2) (show gN 22 x p=(0,(gN 22 x p).2) by rw[<-o])
     grind
    | succ i =>
     grind
   grind
  grind
def cw (r k:Nat)(rowR:List bY)(xr:bY):Nat->List (List bY)->List bY->Int × List (List bY) × List bY
 | i,row::rows,x::right =>
  if i=r then
   (if (cw r k rowR xr (i+1) rows right).1=0 then (0,rowR::(cw r k rowR xr (i+1) rows right).2.1,xr::(cw r k rowR xr (i+1) rows right).2.2) else ((cw r k rowR xr (i+1) rows right).1,[],[]))
  else if (eF (row.getD k dF) row rowR).1=0 then
   (if (fz x (row.getD k dF) xr).1=0 then
    (if (cw r k rowR xr (i+1) rows right).1=0 then (0,(eF (row.getD k dF) row rowR).2::(cw r k rowR xr (i+1) rows right).2.1,(fz x (row.getD k dF) xr).2::(cw r k rowR xr (i+1) rows right).2.2) else ((cw r k rowR xr (i+1) rows right).1,[],[]))
   else ((fz x (row.getD k dF) xr).1,[],[]))
  else ((eF (row.getD k dF) row rowR).1,[],[])
 | _,[],_=>(0,[],[])
 | _,_::_,[]=>(0,[],[])
def qxe {x f y out:bY}(h:fz x f y=(0,out)):ca out/\bb out=bb x-bb f*bb y:=by
 have o:(fD f y).1=0:=Classical.byContradiction fun F=>by
  unfold fz at h
  grind
 have z:fz x f y=oV x (fD f y).2:=by unfold fz;rw[if_pos o]
 rw[z]at h;obtain⟨_,_,_,v1⟩:=tA (f:=(fD f y).2) (show fD f y=(0,(fD f y).2) by rw[<-o]);obtain⟨_,_,K,v2⟩:=wR h
 grind
def Ox {r k:Nat}{rowR:List bY}{xr:bY}{N:Nat}(hR:rowR.length=N):∀ {rows:List (List bY)}{right:List bY}{i:Nat}{o1:List (List bY)}{o2:List bY},rows.length=right.length->(∀ l∈rows,l.length=N)->cw r k rowR xr i rows right=(0,o1,o2) ->
  o1.length=rows.length/\o2.length=rows.length/\∀ j,j<rows.length ->
   (i+j=r->o1.getD j []=rowR/\o2.getD j dF=xr) /\
   (i+j≠r->(o1.getD j []).length=N/\(∀ q,q<N->ca ((o1.getD j []).getD q dF)/\bb ((o1.getD j []).getD q dF)=bb ((rows.getD j []).getD q dF)-bb ((rows.getD j []).getD k dF)*bb (rowR.getD q dF))/\ca (o2.getD j dF)/\bb (o2.getD j dF)=bb (right.getD j dF)-bb ((rows.getD j []).getD k dF)*bb xr)
 | [],right,i,o1,o2,_,_,h=>by
  have K:o1=[]:=(congrArg (fun x=>x.2.1) h).symm;have L:o2=[]:=(congrArg (fun x=>x.2.2) h).symm
  grind
 | row::rows,[],_,_,_,o,_,_=>absurd o (by simp)
 | row::rows,x::right,i,o1,o2,o,hN,h=>by
  have z:rows.length=right.length:=by simpa using o
  have F:∀ l∈rows,l.length=N:=fun l o=>hN l (mem_cons_of_mem _ o);have j':row.length=N:=hN row mem_cons_self;unfold cw at h;by_cases V:i=r
  ·rw[if_pos V]at h
   split at h
   ·rename_i h1
    obtain⟨g1,g2,g3⟩:=Ox hR (i:=i+1) (o1:=(cw r k rowR xr (i+1) rows right).2.1) (o2:=(cw r k rowR xr (i+1) rows right).2.2) z F (by rw[<-h1]);have K:o1=rowR::(cw r k rowR xr (i+1) rows right).2.1:=(congrArg (fun x=>x.2.1) h).symm;have L:o2=xr::(cw r k rowR xr (i+1) rows right).2.2:=(congrArg (fun x=>x.2.2) h).symm;subst K;subst L;refine⟨by simp[g1],by simp[g2],fun j hj=>?_⟩
    cases j with
    | zero=>simp_all
    | succ j =>
     have:=g3 j (by simpa using hj);rw[show i+1+j=i+(j+1) by omega]at this
     simpa [getD_cons_succ] using this
   grind
  rw[if_neg V]at h;split at h
  ·rename_i h2
   split at h
   ·rename_i h3
    split at h
    ·rename_i h1
     obtain⟨g1,g2,g3⟩:=Ox hR (i:=i+1) (o1:=(cw r k rowR xr (i+1) rows right).2.1) (o2:=(cw r k rowR xr (i+1) rows right).2.2) z F (by rw[<-h1]);have K:o1=(eF (row.getD k dF) row rowR).2::(cw r k rowR xr (i+1) rows right).2.1:=(congrArg (fun x=>x.2.1) h).symm;have L:o2=(fz x (row.getD k dF) xr).2::(cw r k rowR xr (i+1) rows right).2.2:=(congrArg (fun x=>x.2.2) h).symm;subst K;subst L;obtain⟨k1,k2⟩:=Ow (f:=row.getD k dF) (row:=row) (piv:=rowR) (out:=(eF (row.getD k dF) row rowR).2) (by omega) (by rw[<-h2]);obtain⟨k3,k4⟩:=qxe (x:=x) (f:=row.getD k dF) (y:=xr) (out:=(fz x (row.getD k dF) xr).2) (by rw[<-h3]);refine⟨by simp[g1],by simp[g2],fun j hj=>?_⟩
     cases j with
     | zero=>exact⟨fun e=>absurd e V,fun _=>⟨by simp_all,fun q hq=>k2 q (by omega),k3,k4⟩⟩
     | succ j =>
      have:=g3 j (by simpa using hj);rw[show i+1+j=i+(j+1) by omega]at this
      simpa [getD_cons_succ] using this
    grind
   grind
  grind
def nH (S:e8)(r k:Nat):Int × e8 :=
 let e:=(S,S)
 if (lY ((S.rows.getD r []).getD k dF) (S.rows.getD r [])).1≠0 then ((lY ((S.rows.getD r []).getD k dF) (S.rows.getD r [])).1,e.1) else
 if (gN 22 (S.right.getD r dF) ((S.rows.getD r []).getD k dF)).1≠0 then ((gN 22 (S.right.getD r dF) ((S.rows.getD r []).getD k dF)).1,e.1) else
 let h:=(lY ((S.rows.getD r []).getD k dF) (S.rows.getD r [])).2
 let o:=(gN 22 (S.right.getD r dF) ((S.rows.getD r []).getD k dF)).2
 if (cw r k h o 0 S.rows S.right).1≠0 then ((cw r k h o 0 S.rows S.right).1,e.1) else
 if (eF (S.aF.getD k dF) S.aF h).1≠0 then ((eF (S.aF.getD k dF) S.aF h).1,e.1) else
 if (fD (S.aF.getD k dF) o).1≠0 then ((fD (S.aF.getD k dF) o).1,e.1) else
 if (jJ S.value (fD (S.aF.getD k dF) o).2).1≠0 then ((jJ S.value (fD (S.aF.getD k dF) o).2).1,e.1) else
 (0,⟨(cw r k h o 0 S.rows S.right).2.1,(cw r k h o 0 S.rows S.right).2.2,S.bW.set r (k:Int),(eF (S.aF.getD k dF) S.aF h).2,(jJ S.value (fD (S.aF.getD k dF) o).2).2⟩)
def dm (S:e8):sP:=⟨fun i j=>bb ((S.rows.getD i []).getD j dF),fun i=>bb (S.right.getD i dF),fun i=>(S.bW.getD i 0).toNat,fun j=>bb (S.aF.getD j dF),bb S.value⟩
structure iO (N m:Nat) (S:e8):Prop where
 rl:S.rows.length=m
 DU:∀ l∈S.rows,l.length=N
 bl:S.right.length=m
 al:S.bW.length=m
 gl:S.aF.length=N
 rp:∀ i j,i<m->j<N->ca ((S.rows.getD i []).getD j dF)
 bp:∀ i,i<m->ca (S.right.getD i dF)
 gp:∀ j,j<N->ca (S.aF.getD j dF)
 vp:ca S.value
 an:∀ i,i<m->0<=S.bW.getD i 0
def C3:bb dF=0:=by unfold bb dF;simp;grind
def sQ {α:Type}{l:List α}{i:Nat}{d:α}(h:l.length<=i):l.getD i d=d:=by
 grind
def Uq {N m:Nat}{S S':e8}{r k:Nat}(L:iO N m S)(hr:r<m)(hk:k<N)(h:nH S r k=(0,S')):iO N m S'/\dm S'=jN (dm S) r k:=by
 obtain⟨p,hp⟩:∃ p,p=(S.rows.getD r []).getD k dF:=⟨_,rfl⟩
 unfold nH at h;simp only[<-hp]at h;split at h
 ·grind
 rename_i h1;split at h
 ·grind
 rename_i h2;split at h
 ·grind
 rename_i h3;split at h
 ·grind
 rename_i h4;split at h
 ·grind
 rename_i h5;split at h
 ·grind
 rename_i h6;have h1:=Decidable.not_not.1 h1;have h2:=Decidable.not_not.1 h2;have h3:=Decidable.not_not.1 h3;have h4:=Decidable.not_not.1 h4;have h5:=Decidable.not_not.1 h5;have h6:=Decidable.not_not.1 h6;have eS:S'=_:=(congrArg Prod.snd h).symm;clear h;have J':(S.rows.getD r []).length=N:=L.DU _ (by rw[aq (by rw[L.rl];exact hr)];grind);obtain⟨o,P'⟩:∃ o,o=(lY p (S.rows.getD r [])).2:=⟨_,rfl⟩
 obtain⟨V,R'⟩:∃ V,V=(gN 22 (S.right.getD r dF) p).2:=⟨_,rfl⟩
 rw[<-P']at h3 h4 eS;rw[<-R']at h3 h5 h6 eS;obtain⟨a1,a2⟩:=Wq (p:=p) (row:=S.rows.getD r []) (out:=o) (by grind);obtain⟨_,_,_,b1,b2⟩:=Ov (zc:=22) (by decide) (f:=V) (show gN 22 (S.right.getD r dF) p=(0,V) by grind);obtain⟨c1,c2,c3⟩:=Ox (r:=r) (k:=k) (rowR:=o) (xr:=V) (N:=N) (by omega) (rows:=S.rows) (right:=S.right) (i:=0) (o1:=(cw r k o V 0 S.rows S.right).2.1) (o2:=(cw r k o V 0 S.rows S.right).2.2) (by rw[L.rl,L.bl]) L.DU (by rw[<-h3]);obtain⟨d1,d2⟩:=Ow (f:=S.aF.getD k dF) (row:=S.aF) (piv:=o) (out:=(eF (S.aF.getD k dF) S.aF o).2) (by rw[L.gl];omega) (by rw[<-h4]);obtain⟨_,_,_,m2⟩:=tA (f:=(fD (S.aF.getD k dF) V).2) (show fD (S.aF.getD k dF) V=(0,_) by rw[<-h5]);obtain⟨_,_,n1,n2⟩:=wQ (f:=(jJ S.value (fD (S.aF.getD k dF) V).2).2) (show jJ S.value (fD (S.aF.getD k dF) V).2=(0,_) by rw[<-h6]);obtain⟨o1,T'⟩:∃ o1,o1=(cw r k o V 0 S.rows S.right).2.1:=⟨_,rfl⟩
 obtain⟨o2,V'⟩:∃ o2,o2=(cw r k o V 0 S.rows S.right).2.2:=⟨_,rfl⟩
 obtain⟨gl,_a⟩:∃ gl,gl=(eF (S.aF.getD k dF) S.aF o).2:=⟨_,rfl⟩
 rw[<-T']at c1 c3 eS;rw[<-V']at c2 c3 eS;rw[<-_a]at d1 d2 eS;subst eS;have H':=L.rl;have F:∀ j,j<m->(j=r->o1.getD j []=o/\o2.getD j dF=V)/\(j≠r->(o1.getD j []).length=N/\(∀ q,q<N->ca ((o1.getD j []).getD q dF)/\bb ((o1.getD j []).getD q dF)=bb ((S.rows.getD j []).getD q dF)-bb ((S.rows.getD j []).getD k dF)*bb (o.getD q dF))/\ca (o2.getD j dF)/\bb (o2.getD j dF)=bb (S.right.getD j dF)-bb ((S.rows.getD j []).getD k dF)*bb V):=fun j hj=>by
  have:=c3 j (by omega);rw[Nat.zero_add]at this;exact this
 constructor
 ·refine⟨by rw[c1,H'],fun l hl=>?_,by rw[c2,H'],by rw[length_set];exact L.al,by rw[d1,L.gl],fun i j K hj=>?_,fun i K=>?_,fun j hj=>(d2 j (by rw[L.gl];exact hj)).1,n1,fun i K=>?_⟩
  ·obtain⟨i,K,rfl⟩:=getElem_of_mem hl
   have j':i<m:=by rw[c1,H']at K;exact K
   rw[<-aq (d:=([]:List bY)) K];by_cases e:i=r
   ·rw[((F i j').1 e).1,a1,J']
   exact((F i j').2 e).1
  ·by_cases e:i=r
   ·rw[((F i K).1 e).1];exact(a2 j (by omega)).1
   exact(((F i K).2 e).2.1 j hj).1
  ·by_cases e:i=r
   ·rw[((F i K).1 e).2];exact b1
   exact((F i K).2 e).2.2.1
  show 0<=(S.bW.set r (k:Int)).getD i 0;have j':i<(S.bW.set r (k:Int)).length:=by rw[length_set,L.al];exact K
  rw[aq j',getElem_set];split
  ·omega
  have:=L.an i K
  rwa[aq (by rw[L.al];exact K)]at this
 have eA:∀ i j,bb ((o1.getD i []).getD j dF)=(jN (dm S) r k).A i j:=fun i j=>by
  show _=if i=r then bb ((S.rows.getD r []).getD j dF) / bb ((S.rows.getD r []).getD k dF) else bb ((S.rows.getD i []).getD j dF)-bb ((S.rows.getD i []).getD k dF)*(bb ((S.rows.getD r []).getD j dF) / bb ((S.rows.getD r []).getD k dF))
  rw[<-hp];by_cases hj:j<N
  ·by_cases K:i<m
   ·by_cases e:i=r
    ·rw[if_pos e,((F i K).1 e).1,(a2 j (by omega)).2]
    rw[if_neg e,(((F i K).2 e).2.1 j hj).2,(a2 j (by omega)).2]
   rw[if_neg (by omega),sQ (l:=o1) (by omega),sQ (l:=S.rows) (i:=i) (by omega)];rw[sQ (l:=([]:List bY)) (zero_le _),sQ (l:=([]:List bY)) (zero_le _),C3];grind
  have z1:(S.rows.getD r []).getD j dF=dF:=sQ (by omega);rw[z1,C3];by_cases K:i<m
  ·by_cases e:i=r
   ·rw[if_pos e,((F i K).1 e).1,sQ (l:=o) (by omega),C3];grind
   have j':(S.rows.getD i []).length=N:=L.DU _ (by rw[aq (by omega)];exact getElem_mem _);have _b:=((F i K).2 e).1;rw[if_neg e,sQ (l:=o1.getD i []) (by omega),sQ (l:=S.rows.getD i []) (i:=j) (by omega),C3];grind
  rw[if_neg (by omega),sQ (l:=o1) (by omega),sQ (l:=S.rows) (i:=i) (by omega)];rw[sQ (l:=([]:List bY)) (zero_le _),sQ (l:=([]:List bY)) (zero_le _),C3];grind
 have eb:∀ i,bb (o2.getD i dF)=(jN (dm S) r k).b i:=fun i=>by
  show _=if i=r then bb (S.right.getD r dF) / bb ((S.rows.getD r []).getD k dF) else bb (S.right.getD i dF)-bb ((S.rows.getD i []).getD k dF)*(bb (S.right.getD r dF) / bb ((S.rows.getD r []).getD k dF))
  rw[<-hp];by_cases K:i<m
  ·by_cases e:i=r
   ·rw[if_pos e,((F i K).1 e).2,b2]
   rw[if_neg e,((F i K).2 e).2.2.2,b2]
  have j':=L.bl;rw[if_neg (by omega),sQ (l:=o2) (by omega),sQ (l:=S.right) (by omega),sQ (l:=S.rows) (i:=i) (by omega)];rw[sQ (l:=([]:List bY)) (zero_le _),C3];grind
 have eB:∀ i,((S.bW.set r (k:Int)).getD i 0).toNat=(jN (dm S) r k).B i:=fun i=>by
  show _=if i=r then k else (S.bW.getD i 0).toNat
  have K:=L.al;by_cases e:i=r
  ·subst e
   rw[if_pos rfl,aq (by rw[length_set];omega),getElem_set_self,Int.toNat_natCast]
  rw[if_neg e];congr 1;simp only[List.getD];rw[getElem?_set_ne (fun e2=>e e2.symm)]
 have ec:∀ j,bb (gl.getD j dF)=(jN (dm S) r k).c j:=fun j=>by
  show _=bb (S.aF.getD j dF)-bb (S.aF.getD k dF)*(bb ((S.rows.getD r []).getD j dF) / bb ((S.rows.getD r []).getD k dF))
  rw[<-hp];have K:=L.gl;by_cases hj:j<N
  ·rw[(d2 j (by omega)).2,(a2 j (by omega)).2]
  rw[sQ (l:=gl) (by omega),sQ (l:=S.aF) (i:=j) (by omega),sQ (l:=S.rows.getD r []) (i:=j) (by omega),C3];grind
 have K:bb (jJ S.value (fD (S.aF.getD k dF) V).2).2=(jN (dm S) r k).z:=by
  show _=bb S.value+bb (S.aF.getD k dF)*(bb (S.right.getD r dF) / bb ((S.rows.getD r []).getD k dF))
  rw[<-hp,n2,m2,b2]
 unfold dm;simp only;have f1:(fun i j=>bb ((o1.getD i []).getD j dF))=(jN (dm S) r k).A:=funext fun i=>funext fun j=>eA i j;have f2:(fun i=>bb (o2.getD i dF))=(jN (dm S) r k).b:=funext eb;have f3:(fun i=>((S.bW.set r (k:Int)).getD i 0).toNat)=(jN (dm S) r k).B:=funext eB;have f4:(fun j=>bb (gl.getD j dF))=(jN (dm S) r k).c:=funext ec;rw[f1,f2,f3,f4,K];rfl
def iR (S:e8)(k:Nat)(m:Nat):List Nat:=(List.range m).filter fun i=>0<((S.rows.getD i []).getD k dF).num
def lz (S:e8)(k:Nat):Int->bY->List Nat->Int × Int
 | h,_,[]=>(0,h)
 | h,cM,i::l =>
  if (gN 22 (S.right.getD i dF) ((S.rows.getD i []).getD k dF)).1≠0 then ((gN 22 (S.right.getD i dF) ((S.rows.getD i []).getD k dF)).1,0)
  else if h<0\/lT (gN 22 (S.right.getD i dF) ((S.rows.getD i []).getD k dF)).2 cM<0\/(lT (gN 22 (S.right.getD i dF) ((S.rows.getD i []).getD k dF)).2 cM=0/\S.bW.getD i 0<S.bW.getD h.toNat 0)
   then lz S k (i:Int) (gN 22 (S.right.getD i dF) ((S.rows.getD i []).getD k dF)).2 l
   else lz S k h cM l
def fY (S:e8)(k m:Nat):Int × Int :=
 match iR S k m with
 | []=>(0,-1)
 | [i]=>(0,(i:Int))
 | l=>lz S k (-1) ⟨0,1⟩ l
def J7 {f:bY}(h:ca f):0<f.num↔0<bb f:=by
 unfold bb;have z:(0:Rat)<(f.den:Rat):=by have:=h.1;exact_mod_cast (show (0:Int)<f.den by omega)
 constructor
 ·intro F
  have o:(0:Rat)<(f.num:Rat):=by exact_mod_cast F
  rw[Rat.div_def];exact Rat.mul_pos o (Rat.inv_pos.2 z)
 intro hv;have h1:0<(f.num:Rat) / (f.den:Rat)*(f.den:Rat):=Rat.mul_pos hv z;rw[Rat.div_mul_cancel (by grind)]at h1
 exact_mod_cast h1
def Gc {S:e8}{k m i:Nat}:i∈iR S k m↔i<m/\0<((S.rows.getD i []).getD k dF).num:=by
 unfold iR
 grind
structure Cg (S:e8) (k:Nat) (P:Nat->Prop) (best:Nat) (cM:bY):Prop where
 uQ:P best
 Oy:ca cM
 eq:bb cM=bb (S.right.getD best dF) / bb ((S.rows.getD best []).getD k dF)
 min:∀ i,P i->bb cM<bb (S.right.getD i dF) / bb ((S.rows.getD i []).getD k dF)\/(bb cM=bb (S.right.getD i dF) / bb ((S.rows.getD i []).getD k dF)/\S.bW.getD best 0<=S.bW.getD i 0)
def Oz {S:e8}{k:Nat}{Q:Nat->Prop}:∀ {l:List Nat}{P:Nat->Prop}{o:Int}{cM:bY}{r:Int},(o<0/\∀ i,¬P i)\/(0<=o/\Cg S k P o.toNat cM)->(∀ i,Q i↔(P i\/i∈l))->lz S k o cM l=(0,r)->(r<0/\∀ i,¬Q i)\/(0<=r/\∃ f,Cg S k Q r.toNat f)
 | [],P,o,cM,r,z,hQ,h=>by
  have e:r=o:=(congrArg Prod.snd h).symm;subst e;have F:Q=P:=funext fun i=>propext (by rw[hQ];simp);subst F
  grind
 | i::l,P,o,cM,r,z,hQ,h=>by
  obtain⟨d,hd⟩:∃ d,d=gN 22 (S.right.getD i dF) ((S.rows.getD i []).getD k dF):=⟨_,rfl⟩
  unfold lz at h;rw[<-hd]at h;split at h
  ·grind
  rename_i h0;have h0:=Decidable.not_not.1 h0;obtain⟨_,_,_,L,v2⟩:=Ov (zc:=22) (by decide) (f:=d.2) (show gN 22 (S.right.getD i dF) ((S.rows.getD i []).getD k dF)=(0,d.2) by grind);have K:∀ j,Q j↔((P j\/j=i)\/j∈l):=fun j=>by grind
  split at h
  ·rename_i V
   refine Oz (P:=fun j=>P j\/j=i) (Or.inr ⟨Int.natCast_nonneg i,?_⟩) K h;rw[Int.toNat_natCast];refine⟨Or.inr rfl,L,v2,fun j F=>?_⟩;rcases F with F|rfl
   ·rcases z with z|z
    ·grind
    obtain⟨b0,hb⟩:=z;have hm:=hb.min j F;obtain⟨c1,c2⟩:=Kx L hb.Oy
    grind
   grind
  rename_i V;have j':¬o<0:=fun hh=>V (Or.inl hh);rcases z with z|z
  ·omega
  refine Oz (P:=fun j=>P j\/j=i) (Or.inr ⟨z.1,Or.inl z.2.uQ,z.2.Oy,z.2.eq,fun j F=>?_⟩) K h;rcases F with F|rfl
  ·exact z.2.min j F
  obtain⟨c1,c2⟩:=Kx L z.2.Oy;have n1:¬bb d.2<bb cM:=fun hh=>V (Or.inr (Or.inl (c1.2 hh)))
  grind
def Up {N m:Nat}{S:e8}{k:Nat}{r:Int}(V:iO N m S)(hk:k<N)(h:fY S k m=(0,r))(hr:0<=r):r.toNat<m/\0<(dm S).A r.toNat k/\∀ i,i<m->0<(dm S).A i k->(dm S).b r.toNat / (dm S).A r.toNat k<(dm S).b i / (dm S).A i k\/((dm S).b r.toNat / (dm S).A r.toNat k=(dm S).b i / (dm S).A i k/\(dm S).B r.toNat<=(dm S).B i):=by
 have z:∀ i,i<m->(0<((S.rows.getD i []).getD k dF).num↔0<(dm S).A i k):=fun i o=>J7 (V.rp i k o hk);unfold fY at h;split at h
 ·grind
 ·rename_i i0 he
  have e:r=(i0:Int):=(congrArg Prod.snd h).symm;subst e;rw[Int.toNat_natCast];have h1:=(Gc (S:=S) (k:=k) (m:=m) (i:=i0)).1 (by grind);refine⟨h1.1,(z i0 h1.1).1 h1.2,fun i o F=>?_⟩;have K:=(Gc (S:=S) (k:=k) (m:=m) (i:=i)).2 ⟨o,(z i o).2 F⟩
  grind
 rcases Oz (P:=fun _=>False) (Q:=fun i=>i∈iR S k m) (Or.inl ⟨by decide,fun i o=>o⟩) (fun i=>by simp) h with h1|⟨_,f,K⟩
 ·omega
 have h1:=Gc.1 K.uQ;refine⟨h1.1,(z _ h1.1).1 h1.2,fun i o F=>?_⟩;have:=K.min i (Gc.2 ⟨o,(z i o).2 F⟩);rw[K.eq]at this;rcases this with L|L
 ·exact Or.inl L
 refine Or.inr ⟨L.1,?_⟩;show (S.bW.getD r.toNat 0).toNat<=(S.bW.getD i 0).toNat;omega
end
section
open Go.Sl Go
section
variable {t:aa}{M:J}{u n k:Nat}
end
end
section
open Go.Sl
structure uE (n:Nat) (N:Nat->Nat) (C:Nat):Prop where
 bd:∀ v,ib C v->v<n
 uN:∀ u v,ib C u->ib C v->u≠v->ib (N u) v
def y7 {x v u:Nat}:ib (x ||| 2 ^ v) u↔ib x u\/u=v:=by
 grind
def QK {n:Nat}{N:Nat->Nat}(hG:Gr n N):∀ (m:Nat) (C:Nat),uE n N C->2 ^ n-C<=m->∃ C',sV n N C'/\∀ v,ib C v->ib C' v:=by
 intro m
 induction m with
 | zero =>
  intro C z hm;exfalso;have:C<2 ^ n:=lt_pow_two_of_testBit C fun i o=>vZ.2 fun h=>by have:=z.bd i h;omega
  omega
 | succ m ih =>
  intro C z hm;by_cases hx:∃ u,u<n/\¬ib C u/\∀ v,ib C v->ib (N u) v
  ·obtain⟨u,hu,o,F⟩:=hx
   have j':C<C ||| 2 ^ u:=by
    have h1:C<=C ||| 2 ^ u:=left_le_or;have K:C≠C ||| 2 ^ u:=fun e=>o (by grind);omega
   have H':uE n N (C ||| 2 ^ u):=⟨fun v hv=>by
     rcases y7.1 hv with hv|rfl
     ·exact z.bd v hv
     ·exact hu,fun a b ha hb L=>by
     rcases y7.1 ha with K|ea
     ·rcases y7.1 hb with V|eb
      ·exact z.uN a b K V L
      rw[eb];exact hG.sym _ _ (F a K)
     grind ⟩
   grind
  exact⟨C,⟨z.bd,z.uN,fun u hu o=>oE fun F=>hx ⟨u,hu,o,fun v hv=>oE fun K=>F ⟨v,hv,K⟩⟩⟩,fun v hv=>hv⟩
def mb (n:Nat)(N:Nat->Nat)(Cs:List J):Prop:=∀ l,l∈Cs↔∃ C,sV n N C/\l=ee C n
def K0 {a b v:Nat}:ib (a &&& b) v↔ib a v/\ib b v:=by
 grind
def E0 {a b v:Nat}:ib (a ||| b) v↔ib a v\/ib b v:=by
 grind
def HS {k v:Nat}:ib (2 ^ k) v↔v=k:=by
 grind
def qAJ {a v:Nat}(o:a<18446744073709551616)(h:ib a v):v<64:=Mm fun fh=>by
 unfold ib at h;rw[Ec (Cr (show a<2 ^ 64 from o) (zA dc fh))]at h;cases h
def QE {a b v:Nat}(F:a<18446744073709551616)(o:b<18446744073709551616):ib (a &&& rQ b) v↔ib a v/\¬ib b v:=by
 rw[K0];constructor
 ·rintro⟨h1,h⟩
  refine⟨h1,fun z=>?_⟩;unfold ib at h z;rw[UL o,z]at h;simp at h
 rintro⟨h1,h⟩;refine⟨h1,?_⟩;unfold ib at h ⊢;rw[UL o,dH (qAJ F h1),vZ.2 h];rfl
def Yd {a b v:Nat}(h1:ib a v)(h2:¬ib b v):a &&& b<a:=by
 have h:=DE (n:=a) (m:=b)
 grind
def wX {x:Nat}(h:x=0)(v:Nat):¬ib x v:=by grind
def Qz {x:Nat}(h:∀ v,¬ib x v):x=0:=Eg fun i=>by grind
structure kY (n:Nat) (N:Nat->Nat) (R P l:Nat) (r:Bool) (M':List Nat):Prop where
 nd:M'.Nodup
 mem:∀ C∈M',lF n N R P C
 all:r=true->∀ C,lF n N R P C->C∈M'
 le:r=true->l+M'.length<=4096
 gt:r=false->l+M'.length=4097
structure FI (n:Nat) (N:Nat->Nat) (R P l q p x:Nat) (M':List Nat):Prop where
 bi:BI n N R p x
 K1:p<=P
 qp:∀ v,ib q v->ib p v
 De:∀ C,lF n N R p C->∃ u,ib C u/\ib q u
 nd:M'.Nodup
 mem:∀ C∈M',lF n N R P C/\¬lF n N R p C
 all:∀ C,lF n N R P C->C∈M'\/lF n N R p C
 sub:∀ C,lF n N R p C->lF n N R P C
 le:l+M'.length<=4096
section
variable {n:Nat}{N:Nat->Nat}{R P X' l q p x:Nat}{M':List Nat}
def kY.fC (h:BI n N R P X')(z:P=0)(F:X'=0)(L:l<=4096):kY n N R P l (decide (l+1<=4096)) [R] where
 nd:=sm
 mem C o:=by rw[fU.1 o];exact(h.fC (wX z) (wX F)).2 rfl
 all _ C o:=fU.2 ((h.fC (wX z) (wX F)).1 o)
 le K:=by grind
 gt K:=by grind
def FI.start (z:Gr n N)(h:BI n N R P X'){u:Nat}(hu:ib P u\/ib X' u)(hq:∀ v,ib q v↔ib P v/\¬ib (N u) v)(F:l<=4096):FI n N R P l q P X' [] where
 bi:=h
 K1:=cP _
 qp v hv:=((hq v).1 hv).1
 De C o:=by
  obtain⟨w,h1,K,L⟩:=h.pivot z hu o
  grind
 nd:=Be
 mem C o:=by simp at o
 all C o:=.inr o
 sub _ o:=o
 le:=U
def FI.step (hG:Gr n N)(h:FI n N R P l q p x M'){v R1 P1 V x' q':Nat}{M1:List Nat}(hv:ib q v)(h1:∀ u,ib R1 u↔ib R u\/u=v)(h2:∀ u,ib P1 u↔ib p u/\ib (N v) u)(K:kY n N R1 P1 (l+M'.length) true M1)
  (hp:∀ u,ib V u↔ib p u/\u≠v)(hx:∀ u,ib x' u↔ib x u\/u=v)(hq:∀ u,ib q' u↔ib q u/\u≠v)(L:V<=p):FI n N R P l q' V x' (M'++M1):=by
 have F:=fun C=>h.bi.split (C:=C) hG (h.qp v hv) h1 h2 hp;refine⟨h.bi.next (h.qp v hv) hp hx,rN L h.K1,fun u hu=>?_,fun C o=>?_,?_,fun C o=>?_,fun C o=>?_,fun C o=>h.sub C ((F C).1.2 (.inr o)),?_⟩
 ·have:=(hq u).1 hu
  exact(hp u).2 ⟨h.qp u this.1,this.2⟩
 ·obtain⟨u,a,b⟩:=h.De C ((F C).1.2 (.inr o))
  grind
 ·refine DY.2 ⟨h.nd,K.nd,fun a z b hb e=>?_⟩
  subst e;exact(h.mem a z).2 ((F a).1.2 (.inl (K.mem a hb)))
 ·rcases kK.1 o with o|o
  ·exact⟨(h.mem C o).1,fun z=>(h.mem C o).2 ((F C).1.2 (.inr z))⟩
  have hc:=K.mem C o;exact⟨h.sub C ((F C).1.2 (.inl hc)),fun z=>(F C).2.2 z ((F C).2.1 hc)⟩
 ·rcases h.all C o with z|z
  ·grind
  rcases (F C).1.1 z with z|z
  ·exact .inl (LN _ (K.all rfl C z))
  grind
 have:=K.le rfl
 grind
def FI.fail (V:Gr n N)(h:FI n N R P l q p x M'){v:Nat}{K:List Nat}(hv:ib q v)(h1:∀ u,ib R1 u↔ib R u\/u=v)(h2:∀ u,ib P1 u↔ib p u/\ib (N v) u)(z:kY n N R1 P1 (l+M'.length) false K) :
  kY n N R P l false (M'++K):=by
 have L:=fun C=>(h.bi.split (C:=C) (P2:=p &&& (p ^^^ 2 ^ v)) V (h.qp v hv) h1 h2 (fun u=>by
  grind )).1.2
 refine⟨DY.2 ⟨h.nd,z.nd,fun a ha b hb e=>?_⟩,fun C o=>?_,fun F=>(by cases F),fun F=>(by cases F),fun _=>?_⟩
 ·subst e
  exact(h.mem a ha).2 (L a (.inl (z.mem a hb)))
 ·rcases kK.1 o with o|o
  ·exact(h.mem C o).1
  exact h.sub C (L C (.inl (z.mem C o)))
 have:=z.gt rfl
 grind
def FI.done (h:FI n N R P l q p x M')(hq:q=0):kY n N R P l true M':=by
 have z:∀ C,¬lF n N R p C:=fun C o=>by
  obtain⟨u,_,hu⟩:=h.De C o
  grind
 exact⟨h.nd,fun C o=>(h.mem C o).1,fun _ C o=>(h.all C o).elim id fun F=>absurd F (z C),fun _=>h.le,fun K=>(by cases K)⟩
end
def Lv {α:Type}[DecidableEq α]:∀ {L M':List α},L.Nodup->(∀ x∈L,x∈M')->L.length<=M'.length
 | [],_,_,_=>bC _
 | x::L,M',z,h=>by
  obtain⟨h1,F⟩:=wW.1 z;have hx:=h x ku;have K:=Lv (L:=L) (M':=M'.erase x) F fun y o=>(Mk (fun (e:y=x)=>by subst e;exact h1 o)).2 (h y (nt _ o));rw[length_erase_of_mem hx]at K;have:=length_pos_of_mem hx;simp only[length_cons];omega
structure zN where
 op:Int
 fS:Int
 aT:Int
 aU:Int
 aG:Value
def my:Ty zN:=⟨5,fun u=>[E u.op,E u.fS,E u.aT,E u.aU,u.aG],fun _=>rfl,⟨0,0,0,0,nS⟩⟩
instance PE:nR my:=⟨az⟩
structure NS (w:World) (v:zN) (u:Un):Prop where
 op:v.op=u.op
 fS:v.fS=u.fS
 aT:v.aT=u.aT
 aU:v.aU=u.aU
 aG:RS W w v.aG u.aG
def pY (vs:List zN)(us:List Un)(w:World):Prop:=∀ i:Nat,i<us.length->NS w (aB my vs i) (un us i)
def ew (vars:J)(k:Nat):J:=(List.range k).map (bP vars)
def BF (vars:J)(k:Nat):(ew vars k).length=k:=by simp[ew]
def I_ {vars:J}{k i:Nat}(h:i<k):(ew vars k).getD i W.dflt=bP vars i:=by simp[ew,List.getD,h]
def TW (vars:J)(k:Nat):ew vars (k+1)=ew vars k++[bP vars k]:=by simp[ew,lN]
def lL (U':List Un)(u:Un)(i N:Nat):List J:=(List.range N).map fun (f:Nat)=>e7 U' f++(if (f:Int)∈u.aG.take i then [(U'.length:Int)] else [])
def gZ (U':List Un)(N:Nat):List J:=(List.range N).map fun (f:Nat)=>e7 U' f
def Vn (U':List Un)(u:Un)(i N:Nat):(lL U' u i N).length=N:=by simp[lL]
def MY (U':List Un)(N:Nat):(gZ U' N).length=N:=by simp[gZ]
def Ĺ {U':List Un}{N f:Nat}(h:f<N):(gZ U' N).getD f []=e7 U' f:=by simp[gZ,List.getD,h]
def Ķ (N:Nat):gZ [] N=replicate N []:=by
 apply jB (by simp[gZ]);intro i h1 h;simp[gZ,e7]
def L_ (U':List Un)(u:Un)(N:Nat):lL U' u 0 N=gZ U' N:=by simp[lL,gZ]
def qsa (U':List Un)(u:Un)(f:Int):e7 (U'++[u]) f=e7 U' f++(if f∈u.aG then [(U'.length:Int)] else []):=by
 unfold e7;rw[length_append,w7,lN,CF,qG];have h1:(List.range U'.length).filter (fun (i:Nat)=>decide (f∈(un (U'++[u]) i).aG))=(List.range U'.length).filter fun (i:Nat)=>decide (f∈(un U' i).aG):=Ip fun i h=>by
  have h:=mem_range.1 h;have:un (U'++[u]) i=un U' i:=by unfold un;simp[List.getD,mu h]
  rw[this]
 have o:un (U'++[u]) (U'.length:Nat)=u:=by unfold un;simp[List.getD]
 grind
def O_ (U':List Un)(u:Un)(N:Nat):lL U' u u.aG.length N=gZ (U'++[u]) N:=by
 unfold lL gZ;refine Bc fun f _=>?_;rw[qsa,mK]
def Wr {U':List Un}{u:Un}{i N f:Nat}(h:f<N):(lL U' u i N).getD f []=e7 U' f++(if (f:Int)∈u.aG.take i then [(U'.length:Int)] else []):=by simp[lL,List.getD,h]
def N_ {U':List Un}{u:Un}{i N:Nat}(hi:i<u.aG.length)(F:u.aG.Nodup)(K:∀ n∈u.aG,0<=n/\n<N):(lL U' u i N).set (u.aG.getD i W.dflt).toNat ((lL U' u i N).getD (u.aG.getD i W.dflt).toNat []++[(U'.length:Int)])=lL U' u (i+1) N:=by
 have hm:=K _ (cS W.dflt hi);have L:u.aG.getD i W.dflt∉u.aG.take i:=by
  rw[aq hi];intro h;obtain⟨j,z,he⟩:=ga h;rw[jC]at z;rw[Fm]at he
  exact absurd he (by
   have:=u9.1 F j i U hi U
   exact this)
 have V:u.aG.take (i+1)=u.aG.take i++[u.aG.getD i W.dflt]:=eX W.dflt hi;rw[Wr U,aM (by grind),gj];apply jB (by simp[lL]);intro j h1 h2;rw[tS];have z:j<N:=by simpa [lL] using h2
 simp only[lL,getElem_map,tI]
 grind
def Ws (U':List Un)(f:Int):(e7 U' f).length<=U'.length:=by
 unfold e7
 grind
def M_ (U':List Un)(u:Un)(i N f:Nat):((lL U' u i N).getD f []).length<=U'.length+1:=by
 by_cases h:f<N
 ·rw[Wr h]
  have:=Ws U' f
  grind
 simp[lL,List.getD,h]
def eQ (U':List Un):J:=((List.range U'.length).filter fun (i:Nat)=>decide ((un U' i).aG=[])).map fun (i:Nat)=>(i:Int)
def ķ:eQ []=[]:=by simp[eQ]
def Wt {U':List Un}{i:Int}:i∈eQ U'↔∃ k:Nat,i=k/\k<U'.length/\(un U' k).aG=[]:=by
 unfold eQ
 grind
def Vo (U':List Un):(eQ U').length<=U'.length:=by
 unfold eQ
 grind
def Vp (U':List Un)(u:Un):eQ (U'++[u])=eQ U'++(if u.aG=[] then [(U'.length:Int)] else []):=by
 unfold eQ;rw[length_append,w7,lN,CF,qG];have h1:(List.range U'.length).filter (fun (i:Nat)=>decide ((un (U'++[u]) i).aG=[]))=(List.range U'.length).filter fun (i:Nat)=>decide ((un U' i).aG=[]):=Ip fun i h=>by
  have h:=mem_range.1 h;have:un (U'++[u]) i=un U' i:=by unfold un;simp[List.getD,mu h]
  rw[this]
 have o:un (U'++[u]) (U'.length:Nat)=u:=by unfold un;simp[List.getD]
 grind
def TT {U':List Un}{u:Un}{i:Nat}(h:i<U'.length):un (U'++[u]) i=un U' i:=by unfold un;grind
def TV {U':List Un}{u:Un}:un (U'++[u]) (U'.length:Nat)=u:=by unfold un;grind
def oZ (D:J)(g v:Int):J:=if v<dg D g then D.set g.toNat v else D
def ti (D:J)(Q:List cV)(g v:Int):List cV:=if v<dg D g then ⟨v,g⟩::Q else Q
def OA (D:J)(Q:List cV)(g v:Int):(ti D Q g v).length<=Q.length+1:=by unfold ti;grind
def qAq {D:J}{N:Nat}(h:D.length=N){g v:Int}(I:0<=g/\g<N){x:Int}(hx:0<=x):dg (D.set g.toNat v) x=if x=g then v else dg D x:=by
 grind
def J8 {D:J}{N:Nat}(h:D.length=N){g v:Int}(I:0<=g/\g<N){x:Int}(hx:0<=x):dg (oZ D g v) x<=dg D x:=by
 unfold oZ
 grind
def OB {D:J}{N:Nat}(h:D.length=N){g v:Int}(I:0<=g/\g<N):dg (oZ D g v) g<=v:=by
 unfold oZ
 grind
def qxq {D:J}{N:Nat}(h:D.length=N){g v:Int}(I:0<=g/\g<N){x m:Int}(hx:0<=x)(hm:dg D x=m)(hv:m<=v):dg (oZ D g v) x=m:=by
 unfold oZ
 grind
structure xk (U':List Un) (S:Int->Prop) (N:Nat) (D:J) (Q:List cV):Prop where
 dl:D.length=N
 et:∀ g:Int,0<=g->g<N->0<=dg D g/\dg D g<=bZ
 sd:∀ g:Int,0<=g->g<N->dg D g<bZ->lC U' S g (dg D g)
 qK:∀ g:Int,0<=g->g<N->dg D g<bZ->∃ x∈Q,x.aY=g/\x.cr=dg D g
 pS:∀ x∈Q,(0<=x.aY/\x.aY<N)/\dg D x.aY<=x.cr/\0<=x.cr/\x.cr<bZ
section
variable {U':List Un}{S:Int->Prop}{N:Nat}{D lf dn:J}{Q:List cV}{m f:Int}{ok:Nat->Prop}
def xk.dt (U':List Un)(S:Int->Prop)(N:Nat):xk U' S N (replicate N bZ) []:=by
 have h:∀ g:Int,0<=g->g<N->dg (replicate N bZ) g=bZ:=fun g o h1=>by
  grind
 exact⟨sm,fun g o h1=>by grind,fun g o h1 z=>by grind,fun g o h1 z=>by grind,fun x hx=>by simp at hx⟩
def xk.qa (h:xk U' S N D Q)(o:Q'.Perm Q):xk U' S N D Q' :=
 { h with
  qK:=fun g a b c=>let ⟨x,hx,z⟩:=h.qK g a b c;⟨x,o.mem_iff.2 hx,z⟩
  pS:=fun x hx=>h.pS x (o.mem_iff.1 hx) }
def xk.J9 (h:xk U' S N D Q){g v:Int}(I:0<=g/\g<N)(hv:0<=v)(L:lC U' S g v):xk U' S N (oZ D g v) (ti D Q g v):=by
 unfold oZ ti;by_cases K:v<dg D g
 ·rw[ba K,ba K]
  have V:=h.et g I.1 I.2;have o:∀ x:Int,0<=x->dg (D.set g.toNat v) x=if x=g then v else dg D x:=fun x hx=>qAq h.dl I hx
  refine⟨by simp[h.dl],fun x z h1=>?_,fun x z h1 F=>?_,fun x z h1 F=>?_,fun x hx=>?_⟩
  ·rw[o x z];split
   ·omega
   exact h.et x z h1
  ·rw[o x z]at F ⊢
   split
   ·grind
   rename_i e;rw[aM e]at F;exact h.sd x z h1 F
  ·rw[o x z]at F ⊢
   by_cases e:x=g
   ·simp_all
   rw[aM e]at F ⊢;obtain⟨y,hy,h4⟩:=h.qK x z h1 F
   grind
  rcases gT.1 hx with rfl|hx
  ·grind
  obtain⟨e1,e2,e3,e4⟩:=h.pS x hx
  grind
 grind
def xk.start (h:xk U' S N D Q)(L:lf.length=U'.length)(o:∀ i:Nat,i<U'.length->dg lf i=(un U' i).aG.length)(hc:∀ i:Nat,i<U'.length->0<=(un U' i).aT)(z:∀ i:Nat,i<U'.length->(un U' i).aG=[]->dg D (un U' i).aU<=(un U' i).aT):RI U' S N D lf [] Q 0 0 (fun _=>True):=by
 refine⟨h.dl,L,h.et,h.sd,fun i F _=>by rw[o i F,qz8],fun i F V=>absurd trivial V,fun i F _ hn k hk j'=>?_,fun g a b c _=>h.qK g a b c,h.pS,fun g I=>by simp at I,iq _,dc⟩;have K:(un U' i).aG=[]:=by
  cases hx:(un U' i).aG with
  | nil=>rfl
  | cons a l=>have:=hn a (by grind);simp at this
 grind
def RI.Ka (h:RI U' S N D lf dn Q m f ok){ok':Nat->Prop}(hk:∀ i,ok i↔ok' i):RI U' S N D lf dn Q m f ok':=by
 have:ok=ok':=funext fun i=>propext (hk i)
 grind
def RI.J9 (h:RI U' S N D lf dn Q m f ok){g v:Int}(I:0<=g/\g<N)(hm:m<=v)(z:lC U' S g v):RI U' S N (oZ D g v) lf dn (ti D Q g v) m f ok:=by
 unfold oZ ti;by_cases o:v<dg D g
 ·rw[ba o,ba o];exact h.reach I o hm z
 grind
end
def uY (dn:J)(N:Nat):List Bool:=(List.range N).map fun (g:Nat)=>decide ((g:Int)∈dn)
def qAr (dn:J)(N:Nat):(uY dn N).length=N:=by simp[uY]
def qAs (N:Nat):uY [] N=replicate N false:=by
 apply jB (by simp[uY]);intro i h1 h;simp[uY]
def qBa {dn:J}{N:Nat}{g:Int}(h:0<=g)(h1:g<N){d:Bool}:(uY dn N).getD g.toNat d=decide (g∈dn):=by
 have:g.toNat<N:=U;simp[uY,List.getD,this,jW h]
def qAt {dn:J}{N:Nat}{g:Int}(o:0<=g)(h1:g<N):(uY dn N).set g.toNat true=uY (g::dn) N:=by
 apply jB (by simp[uY]);intro i z h;have F:i<N:=by simpa [uY] using h
 rw[tS];simp only[uY,getElem_map,tI]
 grind
def Kb:∀ {N:Nat}{l:J},l.Nodup->(∀ v∈l,0<=v/\v<(N:Int))->l.length<=N
 | 0,l,_,h=>by
  cases l with
  | nil=>grind
  | cons a l=>have:=h a ku;omega
 | n+1,l,o,h=>by
  by_cases hm:(n:Int)∈l
  ·have h1:=Kb (N:=n) (o.erase (n:Int)) fun v hv=>by
    grind
   grind
  have:=Kb (N:=n) o fun v hv=>by
   grind
  omega
def Ia {α:Type}{P xs:List α}{k:Nat}{d:α}(h:P.length=k)(hk:k<xs.length):(P++xs.drop k).getD k d=xs.getD k d:=by
 simp only[List.getD];rw[lP U,Iq,show k+(k-P.length)=k by omega]
def DT {α:Type}{P xs:List α}{k:Nat}{y:α}(h:P.length=k)(hk:k<xs.length):(P++xs.drop k).set k y=(P++[y])++xs.drop (k+1):=by
 rw[xQ _ _ U,h,pW,xd hk,lO,fk];rfl
def H9 {α:Type}{P xs:List α}{k:Nat}(h:P.length=k)(hk:k<=xs.length):(P++xs.drop k).length=xs.length:=by
 rw[length_append,Bq];omega
def tK {α:Type}{xs:List α}{k:Nat}(d:α)(hk:k<xs.length):xs.drop k=xs.getD k d::xs.drop (k+1):=by
 rw[aq hk];exact xd hk
end
section
open Go.Sl Go
def aI:Ty bY:=⟨2,fun f=>[E f.num,E f.den],fun _=>rfl,⟨0,0⟩⟩
instance PF:lU aI:=⟨fun x v hv=>by simp only[aI,gT,jd,pQ]at hv;rcases hv with rfl|rfl<;>rfl⟩
end
end Go.Proofs.YtmapkjoefdgjfaaGreatDoor
