/- Several texts. -/
import Derived.Sort.Defs
import Derived.Lib.ItoaNum
import Derived.Test.YtmapkjoefdgjfaaGreatDoorMSlBD
import Derived.Sort.AssemblyPlain
import Derived.Shelf.SlSortCmp.Insertion
import Derived.Lib.ItoaMem
set_option linter.unusedSimpArgs false
set_option linter.unusedVariables false
set_option linter.defProp false
set_option maxRecDepth 8000
set_option maxHeartbeats 16000000
open List Nat
namespace Go.Proofs.YtmapkjoefdgjfaaGreatDoor
open Go.Sl
variable {j P1 R1 y:Nat}{b:Int}{s' acc out':J}{ds:List (Int × Int)}
section
open Go.Sl
structure bo where
 var:Int
 val:Int
 deriving DecidableEq
def aq:Ty bo:=⟨2,fun f=>[E f.var,E f.val],fun _=>rfl,⟨0,0⟩⟩
instance Fx:ku aq:=⟨fun x v hv=>by simp only[aq,dZ,fM,pL]at hv;rcases hv with rfl|rfl<;>rfl⟩
structure kU where
 bK:List bo
 var:Int
 val:Int
structure ko where
 name:ByteArray
 aO:Int
 pre:List bo
 aJ:List kU
structure aa where
 vars:J
 cE:J
 aG:List bo
 Z:List ko
structure ke where
 bK:Value
 var:Int
 val:Int
def aY:Ty ke:=⟨3,fun e=>[e.bK,E e.var,E e.val],fun _=>rfl,⟨nS,0,0⟩⟩
structure iX where
 name:ByteArray
 aO:Int
 pre:Value
 aJ:Value
def cp:Ty iX:=⟨4,fun o=>[.string o.name,E o.aO,o.pre,o.aJ],fun _=>rfl,⟨ByteArray.empty,0,nS,nS⟩⟩
instance Fy:nB aY:=⟨au⟩
instance Fz:nB cp:=⟨au⟩
def bE:kU:=⟨[],0,0⟩
def bf:ko:=⟨ByteArray.empty,0,[],[]⟩
structure rf (w:World) (v:ke) (e:kU):Prop where
 var:v.var=e.var
 val:v.val=e.val
 bK:RS aq w v.bK e.bK
structure lF (w:World) (s:Value) (vs:List ke) (es:List kU):Prop where
 rs:RS aY w s vs
 len:vs.length=es.length
 dK:∀ i,i<es.length->rf w (az aY vs i) (es.getD i bE)
structure oC (w:World) (v:iX) (o:ko):Prop where
 name:v.name=o.name
 size:o.name.size<=9223372036854775807
 aO:v.aO=o.aO
 pre:RS aq w v.pre o.pre
 aJ:∃ vs,lF w v.aJ vs o.aJ
structure tW (w:World) (s:Value) (vs:List iX) (os:List ko):Prop where
 rs:RS cp w s vs
 len:vs.length=os.length
 dK:∀ i,i<os.length->oC w (az cp vs i) (os.getD i bf)
structure bz (w:World) (a b c d:Value) (vs:List iX) (t:aa):Prop where
 vars:RS O w a t.vars
 cE:RS O w b t.cE
 aG:RS aq w c t.aG
 Z:tW w d vs t.Z
def rf.one {w:World}{v:ke}{e:kU}(h:rf w v e):(aY.enc v).all Value.oneCell'=true:=by
 simp only[aY,ew,eN,GE,h.bK.one];rfl
def oC.one {w:World}{v:iX}{o:ko}(h:oC w v o):(cp.enc v).all Value.oneCell'=true:=by
 obtain⟨z,he⟩:=h.aJ;simp only[cp,ew,eN,GE,h.pre.one,he.rs.one];rfl
def lF.at {w0 w:World}{Γ:List HP}{s:Value}{vs:List ke}{es:List kU}(h:lF w0 s vs es)(Y:M w0 w Γ):lF w s vs es :=
 ⟨h.rs.at Y,h.len,fun i o=>⟨(h.dK i o).var,(h.dK i o).val,(h.dK i o).bK.at Y⟩⟩
def oC.at {w0 w:World}{Γ:List HP}{v:iX}{o:ko}(h:oC w0 v o)(Y:M w0 w Γ):oC w v o :=
 ⟨h.name,h.size,h.aO,h.pre.at Y,let ⟨z,he⟩:=h.aJ;⟨z,he.at Y⟩⟩
def tW.at {w0 w:World}{Γ:List HP}{s:Value}{vs:List iX}{os:List ko}(h:tW w0 s vs os)(Y:M w0 w Γ):tW w s vs os :=
 ⟨h.rs.at Y,h.len,fun i o=>(h.dK i o).at Y⟩
def bz.at {w0 w:World}{Γ:List HP}{a b c d:Value}{vs:List iX}{t:aa}(h:bz w0 a b c d vs t)(Y:M w0 w Γ):bz w a b c d vs t :=
 ⟨h.vars.at Y,h.cE.at Y,h.aG.at Y,h.Z.at Y⟩
def cD {α:Type}{xs:List α}{i:Nat}(d:α)(h:i<xs.length):xs.getD i d∈xs:=by simp[List.getD,h]
def al {α:Type}{l:List α}{d:α}{i:Nat}(h:i<l.length):l.getD i d=l[i]:=by simp[List.getD,h]
def dr {p:Prop}(h:¬p):(false=true)↔p:=⟨(fun e=>by cases e),fun e=>absurd e h⟩
def iH {p:Prop}(h:p):(true=true)↔p:=⟨fun _=>h,fun _=>rfl⟩
def ab (vars s:J):Prop:=s.length=vars.length/\∀ i,i<s.length->0<=s.getD i O.dflt/\s.getD i O.dflt<vars.getD i O.dflt
def bH (vars:J)(x:bo):Prop:=0<=x.var/\x.var<vars.length/\0<=x.val/\x.val<vars.getD x.var.toNat O.dflt
def dj (vars:J)(f:List bo):Prop:=∀ i,i<f.length->bH vars (f.getD i aq.dflt)/\(0<i->(f.getD (i-1) aq.dflt).var<(f.getD i aq.dflt).var)
def pI (b:ByteArray):Prop:=b.size<=256/\∀ i,i<b.size->32<=yJ b i/\yJ b i<=126
def gQ (vars:J)(e:kU):Prop:=dj vars e.bK/\dj vars [⟨e.var,e.val⟩]
structure tY (vars:J) (o:ko):Prop where
 kI:0<=o.aO
 nz:o.aO<=1048576
 aJ:o.aJ.length<=64
 name:pI o.name
 pre:dj vars o.pre
 fc:∀ i,i<o.aJ.length->gQ vars (o.aJ.getD i bE)
structure aC (t:aa):Prop where
 vars:t.vars.length<=64
 Z:t.Z.length<=4096
 nt:∀ i,i<t.vars.length->1<=t.vars.getD i O.dflt/\t.vars.getD i O.dflt<=64
 cE:ab t.vars t.cE
 aG:dj t.vars t.aG
 op:∀ i,i<t.Z.length->tY t.vars (t.Z.getD i bf)
def cC (vars:J):Int:=vars.foldl (·*·) 1
structure fA (t:aa):Prop where
 da:aC t
 vars:t.vars.length<=12
 Z:t.Z.length<=20
 aJ:∀ i,i<t.Z.length->(t.Z.getD i bf).aJ.length<=8
 many:cC t.vars<=512
def ie (s:J)(x:bo):Prop:=0<=x.var/\x.var<s.length/\s.getD x.var.toNat O.dflt=x.val
def bZ (s:J)(f:List bo):Prop:=∀ i,i<f.length->ie s (f.getD i aq.dflt)
def Ah (l:J)(x:Int):cC (l++[x])=cC l*x:=by simp[cC]
def eD {α:Type}{l:List α}{k:Nat}(d:α)(h:k<l.length):l.take (k+1)=l.take k++[l.getD k d]:=by
 rw[JS h];simp[List.getD,h]
def Ag {l:J}(h:∀ x∈l,1<=x):1<=cC l:=by
 have key:∀ (l:J) (a:Int),1<=a->(∀ x∈l,1<=x)->1<=l.foldl (·*·) a:=by
  intro l
  induction l with
  | nil=>intro a o _;exact o
  | cons x l F =>
   intro a o z;refine F (a*x) ?_ fun y K=>z y (iR _ K);have hx:=z x gA;have:=zP o hx U U
   simpa using this
 exact key l 1 (du _) h
def Rc {l m:J}(hm:∀ x∈m,1<=x)(z:∀ x∈l,1<=x):cC l<=cC (l++m):=by
 induction m generalizing l with
 | nil=>simp
 | cons x m F =>
  have h1:=F (l:=l++[x]) (fun y o=>hm y (iR _ o)) (fun y o=>by
   rcases gK.1 o with h|h
   ·exact z y h
   rw[dp.1 h];exact hm x gA)
  rw[Ah]at h1;have L:=Ag z;have K:=hm x gA;have V:cC l*1<=cC l*x:=Gl K U;have e:l++[x]++m=l++x::m:=sm;rw[e]at h1;omega
def lC (ds:List (Int × Int)):Int:=ds.foldl (fun n d=>n*d.1+d.2) 0
def HY (l:List (Int × Int))(d:Int × Int):lC (l++[d])=lC l*d.1+d.2:=by simp[lC]
def pE (ds:List (Int × Int)):Prop:=∀ d∈ds,0<=d.2/\d.2<d.1
def nu {α:Type}{P:List α->Prop}(F:P [])(h1:∀ l x,P l->P (l++[x]))(l:List α):P l:=by
 have:∀ n,∀ l:List α,l.length=n->P l:=by
  intro n
  induction n with
  | zero=>intro l o;rw[Gy.1 o];exact F
  | succ n K =>
   intro l o;have z:l≠[]:=fun h=>by simp[h]at o
   rw[<-JW z];exact h1 _ _ (K _ (by simp[o]))
 exact this _ l rfl
def Ī:pE ds->0<=lC ds/\lC ds<cC (ds.map (·.1)):=by
 refine nu (P:=fun ds=>pE ds->0<=lC ds/\lC ds<cC (ds.map (·.1))) ?_ ?_ ds
 ·intro _;decide
 intro l d o h;obtain⟨a,b⟩:=o fun x hx=>h x (yA _ hx);obtain⟨c,e⟩:=h d (Gh _ (dp.2 rfl));rw[HY,pX,l8,tD,Ah];have h1:0<=lC l*d.1:=tj a U;have z:(lC l+1)*d.1<=cC (l.map (·.1))*d.1:=yt U U;rw[zH]at z;omega
def ī:∀ {es:List (Int × Int)},pE ds->pE es->ds.map (·.1)=es.map (·.1)->lC ds=lC es->ds=es:=by
 refine nu (P:=fun ds=>∀ {es:List (Int × Int)},pE ds->pE es->ds.map (·.1)=es.map (·.1)->lC ds=lC es->ds=es) ?_ ?_ ds
 ·intro es _ _ h _
  simpa using h.symm
 intro l d ih es h1 L hm he;have z:es≠[]:=fun h=>by simp[h]at hm
 obtain⟨m,f,rfl⟩:∃ m f,es=m++[f]:=⟨_,_,(JW z).symm⟩
 simp only[pX,l8,tD]at hm;obtain⟨F,K⟩:=append_inj' hm rfl;have o:d.1=f.1:=by simpa using K
 rw[HY,HY]at he;obtain⟨a,b⟩:=h1 d sm;obtain⟨a',b'⟩:=L f sm;have hq:lC l=lC m:=by
  have V:(lC l*d.1+d.2) / d.1=lC l:=by
   rw[DD,Pb _ _ U,Pc a b];omega
  have e2:(lC m*f.1+f.2) / f.1=lC m:=by
   rw[DD,Pb _ _ U,Pc a' b'];omega
  rw[he,o,e2]at V;exact V.symm
 rw[hq,o]at he;have:d.2=f.2:=U;rw[ih (fun x hx=>h1 x (by simp[hx])) (fun x hx=>L x (by simp[hx])) F hq,Prod.ext o this]
def cQ (vars s:J):Int:=lC (vars.zip s)
def KO {vars s:J}(h:s.length=vars.length)(k x:Int):cQ (vars++[k]) (s++[x])=cQ vars s*k+x:=by
 unfold cQ;rw[zip_append h.symm,zip_cons_cons,zip_nil_right,HY]
def ab.LX {vars s:J}(h:ab vars s):pE (vars.zip s):=by
 intro d o;obtain⟨i,z,rfl⟩:=fF o;rw[length_zip]at z;have:=h.2 i U;rw[al U,al U]at this
 simpa using this
def rM {a b:J}(h:b.length=a.length):(a.zip b).map (·.1)=a:=by
 have:=map_fst_zip (l₁:=a) (l₂:=b) U;exact this
def wK {vars s:J}(h:ab vars s):0<=cQ vars s/\cQ vars s<cC vars:=by
 have:=Ī h.LX
 rwa[rM h.1]at this
def zt {a b c:J}(h1:b.length=a.length)(h2:c.length=a.length)(h:a.zip b=a.zip c):b=c:=by
 have o:=map_snd_zip (l₁:=a) (l₂:=b) U;have z:=map_snd_zip (l₁:=a) (l₂:=c) U;rw[<-o,h,z]
def SV {vars s u:J}(h:ab vars s)(k:ab vars u)(e:cQ vars s=cQ vars u):s=u :=
 zt h.1 k.1 (ī h.LX k.LX (by rw[rM h.1,rM k.1]) e)
def je (out:List J)(k:Int):List J:=out.flatMap fun s=>(List.range k.toNat).map fun (x:Nat)=>s++[(x:Int)]
def aF (vars:J):List J:=vars.foldl je [[]]
def KY (vars:J)(k:Int):aF (vars++[k])=je (aF vars) k:=by simp[aF]
def Ĭ (n k:Nat):(List.range n).flatMap (fun r=>(List.range k).map fun x=>r*k+x)=List.range (n*k):=by
 induction n with
 | zero=>simp
 | succ n h=>rw[lz,wy,h,yp,range_add];simp
def ĭ {α β:Type}{l:List α}{f g:α->List β}(h:∀ x∈l,f x=g x):l.flatMap f=l.flatMap g:=by
 induction l with
 | nil=>rfl
 | cons x l o=>rw[kQ,kQ,h x gA,o fun y z=>h y (iR _ z)]
def Į {vars s:J}{k x:Int}(h:ab vars s)(o:0<=x)(h1:x<k):ab (vars++[k]) (s++[x]):=by
 refine⟨by simp[h.1],fun i z=>?_⟩;simp only[length_append,length_cons,length_nil]at z;simp only[iB];by_cases e:i<s.length
 ·rw[js e,js (by rw[<-h.1];exact e)]
  simpa only[iB] using h.2 i e
 have F:i=s.length:=U;subst F;rw[kp (cz _),kp (by rw[h.1];exact cz _),h.1]
 simpa using ⟨o,h1⟩
def į {vars s:J}{k:Int}(h:ab (vars++[k]) s):∃ s' x,s=s'++[x]/\ab vars s'/\0<=x/\x<k:=by
 have z:=h.1;simp only[length_append,length_cons,length_nil]at z;have o:s≠[]:=fun e=>by simp[e]at z
 refine⟨s.dropLast,s.getLast o,(JW o).symm,?_,?_⟩
 ·refine⟨by simp;omega,fun i F=>?_⟩
  simp only[length_dropLast]at F;have:=h.2 i U;simp only[iB]at this ⊢;rw[js U]at this;rw[getElem?_dropLast,aP U];exact this
 have:=h.2 (s.length-1) U;simp only[iB]at this;rw[kp U,show s.length-1-vars.length=0 by omega]at this;rw[getLast_eq_getElem];rw[kP U]at this
 simpa using this
def Hz {vars:J}:∀ {s:J},s∈aF vars↔ab vars s:=by
 refine nu (P:=fun vars=>∀ {s:J},s∈aF vars↔ab vars s) ?_ ?_ vars
 ·intro s
  simp only[aF,Gz,dp];constructor
  ·rintro rfl;exact⟨rfl,fun i o=>absurd o (dx _)⟩
  intro h;exact Gy.1 h.1
 intro l k z s;rw[KY,je,tm];constructor
 ·rintro⟨s',o,h⟩
  obtain⟨x,hx,rfl⟩:=iQ.1 h;have:=mem_range.1 hx;exact Į (z.1 o) U U
 intro h;obtain⟨s',x,rfl,h1,o,F⟩:=į h;exact⟨s',z.2 h1,iQ.2 ⟨x.toNat,mem_range.2 U,by rw[fZ o]⟩⟩
def SX {vars:J}:(∀ x∈vars,1<=x)->(aF vars).map (fun s=>(cQ vars s).toNat)=List.range (cC vars).toNat:=by
 refine nu (P:=fun vars=>(∀ x∈vars,1<=x)->(aF vars).map (fun s=>(cQ vars s).toNat)=List.range (cC vars).toNat) ?_ ?_ vars
 ·intro _;decide
 intro l k K h;have hk:=h k sm;have V:=Ag fun x hx=>h x (yA [k] hx);have z:=K fun x hx=>h x (by simp[hx]);rw[KY,je,map_flatMap,Ah,Int.toNat_mul U U,<-Ĭ,<-z,flatMap_map];refine ĭ fun s L=>?_;rw[zz];refine xK fun x hx=>?_;have o:=Hz.1 L;have F:=(wK o).1;simp only[Function.comp];rw[KO o.1];have:0<=cQ l s*k:=tj F U;rw[Int.toNat_add this U,Int.toNat_mul F U];omega
def wL {vars:J}(h:∀ x∈vars,1<=x):(aF vars).length=(cC vars).toNat:=by
 have:=qq List.length (SX h)
 simpa using this
def Eg {vars:J}(h:∀ x∈vars,1<=x){i:Nat}(hi:i<(aF vars).length):ab vars ((aF vars).getD i [])/\cQ vars ((aF vars).getD i [])=i:=by
 have hm:(aF vars).getD i []∈aF vars:=cD [] hi;have o:=Hz.1 hm;refine⟨o,?_⟩;have:=qq (fun l=>l[i]?) (SX h);rw[wL h]at hi;simp only[tq]at this;rw[GA U,kP (by rw[wL h];omega)]at this;simp only[tJ,zR]at this;rw[al (by rw[wL h];omega)]at o ⊢;have z:=(wK o).1;omega
def Eh {vars:J}(h:∀ x∈vars,1<=x){s:J}(o:ab vars s):(cQ vars s).toNat<(aF vars).length/\(aF vars).getD (cQ vars s).toNat []=s:=by
 have F:=wK o;have z:(cQ vars s).toNat<(aF vars).length:=by rw[wL h];omega
 refine⟨z,?_⟩;obtain⟨h1,K⟩:=Eg h z;exact SV h1 o U
instance (s:J) (x:bo):Decidable (ie s x):=by unfold ie;infer_instance
instance (s:J) (f:List bo):Decidable (bZ s f):=by unfold bZ;infer_instance
def wM {s:J}{f:List bo}:bZ s f↔∀ x∈f,ie s x:=by
 constructor
 ·intro h x hx
  obtain⟨i,o,rfl⟩:=fF hx;have:=h i o
  rwa[al o]at this
 intro h i o;exact h _ (cD _ o)
def eW (s:J)(h:List kU):J:=h.foldl (fun out e=>if bZ s e.bK then out.set e.var.toNat e.val else out) s
def CM (s:J)(l:List kU)(e:kU):eW s (l++[e])=if bZ s e.bK then (eW s l).set e.var.toNat e.val else eW s l:=by simp[eW]
def KN (s:J)(l:List kU):(eW s l).length=s.length:=by
 refine nu (P:=fun l=>(eW s l).length=s.length) rfl ?_ l;intro l e h;rw[CM];split<;>simp[h]
def iT (t:aa)(s:J)(op:Nat):Prop:=bZ s (t.Z.getD op bf).pre
instance (t:aa) (s:J) (op:Nat):Decidable (iT t s op):=by unfold iT;infer_instance
def cd (t:aa)(s:J)(op:Nat):J:=eW s (t.Z.getD op bf).aJ
def tz {vars:J}{e:kU}(h:gQ vars e):0<=e.var/\e.var<vars.length/\0<=e.val/\e.val<vars.getD e.var.toNat O.dflt:=by
 have:=(h.2 0 (fb _)).1;exact this
def LN {vars s:J}{v x:Int}(h:ab vars s)(h2:0<=v)(z:0<=x)(h1:x<vars.getD v.toNat O.dflt):ab vars (s.set v.toNat x):=by
 refine⟨by simp[h.1],fun i o=>?_⟩;rw[gS]at o;simp only[iB,vq]at h1 ⊢;split
 ·rename_i e;subst e;rw[aP o];exact⟨z,h1⟩
 simpa only[iB] using h.2 i o
def SY {vars s:J}{l:List kU}(o:ab vars s):(∀ e∈l,gQ vars e)->ab vars (eW s l):=by
 refine nu (P:=fun l=>(∀ e∈l,gQ vars e)->ab vars (eW s l)) (fun _=>o) ?_ l;intro l e z h;have h1:=z fun x hx=>h x (by simp[hx]);rw[CM];split
 ·obtain⟨a,b,c,d⟩:=tz (h e sm)
  exact LN h1 a c d
 exact h1
def tY.mem {vars:J}{o:ko}(h:tY vars o):∀ e∈o.aJ,gQ vars e:=by
 intro e he;obtain⟨i,z,rfl⟩:=fF he;have:=h.fc i z
 rwa[al z]at this
def aC.pos {t:aa}(h:aC t):∀ x∈t.vars,1<=x:=by
 intro x hx;obtain⟨i,o,rfl⟩:=fF hx;have:=(h.nt i o).1
 rwa[al o]at this
def r6 {t:aa}{s:J}{op:Nat}(h:aC t)(o:ab t.vars s)(z:op<t.Z.length):ab t.vars (cd t s op):=SY o (h.op op z).mem
structure cS where
 ba:Int
 cG:Int
 dst:Int
 deriving DecidableEq
def aM:Ty cS:=⟨3,fun e=>[E e.ba,E e.cG,E e.dst],fun _=>rfl,⟨0,0,0⟩⟩
instance Db:ku aM:=⟨fun x v hv=>by simp only[aM,dZ,fM,pL]at hv;rcases hv with rfl|rfl|rfl<;>rfl⟩
def pz (t:aa)(s:J)(i:Nat)(op:Nat):List cS:=if iT t s op then [⟨i,op,cQ t.vars (cd t s op)⟩] else []
def jp (t:aa)(s:J)(i j:Nat):List cS:=(List.range j).flatMap (pz t s i)
def jY (t:aa)(i:Nat):List cS:=(List.range i).flatMap fun i=>jp t ((aF t.vars).getD i []) i t.Z.length
def ct (t:aa):List cS:=jY t (aF t.vars).length
def Zy (t:aa)(s:J)(i:Nat):jp t s i 0=[]:=rfl
def KZ (t:aa)(s:J)(i j:Nat):jp t s i (j+1)=jp t s i j++pz t s i j:=by simp[jp,lz]
def RA (t:aa)(i:Nat):jY t (i+1)=jY t i++jp t ((aF t.vars).getD i []) i t.Z.length:=by simp[jY,lz]
def Rz (t:aa)(s:J)(i j:Nat):(jp t s i j).length<=j:=by
 induction j with
 | zero=>simp[jp]
 | succ j h =>
  rw[KZ,length_append];have:(pz t s i j).length<=1:=by unfold pz;split<;>simp
  omega
def Ry (t:aa)(i:Nat):(jY t i).length<=i*t.Z.length:=by
 induction i with
 | zero=>simp[jY]
 | succ i h =>
  rw[RA,length_append,yp];have:=Rz t ((aF t.vars).getD i []) i t.Z.length;omega
def K0 {t:aa}{e:cS}:e∈ct t↔∃ i op,i<(aF t.vars).length/\op<t.Z.length/\iT t ((aF t.vars).getD i []) op/\e=⟨i,op,cQ t.vars (cd t ((aF t.vars).getD i []) op)⟩:=by
 simp only[ct,jY,jp,pz,tm,mem_range];constructor
 ·rintro⟨i,o,op,z,h⟩
  split at h
  ·rename_i F;exact⟨i,op,o,z,F,dp.1 h⟩
  cases h
 rintro⟨i,op,o,z,F,rfl⟩;exact⟨i,o,op,z,by rw[aP F];exact dp.2 rfl⟩
def mG (o:ko):List (List bo):=o.pre::o.aJ.map (·.bK)
def fL (t:aa)(k:Nat):List (List bo):=t.aG::(t.Z.take k).flatMap mG
def jC (t:aa):List (List bo):=fL t t.Z.length
def gn (t:aa):Prop:=64<t.vars.length\/4096<t.Z.length\/(∃ i,i<t.Z.length/\64<(t.Z.getD i bf).aJ.length)\/∃ i,i<(jC t).length/\64<((jC t).getD i []).length
def oL (t:aa):Prop:=∀ i,i<t.vars.length->1<=t.vars.getD i O.dflt/\t.vars.getD i O.dflt<=64
def lI (t:aa):Prop:=∀ i,i<t.Z.length->0<=(t.Z.getD i bf).aO/\(t.Z.getD i bf).aO<=1048576
def mC (t:aa):Prop:=∀ i,i<(jC t).length->dj t.vars ((jC t).getD i [])
def ud (t:aa):Prop:=∀ i,i<t.Z.length->∀ j,j<(t.Z.getD i bf).aJ.length->dj t.vars [⟨((t.Z.getD i bf).aJ.getD j bE).var,((t.Z.getD i bf).aJ.getD j bE).val⟩]
def pJ (t:aa):Prop:=∀ i,i<t.Z.length->pI (t.Z.getD i bf).name
open Classical in
noncomputable def bX (t:aa):Int :=
 if gn t then 5 else if ¬oL t then 1 else if ¬lI t then 1 else if ¬ab t.vars t.cE then 2 else if ¬mC t then 2 else if ¬ud t then 2 else if ¬pJ t then 8 else 0
def YI (t:aa):fL t 0=[t.aG]:=by simp[fL]
def Q9 (t:aa){k:Nat}(hk:k<t.Z.length):fL t (k+1)=fL t k++mG (t.Z.getD k bf):=by
 simp[fL,eD bf hk]
def KM (t:aa):∀ k,k<=t.Z.length->(∀ i,i<t.Z.length->(t.Z.getD i bf).aJ.length<=64)->(fL t k).length<=1+65*k
 | 0,_,_=>by simp[fL]
 | k+1,hk,h=>by
  have:=KM t k U h;have o:=h k U;rw[Q9 t U,length_append];simp only[mG,length_cons,iW];omega
def HZ {t:aa}{f:List bo}:f∈jC t↔(f=t.aG\/∃ i,i<t.Z.length/\(f=(t.Z.getD i bf).pre\/∃ j,j<(t.Z.getD i bf).aJ.length/\f=((t.Z.getD i bf).aJ.getD j bE).bK)):=by
 simp only[jC,fL,lL,dZ,tm,mG,iQ];constructor
 ·rintro (h|⟨o,K,h⟩)
  ·exact .inl h
  obtain⟨i,z,rfl⟩:=fF K;refine .inr ⟨i,z,?_⟩;rw[al z];rcases h with h|⟨e,he,rfl⟩
  ·exact .inl h
  obtain⟨j,F,rfl⟩:=fF he;exact .inr ⟨j,F,by rw[al F]⟩
 rintro (h|⟨i,z,h⟩)
 ·exact .inl h
 refine .inr ⟨t.Z.getD i bf,cD _ z,?_⟩;rcases h with h|⟨j,F,rfl⟩
 ·exact .inl h
 exact .inr ⟨_,cD _ F,rfl⟩
def SZ {vars:J}{f:List bo}(h:dj vars f):∀ i,i<f.length->(i:Int)<=(f.getD i aq.dflt).var
 | 0,o=>(h 0 o).1.1
 | i+1,z=>by
  have h1:=SZ h i U;have F:=(h (i+1) z).2 U;simp only[DC]at F;omega
def sa {vars:J}{f:List bo}(h:dj vars f):f.length<=vars.length:=by
 rcases uC f.length with o|o
 ·omega
 have h1:=SZ h (f.length-1) U;have z:=(h (f.length-1) U).1.2.1;omega
def S0 {t:aa}:mC t↔∀ f∈jC t,dj t.vars f:=by
 constructor
 ·intro h f z
  obtain⟨i,o,rfl⟩:=fF z;have:=h i o
  rwa[al o]at this
 intro h i o;exact h _ (cD _ o)
def rQ (t:aa):bX t=0↔aC t:=by
 unfold bX;constructor
 ·intro h
  split at h
  ·cases h
  rename_i h1;split at h
  ·cases h
  rename_i L;split at h
  ·cases h
  rename_i K;split at h
  ·cases h
  rename_i V;split at h
  ·cases h
  rename_i h5;split at h
  ·cases h
  rename_i h6;split at h
  ·cases h
  rename_i h7;rw[tK]at L K V h5 h6 h7;simp only[gn,not_or,not_exists,not_and,wg]at h1;have z:=S0.1 h5;refine⟨h1.1,h1.2.1,L,V,z _ (HZ.2 (.inl rfl)),fun i o=>⟨(K i o).1,(K i o).2,h1.2.2.1 i o,h7 i o,z _ (HZ.2 (.inr ⟨i,o,.inl rfl⟩)),fun j F=>⟨z _ (HZ.2 (.inr ⟨i,o,.inr ⟨j,F,rfl⟩⟩)),h6 i o j F⟩⟩⟩
 intro h;have z:∀ f∈jC t,dj t.vars f:=fun f K=>by
  rcases HZ.1 K with rfl|⟨i,o,rfl|⟨j,F,rfl⟩⟩
  ·exact h.aG
  ·exact(h.op i o).pre
  exact((h.op i o).fc j F).1
 have h1:¬gn t:=by
  rintro (h1|h1|⟨i,o,h1⟩|⟨i,o,h1⟩)
  ·have:=h.vars;omega
  ·have:=h.Z;omega
  ·have:=(h.op i o).aJ;omega
  have:=sa (z _ (cD [] o));have:=h.vars;omega
 have a2:oL t:=h.nt;have a3:lI t:=fun i o=>⟨(h.op i o).kI,(h.op i o).nz⟩
 have a5:mC t:=S0.2 z;have L:ud t:=fun i o j F=>((h.op i o).fc j F).2;have V:pJ t:=fun i o=>(h.op i o).name;rw[aH h1,aH (tK.2 a2),aH (tK.2 a3),aH (tK.2 h.cE),aH (tK.2 a5),aH (tK.2 L),aH (tK.2 V)]
abbrev sg (s:J)(v:Int):Int:=s.getD v.toNat O.dflt
def fO (s p:J):J:=p.map (sg s)
def bp (vars p:J):Int:=cC (fO vars p)
def bU (vars p s:J):Int:=cQ (fO vars p) (fO s p)
def fm (vars p:J):Prop:=∀ i,i<p.length->(0<=p.getD i O.dflt/\p.getD i O.dflt<vars.length)/\(0<i->p.getD (i-1) O.dflt<p.getD i O.dflt)
structure jr (vars p:J):Prop where
 mem:∀ v∈p,0<=v/\v<vars.length
 Ei:p.Pairwise (·<·)
def C1 {s:J}{v x:Int}(o:0<=v)(h:v<s.length):sg (s.set v.toNat x) v=x:=by
 simp[sg,List.getD,vq,show v.toNat<s.length by omega]
def yN {s:J}{v u x:Int}(o:0<=v)(h1:0<=u)(h:v≠u):sg (s.set v.toNat x) u=sg s u:=by
 simp[sg,List.getD,vq,show v.toNat≠u.toNat by omega]
def uX {s:J}{i:Nat}:sg s (i:Int)=s.getD i O.dflt:=by simp[sg]
def fm.NR {vars p:J}(h:fm vars p):jr vars p:=by
 refine⟨fun v hv=>?_,?_⟩
 ·obtain⟨i,o,rfl⟩:=fF hv
  have:=(h i o).1
  rwa[al o]at this
 rw[v7];intro i j o K z;have key:∀ k,(hk:i+k+1<p.length)->p[i]<p[i+k+1]:=by
  intro k
  induction k with
  | zero=>intro hk;have:=(h (i+1) U).2 U;rw[al U,al U]at this;simpa using this
  | succ k F =>
   intro hk;have h1:=F U;have:=(h (i+k+1+1) U).2 U;rw[al U,al U]at this;simp only[DC]at this;exact Int.lt_trans h1 this
 have:=key (j-i-1) U
 simpa [show i+(j-i-1)+1=j by omega] using this
def jr.pW {vars p:J}(h:jr vars p):fm vars p:=fun i o =>
 ⟨h.mem _ (cD _ o),fun z=>by
  rw[al o,al U]
  exact v7.1 h.Ei _ _ _ _ U⟩
def jr.cE {vars l:J}{v:Int}(h:jr vars (l++[v])):jr vars l/\(0<=v/\v<vars.length)/\v∉l:=by
 refine⟨⟨fun u hu=>h.mem u (by simp[hu]),(Cp.1 h.Ei).1⟩,h.mem v sm,fun hv=>?_⟩;have:=(Cp.1 h.Ei).2.2 v hv v sm;omega
def jr.le {vars p:J}(h:jr vars p):∀ i,i<p.length->(i:Int)<=p.getD i O.dflt
 | 0,o=>(h.mem _ (cD _ o)).1
 | i+1,o=>by
  have h1:=jr.le h i U;have z:=(h.pW (i+1) o).2 U;simp only[DC]at z;omega
def jr.len {vars p:J}(h:jr vars p):p.length<=vars.length:=by
 rcases uC p.length with o|o
 ·omega
 have h1:=h.le (p.length-1) U;have z:=h.mem _ (cD O.dflt (show p.length-1<p.length by omega));omega
def LY (s l:J)(v:Int):fO s (l++[v])=fO s l++[sg s v]:=by simp[fO]
def H0 (s p:J):(fO s p).length=p.length:=by simp[fO]
def S4 {s p:J}{i:Nat}(hi:i<p.length):(fO s p).getD i O.dflt=sg s (p.getD i O.dflt):=by
 rw[al (by rw[H0];exact hi),al hi];simp[fO]
def LZ {vars s p:J}(o:ab vars s)(z:∀ v∈p,0<=v/\v<vars.length):ab (fO vars p) (fO s p):=by
 refine⟨by simp[H0],fun i h=>?_⟩;rw[H0]at h;rw[S4 h,S4 h];have:=z _ (cD O.dflt h);exact o.2 _ (by rw[o.1];omega)
def O4 {vars p:J}(h:∀ x∈vars,1<=x)(o:∀ v∈p,0<=v/\v<vars.length):∀ x∈fO vars p,1<=x:=by
 intro x hx;obtain⟨v,hv,rfl⟩:=iQ.1 hx;have:=o v hv;exact h _ (cD O.dflt U)
def oz {vars s p:J}(h:ab vars s)(o:∀ v∈p,0<=v/\v<vars.length):0<=bU vars p s/\bU vars p s<bp vars p:=wK (LZ h o)
def JN (vars l:J)(v:Int):bp vars (l++[v])=bp vars l*sg vars v:=by simp[bp,LY,Ah]
def O5 (vars l s:J)(v:Int):bU vars (l++[v]) s=bU vars l s*sg vars v+sg s v:=by
 rw[bU,LY,LY,KO (by simp[H0])];rfl
def CP {vars p s:J}(h:∀ v∈p,sg s v=sg s' v):bU vars p s=bU vars p s':=by
 unfold bU fO;rw[xK h]
def H1 {vars p s:J}(F:ab vars s)(o:ab vars s')(z:∀ v∈p,0<=v/\v<vars.length)(h:bU vars p s=bU vars p s'):∀ v∈p,sg s v=sg s' v:=by
 have:=SV (LZ F z) (LZ o z) h;intro v hv;exact map_inj_left.1 this v hv
def FQ {vars p:J}(h:∀ x∈vars,1<=x)(o:∀ v∈p,0<=v/\v<vars.length):1<=bp vars p:=Ag (O4 h o)
def tX (h:J)(p:J × Int)(v:Int):J × Int:=(p.1.set v.toNat (p.2.tmod (h.getD v.toNat O.dflt)),p.2.tdiv (h.getD v.toNat O.dflt))
def li (h vs:J)(s:J)(n:Int):J × Int:=vs.foldl (tX h) (s,n)
def Gk (h vs:J)(s:J)(n v:Int):li h (vs++[v]) s n=tX h (li h vs s n) v:=by simp[li]
def O2 (h vs:J)(s:J)(n:Int):(li h vs s n).1.length=s.length:=by
 refine nu (P:=fun vs=>(li h vs s n).1.length=s.length) rfl ?_ vs;intro l v o;rw[Gk,tX];simp[o]
def WK {o vs:J}{s:J}{n:Int}(z:∀ x∈o,1<=x)(F:0<=n):(∀ v∈vs,0<=v/\v<o.length)->0<=(li o vs s n).2/\(li o vs s n).2<=n:=by
 refine nu (P:=fun (vs:J)=>(∀ v∈vs,0<=v/\v<o.length)->0<=(li o vs s n).2/\(li o vs s n).2<=n) (fun _=>⟨F,du _⟩) ?_ vs;intro l v K h;obtain⟨h1,L⟩:=K fun x hx=>h x (by simp[hx]);obtain⟨V,h4⟩:=h v sm;have h5:=z _ (cD O.dflt (show v.toNat<o.length by omega));rw[Gk,tX];simp only;rw[Gx h1];exact⟨Int.ediv_nonneg h1 U,rO (JQ _ h1) L⟩
def im (vars p s:J)(n:Int):J:=(li vars p.reverse s n).1
def İ (vars l s:J)(v n:Int):im vars (l++[v]) s n=im vars l (s.set v.toNat (n.tmod (sg vars v))) (n.tdiv (sg vars v)):=by
 simp[im,li,tX,reverse_append]
def S5 (vars p s:J)(n:Int):(im vars p s n).length=s.length:=O2 _ _ _ _
def Et {vars p:J}(hd:∀ x∈vars,1<=x):∀ {s:J}{n:Int},jr vars p->s.length=vars.length->0<=n->n<bp vars p ->
  bU vars p (im vars p s n)=n/\(∀ v∈p,0<=sg (im vars p s n) v/\sg (im vars p s n) v<sg vars v)/\∀ v,0<=v->v∉p->sg (im vars p s n) v=sg s v:=by
 refine nu (P:=fun p=>∀ {s:J}{n:Int},jr vars p->s.length=vars.length->0<=n->n<bp vars p ->
  bU vars p (im vars p s n)=n/\(∀ v∈p,0<=sg (im vars p s n) v/\sg (im vars p s n) v<sg vars v)/\∀ v,0<=v->v∉p->sg (im vars p s n) v=sg s v) ?_ ?_ p
 ·intro s n _ _ K h1
  refine⟨?_,fun v hv=>by simp at hv,fun v _ _=>rfl⟩;have:bp vars []=1:=rfl;have:bU vars [] (im vars [] s n)=0:=rfl;omega
 intro l v ih s n hV hl K h1;obtain⟨L,⟨o,T'⟩,V⟩:=hV.cE;have V':1<=sg vars v:=hd _ (cD O.dflt U);rw[İ,Pg K,Gx K];rw[JN]at h1;have j':0<=n / sg vars v:=Int.ediv_nonneg K U;have H':n / sg vars v<bp vars l:=Int.ediv_lt_of_lt_mul U h1;obtain⟨i1,i2,i3⟩:=ih (s:=s.set v.toNat (n % sg vars v)) L (by simp[hl]) j' H';have z:sg (im vars l (s.set v.toNat (n % sg vars v)) (n / sg vars v)) v=n % sg vars v:=by
  rw[i3 v o V,C1 o U]
 have J':=Int.emod_nonneg n (show sg vars v≠0 by omega);have P':=Ph n (show 0<sg vars v by omega);refine⟨?_,fun u hu=>?_,fun u F hu=>?_⟩
 ·rw[O5,i1,z]
  have:=Int.mul_ediv_add_emod n (sg vars v);rw[Int.mul_comm];exact this
 ·rcases gK.1 hu with h|h
  ·exact i2 u h
  rw[dp.1 h,z];exact⟨J',P'⟩
 have R':v≠u:=fun e=>hu (by simp[e]);rw[i3 u F (fun h=>hu (by simp[h])),yN o F R']
def HW {vars p s:J}{n:Int}(o:∀ x∈vars,1<=x)(z:jr vars p)(F:0<=n)(h1:n<bp vars p)(h:s.length=vars.length)(K:∀ v:Int,0<=v->v<vars.length->v∉p->0<=sg s v/\sg s v<sg vars v):ab vars (im vars p s n):=by
 obtain⟨_,i2,i3⟩:=Et (s:=s) o z h F h1;refine⟨by rw[S5,h],fun i L=>?_⟩;rw[S5,h]at L;rw[<-uX,<-uX];by_cases hm:(i:Int)∈p
 ·exact i2 _ hm
 rw[i3 _ U hm];exact K _ U U hm
def ab.dC {vars s:J}(h:ab vars s){v:Int}(o:0<=v)(h1:v<vars.length):0<=sg s v/\sg s v<sg vars v:=h.2 _ (by rw[h.1];omega)
def ı {l:J}:∀ {m:J},l.Pairwise (·<·)->m.Pairwise (·<·)->(∀ x,x∈l↔x∈m)->l=m:=by
 induction l with
 | nil =>
  intro m _ _ h
  cases m with
  | nil=>rfl
  | cons y m=>exact absurd ((h y).2 sm) sm
 | cons x l L =>
  intro m F hm h
  cases m with
  | nil=>exact absurd ((h x).1 sm) sm
  | cons y m =>
   rw[J7]at F hm;have K:x=y:=by
    rcases dZ.1 ((h x).1 sm) with e|e
    ·exact e
    rcases dZ.1 ((h y).2 sm) with o|o
    ·exact o.symm
    have:=F.1 y o;have:=hm.1 x e;omega
   subst K;refine qq _ (L F.2 hm.2 fun z=>?_);constructor
   ·intro o
    rcases dZ.1 ((h z).1 (by simp[o])) with e|e
    ·have:=F.1 z o;omega
    exact e
   intro o;rcases dZ.1 ((h z).2 (by simp[o])) with e|e
   ·have:=hm.1 z o;omega
   exact e
def oO (n:Int):J:=(List.range n.toNat).map fun (i:Nat)=>(i:Int)
def K7 {n x:Int}:x∈oO n↔0<=x/\x<n:=by
 simp only[oO,iQ,mem_range];constructor
 ·rintro⟨i,o,rfl⟩;omega
 intro h;exact⟨x.toNat,U,U⟩
def Ĳ (n:Int):(oO n).Pairwise (·<·):=by
 rw[oO,A5];exact Dl.imp fun h=>U
def ĳ (n:Int):(oO n).length=n.toNat:=by simp[oO]
open Classical in
noncomputable def nC (n:Int)(p:Int->Prop):J:=(oO n).filter fun x=>decide (p x)
def Ak {n x:Int}{p:Int->Prop}:x∈nC n p↔(0<=x/\x<n)/\p x:=by simp[nC,K7]
def K3 (n:Int)(p:Int->Prop):(nC n p).Pairwise (·<·):=(Ĳ n).filter _
def Ė (n:Int)(p:Int->Prop):(nC n p).length<=n.toNat:=by
 have:=ux (fun x=>@decide (p x) (Classical.propDecidable _)) (oO n);rw[ĳ]at this;exact this
def JP {l:J}{n:Int}{p:Int->Prop}(o:l.Pairwise (·<·))(h:∀ x,x∈l↔(0<=x/\x<n)/\p x):l=nC n p :=
 ı o (K3 n p) fun x=>(h x).trans Ak.symm
def Ev (t:aa)(p:J)(a:Int)(op:Nat)(b:Int):Prop:=∃ s,ab t.vars s/\bU t.vars p s=a/\iT t s op/\bU t.vars p (cd t s op)=b
noncomputable def qd (t:aa)(p:J)(a:Int)(op:Nat):J:=nC (bp t.vars p) (Ev t p a op)
def xm (p:J)(f:List bo):List bo:=f.filter fun x=>decide (x.var∈p)
def uW (t:aa)(p:J)(a:Int):Prop:=∃ s,ab t.vars s/\bU t.vars p s=a/\bZ s (xm p t.aG)
def xy (o:ko)(p:J)(v:Int):Prop:=(∃ e∈o.aJ,e.var∈p/\∃ f∈e.bK,f.var=v)/\v∉p/\∀ f∈o.pre,f.var≠v
noncomputable def sU (vars:J)(o:ko)(p:J):J:=nC vars.length (xy o p)
def Ej (vars:J)(o:ko)(p:J):jr vars (sU vars o p):=⟨fun v hv=>(Ak.1 hv).1,K3 _ _⟩
def fP (p s:J)(h:List kU):J:=h.foldl (fun out e=>if e.var∈p/\bZ s e.bK then out.set e.var.toNat e.val else out) s
def CX (p s:J)(l:List kU)(e:kU):fP p s (l++[e])=if e.var∈p/\bZ s e.bK then (fP p s l).set e.var.toNat e.val else fP p s l:=by simp[fP]
def HX (p s:J)(l:List kU):(fP p s l).length=s.length:=by
 refine nu (P:=fun l=>(fP p s l).length=s.length) rfl ?_ l;intro l e h;rw[CX];split<;>simp[h]
def L0 {vars p s:J}{l:List kU}(hs:s.length=vars.length)(K:∀ v∈p,0<=v/\v<vars.length):(∀ e∈l,gQ vars e)->∀ v∈p,sg (fP p s l) v=sg (eW s l) v:=by
 refine nu (P:=fun l=>(∀ e∈l,gQ vars e)->∀ v∈p,sg (fP p s l) v=sg (eW s l) v) (fun _ _ _=>rfl) ?_ l;intro l e L h v hv;have h1:=L (fun x hx=>h x (by simp[hx])) v hv;obtain⟨a,b,c,d⟩:=tz (h e sm);obtain⟨o,V⟩:=K v hv;rw[CX,CM];by_cases F:bZ s e.bK
 ·by_cases hm:e.var∈p
  ·rw[aP ⟨hm,F⟩,aP F]
   by_cases z:e.var=v
   ·rw[<-z,C1 a (by rw[HX];omega),C1 a (by rw[KN];omega)]
   rw[yN a o z,yN a o z,h1]
  rw[aH (fun h=>hm h.1),aP F,yN a o (fun z=>hm (z ▸ hv)),h1]
 rw[aH (fun h=>F h.2),aH F,h1]
def S6 {s:J}{x:bo}(o:s.length=s'.length)(h:sg s x.var=sg s' x.var):ie s x↔ie s' x:=by
 unfold ie;rw[o,show s.getD x.var.toNat O.dflt=s'.getD x.var.toNat O.dflt from h]
def Ĵ {s:J}{f:List bo}(z:s.length=s'.length)(h:∀ x∈f,sg s x.var=sg s' x.var):bZ s f↔bZ s' f:=by
 rw[wM,wM];constructor
 ·intro o x hx;exact(S6 z (h x hx)).1 (o x hx)
 intro o x hx;exact(S6 z (h x hx)).2 (o x hx)
def S7 {vars p s:J}{l:List kU}(hl:s.length=vars.length)(K:s'.length=vars.length)(hp:∀ v∈p,0<=v/\v<vars.length)(L:∀ v∈p,sg s v=sg s' v) :
  (∀ e∈l,gQ vars e)->(∀ e∈l,e.var∈p->∀ f∈e.bK,sg s f.var=sg s' f.var)->∀ v∈p,sg (fP p s l) v=sg (fP p s' l) v:=by
 refine nu (P:=fun l=>(∀ e∈l,gQ vars e)->(∀ e∈l,e.var∈p->∀ f∈e.bK,sg s f.var=sg s' f.var)->∀ v∈p,sg (fP p s l) v=sg (fP p s' l) v) (fun _ _=>L) ?_ l;intro l e ih h Y v hv;have h1:=ih (fun x hx=>h x (by simp[hx])) (fun x hx=>Y x (by simp[hx])) v hv;obtain⟨a,b,c,d⟩:=tz (h e sm);obtain⟨z,j'⟩:=hp v hv;rw[CX,CX];by_cases hm:e.var∈p
 ·have V:=Ĵ (hl.trans K.symm) (Y e sm hm)
  by_cases F:bZ s e.bK
  ·rw[aP ⟨hm,F⟩,aP ⟨hm,V.1 F⟩]
   by_cases o:e.var=v
   ·rw[<-o,C1 a (by rw[HX];omega),C1 a (by rw[HX];omega)]
   rw[yN a z o,yN a z o,h1]
  rw[aH (fun h=>F h.2),aH (fun h=>F (V.2 h.2)),h1]
 rw[aH (fun h=>hm h.1),aH (fun h=>hm h.1),h1]
def jZ (n:Nat):J:=replicate n 0
def Er (n:Nat):(jZ n).length=n:=by simp[jZ]
def ĵ (n:Nat)(v:Int):sg (jZ n) v=0:=by
 simp only[sg,jZ,iB,zJ];split<;>rfl
def lY (p s:J)(f:List bo):J:=f.foldl (fun s x=>if x.var∈p then s else s.set x.var.toNat x.val) s
def Es (p s:J)(f:List bo)(x:bo):lY p s (f++[x])=if x.var∈p then lY p s f else (lY p s f).set x.var.toNat x.val:=by simp[lY]
def SL (p s:J)(f:List bo):(lY p s f).length=s.length:=by
 refine nu (P:=fun f=>(lY p s f).length=s.length) rfl ?_ f;intro l e h;rw[Es];split<;>simp[h]
def xl (p s:J)(f:List bo):Prop:=∀ x∈f,x.var∈p->sg s x.var=x.val
def yr {vars:J}{f:List bo}(h:dj vars f):∀ x∈f,bH vars x:=by
 intro x hx;obtain⟨i,o,rfl⟩:=fF hx;have:=(h i o).1
 rwa[al o]at this
def Ķ {vars:J}{f:List bo}(h:dj vars f):f.Pairwise fun x y=>x.var<y.var:=by
 rw[v7];intro i j F K o;have key:∀ k,(hk:i+k+1<f.length)->f[i].var<f[i+k+1].var:=by
  intro k
  induction k with
  | zero=>intro hk;have:=(h (i+1) U).2 U;rw[al U,al U]at this;simpa using this
  | succ k z =>
   intro hk;have h1:=z U;have:=(h (i+k+1+1) U).2 U;rw[al U,al U]at this;simp only[DC]at this;exact Int.lt_trans h1 this
 have:=key (j-i-1) U
 simpa [show i+(j-i-1)+1=j by omega] using this
def SM {vars p s:J}{f:List bo}{v:Int}(hv:0<=v):(∀ x∈f,bH vars x)->(∀ x∈f,x.var∉p->x.var≠v)->sg (lY p s f) v=sg s v:=by
 refine nu (P:=fun f=>(∀ x∈f,bH vars x)->(∀ x∈f,x.var∉p->x.var≠v)->sg (lY p s f) v=sg s v) (fun _ _=>rfl) ?_ f;intro l x F h z;have h1:=F (fun y o=>h y (by simp[o])) (fun y o=>z y (by simp[o]));have hx:=h x sm;rw[Es];split
 ·exact h1
 rename_i hm;rw[yN hx.1 hv (z x sm hm),h1]
def S8 {vars p s:J}{f:List bo}(hs:s.length=vars.length):(∀ x∈f,bH vars x)->(f.Pairwise fun x y=>x.var<y.var)->∀ x∈f,x.var∉p->sg (lY p s f) x.var=x.val:=by
 refine nu (P:=fun f=>(∀ x∈f,bH vars x)->(f.Pairwise fun x y=>x.var<y.var)->∀ x∈f,x.var∉p->sg (lY p s f) x.var=x.val) (fun _ _ x hx=>by simp at hx) ?_ f;intro l y ih h V x hx F;have K:=h y sm;have L:=h x hx;rw[Es];rcases gK.1 hx with o|o
 ·have h1:=ih (fun z hz=>h z (by simp[hz])) (Cp.1 V).1 x o F
  have j':=(Cp.1 V).2.2 x o y sm;split
  ·exact h1
  rw[yN K.1 L.1 U,h1]
 rw[dp.1 o]at F ⊢;rw[aH F,C1 K.1 (by rw[SL,hs];exact K.2.1)]
def ķ {vars p s:J}{f:List bo}(o:ab vars s):(∀ x∈f,bH vars x)->ab vars (lY p s f):=by
 refine nu (P:=fun f=>(∀ x∈f,bH vars x)->ab vars (lY p s f)) (fun _=>o) ?_ f;intro l x z h;have h1:=z fun y F=>h y (by simp[F]);have hx:=h x sm;rw[Es];split
 ·exact h1
 exact LN h1 hx.1 hx.2.2.1 hx.2.2.2
section
variable {t:aa}{p:J}{op:Nat}{a:Int}
def jJ (t:aa)(op:Nat):ko:=t.Z.getD op bf
def qE (t:aa)(p:J)(a:Int):J:=im t.vars p (jZ t.vars.length) a
def sA (t:aa)(p:J)(op:Nat)(a:Int):J:=lY p (qE t p a) (jJ t op).pre
noncomputable def jN (t:aa)(p:J)(op:Nat):J:=sU t.vars (jJ t op) p
def tb (t:aa)(p:J)(op:Nat)(a k b:Int):Prop:=∃ S,ab t.vars S/\(∀ v,0<=v->v∉jN t p op->sg S v=sg (sA t p op a) v)/\bU t.vars (jN t p op) S<k/\bU t.vars p (fP p S (jJ t op).aJ)=b
def SO (o:∀ x∈t.vars,1<=x):ab t.vars (jZ t.vars.length):=by
 refine⟨Er _,fun i h=>?_⟩;rw[Er]at h;have:=o _ (cD O.dflt h);rw[<-uX,ĵ];omega
def Ep (I:aC t)(o:jr t.vars p)(z:0<=a)(h1:a<bp t.vars p):ab t.vars (qE t p a)/\bU t.vars p (qE t p a)=a:=by
 have F:=SO (t:=t) I.pos;exact⟨HW I.pos o z h1 (Er _) fun v hv h _=>F.dC hv h,(Et I.pos o (Er _) z h1).1⟩
def AM (I:aC t)(h:jr t.vars p)(o:0<=a)(h1:a<bp t.vars p){s:J}(z:ab t.vars s)(F:bU t.vars p s=a):∀ v∈p,sg s v=sg (qE t p a) v :=
 H1 z (Ep I h o h1).1 h.mem (F.trans (Ep I h o h1).2.symm)
def ix (I:aC t)(h:op<t.Z.length):(∀ x∈(jJ t op).pre,bH t.vars x)/\((jJ t op).pre.Pairwise fun x y=>x.var<y.var) :=
 ⟨yr (I.op op h).pre,Ķ (I.op op h).pre⟩
def SK (I:aC t)(h:jr t.vars p)(o:op<t.Z.length)(z:0<=a)(h1:a<bp t.vars p):ab t.vars (sA t p op a):=ķ (Ep I h z h1).1 (ix I o).1
def xn (I:aC t)(h:jr t.vars p)(o:op<t.Z.length):∀ v∈p,sg (sA t p op a) v=sg (qE t p a) v:=fun v hv =>
 SM (h.mem v hv).1 (ix I o).1 fun x _ hx e=>hx (e ▸ hv)
def AN {v:Int}(hv:v∈jN t p op):v∉p:=(Ak.1 hv).2.2.1
def S9 {x:bo}(hx:x∈(jJ t op).pre):x.var∉jN t p op:=fun h=>(Ak.1 h).2.2.2 x hx rfl
def č (I:aC t)(F:jr t.vars p)(K:0<=a)(h1:a<bp t.vars p)(L:¬xl p (qE t p a) (jJ t op).pre):qd t p a op=[]:=by
 refine(JP Pairwise.nil fun b=>⟨fun h=>by simp at h,?_⟩).symm;rintro⟨_,s,V,ha,o,_⟩
 exact absurd (fun x hx z=>by
  rw[<-AM I F K h1 V ha _ z]
  exact(wM.1 o x hx).2.2) L
def Ď (I:aC t)(z:jr t.vars p)(K:op<t.Z.length)(h0:0<=a)(h1:a<bp t.vars p)(R':xl p (qE t p a) (jJ t op).pre) :
  tb t p op a (bp t.vars (jN t p op)) b↔Ev t p a op b:=by
 obtain⟨T',_b⟩:=Ep I z h0 h1;have j':=SK I z K h0 h1;have L:jr t.vars (jN t p op):=Ej t.vars (jJ t op) p;have o:∀ e∈(jJ t op).aJ,gQ t.vars e:=(I.op op K).mem;constructor
 ·rintro⟨S,hS,J',_,rfl⟩
  have V:∀ v∈p,sg S v=sg (qE t p a) v:=fun v hv=>by
   rw[J' v (z.mem v hv).1 (fun h=>AN h hv),xn I z K v hv]
  refine⟨S,hS,(CP V).trans _b,?_,CP fun v hv=>(L0 hS.1 z.mem o v hv).symm⟩;refine wM.2 fun x hx=>?_;have F:=(ix I K).1 x hx;refine⟨F.1,by rw[hS.1];exact F.2.1,?_⟩;show sg S x.var=x.val;rw[J' x.var F.1 (S9 hx)];by_cases H':x.var∈p
  ·rw[xn I z K _ H'];exact R' x hx H'
  exact S8 T'.1 (ix I K).1 (ix I K).2 x hx H'
 rintro⟨s,hs,ha,V',rfl⟩;have _c:=AM I z h0 h1 hs ha;have hb:=oz hs L.mem;have hq:=Et (s:=sA t p op a) I.pos L j'.1 hb.1 hb.2;have H':=HW (s:=sA t p op a) I.pos L hb.1 hb.2 j'.1 fun v hv _d _=>j'.dC hv _d;have _e:=H1 H' hs L.mem hq.1;refine⟨im t.vars (jN t p op) (sA t p op a) (bU t.vars (jN t p op) s),H',hq.2.2,by rw[hq.1];exact hb.2,CP fun v hv=>?_⟩;rw[show sg (cd t s op) v=sg (fP p s (jJ t op).aJ) v from (L0 hs.1 z.mem o v hv).symm];have V:∀ v∈p,sg (im t.vars (jN t p op) (sA t p op a) (bU t.vars (jN t p op) s)) v=sg s v:=fun v hv=>by
  rw[show sg (im t.vars (jN t p op) (sA t p op a) (bU t.vars (jN t p op) s)) v=_ from hq.2.2 v (z.mem v hv).1 (fun h=>AN (op:=op) h hv),xn I z K v hv,_c v hv]
 refine S7 H'.1 hs.1 z.mem V o (fun e he _f f hf=>?_) v hv;have J':=yr (o e he).1 f hf;by_cases P':f.var∈p
 ·exact V _ P'
 by_cases _a:∃ x∈(jJ t op).pre,x.var=f.var
 ·obtain⟨x,hx,F⟩:=_a
  rw[show sg (im t.vars (jN t p op) (sA t p op a) (bU t.vars (jN t p op) s)) f.var=_ from hq.2.2 f.var J'.1 (by rw[<-F];exact S9 hx)];rw[<-F,show sg (sA t p op a) x.var=x.val from S8 T'.1 (ix I K).1 (ix I K).2 x hx (by rw[F];exact P')];exact(wM.1 V' x hx).2.2.symm
 refine _e f.var (Ak.2 ⟨⟨J'.1,J'.2.1⟩,⟨e,he,_f,f,hf,rfl⟩,P',fun x hx F=>_a ⟨x,hx,F⟩⟩)
def ď (I:aC t)(hp:jr t.vars p)(ho:op<t.Z.length){k:Int}{S:J}(hS:ab t.vars S)(V:∀ v,0<=v->v∉jN t p op->sg S v=sg (sA t p op a) v)(hk:bU t.vars (jN t p op) S=k) :
  tb t p op a (k+1) b↔tb t p op a k b\/b=bU t.vars p (fP p S (jJ t op).aJ):=by
 have j':jr t.vars (jN t p op):=Ej t.vars (jJ t op) p;have F:∀ e∈(jJ t op).aJ,gQ t.vars e:=(I.op op ho).mem;constructor
 ·rintro⟨L,z,o,H',hb⟩
  by_cases h:bU t.vars (jN t p op) L<k
  ·exact .inl ⟨L,z,o,h,hb⟩
  right;have J':=H1 z hS j'.mem (show bU t.vars (jN t p op) L=bU t.vars (jN t p op) S by omega);have K:∀ v,0<=v->sg L v=sg S v:=fun v hv=>by
   by_cases hm:v∈jN t p op
   ·exact J' v hm
   rw[o v hv hm,V v hv hm]
  rw[<-hb];exact CP (S7 z.1 hS.1 hp.mem (fun v hv=>K v (hp.mem v hv).1) F fun e he _ f hf=>K _ (yr (F e he).1 f hf).1)
 rintro (⟨L,z,o,H',hb⟩|rfl)
 ·exact⟨L,z,o,U,hb⟩
 exact⟨S,hS,V,U,rfl⟩
def Đ (I:aC t)(z:jr t.vars p)(K:op<t.Z.length){k:Int}(h:tb t p op a k b):0<=b/\b<bp t.vars p:=by
 obtain⟨S,F,_,_,rfl⟩:=h;have o:∀ e∈(jJ t op).aJ,gQ t.vars e:=(I.op op K).mem;rw[CP (L0 F.1 z.mem o)];exact oz (SY F o) z.mem
end
def mZ (a:Int)(op:Nat)(l:J):List cS:=l.map fun b=>⟨a,op,b⟩
noncomputable def kh (t:aa)(p:J)(a:Int)(j:Nat):List cS:=(List.range j).flatMap fun op=>mZ a op (qd t p a op)
noncomputable def jl (t:aa)(p:J)(k:Nat):List cS:=(List.range k).flatMap fun (a:Nat)=>kh t p (a:Int) t.Z.length
noncomputable def bM (t:aa)(p:J):List cS:=jl t p (bp t.vars p).toNat
def SP (t:aa)(p:J)(a:Int):kh t p a 0=[]:=rfl
def HB (t:aa)(p:J)(a:Int)(j:Nat):kh t p a (j+1)=kh t p a j++mZ a j (qd t p a j):=by simp[kh,lz]
def ē (t:aa)(p:J):jl t p 0=[]:=rfl
def HC (t:aa)(p:J)(k:Nat):jl t p (k+1)=jl t p k++kh t p (k:Int) t.Z.length:=by simp[jl,lz]
def K4 (a:Int)(op:Nat)(l:J):(mZ a op l).length=l.length:=by simp[mZ]
def Ę {a:Int}{op:Nat}{l:J}{m:Nat}(hm:m<l.length):mZ a op (l.take (m+1))=mZ a op (l.take m)++[⟨a,op,l.getD m O.dflt⟩]:=by
 rw[eD O.dflt hm];simp[mZ]
def ĸ (t:aa)(p:J)(a:Int){i:Nat}(h:i<=j):(kh t p a i).length<=(kh t p a j).length:=by
 induction j with
 | zero =>
   have:i=0:=U
   subst this;exact cz _
 | succ j o =>
  by_cases e:i=j+1
  ·subst e;exact cz _
  have:=o U;rw[HB,length_append];omega
def Ĺ (t:aa)(p:J){i:Nat}(h:i<=j):(jl t p i).length<=(jl t p j).length:=by
 induction j with
 | zero =>
   have:i=0:=U
   subst this;exact cz _
 | succ j o =>
  by_cases e:i=j+1
  ·subst e;exact cz _
  have:=o U;rw[HC,length_append];omega
def ė {t:aa}{p:J}{k:Nat}(hk:(k:Int)<bp t.vars p)(o:j<t.Z.length):(jl t p k).length+(kh t p (k:Int) j).length+(qd t p (k:Int) j).length<=(bM t p).length:=by
 have h1:=Ĺ t p (show k+1<=(bp t.vars p).toNat by omega);have h:=ĸ t p (k:Int) (show j+1<=t.Z.length by omega);rw[HC,length_append]at h1;rw[HB,length_append,K4]at h;unfold bM;omega
def FN {t:aa}{p:J}{e:cS}:e∈bM t p↔∃ (a:Int) (op:Nat) (b:Int),(0<=a/\a<bp t.vars p)/\op<t.Z.length/\(0<=b/\b<bp t.vars p)/\Ev t p a op b/\e=⟨a,op,b⟩:=by
 simp only[bM,jl,kh,mZ,tm,mem_range,iQ];constructor
 ·rintro⟨a,h,op,o,b,z,rfl⟩
  have:=Ak.1 z;exact⟨a,op,b,U,o,this.1,this.2,rfl⟩
 rintro⟨a,op,b,h,o,z,F,rfl⟩;refine⟨a.toNat,U,op,o,b,?_,?_⟩
 ·rw[fZ h.1];exact Ak.2 ⟨z,F⟩
 rw[fZ h.1]
open Classical in
noncomputable def mD (t:aa)(p:J)(a:Int):Bool:=decide (uW t p a)
noncomputable def ep (t:aa)(p:J)(k:Nat):List Bool:=(List.range k).map fun (a:Nat)=>mD t p (a:Int)
def ĕ (t:aa)(p:J)(k:Nat):ep t p (k+1)=ep t p k++[mD t p (k:Int)]:=by simp[ep,lz]
def NU (t:aa)(p:J)(k:Nat):(ep t p k).length=k:=by simp[ep]
def RD {t:aa}{p:J}{k a:Nat}(h:a<k):(ep t p k).getD a false=mD t p (a:Int):=by simp[ep,List.getD,h]
def K1 {t:aa}{p:J}{a:Int}:mD t p a=true↔uW t p a:=by simp[mD]
def tc (p S:J)(f:List bo):Prop:=∀ x∈f,x.var∈p->sg S x.var=x.val
def Ĕ {t:aa}{p S:J}{a:Int}(I:aC t)(K:jr t.vars p)(z:ab t.vars S)(F:bU t.vars p S=a):tc p S t.aG↔uW t p a:=by
 constructor
 ·intro h
  refine⟨S,z,F,wM.2 fun x hx=>?_⟩;simp only[xm,rP,gR]at hx;have o:=yr I.aG x hx.1;exact⟨o.1,by rw[z.1];exact o.2.1,h x hx.1 hx.2⟩
 rintro⟨s,L,V,hh⟩ x hx o;rw[H1 z L K.mem (F.trans V.symm) _ o];exact(wM.1 hh x (by simp[xm,hx,o])).2.2
def am (t:aa):J:=t.Z.map (·.aO)
def tC {t:aa}{i:Nat}(h:i<t.Z.length):(am t).getD i O.dflt=(t.Z.getD i bf).aO:=by
 rw[al h];simp[am,List.getD,h]
def rL (t:aa)(p:J):Prop:=∃ op,op<t.Z.length/\4096<bp t.vars (jN t p op)
open Classical in
noncomputable def j8 (t:aa)(p:J):Int:=if 4096<bp t.vars p then 5 else if rL t p then 5 else if 65536<(bM t p).length then 5 else 0
structure bV where
 st:Int
 bL:Int
 aT:J
 aB:List cS
 aR:List Bool
noncomputable def dV (t:aa)(p:J):bV:=⟨bp t.vars p,bU t.vars p t.cE,am t,bM t p,ep t p (bp t.vars p).toNat⟩
def cA:bV:=⟨0,0,[],[],[]⟩
noncomputable def kw (t:aa)(p:J)(c:Int):bV:=if c=0 then dV t p else cA
def kD {α:Type}{l:List α}{i:Nat}{x d:α}:(l.set i x).getD j d=if i=j/\j<l.length then x else l.getD j d:=by
 simp only[List.getD,vq];split
 ·rename_i h;subst h
  split
  ·rename_i o;simp[o]
  rename_i o;simp[o,uE (wg.1 o)]
 rename_i h;simp[h]
def Hp {α:Type}{n i:Nat}{x d:α}(h:i<n):(replicate n x).getD i d=x:=by simp[List.getD,h]
def kX {α:Type}(f:α->α):Nat->α->α
 | 0,x=>x
 | n+1,x=>f (kX f n x)
section
variable {α:Type}{f:α->α}{d:α->Bool}
def Ta (m n:Nat)(x:α):kX f (m+n) x=kX f m (kX f n x):=by
 induction m with
 | zero=>rw[xU];rfl
 | succ m h=>rw[succ_add];exact qq f h
def Tb (o:∀ y,d y=true->f y=y){x:α}(h:d x=true)(n:Nat):kX f n x=x:=by
 induction n with
 | zero=>rfl
 | succ n z=>show f (kX f n x)=x;rw[z];exact o x h
open Classical in
noncomputable def oU (f:α->α)(d:α->Bool)(x:α):α:=if h:∃ n,d (kX f n x)=true then kX f (Classical.choose h) x else x
def oo (o:∀ y,d y=true->f y=y){n:Nat}{x:α}(h:d (kX f n x)=true):oU f d x=kX f n x:=by
 have hex:∃ n,d (kX f n x)=true:=⟨n,h⟩
 unfold oU;rw[dif_pos hex];have hm:=wh hex;generalize Classical.choose hex=m at hm ⊢;rcases Nat.le_total m n with eH|eH
 ·have e:n=(n-m)+m:=U
  rw[e,Ta,Tb o hm]
 have e:m=(m-n)+n:=U;rw[e,Ta,Tb o h]
end
section
variable {α:Type}{dflt:α}{g:α->Int}{n k:Nat}{l:List α}
def fV (g:α->Int)(n:Nat)(l:List α):List (List α):=(List.range n).map fun (x:Nat)=>l.filter fun a=>decide (g a=(x:Int))
def yK:(fV g n l).length=n:=by simp[fV]
def H2 {x:Nat}(h:x<n):(fV g n l).getD x []=l.filter fun a=>decide (g a=(x:Int)):=by simp[fV,List.getD,h]
def L1:fV g n []=replicate n []:=by
 apply iA (by simp[fV]);intro i h1 h;simp[fV]
def L3 (hk:k<l.length)(F:0<=g (l.getD k dflt))(h1:g (l.getD k dflt)<n) :
  fV g n (l.take (k+1))=(fV g n (l.take k)).set (g (l.getD k dflt)).toNat ((fV g n (l.take k)).getD (g (l.getD k dflt)).toNat []++[l.getD k dflt]):=by
 apply iA (by simp[fV]);intro i o K;have L:i<n:=by simpa [fV] using o
 have h:(fV g n (l.take k)).getD (g (l.getD k dflt)).toNat []=(l.take k).filter fun a=>decide (g a=(((g (l.getD k dflt)).toNat:Nat):Int)):=H2 U;rw[sb];simp only[fV,mL,qW];rw[eD dflt hk,A6,we,Gv];by_cases e:(g (l.getD k dflt)).toNat=i
 ·subst e
  have z:(((g (l.getD k dflt)).toNat:Nat):Int)=g (l.getD k dflt):=U;rw[aP rfl,aP (dY z.symm)];exact qq (·++[l.getD k dflt]) h.symm
 rw[aH (by rw[decide_eq_true_iff];omega),aH e,fI]
def Ad {x:Nat}{a:α}(h:x<n):a∈(fV g n l).getD x []↔a∈l/\g a=(x:Int):=by rw[H2 h];simp
end
instance Iz:Inhabited cS:=⟨⟨0,0,0⟩⟩
def gh (x y:Int):Int:=if x<y then -1 else if y<x then 1 else 0
def wn:J->Int
 | []=>0
 | x::r=>if x≠0 then x else wn r
def ji (a b:cS):Int:=wn [gh a.ba b.ba,gh a.cG b.cG,gh a.dst b.dst]
def oM (a b:Int × Int):Int:=wn [gh a.1 b.1,gh a.2 b.2]
def ir {α:Type}[Inhabited α](cf:α->α->Int)(l:List α):List α:=(Go.Sort.pdq (fun a b=>decide (cf a b<0)) l.toArray 0 l.length (Go.Lib.bitLen l.length) true true).toList
def lN {α:Type}[DecidableEq α]:List α->List α
 | []=>[]
 | x::r=>x::match r with|[]=>[]|y::_=>if x=y then (lN r).tail else lN r
def dP (S:bV):Prop:=1<=S.st/\S.st<=4096/\0<=S.bL/\S.bL<S.st/\(S.aR.length:Int)=S.st/\S.aT.length<=4096/\S.aB.length<=65536/\(∀ c∈S.aT,0<=c/\c<=1048576) /\
 (∀ e∈S.aB,(0<=e.ba/\e.ba<S.st)/\(0<=e.dst/\e.dst<S.st)/\0<=e.cG/\e.cG<S.aT.length)/\∀ i,0<i->i<S.aB.length->ji (S.aB.getD (i-1) aM.dflt) (S.aB.getD i aM.dflt)<0
open Classical in
noncomputable def iS (S:bV):Bool:=decide (dP S)
structure fW where
 ba:Int
 dst:Int
 wt:Int
def eX:Ty fW:=⟨3,fun a=>[E a.ba,E a.dst,E a.wt],fun _=>rfl,⟨0,0,0⟩⟩
instance IA:ku eX:=⟨fun x v hv=>by simp only[eX,dZ,fM,pL]at hv;rcases hv with rfl|rfl|rfl<;>rfl⟩
structure uN where
 out:J
 waits:List Bool
 q:J
def dM (i:Int)(s:uN)(a:fW):uN :=
 if s.out.getD i.toNat O.dflt+a.wt≥s.out.getD a.dst.toNat O.dflt then s
 else if s.waits.getD a.dst.toNat ah.dflt then ⟨s.out.set a.dst.toNat (s.out.getD i.toNat O.dflt+a.wt),s.waits,s.q⟩
 else ⟨s.out.set a.dst.toNat (s.out.getD i.toNat O.dflt+a.wt),s.waits.set a.dst.toNat true,s.q++[a.dst]⟩
def cu (arcs:List (List fW))(s:uN):uN:=match s.q with
 | []=>s
 | i::r=>(arcs.getD i.toNat []).foldl (dM i) ⟨s.out,s.waits.set i.toNat false,r⟩
def dX (s:uN):Bool:=s.q.isEmpty
def L4 (arcs:List (List fW)):∀ s,dX s=true->cu arcs s=s:=by
 rintro⟨o,w,q⟩ h
 cases q with
 | nil=>rfl
 | cons _ _=>exact absurd h (by simp[dX])
def sO (S:bV)(iq:Bool)(e:cS):fW:=if iq then ⟨e.dst,e.ba,S.aT.getD e.cG.toNat O.dflt⟩ else ⟨e.ba,e.dst,S.aT.getD e.cG.toNat O.dflt⟩
def jD (S:bV)(iq:Bool):List (List fW):=fV (·.ba) S.st.toNat (S.aB.map (sO S iq))
def fo (n:Nat)(fr:J):uN:=⟨fr.foldl (fun o i=>o.set i.toNat 0) (replicate n 1125899906842624),fr.foldl (fun o i=>o.set i.toNat true) (replicate n false),fr⟩
noncomputable def Cg (S:bV)(fr:J)(iq:Bool):J:=(oU (cu (jD S iq)) dX (fo S.st.toNat fr)).out
def gN (g:List Bool)(k:Nat):J:=(List.range k).filterMap fun i=>if g.getD i ah.dflt then some (i:Int) else none
def vI (g:List Bool):J:=gN g g.length
noncomputable def mT (S:bV):J:=Cg S (vI S.aR) true
def cM (S:bV):List (List cS):=fV (·.cG) S.aT.length S.aB
def mX (a b:bV):List Bool:=(List.range a.st.toNat).flatMap fun i=>(List.range b.st.toNat).map fun j=>a.aR.getD i ah.dflt && b.aR.getD j ah.dflt
def zf (a b:bV):Nat:=((List.range a.aT.length).map fun l=>((cM a).getD l []).length*((cM b).getD l []).length).foldl (·+·) 0
def sF (a b:bV):List cS:=(List.range a.aT.length).flatMap fun l=>((cM a).getD l []).flatMap fun e=>((cM b).getD l []).map fun f=>⟨e.ba*b.st+f.ba,l,e.dst*b.st+f.dst⟩
open Classical in
noncomputable def dA (a b:bV):Int:=if dP a/\dP b/\a.aT=b.aT then (if 4096<a.st*b.st then 5 else if 65536<zf a b then 5 else 0) else 2
noncomputable def jk (a b:bV):bV:=if dA a b=0 then ⟨a.st*b.st,a.bL*b.st+b.bL,a.aT,ir ji (sF a b),mX a b⟩ else cA
def jB (c:J)(n:Int)(k:Int):Prop:=(c.length:Int)=n/\(∀ x∈c,0<=x/\x<n)/\(∀ x∈c,x<k)/\∀ x:Int,0<=x->x<k->x∈c
def ĺ {c:J}{n k o:Int}(h:jB c n k)(L:jB c n o)(hk:0<=k)(an:0<=o):k=o:=by
 obtain⟨_,_,V,h4⟩:=h;obtain⟨_,_,z,F⟩:=L;by_cases e:k=o
 ·exact e
 rcases Int.lt_or_lt_of_ne e with K|K
 ·have:=V _ (F k hk K);omega
 have:=z _ (h4 o an K);omega
open Classical in
noncomputable def lm (c:J)(n:Int):Bool:=decide (∃ k,0<=k/\jB c n k)
open Classical in
noncomputable def lW (c:J)(n:Int):Int:=if h:∃ k,0<=k/\jB c n k then Classical.choose h else 0
def Yb {c:J}{n k:Int}(hk:0<=k)(h:jB c n k):lm c n=true/\lW c n=k:=by
 have hx:∃ k,0<=k/\jB c n k:=⟨k,hk,h⟩
 refine⟨by unfold lm;simp only[hx,decide_true],?_⟩;unfold lW;rw[dif_pos hx];have:=wh hx;exact ĺ this.2 h this.1 hk
noncomputable def fz (S:bV)(c:J):Int:=if iS S=true/\lm c S.st=true then 0 else 2
def sG (g:List Bool)(c:J)(k:Nat):List Bool:=(List.range k).map fun (x:Nat)=>(List.range g.length).any fun s=>decide (c.getD s O.dflt=(x:Int)) && g.getD s ah.dflt
def rq (c:J)(e:cS):cS:=⟨c.getD e.ba.toNat O.dflt,e.cG,c.getD e.dst.toNat O.dflt⟩
noncomputable def kE (S:bV)(c:J):bV:=if fz S c=0 then ⟨lW c S.st,c.getD S.bL.toNat O.dflt,S.aT,lN (ir ji (S.aB.map (rq c))),sG S.aR c (lW c S.st).toNat⟩ else cA
def cP (l:List ByteArray):List ByteArray:=l.foldl (fun u s=>if u.any (fun x=>decide (x=s)) then u else u++[s]) []
def fg (l:List ByteArray):J:=l.map fun s=>((cP l).findIdx (fun x=>decide (x=s)):Int)
def H3 (S:bV)(c:J)(s:Nat):List (Int × Int):=(S.aB.filter fun e=>decide (e.ba=(s:Int))).map fun e=>(e.cG,c.getD e.dst.toNat O.dflt)
def jh (n:Int):List UInt8:=Go.Lib.itoa n
def na (p:Int × Int):List UInt8:=32::jh p.1++58::jh p.2
def lp (S:bV)(c:J)(s:Nat):List UInt8:=jh (c.getD s O.dflt)++(lN (ir oM (H3 S c s))).flatMap na
def kg (S:bV)(c:J):List ByteArray:=(List.range S.st.toNat).map fun s=>⟨(lp S c s).toArray⟩
def kM (S:bV)(x:J × Nat × Bool):J × Nat × Bool:=if x.2.2 then x else (fg (kg S x.1),(cP (kg S x.1)).length,decide ((cP (kg S x.1)).length=x.2.1))
def ur (x:J × Nat × Bool):Bool:=x.2.2
def XY (S:bV):∀ x,ur x=true->kM S x=x:=fun x h=>by
 unfold kM ur at *
 rw[aP h]
def kC (b:Bool):ByteArray:=if b then ⟨#[116,114,117,101]⟩ else ⟨#[102,97,108,115,101]⟩
def sZ (S:bV):J × Nat × Bool:=(fg (S.aR.map kC),(cP (S.aR.map kC)).length,false)
noncomputable def uJ (S:bV):J:=(oU (kM S) ur (sZ S)).1
def Ab (g:List Bool)(k:Nat):Nat->Option Nat
 | 0=>none
 | i+1=>if g.getD i ah.dflt=g.getD k ah.dflt then some i else Ab g k i
def Aa (g:List Bool):Nat->Nat × Nat
 | 0=>(0,1)
 | k+1=>if k=0 then (0,1) else match Ab g k k with|some i=>(i,k)|none=>Aa g k
def tM (g:List Bool):Nat × Nat:=Aa g g.length
def pQ (i k:Nat)(c:Int):Int:=if c=k then i else if c>k then c-1 else c
def kN (most:Nat)(x:J × List Bool):J × List Bool:=if x.2.length<=most then x else (x.1.map (pQ (tM x.2).1 (tM x.2).2),x.2.eraseIdx (tM x.2).2)
def uq (most:Nat)(x:J × List Bool):Bool:=decide (x.2.length<=most)
def X8 (most:Nat):∀ x,uq most x=true->kN most x=x:=fun x h=>by
 unfold kN;rw[aP (vX h)]
def lj (l:J):Int:=l.tail.foldl max (l.headD 0)
def Ac (g:List Bool)(c:J)(k:Nat):List Bool:=(List.range k).map fun (x:Nat)=>(((List.range c.length).reverse.find? fun s=>decide (c.getD s O.dflt=(x:Int))).map fun s=>g.getD s ah.dflt).getD false
noncomputable def gD (S:bV)(most:Int):J:=(oU (kN (max 1 (min most 4096)).toNat) (uq (max 1 (min most 4096)).toNat) (uJ S,Ac S.aR (uJ S) (lj (uJ S)+1).toNat)).1
def cY (n:Nat):J:=(List.range n).map fun (i:Nat)=>(i:Int)
open Classical in
noncomputable def cI (S:bV)(most:Int):Int:=if S.st<=most then 0 else if dP S then fz S (gD S most) else 2
open Classical in
noncomputable def fU (S:bV)(most:Int):J:=if S.st<=most then cY S.st.toNat else if dP S then gD S most else []
open Classical in
noncomputable def dU (S:bV)(most:Int):bV:=if S.st<=most then S else if dP S then kE S (gD S most) else cA
abbrev ib (x v:Nat):Prop:=x.testBit v=true
structure Gr (n:Nat) (N:Nat->Nat):Prop where
 sym:∀ u v,ib (N u) v->ib (N v) u
 I4:∀ u,¬ib (N u) u
 bd:∀ u v,ib (N u) v->v<n
structure tT (n:Nat) (N:Nat->Nat) (C:Nat):Prop where
 bd:∀ v,ib C v->v<n
 tl:∀ u v,ib C u->ib C v->u≠v->ib (N u) v
 max:∀ u,u<n->¬ib C u->∃ v,ib C v/\¬ib (N u) v
structure kc (n:Nat) (N:Nat->Nat) (R P C:Nat):Prop where
 mx:tT n N C
 lo:∀ v,ib R v->ib C v
 hi:∀ v,ib C v->ib R v\/ib P v
structure BI (n:Nat) (N:Nat->Nat) (R P X':Nat):Prop where
 rb:∀ v,ib R v->v<n
 pb:∀ v,ib P v->v<n
 xb:∀ v,ib X' v->v<n
 tl:∀ u v,ib R u->ib R v->u≠v->ib (N u) v
 wx:∀ u,ib P u\/ib X' u->∀ r,ib R r->ib (N u) r
 all:∀ u,u<n->(∀ r,ib R r->ib (N u) r)->ib P u\/ib X' u
section
variable {n:Nat}{N:Nat->Nat}{R P X' C:Nat}
def BI.eO (h:BI n N R P X')(K:∀ v,¬ib P v)(L:∀ v,¬ib X' v):kc n N R P C↔C=R:=by
 constructor
 ·intro F
  apply Cy;intro i;by_cases o:ib C i
  ·rcases F.hi i o with h1|h1
   ·exact o.trans h1.symm
   exact absurd h1 (K i)
  have z:¬ib R i:=fun z=>o (F.lo i z);rw[qX.2 o,qX.2 z]
 rintro rfl;refine⟨⟨h.rb,h.tl,fun u hu hn=>?_⟩,fun _ hv=>hv,fun _ hv=>.inl hv⟩;refine nl fun F=>?_;have o:∀ r,ib C r->ib (N u) r:=fun r z=>nl fun V=>F ⟨r,z,V⟩;rcases h.all u hu o with h1|h1
 ·exact K u h1
 exact L u h1
def BI.MU (o:Gr n N)(h:BI n N R P X'){v:Nat}(hv:ib P v\/ib X' v):¬ib R v:=fun z=>o.I4 v (h.wx v hv v z)
def BI.child (hG:Gr n N)(h:BI n N R P X'){v X1:Nat}(hv:ib P v)(h1:∀ u,ib R1 u↔ib R u\/u=v)(h2:∀ u,ib P1 u↔ib P u/\ib (N v) u)(h3:∀ u,ib X1 u↔ib X' u/\ib (N v) u):BI n N R1 P1 X1 where
 rb u hu:=by
  rcases (h1 u).1 hu with F|rfl
  ·exact h.rb u F
  exact h.pb _ hv
 pb u hu:=h.pb u ((h2 u).1 hu).1
 xb u hu:=h.xb u ((h3 u).1 hu).1
 tl a b o z K:=by
  rcases (h1 a).1 o with o|rfl
  ·rcases (h1 b).1 z with z|rfl
   ·exact h.tl a b o z K
   exact hG.sym _ _ (h.wx _ (.inl hv) a o)
  rcases (h1 b).1 z with z|rfl
  ·exact h.wx _ (.inl hv) b z
  exact absurd rfl K
 wx u hu r L:=by
  have V:(ib P u\/ib X' u)/\ib (N v) u:=by
   rcases hu with hu|hu
   ·exact⟨.inl ((h2 u).1 hu).1,((h2 u).1 hu).2⟩
   exact⟨.inr ((h3 u).1 hu).1,((h3 u).1 hu).2⟩
  rcases (h1 r).1 L with L|rfl
  ·exact h.wx u V.1 r L
  exact hG.sym _ _ V.2
 all u hu o:=by
  have V:ib (N v) u:=hG.sym _ _ (o v ((h1 v).2 (.inr rfl)));rcases h.all u hu (fun r L=>o r ((h1 r).2 (.inl L))) with F|F
  ·exact .inl ((h2 u).2 ⟨F,V⟩)
  exact .inr ((h3 u).2 ⟨F,V⟩)
def BI.next (h:BI n N R P X'){v K:Nat}(hv:ib P v)(h2:∀ u,ib P1 u↔ib P u/\u≠v)(z:∀ u,ib K u↔ib X' u\/u=v):BI n N R P1 K where
 rb:=h.rb
 pb u hu:=h.pb u ((h2 u).1 hu).1
 xb u hu:=by
  rcases (z u).1 hu with o|rfl
  ·exact h.xb u o
  exact h.pb _ hv
 tl:=h.tl
 wx u hu r F:=by
  rcases hu with hu|hu
  ·exact h.wx u (.inl ((h2 u).1 hu).1) r F
  rcases (z u).1 hu with o|rfl
  ·exact h.wx u (.inr o) r F
  exact h.wx _ (.inl hv) r F
 all u hu L:=by
  rcases h.all u hu L with o|o
  ·by_cases e:u=v
   ·exact .inr ((z u).2 (.inr e))
   exact .inl ((h2 u).2 ⟨o,e⟩)
  exact .inr ((z u).2 (.inl o))
def BI.split (hG:Gr n N)(h:BI n N R P X'){v P2:Nat}(hv:ib P v)(h1:∀ u,ib R1 u↔ib R u\/u=v)(h2:∀ u,ib P1 u↔ib P u/\ib (N v) u)(L:∀ u,ib P2 u↔ib P u/\u≠v) :
  (kc n N R P C↔kc n N R1 P1 C\/kc n N R P2 C)/\(kc n N R1 P1 C->ib C v)/\(kc n N R P2 C->¬ib C v):=by
 have V:=h.MU hG (.inl hv);refine⟨⟨fun z=>?_,fun z=>?_⟩,fun z=>z.lo v ((h1 v).2 (.inr rfl)),fun z F=>?_⟩
 ·by_cases F:ib C v
  ·refine .inl ⟨z.mx,fun u hu=>?_,fun u hu=>?_⟩
   ·rcases (h1 u).1 hu with o|rfl
    ·exact z.lo u o
    exact F
   by_cases e:u=v
   ·exact .inl ((h1 u).2 (.inr e))
   rcases z.hi u hu with o|o
   ·exact .inl ((h1 u).2 (.inl o))
   exact .inr ((h2 u).2 ⟨o,z.mx.tl v u F hu (fun hh=>e hh.symm)⟩)
  refine .inr ⟨z.mx,z.lo,fun u hu=>?_⟩;rcases z.hi u hu with o|o
  ·exact .inl o
  exact .inr ((L u).2 ⟨o,fun e=>F (e ▸ hu)⟩)
 ·rcases z with z|z
  ·refine⟨z.mx,fun u hu=>z.lo u ((h1 u).2 (.inl hu)),fun u hu=>?_⟩
   rcases z.hi u hu with o|o
   ·rcases (h1 u).1 o with o|rfl
    ·exact .inl o
    exact .inr hv
   exact .inr ((h2 u).1 o).1
  refine⟨z.mx,z.lo,fun u hu=>?_⟩;rcases z.hi u hu with o|o
  ·exact .inl o
  exact .inr ((L u).1 o).1
 rcases z.hi v F with o|o
 ·exact V o
 exact((L v).1 o).2 rfl
def BI.pivot (hG:Gr n N)(h:BI n N R P X'){u:Nat}(hu:ib P u\/ib X' u)(hc:kc n N R P C):∃ q,ib C q/\ib P q/\¬ib (N u) q:=by
 refine nl fun L=>?_;have o:∀ c,ib C c->ib (N u) c:=fun c F=>by
  rcases hc.hi c F with z|z
  ·exact h.wx u hu c z
  exact nl fun K=>L ⟨c,F,z,K⟩
 by_cases K:ib C u
 ·exact hG.I4 u (o u K)
 have V:u<n:=by
  rcases hu with z|z
  ·exact h.pb u z
  exact h.xb u z
 obtain⟨v,hv,z⟩:=hc.mx.max u V K;exact z (o v hv)
end
def Be (x v:Nat):Prop:=ib x v/\∀ u,u<v->¬ib x u
def N9 {x:Nat}(h:x≠0):∃ v,Be x v:=by
 have:∃ v,ib x v:=by
  refine nl fun z=>h (Cy fun i=>?_);rw[zero_testBit];exact qX.2 fun o=>z ⟨i,o⟩
 obtain⟨v,hv⟩:=this
 induction v using Nat.strongRecOn with
 | _ v z =>
  by_cases o:∃ u,u<v/\ib x u
  ·obtain⟨u,h1,F⟩:=o
   exact z u h1 F
  exact⟨v,hv,fun u hu F=>o ⟨u,hu,F⟩⟩
def Ļ {x v:Nat}(h:Be x v):x=2 ^ (v+1)*(x / 2 ^ (v+1))+2 ^ v:=by
 apply Cy;intro i;rw[Pi _ (by rw[Nat.pow_succ];have:=Je v;omega)];split
 ·rename_i o
  rw[yz];by_cases e:v=i
  ·subst e;rw[dY rfl];exact h.1
  rw[eA e];exact qX.2 (h.2 i U)
 rename_i o;rw[testBit_div_two_pow];congr 1;omega
def Tc {x v:Nat}(h:Be x v)(i:Nat):(x-1).testBit i=if i<v then true else if i=v then false else x.testBit i:=by
 have F:=Je v;have e:x-1=2 ^ (v+1)*(x / 2 ^ (v+1))+(2 ^ v-1):=by
  have:=Ļ h;omega
 rw[e,Pi _ (by rw[Nat.pow_succ];omega)];split
 ·rename_i z
  rw[Og];by_cases o:i<v
  ·rw[aP o,dY o]
  rw[aH o,aP U,eA o]
 rename_i z;rw[aH U,aH U,testBit_div_two_pow];congr 1;omega
def Ob {x v:Nat}(h:Be x v)(i:Nat):ib (x &&& (x-1)) i↔ib x i/\i≠v:=by
 unfold ib;rw[GL,Tc h,Bool.and_eq_true];by_cases F:i<v
 ·have:=h.2 i F
  rw[aP F];exact⟨fun o=>absurd o.1 this,fun o=>absurd o.1 this⟩
 rw[aH F];by_cases z:i=v
 ·rw[aP z]
  exact⟨fun o=>(by cases o.2),fun o=>absurd z o.2⟩
 rw[aH z];exact⟨fun o=>⟨o.1,z⟩,fun o=>⟨o.1,o.1⟩⟩
def Oa {x:Nat}(h:x≠0):x &&& (x-1)<x:=by
 have:=and_le_right (n:=x) (m:=x-1);omega
def Wo {x v:Nat}(h:Be x v)(hx:x<2 ^ 64):x &&& (2 ^ 64-x)=2 ^ v:=by
 have F:x≠0:=fun e=>by have:=h.1;subst e;simp[ib]at this
 have hv:v<64:=J8 fun eH=>by
  have h1:=h.1;unfold ib at h1;rw[Cu (A4 hx (ym dc eH))]at h1;cases h1
 apply Cy;intro i;rw[GL,show 2 ^ 64-x=2 ^ 64-((x-1)+1) by omega,Pj U,Tc h,yz];by_cases o:i<v
 ·rw[aP o,qX.2 (h.2 i o),Bj,eA U]
 rw[aH o];by_cases z:i=v
 ·subst z
  rw[aP rfl,show x.testBit i=true from h.1,dY hv,dY rfl];rfl
 rw[aH z,show decide (v=i)=false from eA fun K=>z K.symm];cases x.testBit i<;>simp
def Wn {x v k:Nat}(h:Be x v)(hx:x<2 ^ k):v<k:=J8 fun eH=>by
 have h1:=h.1;unfold ib at h1;rw[Cu (A4 hx (ym dc eH))]at h1;cases h1
def dy (C:Nat)(k:Nat):J:=((List.range k).filter fun v=>C.testBit v).map fun (v:Nat)=>(v:Int)
def L5 (C k:Nat):dy C (k+1)=dy C k++if C.testBit k then [(k:Int)] else []:=by
 unfold dy;rw[lz,A6,pX];congr 1;simp only[we,Gv];split<;>rfl
def N5 (C:Nat):∀ k,(dy C k).length<=k
 | 0=>cz _
 | k+1=>by
  rw[L5,length_append];have:=N5 C k;split<;>simp<;>omega
def Ew {C k:Nat}{x:Int}:x∈dy C k↔∃ v:Nat,v<k/\ib C v/\x=v:=by
 simp only[dy,iQ,rP,mem_range];constructor
 ·rintro⟨v,⟨h1,h⟩,rfl⟩;exact⟨v,h1,h,rfl⟩
 rintro⟨v,h1,h,rfl⟩;exact⟨v,⟨h1,h⟩,rfl⟩
def Vh {C o n:Nat}(h:∀ v,ib C v->v<n)(F:∀ v,ib o v->v<n)(he:dy C n=dy o n):C=o:=by
 apply Cy;intro i;have key:ib C i↔ib o i:=by
  constructor
  ·intro z
   have:(i:Int)∈dy C n:=Ew.2 ⟨i,h i z,z,rfl⟩;rw[he]at this;obtain⟨v,_,hv,e⟩:=Ew.1 this;have:i=v:=U;rw[this];exact hv
  intro z;have:(i:Int)∈dy o n:=Ew.2 ⟨i,F i z,z,rfl⟩;rw[<-he]at this;obtain⟨v,_,hv,e⟩:=Ew.1 this;have:i=v:=U;rw[this];exact hv
 exact Kf.2 key
def ff:J->J->Int
 | [],[]=>0
 | [],_::_ => -1
 | _::_,[]=>1
 | x::xs,y::h=>if x<y then -1 else if y<x then 1 else ff xs h
def Oe:∀ xs,ff xs xs=0
 | []=>rfl
 | x::xs=>by simp[ff,Oe xs]
def ļ:∀ xs ys,ff xs ys = -1\/ff xs ys=0\/ff xs ys=1
 | [],[]=>.inr (.inl rfl)
 | [],_::_=>.inl rfl
 | _::_,[]=>.inr (.inr rfl)
 | x::xs,y::ys=>by
  simp only[ff];split
  ·exact .inl rfl
  split
  ·exact .inr (.inr rfl)
  exact ļ xs ys
def I8:∀ xs ys,ff ys xs =-ff xs ys
 | [],[]=>rfl
 | [],_::_=>rfl
 | _::_,[]=>rfl
 | x::xs,y::ys=>by
  simp only[ff];by_cases h1:x<y
  ·rw[aP h1,aH U,aP h1];rfl
  by_cases h:y<x
  ·rw[aP h,aH h1,aP h]
  rw[aH h1,aH h,aH h,aH h1];exact I8 xs ys
def I7:∀ {xs ys},ff xs ys=0->xs=ys
 | [],[],_=>rfl
 | [],_::_,h=>by simp[ff]at h
 | _::_,[],h=>by simp[ff]at h
 | x::xs,y::ys,h=>by
  simp only[ff]at h;split at h
  ·cases h
  split at h
  ·cases h
  rw[I7 h];congr 1;omega
def I6:∀ {xs ys zs},ff xs ys<0->ff ys zs<0->ff xs zs<0
 | [],[],_,h,_=>by simp[ff]at h
 | [],_::_,[],_,h=>by simp[ff]at h
 | [],_::_,_::_,_,_=>by simp[ff]
 | _::_,[],_,h,_=>by simp[ff]at h
 | _::_,_::_,[],_,h=>by simp[ff]at h
 | x::xs,y::ys,z::zs,h1,o=>by
  simp only[ff]at h1 o ⊢;by_cases a:x<y
  ·by_cases b:y<z
   ·rw[aP U];decide
   rw[aH b]at o;split at o
   ·cases o
   rw[aP U];decide
  rw[aH a]at h1;split at h1
  ·cases h1
  by_cases b:y<z
  ·rw[aP U];decide
  rw[aH b]at o;split at o
  ·cases o
  rw[aH U,aH U];exact I6 h1 o
def BC (L:List J):Prop:=L.Pairwise fun a b=>ff a b<0
section
variable {n:Nat}{N:Nat->Nat}{l:J}{v:Nat}{E_ E1 E2:List J}
def N6 {C k:Nat}(hv:ib C k):dy C (k+1)=dy C k++[(k:Int)]:=by rw[L5,aP hv]
def N7 {C k:Nat}(hv:¬ib C k):dy C (k+1)=dy C k:=by rw[L5,aH hv,fI]
end
structure kO where
 ba:Int
 dst:Int
 wt:Int
 deriving DecidableEq
def bA:Ty kO:=⟨3,fun a=>[E a.ba,E a.dst,E a.wt],fun _=>rfl,⟨0,0,0⟩⟩
def fj (n:Int)(a:kO):Prop:=0<=a.ba/\a.ba<n/\0<=a.dst/\a.dst<n /\ -1099511627776<=a.wt/\a.wt<=1099511627776
instance (n:Int) (a:kO):Decidable (fj n a):=by unfold fj;infer_instance
def cj (n:Int)(arcs:List kO):Int :=
 if n<0 then 1 else if 4096<n\/65536<(arcs.length:Int) then 5 else if ∀ a∈arcs,fj n a then 0 else 1
def U6 {n:Int}{arcs:List kO}(h:n<0):cj n arcs=1:=by simp[cj,h]
def U7 {n:Int}{arcs:List kO}(h:0<=n)(h1:4096<n\/65536<(arcs.length:Int)):cj n arcs=5:=by simp only[cj,aH (rY.2 h),h1,if_true]
def U8 {n:Int}{arcs:List kO}(h:0<=n)(h1:¬(4096<n\/65536<(arcs.length:Int))){k:Nat}(hk:k<arcs.length)(o:¬fj n (arcs.getD k bA.dflt)):cj n arcs=1:=by
 have:¬∀ a∈arcs,fj n a:=fun z=>o (z _ (cD _ hk));simp only[cj,aH (rY.2 h),h1,this,if_false]
def N3 {n:Int}{arcs:List kO}(h:0<=n)(h1:¬(4096<n\/65536<(arcs.length:Int)))(z:∀ i,i<arcs.length->fj n (arcs.getD i bA.dflt)):cj n arcs=0:=by
 have:∀ a∈arcs,fj n a:=fun a F=>by
  obtain⟨i,o,rfl⟩:=fF F;have:=z i o
  simpa [List.getD,o] using this
 simp only[cj,aH (rY.2 h),h1,if_false,aP this]
def Vj {n:Int}{arcs:List kO}(h:cj n arcs=0):0<=n/\n<=4096/\arcs.length<=65536/\∀ a∈arcs,fj n a:=by
 unfold cj at h;split at h
 ·cases h
 split at h
 ·cases h
 split at h
 ·rename_i h1 z o;exact⟨U,U,U,o⟩
 cases h
def mR (arcs:List kO)(u v:Nat):Prop:=u≠v/\∃ a∈arcs,(a.ba=u/\a.dst=v)\/(a.ba=v/\a.dst=u)
def mR.symm {arcs:List kO}{u v:Nat}(h:mR arcs u v):mR arcs v u:=⟨fun e=>h.1 e.symm,let ⟨a,o,z⟩:=h.2;⟨a,o,z.symm⟩⟩
def mg (L:List Nat)(u v:Nat):List Nat:=L.set u (L.getD u cT.dflt ||| 2 ^ v)
def Oi (L:List Nat)(u v:Nat):(mg L u v).length=L.length:=by simp[mg]
def Jd {L:List Nat}{u v x:Nat}(hu:u<L.length):ib ((mg L u v).getD x cT.dflt) y↔ib (L.getD x cT.dflt) y\/(x=u/\y=v):=by
 unfold mg;by_cases e:x=u
 ·subst e
  have o:(L.set x (L.getD x cT.dflt ||| 2 ^ v)).getD x cT.dflt=L.getD x cT.dflt ||| 2 ^ v:=by simp[List.getD,hu]
  rw[o];unfold ib;rw[testBit_or,yz,pO,gR];constructor
  ·rintro (h|h)
   ·exact .inl h
   exact .inr ⟨rfl,h.symm⟩
  rintro (h|h)
  ·exact .inl h
  exact .inr h.2.symm
 have o:(L.set u (L.getD u cT.dflt ||| 2 ^ v)).getD x cT.dflt=L.getD x cT.dflt:=by
  simp only[List.getD,vq,aH (fun h=>e h.symm:¬u=x)]
 rw[o];exact⟨.inl,fun h=>h.elim id fun z=>absurd z.1 e⟩
def o8 (L:List Nat)(a:kO):List Nat:=if a.ba=a.dst then L else mg (mg L a.ba.toNat a.dst.toNat) a.dst.toNat a.ba.toNat
def eU (n:Nat)(arcs:List kO)(k:Nat):List Nat:=(arcs.take k).foldl o8 (replicate n 0)
def Ľ (n:Nat)(arcs:List kO):eU n arcs 0=replicate n 0:=rfl
def FY {n:Nat}{arcs:List kO}{k:Nat}(h:k<arcs.length):eU n arcs (k+1)=o8 (eU n arcs k) (arcs.getD k bA.dflt):=by
 rw[eU,eD bA.dflt h,tf];rfl
def ľ (L:List Nat)(a:kO):(o8 L a).length=L.length:=by unfold o8;split<;>simp[mg]
def FX {n:Nat}{arcs:List kO}:∀ k,k<=arcs.length->(eU n arcs k).length=n
 | 0,_=>by simp[eU]
 | k+1,h=>by rw[FY U,ľ,FX k U]
def FZ {n:Nat}{arcs:List kO}(bI:∀ a∈arcs,fj n a){x y:Nat}:∀ k,k<=arcs.length->(ib ((eU n arcs k).getD x cT.dflt) y↔mR (arcs.take k) x y)
 | 0,_=>by
  constructor
  ·intro h
   have e:(eU n arcs 0).getD x cT.dflt=0:=by
    rw[Ľ];simp only[List.getD,zJ];split<;>rfl
   rw[e]at h;simp[ib]at h
  rintro⟨_,a,K,_⟩;simp at K
 | k+1,h=>by
  have L:=FZ bI (x:=x) (y:=y) k U;have V:=FX (n:=n) (arcs:=arcs) k U;have K:=bI _ (cD bA.dflt (show k<arcs.length by omega));unfold fj at K;have F:mR (arcs.take (k+1)) x y↔mR (arcs.take k) x y\/(x≠y/\(((arcs.getD k bA.dflt).ba=x/\(arcs.getD k bA.dflt).dst=y)\/((arcs.getD k bA.dflt).ba=y/\(arcs.getD k bA.dflt).dst=x))):=by
   rw[eD bA.dflt U];unfold mR;constructor
   ·rintro⟨o,a,hm,z⟩
    rcases gK.1 hm with hm|hm
    ·exact .inl ⟨o,a,hm,z⟩
    rw[dp.1 hm]at z;exact .inr ⟨o,z⟩
   rintro (⟨o,a,hm,z⟩|⟨o,z⟩)
   ·exact⟨o,a,yA _ hm,z⟩
   exact⟨o,_,Gh _ (dp.2 rfl),z⟩
  rw[FY U,F,<-L];unfold o8;split
  ·rename_i e
   refine⟨.inl,fun h=>h.elim id fun z=>?_⟩;omega
  rename_i e;rw[Jd (by rw[Oi];omega),Jd U];constructor
  ·rintro ((h|h)|h)
   ·exact .inl h
   ·exact .inr ⟨U,U⟩
   exact .inr ⟨U,U⟩
  rintro (h|⟨h1,o|o⟩)
  ·exact .inl (.inl h)
  ·exact .inl (.inr ⟨U,U⟩)
  exact .inr ⟨U,U⟩
def uP (n:Nat)(arcs:List kO):List Nat:=eU n arcs arcs.length
def rU (n:Nat)(arcs:List kO)(u:Nat):Nat:=(uP n arcs).getD u cT.dflt
def Dv {n:Nat}{arcs:List kO}(bI:∀ a∈arcs,fj n a){x:Nat}:ib (rU n arcs x) y↔mR arcs x y:=by
 have:=FZ bI (x:=x) (y:=y) arcs.length (cz _)
 rwa[lL]at this
def mR.lt {n:Nat}{arcs:List kO}(bI:∀ a∈arcs,fj n a){x:Nat}(h:mR arcs x y):x<n/\y<n:=by
 obtain⟨_,a,z,o⟩:=h;have:=bI a z;unfold fj at this;rcases o with o|o<;>constructor<;>omega
def Oj {n:Nat}{arcs:List kO}(bI:∀ a∈arcs,fj n a):Gr n (rU n arcs) :=
 ⟨fun _ _ h=>(Dv bI).2 ((Dv bI).1 h).symm,fun _ h=>((Dv bI).1 h).1 rfl,fun _ _ h=>(((Dv bI).1 h).lt bI).2⟩
def N4 {C n:Nat}(h:∀ v,ib C v->v<n):C<2 ^ n:=JR C fun i z=>qX.2 fun o=>by have:=h i o;omega
def Vk {n:Nat}{arcs:List kO}(bI:∀ a∈arcs,fj n a){k x:Nat}(hk:k<=arcs.length):(eU n arcs k).getD x cT.dflt<2 ^ n:=N4 fun v hv=>by
 have:=(FZ bI k hk).1 hv;exact(mR.lt (arcs:=arcs.take k) (fun a h=>bI a (pU h)) this).2
end
section
open Go.Sl Go Go.Sort
def L6 {a b:cS}:ji a b<0↔(a.ba<b.ba\/a.ba=b.ba/\(a.cG<b.cG\/a.cG=b.cG/\a.dst<b.dst)):=by
 simp only[ji,wn,gh,ne_eq]
 repeat' split
 all_goals omega
def L7 {a b:Int × Int}:oM a b<0↔(a.1<b.1\/a.1=b.1/\a.2<b.2):=by
 simp only[oM,wn,gh,ne_eq]
 repeat' split
 all_goals omega
def wT:SWO (ltOf ji) where
 irrefl x:=by simp only[ltOf,pM,L6];omega
 trans x y z h1 h:=by simp only[ltOf,gR,L6]at h1 h ⊢;omega
 ntrans x y z h1 h:=by simp only[ltOf,pM,L6]at h1 h ⊢;omega
def BK:SWO (ltOf oM) where
 irrefl x:=by simp only[ltOf,pM,L7];omega
 trans x y z h1 h:=by simp only[ltOf,gR,L7]at h1 h ⊢;omega
 ntrans x y z h1 h:=by simp only[ltOf,pM,L7]at h1 h ⊢;omega
section
variable {α:Type} [Inhabited α] {cf:α->α->Int}(hO:SWO (ltOf cf)) {l:List α}
include hO
def Td:(ir cf l).Perm l:=by
 have h:=pdq_sorts (ltOf cf) hO l.toArray 0 l.toArray.size (Lib.bitLen l.toArray.size) true true (br _) (cz _) (Or.inl rfl);obtain⟨⟨z,_,o⟩,_⟩:=h;have e:ir cf l=(pdq (ltOf cf) l.toArray 0 l.toArray.size (Lib.bitLen l.toArray.size) true true).toList:=rfl;rw[e];generalize pdq (ltOf cf) l.toArray 0 l.toArray.size (Lib.bitLen l.toArray.size) true true=d at z o ⊢;have F:d.extract 0 l.toArray.size=d:=by
  have:=FV (xs:=d)
  rwa[z]at this
 have K:l.toArray.extract 0 l.toArray.size=l.toArray:=FV;rw[F,K]at o
 simpa using o
def Hq:(ir cf l).length=l.length:=(Td hO).length_eq
def L8 {a:α}:a∈ir cf l↔a∈l:=(Td hO).mem_iff
def Ŀ:ir cf []=[]:=nY (Hq hO)
end
section
variable {α:Type} [DecidableEq α]
def L9 (x:α)(r:List α):∃ t,lN (x::r)=x::t:=⟨_,rfl⟩
def C3 (a b:α)(l:List α):lN (a::b::l)=a::(if a=b then (lN (b::l)).tail else lN (b::l)):=rfl
def Ma (x y:α):∀ l:List α,lN (l++[y]++[x])=lN (l++[y])++(if y=x then [] else [x])
 | []=>by simp only[kq,qA,lN];split<;>rfl
 | [a]=>by
  have o:=Ma x y [];simp only[kq,qA]at o ⊢;obtain⟨t,z⟩:=L9 y [];rw[C3 a y [x],C3 a y [],o,z];by_cases h:a=y
  ·simp only[aP h,qA,tail_cons]
  simp only[aH h,qA]
 | a::b::r=>by
  have o:=Ma x y (b::r);simp only[qA]at o ⊢;obtain⟨t,z⟩:=L9 b (r++[y]);rw[C3 a b (r++[y]++[x]),C3 a b (r++[y]),o,z];by_cases h:a=b
  ·simp only[aP h,qA,tail_cons]
  simp only[aH h,qA]
def Ho (d:α){l:List α}{k:Nat}(h:0<k)(hk:k<l.length):lN (l.take (k+1))=lN (l.take k)++(if l.getD (k-1) d=l.getD k d then [] else [l.getD k d]):=by
 obtain⟨j,rfl⟩:∃ j,k=j+1:=⟨k-1,U⟩
 rw[eD d hk,eD d (show j<l.length by omega)];exact Ma _ _ _
def Mb {a:α}:∀ {l:List α},a∈lN l↔a∈l
 | []=>xV
 | [x]=>by simp[lN]
 | x::y::r=>by
  have o:=Mb (a:=a) (l:=y::r);rw[C3];obtain⟨t,z⟩:=L9 y r;rw[z]at o ⊢;by_cases h:x=y
  ·subst h
   simp only[if_true,tail_cons];rw[o];simp
  simp only[aH h];rw[dZ,o,dZ (a:=a) (b:=x)]
def Te:∀ (l:List α),(lN l).length<=l.length
 | []=>cz _
 | [x]=>cz _
 | x::y::r=>by
  have h:=Te (y::r);rw[C3];split
  ·rw[length_cons,length_tail];simp only[length_cons]at *;omega
  simp only[length_cons]at *;omega
end
end
section
open Go.Sl
abbrev bD:Int:=1125899906842624
abbrev dg (D:J)(i:Int):Int:=D.getD i.toNat O.dflt
abbrev gG (c:J)(e:cS):Int:=c.getD e.cG.toNat O.dflt
inductive ki (E_:List cS) (c:J) (G:Int->Prop):Int->Int->Prop
 | aG {a:Int}:G a->ki E_ c G a 0
 | step {e:cS}{k:Int}:e∈E_->ki E_ c G e.dst k->ki E_ c G e.ba (gG c e+k)
structure nD (E_:List cS) (c:J) (n:Nat):Prop where
 ba:∀ e∈E_,0<=e.ba/\e.ba<n
 dst:∀ e∈E_,0<=e.dst/\e.dst<n
 cG:∀ e∈E_,0<=e.cG/\e.cG<c.length
 aO:∀ x∈c,0<=x/\x<=1099511627776
def nD.gG {E_:List cS}{c:J}{n:Nat}(h:nD E_ c n){e:cS}(he:e∈E_):0<=gG c e/\gG c e<=1099511627776 :=
 h.aO _ (cD O.dflt (by have:=h.cG e he;omega))
def nD.getD {E_:List cS}{c:J}{n k:Nat}(h:nD E_ c n)(hk:k<E_.length):(0<=(E_.getD k aM.dflt).ba/\(E_.getD k aM.dflt).ba<n)/\(0<=(E_.getD k aM.dflt).dst/\(E_.getD k aM.dflt).dst<n)/\(0<=(E_.getD k aM.dflt).cG/\(E_.getD k aM.dflt).cG<c.length)/\0<=Go.Proofs.YtmapkjoefdgjfaaGreatDoor.gG c (E_.getD k aM.dflt)/\Go.Proofs.YtmapkjoefdgjfaaGreatDoor.gG c (E_.getD k aM.dflt)<=1099511627776 :=
 have hm:=cD aM.dflt hk
 ⟨h.ba _ hm,h.dst _ hm,h.cG _ hm,h.gG hm⟩
structure ru (E_:List cS) (c:J) (G:Int->Prop) (n:Nat) (D:J):Prop where
 len:D.length=n
 dC:∀ i:Nat,i<n->0<=dg D i/\dg D i<=bD
 uL:∀ i:Nat,i<n->dg D i<bD->ki E_ c G i (dg D i)
 Mc:∀ i:Nat,i<n->G i->dg D i=0
def vN (c:J)(D:J)(e:cS):Prop:=dg D e.dst<bD->dg D e.ba<=dg D e.dst+gG c e
structure cH (E_:List cS) (c:J) (G:Int->Prop) (n:Nat) (D:J):Prop where
 len:D.length=n
 dC:∀ i:Nat,i<n->0<=dg D i/\dg D i<=bD
 uL:∀ i:Nat,i<n->dg D i<bD->ki E_ c G i (dg D i)
 low:∀ i:Nat,i<n->∀ k,ki E_ c G i k->dg D i<=k
def ki.B1 {E_:List cS}{c:J}{G:Int->Prop}{n:Nat}(h:nD E_ c n){a k:Int}(Y:ki E_ c G a k):0<=k:=by
 induction Y with
 | aG _=>omega
 | step he _ o=>have:=h.gG he;omega
def ru.bN {E_:List cS}{c:J}{G:Int->Prop}{n:Nat}{D:J}(z:nD E_ c n)(h:ru E_ c G n D)(K:∀ e∈E_,vN c D e):cH E_ c G n D:=by
 refine⟨h.len,h.dC,h.uL,?_⟩;have key:∀ {a k:Int},ki E_ c G a k->0<=a->a<n->dg D a<=k:=by
  intro a k Y
  induction Y with
  | @aG a I =>
   intro o h1;have:=h.Mc a.toNat U (by rw[fZ o];exact I);rw[fZ o]at this
   omega
  | @step e k he _ L =>
   intro o h1;have F:=z.dst e he;have hc:=z.gG he;have h2:=L F.1 F.2;have V:=K e he;by_cases h4:dg D e.dst<bD
   ·have:=V h4;omega
   have:=(h.dC e.ba.toNat U).2;rw[fZ o]at this;omega
 intro i o k Y;exact key Y U U
def cH.aG {E_:List cS}{c:J}{G:Int->Prop}{n:Nat}{D:J}(h:cH E_ c G n D){i:Nat}(hi:i<n)(I:G i):dg D i=0:=by
 have:=h.low i hi 0 (.aG I);have:=h.dC i hi;omega
def cH.ER {E_:List cS}{c:J}{G:Int->Prop}{n:Nat}{D:J}(o:nD E_ c n)(h:cH E_ c G n D){e:cS}(he:e∈E_):vN c D e:=by
 intro K;have z:=o.dst e he;have F:=o.ba e he;have h1:=h.uL e.dst.toNat U (by rw[fZ z.1];exact K);rw[fZ z.1]at h1;have L:=h.low e.ba.toNat U _ (by rw[fZ F.1];exact .step he h1);rw[fZ F.1]at L;omega
def fT (D:J):Nat:=(D.map Int.toNat).sum
def Lm {v:Int}:∀ {D:J}{i:Nat},i<D.length->v.toNat<(D.getD i O.dflt).toNat->fT (D.set i v)<fT D
 | [],i,h,_=>by simp at h
 | x::D,0,_,h=>by simp[fT]at h ⊢;omega
 | x::D,i+1,h,o=>by
  have:=Lm (i:=i) (D:=D) (by simpa using h) (by simpa using o);simp only[fT,mM,l8,yG]at this ⊢;omega
def B6 {D:J}{a v:Int}(h:0<=a)(o:0<=b)(z:b<D.length):dg (D.set b.toNat v) a=if a=b then v else dg D a:=by
 simp only[dg,iB,vq];by_cases e:a=b
 ·subst e;rw[aP rfl,aP rfl,aP U];rfl
 rw[aH U,aH e]
def ru.o0 {E_:List cS}{c:J}{G:Int->Prop}{n:Nat}{D:J}(L:nD E_ c n)(h:ru E_ c G n D){e:cS}(he:e∈E_)(h1:dg D e.dst<bD)(h2:dg D e.dst+gG c e<dg D e.ba) :
  ru E_ c G n (D.set e.ba.toNat (dg D e.dst+gG c e))/\fT (D.set e.ba.toNat (dg D e.dst+gG c e))<fT D:=by
 have V:=L.dst e he;have hs:=L.ba e he;have hc:=L.gG he;have hl:=h.len;have r1:=h.dC e.dst.toNat U;have r2:=h.dC e.ba.toNat U;rw[fZ V.1]at r1;rw[fZ hs.1]at r2;have F:=h.uL e.dst.toNat U (by rw[fZ V.1];exact h1);rw[fZ V.1]at F;have I:∀ i:Nat,dg (D.set e.ba.toNat (dg D e.dst+gG c e)) i=if (i:Int)=e.ba then dg D e.dst+gG c e else dg D i:=fun i=>B6 U hs.1 U
 refine⟨⟨by simp[hl],fun i z=>?_,fun i z o=>?_,fun i z hgo=>?_⟩,Lm U (by simp only[dg]at *;omega)⟩
 ·rw[I];split
  ·omega
  exact h.dC i z
 ·rw[I]at o ⊢
  split
  ·rename_i K;rw[K,DD];exact .step he F
  rename_i K;rw[aH K]at o;exact h.uL i z o
 rw[I];split
 ·rename_i K
  have:=h.Mc i z hgo;rw[K]at this;omega
 exact h.Mc i z hgo
noncomputable def zi (p:Prop):Int:=@ite _ p (Classical.propDecidable _) 0 bD
def yY {p:Prop}(h:p):zi p=0:=aP h
def C4 {p:Prop}(h:¬p):zi p=bD:=aH h
def Md {p q:Prop}(h:p↔q):zi p=zi q:=by
 by_cases o:p
 ·rw[yY o,yY (h.1 o)]
 rw[C4 o,C4 (fun hq=>o (h.2 hq))]
noncomputable def pF (G:Int->Prop)(n:Nat):J:=(List.range n).map fun (i:Nat)=>zi (G (i:Int))
def C5 {G:Int->Prop}{n i:Nat}(hi:i<n):dg (pF G n) i=zi (G (i:Int)):=by simp[dg,pF,List.getD,hi]
def RB (E_:List cS)(c:J)(G:Int->Prop)(n:Nat):ru E_ c G n (pF G n):=by
 refine⟨by simp[pF],fun i o=>?_,fun i o h=>?_,fun i o h=>?_⟩
 ·rw[C5 o]
  by_cases g:G (i:Int)
  ·rw[yY g];exact⟨dc,dc⟩
  rw[C4 g];exact⟨dc,dc⟩
 ·rw[C5 o]at h ⊢
  by_cases g:G (i:Int)
  ·rw[yY g];exact .aG g
  rw[C4 g]at h;omega
 rw[C5 o,yY h]
noncomputable def dh (G:Int->Prop)(n k:Nat):J:=(List.range n).map fun (i:Nat)=>zi (i<k->G (i:Int))
def NJ (G:Int->Prop)(n k:Nat):(dh G n k).length=n:=by simp[dh]
def NI (G:Int->Prop)(n:Nat):dh G n 0=replicate n 0:=by
 apply iA (by simp[dh]);intro i h1 o;simp only[dh,mL,qW,getElem_replicate];exact yY fun h=>absurd h (dx _)
def NM (G:Int->Prop)(n:Nat):dh G n n=pF G n:=by
 unfold dh pF;refine xK fun i o=>Md ⟨fun h=>h (mem_range.1 o),fun h _=>h⟩
def NL {G:Int->Prop}{n k:Nat}(h:¬G (k:Int)):(dh G n k).set k bD=dh G n (k+1):=by
 apply iA (by simp[dh]);intro i h1 F;rw[sb];simp only[dh,mL,qW];split
 ·rename_i e;subst e;rw[C4];intro o;exact h (o (DR _))
 rename_i e;exact Md ⟨fun o z=>o U,fun o z=>o U⟩
def ŀ {G:Int->Prop}{n k:Nat}(h:G (k:Int)):dh G n k=dh G n (k+1):=by
 unfold dh;refine xK fun i z=>Md ⟨fun o z=>?_,fun o z=>o U⟩;by_cases e:i=k
 ·subst e;exact h
 exact o U
def NK {G:Int->Prop}{n k:Nat}{v:Int}(h:G (k:Int)):((dh G n k).set k v).set k 0=dh G n (k+1):=by
 rw[set_set,<-ŀ h];apply iA sm;intro i h1 o;rw[sb];split
 ·rename_i e;subst e
  simp only[dh,mL,qW];exact(yY fun h=>absurd h (Nat.lt_irrefl _)).symm
 rfl
inductive IR|P_|B2|zu
 deriving DecidableEq
structure Me where
 exp:Nat
 next:Int
 R_:J->Option Int
 path:J
structure MV where
 t:aa
 H:J->Int
 lim:Nat
 pA:Int
def qu (t:aa)(op:Nat):Int:=(t.Z.getD op bf).aO
section
variable {I':MV}{rec:J->Int->Me->IR × Me}{s:J}{g:Int}{op:Nat}{l:List Nat}{S:Me}
end
inductive lu (t:aa):J->J->Int->Prop
 | aG {s:J}:bZ s t.aG->lu t s [] 0
 | step {s:J}{op:Nat}{p:J}{c:Int}:op<t.Z.length->iT t s op->lu t (cd t s op) p c->lu t s ((op:Int)::p) (qu t op+c)
def B4 {t:aa}(I:aC t){op:Nat}(h:op<t.Z.length):0<=qu t op/\qu t op<=1048576:=⟨(I.op op h).kI,(I.op op h).nz⟩
def lu.nn {t:aa}(I:aC t){s p:J}{c:Int}(h:lu t s p c):0<=c:=by
 induction h with
 | aG _=>exact du _
 | step o _ _ z=>have:=B4 I o;omega
end
section
open Go.Sl Go

end
section
open Go.Sl
def eC (n:Nat)(f:Nat->Int)(k:Nat):J:=(List.range n).map fun i=>if i<k then f i else 0
def Du (n:Nat)(f:Nat->Int)(k:Nat):(eC n f k).length=n:=by simp[eC]
def JA (n:Nat)(f:Nat->Int):eC n f 0=replicate n 0:=by
 apply iA (by simp[eC]);intro i h1 h;simp[eC]
def JB {n:Nat}{f:Nat->Int}{k:Nat}:(eC n f k).set k (f k)=eC n f (k+1):=by
 apply iA (by simp[eC]);intro i h1 o;rw[sb];simp only[eC,mL,qW];split
 ·rename_i e;subst e;rw[aP U]
 by_cases h:i<k
 ·rw[aP h,aP U]
 rw[aH h,aH U]
def ON {n:Nat}{f:Nat->Int}{k i:Nat}(h:i<n)(hk:i<k):(eC n f k).getD i O.dflt=f i:=by simp[eC,List.getD,h,hk]
def u0 (l:List UInt8):Nat:=l.foldl (fun v c=>v*10+(c.toNat-48)) 0
def Mf {d:Nat}(h:d<10):(UInt8.ofNat (48+d)).toNat=48+d:=by rw[UInt8.toNat_ofNat'];omega
def Ł (u:Nat):u0 (Go.Lib.decDigits u)=u/\Go.Lib.decDigits u≠[]/\∀ c∈Go.Lib.decDigits u,48<=c.toNat:=by
 induction u using Nat.strongRecOn with
 | _ u F =>
  rw[Go.Lib.decDigits];by_cases h:u<10
  ·rw[dif_pos h]
   refine⟨?_,sm,fun c o=>?_⟩
   ·unfold u0;rw[sr,Gz,Mf h];omega
   rw[dp.1 o,Mf h];omega
  rw[dif_neg h];obtain⟨h1,L,K⟩:=F (u / 10) U;have z:=Mf (Cm u (show 10>0 by decide));refine⟨?_,sm,fun c o=>?_⟩
  ·unfold u0 at h1 ⊢
   rw[tf,h1,sr,Gz,z];omega
  rcases gK.1 o with o|o
  ·exact K c o
  rw[dp.1 o,z];omega
def H4 {n:Int}(h:0<=n):(u0 (jh n):Int)=n/\jh n≠[]/\∀ c∈jh n,48<=c.toNat:=by
 obtain⟨u,rfl⟩:∃ u:Nat,n=u:=⟨n.toNat,U⟩
 unfold jh;rw[Go.Lib.itoa_nonneg];obtain⟨h1,o,z⟩:=Ł u;exact⟨by rw[h1],o,z⟩
def Tf {p:UInt8->Bool}:∀ {a b:List UInt8},(∀ c∈a,p c=true)->(∀ x r,b=x::r->p x=false)->(a++b).takeWhile p=a
 | [],[],_,_=>rfl
 | [],x::r,_,h=>by rw[kq,takeWhile_cons,h x r rfl];rfl
 | c::a,b,h,o=>by
  rw[qA,takeWhile_cons,h c gA,aP rfl,Tf (fun d z=>h d (iR _ z)) o]
def Tg {S:bV}{c:J}{s:Nat}(h:0<=c.getD s O.dflt):(lp S c s).takeWhile (fun x=>decide (x≠32))=jh (c.getD s O.dflt):=by
 unfold lp;refine Tf (fun x hx=>?_) (fun x r e=>?_)
 ·have:=(H4 h).2.2 x hx
  rw[gR];rintro rfl;exact absurd this dc
 cases o:lN (ir oM (H3 S c s)) with
 | nil=>rw[o]at e;simp at e
 | cons y t =>
  rw[o,kQ]at e;simp only[na,qA,List.cons.injEq]at e;rw[<-e.1];rfl
def ł {S:bV}{c:J}{s t:Nat}(h:0<=c.getD s O.dflt)(o:0<=c.getD t O.dflt)(e:lp S c s=lp S c t):c.getD s O.dflt=c.getD t O.dflt:=by
 have h1:=Tg (S:=S) h;rw[e,Tg o]at h1;have:=(H4 h).1;rw[<-h1,(H4 o).1]at this;exact this.symm
def xp {α:Type}[DecidableEq α]:∀ {l m:List α},l.Nodup->(∀ x∈l,x∈m)->l.length<=m.length
 | [],_,_,_=>br _
 | x::l,m,z,h=>by
  obtain⟨h1,F⟩:=vk.1 z;have hx:=h x gA;have K:=xp (m:=m.erase x) F fun y o=>(Gm (fun e=>h1 (by rw[<-e];exact o))).2 (h y (iR _ o));rw[DB hx]at K;have:=Gn hx;simp only[length_cons];omega
def Hy {u:List ByteArray}{s:ByteArray}:u.any (fun x=>decide (x=s))=true↔s∈u:=by
 rw[any_eq_true];constructor
 ·rintro⟨x,hx,e⟩;rw[<-vX e];exact hx
 intro h;exact⟨s,h,dY rfl⟩
def H8:∀ (l u:List ByteArray),u.Nodup->(l.foldl (fun u s=>if u.any (fun x=>decide (x=s)) then u else u++[s]) u).Nodup/\∀ x,x∈l.foldl (fun u s=>if u.any (fun x=>decide (x=s)) then u else u++[s]) u↔x∈u\/x∈l
 | [],u,h=>⟨h,fun x=>sm⟩
 | s::l,u,h=>by
  rw[sr];by_cases o:s∈u
  ·rw[aP (Hy.2 o)]
   obtain⟨h1,z⟩:=H8 l u h;refine⟨h1,fun x=>?_⟩;rw[z,dZ];constructor
   ·rintro (h|h)
    ·exact .inl h
    exact .inr (.inr h)
   rintro (h|rfl|h)
   ·exact .inl h
   ·exact .inl o
   exact .inr h
  rw[aH (fun h=>o (Hy.1 h))];obtain⟨h1,z⟩:=H8 l (u++[s]) (by rw[zM];exact⟨h,sm,fun x hx y F e=>o (by rw[dp.1 F]at e;rw[<-e];exact hx)⟩);refine⟨h1,fun x=>?_⟩;rw[z,gK,dp,dZ,or_assoc]
def Th (l:List ByteArray):(cP l).Nodup:=(H8 l [] zC).1
def H9 {l:List ByteArray}{x:ByteArray}:x∈cP l↔x∈l:=by
 have:=(H8 l [] zC).2 x
 simpa [cP] using this
def CH (l:List ByteArray):(fg l).length=l.length:=by simp[fg]
def Ti {l:List ByteArray}{i:Nat}(hi:i<l.length):(fg l).getD i O.dflt=((cP l).findIdx (fun x=>decide (x=l[i])):Int):=by simp[fg,List.getD,hi]
def Ea {l:List ByteArray}{i:Nat}(hi:i<l.length):0<=(fg l).getD i O.dflt/\(fg l).getD i O.dflt<(cP l).length:=by
 rw[Ti hi];have hm:l[i]∈cP l:=H9.2 (wq hi);have:=Pl (xs:=cP l) (p:=fun x=>decide (x=l[i])) ⟨_,hm,dY rfl⟩;omega
def Ń {l:List ByteArray}{v:Nat}(hv:v<(cP l).length):∃ i,i<l.length/\(fg l).getD i O.dflt=(v:Int):=by
 have hm:(cP l)[v]∈l:=H9.1 (wq hv);obtain⟨i,h,he⟩:=fF hm;refine⟨i,h,?_⟩;rw[Ti h,he];congr 1;rw[findIdx_eq hv];refine⟨dY rfl,fun j o=>?_⟩;rw[pM];intro e;exact absurd e (v7.1 (Th l) j v U hv o)
def Hn (l:List ByteArray):(cP l).length<=l.length:=xp (Th l) fun _ hx=>H9.1 hx
def XX (S:bV)(c:J):(kg S c).length=S.st.toNat:=by simp[kg]
def XV {S:bV}{l:List ByteArray}(hl:l.length=S.st.toNat):(cP l).length<=(cP (kg S (fg l))).length:=by
 have z:∀ v:Nat,v<(cP l).length->∃ i,i<l.length/\(fg l).getD i O.dflt=(v:Int):=fun v hv=>Ń hv
 let F:Nat->ByteArray:=fun v=>if h:v<(cP l).length then ⟨(lp S (fg l) (Classical.choose (z v h))).toArray⟩ else ⟨#[]⟩
 have L:∀ v (h:v<(cP l).length),∃ i,i<l.length/\(fg l).getD i O.dflt=(v:Int)/\F v=⟨(lp S (fg l) i).toArray⟩:=fun v h=>by
  have o:=wh (z v h);exact⟨_,o.1,o.2,by simp only[F,dif_pos h]⟩
 have eH:=xp (l:=(List.range (cP l).length).map F) (m:=cP (kg S (fg l))) ?_ ?_
 ·simpa using eH
 ·rw[nodup_iff_pairwise_ne,A5]
  refine Jb (fun {a b} ha hb H'=>?_) Dl;rw[mem_range]at ha hb;obtain⟨i,hi,K,o⟩:=L a ha;obtain⟨j,hj,V,j'⟩:=L b hb;rw[o,j'];intro e;have e2:lp S (fg l) i=lp S (fg l) j:=by
   injection e with e
   have:=qq Array.toList e
   simpa using this
  have:=ł (Ea hi).1 (Ea hj).1 e2;rw[K,V]at this;omega
 intro x hx;obtain⟨v,hv,rfl⟩:=iQ.1 hx;rw[mem_range]at hv;obtain⟨i,hi,K,o⟩:=L v hv;rw[H9,o];unfold kg;exact iQ.2 ⟨i,by rw[mem_range];omega,rfl⟩
def Mg:∀ {N:Nat}{l:J},l.Nodup->(∀ v∈l,0<=v/\v<(N:Int))->l.length<=N
 | 0,l,_,h=>by
  cases l with
  | nil=>exact cz _
  | cons x r=>have:=h x gA;omega
 | N+1,l,F,h=>by
  have V:=Mg (N:=N) (l:=l.filter fun v=>decide (v≠(N:Int))) (F.filter _) (fun v hv=>by
   simp only[rP,gR]at hv;have:=h v hv.1
   omega)
  have h1:(l.filter fun v=>decide (v≠(N:Int))).length+(l.filter fun v => !decide (v≠(N:Int))).length=l.length:=by
   rw[<-Pk,<-Pk];have:=length_eq_countP_add_countP (fun v=>decide (v≠(N:Int))) (l:=l);simp only[rX,gR]at this;rw[this];congr 1;apply countP_congr;intro a _;simp
  have h2:(l.filter fun v => !decide (v≠(N:Int))).length<=1:=by
   have z:=F.filter (fun v => !decide (v≠(N:Int)));have o:∀ v∈(l.filter fun v => !decide (v≠(N:Int))),v=(N:Int):=fun v hv=>by simp only[rP,xT,pM,ne_eq,tK]at hv;exact hv.2
   generalize (l.filter fun v => !decide (v≠(N:Int)))=m at z o ⊢
   match m,z,o with
   | [],_,_=>simp
   | [_],_,_=>simp
   | a::b::r,z,o =>
    have K:=o a sm;have L:=o b sm;subst K;rw[L]at z;simp at z
  omega
def Tj:∀ {l:J}{k:Nat}{v:Int},k<l.length->((l.set k v).map Int.toNat).sum+(l.getD k O.dflt).toNat=(l.map Int.toNat).sum+v.toNat
 | x::r,0,v,_=>by simp only[mJ,l8,yG,getD_cons_zero];omega
 | x::r,k+1,v,h=>by
  have:=Tj (l:=r) (k:=k) (v:=v) (by simpa using h);simp only[mM,l8,yG,getD_cons_succ];omega
structure kK (n:Nat) (a:fW):Prop where
 s0:0<=a.ba
 s1:a.ba<n
 d0:0<=a.dst
 d1:a.dst<n
 w0:0<=a.wt
 w1:a.wt<=1048576
structure gu (n:Nat) (s:uN):Prop where
 ol:s.out.length=n
 wl:s.waits.length=n
 ob:∀ i,i<n->0<=s.out.getD i O.dflt/\s.out.getD i O.dflt<=1125899906842624
 qb:∀ i∈s.q,0<=i/\i<n
 qn:s.q.Nodup
 qw:∀ i:Int,0<=i->i<n->(s.waits.getD i.toNat ah.dflt=true↔i∈s.q)
def gu.ql {n:Nat}{s:uN}(h:gu n s):s.q.length<=n:=Mg h.qn h.qb
def pT (s:uN):Nat:=2*(s.out.map Int.toNat).sum+s.q.length
def oV (s:uN)(a:fW):Prop:=s.out.getD a.dst.toNat O.dflt<=s.out.getD a.ba.toNat O.dflt+a.wt
section
variable {n:Nat}{s:uN}{i:Int}{a:fW}
def jE {x y:Int}(hx:0<=x)(o:0<=y)(h:x.toNat=y.toNat):x=y:=U
def gu.rel (h:gu n s)(hi:0<=i/\i<n)(ha:kK n a):gu n (dM i s a)/\pT (dM i s a)<=pT s/\(∀ j∈s.q,j∈(dM i s a).q)/\(∀ j,(dM i s a).out.getD j O.dflt<=s.out.getD j O.dflt) /\
  ((dM i s a).out=s.out/\s.out.getD a.dst.toNat O.dflt<=s.out.getD i.toNat O.dflt+a.wt\/i≠a.dst/\(dM i s a).out=s.out.set a.dst.toNat (s.out.getD i.toNat O.dflt+a.wt)/\s.out.getD i.toNat O.dflt+a.wt<s.out.getD a.dst.toNat O.dflt/\a.dst∈(dM i s a).q):=by
 obtain⟨_,_,d0,d1,w0,w1⟩:=ha;have V:=h.ob i.toNat U;have P':=h.ob a.dst.toNat U;unfold dM;split
 ·rename_i hc
  exact⟨h,cz _,fun _ h=>h,fun _=>du _,.inl ⟨rfl,hc⟩⟩
 rename_i hc;have F:i≠a.dst:=fun e=>by rw[e]at hc V;omega
 have K:∀ j,j<n->0<=(s.out.set a.dst.toNat (s.out.getD i.toNat O.dflt+a.wt)).getD j O.dflt/\(s.out.set a.dst.toNat (s.out.getD i.toNat O.dflt+a.wt)).getD j O.dflt<=1125899906842624:=fun j o=>by
  rw[kD];split
  ·omega
  exact h.ob j o
 have eH:∀ j,(s.out.set a.dst.toNat (s.out.getD i.toNat O.dflt+a.wt)).getD j O.dflt<=s.out.getD j O.dflt:=fun j=>by
  rw[kD];split
  ·rename_i o;rw[<-o.1];omega
  exact du _
 have J':=Tj (l:=s.out) (k:=a.dst.toNat) (v:=s.out.getD i.toNat O.dflt+a.wt) (by rw[h.ol];omega);have hm:((s.out.set a.dst.toNat (s.out.getD i.toNat O.dflt+a.wt)).map Int.toNat).sum+1<=(s.out.map Int.toNat).sum:=by
  have:(s.out.getD i.toNat O.dflt+a.wt).toNat<(s.out.getD a.dst.toNat O.dflt).toNat:=U;omega
 split
 ·rename_i z
  refine⟨⟨by rw[gS];exact h.ol,h.wl,K,h.qb,h.qn,h.qw⟩,by unfold pT;dsimp only;omega,fun _ h=>h,eH,.inr ⟨F,rfl,U,(h.qw _ d0 d1).1 z⟩⟩
 rename_i z;have j':a.dst∉s.q:=fun hq=>z ((h.qw _ d0 d1).2 hq);refine⟨⟨by rw[gS];exact h.ol,by rw[gS];exact h.wl,K,fun j o=>?_,?_,fun j L H'=>?_⟩,?_,fun _ h=>yA _ h,eH,.inr ⟨F,rfl,U,sm⟩⟩
 ·rcases gK.1 o with o|o
  ·exact h.qb j o
  rw[dp.1 o];exact⟨d0,d1⟩
 ·rw[zM]
  exact⟨h.qn,sm,fun x hx y hy e=>j' (by rw[dp.1 hy]at e;exact e ▸ hx)⟩
 ·simp only
  rw[kD,h.wl];by_cases e:a.dst=j
  ·subst e;rw[aP ⟨rfl,U⟩];simp
  rw[aH (fun hh=>e (jE d0 L hh.1)),h.qw j L H'];simp[Ne.symm e]
 unfold pT;simp only[length_append,length_cons,length_nil];omega
def gu.BL:∀ {L:List fW}{s:uN},gu n s->0<=i/\i<n->(∀ a∈L,kK n a)->gu n (L.foldl (dM i) s)/\pT (L.foldl (dM i) s)<=pT s/\∀ j,(L.foldl (dM i) s).out.getD j O.dflt<=s.out.getD j O.dflt
 | [],s,h,_,_=>⟨h,cz _,fun _=>du _⟩
 | a::L,s,h,o,z=>by
  obtain⟨h1,F,_,K,_⟩:=h.rel o (z a gA);obtain⟨g1,g2,g3⟩:=h1.BL o fun b V=>z b (iR _ V);exact⟨g1,oD g2 F,fun j=>rO (g3 j) (K j)⟩
def gu.pop {i:Int}{r:J}(h:gu n s)(hq:s.q=i::r):gu n ⟨s.out,s.waits.set i.toNat false,r⟩/\pT ⟨s.out,s.waits.set i.toNat false,r⟩+1=pT s/\0<=i/\i<n:=by
 have o:=h.qb i (by rw[hq];simp);have V:=h.qn;rw[hq]at V;obtain⟨F,K⟩:=vk.1 V;refine⟨⟨h.ol,by rw[gS];exact h.wl,h.ob,fun j hj=>h.qb j (by rw[hq];exact iR _ hj),K,fun j z L=>?_⟩,by unfold pT;rw[hq];simp;omega,o⟩;simp only;rw[kD,h.wl];by_cases e:i=j
 ·subst e;rw[aP ⟨rfl,U⟩];simp[F]
 rw[aH (fun hh=>e (jE o.1 z hh.1)),h.qw j z L,hq];simp[Ne.symm e]
variable {arcs:List (List fW)}
def gu.step (h:gu n s)(z:∀ l∈arcs,∀ a∈l,kK n a):gu n (cu arcs s)/\(dX s=false->pT (cu arcs s)<pT s)/\∀ j,(cu arcs s).out.getD j O.dflt<=s.out.getD j O.dflt:=by
 unfold cu;split
 ·rename_i hq
  exact⟨h,fun o=>by simp[dX,hq]at o,fun _=>du _⟩
 rename_i i r hq;obtain⟨h1,K,F⟩:=h.pop hq
 obtain⟨g1,g2,g3⟩:=h1.BL (L:=arcs.getD i.toNat []) F (fun a hm=>by
  by_cases o:i.toNat<arcs.length
  ·exact z _ (by rw[iB,kP o];exact wq o) a hm
  rw[iB,uE U]at hm;simp at hm)
 exact⟨g1,fun _=>U,g3⟩
def gu.zk (h:gu n s)(z:∀ l∈arcs,∀ a∈l,kK n a):∀ k,gu n (kX (cu arcs) k s)/\(dX (kX (cu arcs) k s)=false->pT (kX (cu arcs) k s)+k<=pT s)/\∀ j,(kX (cu arcs) k s).out.getD j O.dflt<=s.out.getD j O.dflt
 | 0=>⟨h,fun _=>cz _,fun _=>du _⟩
 | k+1=>by
  obtain⟨h1,K,L⟩:=gu.zk h z k;obtain⟨g1,g2,g3⟩:=h1.step z;refine⟨g1,fun F=>?_,fun j=>rO (g3 j) (L j)⟩;have o:dX (kX (cu arcs) k s)=false:=by
   cases he:dX (kX (cu arcs) k s) with
   | false=>rfl
   | true =>
    have:kX (cu arcs) (k+1) s=kX (cu arcs) k s:=L4 arcs _ he;rw[this,he]at F;cases F
  have V:=K o;have a2:=g2 o;show pT (cu arcs _)+(k+1)<=pT s;omega
def gu.ends (h:gu n s)(o:∀ l∈arcs,∀ a∈l,kK n a):dX (kX (cu arcs) (pT s+1) s)=true:=by
 obtain⟨_,z,_⟩:=h.zk o (pT s+1)
 cases he:dX (kX (cu arcs) (pT s+1) s) with
 | true=>rfl
 | false=>have:=z he;omega
def gu.fix (h:gu n s)(o:∀ l∈arcs,∀ a∈l,kK n a):oU (cu arcs) dX s=kX (cu arcs) (pT s+1) s:=oo (L4 arcs) (h.ends o)
end
section
variable {α:Type}{v d:α}
def Ex:∀ {fr:J}{l:List α},(fr.foldl (fun o i=>o.set i.toNat v) l).length=l.length
 | [],_=>rfl
 | i::fr,l=>by rw[sr,Ex,gS]
def Ia:∀ {fr:J}{l:List α}{j:Nat},j<l.length->(∃ i∈fr,i.toNat=j)->(fr.foldl (fun o i=>o.set i.toNat v) l).getD j d=v
 | [],_,_,_,h=>by obtain⟨_,h,_⟩:=h;simp at h
 | i::fr,l,j,F,h=>by
  rw[sr];by_cases z:∃ i∈fr,i.toNat=j
  ·exact Ia (by rw[gS];exact F) z
  obtain⟨L,hm,he⟩:=h;rcases dZ.1 hm with rfl|hm
  ·have key:∀ {fr:J}{l:List α},(¬∃ i∈fr,i.toNat=j)->(fr.foldl (fun o i=>o.set i.toNat v) l).getD j d=l.getD j d:=by
    intro fr
    induction fr with
    | nil=>intro l _;rfl
    | cons i fr V =>
     intro l K;rw[sr,V (fun⟨k,hk,e⟩=>K ⟨k,iR _ hk,e⟩),kD,aH (fun hh=>K ⟨i,gA,hh.1⟩)]
   rw[key z,kD,aP ⟨he,F⟩]
  exact absurd ⟨L,hm,he⟩ z
def Ib:∀ {fr:J}{l:List α}{j:Nat},(¬∃ i∈fr,i.toNat=j)->(fr.foldl (fun o i=>o.set i.toNat v) l).getD j d=l.getD j d
 | [],_,_,_=>rfl
 | i::fr,l,j,h=>by rw[sr,Ib (fun⟨k,hk,e⟩=>h ⟨k,iR _ hk,e⟩),kD,aH (fun z=>h ⟨i,gA,z.1⟩)]
end
section
variable {n:Nat}{fr:J}
def Tk (h1:fr.Nodup)(h2:∀ i∈fr,0<=i/\i<n):gu n (fo n fr) where
 ol:=by unfold fo;simp only;rw[Ex];simp
 wl:=by unfold fo;simp only;rw[Ex];simp
 ob i z:=by
  unfold fo;simp only;by_cases h:∃ k∈fr,k.toNat=i
  ·rw[Ia (by simpa using z) h];omega
  rw[Ib h,Hp z];omega
 qb:=h2
 qn:=h1
 qw i F h1:=by
  unfold fo;simp only;by_cases h:∃ k∈fr,k.toNat=i.toNat
  ·rw[Ia (by simp;omega) h]
   obtain⟨k,hk,e⟩:=h;have:=h2 k hk;rw[jE this.1 F e]at hk;simp[hk]
  rw[Ib h,Hp U];constructor
  ·intro o;cases o
  intro o;exact absurd ⟨i,o,rfl⟩ h
def ń {i:Int}(hi:i∈fr)(h:0<=i)(h1:i<n):(fo n fr).out.getD i.toNat O.dflt=0:=by
 unfold fo;exact Ia (by simp;omega) ⟨i,hi,rfl⟩
def Ņ {i:Nat}(hi:i<n)(h:¬∃ k∈fr,k.toNat=i):(fo n fr).out.getD i O.dflt=1125899906842624:=by
 unfold fo;simp only;rw[Ib h,Hp hi]
variable {s:uN}{i:Int}{A:fW->Prop}
def Tl (hA:∀ a,A a->kK n a):∀ {L:List fW}{s:uN},gu n s->0<=i/\i<n->(∀ a∈L,kK n a/\a.ba=i)->(∀ a,A a->a.ba∈s.q\/oV s a\/a∈L)->∀ a,A a->a.ba∈(L.foldl (dM i) s).q\/oV (L.foldl (dM i) s) a
 | [],s,_,_,_,h,a,V=>by
  rcases h a V with h|h|h
  ·exact .inl h
  ·exact .inr h
  simp at h
 | a0::L,s,hs,hi,hL,h,a,V=>by
  obtain⟨o,z⟩:=hL a0 gA;obtain⟨h1,_,hq,eH,hd⟩:=hs.rel hi o;refine Tl hA h1 hi (fun b K=>hL b (iR _ K)) (fun b K=>?_) a V;have j':=hA b K;rcases h b K with h|h|h
  ·exact .inl (hq _ h)
  ·rcases hd with ⟨e,_⟩|⟨_,e,H',hm⟩
   ·right;left;unfold oV at h ⊢;rw[e];exact h
   by_cases F:b.ba=a0.dst
   ·left;rw[F];exact hm
   right;left;unfold oV at h ⊢;have h2:=eH b.dst.toNat;have h3:(dM i s a0).out.getD b.ba.toNat O.dflt=s.out.getD b.ba.toNat O.dflt:=by
    rw[e,kD,aH (fun hh=>F (jE j'.s0 o.d0 hh.1.symm))]
   omega
  rcases dZ.1 h with rfl|h
  ·right;left
   unfold oV;rcases hd with ⟨e,hc⟩|⟨F,e,_,_⟩
   ·rw[e,z];exact hc
   have g1:=o.d1;have g0:=o.d0;rw[e,kD,kD,aP ⟨rfl,by rw[hs.ol];omega⟩,aH (fun hh=>F (by rw[<-z];exact jE o.s0 o.d0 hh.1.symm)),z];exact du _
  exact .inr (.inr h)
variable {arcs:List (List fW)}
structure rK (n:Nat) (arcs:List (List fW)):Prop where
 ok:∀ l∈arcs,∀ a∈l,kK n a
 ba:∀ i,i<arcs.length->∀ a∈arcs.getD i [],a.ba=(i:Int)
 len:arcs.length=n
def ni (arcs:List (List fW))(a:fW):Prop:=a∈arcs.getD a.ba.toNat []/\0<=a.ba/\a.ba<arcs.length
def Ic {α:Type}{l:List (List α)}{i:Nat}(h:i<l.length):l.getD i []∈l:=by rw[iB,kP h];exact wq h
def ņ (L:rK n arcs)(h:gu n s)(F:∀ a,ni arcs a->a.ba∈s.q\/oV s a):∀ a,ni arcs a->a.ba∈(cu arcs s).q\/oV (cu arcs s) a:=by
 unfold cu;split
 ·exact F
 rename_i i r hq;obtain⟨h1,_,V⟩:=h.pop hq;have K:i.toNat<arcs.length:=by rw[L.len];omega
 refine Tl (fun a o=>L.ok _ (Ic (by have:=o.2;omega)) a o.1) h1 V (fun a hm=>⟨L.ok _ (Ic K) a hm,by have:=L.ba _ K a hm;omega⟩) (fun a o=>?_);rcases F a o with z|z
 ·rw[hq]at z
  rcases dZ.1 z with e|z
  ·right;right;rw[<-e];exact o.1
  exact .inl z
 exact .inr (.inl z)
def Tm (z:rK n arcs)(h:gu n s)(o:∀ a,ni arcs a->a.ba∈s.q\/oV s a):∀ k,∀ a,ni arcs a->a.ba∈(kX (cu arcs) k s).q\/oV (kX (cu arcs) k s) a
 | 0=>o
 | k+1=>ņ z (h.zk z.ok k).1 (Tm z h o k)
def OG (o:rK n arcs)(h1:fr.Nodup)(h2:∀ i∈fr,0<=i/\i<n) :
  gu n (oU (cu arcs) dX (fo n fr))/\(∀ a,ni arcs a->oV (oU (cu arcs) dX (fo n fr)) a)/\∀ i∈fr,(oU (cu arcs) dX (fo n fr)).out.getD i.toNat O.dflt=0:=by
 have z:=Tk h1 h2;rw[z.fix o.ok];have K:=z.ends o.ok;obtain⟨g1,_,g3⟩:=z.zk o.ok (pT (fo n fr)+1);refine⟨g1,fun a h=>?_,fun i L=>?_⟩
 ·have:=Tm o z (fun b h=>by
   by_cases hm:b.ba∈fr
   ·exact .inl hm
   right;have F:=o.ok _ (Ic (by have:=h.2;omega)) b h.1;obtain⟨V,s1,d0,d1,w0,w1⟩:=F;unfold oV;rw[Ņ (i:=b.ba.toNat) U (fun⟨k,hk,e⟩=>hm (by rw[<-jE (h2 k hk).1 V e];exact hk))];have:=(z.ob b.dst.toNat U).2
   omega) (pT (fo n fr)+1) a h
  rcases this with hq|F
  ·unfold dX at K
   rw[isEmpty_iff.1 K]at hq;simp at hq
  exact F
 have F:=h2 i L;have V:=g3 i.toNat;rw[ń L F.1 F.2]at V;have a2:=(g1.ob i.toNat U).1;omega
end
def Tn {g:List Bool}{k:Nat}:∀ {m i:Nat},Ab g k m=some i->i<m
 | 0,_,h=>by cases h
 | m+1,i,h=>by
  unfold Ab at h;split at h
  ·cases h;exact DR _
  exact lt_succ_of_lt (Tn h)
def To {g:List Bool}:∀ {K:Nat},2<=g.length->K<=g.length->(Aa g K).1<(Aa g K).2/\(Aa g K).2<g.length
 | 0,h,_=>⟨DR _,h⟩
 | K+1,h,o=>by
  unfold Aa;split
  ·exact⟨DR _,h⟩
  split
  ·rename_i i z;exact⟨Tn z,o⟩
  exact To h U
def X6 {g:List Bool}(h2:2<=g.length):(tM g).1<(tM g).2/\(tM g).2<g.length:=To h2 (cz _)
def Mh:∀ {l:J}{a:Int},a<=l.foldl max a/\∀ x∈l,x<=l.foldl max a
 | [],a=>⟨du _,fun x hx=>by simp at hx⟩
 | y::l,a=>by
  obtain⟨h1,h⟩:=Mh (l:=l) (a:=max a y);rw[sr];refine⟨U,fun x hx=>?_⟩;rcases dZ.1 hx with rfl|hx
  ·omega
  exact h x hx
def Tp:∀ {l:J}{a:Int},l.foldl max a=a\/l.foldl max a∈l
 | [],_=>.inl rfl
 | y::l,a=>by
  rw[sr];rcases Tp (l:=l) (a:=max a y) with h|h
  ·by_cases e:a<=y
   ·right;rw[h,show max a y=y from by omega];exact gA
   left;rw[h];omega
  exact .inr (iR _ h)
def X3 {l:J}{x:Int}(hx:x∈l):x<=lj l:=by
 cases l with
 | nil=>simp at hx
 | cons y l =>
  unfold lj;rcases dZ.1 hx with rfl|hx
  ·exact(Mh (l:=l) (a:=x)).1
  exact(Mh (l:=l) (a:=y)).2 x hx
def Ky {l:J}(h:0<l.length):lj l∈l:=by
 cases l with
 | nil=>simp at h
 | cons y l =>
  unfold lj;rcases Tp (l:=l) (a:=y) with h|h
  ·show l.foldl max y∈y::l
   rw[h];exact gA
  exact iR _ h
def lV (g:List Bool)(c:J)(k m:Nat):List Bool:=(List.range k).map fun (x:Nat)=>(((List.range m).reverse.find? fun s=>decide (c.getD s O.dflt=(x:Int))).map fun s=>g.getD s ah.dflt).getD false
def CI {g:List Bool}{c:J}{k m:Nat}:(lV g c k m).length=k:=by simp[lV]
def X4 {g:List Bool}{c:J}{k:Nat}:lV g c k 0=replicate k false:=by
 apply iA (by simp[lV]);intro i h1 h;simp[lV]
def Tq {g:List Bool}{c:J}{k m i:Nat}(hi:i<k):(lV g c k m).getD i ah.dflt=(((List.range m).reverse.find? fun s=>decide (c.getD s O.dflt=(i:Int))).map fun s=>g.getD s ah.dflt).getD false:=by
 unfold lV;rw[iB,tq,GA hi];rfl
def X5 {g:List Bool}{c:J}{k m:Nat}(V:0<=c.getD m O.dflt)(h1:c.getD m O.dflt<k) :
  lV g c k (m+1)=(lV g c k m).set (c.getD m O.dflt).toNat (g.getD m ah.dflt):=by
 apply iA (by rw[gS,CI,CI]);intro i F K;have o:i<k:=by rwa[CI]at F
 have L:(lV g c k (m+1))[i]=(lV g c k (m+1)).getD i ah.dflt:=(al F).symm;have a2:=(al (d:=ah.dflt) K).symm;rw[L,a2,kD,CI,Tq o,lz,reverse_append,reverse_cons,reverse_nil,kq,singleton_append,find?_cons];by_cases e:(c.getD m O.dflt).toNat=i
 ·have z:c.getD m O.dflt=(i:Int):=U
  rw[aP ⟨e,o⟩,dY z];rfl
 have z:¬c.getD m O.dflt=(i:Int):=U;rw[aH (fun h=>e h.1),eA z,Tq o]
end
section
open Go.Sl Go
def S_ (w0:World)(Γ:List HP)(φ:World->Prop):Prop:=∀ (w:World) (h:List HP),M w0 w (h++Γ)->φ w
end
section
open Go.Sl
section
variable {t:aa}
end
structure AS where
 st:List J
 g:J
 wt:List Bool
section
variable {t:aa}{H:J->Int}{B:Option Int}{S:AS}
end
section
variable {t:aa}{H:J->Int}{lim f:Nat}{next:Int}{e:Nat}{bs:J}
structure Bs (t:aa) (H:J->Int):Prop where
 da:aC t
 nn:∀ y,0<=H y
 le:∀ y,H y<=bD
end
class nU {α:Type}(lt:α->α->Bool):Prop where
 asym:∀ a b,lt a b=true->lt b a=false
 trans:∀ a b c,lt b a=false->lt c b=false->lt c a=false
abbrev eH {α:Type}(lt:α->α->Bool)(a b:α):Prop:=lt b a=false
section
variable {α:Type}{d:α}{lt:α->α->Bool}
def AX [nU lt](a:α):eH lt a a:=by
 show lt a a=false
 cases h:lt a a with
 | false=>rfl
 | true=>exact absurd (nU.asym a a h) (by rw[h];decide)
def Ie [nU lt]{a b c:α}(h1:eH lt a b)(h2:eH lt b c):eH lt a c:=nU.trans a b c h1 h2
def FJ [nU lt]{a b:α}(h:lt a b=true):eH lt a b:=nU.asym a b h
abbrev I (d:α)(xs:List α)(i:Nat):α:=xs.getD i d
def cR (d:α)(lt:α->α->Bool)(xs:List α):Prop:=∀ i,0<i->i<xs.length->eH lt (I d xs ((i-1) / 2)) (I d xs i)
def sw (d:α)(xs:List α)(i j:Nat):List α:=(xs.set i (I d xs j)).set j (I d xs i)
def AY (xs:List α)(i j:Nat):(sw d xs i j).length=xs.length:=by simp[sw]
def Tr {xs:List α}{i k:Nat}{x:α}(hi:i<xs.length):I d (xs.set i x) k=if k=i then x else I d xs k:=by
 simp only[I,iB,vq];by_cases h:i=k
 ·subst h;simp[hi]
 rw[aH h,aH (Ne.symm h)]
def rR {xs:List α}{i k:Nat}(hi:i<xs.length)(h:j<xs.length):I d (sw d xs i j) k=if k=j then I d xs i else if k=i then I d xs j else I d xs k:=by
 unfold sw;rw[Tr (by simpa using h),Tr hi]
def xN {xs:List α}{i:Nat}(hi:i<xs.length)(h:j<xs.length):(sw d xs i j).Perm xs:=by
 have h1:I d xs i=xs[i]:=al hi;have o:I d xs j=xs[j]:=al h;unfold sw;rw[h1,o];exact set_set_perm hi h
structure xM (d:α) (lt:α->α->Bool) (xs:List α) (j:Nat):Prop where
 IM:j<xs.length
 rest:∀ i,0<i->i<xs.length->i≠j->eH lt (I d xs ((i-1) / 2)) (I d xs i)
 over:∀ i,0<i->i<xs.length->(i-1) / 2=j->0<j->eH lt (I d xs ((j-1) / 2)) (I d xs i)
def xM.done {xs:List α}(h:xM d lt xs j)(z:(j-1) / 2=j\/eH lt (I d xs ((j-1) / 2)) (I d xs j)):cR d lt xs:=by
 intro i F h1;by_cases o:i=j
 ·subst o
  rcases z with z|z
  ·omega
  exact z
 exact h.rest i F h1 o
def xM.step [nU lt]{xs:List α}{j:Nat}(h:xM d lt xs j)(hj:(j-1) / 2≠j)(hl:lt (I d xs j) (I d xs ((j-1) / 2))=true):xM d lt (sw d xs ((j-1) / 2) j) ((j-1) / 2):=by
 have z:=h.IM;have V:(j-1) / 2<xs.length:=U;have H':0<j:=U;have F:=FJ hl;refine⟨by rw[AY];exact V,fun i h0 h1 J'=>?_,fun i h0 h1 he j'=>?_⟩
 ·rw[AY]at h1
  rw[rR V z,rR V z];by_cases o:i=j
  ·subst o
   have e1:¬(i-1) / 2=i:=U;rw[aH e1,aP rfl,aP rfl];exact F
  rw[aH o,aH J'];by_cases K:(i-1) / 2=j
  ·rw[aP K]
   exact h.over i h0 h1 K H'
  rw[aH K];by_cases L:(i-1) / 2=(j-1) / 2
  ·rw[aP L]
   have:=h.rest i h0 h1 o;rw[L]at this;exact Ie F this
  rw[aH L];exact h.rest i h0 h1 o
 rw[AY]at h1;rw[rR V z,rR V z];have L:=h.rest ((j-1) / 2) j' V U;have e1:¬((j-1) / 2-1) / 2=j:=U;have e2:¬((j-1) / 2-1) / 2=(j-1) / 2:=U;rw[aH e1,aH e2];by_cases o:i=j
 ·rw[aP o];exact L
 rw[aH o];by_cases K:i=(j-1) / 2
 ·omega
 rw[aH K];have:=h.rest i h0 h1 o;rw[he]at this;exact Ie L this
def NC {xs:List α}{x:α}(h:cR d lt xs):xM d lt (xs++[x]) xs.length:=by
 have o:∀ k,k<xs.length->I d (xs++[x]) k=I d xs k:=fun k hk=>by simp[I,iB,js hk]
 refine⟨sm,fun i z h1 F=>?_,fun i z h1 he K=>?_⟩
 ·simp only[length_append,length_cons,length_nil]at h1
  rw[o _ U,o _ U];exact h i z U
 simp only[length_append,length_cons,length_nil]at h1;omega
structure vZ (d:α) (lt:α->α->Bool) (xs:List α) (n i:Nat):Prop where
 le:n<=xs.length
 rest:∀ c,0<c->c<n->(c-1) / 2≠i->eH lt (I d xs ((c-1) / 2)) (I d xs c)
 over:∀ c,0<c->c<n->(c-1) / 2=i->0<i->eH lt (I d xs ((i-1) / 2)) (I d xs c)
def sS (d:α)(lt:α->α->Bool)(xs:List α)(n:Nat):Prop:=∀ c,0<c->c<n->eH lt (I d xs ((c-1) / 2)) (I d xs c)
def vZ.leaf {xs:List α}{n i:Nat}(h:vZ d lt xs n i)(z:n<=2*i+1):sS d lt xs n:=fun c o h1=>h.rest c o h1 U
def vZ.done [nU lt]{xs:List α}{n i:Nat}(h:vZ d lt xs n i)(o:∀ c,0<c->c<n->(c-1) / 2=i->eH lt (I d xs j) (I d xs c))(z:eH lt (I d xs i) (I d xs j)):sS d lt xs n:=by
 intro c K h1;by_cases F:(c-1) / 2=i
 ·have:=o c K h1 F
  rw[F];exact Ie z this
 exact h.rest c K h1 F
def vZ.step [nU lt]{xs:List α}{n i j:Nat}(h:vZ d lt xs n i)(hj:j=2*i+1\/j=2*i+2)(j':j<n)(K:∀ c,0<c->c<n->(c-1) / 2=i->eH lt (I d xs j) (I d xs c))(H':lt (I d xs j) (I d xs i)=true):vZ d lt (sw d xs i j) n j:=by
 have L:=h.le;have hi:i<xs.length:=U;have o:j<xs.length:=U;refine⟨by rw[AY];exact L,fun c V h1 J'=>?_,fun c V h1 he hp=>?_⟩
 ·rw[rR hi o,rR hi o,aH J']
  by_cases z:(c-1) / 2=i
  ·rw[aP z]
   by_cases F:c=j
   ·rw[aP F];exact FJ H'
   rw[aH F,aH U];exact K c V h1 z
  rw[aH z];by_cases F:c=j
  ·omega
  rw[aH F];by_cases hc:c=i
  ·subst hc
   rw[aP rfl];exact h.over j U j' U V
  rw[aH hc];exact h.rest c V h1 z
 rw[rR hi o,rR hi o];have z:(j-1) / 2=i:=U;rw[z,aH (show ¬i=j by omega),aP rfl,aH (show ¬c=j by omega),aH (show ¬c=i by omega)];have:=h.rest c V h1 U;rw[he]at this;exact this
def ND {xs:List α}(h:cR d lt xs)(z:0<xs.length):vZ d lt (sw d xs 0 (xs.length-1)) (xs.length-1) 0:=by
 refine⟨by rw[AY];omega,fun c o h1 F=>?_,fun c _ _ _ o=>absurd o U⟩;rw[rR z U,rR z U,aH U,aH U,aH U,aH U];exact h c o U
def Ň [nU lt]{xs:List α}(h:cR d lt xs):∀ i,i<xs.length->eH lt (I d xs 0) (I d xs i):=by
 intro i
 induction i using Nat.strongRecOn with
 | _ i z =>
  intro F;rcases uC i with o|o
  ·subst o;exact AX _
  exact Ie (z ((i-1) / 2) U U) (h i o F)
def NF [nU lt]{xs:List α}(h:cR d lt xs){x:α}(hx:x∈xs):eH lt (I d xs 0) x:=by
 obtain⟨i,o,rfl⟩:=fF hx;have:=Ň h i o
 rwa[show I d xs i=xs[i] from al o]at this
def NE {xs ys:List α}(V:0<xs.length)(z:ys.Perm xs)(F:sS d lt ys (xs.length-1))(h:I d ys (xs.length-1)=I d xs 0) :
  cR d lt (ys.take (xs.length-1))/\xs.Perm (I d xs 0::ys.take (xs.length-1)):=by
 have K:=z.length_eq;refine⟨fun i L h1=>?_,?_⟩
 ·simp only[jf]at h1
  have o:∀ k,k<xs.length-1->I d (ys.take (xs.length-1)) k=I d ys k:=fun k hk=>by simp[I,hk]
  rw[o _ U,o _ U];exact F i L U
 have e:ys=ys.take (xs.length-1)++[I d xs 0]:=by
  have h1:ys.drop (xs.length-1)=[I d xs 0]:=by
   rw[wG U,qz U,<-h];rw[show I d ys (xs.length-1)=ys[xs.length-1] from al U]
  rw[<-h1,yC]
 refine z.symm.trans ?_;have:=IN (l₁:=ys.take (xs.length-1)) (l₂:=[I d xs 0]);rw[<-e]at this;exact this
def UP:cR d lt []:=fun _ _ h=>absurd h (dx _)
end
def NA (j:Nat):Int.tdiv ((j:Int)-1) 2=(((j-1) / 2:Nat):Int):=by
 rcases uC j with h|h
 ·subst h;rfl
 rw[Gx U];omega
structure EV where
 t:aa
 H:J->Int
 B:Option Int
inductive AR where
 | B2 (i:Nat)
 | none
 | zu
def St {α:Type}{l:List α}{i:Nat}{x d:α}(hi:i<l.length):(l.set i x).getD j d=if j=i then x else l.getD j d:=by
 simp only[List.getD,vq];by_cases h:i=j
 ·subst h;simp[hi]
 rw[aH h,aH (Ne.symm h)]


structure cB where
 bN:Int
 aQ:Int
 deriving DecidableEq
def aD:Ty cB:=⟨2,fun x=>[E x.bN,E x.aQ],fun _=>rfl,⟨0,0⟩⟩
instance FA:ku aD:=⟨fun x v hv=>by simp only[aD,dZ,fM,pL]at hv;rcases hv with rfl|rfl<;>rfl⟩
def gz (a b:cB):Bool:=decide (a.bN<b.bN)
instance FB:nU gz:=⟨fun a b h=>by simp only[gz,gR,pM]at *;omega,fun a b c h1 o=>by simp only[gz,pM]at *;omega⟩
def df (E_:List cS)(u:Int):List cS:=E_.filter fun e=>decide (e.dst=u)
def qF (E_:List cS)(S:J):Nat:=(E_.filter fun e=>decide (e.dst∉S)).length
def NN {S:J}{u:Int}(hu:u∉S):∀ E_:List cS,qF E_ S=qF E_ (u::S)+(df E_ u).length
 | []=>rfl
 | e::E_=>by
  have o:=NN hu E_;simp only[qF,df,we]at o ⊢;by_cases h1:e.dst=u
  ·rw[aP (by simp[h1,hu]),aH (by simp[h1]),aP (by simp[h1])]
   simp only[length_cons];omega
  by_cases h:e.dst∈S
  ·rw[aH (by simp[h]),aH (by simp[h]),aH (by simp[h1])];exact o
  rw[aP (by simp[h]),aP (by simp[h1,h]),aH (by simp[h1])];simp only[length_cons];omega
def UQ (E_:List cS)(S:J):qF E_ S<=E_.length:=ux _ _
def NO {E_:List cS}{u:Int}{e:cS}:e∈df E_ u↔e∈E_/\e.dst=u:=by simp[df]
structure DJ (E_:List cS) (c:J) (G:Int->Prop) (n:Nat) (D:J) (Q:List cB) (S:J) (m:Int) (done:cS->Prop):Prop where
 inv:ru E_ c G n D
 nF:∀ x∈Q,(0<=x.aQ/\x.aQ<n)/\dg D x.aQ<=x.bN/\m<=x.bN/\x.bN<bD/\(x.aQ∈S->dg D x.aQ<x.bN)
 nd:Q.Nodup
 set:∀ u∈S,(0<=u/\u<n)/\dg D u<=m
 ou:∀ u:Int,0<=u->u<n->dg D u<bD->u∉S->∃ x∈Q,x.aQ=u/\x.bN=dg D u
 yh:∀ e∈E_,e.dst∈S->done e->vN c D e
 m0:0<=m
abbrev zD (E_:List cS)(c:J)(G:Int->Prop)(n:Nat)(D:J)(Q:List cB)(S:J)(m:Int):Prop:=DJ E_ c G n D Q S m fun _=>True
section
variable {E_:List cS}{c:J}{G:Int->Prop}{n:Nat}{D:J}{Q:List cB}{S:J}{m:Int}{done:cS->Prop}
def DJ.nK (h:DJ E_ c G n D Q S m done){Q':List cB}(o:Q'.Perm Q):DJ E_ c G n D Q' S m done :=
 ⟨h.inv,fun x hx=>h.nF x (o.mem_iff.1 hx),o.nodup_iff.2 h.nd,h.set,fun u a b e f=>let ⟨x,hx,z⟩:=h.ou u a b e f;⟨x,o.mem_iff.2 hx,z⟩,h.yh,h.m0⟩
def DJ.ow (o:nD E_ c n)(h:zD E_ c G n D [] S m):cH E_ c G n D:=by
 refine h.inv.bN o fun e he z=>?_;have F:=o.dst e he;have hm:e.dst∈S:=by
  apply nl;intro K;obtain⟨x,hx,_⟩:=h.ou e.dst F.1 F.2 z K;simp at hx
 exact h.yh e he hm trivial z
def DJ.skip {x:cB}(h:zD E_ c G n D (x::Q) S m)(hx:dg D x.aQ<x.bN):zD E_ c G n D Q S m:=by
 refine⟨h.inv,fun y o=>h.nF y (by simp[o]),(vk.1 h.nd).2,h.set,fun u a b e f=>?_,h.yh,h.m0⟩;obtain⟨y,o,h1,z⟩:=h.ou u a b e f;rcases dZ.1 o with rfl|o
 ·subst h1;omega
 exact⟨y,o,h1,z⟩
def DJ.take {x:cB}(h:zD E_ c G n D (x::Q) S m)(hx:¬dg D x.aQ<x.bN)(z:∀ y∈Q,x.bN<=y.bN) :
  DJ E_ c G n D Q (x.aQ::S) x.bN (fun e=>e.dst∈S)/\x.aQ∉S/\dg D x.aQ=x.bN/\(0<=x.aQ/\x.aQ<n)/\x.bN<bD:=by
 obtain⟨L,e2,e3,e4,e5⟩:=h.nF x sm;have hS:x.aQ∉S:=fun hm=>hx (e5 hm);have V:dg D x.aQ=x.bN:=U;have K:=vk.1 h.nd;refine⟨⟨h.inv,fun y F=>?_,K.2,fun u hu=>?_,fun u a b e f=>?_,fun e he _ hm=>h.yh e he hm trivial,by have:=h.m0;omega⟩,hS,V,L,e4⟩
 ·obtain⟨f1,f2,f3,f4,f5⟩:=h.nF y (by simp[F])
  refine⟨f1,f2,z y F,f4,fun hm=>?_⟩;rcases dZ.1 hm with o|o
  ·have j':y.bN≠x.bN:=fun he=>K.1 (by
    have:y=x:=by
     clear hm;obtain⟨a,b⟩:=y;obtain⟨a',b'⟩:=x;simp only at he o;subst he o;rfl
    rw[<-this];exact F)
   have:=z y F;rw[o,V];omega
  exact f5 o
 ·rcases dZ.1 hu with rfl|hu
  ·exact⟨L,U⟩
  have:=h.set u hu;exact⟨this.1,U⟩
 simp only[dZ,not_or]at f;obtain⟨y,F,h1,o⟩:=h.ou u a b e f.2;rcases dZ.1 F with rfl|F
 ·exact absurd h1.symm f.1
 exact⟨y,F,h1,o⟩
def DJ.keep (h:DJ E_ c G n D Q S m done){e:cS}(F:vN c D e):DJ E_ c G n D Q S m (fun o=>done o\/o=e) :=
 ⟨h.inv,h.nF,h.nd,h.set,h.ou,fun o z hm K=>K.elim (h.yh o z hm) fun L=>L ▸ F,h.m0⟩
def DJ.o0 (F:nD E_ c n)(h:DJ E_ c G n D Q S m done){e:cS}(he:e∈E_)(hu:e.dst∈S)(hm:dg D e.dst=m)(R':m<bD)(hl:m+gG c e<dg D e.ba) :
  DJ E_ c G n (D.set e.ba.toNat (m+gG c e)) (⟨m+gG c e,e.ba⟩::Q) S m (fun o=>done o\/o=e):=by
 have hs:=F.ba e he;have hd:=F.dst e he;have hc:=F.gG he;have hlen:=h.inv.len;have hr:=(h.inv.dC e.ba.toNat U).2;rw[fZ hs.1]at hr;have K:e.ba∉S:=fun hv=>by have:=(h.set _ hv).2;omega
 have I:∀ i:Int,0<=i->dg (D.set e.ba.toNat (m+gG c e)) i=if i=e.ba then m+gG c e else dg D i:=fun i hi=>B6 hi hs.1 U
 have L:=h.inv.o0 F he U U;rw[hm]at L;have hS:∀ i∈S,dg (D.set e.ba.toNat (m+gG c e)) i=dg D i:=fun i hi=>by
  rw[I i (h.set i hi).1.1,aH (fun (o:i=e.ba)=>K (by rw[<-o];exact hi))]
 refine⟨L.1,fun y V=>?_,vk.2 ⟨fun hq=>?_,h.nd⟩,fun u hu=>?_,fun u a b f hu=>?_,fun o j' H' z => ?_,h.m0⟩
 ·rcases dZ.1 V with rfl|V
  ·exact⟨hs,by simp only;rw[I _ hs.1,aP rfl];exact du _,by simp only;omega,by simp only;omega,fun hv=>absurd hv K⟩
  obtain⟨f1,f2,f3,f4,f5⟩:=h.nF y V;refine⟨f1,?_,f3,f4,fun hv=>by rw[hS _ hv];exact f5 hv⟩;rw[I _ f1.1];split
  ·rename_i hh;rw[hh]at f2;omega
  exact f2
 ·have:=(h.nF _ hq).2.1
  simp only at this;omega
 ·rw[hS u hu];exact h.set u hu
 ·rw[I u a]at f ⊢
  by_cases ev:u=e.ba
  ·rw[aP ev];exact⟨⟨m+gG c e,e.ba⟩,sm,ev.symm,rfl⟩
  rw[aH ev]at f ⊢;obtain⟨y,V,hh⟩:=h.ou u a b f hu;exact⟨y,by simp[V],hh⟩
 intro J';have P':=F.ba o j';rw[hS _ H']at J' ⊢;rw[I _ P'.1];rcases z with z|rfl
 ·have:=h.yh o j' H' z J'
  split
  ·rename_i hh;rw[hh]at this;omega
  exact this
 rw[aP rfl,hm];exact du _
def DJ.close {u:Int}(h:DJ E_ c G n D Q (u::S) m done)(o:∀ e∈E_,e.dst∈u::S->done e):zD E_ c G n D Q (u::S) m :=
 ⟨h.inv,h.nF,h.nd,h.set,h.ou,fun e he hm _=>h.yh e he hm (o e he hm),h.m0⟩
end
def DJ.start (E_:List cS)(c:J)(G:Int->Prop)(n:Nat){Q:List cB}(o:∀ x,x∈Q↔∃ i:Nat,i<n/\G i/\x=⟨0,i⟩)(z:Q.Nodup):zD E_ c G n (pF G n) Q [] 0:=by
 refine⟨RB _ _ _ _,fun x hx=>?_,z,fun u hu=>(by simp at hu),fun u a b f _=>?_,fun e _ hm=>(by simp at hm),du _⟩
 ·obtain⟨i,F,I,rfl⟩:=(o x).1 hx
  refine⟨⟨by simp only;omega,by simp only;omega⟩,?_,du _,by simp only;decide,fun h=>by simp at h⟩;rw[C5 F,yY I];exact du _
 have hu:u=((u.toNat:Nat):Int):=U;rw[hu,C5 U]at f;by_cases I:G ((u.toNat:Nat):Int)
 ·refine⟨⟨0,u⟩,(o _).2 ⟨u.toNat,U,I,by rw[<-hu]⟩,rfl,?_⟩
  rw[hu,C5 U,yY I]
 rw[C4 I]at f;omega
structure Un where
 op:Int
 fc:Int
 aO:Int
 aK:Int
 aw:J
def If:Un:=⟨0,0,0,0,[]⟩
def un (U':List Un)(i:Int):Un:=U'.getD i.toNat If
inductive jK (U':List Un) (S:Int->Prop):Int->Int->Prop
 | start {f:Int}:S f->jK U' S f 0
 | iI {i:Nat}{v:Int->Int}{m:Int}:i<U'.length->0<=m->(∀ n∈(un U' i).aw,jK U' S n (v n))->(∀ n∈(un U' i).aw,v n<=m)->jK U' S (un U' i).aK ((un U' i).aO+m)
structure wX (U':List Un) (N:Nat):Prop where
 aO:∀ i:Nat,i<U'.length->0<=(un U' i).aO/\(un U' i).aO<=1048576
 aK:∀ i:Nat,i<U'.length->0<=(un U' i).aK/\(un U' i).aK<N
 aw:∀ i:Nat,i<U'.length->∀ n∈(un U' i).aw,0<=n/\n<N
 nd:∀ i:Nat,i<U'.length->(un U' i).aw.Nodup
def tR (dn:J)(l:J):Nat:=(l.filter fun n=>decide (n∉dn)).length
def Ts {dn l:J}:tR dn l=0↔∀ n∈l,n∈dn:=by
 unfold tR;rw[Gy,filter_eq_nil_iff];simp
def ň (l:J):tR [] l=l.length:=by
 unfold tR;rw[filter_eq_self.2 sm]
def Mi {f:Int}{dn:J}(o:f∉dn):∀ {l:J},l.Nodup->f∈l->tR dn l=tR (f::dn) l+1
 | [],_,h=>by simp at h
 | x::l,F,h=>by
  obtain⟨h1,K⟩:=vk.1 F;unfold tR;by_cases e:x=f
  ·subst e
   rw[we,aP (by simp[o]),we,aH sm];have z:(l.filter fun n=>decide (n∉dn))=l.filter fun n=>decide (n∉x::dn):=Gu fun y L=>by
    have:y≠x:=fun e=>h1 (by rw[<-e];exact L);simp[this]
   rw[z];rfl
  have z:=Mi o K (by rcases dZ.1 h with h|h;exact absurd h.symm e;exact h);unfold tR at z;by_cases hx:x∈dn
  ·rw[we,aH (by simp[hx]),we,aH (by simp[hx])];exact z
  rw[we,aP (by simp[hx]),we,aP (by simp[hx,e])];simp only[length_cons];omega
def ŉ {f:Int}{dn l:J}(h:f∉l):tR dn l=tR (f::dn) l:=by
 unfold tR
 rw[Gu fun y o=>by
  have:y≠f:=fun e=>h (by rw[<-e];exact o);show decide (y∉dn)=decide (y∉f::dn)
  simp[this]]
def eh (U':List Un)(f:Int):J:=((List.range U'.length).filter fun (i:Nat)=>decide (f∈(un U' i).aw)).map fun (i:Nat)=>(i:Int)
def Tt {U':List Un}{f i:Int}:i∈eh U' f↔∃ k:Nat,i=k/\k<U'.length/\f∈(un U' k).aw:=by
 unfold eh;simp only[iQ,rP,mem_range,gR];constructor
 ·rintro⟨k,⟨h1,h⟩,rfl⟩;exact⟨k,rfl,h1,h⟩
 rintro⟨k,rfl,h1,h⟩;exact⟨k,⟨h1,h⟩,rfl⟩
def Ŋ (U':List Un)(f:Int):(eh U' f).Nodup:=by
 unfold eh;refine Pairwise.map _ (fun a b h=>?_) (nodup_range.filter _);intro e;exact h U
structure RI (U':List Un) (S:Int->Prop) (N:Nat) (D lf:J) (dn:J) (Q:List cB) (m:Int) (f:Int) (ok:Nat->Prop):Prop where
 dl:D.length=N
 ll:lf.length=U'.length
 dC:∀ g:Int,0<=g->g<N->0<=dg D g/\dg D g<=bD
 qD:∀ g:Int,0<=g->g<N->dg D g<bD->jK U' S g (dg D g)
 wY:∀ i:Nat,i<U'.length->ok i->dg lf i=tR dn (un U' i).aw
 vQ:∀ i:Nat,i<U'.length->¬ok i->f∈(un U' i).aw/\dg lf i=tR dn (un U' i).aw+1
 low:∀ i:Nat,i<U'.length->ok i->(∀ n∈(un U' i).aw,n∈dn)->∀ k,0<=k->(∀ n∈(un U' i).aw,dg D n<=k)->dg D (un U' i).aK<=(un U' i).aO+k
 ou:∀ g:Int,0<=g->g<N->dg D g<bD->g∉dn->∃ x∈Q,x.aQ=g/\x.bN=dg D g
 nF:∀ x∈Q,(0<=x.aQ/\x.aQ<N)/\dg D x.aQ<=x.bN/\m<=x.bN/\x.bN<bD
 set:∀ g∈dn,(0<=g/\g<N)/\dg D g<=m
 m0:0<=m
 m1:m<bD
section
variable {U':List Un}{S:Int->Prop}{N:Nat}{D lf dn:J}{Q:List cB}{m f:Int}{ok:Nat->Prop}
def RI.nK (h:RI U' S N D lf dn Q m f ok){Q':List cB}(o:Q'.Perm Q):RI U' S N D lf dn Q' m f ok :=
 { h with
  ou:=fun g a b c d=>let ⟨x,hx,z⟩:=h.ou g a b c d;⟨x,o.mem_iff.2 hx,z⟩
  nF:=fun x hx=>h.nF x (o.mem_iff.1 hx) }
def RI.reach (h:RI U' S N D lf dn Q m f ok){g v:Int}(I:0<=g/\g<N)(hv:v<dg D g)(hm:m<=v)(hd:jK U' S g v):RI U' S N (D.set g.toNat v) lf dn (⟨v,g⟩::Q) m f ok:=by
 have hr:=h.dC g I.1 I.2;have J':=h.m0;have L:g∉dn:=fun hh=>by have:=(h.set g hh).2;omega
 have V:g.toNat<D.length:=by rw[h.dl];omega
 have o:∀ x:Int,0<=x->dg (D.set g.toNat v) x=if x=g then v else dg D x:=fun x hx=>by
  unfold dg;by_cases e:x=g
  ·rw[aP e,e]
   simp[List.getD,V]
  rw[aH e];simp only[List.getD];rw[tn U]
 have eH:∀ x:Int,0<=x->dg (D.set g.toNat v) x<=dg D x:=fun x hx=>by
  rw[o x hx];split
  ·rename_i e;rw[e];omega
  exact du _
 refine⟨by simp[h.dl],h.ll,fun x z h1=>?_,fun x z h1 F=>?_,h.wY,h.vQ,fun i hi ho hn k hk j'=>?_,fun x z h1 F h3=>?_,fun x hx=>?_,fun x hx=>?_,h.m0,h.m1⟩
 ·rw[o x z];split
  ·exact⟨U,U⟩
  exact h.dC x z h1
 ·rw[o x z]at F ⊢
  split
  ·rename_i e;rw[e];exact hd
  rename_i e;rw[aH e]at F;exact h.qD x z h1 F
 ·have H':(0:Int)<=(un U' i).aK\/(un U' i).aK<0:=U
  have hb:=h.low i hi ho hn k hk fun n K=>by
   have:=j' n K;have z:=((h.set n (hn n K)).1).1;rw[o n z,aH (fun e=>L (by rw[<-e];exact hn n K))]at this;exact this
  rcases H' with z|z
  ·have:=eH _ z;omega
  unfold dg at hb ⊢;rw[show (un U' i).aK.toNat=(0:Int).toNat by omega]at hb ⊢;have:=eH 0 (du _);unfold dg at this;omega
 ·rw[o x z]at F ⊢
  by_cases e:x=g
  ·exact⟨⟨v,g⟩,gA,e.symm,by rw[aP e]⟩
  rw[aH e]at F ⊢;obtain⟨y,K,h4⟩:=h.ou x z h1 F h3;exact⟨y,iR _ K,h4⟩
 ·rcases dZ.1 hx with rfl|hx
  ·refine⟨I,?_,hm,by have:=hr.2;show v<bD;omega⟩
   rw[o _ I.1,aP rfl];exact du _
  obtain⟨K,e2,e3,e4⟩:=h.nF x hx;exact⟨K,by have:=eH x.aQ K.1;omega,e3,e4⟩
 obtain⟨K,e2⟩:=h.set x hx;exact⟨K,by have:=eH x K.1;omega⟩
def RI.skip {x:cB}(h:RI U' S N D lf dn (x::Q) m f ok)(hx:x.aQ∈dn):RI U' S N D lf dn Q m f ok :=
 { h with
  ou:=fun g a b c d=>by
   obtain⟨y,o,h1,z⟩:=h.ou g a b c d;rcases dZ.1 o with rfl|o
   ·exact absurd (h1 ▸ hx) d
   exact⟨y,o,h1,z⟩
  nF:=fun y o=>h.nF y (iR _ o) }
def RI.take (hU:wX U' N){x:cB}(h:RI U' S N D lf dn (x::Q) m f fun _=>True)(hx:x.aQ∉dn)(z:∀ y∈Q,x.bN<=y.bN) :
  RI U' S N D lf (x.aQ::dn) Q x.bN x.aQ (fun i=>x.aQ∉(un U' i).aw)/\dg D x.aQ=x.bN/\(0<=x.aQ/\x.aQ<N)/\0<=x.bN/\x.bN<bD:=by
 obtain⟨V,e2,e3,e4⟩:=h.nF x gA;have H':=h.m0;have hd:dg D x.aQ=x.bN:=by
  obtain⟨y,o,h1,h2⟩:=h.ou x.aQ V.1 V.2 U hx;rcases dZ.1 o with rfl|o
  ·exact h2.symm
  have:=z y o;omega
 refine⟨⟨h.dl,h.ll,h.dC,h.qD,fun i K F=>?_,fun i K F=>?_,fun i K F hn k hk j'=>?_,fun g h0 h1 h2 h3=>?_,fun y o=>?_,fun g I=>?_,U,e4⟩,hd,V,U,e4⟩
 ·rw[h.wY i K trivial,ŉ F]
 ·have F:x.aQ∈(un U' i).aw:=nl F
  refine⟨F,?_⟩;rw[h.wY i K trivial,Mi hx (hU.nd i K) F];rfl
 ·refine h.low i K trivial (fun n L => ?_) k hk j'
  rcases dZ.1 (hn n L) with e|e
  ·exact absurd (e ▸ L) F
  exact e
 ·obtain⟨y,o,L,h5⟩:=h.ou g h0 h1 h2 (fun hh=>h3 (iR _ hh))
  rcases dZ.1 o with rfl|o
  ·exact absurd (by rw[L];exact gA) h3
  exact⟨y,o,L,h5⟩
 ·obtain⟨f1,f2,f3,f4⟩:=h.nF y (iR _ o)
  exact⟨f1,f2,z y o,f4⟩
 rcases dZ.1 I with rfl|I
 ·exact⟨V,U⟩
 obtain⟨f1,f2⟩:=h.set g I;exact⟨f1,U⟩
def RI.count {i:Nat}(hi:i<U'.length)(h:RI U' S N D lf dn Q m f ok)(K:¬ok i)(L:dg lf i-1≠0\/dg D (un U' i).aK<=m+(un U' i).aO)(hf:dg D f=m):RI U' S N D (lf.set i (dg lf i-1)) dn Q m f (fun k=>ok k\/k=i):=by
 obtain⟨V,hl⟩:=h.vQ i hi K
 have o:∀ k:Nat,dg (lf.set i (dg lf i-1)) k=if k=i then dg lf i-1 else dg lf k:=fun k=>by
  unfold dg;by_cases e:k=i
  ·subst e
   rw[aP rfl];have:k<lf.length:=by rw[h.ll];exact hi
   simp[List.getD,this]
  rw[aH e];simp only[List.getD];rw[tn U]
 refine { h with ll:=by simp[h.ll],wY:=fun k hk z=>?_,vQ:=fun k hk z=>?_,low:=fun k hk z hn c hc F=>?_ }
 ·rw[o]
  by_cases e:k=i
  ·subst e;rw[aP rfl,hl];omega
  rw[aH e];exact h.wY k hk (z.resolve_right e)
 ·have e:k≠i:=fun e=>z (.inr e)
  rw[o,aH e];exact h.vQ k hk fun hh=>z (.inl hh)
 by_cases e:ok k
 ·exact h.low k hk e hn c hc F
 have e2:k=i:=z.resolve_left e;subst e2;have j':=Ts.2 hn;have:=F f V;rcases L with L|L
 ·omega
 omega
def RI.ow (L:wX U' N)(h:RI U' S N D lf dn [] m f fun _=>True)(hS:∀ g,S g->0<=g/\g<N/\dg D g<=0):∀ g v,jK U' S g v->0<=g->g<N->dg D g<=v:=by
 have V:∀ g:Int,0<=g->g<N->dg D g<bD->g∈dn:=fun g h0 h1 h2=>by
  apply nl;intro hn;obtain⟨x,hx,_⟩:=h.ou g h0 h1 h2 hn;simp at hx
 intro g v hd
 induction hd with
 | start hs=>intro _ _;exact(hS _ hs).2.2
 | @iI i v m K hm hn eH ih =>
  intro h0 h1;have hr:=h.dC _ h0 h1;have hc:=(L.aO i K).1;by_cases z:∀ n∈(un U' i).aw,dg D n<bD
  ·refine h.low i K trivial (fun n o => ?_) m hm fun n o => ?_
   ·have F:=L.aw i K n o
    exact V n F.1 F.2 (z n o)
   have F:=L.aw i K n o;have:=ih n o F.1 F.2;have:=eH n o;omega
  have:∃ n,n∈(un U' i).aw/\¬dg D n<bD:=by
   apply nl;intro hh;exact z fun n o=>nl fun h3=>hh ⟨n,o,h3⟩
  obtain⟨n,o,h3⟩:=this;have F:=L.aw i K n o;have:=ih n o F.1 F.2;have:=eH n o;omega
def RI.Fj {i:Nat}(hi:i<U'.length)(h:RI U' S N D lf dn Q m f ok)(z:¬ok i)(hz:dg lf i-1=0)(hb:∀ n∈(un U' i).aw,0<=n/\n<N):jK U' S (un U' i).aK (m+(un U' i).aO):=by
 obtain⟨V,hl⟩:=h.vQ i hi z;have F:tR dn (un U' i).aw=0:=U;have o:=Ts.1 F;rw[DD];have j':=h.m1;refine .iI (v:=dg D) hi h.m0 (fun n K=>?_) fun n K=>?_
 ·obtain⟨L,e2⟩:=h.set n (o n K)
  exact h.qD n L.1 L.2 U
 exact(h.set n (o n K)).2
end
def bC (vars:J)(v:Nat):Int:=(vars.take v).foldl (·+·) 0
def dG (vars:J)(f:bo):Int:=bC vars f.var.toNat+f.val
def oT (acc:J)(n:Int):J:=if n∈acc then acc else acc++[n]
def cb (vars:J)(l:List bo)(acc:J):J:=l.foldl (fun acc f=>oT acc (dG vars f)) acc
def Tu (vars:J):bC vars 0=0:=rfl
def CL {vars:J}{v:Nat}(h:v<vars.length):bC vars (v+1)=bC vars v+vars.getD v O.dflt:=by
 unfold bC;rw[eD O.dflt h,tf];rfl
def Ig {vars:J}(o:∀ x∈vars,1<=x){a:Nat}:∀ {b:Nat},a<=b->b<=vars.length->bC vars a<=bC vars b
 | 0,h,_=>by rw[show a=0 by omega];exact du _
 | b+1,h,z=>by
  by_cases e:a=b+1
  ·rw[e];exact du _
  have:=Ig o (a:=a) (b:=b) U U;have F:=o _ (cD O.dflt (show b<vars.length by omega));rw[CL U];omega
def CK {vars:J}(h:∀ x∈vars,1<=x){b:Nat}(o:b<=vars.length):0<=bC vars b:=Ig h (a:=0) (br _) o
def Ef {vars:J}(h:∀ i,i<vars.length->vars.getD i O.dflt<=64):∀ {b:Nat},b<=vars.length->bC vars b<=64*(b:Int)
 | 0,_=>by rw[Tu];omega
 | b+1,o=>by
  have:=Ef h (b:=b) U;have:=h b U;rw[CL U];omega
def vC {vars:J}(o:∀ x∈vars,1<=x){f:bo}(h:bH vars f):0<=dG vars f/\dG vars f<bC vars vars.length:=by
 obtain⟨z,h1,F,K⟩:=h;have hv:f.var.toNat<vars.length:=U;have a:=CK o (b:=f.var.toNat) U;have b:=Ig o (a:=f.var.toNat+1) (b:=vars.length) U (cz _);rw[CL hv]at b;unfold dG;omega
def Ey {vars:J}(h:∀ x∈vars,1<=x){v:Nat}(hv:v<vars.length){x:Int}(o:0<=x)(h1:x<vars.getD v O.dflt):0<=bC vars v+x/\bC vars v+x<bC vars vars.length:=by
 have a:=CK h (b:=v) U;have b:=Ig h (a:=v+1) (b:=vars.length) U (cz _);rw[CL hv]at b;omega
def ŋ {n x:Int}:x∈oT acc n↔x∈acc\/x=n:=by
 unfold oT;split
 ·rename_i h
  exact⟨.inl,fun o=>o.elim id fun e=>by rw[e];exact h⟩
 simp
def Ō {n:Int}(h:acc.Nodup):(oT acc n).Nodup:=by
 unfold oT;split
 ·exact h
 rename_i o;exact zM.2 ⟨h,sm,fun a z b F e=>o (by rw[dp.1 F]at e;rw[<-e];exact z)⟩
def ñ (acc:J)(n:Int):(oT acc n).length<=acc.length+1:=by
 unfold oT;split<;>simp
def LJ (vars:J)(l:List bo)(f:bo)(acc:J):cb vars (l++[f]) acc=oT (cb vars l acc) (dG vars f):=by simp[cb]
def x8 {vars:J}{x:Int}:∀ {l:List bo},x∈cb vars l acc↔x∈acc\/∃ f∈l,dG vars f=x:=by
 intro l;refine nu (P:=fun l=>x∈cb vars l acc↔x∈acc\/∃ f∈l,dG vars f=x) (by simp[cb]) ?_ l;intro l f z;rw[LJ,ŋ,z];simp only[gK,dp];constructor
 ·rintro ((h|⟨g,h1,o⟩)|h)
  ·exact .inl h
  ·exact .inr ⟨g,.inl h1,o⟩
  exact .inr ⟨f,.inr rfl,h.symm⟩
 rintro (h|⟨g,h1|h1,o⟩)
 ·exact .inl (.inl h)
 ·exact .inl (.inr ⟨g,h1,o⟩)
 exact .inr (by rw[<-o,h1])
def HV {vars:J}(h:acc.Nodup)(l:List bo):(cb vars l acc).Nodup:=by
 refine nu (P:=fun l=>(cb vars l acc).Nodup) h ?_ l;intro l f o;rw[LJ];exact Ō o
def yM (vars:J)(i:Nat)(o:ko)(k:Nat):Un:=⟨i,k,o.aO,dG vars ⟨(o.aJ.getD k bE).var,(o.aJ.getD k bE).val⟩,cb vars (o.aJ.getD k bE).bK (cb vars o.pre [])⟩
def lP (vars:J)(i:Nat)(o:ko)(m:Nat):List Un:=(List.range m).map (yM vars i o)
def gL (t:aa)(k:Nat):List Un:=(List.range k).flatMap fun i=>lP t.vars i (t.Z.getD i bf) (t.Z.getD i bf).aJ.length
def bS (t:aa):List Un:=gL t t.Z.length
def KH (vars:J)(i:Nat)(o:ko)(m:Nat):lP vars i o (m+1)=lP vars i o m++[yM vars i o m]:=by simp[lP,lz]
def yL (t:aa)(k:Nat):gL t (k+1)=gL t k++lP t.vars k (t.Z.getD k bf) (t.Z.getD k bf).aJ.length:=by simp[gL,lz]
def CS {t:aa}{k:Nat}{u:Un}:u∈gL t k↔∃ i j,i<k/\j<(t.Z.getD i bf).aJ.length/\u=yM t.vars i (t.Z.getD i bf) j:=by
 simp only[gL,lP,tm,mem_range,iQ];constructor
 ·rintro⟨i,h1,j,h,rfl⟩;exact⟨i,j,h1,h,rfl⟩
 rintro⟨i,j,h1,h,rfl⟩;exact⟨i,h1,j,h,rfl⟩
def Bq (vars:J)(i:Nat)(o:ko)(m:Nat):(lP vars i o m).length=m:=by simp[lP]
def Bp {t:aa}(I:aC t):∀ {k:Nat},k<=t.Z.length->(gL t k).length<=64*k
 | 0,_=>by simp[gL]
 | k+1,h=>by
  have:=Bp I (k:=k) U;have:=(I.op k U).aJ;rw[yL,length_append,Bq];omega
def aS (t:aa):Nat:=(bC t.vars t.vars.length).toNat
def tx {t:aa}(I:aC t):(aS t:Int)=bC t.vars t.vars.length:=by
 have:=CK I.pos (b:=t.vars.length) (cz _);unfold aS;omega
def Af {t:aa}(I:aC t):aS t<=4096:=by
 have h1:=Ef (fun i h=>(I.nt i h).2) (cz t.vars.length);have o:=I.vars;unfold aS;omega
def yU {U':List Un}{i:Nat}(h:i<U'.length):un U' i∈U':=cD If h
def uM {t:aa}(I:aC t):wX (bS t) (aS t):=by
 have key:∀ u∈bS t,(0<=u.aO/\u.aO<=1048576)/\(0<=u.aK/\u.aK<aS t)/\(∀ n∈u.aw,0<=n/\n<aS t)/\u.aw.Nodup:=by
  intro u hu;obtain⟨i,j,o,K,rfl⟩:=CS.1 hu;have z:=I.op i o;have he:=tz (z.fc j K);rw[tx I];refine⟨⟨z.kI,z.nz⟩,vC I.pos he,fun n L=>?_,HV (HV zC _) _⟩;have Y:=(z.fc j K).1;rcases x8.1 L with h|⟨f,F,rfl⟩
  ·rcases x8.1 h with h|⟨f,F,rfl⟩
   ·simp at h
   obtain⟨k,hk,rfl⟩:=fF F;have:=(z.pre k hk).1;rw[al hk]at this;exact vC I.pos this
  obtain⟨k,hk,rfl⟩:=fF F;have:=(Y k hk).1;rw[al hk]at this;exact vC I.pos this
 exact⟨fun i o=>(key _ (yU o)).1,fun i o=>(key _ (yU o)).2.1,fun i o=>(key _ (yU o)).2.2.1,fun i o=>(key _ (yU o)).2.2.2⟩
def mb (vars s:J)(f:Int):Prop:=∃ v:Nat,v<vars.length/\f=bC vars v+s.getD v O.dflt
structure gV (t:aa) (s out:J):Prop where
 len:out.length=aS t
 dC:∀ g:Int,0<=g->g<aS t->0<=dg out g/\dg out g<=bD
 qD:∀ g:Int,0<=g->g<aS t->dg out g<bD->jK (bS t) (mb t.vars s) g (dg out g)
 low:∀ g v,jK (bS t) (mb t.vars s) g v->0<=g->g<aS t->dg out g<=v
def cW (vars:J)(aG:List bo)(out:J):Int:=aG.foldl (fun m f=>max m (dg out (dG vars f))) 0
def Mj (vars:J)(l:List bo)(f:bo)(out:J):cW vars (l++[f]) out=max (cW vars l out) (dg out (dG vars f)):=by simp[cW]
def yR {vars:J}{out:J}(o:0<=b):∀ {l:List bo},cW vars l out<=b↔∀ f∈l,dg out (dG vars f)<=b:=by
 intro l;refine nu (P:=fun l=>cW vars l out<=b↔∀ f∈l,dg out (dG vars f)<=b) (by simp[cW,o]) ?_ l;intro l f z;rw[Mj,GB,z];simp only[gK,dp];exact⟨fun⟨h1,F⟩ x hx=>hx.elim (h1 x) fun e=>by rw[e];exact F,fun h=>⟨fun x hx=>h x (.inl hx),h f (.inr rfl)⟩⟩
def Ao (vars:J)(l:List bo)(out:J):0<=cW vars l out:=by
 refine nu (P:=fun l=>0<=cW vars l out) (by simp[cW]) ?_ l;intro l f h;rw[Mj];omega
open Classical in
def jK.shift {U':List Un}{S z:Int->Prop}{c:Int}(hc:0<=c)(h:∀ f,z f->∃ v,v<=c/\jK U' S f v){f v:Int}(K:jK U' z f v):∃ v',v'<=v+c/\jK U' S f v':=by
 induction K with
 | start L=>obtain⟨v,h1,V⟩:=h _ L;exact⟨v,U,V⟩
 | @iI i v m hi hm hn eH F =>
  refine⟨(un U' i).aO+(m+c),U,.iI (v:=fun n=>if hx:∃ v',v'<=v n+c/\jK U' S n v' then Classical.choose hx else 0) hi U (fun n o => ?_) fun n o => ?_⟩
  ·have hx:=F n o
   show jK U' S n (dite _ _ _);rw[dif_pos hx];exact(wh hx).2
  have hx:=F n o;show dite _ _ _<=_;rw[dif_pos hx];have:=(wh hx).1;have:=eH n o;omega
def C6 {vars s:J}(o:ab vars s){f:bo}(h:ie s f):mb vars s (dG vars f) :=
 ⟨f.var.toNat,by have:=o.1;have:=h.1;have:=h.2.1;omega,by unfold dG;rw[h.2.2]⟩
def As {s:J}{l:List bo}(h:bZ s l){f:bo}(z:f∈l):ie s f:=by
 obtain⟨i,o,rfl⟩:=fF z;have:=h i o
 rwa[al o]at this
def Lr {s:J}{l:List kU}(o:∀ e∈l,0<=e.var/\e.var<s.length){v:Nat}(hv:v<s.length):(eW s l).getD v O.dflt=s.getD v O.dflt\/∃ k,k<l.length/\(l.getD k bE).var=v/\(l.getD k bE).val=(eW s l).getD v O.dflt/\bZ s (l.getD k bE).bK:=by
 revert o;refine nu (P:=fun l=>(∀ e∈l,0<=e.var/\e.var<(s.length:Int))->((eW s l).getD v O.dflt=s.getD v O.dflt\/∃ k,k<l.length/\(l.getD k bE).var=v/\(l.getD k bE).val=(eW s l).getD v O.dflt/\bZ s (l.getD k bE).bK)) (fun _=>.inl rfl) ?_ l;intro l e z o;have z:=z fun x hx=>o x (by simp[hx]);have F:∀ k,k<l.length->(l++[e]).getD k bE=l.getD k bE:=fun k hk=>by simp[List.getD,js hk]
 have hold:(∃ k,k<l.length/\(l.getD k bE).var=v/\(l.getD k bE).val=(eW s l).getD v O.dflt/\bZ s (l.getD k bE).bK)->∃ k,k<(l++[e]).length/\((l++[e]).getD k bE).var=v/\((l++[e]).getD k bE).val=(eW s l).getD v O.dflt/\bZ s ((l++[e]).getD k bE).bK:=fun⟨k,h1,L,V,h4⟩=>⟨k,by simp;omega,by rw[F k h1];exact L,by rw[F k h1];exact V,by rw[F k h1];exact h4⟩
 rw[CM];by_cases Y:bZ s e.bK
 ·rw[aP Y]
  have he:=o e sm;by_cases K:e.var=v
  ·right
   have I:(l++[e]).getD l.length bE=e:=by simp[List.getD]
   refine⟨l.length,sm,by rw[I];exact K,?_,by rw[I];exact Y⟩;rw[I,K,gY];have:v<(eW s l).length:=by rw[KN];exact hv
   simp[List.getD,this]
  have h:((eW s l).set e.var.toNat e.val).getD v O.dflt=(eW s l).getD v O.dflt:=by
   simp only[List.getD];rw[tn U]
  rw[h];exact z.imp id hold
 rw[aH Y];exact z.imp id hold
def Tv {t:aa}{op k:Nat}(o:op<t.Z.length)(hk:k<(t.Z.getD op bf).aJ.length):∃ i,i<(bS t).length/\un (bS t) i=yM t.vars op (t.Z.getD op bf) k:=by
 have hm:yM t.vars op (t.Z.getD op bf) k∈bS t:=CS.2 ⟨op,k,o,hk,rfl⟩;obtain⟨i,h,he⟩:=fF hm;exact⟨i,h,by unfold un;rw[gY,al h];exact he⟩
def ō {t:aa}(I:aC t){s out:J}(L:ab t.vars s){op:Nat}(ho:op<t.Z.length)(ha:iT t s op)(h:gV t s out)(h':gV t (cd t s op) out'){g:Int}(V:0<=g)(h1:g<aS t):dg out g<=(t.Z.getD op bf).aO+dg out' g:=by
 have F:=I.op op ho;have hc:=F.kI;have hr:=h.dC g V h1;have R':=h'.dC g V h1;by_cases hi:dg out' g<bD
 ·have hd:=h'.qD g V h1 hi
  obtain⟨v,hv,j'⟩:=jK.shift (S:=mb t.vars s) hc (fun f K=>by
   obtain⟨v,hv,rfl⟩:=K;have H':v<s.length:=by rw[L.1];exact hv
   rcases Lr (s:=s) (l:=(t.Z.getD op bf).aJ) (fun e he=>by have:=tz (F.mem e he);rw[L.1];exact⟨this.1,this.2.1⟩) H' with e|⟨k,hk,e1,e2,e3⟩
   ·exact⟨0,hc,.start ⟨v,hv,by rw[<-e];rfl⟩⟩
   obtain⟨i,hi,o⟩:=Tv ho hk;refine⟨(t.Z.getD op bf).aO+0,U,?_⟩;have J':(un (bS t) i).aK=bC t.vars v+(cd t s op).getD v O.dflt:=by
    rw[o];show bC t.vars ((t.Z.getD op bf).aJ.getD k bE).var.toNat+((t.Z.getD op bf).aJ.getD k bE).val=_;rw[e1,e2,gY];rfl
   have P':(un (bS t) i).aO=(t.Z.getD op bf).aO:=by rw[o];rfl
   rw[<-J',<-P'];refine .iI (v:=fun _=>0) hi (du _) (fun n z=>.start ?_) fun _ _=>du _;rw[o]at z;rcases x8.1 z with z|⟨f,K,rfl⟩
   ·rcases x8.1 z with z|⟨f,K,rfl⟩
    ·simp at z
    exact C6 L (As ha K)
   exact C6 L (As e3 K)) hd
  have:=h.low g v j' V h1;omega
 omega
def Ŏ {t:aa}(I:aC t){s out:J}(hs:ab t.vars s){op:Nat}(K:op<t.Z.length)(ha:iT t s op)(h:gV t s out)(h':gV t (cd t s op) out'):cW t.vars t.aG out<=(t.Z.getD op bf).aO+cW t.vars t.aG out':=by
 have hc:=(I.op op K).kI;have z:=Ao t.vars t.aG out';refine(yR U).2 fun f L=>?_;obtain⟨i,V,rfl⟩:=fF L;have o:=(I.aG i V).1;rw[al V]at o;have F:=vC I.pos o;rw[<-tx I]at F;have:=ō I hs K ha h h' F.1 F.2;have:=(yR z).1 (du _) _ L;omega
def ŏ {t:aa}(I:aC t){s out:J}(L:ab t.vars s)(h:gV t s out)(V:bZ s t.aG):cW t.vars t.aG out=0:=by
 have h1:=Ao t.vars t.aG out;have h2:cW t.vars t.aG out<=0:=(yR (du _)).2 fun f F=>by
  obtain⟨i,K,rfl⟩:=fF F;have o:=(I.aG i K).1;rw[al K]at o;have z:=vC I.pos o;rw[<-tx I]at z;exact h.low _ 0 (.start (C6 L (As V F))) z.1 z.2
 omega
def uY {t:aa}(I:aC t){s out:J}(h:gV t s out):cW t.vars t.aG out<=bD:=(yR dc).2 fun f K=>by
 obtain⟨i,F,rfl⟩:=fF K;have o:=(I.aG i F).1;rw[al F]at o;have z:=vC I.pos o;rw[<-tx I]at z;exact(h.dC _ z.1 z.2).2
def An {t:aa}{s out:J}(h:gV t s out)(o:gV t s out'):out=out':=by
 apply iA (by rw[h.len,o.len]);intro i h1 K;have hi:i<aS t:=by rw[<-h.len];exact h1
 have a:=h.dC i U U;have a':=o.dC i U U;have b:=h.qD i U U;have F:=o.qD i U U;have c:=fun v z=>h.low i v z U U;have L:=fun v z=>o.low i v z U U;have e:dg out (i:Int)=dg out' (i:Int):=by
  by_cases hx:dg out (i:Int)<bD
  ·have:=L _ (b hx)
   have:=c _ (F U);omega
  by_cases V:dg out' (i:Int)<bD
  ·have:=c _ (F V);omega
  omega
 unfold dg at e;rw[gY,al h1,al K]at e;exact e
def jK.nn {U':List Un}{S:Int->Prop}(o:∀ i:Nat,i<U'.length->0<=(un U' i).aO){g v:Int}(h:jK U' S g v):0<=v:=by
 cases h with
 | start _=>exact du _
 | iI z hm _ _=>have:=o _ z;omega
def Ő {U':List Un}{S:Int->Prop}(F:∀ i:Nat,i<U'.length->0<=(un U' i).aO)(g:Int):∃ m,0<=m/\m<=bD/\(m<bD->jK U' S g m)/\∀ v,jK U' S g v->m<=v:=by
 have key:∀ n:Nat,(∃ v,jK U' S g v/\v<(n:Int))->∃ m,jK U' S g m/\∀ v,jK U' S g v->m<=v:=by
  intro n
  induction n with
  | zero=>rintro⟨v,h1,K⟩;have:=h1.nn F;omega
  | succ n V =>
   rintro⟨v,h1,K⟩;by_cases o:∃ v,jK U' S g v/\v<(n:Int)
   ·exact V o
   refine⟨v,h1,fun L z=>?_⟩;have:¬L<(n:Int):=fun h5=>o ⟨L,z,h5⟩;omega
 have L:bD=1125899906842624:=rfl;by_cases h:∃ v,jK U' S g v/\v<bD
 ·obtain⟨v,h1,K⟩:=h
  obtain⟨m,o,z⟩:=key bD.toNat ⟨v,h1,U⟩;have:=z v h1;exact⟨m,o.nn F,U,fun _=>o,z⟩
 exact⟨bD,U,du _,fun o=>absurd o (GO _),fun v hv=>rY.1 fun o=>h ⟨v,hv,o⟩⟩
open Classical in
def Ap {t:aa}(I:aC t)(s:J):∃ out,gV t s out:=by
 have bI:=uM I;have h:=fun g:Int=>Ő (U':=bS t) (S:=mb t.vars s) (fun i K=>(bI.aO i K).1) g;have F:∀ g:Int,0<=g->g<aS t->dg ((List.range (aS t)).map fun (i:Nat)=>Classical.choose (h i)) g=Classical.choose (h g):=fun g o h1=>by
  have z:g.toNat<aS t:=U;unfold dg;simp[List.getD,z,fZ o]
 refine⟨(List.range (aS t)).map fun (i:Nat)=>Classical.choose (h i),sm,fun g o h1=>?_,fun g o h1 z=>?_,fun g v hv o h1=>?_⟩
 ·rw[F g o h1];have:=wh (h g);exact⟨this.1,this.2.1⟩
 ·rw[F g o h1]at z ⊢;exact(wh (h g)).2.2.1 z
 rw[F g o h1];exact(wh (h g)).2.2.2 v hv
open Classical in
noncomputable def cw (t:aa)(s:J):Int:=if h:ab t.vars s/\∃ out,gV t s out then cW t.vars t.aG (Classical.choose h.2) else 0
def yS {t:aa}{s out:J}(o:ab t.vars s)(h:gV t s out):cw t s=cW t.vars t.aG out:=by
 have hx:ab t.vars s/\∃ out,gV t s out:=⟨o,out,h⟩
 unfold cw;rw[dif_pos hx,An (wh hx.2) h]
def AW {t:aa}{s:J}(o:¬ab t.vars s):cw t s=0:=by
 unfold cw;rw[dif_neg (fun h=>o h.1)]
def Tw {t:aa}(I:aC t):Bs t (cw t):=by
 have z:(0:Int)<=bD:=dc;refine⟨I,fun y=>?_,fun y=>?_⟩
 ·by_cases h:ab t.vars y
  ·obtain⟨out,o⟩:=Ap I y
   rw[yS h o];exact Ao _ _ _
  rw[AW h];exact du _
 by_cases h:ab t.vars y
 ·obtain⟨out,o⟩:=Ap I y
  rw[yS h o];exact uY I o
 rw[AW h];exact z
def IK {t:aa}(I:aC t){s:J}(h:ab t.vars s){op:Nat}(o:op<t.Z.length)(F:iT t s op):cw t s<=qu t op+cw t (cd t s op):=by
 obtain⟨out,h1⟩:=Ap I s;obtain⟨out',z⟩:=Ap I (cd t s op);rw[yS h h1,yS (r6 I h o) z];exact Ŏ I h o F h1 z
def IJ {t:aa}(I:aC t){s:J}(o:bZ s t.aG):cw t s=0:=by
 by_cases h:ab t.vars s
 ·obtain⟨out,h1⟩:=Ap I s
  rw[yS h h1];exact ŏ I h h1 o
 exact AW h
def UE {t:aa}(I:aC t){s p:J}{c:Int}(h:lu t s p c):cw t s<=c:=by
 induction h with
 | aG F=>rw[IJ I F];exact du _
 | @step s op p c o K _ L =>
  by_cases z:ab t.vars s
  ·have:=IK I z o K;omega
  rw[AW z];have h1:=B4 I o;have V:=(Tw I).nn (cd t s op);omega
def Sk {t:aa}{s out:J}(hl:out.length=aS t)(hr:∀ g:Int,0<=g->g<aS t->0<=dg out g/\dg out g<=bD)(hU:wX (bS t) (aS t))(hs:∀ g,mb t.vars s g->dg out g<=0)
  (z:∀ i:Nat,i<(bS t).length->dg out (un (bS t) i).aK<=(un (bS t) i).aO+(un (bS t) i).aw.foldl (fun m n=>max m (dg out n)) 0)
  (F:∀ g:Int,0<=g->g<aS t->dg out g<bD->jK (bS t) (mb t.vars s) g (dg out g)):gV t s out:=by
 have K:∀ (l:J) (a k:Int),a<=k->(∀ n∈l,dg out n<=k)->l.foldl (fun m n=>max m (dg out n)) a<=k:=by
  intro l
  induction l with
  | nil=>intro a k h _;exact h
  | cons x l L =>
   intro a k h V;exact L _ _ (GB.2 ⟨h,V x gA⟩) fun n hn=>V n (iR _ hn)
 refine⟨hl,hr,F,fun g v hd=>?_⟩
 induction hd with
 | start h=>intro _ _;exact hs _ h
 | @iI i v m hi hm hn eH L =>
  intro h0 h1;have V:=z i hi;have h3:=K (un (bS t) i).aw 0 m hm fun n o=>by
   have hb:=hU.aw i hi n o;have:=L n o hb.1 hb.2;have:=eH n o;omega
  omega
end
variable {Q':List cB}
section
def dw (f:Nat->Rat):Nat->Rat
 | 0=>0
 | n+1=>dw f n+f n
def AT {f g:Nat->Rat}:∀ {n:Nat},(∀ j,j<n->f j=g j)->dw f n=dw g n
 | 0,_=>rfl
 | n+1,h=>by
  show dw f n+f n=dw g n+g n;rw[AT fun j o=>h j (by omega),h n (by omega)]
def Sx:∀ (n:Nat),dw (fun _=>0) n=0
 | 0=>rfl
 | n+1=>by
  show dw (fun _=>0) n+0=0;rw[Sx n];grind
def Sy (f g:Nat->Rat):∀ n,dw (fun j=>f j+g j) n=dw f n+dw g n
 | 0=>by show (0:Rat)=0+0;grind
 | n+1=>by
  show dw (fun j=>f j+g j) n+(f n+g n)=dw f n+f n+(dw g n+g n)
  rw[Sy f g n];grind
structure Tx where
 A:Nat->Nat->Rat
 b:Nat->Rat
 B:Nat->Nat
 c:Nat->Rat
 z:Rat
section
variable (N m:Nat)
end
section
variable {N m:Nat}{T:Tx}{r k:Nat}
end
section
variable {N m n:Nat}{T:Nat->Tx}{r k:Nat->Nat}
end
structure cZ where
 num:Int
 den:Int
 deriving DecidableEq
def cm (f:cZ):Rat:=(f.num:Rat) / (f.den:Rat)
def ed (f:cZ):Prop:=1<=f.den/\f.den<=1048576 /\ -1099511627776<=f.num/\f.num<=1099511627776/\Int.gcd f.num f.den=1
instance Nf (f:cZ):Decidable (ed f):=by unfold ed;infer_instance
def me (num den:Int):Int × cZ :=
 let n:=if den<0 then -num else num
 let d:=if den<0 then -den else den
 let g:Int:=Int.gcd n d
 let f:cZ:=⟨n / g,d / g⟩
 if 1099511627776<f.num.natAbs\/1048576<f.den then (5,⟨0,0⟩) else (0,f)
def ut (num den other rest:Int):Int × cZ :=
 if num=0\/other=0 then (0,⟨0,1⟩) else
 let g:Int:=Int.gcd num rest
 let h:Int:=Int.gcd other den
 let n:=num / g
 let r:=rest / g
 let o:=other / h
 let d:=den / h
 if 1099511627776 / (o.natAbs:Int)<n.natAbs\/1048576 / r<d then (5,⟨0,0⟩) else (0,⟨n*o,d*r⟩)
def Ez {a:Int}(h:a≠0):(a:Rat)≠0:=fun e=>h (by exact_mod_cast e)
def ő {a g:Int}(I:g≠0)(o:g ∣ a)(z:g ∣ b)(F:b≠0):((a / g:Int):Rat) / ((b / g:Int):Rat)=(a:Rat) / (b:Rat):=by
 obtain⟨L,rfl⟩:=o;obtain⟨K,rfl⟩:=z;have h:K≠0:=fun e=>F (by rw[e,Int.mul_zero]);rw[Int.mul_ediv_cancel_left _ I,Int.mul_ediv_cancel_left _ I,Rat.intCast_mul,Rat.intCast_mul];have h1:=Ez I;have V:=Ez h
 grind
def Nl {num den:Int}{f:cZ}(L:den≠0)(h:me num den=(0,f)):cm f=(num:Rat) / (den:Rat)/\ed f:=by
 unfold me at h;simp only at h;generalize V:(if den<0 then -num else num)=n at h;generalize F:(if den<0 then -den else den)=d at h;have z:0<d:=by rw[<-F];split<;>omega
 split at h
 ·exact absurd (show (5:Int)=0 from congrArg Prod.fst h) (by decide)
 rename_i K;have e:f=⟨n / (Int.gcd n d:Int),d / (Int.gcd n d:Int)⟩:=(congrArg Prod.snd h).symm;have I:0<(Int.gcd n d:Int):=by
  have:=Int.gcd_pos_of_ne_zero_right n (show d≠0 by omega);omega
 subst e;replace K:¬(1099511627776<((n / (Int.gcd n d:Int)).natAbs:Int)\/1048576<d / (Int.gcd n d:Int)):=by
  intro o;apply K;rcases o with o|o
  ·left;omega
  exact .inr o
 have h1:cm ⟨n / (Int.gcd n d:Int),d / (Int.gcd n d:Int)⟩=(n:Rat) / (d:Rat):=ő (by omega) (Int.gcd_dvd_left ..) (Int.gcd_dvd_right ..) (by omega);refine⟨?_,?_,?_,?_,?_,?_⟩
 ·rw[h1,<-V,<-F]
  have:=Ez L;split
  ·rw[Rat.intCast_neg,Rat.intCast_neg];grind
  rfl
 ·exact Int.le_ediv_of_mul_le I (by have:=Int.le_of_dvd z (Int.gcd_dvd_right (a:=n) (b:=d));omega)
 ·simp only;omega
 ·simp only;omega
 ·simp only;omega
 simp only;rw[Int.gcd_ediv_gcd_ediv_gcd (by omega)]
def kl (a b:cZ):Int × cZ:=if ¬ed a\/¬ed b then (2,⟨0,0⟩) else me (a.num*b.den+b.num*a.den) (a.den*b.den)
def ET (a b:cZ):Int × cZ:=if ¬ed a\/¬ed b then (2,⟨0,0⟩) else me (a.num*b.den-b.num*a.den) (a.den*b.den)
def sP (a b:cZ):Int × cZ:=if ¬ed a\/¬ed b then (2,⟨0,0⟩) else ut a.num a.den b.num b.den
def oW (h:Int)(a b:cZ):Int × cZ:=if ¬ed a\/¬ed b then (2,⟨0,0⟩) else if b.num=0 then (h,⟨0,0⟩) else if b.num<0 then ut (-a.num) a.den b.den (-b.num) else ut a.num a.den b.den b.num
def zw {a b f:cZ}(h:kl a b=(0,f)):ed a/\ed b/\ed f/\cm f=cm a+cm b:=by
 unfold kl at h;split at h
 ·exact absurd (show (2:Int)=0 from congrArg Prod.fst h) (by decide)
 rename_i z;have F:ed a:=Classical.byContradiction fun o=>z (.inl o);have K:ed b:=Classical.byContradiction fun o=>z (.inr o);have a1:=F.1;have b1:=K.1;have L:a.den*b.den≠0:=by have:=Int.mul_pos (show 0<a.den by omega) (show 0<b.den by omega);omega
 obtain⟨h1,V⟩:=Nl L h;refine⟨F,K,V,?_⟩;rw[h1,Rat.intCast_add,Rat.intCast_mul,Rat.intCast_mul,Rat.intCast_mul];unfold cm;have c1:=Ez (show a.den≠0 by omega);have c2:=Ez (show b.den≠0 by omega)
 grind
def fK (f:cZ):cZ:=if ed f then f else ⟨0,1⟩
def lQ (a b:cZ):Int:=if (fK a).num*(fK b).den<(fK b).num*(fK a).den then -1 else if (fK b).num*(fK a).den<(fK a).num*(fK b).den then 1 else 0
def Dc {a c d:Int}(z:0<b)(F:0<d):a*d<c*b↔(a:Rat) / (b:Rat)<(c:Rat) / (d:Rat):=by
 have c1:(0:Rat)<(b:Rat):=by exact_mod_cast z
 have c2:(0:Rat)<(d:Rat):=by exact_mod_cast F
 have e:((c:Rat) / (d:Rat)-(a:Rat) / (b:Rat))*((b:Rat)*(d:Rat))=(c:Rat)*(b:Rat)-(a:Rat)*(d:Rat):=by grind
 have o:=Rat.mul_pos c1 c2;have k:a*d<c*b↔(a:Rat)*(d:Rat)<(c:Rat)*(b:Rat):=by
  rw[<-Rat.intCast_mul,<-Rat.intCast_mul];constructor
  ·intro h;exact_mod_cast h
  intro h;exact_mod_cast h
 rw[k];constructor
 ·intro h
  refine Classical.byContradiction fun K=>?_;have:=Rat.mul_nonneg (a:=(a:Rat) / (b:Rat)-(c:Rat) / (d:Rat)) (by grind) (Rat.le_of_lt o)
  grind
 intro h;have:=Rat.mul_pos (a:=(c:Rat) / (d:Rat)-(a:Rat) / (b:Rat)) (by grind) o
 grind
def Ul {a b:cZ}(L:ed a)(V:ed b):(lQ a b<0↔cm a<cm b)/\(lQ a b=0↔cm a=cm b):=by
 have a1:=L.1;have b1:=V.1;have h1:=Dc (a:=a.num) (b:=a.den) (c:=b.num) (d:=b.den) (by omega) (by omega);have K:=Dc (a:=b.num) (b:=b.den) (c:=a.num) (d:=a.den) (by omega) (by omega);have e1:(a.num:Rat) / (a.den:Rat)=cm a:=rfl;have e2:(b.num:Rat) / (b.den:Rat)=cm b:=rfl;rw[e1,e2]at h1 K;unfold lQ fK;rw[if_pos L,if_pos V];by_cases o:a.num*b.den<b.num*a.den
 ·rw[if_pos o]
  have z:=h1.1 o;exact⟨⟨fun _=>z,fun _=>by decide⟩,⟨fun h=>absurd h (by decide),fun h=>by grind⟩⟩
 rw[if_neg o];have z:¬cm a<cm b:=fun h=>o (h1.2 h);by_cases F:b.num*a.den<a.num*b.den
 ·rw[if_pos F]
  have h6:=K.1 F;exact⟨⟨fun h=>absurd h (by decide),fun h=>absurd h z⟩,⟨fun h=>absurd h (by decide),fun h=>by grind⟩⟩
 rw[if_neg F];have h6:¬cm b<cm a:=fun h=>F (K.2 h);exact⟨⟨fun h=>absurd h (by decide),fun h=>absurd h z⟩,⟨fun _=>by grind,fun _=>rfl⟩⟩
def lD (f:cZ):Int:=if (fK f).num.tdiv (fK f).den*(fK f).den<(fK f).num then (fK f).num.tdiv (fK f).den+1 else (fK f).num.tdiv (fK f).den
def Ns {f:cZ}(z:ed f){k:Int}(h:cm f<=(k:Rat)):lD f<=k:=by
 have h1:=z.1;have c1:(0:Rat)<(f.den:Rat):=by exact_mod_cast (show 0<f.den by omega)
 have L:f.num<=k*f.den:=by
  have F:=Rat.mul_nonneg (a:=(k:Rat)-cm f) (b:=(f.den:Rat)) (by grind) (Rat.le_of_lt c1);have K:cm f*(f.den:Rat)=(f.num:Rat):=by unfold cm;grind
  have o:(f.num:Rat)<=(k:Rat)*(f.den:Rat):=by grind
  rw[<-Rat.intCast_mul]at o
  exact_mod_cast o
 have V:=Int.tmod_lt_of_pos f.num (show 0<f.den by omega);have h7:=Int.lt_tmod_of_pos f.num (show 0<f.den by omega);have K:=Int.tdiv_mul_add_tmod f.num f.den;unfold lD fK;rw[if_pos z];obtain⟨q,hq⟩:∃ q,q=f.num.tdiv f.den:=⟨_,rfl⟩
 rw[<-hq]at K ⊢;split
 ·rename_i F
  have:q*f.den<k*f.den:=by omega
  have:=Int.lt_of_mul_lt_mul_right this (by omega);omega
 have F:q*f.den-f.den<k*f.den:=by omega
 have o:(q-1)*f.den<k*f.den:=by rw[Int.sub_mul,Int.one_mul];exact F
 have:=Int.lt_of_mul_lt_mul_right o (by omega);omega
def Uw {f:cZ}(h:0<=f.num):0<=lD f:=by
 have key:0<=(fK f).num/\1<=(fK f).den:=by
  unfold fK;split
  ·rename_i o;exact⟨h,o.1⟩
  decide
 have:=Int.tdiv_nonneg key.1 (show 0<=(fK f).den by omega);unfold lD;split<;>omega
def mf:cZ->List cZ->Int × cZ
 | s,[]=>(0,s)
 | s,f::l=>if (kl s f).1=0 then mf (kl s f).2 l else ((kl s f).1,⟨0,0⟩)
def Nq:∀ {l:List cZ}{s f:cZ},mf s l=(0,f)->ed s->ed f/\cm f=cm s+dw (fun i=>cm (l.getD i ⟨0,1⟩)) l.length
 | [],s,f,h,z=>by
  have e:f=s:=(congrArg Prod.snd h).symm;subst e
  exact⟨z,by show _=_+(0:Rat);grind⟩
 | x::l,s,f,h,z=>by
  unfold mf at h;split at h
  ·rename_i o
   obtain⟨_,_,F,K⟩:=zw (f:=(kl s x).2) (show kl s x=(0,(kl s x).2) by rw[<-o]);obtain⟨g1,g2⟩:=Nq h F;refine⟨g1,?_⟩;rw[g2,K,length_cons];have key:∀ n,dw (fun i=>cm ((x::l).getD i ⟨0,1⟩)) (n+1)=cm x+dw (fun i=>cm (l.getD i ⟨0,1⟩)) n:=by
    intro n
    induction n with
    | zero=>show (0:Rat)+cm x=cm x+0;grind
    | succ n L =>
     show dw (fun i=>cm ((x::l).getD i ⟨0,1⟩)) (n+1)+cm ((x::l).getD (n+1) ⟨0,1⟩)=cm x+(dw (fun i=>cm (l.getD i ⟨0,1⟩)) n+cm (l.getD n ⟨0,1⟩))
     rw[L,getD_cons_succ];grind
   rw[key];grind
  rename_i o;exact absurd (show (kl s x).1=0 from congrArg Prod.fst h) o
def dF:cZ:=⟨0,0⟩
structure oY where
 fu:List (List cZ)
 right:List cZ
 qQ:List Int
 aG:List cZ
 value:cZ
def qR (x f y:cZ):Int × cZ:=if (sP f y).1=0 then ET x (sP f y).2 else ((sP f y).1,dF)
def mE (f:cZ):List cZ->List cZ->Int × List cZ
 | x::row,y::piv=>if (qR x f y).1=0 then (if (mE f row piv).1=0 then (0,(qR x f y).2::(mE f row piv).2) else ((mE f row piv).1,[])) else ((qR x f y).1,[])
 | [],_=>(0,[])
 | _::_,[]=>(0,[])
def vR (p:cZ):List cZ->Int × List cZ
 | []=>(0,[])
 | x::row=>if (oW 22 x p).1=0 then (if (vR p row).1=0 then (0,(oW 22 x p).2::(vR p row).2) else ((vR p row).1,[])) else ((oW 22 x p).1,[])
def gX (r k:Nat)(h:List cZ)(o:cZ):Nat->List (List cZ)->List cZ->Int × List (List cZ) × List cZ
 | i,row::fu,x::right =>
  if i=r then
   (if (gX r k h o (i+1) fu right).1=0 then (0,h::(gX r k h o (i+1) fu right).2.1,o::(gX r k h o (i+1) fu right).2.2) else ((gX r k h o (i+1) fu right).1,[],[]))
  else if (mE (row.getD k dF) row h).1=0 then
   (if (qR x (row.getD k dF) o).1=0 then
    (if (gX r k h o (i+1) fu right).1=0 then (0,(mE (row.getD k dF) row h).2::(gX r k h o (i+1) fu right).2.1,(qR x (row.getD k dF) o).2::(gX r k h o (i+1) fu right).2.2) else ((gX r k h o (i+1) fu right).1,[],[]))
   else ((qR x (row.getD k dF) o).1,[],[]))
  else ((mE (row.getD k dF) row h).1,[],[])
 | _,[],_=>(0,[],[])
 | _,_::_,[]=>(0,[],[])
def BM (S:oY)(r k:Nat):Int × oY :=
 let e:=(S,S)
 if (vR ((S.fu.getD r []).getD k dF) (S.fu.getD r [])).1≠0 then ((vR ((S.fu.getD r []).getD k dF) (S.fu.getD r [])).1,e.1) else
 if (oW 22 (S.right.getD r dF) ((S.fu.getD r []).getD k dF)).1≠0 then ((oW 22 (S.right.getD r dF) ((S.fu.getD r []).getD k dF)).1,e.1) else
 let h:=(vR ((S.fu.getD r []).getD k dF) (S.fu.getD r [])).2
 let o:=(oW 22 (S.right.getD r dF) ((S.fu.getD r []).getD k dF)).2
 if (gX r k h o 0 S.fu S.right).1≠0 then ((gX r k h o 0 S.fu S.right).1,e.1) else
 if (mE (S.aG.getD k dF) S.aG h).1≠0 then ((mE (S.aG.getD k dF) S.aG h).1,e.1) else
 if (sP (S.aG.getD k dF) o).1≠0 then ((sP (S.aG.getD k dF) o).1,e.1) else
 if (kl S.value (sP (S.aG.getD k dF) o).2).1≠0 then ((kl S.value (sP (S.aG.getD k dF) o).2).1,e.1) else
 (0,⟨(gX r k h o 0 S.fu S.right).2.1,(gX r k h o 0 S.fu S.right).2.2,S.qQ.set r (k:Int),(mE (S.aG.getD k dF) S.aG h).2,(kl S.value (sP (S.aG.getD k dF) o).2).2⟩)
def Fk (S:oY)(k:Nat)(m:Nat):List Nat:=(List.range m).filter fun i=>0<((S.fu.getD i []).getD k dF).num
def xq (S:oY)(k:Nat):Int->cZ->List Nat->Int × Int
 | h,_,[]=>(0,h)
 | h,dm,i::l =>
  if (oW 22 (S.right.getD i dF) ((S.fu.getD i []).getD k dF)).1≠0 then ((oW 22 (S.right.getD i dF) ((S.fu.getD i []).getD k dF)).1,0)
  else if h<0\/lQ (oW 22 (S.right.getD i dF) ((S.fu.getD i []).getD k dF)).2 dm<0\/(lQ (oW 22 (S.right.getD i dF) ((S.fu.getD i []).getD k dF)).2 dm=0/\S.qQ.getD i 0<S.qQ.getD h.toNat 0)
   then xq S k (i:Int) (oW 22 (S.right.getD i dF) ((S.fu.getD i []).getD k dF)).2 l
   else xq S k h dm l
def qS (S:oY)(k m:Nat):Int × Int :=
 match Fk S k m with
 | []=>(0,-1)
 | [i]=>(0,(i:Int))
 | l=>xq S k (-1) ⟨0,1⟩ l
end
section
open Go.Sl Go
section
variable {t:aa}{Z:J}{u n k:Nat}
end
end
section
open Go.Sl
structure ta (n:Nat) (N:Nat->Nat) (C:Nat):Prop where
 bd:∀ v,ib C v->v<n
 tl:∀ u v,ib C u->ib C v->u≠v->ib (N u) v
def qT {x v u:Nat}:ib (x ||| 2 ^ v) u↔ib x u\/u=v:=by
 unfold ib;rw[testBit_or,yz,pO,gR];constructor
 ·rintro (h|h)
  ·exact .inl h
  exact .inr h.symm
 rintro (h|h)
 ·exact .inl h
 exact .inr h.symm
def Ol {n:Nat}{N:Nat->Nat}(hG:Gr n N):∀ (m:Nat) (C:Nat),ta n N C->2 ^ n-C<=m->∃ C',tT n N C'/\∀ v,ib C v->ib C' v:=by
 intro m
 induction m with
 | zero =>
  intro C z hm;exfalso;have:C<2 ^ n:=JR C fun i hi=>qX.2 fun h=>by have:=z.bd i h;omega
  omega
 | succ m ih =>
  intro C z hm;by_cases hx:∃ u,u<n/\¬ib C u/\∀ v,ib C v->ib (N u) v
  ·obtain⟨u,hu,F,o⟩:=hx
   have H':C<C ||| 2 ^ u:=by
    have h1:C<=C ||| 2 ^ u:=left_le_or;have h2:C≠C ||| 2 ^ u:=fun e=>F (by rw[e];exact qT.2 (.inr rfl));omega
   have j':ta n N (C ||| 2 ^ u):=⟨fun v hv=>by
     rcases qT.1 hv with hv|rfl
     ·exact z.bd v hv
     ·exact hu,fun a b ha hb L=>by
     rcases qT.1 ha with V|ea
     ·rcases qT.1 hb with K|eb
      ·exact z.tl a b V K L
      rw[eb];exact hG.sym _ _ (o a V)
     rcases qT.1 hb with K|eb
     ·rw[ea];exact o b K
     exact absurd (ea.trans eb.symm) L⟩
   have K:C<2 ^ n:=JR C fun i hi=>qX.2 fun h=>by have:=z.bd i h;omega
   obtain⟨C',h1,h2⟩:=ih _ j' U;exact⟨C',h1,fun v hv=>h2 v (qT.2 (.inl hv))⟩
  exact⟨C,⟨z.bd,z.tl,fun u hu F=>nl fun o=>hx ⟨u,hu,F,fun v hv=>nl fun K=>o ⟨v,hv,K⟩⟩⟩,fun v hv=>hv⟩
def kJ (n:Nat)(N:Nat->Nat)(Cs:List J):Prop:=∀ l,l∈Cs↔∃ C,tT n N C/\l=dy C n
def FU {a b v:Nat}:ib (a &&& b) v↔ib a v/\ib b v:=by
 unfold ib;rw[GL,Bool.and_eq_true]
def Di {a b v:Nat}:ib (a ||| b) v↔ib a v\/ib b v:=by
 unfold ib;rw[testBit_or,pO]
def FS {k v:Nat}:ib (2 ^ k) v↔v=k:=by
 unfold ib;rw[yz,gR];exact⟨fun h=>h.symm,fun h=>h.symm⟩
def Œ {a v:Nat}(o:a<18446744073709551616)(h:ib a v):v<64:=J8 fun eH=>by
 unfold ib at h;rw[Cu (A4 (show a<2 ^ 64 from o) (ym dc eH))]at h;cases h
def Od {a b v:Nat}(F:a<18446744073709551616)(o:b<18446744073709551616):ib (a &&& pZ b) v↔ib a v/\¬ib b v:=by
 rw[FU];constructor
 ·rintro⟨h1,h⟩
  refine⟨h1,fun z=>?_⟩;unfold ib at h z;rw[RR o,z]at h;simp at h
 rintro⟨h1,h⟩;refine⟨h1,?_⟩;unfold ib at h ⊢;rw[RR o,dY (Œ F h1),qX.2 h];rfl
def Vb {a b v:Nat}(h1:ib a v)(h2:¬ib b v):a &&& b<a:=by
 have h:=B9 (n:=a) (m:=b);have o:a &&& b≠a:=fun e=>by
  rw[<-e]at h1;exact h2 (FU.1 h1).2
 omega
def uz {x:Nat}(h:x=0)(v:Nat):¬ib x v:=by subst h;simp[ib]
def N8 {x:Nat}(h:∀ v,¬ib x v):x=0:=Cy fun i=>by rw[zero_testBit];exact qX.2 (h i)
structure jW (n:Nat) (N:Nat->Nat) (R P l:Nat) (r:Bool) (M':List Nat):Prop where
 nd:M'.Nodup
 mem:∀ C∈M',kc n N R P C
 all:r=true->∀ C,kc n N R P C->C∈M'
 le:r=true->l+M'.length<=4096
 gt:r=false->l+M'.length=4097
structure FI (n:Nat) (N:Nat->Nat) (R P l q p x:Nat) (M':List Nat):Prop where
 bi:BI n N R p x
 I5:p<=P
 qp:∀ v,ib q v->ib p v
 BN:∀ C,kc n N R p C->∃ u,ib C u/\ib q u
 nd:M'.Nodup
 mem:∀ C∈M',kc n N R P C/\¬kc n N R p C
 all:∀ C,kc n N R P C->C∈M'\/kc n N R p C
 sub:∀ C,kc n N R p C->kc n N R P C
 le:l+M'.length<=4096
section
variable {n:Nat}{N:Nat->Nat}{R P X' l q p x:Nat}{M':List Nat}
def jW.eO (h:BI n N R P X')(F:P=0)(K:X'=0)(L:l<=4096):jW n N R P l (decide (l+1<=4096)) [R] where
 nd:=sm
 mem C o:=by rw[dp.1 o];exact(h.eO (uz F) (uz K)).2 rfl
 all _ C o:=dp.2 ((h.eO (uz F) (uz K)).1 o)
 le z:=by simpa using z
 gt z:=by simp at z;simp;omega
def FI.start (z:Gr n N)(h:BI n N R P X'){u:Nat}(hu:ib P u\/ib X' u)(hq:∀ v,ib q v↔ib P v/\¬ib (N u) v)(F:l<=4096):FI n N R P l q P X' [] where
 bi:=h
 I5:=cz _
 qp v hv:=((hq v).1 hv).1
 BN C o:=by
  obtain⟨w,h1,K,L⟩:=h.pivot z hu o;exact⟨w,h1,(hq w).2 ⟨K,L⟩⟩
 nd:=zC
 mem C o:=by simp at o
 all C o:=.inr o
 sub _ o:=o
 le:=by simpa using F
def FI.step (hG:Gr n N)(h:FI n N R P l q p x M'){v R1 P1 V x' q':Nat}{M1:List Nat}(hv:ib q v)(h1:∀ u,ib R1 u↔ib R u\/u=v)(h2:∀ u,ib P1 u↔ib p u/\ib (N v) u)(K:jW n N R1 P1 (l+M'.length) true M1)
  (hp:∀ u,ib V u↔ib p u/\u≠v)(hx:∀ u,ib x' u↔ib x u\/u=v)(hq:∀ u,ib q' u↔ib q u/\u≠v)(L:V<=p):FI n N R P l q' V x' (M'++M1):=by
 have F:=fun C=>h.bi.split (C:=C) hG (h.qp v hv) h1 h2 hp;refine⟨h.bi.next (h.qp v hv) hp hx,oD L h.I5,fun u hu=>?_,fun C o=>?_,?_,fun C o=>?_,fun C o=>?_,fun C o=>h.sub C ((F C).1.2 (.inr o)),?_⟩
 ·have:=(hq u).1 hu
  exact(hp u).2 ⟨h.qp u this.1,this.2⟩
 ·obtain⟨u,a,b⟩:=h.BN C ((F C).1.2 (.inr o))
  have z:=(F C).2.2 o;exact⟨u,a,(hq u).2 ⟨b,fun e=>z (e ▸ a)⟩⟩
 ·refine zM.2 ⟨h.nd,K.nd,fun a z b hb e=>?_⟩
  subst e;exact(h.mem a z).2 ((F a).1.2 (.inl (K.mem a hb)))
 ·rcases gK.1 o with o|o
  ·exact⟨(h.mem C o).1,fun z=>(h.mem C o).2 ((F C).1.2 (.inr z))⟩
  have hc:=K.mem C o;exact⟨h.sub C ((F C).1.2 (.inl hc)),fun z=>(F C).2.2 z ((F C).2.1 hc)⟩
 ·rcases h.all C o with z|z
  ·exact .inl (yA _ z)
  rcases (F C).1.1 z with z|z
  ·exact .inl (Gh _ (K.all rfl C z))
  exact .inr z
 have:=K.le rfl;rw[length_append];omega
def FI.fail (V:Gr n N)(h:FI n N R P l q p x M'){v:Nat}{K:List Nat}(hv:ib q v)(h1:∀ u,ib R1 u↔ib R u\/u=v)(h2:∀ u,ib P1 u↔ib p u/\ib (N v) u)(z:jW n N R1 P1 (l+M'.length) false K) :
  jW n N R P l false (M'++K):=by
 have L:=fun C=>(h.bi.split (C:=C) (P2:=p &&& (p ^^^ 2 ^ v)) V (h.qp v hv) h1 h2 (fun u=>by
  unfold ib;rw[GL,testBit_xor,yz];by_cases e:u=v
  ·subst e
   have o:p.testBit u=true:=h.qp u hv;simp[o]
  have o:¬v=u:=fun F=>e F.symm
  simp[e,o])).1.2
 refine⟨zM.2 ⟨h.nd,z.nd,fun a ha b hb e=>?_⟩,fun C o=>?_,fun F=>(by cases F),fun F=>(by cases F),fun _=>?_⟩
 ·subst e
  exact(h.mem a ha).2 (L a (.inl (z.mem a hb)))
 ·rcases gK.1 o with o|o
  ·exact(h.mem C o).1
  exact h.sub C (L C (.inl (z.mem C o)))
 have:=z.gt rfl;rw[length_append];omega
def FI.done (h:FI n N R P l q p x M')(hq:q=0):jW n N R P l true M':=by
 have z:∀ C,¬kc n N R p C:=fun C o=>by
  obtain⟨u,_,hu⟩:=h.BN C o;exact uz hq u hu
 exact⟨h.nd,fun C o=>(h.mem C o).1,fun _ C o=>(h.all C o).elim id fun F=>absurd F (z C),fun _=>h.le,fun K=>(by cases K)⟩
end
def OK {α:Type}[DecidableEq α]:∀ {L M':List α},L.Nodup->(∀ x∈L,x∈M')->L.length<=M'.length
 | [],_,_,_=>br _
 | x::L,M',z,h=>by
  obtain⟨h1,F⟩:=vk.1 z;have hx:=h x gA;have K:=OK (L:=L) (M':=M'.erase x) F fun y o=>(Gm (fun (e:y=x)=>by subst e;exact h1 o)).2 (h y (iR _ o));rw[DB hx]at K;have:=Gn hx;simp only[length_cons];omega
structure x9 where
 op:Int
 fc:Int
 aO:Int
 aK:Int
 aw:Value
def kY:Ty x9:=⟨5,fun u=>[E u.op,E u.fc,E u.aO,E u.aK,u.aw],fun _=>rfl,⟨0,0,0,0,nS⟩⟩
instance Ng:nB kY:=⟨au⟩
structure LK (w:World) (v:x9) (u:Un):Prop where
 op:v.op=u.op
 fc:v.fc=u.fc
 aO:v.aO=u.aO
 aK:v.aK=u.aK
 aw:RS O w v.aw u.aw
def nI (vs:List x9)(us:List Un)(w:World):Prop:=∀ i:Nat,i<us.length->LK w (az kY vs i) (un us i)
def dE (vars:J)(k:Nat):J:=(List.range k).map (bC vars)
def Ae (vars:J)(k:Nat):(dE vars k).length=k:=by simp[dE]
def ï {vars:J}{k i:Nat}(h:i<k):(dE vars k).getD i O.dflt=bC vars i:=by simp[dE,List.getD,h]
def Q1 (vars:J)(k:Nat):dE vars (k+1)=dE vars k++[bC vars k]:=by simp[dE,lz]
def km (U':List Un)(u:Un)(i N:Nat):List J:=(List.range N).map fun (f:Nat)=>eh U' f++(if (f:Int)∈u.aw.take i then [(U'.length:Int)] else [])
def gg (U':List Un)(N:Nat):List J:=(List.range N).map fun (f:Nat)=>eh U' f
def SA (U':List Un)(u:Un)(i N:Nat):(km U' u i N).length=N:=by simp[km]
def KK (U':List Un)(N:Nat):(gg U' N).length=N:=by simp[gg]
def YA {U':List Un}{N f:Nat}(h:f<N):(gg U' N).getD f []=eh U' f:=by simp[gg,List.getD,h]
def Yx (N:Nat):gg [] N=replicate N []:=by
 apply iA (by simp[gg]);intro i h1 h;simp[gg,eh]
def ò (U':List Un)(u:Un)(N:Nat):km U' u 0 N=gg U' N:=by simp[km,gg]
def œ (U':List Un)(u:Un)(f:Int):eh (U'++[u]) f=eh U' f++(if f∈u.aw then [(U'.length:Int)] else []):=by
 unfold eh;rw[length_append,tr,lz,A6,pX];have h1:(List.range U'.length).filter (fun (i:Nat)=>decide (f∈(un (U'++[u]) i).aw))=(List.range U'.length).filter fun (i:Nat)=>decide (f∈(un U' i).aw):=Gu fun i o=>by
  have o:=mem_range.1 o;have:un (U'++[u]) i=un U' i:=by unfold un;simp[List.getD,js o]
  rw[this]
 have z:un (U'++[u]) (U'.length:Nat)=u:=by unfold un;simp[List.getD]
 rw[h1];congr 1;simp only[we,Gv];rw[z];by_cases h:f∈u.aw
 ·simp[h]
 simp[h]
def õ (U':List Un)(u:Un)(N:Nat):km U' u u.aw.length N=gg (U'++[u]) N:=by
 unfold km gg;refine xK fun f _=>?_;rw[œ,lL]
def Tz {U':List Un}{u:Un}{i N f:Nat}(h:f<N):(km U' u i N).getD f []=eh U' f++(if (f:Int)∈u.aw.take i then [(U'.length:Int)] else []):=by simp[km,List.getD,h]
def ô {U':List Un}{u:Un}{i N:Nat}(hi:i<u.aw.length)(L:u.aw.Nodup)(V:∀ n∈u.aw,0<=n/\n<N):(km U' u i N).set (u.aw.getD i O.dflt).toNat ((km U' u i N).getD (u.aw.getD i O.dflt).toNat []++[(U'.length:Int)])=km U' u (i+1) N:=by
 have hm:=V _ (cD O.dflt hi);have z:u.aw.getD i O.dflt∉u.aw.take i:=by
  rw[al hi];intro h;obtain⟨j,K,he⟩:=fF h;rw[jf]at K;rw[Dx]at he
  exact absurd he (by
   have:=v7.1 L j i U hi U
   exact this)
 have F:u.aw.take (i+1)=u.aw.take i++[u.aw.getD i O.dflt]:=eD O.dflt hi;rw[Tz U,aH (by rw[fZ hm.1];exact z),fI];apply iA (by simp[km]);intro j h1 h2;rw[sb];have K:j<N:=by simpa [km] using h2
 simp only[km,mL,qW];rw[F];split
 ·rename_i e
  subst e;rw[fZ hm.1,aP sm]
 rename_i e;have e2:(j:Int)≠u.aw.getD i O.dflt:=fun h=>e (by rw[<-h];rfl);by_cases h:(j:Int)∈u.aw.take i
 ·rw[aP h,aP (yA _ h)]
 rw[aH h,aH (by simp only[gK,dp];exact fun hh=>hh.elim h e2)]
def TA (U':List Un)(f:Int):(eh U' f).length<=U'.length:=by
 unfold eh;rw[iW];exact oD (ux _ _) sm
def ó (U':List Un)(u:Un)(i N f:Nat):((km U' u i N).getD f []).length<=U'.length+1:=by
 by_cases h:f<N
 ·rw[Tz h]
  have:=TA U' f;split<;>simp<;>omega
 simp[km,List.getD,h]
def dS (U':List Un):J:=((List.range U'.length).filter fun (i:Nat)=>decide ((un U' i).aw=[])).map fun (i:Nat)=>(i:Int)
def Yy:dS []=[]:=by simp[dS]
def TB {U':List Un}{i:Int}:i∈dS U'↔∃ k:Nat,i=k/\k<U'.length/\(un U' k).aw=[]:=by
 unfold dS;simp only[iQ,rP,mem_range,gR];constructor
 ·rintro⟨k,⟨h1,h⟩,rfl⟩;exact⟨k,rfl,h1,h⟩
 rintro⟨k,rfl,h1,h⟩;exact⟨k,⟨h1,h⟩,rfl⟩
def SB (U':List Un):(dS U').length<=U'.length:=by
 unfold dS;rw[iW];exact oD (ux _ _) sm
def SC (U':List Un)(u:Un):dS (U'++[u])=dS U'++(if u.aw=[] then [(U'.length:Int)] else []):=by
 unfold dS;rw[length_append,tr,lz,A6,pX];have h1:(List.range U'.length).filter (fun (i:Nat)=>decide ((un (U'++[u]) i).aw=[]))=(List.range U'.length).filter fun (i:Nat)=>decide ((un U' i).aw=[]):=Gu fun i o=>by
  have o:=mem_range.1 o;have:un (U'++[u]) i=un U' i:=by unfold un;simp[List.getD,js o]
  rw[this]
 have z:un (U'++[u]) (U'.length:Nat)=u:=by unfold un;simp[List.getD]
 rw[h1];congr 1;simp only[we,Gv];rw[z];by_cases h:u.aw=[]
 ·simp[h]
 simp[h]
def QY {U':List Un}{u:Un}{i:Nat}(h:i<U'.length):un (U'++[u]) i=un U' i:=by unfold un;simp[List.getD,js h]
def Q0 {U':List Un}{u:Un}:un (U'++[u]) (U'.length:Nat)=u:=by unfold un;simp[List.getD]
def nb (D:J)(g v:Int):J:=if v<dg D g then D.set g.toNat v else D
def rB (D:J)(Q:List cB)(g v:Int):List cB:=if v<dg D g then ⟨v,g⟩::Q else Q
def Mk (D:J)(Q:List cB)(g v:Int):(rB D Q g v).length<=Q.length+1:=by unfold rB;split<;>simp
def Ih {D:J}{N:Nat}(o:D.length=N){g v:Int}(I:0<=g/\g<N){x:Int}(hx:0<=x):dg (D.set g.toNat v) x=if x=g then v else dg D x:=by
 unfold dg;by_cases e:x=g
 ·rw[aP e,e]
  have h:g.toNat<D.length:=U;simp[List.getD,h]
 rw[aH e];simp only[List.getD];rw[tn U]
def Ii {D:J}{N:Nat}(o:D.length=N){g v:Int}(I:0<=g/\g<N){x:Int}(hx:0<=x):dg (nb D g v) x<=dg D x:=by
 unfold nb;split
 ·rw[Ih o I hx]
  split
  ·rename_i h e;rw[e];omega
  exact du _
 exact du _
def Ml {D:J}{N:Nat}(h:D.length=N){g v:Int}(I:0<=g/\g<N):dg (nb D g v) g<=v:=by
 unfold nb;split
 ·rw[Ih h I I.1,aP rfl];exact du _
 omega
def Ŕ {D:J}{N:Nat}(o:D.length=N){g v:Int}(I:0<=g/\g<N){x m:Int}(hx:0<=x)(hm:dg D x=m)(hv:m<=v):dg (nb D g v) x=m:=by
 unfold nb;split
 ·rw[Ih o I hx]
  split
  ·rename_i h e;rw[<-e]at h;omega
  exact hm
 exact hm
structure vD (U':List Un) (S:Int->Prop) (N:Nat) (D:J) (Q:List cB):Prop where
 dl:D.length=N
 dC:∀ g:Int,0<=g->g<N->0<=dg D g/\dg D g<=bD
 qD:∀ g:Int,0<=g->g<N->dg D g<bD->jK U' S g (dg D g)
 ou:∀ g:Int,0<=g->g<N->dg D g<bD->∃ x∈Q,x.aQ=g/\x.bN=dg D g
 nF:∀ x∈Q,(0<=x.aQ/\x.aQ<N)/\dg D x.aQ<=x.bN/\0<=x.bN/\x.bN<bD
section
variable {U':List Un}{S:Int->Prop}{N:Nat}{D lf dn:J}{Q:List cB}{m f:Int}{ok:Nat->Prop}
def vD.cE (U':List Un)(S:Int->Prop)(N:Nat):vD U' S N (replicate N bD) []:=by
 have h:∀ g:Int,0<=g->g<N->dg (replicate N bD) g=bD:=fun g o h1=>by
  unfold dg;have:g.toNat<N:=U;simp[List.getD,zJ,this]
 exact⟨sm,fun g o h1=>by rw[h g o h1];exact⟨dc,du _⟩,fun g o h1 z=>by rw[h g o h1]at z;exact absurd z (GO _),fun g o h1 z=>by rw[h g o h1]at z;exact absurd z (GO _),fun x hx=>by simp at hx⟩
def vD.nK (h:vD U' S N D Q)(o:Q'.Perm Q):vD U' S N D Q' :=
 { h with
  ou:=fun g a b c=>let ⟨x,hx,z⟩:=h.ou g a b c;⟨x,o.mem_iff.2 hx,z⟩
  nF:=fun x hx=>h.nF x (o.mem_iff.1 hx) }
def vD.Ij (h:vD U' S N D Q){g v:Int}(I:0<=g/\g<N)(hv:0<=v)(hd:jK U' S g v):vD U' S N (nb D g v) (rB D Q g v):=by
 unfold nb rB;by_cases z:v<dg D g
 ·rw[aP z,aP z]
  have hr:=h.dC g I.1 I.2;have o:∀ x:Int,0<=x->dg (D.set g.toNat v) x=if x=g then v else dg D x:=fun x hx=>Ih h.dl I hx
  refine⟨by simp[h.dl],fun x F h1=>?_,fun x F h1 K=>?_,fun x F h1 K=>?_,fun x hx=>?_⟩
  ·rw[o x F];split
   ·exact⟨U,U⟩
   exact h.dC x F h1
  ·rw[o x F]at K ⊢
   split
   ·rename_i e;rw[e];exact hd
   rename_i e;rw[aH e]at K;exact h.qD x F h1 K
  ·rw[o x F]at K ⊢
   by_cases e:x=g
   ·exact⟨⟨v,g⟩,gA,e.symm,by rw[aP e]⟩
   rw[aH e]at K ⊢;obtain⟨y,L,V⟩:=h.ou x F h1 K;exact⟨y,iR _ L,V⟩
  rcases dZ.1 hx with rfl|hx
  ·refine⟨I,?_,hv,by have:=hr.2;show v<bD;omega⟩
   rw[o _ I.1,aP rfl];exact du _
  obtain⟨L,V,e3,e4⟩:=h.nF x hx;have h5:=o x.aQ L.1;refine⟨L,?_,e3,e4⟩;rw[h5];split
  ·rename_i e;rw[e]at V;omega
  exact V
 rw[aH z,aH z];exact h
def vD.start (h:vD U' S N D Q)(L:lf.length=U'.length)(K:∀ i:Nat,i<U'.length->dg lf i=(un U' i).aw.length)(hc:∀ i:Nat,i<U'.length->0<=(un U' i).aO)(o:∀ i:Nat,i<U'.length->(un U' i).aw=[]->dg D (un U' i).aK<=(un U' i).aO):RI U' S N D lf [] Q 0 0 (fun _=>True):=by
 refine⟨h.dl,L,h.dC,h.qD,fun i F _=>by rw[K i F,ň],fun i F V=>absurd trivial V,fun i F _ hn k hk j'=>?_,fun g a b c _=>h.ou g a b c,h.nF,fun g I=>by simp at I,du _,dc⟩;have z:(un U' i).aw=[]:=by
  cases hx:(un U' i).aw with
  | nil=>rfl
  | cons a l=>have:=hn a (by rw[hx];exact gA);simp at this
 have:=o i F z;omega
def RI.Ik (h:RI U' S N D lf dn Q m f ok){ok':Nat->Prop}(hk:∀ i,ok i↔ok' i):RI U' S N D lf dn Q m f ok':=by
 have:ok=ok':=funext fun i=>propext (hk i);rw[<-this];exact h
def RI.Ij (h:RI U' S N D lf dn Q m f ok){g v:Int}(I:0<=g/\g<N)(hm:m<=v)(z:jK U' S g v):RI U' S N (nb D g v) lf dn (rB D Q g v) m f ok:=by
 unfold nb rB;by_cases o:v<dg D g
 ·rw[aP o,aP o];exact h.reach I o hm z
 rw[aH o,aH o];exact h
end
def tA (dn:J)(N:Nat):List Bool:=(List.range N).map fun (g:Nat)=>decide ((g:Int)∈dn)
def ŕ (dn:J)(N:Nat):(tA dn N).length=N:=by simp[tA]
def Ŗ (N:Nat):tA [] N=replicate N false:=by
 apply iA (by simp[tA]);intro i h1 h;simp[tA]
def ŗ {dn:J}{N:Nat}{g:Int}(h:0<=g)(h1:g<N){d:Bool}:(tA dn N).getD g.toNat d=decide (g∈dn):=by
 have:g.toNat<N:=U;simp[tA,List.getD,this,fZ h]
def Ř {dn:J}{N:Nat}{g:Int}(o:0<=g)(h1:g<N):(tA dn N).set g.toNat true=tA (g::dn) N:=by
 apply iA (by simp[tA]);intro i z h;have F:i<N:=by simpa [tA] using h
 rw[sb];simp only[tA,mL,qW];split
 ·rename_i e
  have:(i:Int)=g:=U;simp[this]
 rename_i e;have:(i:Int)≠g:=U;simp[this]
def Il:∀ {N:Nat}{l:J},l.Nodup->(∀ v∈l,0<=v/\v<(N:Int))->l.length<=N
 | 0,l,_,h=>by
  cases l with
  | nil=>exact cz _
  | cons a l=>have:=h a gA;omega
 | n+1,l,z,h=>by
  by_cases hm:(n:Int)∈l
  ·have h1:=Il (N:=n) (z.erase (n:Int)) fun v hv=>by
    have o:=(z.mem_erase_iff).1 hv;have:=h v o.2;have:=o.1;omega
   rw[DB hm]at h1;omega
  have:=Il (N:=n) z fun v hv=>by
   have:=h v hv;have:v≠(n:Int):=fun e=>hm (e ▸ hv);omega
  omega
def Dy {α:Type}{xs:List α}{k:Nat}(d:α)(hk:k<xs.length):xs.drop k=xs.getD k d::xs.drop (k+1):=by
 rw[al hk];exact wG hk
end
section
open Go.Sl Go
def gM:Ty cZ:=⟨2,fun f=>[E f.num,E f.den],fun _=>rfl,⟨0,0⟩⟩
instance Nh:ku gM:=⟨fun x v hv=>by simp only[gM,dZ,fM,pL]at hv;rcases hv with rfl|rfl<;>rfl⟩
end
end Go.Proofs.YtmapkjoefdgjfaaGreatDoor
