/- Several texts. -/
import Derived.Sort.Defs
import Derived.Lib.ItoaNum
import Derived.Test.YtmapkjoefdgjfaaGreatDoorMSlBE
import Derived.Sort.AssemblyPlain
import Derived.Shelf.SlSortCmp.Insertion
import Derived.Lib.ItoaMem
set_option linter.unusedSimpArgs false
set_option linter.unusedVariables false
set_option linter.defProp false
set_option maxRecDepth 8000
set_option maxHeartbeats 16000000
open List Nat
namespace Go.Proofs.YtmapkjoefdgjfaaGreatDoor
open Go.Sl
variable {j P1 R1 y:Nat}{b:Int}{s' acc out':J}{ds:List (Int × Int)}
section
open Go.Sl
structure bp where
 var:Int
 val:Int
 deriving DecidableEq
def aq:Ty bp:=⟨2,fun f=>[E f.var,E f.val],fun _=>rfl,⟨0,0⟩⟩
instance FK:kq aq:=⟨fun x v hv=>by simp only[aq,ee,fI,pP]at hv;rcases hv with rfl|rfl<;>rfl⟩
structure kP where
 bO:List bp
 var:Int
 val:Int
structure km where
 name:ByteArray
 aN:Int
 pre:List bp
 aJ:List kP
structure aa where
 vars:J
 cC:J
 aH:List bp
 M:List km
structure jQ where
 bO:Value
 var:Int
 val:Int
def aV:Ty jQ:=⟨3,fun e=>[e.bO,E e.var,E e.val],fun _=>rfl,⟨nS,0,0⟩⟩
structure iW where
 name:ByteArray
 aN:Int
 pre:Value
 aJ:Value
def cd:Ty iW:=⟨4,fun o=>[.string o.name,E o.aN,o.pre,o.aJ],fun _=>rfl,⟨ByteArray.empty,0,nS,nS⟩⟩
instance FL:nA aV:=⟨az⟩
instance FM:nA cd:=⟨az⟩
def bE:kP:=⟨[],0,0⟩
def bj:km:=⟨ByteArray.empty,0,[],[]⟩
structure rm (w:World) (v:jQ) (e:kP):Prop where
 var:v.var=e.var
 val:v.val=e.val
 bO:RS aq w v.bO e.bO
structure j8 (w:World) (s:Value) (vs:List jQ) (es:List kP):Prop where
 rs:RS aV w s vs
 len:vs.length=es.length
 dJ:∀ i,i<es.length->rm w (au aV vs i) (es.getD i bE)
structure oG (w:World) (v:iW) (o:km):Prop where
 name:v.name=o.name
 size:o.name.size<=9223372036854775807
 aN:v.aN=o.aN
 pre:RS aq w v.pre o.pre
 aJ:∃ vs,j8 w v.aJ vs o.aJ
structure tY (w:World) (s:Value) (vs:List iW) (os:List km):Prop where
 rs:RS cd w s vs
 len:vs.length=os.length
 dJ:∀ i,i<os.length->oG w (au cd vs i) (os.getD i bj)
structure bn (w:World) (a b c d:Value) (vs:List iW) (t:aa):Prop where
 vars:RS W w a t.vars
 cC:RS W w b t.cC
 aH:RS aq w c t.aH
 M:tY w d vs t.M
def rm.one {w:World}{v:jQ}{e:kP}(h:rm w v e):(aV.enc v).all Value.oneCell'=true:=by
 simp only[aV,eD,eN,GQ,h.bO.one];rfl
def oG.one {w:World}{v:iW}{o:km}(h:oG w v o):(cd.enc v).all Value.oneCell'=true:=by
 obtain⟨z,he⟩:=h.aJ;simp only[cd,eD,eN,GQ,h.pre.one,he.rs.one];rfl
def j8.at {w0 w:World}{Γ:List HP}{s:Value}{vs:List jQ}{es:List kP}(h:j8 w0 s vs es)(Y:Z w0 w Γ):j8 w s vs es :=
 ⟨h.rs.at Y,h.len,fun i o=>⟨(h.dJ i o).var,(h.dJ i o).val,(h.dJ i o).bO.at Y⟩⟩
def oG.at {w0 w:World}{Γ:List HP}{v:iW}{o:km}(h:oG w0 v o)(Y:Z w0 w Γ):oG w v o :=
 ⟨h.name,h.size,h.aN,h.pre.at Y,let ⟨z,he⟩:=h.aJ;⟨z,he.at Y⟩⟩
def tY.at {w0 w:World}{Γ:List HP}{s:Value}{vs:List iW}{os:List km}(h:tY w0 s vs os)(Y:Z w0 w Γ):tY w s vs os :=
 ⟨h.rs.at Y,h.len,fun i o=>(h.dJ i o).at Y⟩
def bn.at {w0 w:World}{Γ:List HP}{a b c d:Value}{vs:List iW}{t:aa}(h:bn w0 a b c d vs t)(Y:Z w0 w Γ):bn w a b c d vs t :=
 ⟨h.vars.at Y,h.cC.at Y,h.aH.at Y,h.M.at Y⟩
def cH {α:Type}{xs:List α}{i:Nat}(d:α)(h:i<xs.length):xs.getD i d∈xs:=by simp[List.getD,h]
def am {α:Type}{l:List α}{d:α}{i:Nat}(h:i<l.length):l.getD i d=l[i]:=by simp[List.getD,h]
def cL {p:Prop}(h:¬p):(false=true)↔p:=⟨(fun e=>by cases e),fun e=>absurd e h⟩
def im {p:Prop}(h:p):(true=true)↔p:=⟨fun _=>h,fun _=>rfl⟩
def ab (vars s:J):Prop:=s.length=vars.length/\∀ i,i<s.length->0<=s.getD i W.dflt/\s.getD i W.dflt<vars.getD i W.dflt
def bN (vars:J)(x:bp):Prop:=0<=x.var/\x.var<vars.length/\0<=x.val/\x.val<vars.getD x.var.toNat W.dflt
def dm (vars:J)(f:List bp):Prop:=∀ i,i<f.length->bN vars (f.getD i aq.dflt)/\(0<i->(f.getD (i-1) aq.dflt).var<(f.getD i aq.dflt).var)
def pL (b:ByteArray):Prop:=b.size<=256/\∀ i,i<b.size->32<=yL b i/\yL b i<=126
def gP (vars:J)(e:kP):Prop:=dm vars e.bO/\dm vars [⟨e.var,e.val⟩]
structure ua (vars:J) (o:km):Prop where
 lE:0<=o.aN
 pd:o.aN<=1048576
 aJ:o.aJ.length<=64
 name:pL o.name
 pre:dm vars o.pre
 ff:∀ i,i<o.aJ.length->gP vars (o.aJ.getD i bE)
structure aG (t:aa):Prop where
 vars:t.vars.length<=64
 M:t.M.length<=4096
 mN:∀ i,i<t.vars.length->1<=t.vars.getD i W.dflt/\t.vars.getD i W.dflt<=64
 cC:ab t.vars t.cC
 aH:dm t.vars t.aH
 op:∀ i,i<t.M.length->ua t.vars (t.M.getD i bj)
def bY (vars:J):Int:=vars.foldl (·*·) 1
structure fy (t:aa):Prop where
 cZ:aG t
 vars:t.vars.length<=12
 M:t.M.length<=20
 aJ:∀ i,i<t.M.length->(t.M.getD i bj).aJ.length<=8
 many:bY t.vars<=512
def jA (s:J)(x:bp):Prop:=0<=x.var/\x.var<s.length/\s.getD x.var.toNat W.dflt=x.val
def cp (s:J)(f:List bp):Prop:=∀ i,i<f.length->jA s (f.getD i aq.dflt)
def yz (l:J)(x:Int):bY (l++[x])=bY l*x:=by simp[bY]
def eC {α:Type}{l:List α}{k:Nat}(d:α)(h:k<l.length):l.take (k+1)=l.take k++[l.getD k d]:=by
 rw[Kf h];simp[List.getD,h]
def yy {l:J}(h:∀ x∈l,1<=x):1<=bY l:=by
 have key:∀ (l:J) (a:Int),1<=a->(∀ x∈l,1<=x)->1<=l.foldl (·*·) a:=by
  intro l
  induction l with
  | nil=>intro a o _;exact o
  | cons x l F =>
   intro a o z;refine F (a*x) ?_ fun y K=>z y (iR _ K);have hx:=z x gz;have:=yx o hx U U
   simpa using this
 exact key l 1 (dt _) h
def Rv {l m:J}(hm:∀ x∈m,1<=x)(z:∀ x∈l,1<=x):bY l<=bY (l++m):=by
 induction m generalizing l with
 | nil=>simp
 | cons x m F =>
  have h1:=F (l:=l++[x]) (fun y o=>hm y (iR _ o)) (fun y o=>by
   rcases gG.1 o with h|h
   ·exact z y h
   rw[dp.1 h];exact hm x gz)
  rw[yz]at h1;have L:=yy z;have K:=hm x gz;have V:bY l*1<=bY l*x:=GB K U;have e:l++[x]++m=l++x::m:=sm;rw[e]at h1;omega
def lA (ds:List (Int × Int)):Int:=ds.foldl (fun n d=>n*d.1+d.2) 0
def Ik (l:List (Int × Int))(d:Int × Int):lA (l++[d])=lA l*d.1+d.2:=by simp[lA]
def pH (ds:List (Int × Int)):Prop:=∀ d∈ds,0<=d.2/\d.2<d.1
def mP {α:Type}{P:List α->Prop}(F:P [])(h1:∀ l x,P l->P (l++[x]))(l:List α):P l:=by
 have:∀ n,∀ l:List α,l.length=n->P l:=by
  intro n
  induction n with
  | zero=>intro l o;rw[GL.1 o];exact F
  | succ n K =>
   intro l o;have z:l≠[]:=fun h=>by simp[h]at o
   rw[<-Kj z];exact h1 _ _ (K _ (by simp[o]))
 exact this _ l rfl
def Ŀ:pH ds->0<=lA ds/\lA ds<bY (ds.map (·.1)):=by
 refine mP (P:=fun ds=>pH ds->0<=lA ds/\lA ds<bY (ds.map (·.1))) ?_ ?_ ds
 ·intro _;decide
 intro l d o h;obtain⟨a,b⟩:=o fun x hx=>h x (xX _ hx);obtain⟨c,e⟩:=h d (Gv _ (dp.2 rfl));rw[Ik,oh,l8,tD,yz];have h1:0<=lA l*d.1:=sj a U;have z:(lA l+1)*d.1<=bY (l.map (·.1))*d.1:=xV U U;rw[zM]at z;omega
def ŀ:∀ {es:List (Int × Int)},pH ds->pH es->ds.map (·.1)=es.map (·.1)->lA ds=lA es->ds=es:=by
 refine mP (P:=fun ds=>∀ {es:List (Int × Int)},pH ds->pH es->ds.map (·.1)=es.map (·.1)->lA ds=lA es->ds=es) ?_ ?_ ds
 ·intro es _ _ h _
  simpa using h.symm
 intro l d ih es h1 L hm he;have z:es≠[]:=fun h=>by simp[h]at hm
 obtain⟨m,f,rfl⟩:∃ m f,es=m++[f]:=⟨_,_,(Kj z).symm⟩
 simp only[oh,l8,tD]at hm;obtain⟨F,K⟩:=append_inj' hm rfl;have o:d.1=f.1:=by simpa using K
 rw[Ik,Ik]at he;obtain⟨a,b⟩:=h1 d sm;obtain⟨a',b'⟩:=L f sm;have hq:lA l=lA m:=by
  have V:(lA l*d.1+d.2) / d.1=lA l:=by
   rw[DN,Pu _ _ U,Pv a b];omega
  have e2:(lA m*f.1+f.2) / f.1=lA m:=by
   rw[DN,Pu _ _ U,Pv a' b'];omega
  rw[he,o,e2]at V;exact V.symm
 rw[hq,o]at he;have:d.2=f.2:=U;rw[ih (fun x hx=>h1 x (by simp[hx])) (fun x hx=>L x (by simp[hx])) F hq,Prod.ext o this]
def fE (vars s:J):Int:=lA (vars.zip s)
def La {vars s:J}(h:s.length=vars.length)(k x:Int):fE (vars++[k]) (s++[x])=fE vars s*k+x:=by
 unfold fE;rw[zip_append h.symm,zip_cons_cons,zip_nil_right,Ik]
def ab.Md {vars s:J}(h:ab vars s):pH (vars.zip s):=by
 intro d o;obtain⟨i,z,rfl⟩:=fJ o;rw[length_zip]at z;have:=h.2 i U;rw[am U,am U]at this
 simpa using this
def rS {a b:J}(h:b.length=a.length):(a.zip b).map (·.1)=a:=by
 have:=map_fst_zip (l₁:=a) (l₂:=b) U;exact this
def Cd {vars s:J}(h:ab vars s):0<=fE vars s/\fE vars s<bY vars:=by
 have:=Ŀ h.Md
 rwa[rS h.1]at this
def zB {a b c:J}(h1:b.length=a.length)(h2:c.length=a.length)(h:a.zip b=a.zip c):b=c:=by
 have o:=map_snd_zip (l₁:=a) (l₂:=b) U;have z:=map_snd_zip (l₁:=a) (l₂:=c) U;rw[<-o,h,z]
def Ł {vars s u:J}(h:ab vars s)(k:ab vars u)(e:fE vars s=fE vars u):s=u :=
 zB h.1 k.1 (ŀ h.Md k.Md (by rw[rS h.1,rS k.1]) e)
def jc (out:List J)(k:Int):List J:=out.flatMap fun s=>(List.range k.toNat).map fun (x:Nat)=>s++[(x:Int)]
def ba (vars:J):List J:=vars.foldl jc [[]]
def Li (vars:J)(k:Int):ba (vars++[k])=jc (ba vars) k:=by simp[ba]
def ł (n k:Nat):(List.range n).flatMap (fun r=>(List.range k).map fun x=>r*k+x)=List.range (n*k):=by
 induction n with
 | zero=>simp
 | succ n h=>rw[l5,wA,h,zO,range_add];simp
def Ń {α β:Type}{l:List α}{f g:α->List β}(h:∀ x∈l,f x=g x):l.flatMap f=l.flatMap g:=by
 induction l with
 | nil=>rfl
 | cons x l o=>rw[kO,kO,h x gz,o fun y z=>h y (iR _ z)]
def ń {vars s:J}{k x:Int}(h:ab vars s)(o:0<=x)(h1:x<k):ab (vars++[k]) (s++[x]):=by
 refine⟨by simp[h.1],fun i z=>?_⟩;simp only[length_append,length_cons,length_nil]at z;simp only[iD];by_cases e:i<s.length
 ·rw[iX e,iX (by rw[<-h.1];exact e)]
  simpa only[iD] using h.2 i e
 have F:i=s.length:=U;subst F;rw[kn (cD _),kn (by rw[h.1];exact cD _),h.1]
 simpa using ⟨o,h1⟩
def Ņ {vars s:J}{k:Int}(h:ab (vars++[k]) s):∃ s' x,s=s'++[x]/\ab vars s'/\0<=x/\x<k:=by
 have z:=h.1;simp only[length_append,length_cons,length_nil]at z;have o:s≠[]:=fun e=>by simp[e]at z
 refine⟨s.dropLast,s.getLast o,(Kj o).symm,?_,?_⟩
 ·refine⟨by simp;omega,fun i F=>?_⟩
  simp only[length_dropLast]at F;have:=h.2 i U;simp only[iD]at this ⊢;rw[iX U]at this;rw[getElem?_dropLast,aM U];exact this
 have:=h.2 (s.length-1) U;simp only[iD]at this;rw[kn U,show s.length-1-vars.length=0 by omega]at this;rw[getLast_eq_getElem];rw[kN U]at this
 simpa using this
def HK {vars:J}:∀ {s:J},s∈ba vars↔ab vars s:=by
 refine mP (P:=fun vars=>∀ {s:J},s∈ba vars↔ab vars s) ?_ ?_ vars
 ·intro s
  simp only[ba,GM,dp];constructor
  ·rintro rfl;exact⟨rfl,fun i o=>absurd o (dr _)⟩
  intro h;exact GL.1 h.1
 intro l k z s;rw[Li,jc,tE];constructor
 ·rintro⟨s',o,h⟩
  obtain⟨x,hx,rfl⟩:=iS.1 h;have:=mem_range.1 hx;exact ń (z.1 o) U U
 intro h;obtain⟨s',x,rfl,h1,o,F⟩:=Ņ h;exact⟨s',z.2 h1,iS.2 ⟨x.toNat,mem_range.2 U,by rw[gA o]⟩⟩
def Tc {vars:J}:(∀ x∈vars,1<=x)->(ba vars).map (fun s=>(fE vars s).toNat)=List.range (bY vars).toNat:=by
 refine mP (P:=fun vars=>(∀ x∈vars,1<=x)->(ba vars).map (fun s=>(fE vars s).toNat)=List.range (bY vars).toNat) ?_ ?_ vars
 ·intro _;decide
 intro l k K h;have hk:=h k sm;have V:=yy fun x hx=>h x (xX [k] hx);have z:=K fun x hx=>h x (by simp[hx]);rw[Li,jc,map_flatMap,yz,Int.toNat_mul U U,<-ł,<-z,flatMap_map];refine Ń fun s L=>?_;rw[zG];refine xN fun x hx=>?_;have o:=HK.1 L;have F:=(Cd o).1;simp only[Function.comp];rw[La o.1];have:0<=fE l s*k:=sj F U;rw[Int.toNat_add this U,Int.toNat_mul F U];omega
def Aq {vars:J}(h:∀ x∈vars,1<=x):(ba vars).length=(bY vars).toNat:=by
 have:=qy List.length (Tc h)
 simpa using this
def ņ {vars:J}(h:∀ x∈vars,1<=x){i:Nat}(hi:i<(ba vars).length):ab vars ((ba vars).getD i [])/\fE vars ((ba vars).getD i [])=i:=by
 have hm:(ba vars).getD i []∈ba vars:=cH [] hi;have o:=HK.1 hm;refine⟨o,?_⟩;have:=qy (fun l=>l[i]?) (Tc h);rw[Aq h]at hi;simp only[tr]at this;rw[GN U,kN (by rw[Aq h];omega)]at this;simp only[tJ,z7]at this;rw[am (by rw[Aq h];omega)]at o ⊢;have z:=(Cd o).1;omega
instance (s:J) (x:bp):Decidable (jA s x):=by unfold jA;infer_instance
instance (s:J) (f:List bp):Decidable (cp s f):=by unfold cp;infer_instance
def wN {s:J}{f:List bp}:cp s f↔∀ x∈f,jA s x:=by
 constructor
 ·intro h x hx
  obtain⟨i,o,rfl⟩:=fJ hx;have:=h i o
  rwa[am o]at this
 intro h i o;exact h _ (cH _ o)
def fj (s:J)(h:List kP):J:=h.foldl (fun out e=>if cp s e.bO then out.set e.var.toNat e.val else out) s
def Ew (s:J)(l:List kP)(e:kP):fj s (l++[e])=if cp s e.bO then (fj s l).set e.var.toNat e.val else fj s l:=by simp[fj]
def Td (s:J)(l:List kP):(fj s l).length=s.length:=by
 refine mP (P:=fun l=>(fj s l).length=s.length) rfl ?_ l;intro l e h;rw[Ew];split<;>simp[h]
def jU (t:aa)(s:J)(op:Nat):Prop:=cp s (t.M.getD op bj).pre
instance (t:aa) (s:J) (op:Nat):Decidable (jU t s op):=by unfold jU;infer_instance
def cB (t:aa)(s:J)(op:Nat):J:=fj s (t.M.getD op bj).aJ
def tO {vars:J}{e:kP}(h:gP vars e):0<=e.var/\e.var<vars.length/\0<=e.val/\e.val<vars.getD e.var.toNat W.dflt:=by
 have:=(h.2 0 (fe _)).1;exact this
def L4 {vars s:J}{v x:Int}(h:ab vars s)(h2:0<=v)(z:0<=x)(h1:x<vars.getD v.toNat W.dflt):ab vars (s.set v.toNat x):=by
 refine⟨by simp[h.1],fun i o=>?_⟩;rw[gY]at o;simp only[iD,vz]at h1 ⊢;split
 ·rename_i e;subst e;rw[aM o];exact⟨z,h1⟩
 simpa only[iD] using h.2 i o
def Te {vars s:J}{l:List kP}(o:ab vars s):(∀ e∈l,gP vars e)->ab vars (fj s l):=by
 refine mP (P:=fun l=>(∀ e∈l,gP vars e)->ab vars (fj s l)) (fun _=>o) ?_ l;intro l e z h;have h1:=z fun x hx=>h x (by simp[hx]);rw[Ew];split
 ·obtain⟨a,b,c,d⟩:=tO (h e sm)
  exact L4 h1 a c d
 exact h1
def ua.mem {vars:J}{o:km}(h:ua vars o):∀ e∈o.aJ,gP vars e:=by
 intro e he;obtain⟨i,z,rfl⟩:=fJ he;have:=h.ff i z
 rwa[am z]at this
def aG.pos {t:aa}(h:aG t):∀ x∈t.vars,1<=x:=by
 intro x hx;obtain⟨i,o,rfl⟩:=fJ hx;have:=(h.mN i o).1
 rwa[am o]at this
def uR {t:aa}{s:J}{op:Nat}(h:aG t)(o:ab t.vars s)(z:op<t.M.length):ab t.vars (cB t s op):=Te o (h.op op z).mem
structure de where
 bh:Int
 cK:Int
 dst:Int
 deriving DecidableEq
def aT:Ty de:=⟨3,fun e=>[E e.bh,E e.cK,E e.dst],fun _=>rfl,⟨0,0,0⟩⟩
instance Di:kq aT:=⟨fun x v hv=>by simp only[aT,ee,fI,pP]at hv;rcases hv with rfl|rfl|rfl<;>rfl⟩
def mG (o:km):List (List bp):=o.pre::o.aJ.map (·.bO)
def fO (t:aa)(k:Nat):List (List bp):=t.aH::(t.M.take k).flatMap mG
def jB (t:aa):List (List bp):=fO t t.M.length
def gl (t:aa):Prop:=64<t.vars.length\/4096<t.M.length\/(∃ i,i<t.M.length/\64<(t.M.getD i bj).aJ.length)\/∃ i,i<(jB t).length/\64<((jB t).getD i []).length
def oO (t:aa):Prop:=∀ i,i<t.vars.length->1<=t.vars.getD i W.dflt/\t.vars.getD i W.dflt<=64
def lH (t:aa):Prop:=∀ i,i<t.M.length->0<=(t.M.getD i bj).aN/\(t.M.getD i bj).aN<=1048576
def mC (t:aa):Prop:=∀ i,i<(jB t).length->dm t.vars ((jB t).getD i [])
def uh (t:aa):Prop:=∀ i,i<t.M.length->∀ j,j<(t.M.getD i bj).aJ.length->dm t.vars [⟨((t.M.getD i bj).aJ.getD j bE).var,((t.M.getD i bj).aJ.getD j bE).val⟩]
def pM (t:aa):Prop:=∀ i,i<t.M.length->pL (t.M.getD i bj).name
open Classical in
noncomputable def bM (t:aa):Int :=
 if gl t then 5 else if ¬oO t then 1 else if ¬lH t then 1 else if ¬ab t.vars t.cC then 2 else if ¬mC t then 2 else if ¬uh t then 2 else if ¬pM t then 8 else 0
def Zh (t:aa):fO t 0=[t.aH]:=by simp[fO]
def Rs (t:aa){k:Nat}(hk:k<t.M.length):fO t (k+1)=fO t k++mG (t.M.getD k bj):=by
 simp[fO,eC bj hk]
def K9 (t:aa):∀ k,k<=t.M.length->(∀ i,i<t.M.length->(t.M.getD i bj).aJ.length<=64)->(fO t k).length<=1+65*k
 | 0,_,_=>by simp[fO]
 | k+1,hk,h=>by
  have:=K9 t k U h;have o:=h k U;rw[Rs t U,length_append];simp only[mG,length_cons,iz];omega
def Il {t:aa}{f:List bp}:f∈jB t↔(f=t.aH\/∃ i,i<t.M.length/\(f=(t.M.getD i bj).pre\/∃ j,j<(t.M.getD i bj).aJ.length/\f=((t.M.getD i bj).aJ.getD j bE).bO)):=by
 simp only[jB,fO,kV,ee,tE,mG,iS];constructor
 ·rintro (h|⟨o,K,h⟩)
  ·exact .inl h
  obtain⟨i,z,rfl⟩:=fJ K;refine .inr ⟨i,z,?_⟩;rw[am z];rcases h with h|⟨e,he,rfl⟩
  ·exact .inl h
  obtain⟨j,F,rfl⟩:=fJ he;exact .inr ⟨j,F,by rw[am F]⟩
 rintro (h|⟨i,z,h⟩)
 ·exact .inl h
 refine .inr ⟨t.M.getD i bj,cH _ z,?_⟩;rcases h with h|⟨j,F,rfl⟩
 ·exact .inl h
 exact .inr ⟨_,cH _ F,rfl⟩
def Tf {vars:J}{f:List bp}(h:dm vars f):∀ i,i<f.length->(i:Int)<=(f.getD i aq.dflt).var
 | 0,o=>(h 0 o).1.1
 | i+1,z=>by
  have h1:=Tf h i U;have F:=(h (i+1) z).2 U;simp only[DM]at F;omega
def sd {vars:J}{f:List bp}(h:dm vars f):f.length<=vars.length:=by
 rcases uH f.length with o|o
 ·omega
 have h1:=Tf h (f.length-1) U;have z:=(h (f.length-1) U).1.2.1;omega
def Tg {t:aa}:mC t↔∀ f∈jB t,dm t.vars f:=by
 constructor
 ·intro h f z
  obtain⟨i,o,rfl⟩:=fJ z;have:=h i o
  rwa[am o]at this
 intro h i o;exact h _ (cH _ o)
def oz (t:aa):bM t=0↔aG t:=by
 unfold bM;constructor
 ·intro h
  split at h
  ·cases h
  rename_i h1;split at h
  ·cases h
  rename_i L;split at h
  ·cases h
  rename_i K;split at h
  ·cases h
  rename_i V;split at h
  ·cases h
  rename_i h5;split at h
  ·cases h
  rename_i h6;split at h
  ·cases h
  rename_i h7;rw[tK]at L K V h5 h6 h7;simp only[gl,not_or,not_exists,not_and,xW]at h1;have z:=Tg.1 h5;refine⟨h1.1,h1.2.1,L,V,z _ (Il.2 (.inl rfl)),fun i o=>⟨(K i o).1,(K i o).2,h1.2.2.1 i o,h7 i o,z _ (Il.2 (.inr ⟨i,o,.inl rfl⟩)),fun j F=>⟨z _ (Il.2 (.inr ⟨i,o,.inr ⟨j,F,rfl⟩⟩)),h6 i o j F⟩⟩⟩
 intro h;have z:∀ f∈jB t,dm t.vars f:=fun f K=>by
  rcases Il.1 K with rfl|⟨i,o,rfl|⟨j,F,rfl⟩⟩
  ·exact h.aH
  ·exact(h.op i o).pre
  exact((h.op i o).ff j F).1
 have h1:¬gl t:=by
  rintro (h1|h1|⟨i,o,h1⟩|⟨i,o,h1⟩)
  ·have:=h.vars;omega
  ·have:=h.M;omega
  ·have:=(h.op i o).aJ;omega
  have:=sd (z _ (cH [] o));have:=h.vars;omega
 have a2:oO t:=h.mN;have a3:lH t:=fun i o=>⟨(h.op i o).lE,(h.op i o).pd⟩
 have a5:mC t:=Tg.2 z;have L:uh t:=fun i o j F=>((h.op i o).ff j F).2;have V:pM t:=fun i o=>(h.op i o).name;rw[aC h1,aC (tK.2 a2),aC (tK.2 a3),aC (tK.2 h.cC),aC (tK.2 a5),aC (tK.2 L),aC (tK.2 V)]
abbrev sg (s:J)(v:Int):Int:=s.getD v.toNat W.dflt
def fQ (s p:J):J:=p.map (sg s)
def br (vars p:J):Int:=bY (fQ vars p)
def bX (vars p s:J):Int:=fE (fQ vars p) (fQ s p)
def fi (vars p:J):Prop:=∀ i,i<p.length->(0<=p.getD i W.dflt/\p.getD i W.dflt<vars.length)/\(0<i->p.getD (i-1) W.dflt<p.getD i W.dflt)
structure jp (vars p:J):Prop where
 mem:∀ v∈p,0<=v/\v<vars.length
 Er:p.Pairwise (·<·)
def C9 {s:J}{v x:Int}(o:0<=v)(h:v<s.length):sg (s.set v.toNat x) v=x:=by
 simp[sg,List.getD,vz,show v.toNat<s.length by omega]
def yS {s:J}{v u x:Int}(o:0<=v)(h1:0<=u)(h:v≠u):sg (s.set v.toNat x) u=sg s u:=by
 simp[sg,List.getD,vz,show v.toNat≠u.toNat by omega]
def u9 {s:J}{i:Nat}:sg s (i:Int)=s.getD i W.dflt:=by simp[sg]
def fi.N2 {vars p:J}(h:fi vars p):jp vars p:=by
 refine⟨fun v hv=>?_,?_⟩
 ·obtain⟨i,o,rfl⟩:=fJ hv
  have:=(h i o).1
  rwa[am o]at this
 rw[v8];intro i j o K z;have key:∀ k,(hk:i+k+1<p.length)->p[i]<p[i+k+1]:=by
  intro k
  induction k with
  | zero=>intro hk;have:=(h (i+1) U).2 U;rw[am U,am U]at this;simpa using this
  | succ k F =>
   intro hk;have h1:=F U;have:=(h (i+k+1+1) U).2 U;rw[am U,am U]at this;simp only[DM]at this;exact Int.lt_trans h1 this
 have:=key (j-i-1) U
 simpa [show i+(j-i-1)+1=j by omega] using this
def jp.qd {vars p:J}(h:jp vars p):fi vars p:=fun i o =>
 ⟨h.mem _ (cH _ o),fun z=>by
  rw[am o,am U]
  exact v8.1 h.Er _ _ _ _ U⟩
def jp.cC {vars l:J}{v:Int}(h:jp vars (l++[v])):jp vars l/\(0<=v/\v<vars.length)/\v∉l:=by
 refine⟨⟨fun u hu=>h.mem u (by simp[hu]),(CA.1 h.Er).1⟩,h.mem v sm,fun hv=>?_⟩;have:=(CA.1 h.Er).2.2 v hv v sm;omega
def jp.le {vars p:J}(h:jp vars p):∀ i,i<p.length->(i:Int)<=p.getD i W.dflt
 | 0,o=>(h.mem _ (cH _ o)).1
 | i+1,o=>by
  have h1:=jp.le h i U;have z:=(h.qd (i+1) o).2 U;simp only[DM]at z;omega
def jp.len {vars p:J}(h:jp vars p):p.length<=vars.length:=by
 rcases uH p.length with o|o
 ·omega
 have h1:=h.le (p.length-1) U;have z:=h.mem _ (cH W.dflt (show p.length-1<p.length by omega));omega
def Me (s l:J)(v:Int):fQ s (l++[v])=fQ s l++[sg s v]:=by simp[fQ]
def Im (s p:J):(fQ s p).length=p.length:=by simp[fQ]
def Th {s p:J}{i:Nat}(hi:i<p.length):(fQ s p).getD i W.dflt=sg s (p.getD i W.dflt):=by
 rw[am (by rw[Im];exact hi),am hi];simp[fQ]
def Mf {vars s p:J}(o:ab vars s)(z:∀ v∈p,0<=v/\v<vars.length):ab (fQ vars p) (fQ s p):=by
 refine⟨by simp[Im],fun i h=>?_⟩;rw[Im]at h;rw[Th h,Th h];have:=z _ (cH W.dflt h);exact o.2 _ (by rw[o.1];omega)
def Pm {vars p:J}(h:∀ x∈vars,1<=x)(o:∀ v∈p,0<=v/\v<vars.length):∀ x∈fQ vars p,1<=x:=by
 intro x hx;obtain⟨v,hv,rfl⟩:=iS.1 hx;have:=o v hv;exact h _ (cH W.dflt U)
def oF {vars s p:J}(h:ab vars s)(o:∀ v∈p,0<=v/\v<vars.length):0<=bX vars p s/\bX vars p s<br vars p:=Cd (Mf h o)
def Ka (vars l:J)(v:Int):br vars (l++[v])=br vars l*sg vars v:=by simp[br,Me,yz]
def Pn (vars l s:J)(v:Int):bX vars (l++[v]) s=bX vars l s*sg vars v+sg s v:=by
 rw[bX,Me,Me,La (by simp[Im])];rfl
def CY {vars p s:J}(h:∀ v∈p,sg s v=sg s' v):bX vars p s=bX vars p s':=by
 unfold bX fQ;rw[xN h]
def Io {vars p s:J}(F:ab vars s)(o:ab vars s')(z:∀ v∈p,0<=v/\v<vars.length)(h:bX vars p s=bX vars p s'):∀ v∈p,sg s v=sg s' v:=by
 have:=Ł (Mf F z) (Mf o z) h;intro v hv;exact map_inj_left.1 this v hv
def F3 {vars p:J}(h:∀ x∈vars,1<=x)(o:∀ v∈p,0<=v/\v<vars.length):1<=br vars p:=yy (Pm h o)
def tZ (h:J)(p:J × Int)(v:Int):J × Int:=(p.1.set v.toNat (p.2.tmod (h.getD v.toNat W.dflt)),p.2.tdiv (h.getD v.toNat W.dflt))
def lj (h vs:J)(s:J)(n:Int):J × Int:=vs.foldl (tZ h) (s,n)
def GA (h vs:J)(s:J)(n v:Int):lj h (vs++[v]) s n=tZ h (lj h vs s n) v:=by simp[lj]
def Pk (h vs:J)(s:J)(n:Int):(lj h vs s n).1.length=s.length:=by
 refine mP (P:=fun vs=>(lj h vs s n).1.length=s.length) rfl ?_ vs;intro l v o;rw[GA,tZ];simp[o]
def Xi {o vs:J}{s:J}{n:Int}(z:∀ x∈o,1<=x)(F:0<=n):(∀ v∈vs,0<=v/\v<o.length)->0<=(lj o vs s n).2/\(lj o vs s n).2<=n:=by
 refine mP (P:=fun (vs:J)=>(∀ v∈vs,0<=v/\v<o.length)->0<=(lj o vs s n).2/\(lj o vs s n).2<=n) (fun _=>⟨F,dt _⟩) ?_ vs;intro l v K h;obtain⟨h1,L⟩:=K fun x hx=>h x (by simp[hx]);obtain⟨V,h4⟩:=h v sm;have h5:=z _ (cH W.dflt (show v.toNat<o.length by omega));rw[GA,tZ];simp only;rw[GK h1];exact⟨Int.ediv_nonneg h1 U,rU (Kd _ h1) L⟩
def io (vars p s:J)(n:Int):J:=(lj vars p.reverse s n).1
def Ň (vars l s:J)(v n:Int):io vars (l++[v]) s n=io vars l (s.set v.toNat (n.tmod (sg vars v))) (n.tdiv (sg vars v)):=by
 simp[io,lj,tZ,reverse_append]
def Ti (vars p s:J)(n:Int):(io vars p s n).length=s.length:=Pk _ _ _ _
def EE {vars p:J}(hd:∀ x∈vars,1<=x):∀ {s:J}{n:Int},jp vars p->s.length=vars.length->0<=n->n<br vars p ->
  bX vars p (io vars p s n)=n/\(∀ v∈p,0<=sg (io vars p s n) v/\sg (io vars p s n) v<sg vars v)/\∀ v,0<=v->v∉p->sg (io vars p s n) v=sg s v:=by
 refine mP (P:=fun p=>∀ {s:J}{n:Int},jp vars p->s.length=vars.length->0<=n->n<br vars p ->
  bX vars p (io vars p s n)=n/\(∀ v∈p,0<=sg (io vars p s n) v/\sg (io vars p s n) v<sg vars v)/\∀ v,0<=v->v∉p->sg (io vars p s n) v=sg s v) ?_ ?_ p
 ·intro s n _ _ K h1
  refine⟨?_,fun v hv=>by simp at hv,fun v _ _=>rfl⟩;have:br vars []=1:=rfl;have:bX vars [] (io vars [] s n)=0:=rfl;omega
 intro l v ih s n hV hl K h1;obtain⟨L,⟨o,T'⟩,V⟩:=hV.cC;have V':1<=sg vars v:=hd _ (cH W.dflt U);rw[Ň,Pz K,GK K];rw[Ka]at h1;have j':0<=n / sg vars v:=Int.ediv_nonneg K U;have H':n / sg vars v<br vars l:=Int.ediv_lt_of_lt_mul U h1;obtain⟨i1,i2,i3⟩:=ih (s:=s.set v.toNat (n % sg vars v)) L (by simp[hl]) j' H';have z:sg (io vars l (s.set v.toNat (n % sg vars v)) (n / sg vars v)) v=n % sg vars v:=by
  rw[i3 v o V,C9 o U]
 have J':=Int.emod_nonneg n (show sg vars v≠0 by omega);have P':=PA n (show 0<sg vars v by omega);refine⟨?_,fun u hu=>?_,fun u F hu=>?_⟩
 ·rw[Pn,i1,z]
  have:=Int.mul_ediv_add_emod n (sg vars v);rw[Int.mul_comm];exact this
 ·rcases gG.1 hu with h|h
  ·exact i2 u h
  rw[dp.1 h,z];exact⟨J',P'⟩
 have R':v≠u:=fun e=>hu (by simp[e]);rw[i3 u F (fun h=>hu (by simp[h])),yS o F R']
def Ii {vars p s:J}{n:Int}(o:∀ x∈vars,1<=x)(z:jp vars p)(F:0<=n)(h1:n<br vars p)(h:s.length=vars.length)(K:∀ v:Int,0<=v->v<vars.length->v∉p->0<=sg s v/\sg s v<sg vars v):ab vars (io vars p s n):=by
 obtain⟨_,i2,i3⟩:=EE (s:=s) o z h F h1;refine⟨by rw[Ti,h],fun i L=>?_⟩;rw[Ti,h]at L;rw[<-u9,<-u9];by_cases hm:(i:Int)∈p
 ·exact i2 _ hm
 rw[i3 _ U hm];exact K _ U U hm
def ab.dK {vars s:J}(h:ab vars s){v:Int}(o:0<=v)(h1:v<vars.length):0<=sg s v/\sg s v<sg vars v:=h.2 _ (by rw[h.1];omega)
def ň {l:J}:∀ {m:J},l.Pairwise (·<·)->m.Pairwise (·<·)->(∀ x,x∈l↔x∈m)->l=m:=by
 induction l with
 | nil =>
  intro m _ _ h
  cases m with
  | nil=>rfl
  | cons y m=>exact absurd ((h y).2 sm) sm
 | cons x l L =>
  intro m F hm h
  cases m with
  | nil=>exact absurd ((h x).1 sm) sm
  | cons y m =>
   rw[Kv]at F hm;have K:x=y:=by
    rcases ee.1 ((h x).1 sm) with e|e
    ·exact e
    rcases ee.1 ((h y).2 sm) with o|o
    ·exact o.symm
    have:=F.1 y o;have:=hm.1 x e;omega
   subst K;refine qy _ (L F.2 hm.2 fun z=>?_);constructor
   ·intro o
    rcases ee.1 ((h z).1 (by simp[o])) with e|e
    ·have:=F.1 z o;omega
    exact e
   intro o;rcases ee.1 ((h z).2 (by simp[o])) with e|e
   ·have:=hm.1 z o;omega
   exact e
def oR (n:Int):J:=(List.range n.toNat).map fun (i:Nat)=>(i:Int)
def Lp {n x:Int}:x∈oR n↔0<=x/\x<n:=by
 simp only[oR,iS,mem_range];constructor
 ·rintro⟨i,o,rfl⟩;omega
 intro h;exact⟨x.toNat,U,U⟩
def ŉ (n:Int):(oR n).Pairwise (·<·):=by
 rw[oR,Bc];exact Dw.imp fun h=>U
def Ŋ (n:Int):(oR n).length=n.toNat:=by simp[oR]
open Classical in
noncomputable def nC (n:Int)(p:Int->Prop):J:=(oR n).filter fun x=>decide (p x)
def Ar {n x:Int}{p:Int->Prop}:x∈nC n p↔(0<=x/\x<n)/\p x:=by simp[nC,Lp]
def Ll (n:Int)(p:Int->Prop):(nC n p).Pairwise (·<·):=(ŉ n).filter _
def ī (n:Int)(p:Int->Prop):(nC n p).length<=n.toNat:=by
 have:=uC (fun x=>@decide (p x) (Classical.propDecidable _)) (oR n);rw[Ŋ]at this;exact this
def Kc {l:J}{n:Int}{p:Int->Prop}(o:l.Pairwise (·<·))(h:∀ x,x∈l↔(0<=x/\x<n)/\p x):l=nC n p :=
 ň o (Ll n p) fun x=>(h x).trans Ar.symm
def EG (t:aa)(p:J)(a:Int)(op:Nat)(b:Int):Prop:=∃ s,ab t.vars s/\bX t.vars p s=a/\jU t s op/\bX t.vars p (cB t s op)=b
noncomputable def qj (t:aa)(p:J)(a:Int)(op:Nat):J:=nC (br t.vars p) (EG t p a op)
def xq (p:J)(f:List bp):List bp:=f.filter fun x=>decide (x.var∈p)
def u7 (t:aa)(p:J)(a:Int):Prop:=∃ s,ab t.vars s/\bX t.vars p s=a/\cp s (xq p t.aH)
def xB (o:km)(p:J)(v:Int):Prop:=(∃ e∈o.aJ,e.var∈p/\∃ f∈e.bO,f.var=v)/\v∉p/\∀ f∈o.pre,f.var≠v
noncomputable def sW (vars:J)(o:km)(p:J):J:=nC vars.length (xB o p)
def Es (vars:J)(o:km)(p:J):jp vars (sW vars o p):=⟨fun v hv=>(Ar.1 hv).1,Ll _ _⟩
def fR (p s:J)(h:List kP):J:=h.foldl (fun out e=>if e.var∈p/\cp s e.bO then out.set e.var.toNat e.val else out) s
def C6 (p s:J)(l:List kP)(e:kP):fR p s (l++[e])=if e.var∈p/\cp s e.bO then (fR p s l).set e.var.toNat e.val else fR p s l:=by simp[fR]
def Ij (p s:J)(l:List kP):(fR p s l).length=s.length:=by
 refine mP (P:=fun l=>(fR p s l).length=s.length) rfl ?_ l;intro l e h;rw[C6];split<;>simp[h]
def Mg {vars p s:J}{l:List kP}(hs:s.length=vars.length)(K:∀ v∈p,0<=v/\v<vars.length):(∀ e∈l,gP vars e)->∀ v∈p,sg (fR p s l) v=sg (fj s l) v:=by
 refine mP (P:=fun l=>(∀ e∈l,gP vars e)->∀ v∈p,sg (fR p s l) v=sg (fj s l) v) (fun _ _ _=>rfl) ?_ l;intro l e L h v hv;have h1:=L (fun x hx=>h x (by simp[hx])) v hv;obtain⟨a,b,c,d⟩:=tO (h e sm);obtain⟨o,V⟩:=K v hv;rw[C6,Ew];by_cases F:cp s e.bO
 ·by_cases hm:e.var∈p
  ·rw[aM ⟨hm,F⟩,aM F]
   by_cases z:e.var=v
   ·rw[<-z,C9 a (by rw[Ij];omega),C9 a (by rw[Td];omega)]
   rw[yS a o z,yS a o z,h1]
  rw[aC (fun h=>hm h.1),aM F,yS a o (fun z=>hm (z ▸ hv)),h1]
 rw[aC (fun h=>F h.2),aC F,h1]
def Tj {s:J}{x:bp}(o:s.length=s'.length)(h:sg s x.var=sg s' x.var):jA s x↔jA s' x:=by
 unfold jA;rw[o,show s.getD x.var.toNat W.dflt=s'.getD x.var.toNat W.dflt from h]
def ŋ {s:J}{f:List bp}(z:s.length=s'.length)(h:∀ x∈f,sg s x.var=sg s' x.var):cp s f↔cp s' f:=by
 rw[wN,wN];constructor
 ·intro o x hx;exact(Tj z (h x hx)).1 (o x hx)
 intro o x hx;exact(Tj z (h x hx)).2 (o x hx)
def Tk {vars p s:J}{l:List kP}(hl:s.length=vars.length)(K:s'.length=vars.length)(hp:∀ v∈p,0<=v/\v<vars.length)(L:∀ v∈p,sg s v=sg s' v) :
  (∀ e∈l,gP vars e)->(∀ e∈l,e.var∈p->∀ f∈e.bO,sg s f.var=sg s' f.var)->∀ v∈p,sg (fR p s l) v=sg (fR p s' l) v:=by
 refine mP (P:=fun l=>(∀ e∈l,gP vars e)->(∀ e∈l,e.var∈p->∀ f∈e.bO,sg s f.var=sg s' f.var)->∀ v∈p,sg (fR p s l) v=sg (fR p s' l) v) (fun _ _=>L) ?_ l;intro l e ih h Y v hv;have h1:=ih (fun x hx=>h x (by simp[hx])) (fun x hx=>Y x (by simp[hx])) v hv;obtain⟨a,b,c,d⟩:=tO (h e sm);obtain⟨z,j'⟩:=hp v hv;rw[C6,C6];by_cases hm:e.var∈p
 ·have V:=ŋ (hl.trans K.symm) (Y e sm hm)
  by_cases F:cp s e.bO
  ·rw[aM ⟨hm,F⟩,aM ⟨hm,V.1 F⟩]
   by_cases o:e.var=v
   ·rw[<-o,C9 a (by rw[Ij];omega),C9 a (by rw[Ij];omega)]
   rw[yS a z o,yS a z o,h1]
  rw[aC (fun h=>F h.2),aC (fun h=>F (V.2 h.2)),h1]
 rw[aC (fun h=>hm h.1),aC (fun h=>hm h.1),h1]
def j0 (n:Nat):J:=replicate n 0
def EC (n:Nat):(j0 n).length=n:=by simp[j0]
def Ō (n:Nat)(v:Int):sg (j0 n) v=0:=by
 simp only[sg,j0,iD,zP];split<;>rfl
def lW (p s:J)(f:List bp):J:=f.foldl (fun s x=>if x.var∈p then s else s.set x.var.toNat x.val) s
def ED (p s:J)(f:List bp)(x:bp):lW p s (f++[x])=if x.var∈p then lW p s f else (lW p s f).set x.var.toNat x.val:=by simp[lW]
def S0 (p s:J)(f:List bp):(lW p s f).length=s.length:=by
 refine mP (P:=fun f=>(lW p s f).length=s.length) rfl ?_ f;intro l e h;rw[ED];split<;>simp[h]
def xp (p s:J)(f:List bp):Prop:=∀ x∈f,x.var∈p->sg s x.var=x.val
def yB {vars:J}{f:List bp}(h:dm vars f):∀ x∈f,bN vars x:=by
 intro x hx;obtain⟨i,o,rfl⟩:=fJ hx;have:=(h i o).1
 rwa[am o]at this
def ō {vars:J}{f:List bp}(h:dm vars f):f.Pairwise fun x y=>x.var<y.var:=by
 rw[v8];intro i j F K o;have key:∀ k,(hk:i+k+1<f.length)->f[i].var<f[i+k+1].var:=by
  intro k
  induction k with
  | zero=>intro hk;have:=(h (i+1) U).2 U;rw[am U,am U]at this;simpa using this
  | succ k z =>
   intro hk;have h1:=z U;have:=(h (i+k+1+1) U).2 U;rw[am U,am U]at this;simp only[DM]at this;exact Int.lt_trans h1 this
 have:=key (j-i-1) U
 simpa [show i+(j-i-1)+1=j by omega] using this
def S4 {vars p s:J}{f:List bp}{v:Int}(hv:0<=v):(∀ x∈f,bN vars x)->(∀ x∈f,x.var∉p->x.var≠v)->sg (lW p s f) v=sg s v:=by
 refine mP (P:=fun f=>(∀ x∈f,bN vars x)->(∀ x∈f,x.var∉p->x.var≠v)->sg (lW p s f) v=sg s v) (fun _ _=>rfl) ?_ f;intro l x F h z;have h1:=F (fun y o=>h y (by simp[o])) (fun y o=>z y (by simp[o]));have hx:=h x sm;rw[ED];split
 ·exact h1
 rename_i hm;rw[yS hx.1 hv (z x sm hm),h1]
def Tl {vars p s:J}{f:List bp}(hs:s.length=vars.length):(∀ x∈f,bN vars x)->(f.Pairwise fun x y=>x.var<y.var)->∀ x∈f,x.var∉p->sg (lW p s f) x.var=x.val:=by
 refine mP (P:=fun f=>(∀ x∈f,bN vars x)->(f.Pairwise fun x y=>x.var<y.var)->∀ x∈f,x.var∉p->sg (lW p s f) x.var=x.val) (fun _ _ x hx=>by simp at hx) ?_ f;intro l y ih h V x hx F;have K:=h y sm;have L:=h x hx;rw[ED];rcases gG.1 hx with o|o
 ·have h1:=ih (fun z hz=>h z (by simp[hz])) (CA.1 V).1 x o F
  have j':=(CA.1 V).2.2 x o y sm;split
  ·exact h1
  rw[yS K.1 L.1 U,h1]
 rw[dp.1 o]at F ⊢;rw[aC F,C9 K.1 (by rw[S0,hs];exact K.2.1)]
def Ŏ {vars p s:J}{f:List bp}(o:ab vars s):(∀ x∈f,bN vars x)->ab vars (lW p s f):=by
 refine mP (P:=fun f=>(∀ x∈f,bN vars x)->ab vars (lW p s f)) (fun _=>o) ?_ f;intro l x z h;have h1:=z fun y F=>h y (by simp[F]);have hx:=h x sm;rw[ED];split
 ·exact h1
 exact L4 h1 hx.1 hx.2.2.1 hx.2.2.2
section
variable {t:aa}{p:J}{op:Nat}{a:Int}
def jH (t:aa)(op:Nat):km:=t.M.getD op bj
def qG (t:aa)(p:J)(a:Int):J:=io t.vars p (j0 t.vars.length) a
def sC (t:aa)(p:J)(op:Nat)(a:Int):J:=lW p (qG t p a) (jH t op).pre
noncomputable def jM (t:aa)(p:J)(op:Nat):J:=sW t.vars (jH t op) p
def td (t:aa)(p:J)(op:Nat)(a k b:Int):Prop:=∃ S,ab t.vars S/\(∀ v,0<=v->v∉jM t p op->sg S v=sg (sC t p op a) v)/\bX t.vars (jM t p op) S<k/\bX t.vars p (fR p S (jH t op).aJ)=b
def S6 (o:∀ x∈t.vars,1<=x):ab t.vars (j0 t.vars.length):=by
 refine⟨EC _,fun i h=>?_⟩;rw[EC]at h;have:=o _ (cH W.dflt h);rw[<-u9,Ō];omega
def EB (I:aG t)(o:jp t.vars p)(z:0<=a)(h1:a<br t.vars p):ab t.vars (qG t p a)/\bX t.vars p (qG t p a)=a:=by
 have F:=S6 (t:=t) I.pos;exact⟨Ii I.pos o z h1 (EC _) fun v hv h _=>F.dK hv h,(EE I.pos o (EC _) z h1).1⟩
def AV (I:aG t)(h:jp t.vars p)(o:0<=a)(h1:a<br t.vars p){s:J}(z:ab t.vars s)(F:bX t.vars p s=a):∀ v∈p,sg s v=sg (qG t p a) v :=
 Io z (EB I h o h1).1 h.mem (F.trans (EB I h o h1).2.symm)
def iy (I:aG t)(h:op<t.M.length):(∀ x∈(jH t op).pre,bN t.vars x)/\((jH t op).pre.Pairwise fun x y=>x.var<y.var) :=
 ⟨yB (I.op op h).pre,ō (I.op op h).pre⟩
def SZ (I:aG t)(h:jp t.vars p)(o:op<t.M.length)(z:0<=a)(h1:a<br t.vars p):ab t.vars (sC t p op a):=Ŏ (EB I h z h1).1 (iy I o).1
def xt (I:aG t)(h:jp t.vars p)(o:op<t.M.length):∀ v∈p,sg (sC t p op a) v=sg (qG t p a) v:=fun v hv =>
 S4 (h.mem v hv).1 (iy I o).1 fun x _ hx e=>hx (e ▸ hv)
def AW {v:Int}(hv:v∈jM t p op):v∉p:=(Ar.1 hv).2.2.1
def Tm {x:bp}(hx:x∈(jH t op).pre):x.var∉jM t p op:=fun h=>(Ar.1 h).2.2.2 x hx rfl
def Ģ (I:aG t)(F:jp t.vars p)(K:0<=a)(h1:a<br t.vars p)(L:¬xp p (qG t p a) (jH t op).pre):qj t p a op=[]:=by
 refine(Kc Pairwise.nil fun b=>⟨fun h=>by simp at h,?_⟩).symm;rintro⟨_,s,V,ha,o,_⟩
 exact absurd (fun x hx z=>by
  rw[<-AV I F K h1 V ha _ z]
  exact(wN.1 o x hx).2.2) L
def ģ (I:aG t)(z:jp t.vars p)(K:op<t.M.length)(h0:0<=a)(h1:a<br t.vars p)(R':xp p (qG t p a) (jH t op).pre) :
  td t p op a (br t.vars (jM t p op)) b↔EG t p a op b:=by
 obtain⟨T',_b⟩:=EB I z h0 h1;have j':=SZ I z K h0 h1;have L:jp t.vars (jM t p op):=Es t.vars (jH t op) p;have o:∀ e∈(jH t op).aJ,gP t.vars e:=(I.op op K).mem;constructor
 ·rintro⟨S,hS,J',_,rfl⟩
  have V:∀ v∈p,sg S v=sg (qG t p a) v:=fun v hv=>by
   rw[J' v (z.mem v hv).1 (fun h=>AW h hv),xt I z K v hv]
  refine⟨S,hS,(CY V).trans _b,?_,CY fun v hv=>(Mg hS.1 z.mem o v hv).symm⟩;refine wN.2 fun x hx=>?_;have F:=(iy I K).1 x hx;refine⟨F.1,by rw[hS.1];exact F.2.1,?_⟩;show sg S x.var=x.val;rw[J' x.var F.1 (Tm hx)];by_cases H':x.var∈p
  ·rw[xt I z K _ H'];exact R' x hx H'
  exact Tl T'.1 (iy I K).1 (iy I K).2 x hx H'
 rintro⟨s,hs,ha,V',rfl⟩;have _c:=AV I z h0 h1 hs ha;have hb:=oF hs L.mem;have hq:=EE (s:=sC t p op a) I.pos L j'.1 hb.1 hb.2;have H':=Ii (s:=sC t p op a) I.pos L hb.1 hb.2 j'.1 fun v hv _d _=>j'.dK hv _d;have _e:=Io H' hs L.mem hq.1;refine⟨io t.vars (jM t p op) (sC t p op a) (bX t.vars (jM t p op) s),H',hq.2.2,by rw[hq.1];exact hb.2,CY fun v hv=>?_⟩;rw[show sg (cB t s op) v=sg (fR p s (jH t op).aJ) v from (Mg hs.1 z.mem o v hv).symm];have V:∀ v∈p,sg (io t.vars (jM t p op) (sC t p op a) (bX t.vars (jM t p op) s)) v=sg s v:=fun v hv=>by
  rw[show sg (io t.vars (jM t p op) (sC t p op a) (bX t.vars (jM t p op) s)) v=_ from hq.2.2 v (z.mem v hv).1 (fun h=>AW (op:=op) h hv),xt I z K v hv,_c v hv]
 refine Tk H'.1 hs.1 z.mem V o (fun e he _f f hf=>?_) v hv;have J':=yB (o e he).1 f hf;by_cases P':f.var∈p
 ·exact V _ P'
 by_cases _a:∃ x∈(jH t op).pre,x.var=f.var
 ·obtain⟨x,hx,F⟩:=_a
  rw[show sg (io t.vars (jM t p op) (sC t p op a) (bX t.vars (jM t p op) s)) f.var=_ from hq.2.2 f.var J'.1 (by rw[<-F];exact Tm hx)];rw[<-F,show sg (sC t p op a) x.var=x.val from Tl T'.1 (iy I K).1 (iy I K).2 x hx (by rw[F];exact P')];exact(wN.1 V' x hx).2.2.symm
 refine _e f.var (Ar.2 ⟨⟨J'.1,J'.2.1⟩,⟨e,he,_f,f,hf,rfl⟩,P',fun x hx F=>_a ⟨x,hx,F⟩⟩)
def Ĥ (I:aG t)(hp:jp t.vars p)(ho:op<t.M.length){k:Int}{S:J}(hS:ab t.vars S)(V:∀ v,0<=v->v∉jM t p op->sg S v=sg (sC t p op a) v)(hk:bX t.vars (jM t p op) S=k) :
  td t p op a (k+1) b↔td t p op a k b\/b=bX t.vars p (fR p S (jH t op).aJ):=by
 have j':jp t.vars (jM t p op):=Es t.vars (jH t op) p;have F:∀ e∈(jH t op).aJ,gP t.vars e:=(I.op op ho).mem;constructor
 ·rintro⟨L,z,o,H',hb⟩
  by_cases h:bX t.vars (jM t p op) L<k
  ·exact .inl ⟨L,z,o,h,hb⟩
  right;have J':=Io z hS j'.mem (show bX t.vars (jM t p op) L=bX t.vars (jM t p op) S by omega);have K:∀ v,0<=v->sg L v=sg S v:=fun v hv=>by
   by_cases hm:v∈jM t p op
   ·exact J' v hm
   rw[o v hv hm,V v hv hm]
  rw[<-hb];exact CY (Tk z.1 hS.1 hp.mem (fun v hv=>K v (hp.mem v hv).1) F fun e he _ f hf=>K _ (yB (F e he).1 f hf).1)
 rintro (⟨L,z,o,H',hb⟩|rfl)
 ·exact⟨L,z,o,U,hb⟩
 exact⟨S,hS,V,U,rfl⟩
def ĥ (I:aG t)(z:jp t.vars p)(K:op<t.M.length){k:Int}(h:td t p op a k b):0<=b/\b<br t.vars p:=by
 obtain⟨S,F,_,_,rfl⟩:=h;have o:∀ e∈(jH t op).aJ,gP t.vars e:=(I.op op K).mem;rw[CY (Mg F.1 z.mem o)];exact oF (Te F o) z.mem
end
def nc (a:Int)(op:Nat)(l:J):List de:=l.map fun b=>⟨a,op,b⟩
noncomputable def kg (t:aa)(p:J)(a:Int)(j:Nat):List de:=(List.range j).flatMap fun op=>nc a op (qj t p a op)
noncomputable def ji (t:aa)(p:J)(k:Nat):List de:=(List.range k).flatMap fun (a:Nat)=>kg t p (a:Int) t.M.length
noncomputable def bS (t:aa)(p:J):List de:=ji t p (br t.vars p).toNat
def S7 (t:aa)(p:J)(a:Int):kg t p a 0=[]:=rfl
def HR (t:aa)(p:J)(a:Int)(j:Nat):kg t p a (j+1)=kg t p a j++nc a j (qj t p a j):=by simp[kg,l5]
def Ĩ (t:aa)(p:J):ji t p 0=[]:=rfl
def HS (t:aa)(p:J)(k:Nat):ji t p (k+1)=ji t p k++kg t p (k:Int) t.M.length:=by simp[ji,l5]
def Lm (a:Int)(op:Nat)(l:J):(nc a op l).length=l.length:=by simp[nc]
def ĭ {a:Int}{op:Nat}{l:J}{m:Nat}(hm:m<l.length):nc a op (l.take (m+1))=nc a op (l.take m)++[⟨a,op,l.getD m W.dflt⟩]:=by
 rw[eC W.dflt hm];simp[nc]
def ŏ (t:aa)(p:J)(a:Int){i:Nat}(h:i<=j):(kg t p a i).length<=(kg t p a j).length:=by
 induction j with
 | zero =>
   have:i=0:=U
   subst this;exact cD _
 | succ j o =>
  by_cases e:i=j+1
  ·subst e;exact cD _
  have:=o U;rw[HR,length_append];omega
def Ő (t:aa)(p:J){i:Nat}(h:i<=j):(ji t p i).length<=(ji t p j).length:=by
 induction j with
 | zero =>
   have:i=0:=U
   subst this;exact cD _
 | succ j o =>
  by_cases e:i=j+1
  ·subst e;exact cD _
  have:=o U;rw[HS,length_append];omega
def Ĭ {t:aa}{p:J}{k:Nat}(hk:(k:Int)<br t.vars p)(o:j<t.M.length):(ji t p k).length+(kg t p (k:Int) j).length+(qj t p (k:Int) j).length<=(bS t p).length:=by
 have h1:=Ő t p (show k+1<=(br t.vars p).toNat by omega);have h:=ŏ t p (k:Int) (show j+1<=t.M.length by omega);rw[HS,length_append]at h1;rw[HR,length_append,Lm]at h;unfold bS;omega
def FZ {t:aa}{p:J}{e:de}:e∈bS t p↔∃ (a:Int) (op:Nat) (b:Int),(0<=a/\a<br t.vars p)/\op<t.M.length/\(0<=b/\b<br t.vars p)/\EG t p a op b/\e=⟨a,op,b⟩:=by
 simp only[bS,ji,kg,nc,tE,mem_range,iS];constructor
 ·rintro⟨a,h,op,o,b,z,rfl⟩
  have:=Ar.1 z;exact⟨a,op,b,U,o,this.1,this.2,rfl⟩
 rintro⟨a,op,b,h,o,z,F,rfl⟩;refine⟨a.toNat,U,op,o,b,?_,?_⟩
 ·rw[gA h.1];exact Ar.2 ⟨z,F⟩
 rw[gA h.1]
open Classical in
noncomputable def mD (t:aa)(p:J)(a:Int):Bool:=decide (u7 t p a)
noncomputable def eu (t:aa)(p:J)(k:Nat):List Bool:=(List.range k).map fun (a:Nat)=>mD t p (a:Int)
def Ī (t:aa)(p:J)(k:Nat):eu t p (k+1)=eu t p k++[mD t p (k:Int)]:=by simp[eu,l5]
def N5 (t:aa)(p:J)(k:Nat):(eu t p k).length=k:=by simp[eu]
def RN {t:aa}{p:J}{k a:Nat}(h:a<k):(eu t p k).getD a false=mD t p (a:Int):=by simp[eu,List.getD,h]
def Lj {t:aa}{p:J}{a:Int}:mD t p a=true↔u7 t p a:=by simp[mD]
def te (p S:J)(f:List bp):Prop:=∀ x∈f,x.var∈p->sg S x.var=x.val
def ĩ {t:aa}{p S:J}{a:Int}(I:aG t)(K:jp t.vars p)(z:ab t.vars S)(F:bX t.vars p S=a):te p S t.aH↔u7 t p a:=by
 constructor
 ·intro h
  refine⟨S,z,F,wN.2 fun x hx=>?_⟩;simp only[xq,rV,gQ]at hx;have o:=yB I.aH x hx.1;exact⟨o.1,by rw[z.1];exact o.2.1,h x hx.1 hx.2⟩
 rintro⟨s,L,V,hh⟩ x hx o;rw[Io z L K.mem (F.trans V.symm) _ o];exact(wN.1 hh x (by simp[xq,hx,o])).2.2
def ar (t:aa):J:=t.M.map (·.aN)
def vZ {t:aa}{i:Nat}(h:i<t.M.length):(ar t).getD i W.dflt=(t.M.getD i bj).aN:=by
 rw[am h];simp[ar,List.getD,h]
def rR (t:aa)(p:J):Prop:=∃ op,op<t.M.length/\4096<br t.vars (jM t p op)
open Classical in
noncomputable def j7 (t:aa)(p:J):Int:=if 4096<br t.vars p then 5 else if rR t p then 5 else if 65536<(bS t p).length then 5 else 0
structure bZ where
 st:Int
 bR:Int
 aS:J
 aD:List de
 aQ:List Bool
noncomputable def dY (t:aa)(p:J):bZ:=⟨br t.vars p,bX t.vars p t.cC,ar t,bS t p,eu t p (br t.vars p).toNat⟩
def cE:bZ:=⟨0,0,[],[],[]⟩
noncomputable def kt (t:aa)(p:J)(c:Int):bZ:=if c=0 then dY t p else cE
def kB {α:Type}{l:List α}{i:Nat}{x d:α}:(l.set i x).getD j d=if i=j/\j<l.length then x else l.getD j d:=by
 simp only[List.getD,vz];split
 ·rename_i h;subst h
  split
  ·rename_i o;simp[o]
  rename_i o;simp[o,uK (xW.1 o)]
 rename_i h;simp[h]
def Ek {α:Type}{n i:Nat}{x d:α}(h:i<n):(replicate n x).getD i d=x:=by simp[List.getD,h]
def kY {α:Type}(f:α->α):Nat->α->α
 | 0,x=>x
 | n+1,x=>f (kY f n x)
section
variable {α:Type}{f:α->α}{d:α->Bool}
def Tn (m n:Nat)(x:α):kY f (m+n) x=kY f m (kY f n x):=by
 induction m with
 | zero=>rw[xZ];rfl
 | succ m h=>rw[succ_add];exact qy f h
def To (o:∀ y,d y=true->f y=y){x:α}(h:d x=true)(n:Nat):kY f n x=x:=by
 induction n with
 | zero=>rfl
 | succ n z=>show f (kY f n x)=x;rw[z];exact o x h
open Classical in
noncomputable def oY (f:α->α)(d:α->Bool)(x:α):α:=if h:∃ n,d (kY f n x)=true then kY f (Classical.choose h) x else x
def ow (o:∀ y,d y=true->f y=y){n:Nat}{x:α}(h:d (kY f n x)=true):oY f d x=kY f n x:=by
 have hex:∃ n,d (kY f n x)=true:=⟨n,h⟩
 unfold oY;rw[dif_pos hex];have hm:=wh hex;generalize Classical.choose hex=m at hm ⊢;rcases Nat.le_total m n with eI|eI
 ·have e:n=(n-m)+m:=U
  rw[e,Tn,To o hm]
 have e:m=(m-n)+n:=U;rw[e,Tn,To o h]
end
section
variable {α:Type}{dflt:α}{g:α->Int}{n k:Nat}{l:List α}
def fV (g:α->Int)(n:Nat)(l:List α):List (List α):=(List.range n).map fun (x:Nat)=>l.filter fun a=>decide (g a=(x:Int))
def yM:(fV g n l).length=n:=by simp[fV]
def Ip {x:Nat}(h:x<n):(fV g n l).getD x []=l.filter fun a=>decide (g a=(x:Int)):=by simp[fV,List.getD,h]
def Mh:fV g n []=replicate n []:=by
 apply iB (by simp[fV]);intro i h1 h;simp[fV]
def Mi (hk:k<l.length)(F:0<=g (l.getD k dflt))(h1:g (l.getD k dflt)<n) :
  fV g n (l.take (k+1))=(fV g n (l.take k)).set (g (l.getD k dflt)).toNat ((fV g n (l.take k)).getD (g (l.getD k dflt)).toNat []++[l.getD k dflt]):=by
 apply iB (by simp[fV]);intro i o K;have L:i<n:=by simpa [fV] using o
 have h:(fV g n (l.take k)).getD (g (l.getD k dflt)).toNat []=(l.take k).filter fun a=>decide (g a=(((g (l.getD k dflt)).toNat:Nat):Int)):=Ip U;rw[si];simp only[fV,mK,qZ];rw[eC dflt hk,Bd,wg,GI];by_cases e:(g (l.getD k dflt)).toNat=i
 ·subst e
  have z:(((g (l.getD k dflt)).toNat:Nat):Int)=g (l.getD k dflt):=U;rw[aM rfl,aM (dy z.symm)];exact qy (·++[l.getD k dflt]) h.symm
 rw[aC (by rw[decide_eq_true_iff];omega),aC e,fS]
def Al {x:Nat}{a:α}(h:x<n):a∈(fV g n l).getD x []↔a∈l/\g a=(x:Int):=by rw[Ip h];simp
end
instance IU:Inhabited de:=⟨⟨0,0,0⟩⟩
def gd (x y:Int):Int:=if x<y then -1 else if y<x then 1 else 0
def wn:J->Int
 | []=>0
 | x::r=>if x≠0 then x else wn r
def jg (a b:de):Int:=wn [gd a.bh b.bh,gd a.cK b.cK,gd a.dst b.dst]
def oP (a b:Int × Int):Int:=wn [gd a.1 b.1,gd a.2 b.2]
def iu {α:Type}[Inhabited α](cf:α->α->Int)(l:List α):List α:=(Go.Sort.pdq (fun a b=>decide (cf a b<0)) l.toArray 0 l.length (Go.Lib.bitLen l.length) true true).toList
def lL {α:Type}[DecidableEq α]:List α->List α
 | []=>[]
 | x::r=>x::match r with|[]=>[]|y::_=>if x=y then (lL r).tail else lL r
def dR (S:bZ):Prop:=1<=S.st/\S.st<=4096/\0<=S.bR/\S.bR<S.st/\(S.aQ.length:Int)=S.st/\S.aS.length<=4096/\S.aD.length<=65536/\(∀ c∈S.aS,0<=c/\c<=1048576) /\
 (∀ e∈S.aD,(0<=e.bh/\e.bh<S.st)/\(0<=e.dst/\e.dst<S.st)/\0<=e.cK/\e.cK<S.aS.length)/\∀ i,0<i->i<S.aD.length->jg (S.aD.getD (i-1) aT.dflt) (S.aD.getD i aT.dflt)<0
open Classical in
noncomputable def iT (S:bZ):Bool:=decide (dR S)
structure fW where
 bh:Int
 dst:Int
 wt:Int
def eT:Ty fW:=⟨3,fun a=>[E a.bh,E a.dst,E a.wt],fun _=>rfl,⟨0,0,0⟩⟩
instance IV:kq eT:=⟨fun x v hv=>by simp only[eT,ee,fI,pP]at hv;rcases hv with rfl|rfl|rfl<;>rfl⟩
structure uT where
 out:J
 waits:List Bool
 q:J
def dP (i:Int)(s:uT)(a:fW):uT :=
 if s.out.getD i.toNat W.dflt+a.wt≥s.out.getD a.dst.toNat W.dflt then s
 else if s.waits.getD a.dst.toNat ah.dflt then ⟨s.out.set a.dst.toNat (s.out.getD i.toNat W.dflt+a.wt),s.waits,s.q⟩
 else ⟨s.out.set a.dst.toNat (s.out.getD i.toNat W.dflt+a.wt),s.waits.set a.dst.toNat true,s.q++[a.dst]⟩
def cz (arcs:List (List fW))(s:uT):uT:=match s.q with
 | []=>s
 | i::r=>(arcs.getD i.toNat []).foldl (dP i) ⟨s.out,s.waits.set i.toNat false,r⟩
def ed (s:uT):Bool:=s.q.isEmpty
def Mj (arcs:List (List fW)):∀ s,ed s=true->cz arcs s=s:=by
 rintro⟨o,w,q⟩ h
 cases q with
 | nil=>rfl
 | cons _ _=>exact absurd h (by simp[ed])
def sP (S:bZ)(ir:Bool)(e:de):fW:=if ir then ⟨e.dst,e.bh,S.aS.getD e.cK.toNat W.dflt⟩ else ⟨e.bh,e.dst,S.aS.getD e.cK.toNat W.dflt⟩
def jC (S:bZ)(ir:Bool):List (List fW):=fV (·.bh) S.st.toNat (S.aD.map (sP S ir))
def fk (n:Nat)(fr:J):uT:=⟨fr.foldl (fun o i=>o.set i.toNat 0) (replicate n 1125899906842624),fr.foldl (fun o i=>o.set i.toNat true) (replicate n false),fr⟩
noncomputable def Cr (S:bZ)(fr:J)(ir:Bool):J:=(oY (cz (jC S ir)) ed (fk S.st.toNat fr)).out
def gM (g:List Bool)(k:Nat):J:=(List.range k).filterMap fun i=>if g.getD i ah.dflt then some (i:Int) else none
def vL (g:List Bool):J:=gM g g.length
noncomputable def mW (S:bZ):J:=Cr S (vL S.aQ) true
def cQ (S:bZ):List (List de):=fV (·.cK) S.aS.length S.aD
def na (a b:bZ):List Bool:=(List.range a.st.toNat).flatMap fun i=>(List.range b.st.toNat).map fun j=>a.aQ.getD i ah.dflt && b.aQ.getD j ah.dflt
def zo (a b:bZ):Nat:=((List.range a.aS.length).map fun l=>((cQ a).getD l []).length*((cQ b).getD l []).length).foldl (·+·) 0
def sG (a b:bZ):List de:=(List.range a.aS.length).flatMap fun l=>((cQ a).getD l []).flatMap fun e=>((cQ b).getD l []).map fun f=>⟨e.bh*b.st+f.bh,l,e.dst*b.st+f.dst⟩
open Classical in
noncomputable def dB (a b:bZ):Int:=if dR a/\dR b/\a.aS=b.aS then (if 4096<a.st*b.st then 5 else if 65536<zo a b then 5 else 0) else 2
noncomputable def jh (a b:bZ):bZ:=if dB a b=0 then ⟨a.st*b.st,a.bR*b.st+b.bR,a.aS,iu jg (sG a b),na a b⟩ else cE
def jz (c:J)(n:Int)(k:Int):Prop:=(c.length:Int)=n/\(∀ x∈c,0<=x/\x<n)/\(∀ x∈c,x<k)/\∀ x:Int,0<=x->x<k->x∈c
def ő {c:J}{n k o:Int}(h:jz c n k)(L:jz c n o)(hk:0<=k)(al:0<=o):k=o:=by
 obtain⟨_,_,V,h4⟩:=h;obtain⟨_,_,z,F⟩:=L;by_cases e:k=o
 ·exact e
 rcases Int.lt_or_lt_of_ne e with K|K
 ·have:=V _ (F k hk K);omega
 have:=z _ (h4 o al K);omega
open Classical in
noncomputable def ln (c:J)(n:Int):Bool:=decide (∃ k,0<=k/\jz c n k)
open Classical in
noncomputable def lT (c:J)(n:Int):Int:=if h:∃ k,0<=k/\jz c n k then Classical.choose h else 0
def YJ {c:J}{n k:Int}(hk:0<=k)(h:jz c n k):ln c n=true/\lT c n=k:=by
 have hx:∃ k,0<=k/\jz c n k:=⟨k,hk,h⟩
 refine⟨by unfold ln;simp only[hx,decide_true],?_⟩;unfold lT;rw[dif_pos hx];have:=wh hx;exact ő this.2 h this.1 hk
noncomputable def fx (S:bZ)(c:J):Int:=if iT S=true/\ln c S.st=true then 0 else 2
def sH (g:List Bool)(c:J)(k:Nat):List Bool:=(List.range k).map fun (x:Nat)=>(List.range g.length).any fun s=>decide (c.getD s W.dflt=(x:Int)) && g.getD s ah.dflt
def rA (c:J)(e:de):de:=⟨c.getD e.bh.toNat W.dflt,e.cK,c.getD e.dst.toNat W.dflt⟩
noncomputable def kC (S:bZ)(c:J):bZ:=if fx S c=0 then ⟨lT c S.st,c.getD S.bR.toNat W.dflt,S.aS,lL (iu jg (S.aD.map (rA c))),sH S.aQ c (lT c S.st).toNat⟩ else cE
def cU (l:List ByteArray):List ByteArray:=l.foldl (fun u s=>if u.any (fun x=>decide (x=s)) then u else u++[s]) []
def fb (l:List ByteArray):J:=l.map fun s=>((cU l).findIdx (fun x=>decide (x=s)):Int)
def Iq (S:bZ)(c:J)(s:Nat):List (Int × Int):=(S.aD.filter fun e=>decide (e.bh=(s:Int))).map fun e=>(e.cK,c.getD e.dst.toNat W.dflt)
def jf (n:Int):List UInt8:=Go.Lib.itoa n
def nf (p:Int × Int):List UInt8:=32::jf p.1++58::jf p.2
def lq (S:bZ)(c:J)(s:Nat):List UInt8:=jf (c.getD s W.dflt)++(lL (iu oP (Iq S c s))).flatMap nf
def kf (S:bZ)(c:J):List ByteArray:=(List.range S.st.toNat).map fun s=>⟨(lq S c s).toArray⟩
def kJ (S:bZ)(x:J × Nat × Bool):J × Nat × Bool:=if x.2.2 then x else (fb (kf S x.1),(cU (kf S x.1)).length,decide ((cU (kf S x.1)).length=x.2.1))
def ux (x:J × Nat × Bool):Bool:=x.2.2
def Yx (S:bZ):∀ x,ux x=true->kJ S x=x:=fun x h=>by
 unfold kJ ux at *
 rw[aM h]
def kA (b:Bool):ByteArray:=if b then ⟨#[116,114,117,101]⟩ else ⟨#[102,97,108,115,101]⟩
def s7 (S:bZ):J × Nat × Bool:=(fb (S.aQ.map kA),(cU (S.aQ.map kA)).length,false)
noncomputable def uP (S:bZ):J:=(oY (kJ S) ux (s7 S)).1
def Aj (g:List Bool)(k:Nat):Nat->Option Nat
 | 0=>none
 | i+1=>if g.getD i ah.dflt=g.getD k ah.dflt then some i else Aj g k i
def Ai (g:List Bool):Nat->Nat × Nat
 | 0=>(0,1)
 | k+1=>if k=0 then (0,1) else match Aj g k k with|some i=>(i,k)|none=>Ai g k
def tN (g:List Bool):Nat × Nat:=Ai g g.length
def pV (i k:Nat)(c:Int):Int:=if c=k then i else if c>k then c-1 else c
def kK (most:Nat)(x:J × List Bool):J × List Bool:=if x.2.length<=most then x else (x.1.map (pV (tN x.2).1 (tN x.2).2),x.2.eraseIdx (tN x.2).2)
def uw (most:Nat)(x:J × List Bool):Bool:=decide (x.2.length<=most)
def YG (most:Nat):∀ x,uw most x=true->kK most x=x:=fun x h=>by
 unfold kK;rw[aM (uB h)]
def lm (l:J):Int:=l.tail.foldl max (l.headD 0)
def Ak (g:List Bool)(c:J)(k:Nat):List Bool:=(List.range k).map fun (x:Nat)=>(((List.range c.length).reverse.find? fun s=>decide (c.getD s W.dflt=(x:Int))).map fun s=>g.getD s ah.dflt).getD false
noncomputable def gC (S:bZ)(most:Int):J:=(oY (kK (max 1 (min most 4096)).toNat) (uw (max 1 (min most 4096)).toNat) (uP S,Ak S.aQ (uP S) (lm (uP S)+1).toNat)).1
def c9 (n:Nat):J:=(List.range n).map fun (i:Nat)=>(i:Int)
open Classical in
noncomputable def cJ (S:bZ)(most:Int):Int:=if S.st<=most then 0 else if dR S then fx S (gC S most) else 2
open Classical in
noncomputable def fU (S:bZ)(most:Int):J:=if S.st<=most then c9 S.st.toNat else if dR S then gC S most else []
open Classical in
noncomputable def dX (S:bZ)(most:Int):bZ:=if S.st<=most then S else if dR S then kC S (gC S most) else cE
abbrev ib (x v:Nat):Prop:=x.testBit v=true
structure Gr (n:Nat) (N:Nat->Nat):Prop where
 sym:∀ u v,ib (N u) v->ib (N v) u
 Jn:∀ u,¬ib (N u) u
 bd:∀ u v,ib (N u) v->v<n
structure tV (n:Nat) (N:Nat->Nat) (C:Nat):Prop where
 bd:∀ v,ib C v->v<n
 tl:∀ u v,ib C u->ib C v->u≠v->ib (N u) v
 max:∀ u,u<n->¬ib C u->∃ v,ib C v/\¬ib (N u) v
structure kc (n:Nat) (N:Nat->Nat) (R P C:Nat):Prop where
 mx:tV n N C
 lo:∀ v,ib R v->ib C v
 hi:∀ v,ib C v->ib R v\/ib P v
structure BI (n:Nat) (N:Nat->Nat) (R P X':Nat):Prop where
 rb:∀ v,ib R v->v<n
 pb:∀ v,ib P v->v<n
 xb:∀ v,ib X' v->v<n
 tl:∀ u v,ib R u->ib R v->u≠v->ib (N u) v
 wz:∀ u,ib P u\/ib X' u->∀ r,ib R r->ib (N u) r
 all:∀ u,u<n->(∀ r,ib R r->ib (N u) r)->ib P u\/ib X' u
section
variable {n:Nat}{N:Nat->Nat}{R P X' C:Nat}
def BI.eL (h:BI n N R P X')(K:∀ v,¬ib P v)(L:∀ v,¬ib X' v):kc n N R P C↔C=R:=by
 constructor
 ·intro F
  apply CI;intro i;by_cases o:ib C i
  ·rcases F.hi i o with h1|h1
   ·exact o.trans h1.symm
   exact absurd h1 (K i)
  have z:¬ib R i:=fun z=>o (F.lo i z);rw[nG.2 o,nG.2 z]
 rintro rfl;refine⟨⟨h.rb,h.tl,fun u hu hn=>?_⟩,fun _ hv=>hv,fun _ hv=>.inl hv⟩;refine nr fun F=>?_;have o:∀ r,ib C r->ib (N u) r:=fun r z=>nr fun V=>F ⟨r,z,V⟩;rcases h.all u hu o with h1|h1
 ·exact K u h1
 exact L u h1
def BI.Na (o:Gr n N)(h:BI n N R P X'){v:Nat}(hv:ib P v\/ib X' v):¬ib R v:=fun z=>o.Jn v (h.wz v hv v z)
def BI.child (hG:Gr n N)(h:BI n N R P X'){v X1:Nat}(hv:ib P v)(h1:∀ u,ib R1 u↔ib R u\/u=v)(h2:∀ u,ib P1 u↔ib P u/\ib (N v) u)(h3:∀ u,ib X1 u↔ib X' u/\ib (N v) u):BI n N R1 P1 X1 where
 rb u hu:=by
  rcases (h1 u).1 hu with F|rfl
  ·exact h.rb u F
  exact h.pb _ hv
 pb u hu:=h.pb u ((h2 u).1 hu).1
 xb u hu:=h.xb u ((h3 u).1 hu).1
 tl a b o z K:=by
  rcases (h1 a).1 o with o|rfl
  ·rcases (h1 b).1 z with z|rfl
   ·exact h.tl a b o z K
   exact hG.sym _ _ (h.wz _ (.inl hv) a o)
  rcases (h1 b).1 z with z|rfl
  ·exact h.wz _ (.inl hv) b z
  exact absurd rfl K
 wz u hu r L:=by
  have V:(ib P u\/ib X' u)/\ib (N v) u:=by
   rcases hu with hu|hu
   ·exact⟨.inl ((h2 u).1 hu).1,((h2 u).1 hu).2⟩
   exact⟨.inr ((h3 u).1 hu).1,((h3 u).1 hu).2⟩
  rcases (h1 r).1 L with L|rfl
  ·exact h.wz u V.1 r L
  exact hG.sym _ _ V.2
 all u hu o:=by
  have V:ib (N v) u:=hG.sym _ _ (o v ((h1 v).2 (.inr rfl)));rcases h.all u hu (fun r L=>o r ((h1 r).2 (.inl L))) with F|F
  ·exact .inl ((h2 u).2 ⟨F,V⟩)
  exact .inr ((h3 u).2 ⟨F,V⟩)
def BI.next (h:BI n N R P X'){v K:Nat}(hv:ib P v)(h2:∀ u,ib P1 u↔ib P u/\u≠v)(z:∀ u,ib K u↔ib X' u\/u=v):BI n N R P1 K where
 rb:=h.rb
 pb u hu:=h.pb u ((h2 u).1 hu).1
 xb u hu:=by
  rcases (z u).1 hu with o|rfl
  ·exact h.xb u o
  exact h.pb _ hv
 tl:=h.tl
 wz u hu r F:=by
  rcases hu with hu|hu
  ·exact h.wz u (.inl ((h2 u).1 hu).1) r F
  rcases (z u).1 hu with o|rfl
  ·exact h.wz u (.inr o) r F
  exact h.wz _ (.inl hv) r F
 all u hu L:=by
  rcases h.all u hu L with o|o
  ·by_cases e:u=v
   ·exact .inr ((z u).2 (.inr e))
   exact .inl ((h2 u).2 ⟨o,e⟩)
  exact .inr ((z u).2 (.inl o))
def BI.split (hG:Gr n N)(h:BI n N R P X'){v P2:Nat}(hv:ib P v)(h1:∀ u,ib R1 u↔ib R u\/u=v)(h2:∀ u,ib P1 u↔ib P u/\ib (N v) u)(L:∀ u,ib P2 u↔ib P u/\u≠v) :
  (kc n N R P C↔kc n N R1 P1 C\/kc n N R P2 C)/\(kc n N R1 P1 C->ib C v)/\(kc n N R P2 C->¬ib C v):=by
 have V:=h.Na hG (.inl hv);refine⟨⟨fun z=>?_,fun z=>?_⟩,fun z=>z.lo v ((h1 v).2 (.inr rfl)),fun z F=>?_⟩
 ·by_cases F:ib C v
  ·refine .inl ⟨z.mx,fun u hu=>?_,fun u hu=>?_⟩
   ·rcases (h1 u).1 hu with o|rfl
    ·exact z.lo u o
    exact F
   by_cases e:u=v
   ·exact .inl ((h1 u).2 (.inr e))
   rcases z.hi u hu with o|o
   ·exact .inl ((h1 u).2 (.inl o))
   exact .inr ((h2 u).2 ⟨o,z.mx.tl v u F hu (fun hh=>e hh.symm)⟩)
  refine .inr ⟨z.mx,z.lo,fun u hu=>?_⟩;rcases z.hi u hu with o|o
  ·exact .inl o
  exact .inr ((L u).2 ⟨o,fun e=>F (e ▸ hu)⟩)
 ·rcases z with z|z
  ·refine⟨z.mx,fun u hu=>z.lo u ((h1 u).2 (.inl hu)),fun u hu=>?_⟩
   rcases z.hi u hu with o|o
   ·rcases (h1 u).1 o with o|rfl
    ·exact .inl o
    exact .inr hv
   exact .inr ((h2 u).1 o).1
  refine⟨z.mx,z.lo,fun u hu=>?_⟩;rcases z.hi u hu with o|o
  ·exact .inl o
  exact .inr ((L u).1 o).1
 rcases z.hi v F with o|o
 ·exact V o
 exact((L v).1 o).2 rfl
def BI.pivot (hG:Gr n N)(h:BI n N R P X'){u:Nat}(hu:ib P u\/ib X' u)(hc:kc n N R P C):∃ q,ib C q/\ib P q/\¬ib (N u) q:=by
 refine nr fun L=>?_;have o:∀ c,ib C c->ib (N u) c:=fun c F=>by
  rcases hc.hi c F with z|z
  ·exact h.wz u hu c z
  exact nr fun K=>L ⟨c,F,z,K⟩
 by_cases K:ib C u
 ·exact hG.Jn u (o u K)
 have V:u<n:=by
  rcases hu with z|z
  ·exact h.pb u z
  exact h.xb u z
 obtain⟨v,hv,z⟩:=hc.mx.max u V K;exact z (o v hv)
end
def Bj (x v:Nat):Prop:=ib x v/\∀ u,u<v->¬ib x u
def Om {x:Nat}(h:x≠0):∃ v,Bj x v:=by
 have:∃ v,ib x v:=by
  refine nr fun z=>h (CI fun i=>?_);rw[zero_testBit];exact nG.2 fun o=>z ⟨i,o⟩
 obtain⟨v,hv⟩:=this
 induction v using Nat.strongRecOn with
 | _ v z =>
  by_cases o:∃ u,u<v/\ib x u
  ·obtain⟨u,h1,F⟩:=o
   exact z u h1 F
  exact⟨v,hv,fun u hu F=>o ⟨u,hu,F⟩⟩
def Œ {x v:Nat}(h:Bj x v):x=2 ^ (v+1)*(x / 2 ^ (v+1))+2 ^ v:=by
 apply CI;intro i;rw[PB _ (by rw[Nat.pow_succ];have:=Jy v;omega)];split
 ·rename_i o
  rw[yC];by_cases e:v=i
  ·subst e;rw[dy rfl];exact h.1
  rw[dU e];exact nG.2 (h.2 i U)
 rename_i o;rw[testBit_div_two_pow];congr 1;omega
def Tp {x v:Nat}(h:Bj x v)(i:Nat):(x-1).testBit i=if i<v then true else if i=v then false else x.testBit i:=by
 have F:=Jy v;have e:x-1=2 ^ (v+1)*(x / 2 ^ (v+1))+(2 ^ v-1):=by
  have:=Œ h;omega
 rw[e,PB _ (by rw[Nat.pow_succ];omega)];split
 ·rename_i z
  rw[Ow];by_cases o:i<v
  ·rw[aM o,dy o]
  rw[aC o,aM U,dU o]
 rename_i z;rw[aC U,aC U,testBit_div_two_pow];congr 1;omega
def Oo {x v:Nat}(h:Bj x v)(i:Nat):ib (x &&& (x-1)) i↔ib x i/\i≠v:=by
 unfold ib;rw[GY,Tp h,Bool.and_eq_true];by_cases F:i<v
 ·have:=h.2 i F
  rw[aM F];exact⟨fun o=>absurd o.1 this,fun o=>absurd o.1 this⟩
 rw[aC F];by_cases z:i=v
 ·rw[aM z]
  exact⟨fun o=>(by cases o.2),fun o=>absurd z o.2⟩
 rw[aC z];exact⟨fun o=>⟨o.1,z⟩,fun o=>⟨o.1,o.1⟩⟩
def On {x:Nat}(h:x≠0):x &&& (x-1)<x:=by
 have:=and_le_right (n:=x) (m:=x-1);omega
def WV {x v:Nat}(h:Bj x v)(hx:x<2 ^ 64):x &&& (2 ^ 64-x)=2 ^ v:=by
 have F:x≠0:=fun e=>by have:=h.1;subst e;simp[ib]at this
 have hv:v<64:=Kw fun eI=>by
  have h1:=h.1;unfold ib at h1;rw[CE (Bb hx (yt dc eI))]at h1;cases h1
 apply CI;intro i;rw[GY,show 2 ^ 64-x=2 ^ 64-((x-1)+1) by omega,PC U,Tp h,yC];by_cases o:i<v
 ·rw[aM o,nG.2 (h.2 i o),Br,dU U]
 rw[aC o];by_cases z:i=v
 ·subst z
  rw[aM rfl,show x.testBit i=true from h.1,dy hv,dy rfl];rfl
 rw[aC z,show decide (v=i)=false from dU fun K=>z K.symm];cases x.testBit i<;>simp
def WU {x v k:Nat}(h:Bj x v)(hx:x<2 ^ k):v<k:=Kw fun eI=>by
 have h1:=h.1;unfold ib at h1;rw[CE (Bb hx (yt dc eI))]at h1;cases h1
def dz (C:Nat)(k:Nat):J:=((List.range k).filter fun v=>C.testBit v).map fun (v:Nat)=>(v:Int)
def Mk (C k:Nat):dz C (k+1)=dz C k++if C.testBit k then [(k:Int)] else []:=by
 unfold dz;rw[l5,Bd,oh];congr 1;simp only[wg,GI];split<;>rfl
def Oh (C:Nat):∀ k,(dz C k).length<=k
 | 0=>cD _
 | k+1=>by
  rw[Mk,length_append];have:=Oh C k;split<;>simp<;>omega
def EH {C k:Nat}{x:Int}:x∈dz C k↔∃ v:Nat,v<k/\ib C v/\x=v:=by
 simp only[dz,iS,rV,mem_range];constructor
 ·rintro⟨v,⟨h1,h⟩,rfl⟩;exact⟨v,h1,h,rfl⟩
 rintro⟨v,h1,h,rfl⟩;exact⟨v,⟨h1,h⟩,rfl⟩
def VP {C o n:Nat}(h:∀ v,ib C v->v<n)(F:∀ v,ib o v->v<n)(he:dz C n=dz o n):C=o:=by
 apply CI;intro i;have key:ib C i↔ib o i:=by
  constructor
  ·intro z
   have:(i:Int)∈dz C n:=EH.2 ⟨i,h i z,z,rfl⟩;rw[he]at this;obtain⟨v,_,hv,e⟩:=EH.1 this;have:i=v:=U;rw[this];exact hv
  intro z;have:(i:Int)∈dz o n:=EH.2 ⟨i,F i z,z,rfl⟩;rw[<-he]at this;obtain⟨v,_,hv,e⟩:=EH.1 this;have:i=v:=U;rw[this];exact hv
 exact KC.2 key
def e8:J->J->Int
 | [],[]=>0
 | [],_::_ => -1
 | _::_,[]=>1
 | x::xs,y::h=>if x<y then -1 else if y<x then 1 else e8 xs h
def Ou:∀ xs,e8 xs xs=0
 | []=>rfl
 | x::xs=>by simp[e8,Ou xs]
def œ:∀ xs ys,e8 xs ys = -1\/e8 xs ys=0\/e8 xs ys=1
 | [],[]=>.inr (.inl rfl)
 | [],_::_=>.inl rfl
 | _::_,[]=>.inr (.inr rfl)
 | x::xs,y::ys=>by
  simp only[e8];split
  ·exact .inl rfl
  split
  ·exact .inr (.inr rfl)
  exact œ xs ys
def Jr:∀ xs ys,e8 ys xs =-e8 xs ys
 | [],[]=>rfl
 | [],_::_=>rfl
 | _::_,[]=>rfl
 | x::xs,y::ys=>by
  simp only[e8];by_cases h1:x<y
  ·rw[aM h1,aC U,aM h1];rfl
  by_cases h:y<x
  ·rw[aM h,aC h1,aM h]
  rw[aC h1,aC h,aC h,aC h1];exact Jr xs ys
def Jq:∀ {xs ys},e8 xs ys=0->xs=ys
 | [],[],_=>rfl
 | [],_::_,h=>by simp[e8]at h
 | _::_,[],h=>by simp[e8]at h
 | x::xs,y::ys,h=>by
  simp only[e8]at h;split at h
  ·cases h
  split at h
  ·cases h
  rw[Jq h];congr 1;omega
def Jp:∀ {xs ys zs},e8 xs ys<0->e8 ys zs<0->e8 xs zs<0
 | [],[],_,h,_=>by simp[e8]at h
 | [],_::_,[],_,h=>by simp[e8]at h
 | [],_::_,_::_,_,_=>by simp[e8]
 | _::_,[],_,h,_=>by simp[e8]at h
 | _::_,_::_,[],_,h=>by simp[e8]at h
 | x::xs,y::ys,z::zs,h1,o=>by
  simp only[e8]at h1 o ⊢;by_cases a:x<y
  ·by_cases b:y<z
   ·rw[aM U];decide
   rw[aC b]at o;split at o
   ·cases o
   rw[aM U];decide
  rw[aC a]at h1;split at h1
  ·cases h1
  by_cases b:y<z
  ·rw[aM U];decide
  rw[aC b]at o;split at o
  ·cases o
  rw[aC U,aC U];exact Jp h1 o
def BL (L:List J):Prop:=L.Pairwise fun a b=>e8 a b<0
section
variable {n:Nat}{N:Nat->Nat}{l:J}{v:Nat}{E_ E1 E2:List J}
def Oi {C k:Nat}(hv:ib C k):dz C (k+1)=dz C k++[(k:Int)]:=by rw[Mk,aM hv]
def Oj {C k:Nat}(hv:¬ib C k):dz C (k+1)=dz C k:=by rw[Mk,aC hv,fS]
end
structure kM where
 bh:Int
 dst:Int
 wt:Int
 deriving DecidableEq
def bC:Ty kM:=⟨3,fun a=>[E a.bh,E a.dst,E a.wt],fun _=>rfl,⟨0,0,0⟩⟩
def fg (n:Int)(a:kM):Prop:=0<=a.bh/\a.bh<n/\0<=a.dst/\a.dst<n /\ -1099511627776<=a.wt/\a.wt<=1099511627776
instance (n:Int) (a:kM):Decidable (fg n a):=by unfold fg;infer_instance
def cq (n:Int)(arcs:List kM):Int :=
 if n<0 then 1 else if 4096<n\/65536<(arcs.length:Int) then 5 else if ∀ a∈arcs,fg n a then 0 else 1
def VD {n:Int}{arcs:List kM}(h:n<0):cq n arcs=1:=by simp[cq,h]
def VE {n:Int}{arcs:List kM}(h:0<=n)(h1:4096<n\/65536<(arcs.length:Int)):cq n arcs=5:=by simp only[cq,aC (tu.2 h),h1,if_true]
def VF {n:Int}{arcs:List kM}(h:0<=n)(h1:¬(4096<n\/65536<(arcs.length:Int))){k:Nat}(hk:k<arcs.length)(o:¬fg n (arcs.getD k bC.dflt)):cq n arcs=1:=by
 have:¬∀ a∈arcs,fg n a:=fun z=>o (z _ (cH _ hk));simp only[cq,aC (tu.2 h),h1,this,if_false]
def Of {n:Int}{arcs:List kM}(h:0<=n)(h1:¬(4096<n\/65536<(arcs.length:Int)))(z:∀ i,i<arcs.length->fg n (arcs.getD i bC.dflt)):cq n arcs=0:=by
 have:∀ a∈arcs,fg n a:=fun a F=>by
  obtain⟨i,o,rfl⟩:=fJ F;have:=z i o
  simpa [List.getD,o] using this
 simp only[cq,aC (tu.2 h),h1,if_false,aM this]
def VR {n:Int}{arcs:List kM}(h:cq n arcs=0):0<=n/\n<=4096/\arcs.length<=65536/\∀ a∈arcs,fg n a:=by
 unfold cq at h;split at h
 ·cases h
 split at h
 ·cases h
 split at h
 ·rename_i h1 z o;exact⟨U,U,U,o⟩
 cases h
def mU (arcs:List kM)(u v:Nat):Prop:=u≠v/\∃ a∈arcs,(a.bh=u/\a.dst=v)\/(a.bh=v/\a.dst=u)
def mU.symm {arcs:List kM}{u v:Nat}(h:mU arcs u v):mU arcs v u:=⟨fun e=>h.1 e.symm,let ⟨a,o,z⟩:=h.2;⟨a,o,z.symm⟩⟩
def mh (L:List Nat)(u v:Nat):List Nat:=L.set u (L.getD u cW.dflt ||| 2 ^ v)
def Oy (L:List Nat)(u v:Nat):(mh L u v).length=L.length:=by simp[mh]
def Jw {L:List Nat}{u v x:Nat}(hu:u<L.length):ib ((mh L u v).getD x cW.dflt) y↔ib (L.getD x cW.dflt) y\/(x=u/\y=v):=by
 unfold mh;by_cases e:x=u
 ·subst e
  have o:(L.set x (L.getD x cW.dflt ||| 2 ^ v)).getD x cW.dflt=L.getD x cW.dflt ||| 2 ^ v:=by simp[List.getD,hu]
  rw[o];unfold ib;rw[testBit_or,yC,qa,gQ];constructor
  ·rintro (h|h)
   ·exact .inl h
   exact .inr ⟨rfl,h.symm⟩
  rintro (h|h)
  ·exact .inl h
  exact .inr h.2.symm
 have o:(L.set u (L.getD u cW.dflt ||| 2 ^ v)).getD x cW.dflt=L.getD x cW.dflt:=by
  simp only[List.getD,vz,aC (fun h=>e h.symm:¬u=x)]
 rw[o];exact⟨.inl,fun h=>h.elim id fun z=>absurd z.1 e⟩
def pj (L:List Nat)(a:kM):List Nat:=if a.bh=a.dst then L else mh (mh L a.bh.toNat a.dst.toNat) a.dst.toNat a.bh.toNat
def eS (n:Nat)(arcs:List kM)(k:Nat):List Nat:=(arcs.take k).foldl pj (replicate n 0)
def Ŕ (n:Nat)(arcs:List kM):eS n arcs 0=replicate n 0:=rfl
def Gb {n:Nat}{arcs:List kM}{k:Nat}(h:k<arcs.length):eS n arcs (k+1)=pj (eS n arcs k) (arcs.getD k bC.dflt):=by
 rw[eS,eC bC.dflt h,ti];rfl
def ŕ (L:List Nat)(a:kM):(pj L a).length=L.length:=by unfold pj;split<;>simp[mh]
def Ga {n:Nat}{arcs:List kM}:∀ k,k<=arcs.length->(eS n arcs k).length=n
 | 0,_=>by simp[eS]
 | k+1,h=>by rw[Gb U,ŕ,Ga k U]
def Gc {n:Nat}{arcs:List kM}(bL:∀ a∈arcs,fg n a){x y:Nat}:∀ k,k<=arcs.length->(ib ((eS n arcs k).getD x cW.dflt) y↔mU (arcs.take k) x y)
 | 0,_=>by
  constructor
  ·intro h
   have e:(eS n arcs 0).getD x cW.dflt=0:=by
    rw[Ŕ];simp only[List.getD,zP];split<;>rfl
   rw[e]at h;simp[ib]at h
  rintro⟨_,a,K,_⟩;simp at K
 | k+1,h=>by
  have L:=Gc bL (x:=x) (y:=y) k U;have V:=Ga (n:=n) (arcs:=arcs) k U;have K:=bL _ (cH bC.dflt (show k<arcs.length by omega));unfold fg at K;have F:mU (arcs.take (k+1)) x y↔mU (arcs.take k) x y\/(x≠y/\(((arcs.getD k bC.dflt).bh=x/\(arcs.getD k bC.dflt).dst=y)\/((arcs.getD k bC.dflt).bh=y/\(arcs.getD k bC.dflt).dst=x))):=by
   rw[eC bC.dflt U];unfold mU;constructor
   ·rintro⟨o,a,hm,z⟩
    rcases gG.1 hm with hm|hm
    ·exact .inl ⟨o,a,hm,z⟩
    rw[dp.1 hm]at z;exact .inr ⟨o,z⟩
   rintro (⟨o,a,hm,z⟩|⟨o,z⟩)
   ·exact⟨o,a,xX _ hm,z⟩
   exact⟨o,_,Gv _ (dp.2 rfl),z⟩
  rw[Gb U,F,<-L];unfold pj;split
  ·rename_i e
   refine⟨.inl,fun h=>h.elim id fun z=>?_⟩;omega
  rename_i e;rw[Jw (by rw[Oy];omega),Jw U];constructor
  ·rintro ((h|h)|h)
   ·exact .inl h
   ·exact .inr ⟨U,U⟩
   exact .inr ⟨U,U⟩
  rintro (h|⟨h1,o|o⟩)
  ·exact .inl (.inl h)
  ·exact .inl (.inr ⟨U,U⟩)
  exact .inr ⟨U,U⟩
def uV (n:Nat)(arcs:List kM):List Nat:=eS n arcs arcs.length
def r5 (n:Nat)(arcs:List kM)(u:Nat):Nat:=(uV n arcs).getD u cW.dflt
def DE {n:Nat}{arcs:List kM}(bL:∀ a∈arcs,fg n a){x:Nat}:ib (r5 n arcs x) y↔mU arcs x y:=by
 have:=Gc bL (x:=x) (y:=y) arcs.length (cD _)
 rwa[kV]at this
def mU.lt {n:Nat}{arcs:List kM}(bL:∀ a∈arcs,fg n a){x:Nat}(h:mU arcs x y):x<n/\y<n:=by
 obtain⟨_,a,z,o⟩:=h;have:=bL a z;unfold fg at this;rcases o with o|o<;>constructor<;>omega
def Oz {n:Nat}{arcs:List kM}(bL:∀ a∈arcs,fg n a):Gr n (r5 n arcs) :=
 ⟨fun _ _ h=>(DE bL).2 ((DE bL).1 h).symm,fun _ h=>((DE bL).1 h).1 rfl,fun _ _ h=>(((DE bL).1 h).lt bL).2⟩
def Og {C n:Nat}(h:∀ v,ib C v->v<n):C<2 ^ n:=Ke C fun i z=>nG.2 fun o=>by have:=h i o;omega
def VS {n:Nat}{arcs:List kM}(bL:∀ a∈arcs,fg n a){k x:Nat}(hk:k<=arcs.length):(eS n arcs k).getD x cW.dflt<2 ^ n:=Og fun v hv=>by
 have:=(Gc bL k hk).1 hv;exact(mU.lt (arcs:=arcs.take k) (fun a h=>bL a (pO h)) this).2
end
section
open Go.Sl Go Go.Sort
def Ml {a b:de}:jg a b<0↔(a.bh<b.bh\/a.bh=b.bh/\(a.cK<b.cK\/a.cK=b.cK/\a.dst<b.dst)):=by
 simp only[jg,wn,gd,ne_eq]
 repeat' split
 all_goals omega
def Mm {a b:Int × Int}:oP a b<0↔(a.1<b.1\/a.1=b.1/\a.2<b.2):=by
 simp only[oP,wn,gd,ne_eq]
 repeat' split
 all_goals omega
def wV:SWO (ltOf jg) where
 irrefl x:=by simp only[ltOf,qA,Ml];omega
 trans x y z h1 h:=by simp only[ltOf,gQ,Ml]at h1 h ⊢;omega
 ntrans x y z h1 h:=by simp only[ltOf,qA,Ml]at h1 h ⊢;omega
def BS:SWO (ltOf oP) where
 irrefl x:=by simp only[ltOf,qA,Mm];omega
 trans x y z h1 h:=by simp only[ltOf,gQ,Mm]at h1 h ⊢;omega
 ntrans x y z h1 h:=by simp only[ltOf,qA,Mm]at h1 h ⊢;omega
section
variable {α:Type} [Inhabited α] {cf:α->α->Int}(hO:SWO (ltOf cf)) {l:List α}
include hO
def Tq:(iu cf l).Perm l:=by
 have h:=pdq_sorts (ltOf cf) hO l.toArray 0 l.toArray.size (Lib.bitLen l.toArray.size) true true (bu _) (cD _) (Or.inl rfl);obtain⟨⟨z,_,o⟩,_⟩:=h;have e:iu cf l=(pdq (ltOf cf) l.toArray 0 l.toArray.size (Lib.bitLen l.toArray.size) true true).toList:=rfl;rw[e];generalize pdq (ltOf cf) l.toArray 0 l.toArray.size (Lib.bitLen l.toArray.size) true true=d at z o ⊢;have F:d.extract 0 l.toArray.size=d:=by
  have:=F8 (xs:=d)
  rwa[z]at this
 have K:l.toArray.extract 0 l.toArray.size=l.toArray:=F8;rw[F,K]at o
 simpa using o
def HD:(iu cf l).length=l.length:=(Tq hO).length_eq
def Mn {a:α}:a∈iu cf l↔a∈l:=(Tq hO).mem_iff
def Ŗ:iu cf []=[]:=n0 (HD hO)
end
section
variable {α:Type} [DecidableEq α]
def Mo (x:α)(r:List α):∃ t,lL (x::r)=x::t:=⟨_,rfl⟩
def Da (a b:α)(l:List α):lL (a::b::l)=a::(if a=b then (lL (b::l)).tail else lL (b::l)):=rfl
def Mp (x y:α):∀ l:List α,lL (l++[y]++[x])=lL (l++[y])++(if y=x then [] else [x])
 | []=>by simp only[kL,qC,lL];split<;>rfl
 | [a]=>by
  have o:=Mp x y [];simp only[kL,qC]at o ⊢;obtain⟨t,z⟩:=Mo y [];rw[Da a y [x],Da a y [],o,z];by_cases h:a=y
  ·simp only[aM h,qC,tail_cons]
  simp only[aC h,qC]
 | a::b::r=>by
  have o:=Mp x y (b::r);simp only[qC]at o ⊢;obtain⟨t,z⟩:=Mo b (r++[y]);rw[Da a b (r++[y]++[x]),Da a b (r++[y]),o,z];by_cases h:a=b
  ·simp only[aM h,qC,tail_cons]
  simp only[aC h,qC]
def HC (d:α){l:List α}{k:Nat}(h:0<k)(hk:k<l.length):lL (l.take (k+1))=lL (l.take k)++(if l.getD (k-1) d=l.getD k d then [] else [l.getD k d]):=by
 obtain⟨j,rfl⟩:∃ j,k=j+1:=⟨k-1,U⟩
 rw[eC d hk,eC d (show j<l.length by omega)];exact Mp _ _ _
def Mq {a:α}:∀ {l:List α},a∈lL l↔a∈l
 | []=>x6
 | [x]=>by simp[lL]
 | x::y::r=>by
  have o:=Mq (a:=a) (l:=y::r);rw[Da];obtain⟨t,z⟩:=Mo y r;rw[z]at o ⊢;by_cases h:x=y
  ·subst h
   simp only[if_true,tail_cons];rw[o];simp
  simp only[aC h];rw[ee,o,ee (a:=a) (b:=x)]
def Tr:∀ (l:List α),(lL l).length<=l.length
 | []=>cD _
 | [x]=>cD _
 | x::y::r=>by
  have h:=Tr (y::r);rw[Da];split
  ·rw[length_cons,length_tail];simp only[length_cons]at *;omega
  simp only[length_cons]at *;omega
end
end
section
open Go.Sl
abbrev bH:Int:=1125899906842624
abbrev dg (D:J)(i:Int):Int:=D.getD i.toNat W.dflt
abbrev iC (c:J)(e:de):Int:=c.getD e.cK.toNat W.dflt
inductive lU (E_:List de) (c:J) (G:Int->Prop):Int->Int->Prop
 | aH {a:Int}:G a->lU E_ c G a 0
 | step {e:de}{k:Int}:e∈E_->lU E_ c G e.dst k->lU E_ c G e.bh (iC c e+k)
structure oD (E_:List de) (c:J) (n:Nat):Prop where
 bh:∀ e∈E_,0<=e.bh/\e.bh<n
 dst:∀ e∈E_,0<=e.dst/\e.dst<n
 cK:∀ e∈E_,0<=e.cK/\e.cK<c.length
 aN:∀ x∈c,0<=x/\x<=1099511627776
def oD.iC {E_:List de}{c:J}{n:Nat}(h:oD E_ c n){e:de}(he:e∈E_):0<=iC c e/\iC c e<=1099511627776 :=
 h.aN _ (cH W.dflt (by have:=h.cK e he;omega))
def oD.getD {E_:List de}{c:J}{n k:Nat}(h:oD E_ c n)(hk:k<E_.length):(0<=(E_.getD k aT.dflt).bh/\(E_.getD k aT.dflt).bh<n)/\(0<=(E_.getD k aT.dflt).dst/\(E_.getD k aT.dflt).dst<n)/\(0<=(E_.getD k aT.dflt).cK/\(E_.getD k aT.dflt).cK<c.length)/\0<=Go.Proofs.YtmapkjoefdgjfaaGreatDoor.iC c (E_.getD k aT.dflt)/\Go.Proofs.YtmapkjoefdgjfaaGreatDoor.iC c (E_.getD k aT.dflt)<=1099511627776 :=
 have hm:=cH aT.dflt hk
 ⟨h.bh _ hm,h.dst _ hm,h.cK _ hm,h.iC hm⟩
structure uq (E_:List de) (c:J) (G:Int->Prop) (n:Nat) (D:J):Prop where
 len:D.length=n
 dK:∀ i:Nat,i<n->0<=dg D i/\dg D i<=bH
 wO:∀ i:Nat,i<n->dg D i<bH->lU E_ c G i (dg D i)
 Mr:∀ i:Nat,i<n->G i->dg D i=0
def zr (c:J)(D:J)(e:de):Prop:=dg D e.dst<bH->dg D e.bh<=dg D e.dst+iC c e
structure cN (E_:List de) (c:J) (G:Int->Prop) (n:Nat) (D:J):Prop where
 len:D.length=n
 dK:∀ i:Nat,i<n->0<=dg D i/\dg D i<=bH
 wO:∀ i:Nat,i<n->dg D i<bH->lU E_ c G i (dg D i)
 low:∀ i:Nat,i<n->∀ k,lU E_ c G i k->dg D i<=k
def lU.B9 {E_:List de}{c:J}{G:Int->Prop}{n:Nat}(h:oD E_ c n){a k:Int}(Y:lU E_ c G a k):0<=k:=by
 induction Y with
 | aH _=>omega
 | step he _ o=>have:=h.iC he;omega
def uq.bT {E_:List de}{c:J}{G:Int->Prop}{n:Nat}{D:J}(z:oD E_ c n)(h:uq E_ c G n D)(K:∀ e∈E_,zr c D e):cN E_ c G n D:=by
 refine⟨h.len,h.dK,h.wO,?_⟩;have key:∀ {a k:Int},lU E_ c G a k->0<=a->a<n->dg D a<=k:=by
  intro a k Y
  induction Y with
  | @aH a I =>
   intro o h1;have:=h.Mr a.toNat U (by rw[gA o];exact I);rw[gA o]at this
   omega
  | @step e k he _ L =>
   intro o h1;have F:=z.dst e he;have hc:=z.iC he;have h2:=L F.1 F.2;have V:=K e he;by_cases h4:dg D e.dst<bH
   ·have:=V h4;omega
   have:=(h.dK e.bh.toNat U).2;rw[gA o]at this;omega
 intro i o k Y;exact key Y U U
def cN.aH {E_:List de}{c:J}{G:Int->Prop}{n:Nat}{D:J}(h:cN E_ c G n D){i:Nat}(hi:i<n)(I:G i):dg D i=0:=by
 have:=h.low i hi 0 (.aH I);have:=h.dK i hi;omega
def cN.E4 {E_:List de}{c:J}{G:Int->Prop}{n:Nat}{D:J}(o:oD E_ c n)(h:cN E_ c G n D){e:de}(he:e∈E_):zr c D e:=by
 intro K;have z:=o.dst e he;have F:=o.bh e he;have h1:=h.wO e.dst.toNat U (by rw[gA z.1];exact K);rw[gA z.1]at h1;have L:=h.low e.bh.toNat U _ (by rw[gA F.1];exact .step he h1);rw[gA F.1]at L;omega
def gU (D:J):Nat:=(D.map Int.toNat).sum
def LH {v:Int}:∀ {D:J}{i:Nat},i<D.length->v.toNat<(D.getD i W.dflt).toNat->gU (D.set i v)<gU D
 | [],i,h,_=>by simp at h
 | x::D,0,_,h=>by simp[gU]at h ⊢;omega
 | x::D,i+1,h,o=>by
  have:=LH (i:=i) (D:=D) (by simpa using h) (by simpa using o);simp only[gU,mM,l8,yI]at this ⊢;omega
def Cg {D:J}{a v:Int}(h:0<=a)(o:0<=b)(z:b<D.length):dg (D.set b.toNat v) a=if a=b then v else dg D a:=by
 simp only[dg,iD,vz];by_cases e:a=b
 ·subst e;rw[aM rfl,aM rfl,aM U];rfl
 rw[aC U,aC e]
def uq.sU {E_:List de}{c:J}{G:Int->Prop}{n:Nat}{D:J}(L:oD E_ c n)(h:uq E_ c G n D){e:de}(he:e∈E_)(h1:dg D e.dst<bH)(h2:dg D e.dst+iC c e<dg D e.bh) :
  uq E_ c G n (D.set e.bh.toNat (dg D e.dst+iC c e))/\gU (D.set e.bh.toNat (dg D e.dst+iC c e))<gU D:=by
 have V:=L.dst e he;have hs:=L.bh e he;have hc:=L.iC he;have hl:=h.len;have r1:=h.dK e.dst.toNat U;have r2:=h.dK e.bh.toNat U;rw[gA V.1]at r1;rw[gA hs.1]at r2;have F:=h.wO e.dst.toNat U (by rw[gA V.1];exact h1);rw[gA V.1]at F;have I:∀ i:Nat,dg (D.set e.bh.toNat (dg D e.dst+iC c e)) i=if (i:Int)=e.bh then dg D e.dst+iC c e else dg D i:=fun i=>Cg U hs.1 U
 refine⟨⟨by simp[hl],fun i z=>?_,fun i z o=>?_,fun i z hgo=>?_⟩,LH U (by simp only[dg]at *;omega)⟩
 ·rw[I];split
  ·omega
  exact h.dK i z
 ·rw[I]at o ⊢
  split
  ·rename_i K;rw[K,DN];exact .step he F
  rename_i K;rw[aC K]at o;exact h.wO i z o
 rw[I];split
 ·rename_i K
  have:=h.Mr i z hgo;rw[K]at this;omega
 exact h.Mr i z hgo
noncomputable def zi (p:Prop):Int:=@ite _ p (Classical.propDecidable _) 0 bH
def y9 {p:Prop}(h:p):zi p=0:=aM h
def Db {p:Prop}(h:¬p):zi p=bH:=aC h
def Ms {p q:Prop}(h:p↔q):zi p=zi q:=by
 by_cases o:p
 ·rw[y9 o,y9 (h.1 o)]
 rw[Db o,Db (fun hq=>o (h.2 hq))]
noncomputable def pI (G:Int->Prop)(n:Nat):J:=(List.range n).map fun (i:Nat)=>zi (G (i:Int))
def Dc {G:Int->Prop}{n i:Nat}(hi:i<n):dg (pI G n) i=zi (G (i:Int)):=by simp[dg,pI,List.getD,hi]
def ŗ (E_:List de)(c:J)(G:Int->Prop)(n:Nat):uq E_ c G n (pI G n):=by
 refine⟨by simp[pI],fun i o=>?_,fun i o h=>?_,fun i o h=>?_⟩
 ·rw[Dc o]
  by_cases g:G (i:Int)
  ·rw[y9 g];exact⟨dc,dc⟩
  rw[Db g];exact⟨dc,dc⟩
 ·rw[Dc o]at h ⊢
  by_cases g:G (i:Int)
  ·rw[y9 g];exact .aH g
  rw[Db g]at h;omega
 rw[Dc o,y9 h]
noncomputable def dM (G:Int->Prop)(n k:Nat):J:=(List.range n).map fun (i:Nat)=>zi (i<k->G (i:Int))
def U8 (G:Int->Prop)(n k:Nat):(dM G n k).length=n:=by simp[dM]
def U7 (G:Int->Prop)(n:Nat):dM G n 0=replicate n 0:=by
 apply iB (by simp[dM]);intro i h1 o;simp only[dM,mK,qZ,getElem_replicate];exact y9 fun h=>absurd h (dr _)
def Vc (G:Int->Prop)(n:Nat):dM G n n=pI G n:=by
 unfold dM pI;refine xN fun i o=>Ms ⟨fun h=>h (mem_range.1 o),fun h _=>h⟩
def Vb {G:Int->Prop}{n k:Nat}(h:¬G (k:Int)):(dM G n k).set k bH=dM G n (k+1):=by
 apply iB (by simp[dM]);intro i h1 F;rw[si];simp only[dM,mK,qZ];split
 ·rename_i e;subst e;rw[Db];intro o;exact h (o (D0 _))
 rename_i e;exact Ms ⟨fun o z=>o U,fun o z=>o U⟩
def Ř {G:Int->Prop}{n k:Nat}(h:G (k:Int)):dM G n k=dM G n (k+1):=by
 unfold dM;refine xN fun i z=>Ms ⟨fun o z=>?_,fun o z=>o U⟩;by_cases e:i=k
 ·subst e;exact h
 exact o U
def Va {G:Int->Prop}{n k:Nat}{v:Int}(h:G (k:Int)):((dM G n k).set k v).set k 0=dM G n (k+1):=by
 rw[set_set,<-Ř h];apply iB sm;intro i h1 o;rw[si];split
 ·rename_i e;subst e
  simp only[dM,mK,qZ];exact(y9 fun h=>absurd h (Nat.lt_irrefl _)).symm
 rfl
inductive IR|qy4|Ca|zC
 deriving DecidableEq
structure Mt where
 exp:Nat
 next:Int
 ϔ:J->Option Int
 path:J
structure Nb where
 t:aa
 H:J->Int
 lim:Nat
 pD:Int
def qz (t:aa)(op:Nat):Int:=(t.M.getD op bj).aN
section
variable {I':Nb}{rec:J->Int->Mt->IR × Mt}{s:J}{g:Int}{op:Nat}{l:List Nat}{S:Mt}
end
inductive mL (t:aa):J->J->Int->Prop
 | aH {s:J}:cp s t.aH->mL t s [] 0
 | step {s:J}{op:Nat}{p:J}{c:Int}:op<t.M.length->jU t s op->mL t (cB t s op) p c->mL t s ((op:Int)::p) (qz t op+c)
def Ce {t:aa}(I:aG t){op:Nat}(h:op<t.M.length):0<=qz t op/\qz t op<=1048576:=⟨(I.op op h).lE,(I.op op h).pd⟩
def mL.nn {t:aa}(I:aG t){s p:J}{c:Int}(h:mL t s p c):0<=c:=by
 induction h with
 | aH _=>exact dt _
 | step o _ _ z=>have:=Ce I o;omega
end
section
open Go.Sl Go

end
section
open Go.Sl
def eF (n:Nat)(f:Nat->Int)(k:Nat):J:=(List.range n).map fun i=>if i<k then f i else 0
def DD (n:Nat)(f:Nat->Int)(k:Nat):(eF n f k).length=n:=by simp[eF]
def JT (n:Nat)(f:Nat->Int):eF n f 0=replicate n 0:=by
 apply iB (by simp[eF]);intro i h1 h;simp[eF]
def JU {n:Nat}{f:Nat->Int}{k:Nat}:(eF n f k).set k (f k)=eF n f (k+1):=by
 apply iB (by simp[eF]);intro i h1 o;rw[si];simp only[eF,mK,qZ];split
 ·rename_i e;subst e;rw[aM U]
 by_cases h:i<k
 ·rw[aM h,aM U]
 rw[aC h,aC U]
def O1 {n:Nat}{f:Nat->Int}{k i:Nat}(h:i<n)(hk:i<k):(eF n f k).getD i W.dflt=f i:=by simp[eF,List.getD,h,hk]
def vg (l:List UInt8):Nat:=l.foldl (fun v c=>v*10+(c.toNat-48)) 0
def Mu {d:Nat}(h:d<10):(UInt8.ofNat (48+d)).toNat=48+d:=by rw[UInt8.toNat_ofNat'];omega
def ř (u:Nat):vg (Go.Lib.decDigits u)=u/\Go.Lib.decDigits u≠[]/\∀ c∈Go.Lib.decDigits u,48<=c.toNat:=by
 induction u using Nat.strongRecOn with
 | _ u F =>
  rw[Go.Lib.decDigits];by_cases h:u<10
  ·rw[dif_pos h]
   refine⟨?_,sm,fun c o=>?_⟩
   ·unfold vg;rw[sy,GM,Mu h];omega
   rw[dp.1 o,Mu h];omega
  rw[dif_neg h];obtain⟨h1,L,K⟩:=F (u / 10) U;have z:=Mu (Cx u (show 10>0 by decide));refine⟨?_,sm,fun c o=>?_⟩
  ·unfold vg at h1 ⊢
   rw[ti,h1,sy,GM,z];omega
  rcases gG.1 o with o|o
  ·exact K c o
  rw[dp.1 o,z];omega
def Ir {n:Int}(h:0<=n):(vg (jf n):Int)=n/\jf n≠[]/\∀ c∈jf n,48<=c.toNat:=by
 obtain⟨u,rfl⟩:∃ u:Nat,n=u:=⟨n.toNat,U⟩
 unfold jf;rw[Go.Lib.itoa_nonneg];obtain⟨h1,o,z⟩:=ř u;exact⟨by rw[h1],o,z⟩
def Ts {p:UInt8->Bool}:∀ {a b:List UInt8},(∀ c∈a,p c=true)->(∀ x r,b=x::r->p x=false)->(a++b).takeWhile p=a
 | [],[],_,_=>rfl
 | [],x::r,_,h=>by rw[kL,takeWhile_cons,h x r rfl];rfl
 | c::a,b,h,o=>by
  rw[qC,takeWhile_cons,h c gz,aM rfl,Ts (fun d z=>h d (iR _ z)) o]
def Tt {S:bZ}{c:J}{s:Nat}(h:0<=c.getD s W.dflt):(lq S c s).takeWhile (fun x=>decide (x≠32))=jf (c.getD s W.dflt):=by
 unfold lq;refine Ts (fun x hx=>?_) (fun x r e=>?_)
 ·have:=(Ir h).2.2 x hx
  rw[gQ];rintro rfl;exact absurd this dc
 cases o:lL (iu oP (Iq S c s)) with
 | nil=>rw[o]at e;simp at e
 | cons y t =>
  rw[o,kO]at e;simp only[nf,qC,List.cons.injEq]at e;rw[<-e.1];rfl
def Ś {S:bZ}{c:J}{s t:Nat}(h:0<=c.getD s W.dflt)(o:0<=c.getD t W.dflt)(e:lq S c s=lq S c t):c.getD s W.dflt=c.getD t W.dflt:=by
 have h1:=Tt (S:=S) h;rw[e,Tt o]at h1;have:=(Ir h).1;rw[<-h1,(Ir o).1]at this;exact this.symm
def xu {α:Type}[DecidableEq α]:∀ {l m:List α},l.Nodup->(∀ x∈l,x∈m)->l.length<=m.length
 | [],_,_,_=>bu _
 | x::l,m,z,h=>by
  obtain⟨h1,F⟩:=vr.1 z;have hx:=h x gz;have K:=xu (m:=m.erase x) F fun y o=>(GC (fun e=>h1 (by rw[<-e];exact o))).2 (h y (iR _ o));rw[DK hx]at K;have:=GD hx;simp only[length_cons];omega
def HJ {u:List ByteArray}{s:ByteArray}:u.any (fun x=>decide (x=s))=true↔s∈u:=by
 rw[any_eq_true];constructor
 ·rintro⟨x,hx,e⟩;rw[<-uB e];exact hx
 intro h;exact⟨s,h,dy rfl⟩
def Is:∀ (l u:List ByteArray),u.Nodup->(l.foldl (fun u s=>if u.any (fun x=>decide (x=s)) then u else u++[s]) u).Nodup/\∀ x,x∈l.foldl (fun u s=>if u.any (fun x=>decide (x=s)) then u else u++[s]) u↔x∈u\/x∈l
 | [],u,h=>⟨h,fun x=>sm⟩
 | s::l,u,h=>by
  rw[sy];by_cases o:s∈u
  ·rw[aM (HJ.2 o)]
   obtain⟨h1,z⟩:=Is l u h;refine⟨h1,fun x=>?_⟩;rw[z,ee];constructor
   ·rintro (h|h)
    ·exact .inl h
    exact .inr (.inr h)
   rintro (h|rfl|h)
   ·exact .inl h
   ·exact .inl o
   exact .inr h
  rw[aC (fun h=>o (HJ.1 h))];obtain⟨h1,z⟩:=Is l (u++[s]) (by rw[zU];exact⟨h,sm,fun x hx y F e=>o (by rw[dp.1 F]at e;rw[<-e];exact hx)⟩);refine⟨h1,fun x=>?_⟩;rw[z,gG,dp,ee,or_assoc]
def Tu (l:List ByteArray):(cU l).Nodup:=(Is l [] zI).1
def It {l:List ByteArray}{x:ByteArray}:x∈cU l↔x∈l:=by
 have:=(Is l [] zI).2 x
 simpa [cU] using this
def CS (l:List ByteArray):(fb l).length=l.length:=by simp[fb]
def Tv {l:List ByteArray}{i:Nat}(hi:i<l.length):(fb l).getD i W.dflt=((cU l).findIdx (fun x=>decide (x=l[i])):Int):=by simp[fb,List.getD,hi]
def Ej {l:List ByteArray}{i:Nat}(hi:i<l.length):0<=(fb l).getD i W.dflt/\(fb l).getD i W.dflt<(cU l).length:=by
 rw[Tv hi];have hm:l[i]∈cU l:=It.2 (wq hi);have:=PE (xs:=cU l) (p:=fun x=>decide (x=l[i])) ⟨_,hm,dy rfl⟩;omega
def ś {l:List ByteArray}{v:Nat}(hv:v<(cU l).length):∃ i,i<l.length/\(fb l).getD i W.dflt=(v:Int):=by
 have hm:(cU l)[v]∈l:=It.1 (wq hv);obtain⟨i,h,he⟩:=fJ hm;refine⟨i,h,?_⟩;rw[Tv h,he];congr 1;rw[findIdx_eq hv];refine⟨dy rfl,fun j o=>?_⟩;rw[qA];intro e;exact absurd e (v8.1 (Tu l) j v U hv o)
def HB (l:List ByteArray):(cU l).length<=l.length:=xu (Tu l) fun _ hx=>It.1 hx
def Yw (S:bZ)(c:J):(kf S c).length=S.st.toNat:=by simp[kf]
def Yu {S:bZ}{l:List ByteArray}(hl:l.length=S.st.toNat):(cU l).length<=(cU (kf S (fb l))).length:=by
 have z:∀ v:Nat,v<(cU l).length->∃ i,i<l.length/\(fb l).getD i W.dflt=(v:Int):=fun v hv=>ś hv
 let F:Nat->ByteArray:=fun v=>if h:v<(cU l).length then ⟨(lq S (fb l) (Classical.choose (z v h))).toArray⟩ else ⟨#[]⟩
 have L:∀ v (h:v<(cU l).length),∃ i,i<l.length/\(fb l).getD i W.dflt=(v:Int)/\F v=⟨(lq S (fb l) i).toArray⟩:=fun v h=>by
  have o:=wh (z v h);exact⟨_,o.1,o.2,by simp only[F,dif_pos h]⟩
 have eI:=xu (l:=(List.range (cU l).length).map F) (m:=cU (kf S (fb l))) ?_ ?_
 ·simpa using eI
 ·rw[nodup_iff_pairwise_ne,Bc]
  refine Ju (fun {a b} ha hb H'=>?_) Dw;rw[mem_range]at ha hb;obtain⟨i,hi,K,o⟩:=L a ha;obtain⟨j,hj,V,j'⟩:=L b hb;rw[o,j'];intro e;have e2:lq S (fb l) i=lq S (fb l) j:=by
   injection e with e
   have:=qy Array.toList e
   simpa using this
  have:=Ś (Ej hi).1 (Ej hj).1 e2;rw[K,V]at this;omega
 intro x hx;obtain⟨v,hv,rfl⟩:=iS.1 hx;rw[mem_range]at hv;obtain⟨i,hi,K,o⟩:=L v hv;rw[It,o];unfold kf;exact iS.2 ⟨i,by rw[mem_range];omega,rfl⟩
def Mv:∀ {N:Nat}{l:J},l.Nodup->(∀ v∈l,0<=v/\v<(N:Int))->l.length<=N
 | 0,l,_,h=>by
  cases l with
  | nil=>exact cD _
  | cons x r=>have:=h x gz;omega
 | N+1,l,F,h=>by
  have V:=Mv (N:=N) (l:=l.filter fun v=>decide (v≠(N:Int))) (F.filter _) (fun v hv=>by
   simp only[rV,gQ]at hv;have:=h v hv.1
   omega)
  have h1:(l.filter fun v=>decide (v≠(N:Int))).length+(l.filter fun v => !decide (v≠(N:Int))).length=l.length:=by
   rw[<-PD,<-PD];have:=length_eq_countP_add_countP (fun v=>decide (v≠(N:Int))) (l:=l);simp only[tt,gQ]at this;rw[this];congr 1;apply countP_congr;intro a _;simp
  have h2:(l.filter fun v => !decide (v≠(N:Int))).length<=1:=by
   have z:=F.filter (fun v => !decide (v≠(N:Int)));have o:∀ v∈(l.filter fun v => !decide (v≠(N:Int))),v=(N:Int):=fun v hv=>by simp only[rV,xY,qA,ne_eq,tK]at hv;exact hv.2
   generalize (l.filter fun v => !decide (v≠(N:Int)))=m at z o ⊢
   match m,z,o with
   | [],_,_=>simp
   | [_],_,_=>simp
   | a::b::r,z,o =>
    have K:=o a sm;have L:=o b sm;subst K;rw[L]at z;simp at z
  omega
def Tw:∀ {l:J}{k:Nat}{v:Int},k<l.length->((l.set k v).map Int.toNat).sum+(l.getD k W.dflt).toNat=(l.map Int.toNat).sum+v.toNat
 | x::r,0,v,_=>by simp only[mI,l8,yI,getD_cons_zero];omega
 | x::r,k+1,v,h=>by
  have:=Tw (l:=r) (k:=k) (v:=v) (by simpa using h);simp only[mM,l8,yI,getD_cons_succ];omega
structure kH (n:Nat) (a:fW):Prop where
 s0:0<=a.bh
 s1:a.bh<n
 d0:0<=a.dst
 d1:a.dst<n
 w0:0<=a.wt
 w1:a.wt<=1048576
structure gu (n:Nat) (s:uT):Prop where
 ol:s.out.length=n
 wl:s.waits.length=n
 ob:∀ i,i<n->0<=s.out.getD i W.dflt/\s.out.getD i W.dflt<=1125899906842624
 qb:∀ i∈s.q,0<=i/\i<n
 qn:s.q.Nodup
 qw:∀ i:Int,0<=i->i<n->(s.waits.getD i.toNat ah.dflt=true↔i∈s.q)
def gu.ql {n:Nat}{s:uT}(h:gu n s):s.q.length<=n:=Mv h.qn h.qb
def pY (s:uT):Nat:=2*(s.out.map Int.toNat).sum+s.q.length
def oZ (s:uT)(a:fW):Prop:=s.out.getD a.dst.toNat W.dflt<=s.out.getD a.bh.toNat W.dflt+a.wt
section
variable {n:Nat}{s:uT}{i:Int}{a:fW}
def jD {x y:Int}(hx:0<=x)(o:0<=y)(h:x.toNat=y.toNat):x=y:=U
def gu.rel (h:gu n s)(hi:0<=i/\i<n)(ha:kH n a):gu n (dP i s a)/\pY (dP i s a)<=pY s/\(∀ j∈s.q,j∈(dP i s a).q)/\(∀ j,(dP i s a).out.getD j W.dflt<=s.out.getD j W.dflt) /\
  ((dP i s a).out=s.out/\s.out.getD a.dst.toNat W.dflt<=s.out.getD i.toNat W.dflt+a.wt\/i≠a.dst/\(dP i s a).out=s.out.set a.dst.toNat (s.out.getD i.toNat W.dflt+a.wt)/\s.out.getD i.toNat W.dflt+a.wt<s.out.getD a.dst.toNat W.dflt/\a.dst∈(dP i s a).q):=by
 obtain⟨_,_,d0,d1,w0,w1⟩:=ha;have V:=h.ob i.toNat U;have P':=h.ob a.dst.toNat U;unfold dP;split
 ·rename_i hc
  exact⟨h,cD _,fun _ h=>h,fun _=>dt _,.inl ⟨rfl,hc⟩⟩
 rename_i hc;have F:i≠a.dst:=fun e=>by rw[e]at hc V;omega
 have K:∀ j,j<n->0<=(s.out.set a.dst.toNat (s.out.getD i.toNat W.dflt+a.wt)).getD j W.dflt/\(s.out.set a.dst.toNat (s.out.getD i.toNat W.dflt+a.wt)).getD j W.dflt<=1125899906842624:=fun j o=>by
  rw[kB];split
  ·omega
  exact h.ob j o
 have eI:∀ j,(s.out.set a.dst.toNat (s.out.getD i.toNat W.dflt+a.wt)).getD j W.dflt<=s.out.getD j W.dflt:=fun j=>by
  rw[kB];split
  ·rename_i o;rw[<-o.1];omega
  exact dt _
 have J':=Tw (l:=s.out) (k:=a.dst.toNat) (v:=s.out.getD i.toNat W.dflt+a.wt) (by rw[h.ol];omega);have hm:((s.out.set a.dst.toNat (s.out.getD i.toNat W.dflt+a.wt)).map Int.toNat).sum+1<=(s.out.map Int.toNat).sum:=by
  have:(s.out.getD i.toNat W.dflt+a.wt).toNat<(s.out.getD a.dst.toNat W.dflt).toNat:=U;omega
 split
 ·rename_i z
  refine⟨⟨by rw[gY];exact h.ol,h.wl,K,h.qb,h.qn,h.qw⟩,by unfold pY;dsimp only;omega,fun _ h=>h,eI,.inr ⟨F,rfl,U,(h.qw _ d0 d1).1 z⟩⟩
 rename_i z;have j':a.dst∉s.q:=fun hq=>z ((h.qw _ d0 d1).2 hq);refine⟨⟨by rw[gY];exact h.ol,by rw[gY];exact h.wl,K,fun j o=>?_,?_,fun j L H'=>?_⟩,?_,fun _ h=>xX _ h,eI,.inr ⟨F,rfl,U,sm⟩⟩
 ·rcases gG.1 o with o|o
  ·exact h.qb j o
  rw[dp.1 o];exact⟨d0,d1⟩
 ·rw[zU]
  exact⟨h.qn,sm,fun x hx y hy e=>j' (by rw[dp.1 hy]at e;exact e ▸ hx)⟩
 ·simp only
  rw[kB,h.wl];by_cases e:a.dst=j
  ·subst e;rw[aM ⟨rfl,U⟩];simp
  rw[aC (fun hh=>e (jD d0 L hh.1)),h.qw j L H'];simp[Ne.symm e]
 unfold pY;simp only[length_append,length_cons,length_nil];omega
def gu.BT:∀ {L:List fW}{s:uT},gu n s->0<=i/\i<n->(∀ a∈L,kH n a)->gu n (L.foldl (dP i) s)/\pY (L.foldl (dP i) s)<=pY s/\∀ j,(L.foldl (dP i) s).out.getD j W.dflt<=s.out.getD j W.dflt
 | [],s,h,_,_=>⟨h,cD _,fun _=>dt _⟩
 | a::L,s,h,o,z=>by
  obtain⟨h1,F,_,K,_⟩:=h.rel o (z a gz);obtain⟨g1,g2,g3⟩:=h1.BT o fun b V=>z b (iR _ V);exact⟨g1,pT g2 F,fun j=>rU (g3 j) (K j)⟩
def gu.pop {i:Int}{r:J}(h:gu n s)(hq:s.q=i::r):gu n ⟨s.out,s.waits.set i.toNat false,r⟩/\pY ⟨s.out,s.waits.set i.toNat false,r⟩+1=pY s/\0<=i/\i<n:=by
 have o:=h.qb i (by rw[hq];simp);have V:=h.qn;rw[hq]at V;obtain⟨F,K⟩:=vr.1 V;refine⟨⟨h.ol,by rw[gY];exact h.wl,h.ob,fun j hj=>h.qb j (by rw[hq];exact iR _ hj),K,fun j z L=>?_⟩,by unfold pY;rw[hq];simp;omega,o⟩;simp only;rw[kB,h.wl];by_cases e:i=j
 ·subst e;rw[aM ⟨rfl,U⟩];simp[F]
 rw[aC (fun hh=>e (jD o.1 z hh.1)),h.qw j z L,hq];simp[Ne.symm e]
variable {arcs:List (List fW)}
def gu.step (h:gu n s)(z:∀ l∈arcs,∀ a∈l,kH n a):gu n (cz arcs s)/\(ed s=false->pY (cz arcs s)<pY s)/\∀ j,(cz arcs s).out.getD j W.dflt<=s.out.getD j W.dflt:=by
 unfold cz;split
 ·rename_i hq
  exact⟨h,fun o=>by simp[ed,hq]at o,fun _=>dt _⟩
 rename_i i r hq;obtain⟨h1,K,F⟩:=h.pop hq
 obtain⟨g1,g2,g3⟩:=h1.BT (L:=arcs.getD i.toNat []) F (fun a hm=>by
  by_cases o:i.toNat<arcs.length
  ·exact z _ (by rw[iD,kN o];exact wq o) a hm
  rw[iD,uK U]at hm;simp at hm)
 exact⟨g1,fun _=>U,g3⟩
def gu.zt (h:gu n s)(z:∀ l∈arcs,∀ a∈l,kH n a):∀ k,gu n (kY (cz arcs) k s)/\(ed (kY (cz arcs) k s)=false->pY (kY (cz arcs) k s)+k<=pY s)/\∀ j,(kY (cz arcs) k s).out.getD j W.dflt<=s.out.getD j W.dflt
 | 0=>⟨h,fun _=>cD _,fun _=>dt _⟩
 | k+1=>by
  obtain⟨h1,K,L⟩:=gu.zt h z k;obtain⟨g1,g2,g3⟩:=h1.step z;refine⟨g1,fun F=>?_,fun j=>rU (g3 j) (L j)⟩;have o:ed (kY (cz arcs) k s)=false:=by
   cases he:ed (kY (cz arcs) k s) with
   | false=>rfl
   | true =>
    have:kY (cz arcs) (k+1) s=kY (cz arcs) k s:=Mj arcs _ he;rw[this,he]at F;cases F
  have V:=K o;have a2:=g2 o;show pY (cz arcs _)+(k+1)<=pY s;omega
def gu.ends (h:gu n s)(o:∀ l∈arcs,∀ a∈l,kH n a):ed (kY (cz arcs) (pY s+1) s)=true:=by
 obtain⟨_,z,_⟩:=h.zt o (pY s+1)
 cases he:ed (kY (cz arcs) (pY s+1) s) with
 | true=>rfl
 | false=>have:=z he;omega
def gu.fix (h:gu n s)(o:∀ l∈arcs,∀ a∈l,kH n a):oY (cz arcs) ed s=kY (cz arcs) (pY s+1) s:=ow (Mj arcs) (h.ends o)
end
section
variable {α:Type}{v d:α}
def EI:∀ {fr:J}{l:List α},(fr.foldl (fun o i=>o.set i.toNat v) l).length=l.length
 | [],_=>rfl
 | i::fr,l=>by rw[sy,EI,gY]
def Iu:∀ {fr:J}{l:List α}{j:Nat},j<l.length->(∃ i∈fr,i.toNat=j)->(fr.foldl (fun o i=>o.set i.toNat v) l).getD j d=v
 | [],_,_,_,h=>by obtain⟨_,h,_⟩:=h;simp at h
 | i::fr,l,j,F,h=>by
  rw[sy];by_cases z:∃ i∈fr,i.toNat=j
  ·exact Iu (by rw[gY];exact F) z
  obtain⟨L,hm,he⟩:=h;rcases ee.1 hm with rfl|hm
  ·have key:∀ {fr:J}{l:List α},(¬∃ i∈fr,i.toNat=j)->(fr.foldl (fun o i=>o.set i.toNat v) l).getD j d=l.getD j d:=by
    intro fr
    induction fr with
    | nil=>intro l _;rfl
    | cons i fr V =>
     intro l K;rw[sy,V (fun⟨k,hk,e⟩=>K ⟨k,iR _ hk,e⟩),kB,aC (fun hh=>K ⟨i,gz,hh.1⟩)]
   rw[key z,kB,aM ⟨he,F⟩]
  exact absurd ⟨L,hm,he⟩ z
def Iv:∀ {fr:J}{l:List α}{j:Nat},(¬∃ i∈fr,i.toNat=j)->(fr.foldl (fun o i=>o.set i.toNat v) l).getD j d=l.getD j d
 | [],_,_,_=>rfl
 | i::fr,l,j,h=>by rw[sy,Iv (fun⟨k,hk,e⟩=>h ⟨k,iR _ hk,e⟩),kB,aC (fun z=>h ⟨i,gz,z.1⟩)]
end
section
variable {n:Nat}{fr:J}
def Tx (h1:fr.Nodup)(h2:∀ i∈fr,0<=i/\i<n):gu n (fk n fr) where
 ol:=by unfold fk;simp only;rw[EI];simp
 wl:=by unfold fk;simp only;rw[EI];simp
 ob i z:=by
  unfold fk;simp only;by_cases h:∃ k∈fr,k.toNat=i
  ·rw[Iu (by simpa using z) h];omega
  rw[Iv h,Ek z];omega
 qb:=h2
 qn:=h1
 qw i F h1:=by
  unfold fk;simp only;by_cases h:∃ k∈fr,k.toNat=i.toNat
  ·rw[Iu (by simp;omega) h]
   obtain⟨k,hk,e⟩:=h;have:=h2 k hk;rw[jD this.1 F e]at hk;simp[hk]
  rw[Iv h,Ek U];constructor
  ·intro o;cases o
  intro o;exact absurd ⟨i,o,rfl⟩ h
def Ŝ {i:Int}(hi:i∈fr)(h:0<=i)(h1:i<n):(fk n fr).out.getD i.toNat W.dflt=0:=by
 unfold fk;exact Iu (by simp;omega) ⟨i,hi,rfl⟩
def ŝ {i:Nat}(hi:i<n)(h:¬∃ k∈fr,k.toNat=i):(fk n fr).out.getD i W.dflt=1125899906842624:=by
 unfold fk;simp only;rw[Iv h,Ek hi]
variable {s:uT}{i:Int}{A:fW->Prop}
def Tz (hA:∀ a,A a->kH n a):∀ {L:List fW}{s:uT},gu n s->0<=i/\i<n->(∀ a∈L,kH n a/\a.bh=i)->(∀ a,A a->a.bh∈s.q\/oZ s a\/a∈L)->∀ a,A a->a.bh∈(L.foldl (dP i) s).q\/oZ (L.foldl (dP i) s) a
 | [],s,_,_,_,h,a,V=>by
  rcases h a V with h|h|h
  ·exact .inl h
  ·exact .inr h
  simp at h
 | a0::L,s,hs,hi,hL,h,a,V=>by
  obtain⟨o,z⟩:=hL a0 gz;obtain⟨h1,_,hq,eI,hd⟩:=hs.rel hi o;refine Tz hA h1 hi (fun b K=>hL b (iR _ K)) (fun b K=>?_) a V;have j':=hA b K;rcases h b K with h|h|h
  ·exact .inl (hq _ h)
  ·rcases hd with ⟨e,_⟩|⟨_,e,H',hm⟩
   ·right;left;unfold oZ at h ⊢;rw[e];exact h
   by_cases F:b.bh=a0.dst
   ·left;rw[F];exact hm
   right;left;unfold oZ at h ⊢;have h2:=eI b.dst.toNat;have h3:(dP i s a0).out.getD b.bh.toNat W.dflt=s.out.getD b.bh.toNat W.dflt:=by
    rw[e,kB,aC (fun hh=>F (jD j'.s0 o.d0 hh.1.symm))]
   omega
  rcases ee.1 h with rfl|h
  ·right;left
   unfold oZ;rcases hd with ⟨e,hc⟩|⟨F,e,_,_⟩
   ·rw[e,z];exact hc
   have g1:=o.d1;have g0:=o.d0;rw[e,kB,kB,aM ⟨rfl,by rw[hs.ol];omega⟩,aC (fun hh=>F (by rw[<-z];exact jD o.s0 o.d0 hh.1.symm)),z];exact dt _
  exact .inr (.inr h)
variable {arcs:List (List fW)}
structure rP (n:Nat) (arcs:List (List fW)):Prop where
 ok:∀ l∈arcs,∀ a∈l,kH n a
 bh:∀ i,i<arcs.length->∀ a∈arcs.getD i [],a.bh=(i:Int)
 len:arcs.length=n
def nq (arcs:List (List fW))(a:fW):Prop:=a∈arcs.getD a.bh.toNat []/\0<=a.bh/\a.bh<arcs.length
def Iw {α:Type}{l:List (List α)}{i:Nat}(h:i<l.length):l.getD i []∈l:=by rw[iD,kN h];exact wq h
def Ş (L:rP n arcs)(h:gu n s)(F:∀ a,nq arcs a->a.bh∈s.q\/oZ s a):∀ a,nq arcs a->a.bh∈(cz arcs s).q\/oZ (cz arcs s) a:=by
 unfold cz;split
 ·exact F
 rename_i i r hq;obtain⟨h1,_,V⟩:=h.pop hq;have K:i.toNat<arcs.length:=by rw[L.len];omega
 refine Tz (fun a o=>L.ok _ (Iw (by have:=o.2;omega)) a o.1) h1 V (fun a hm=>⟨L.ok _ (Iw K) a hm,by have:=L.bh _ K a hm;omega⟩) (fun a o=>?_);rcases F a o with z|z
 ·rw[hq]at z
  rcases ee.1 z with e|z
  ·right;right;rw[<-e];exact o.1
  exact .inl z
 exact .inr (.inl z)
def TA (z:rP n arcs)(h:gu n s)(o:∀ a,nq arcs a->a.bh∈s.q\/oZ s a):∀ k,∀ a,nq arcs a->a.bh∈(kY (cz arcs) k s).q\/oZ (kY (cz arcs) k s) a
 | 0=>o
 | k+1=>Ş z (h.zt z.ok k).1 (TA z h o k)
def OT (o:rP n arcs)(h1:fr.Nodup)(h2:∀ i∈fr,0<=i/\i<n) :
  gu n (oY (cz arcs) ed (fk n fr))/\(∀ a,nq arcs a->oZ (oY (cz arcs) ed (fk n fr)) a)/\∀ i∈fr,(oY (cz arcs) ed (fk n fr)).out.getD i.toNat W.dflt=0:=by
 have z:=Tx h1 h2;rw[z.fix o.ok];have K:=z.ends o.ok;obtain⟨g1,_,g3⟩:=z.zt o.ok (pY (fk n fr)+1);refine⟨g1,fun a h=>?_,fun i L=>?_⟩
 ·have:=TA o z (fun b h=>by
   by_cases hm:b.bh∈fr
   ·exact .inl hm
   right;have F:=o.ok _ (Iw (by have:=h.2;omega)) b h.1;obtain⟨V,s1,d0,d1,w0,w1⟩:=F;unfold oZ;rw[ŝ (i:=b.bh.toNat) U (fun⟨k,hk,e⟩=>hm (by rw[<-jD (h2 k hk).1 V e];exact hk))];have:=(z.ob b.dst.toNat U).2
   omega) (pY (fk n fr)+1) a h
  rcases this with hq|F
  ·unfold ed at K
   rw[isEmpty_iff.1 K]at hq;simp at hq
  exact F
 have F:=h2 i L;have V:=g3 i.toNat;rw[Ŝ L F.1 F.2]at V;have a2:=(g1.ob i.toNat U).1;omega
end
def TB {g:List Bool}{k:Nat}:∀ {m i:Nat},Aj g k m=some i->i<m
 | 0,_,h=>by cases h
 | m+1,i,h=>by
  unfold Aj at h;split at h
  ·cases h;exact D0 _
  exact lt_succ_of_lt (TB h)
def TC {g:List Bool}:∀ {K:Nat},2<=g.length->K<=g.length->(Ai g K).1<(Ai g K).2/\(Ai g K).2<g.length
 | 0,h,_=>⟨D0 _,h⟩
 | K+1,h,o=>by
  unfold Ai;split
  ·exact⟨D0 _,h⟩
  split
  ·rename_i i z;exact⟨TB z,o⟩
  exact TC h U
def YE {g:List Bool}(h2:2<=g.length):(tN g).1<(tN g).2/\(tN g).2<g.length:=TC h2 (cD _)
def Mw:∀ {l:J}{a:Int},a<=l.foldl max a/\∀ x∈l,x<=l.foldl max a
 | [],a=>⟨dt _,fun x hx=>by simp at hx⟩
 | y::l,a=>by
  obtain⟨h1,h⟩:=Mw (l:=l) (a:=max a y);rw[sy];refine⟨U,fun x hx=>?_⟩;rcases ee.1 hx with rfl|hx
  ·omega
  exact h x hx
def TD:∀ {l:J}{a:Int},l.foldl max a=a\/l.foldl max a∈l
 | [],_=>.inl rfl
 | y::l,a=>by
  rw[sy];rcases TD (l:=l) (a:=max a y) with h|h
  ·by_cases e:a<=y
   ·right;rw[h,show max a y=y from by omega];exact gz
   left;rw[h];omega
  exact .inr (iR _ h)
def YB {l:J}{x:Int}(hx:x∈l):x<=lm l:=by
 cases l with
 | nil=>simp at hx
 | cons y l =>
  unfold lm;rcases ee.1 hx with rfl|hx
  ·exact(Mw (l:=l) (a:=x)).1
  exact(Mw (l:=l) (a:=y)).2 x hx
def KX {l:J}(h:0<l.length):lm l∈l:=by
 cases l with
 | nil=>simp at h
 | cons y l =>
  unfold lm;rcases TD (l:=l) (a:=y) with h|h
  ·show l.foldl max y∈y::l
   rw[h];exact gz
  exact iR _ h
def lS (g:List Bool)(c:J)(k m:Nat):List Bool:=(List.range k).map fun (x:Nat)=>(((List.range m).reverse.find? fun s=>decide (c.getD s W.dflt=(x:Int))).map fun s=>g.getD s ah.dflt).getD false
def CT {g:List Bool}{c:J}{k m:Nat}:(lS g c k m).length=k:=by simp[lS]
def YC {g:List Bool}{c:J}{k:Nat}:lS g c k 0=replicate k false:=by
 apply iB (by simp[lS]);intro i h1 h;simp[lS]
def TE {g:List Bool}{c:J}{k m i:Nat}(hi:i<k):(lS g c k m).getD i ah.dflt=(((List.range m).reverse.find? fun s=>decide (c.getD s W.dflt=(i:Int))).map fun s=>g.getD s ah.dflt).getD false:=by
 unfold lS;rw[iD,tr,GN hi];rfl
def YD {g:List Bool}{c:J}{k m:Nat}(V:0<=c.getD m W.dflt)(h1:c.getD m W.dflt<k) :
  lS g c k (m+1)=(lS g c k m).set (c.getD m W.dflt).toNat (g.getD m ah.dflt):=by
 apply iB (by rw[gY,CT,CT]);intro i F K;have o:i<k:=by rwa[CT]at F
 have L:(lS g c k (m+1))[i]=(lS g c k (m+1)).getD i ah.dflt:=(am F).symm;have a2:=(am (d:=ah.dflt) K).symm;rw[L,a2,kB,CT,TE o,l5,reverse_append,reverse_cons,reverse_nil,kL,singleton_append,find?_cons];by_cases e:(c.getD m W.dflt).toNat=i
 ·have z:c.getD m W.dflt=(i:Int):=U
  rw[aM ⟨e,o⟩,dy z];rfl
 have z:¬c.getD m W.dflt=(i:Int):=U;rw[aC (fun h=>e h.1),dU z,TE o]
end
section
open Go.Sl Go
def ϕ (w0:World)(Γ:List HP)(φ:World->Prop):Prop:=∀ (w:World) (h:List HP),Z w0 w (h++Γ)->φ w
end
section
open Go.Sl
section
variable {t:aa}
end
structure AS where
 st:List J
 g:J
 wt:List Bool
section
variable {t:aa}{H:J->Int}{B:Option Int}{S:AS}
end
section
variable {t:aa}{H:J->Int}{lim f:Nat}{next:Int}{e:Nat}{bs:J}
structure BB (t:aa) (H:J->Int):Prop where
 cZ:aG t
 nn:∀ y,0<=H y
 le:∀ y,H y<=bH
end
class nU {α:Type}(lt:α->α->Bool):Prop where
 asym:∀ a b,lt a b=true->lt b a=false
 trans:∀ a b c,lt b a=false->lt c b=false->lt c a=false
abbrev eI {α:Type}(lt:α->α->Bool)(a b:α):Prop:=lt b a=false
section
variable {α:Type}{d:α}{lt:α->α->Bool}
def A6 [nU lt](a:α):eI lt a a:=by
 show lt a a=false
 cases h:lt a a with
 | false=>rfl
 | true=>exact absurd (nU.asym a a h) (by rw[h];decide)
def Ix [nU lt]{a b c:α}(h1:eI lt a b)(h2:eI lt b c):eI lt a c:=nU.trans a b c h1 h2
def FV [nU lt]{a b:α}(h:lt a b=true):eI lt a b:=nU.asym a b h
abbrev I (d:α)(xs:List α)(i:Nat):α:=xs.getD i d
def cV (d:α)(lt:α->α->Bool)(xs:List α):Prop:=∀ i,0<i->i<xs.length->eI lt (I d xs ((i-1) / 2)) (I d xs i)
def sw (d:α)(xs:List α)(i j:Nat):List α:=(xs.set i (I d xs j)).set j (I d xs i)
def A7 (xs:List α)(i j:Nat):(sw d xs i j).length=xs.length:=by simp[sw]
def TF {xs:List α}{i k:Nat}{x:α}(hi:i<xs.length):I d (xs.set i x) k=if k=i then x else I d xs k:=by
 simp only[I,iD,vz];by_cases h:i=k
 ·subst h;simp[hi]
 rw[aC h,aC (Ne.symm h)]
def rX {xs:List α}{i k:Nat}(hi:i<xs.length)(h:j<xs.length):I d (sw d xs i j) k=if k=j then I d xs i else if k=i then I d xs j else I d xs k:=by
 unfold sw;rw[TF (by simpa using h),TF hi]
def xQ {xs:List α}{i:Nat}(hi:i<xs.length)(h:j<xs.length):(sw d xs i j).Perm xs:=by
 have h1:I d xs i=xs[i]:=am hi;have o:I d xs j=xs[j]:=am h;unfold sw;rw[h1,o];exact set_set_perm hi h
structure xP (d:α) (lt:α->α->Bool) (xs:List α) (j:Nat):Prop where
 I7:j<xs.length
 rest:∀ i,0<i->i<xs.length->i≠j->eI lt (I d xs ((i-1) / 2)) (I d xs i)
 over:∀ i,0<i->i<xs.length->(i-1) / 2=j->0<j->eI lt (I d xs ((j-1) / 2)) (I d xs i)
def xP.done {xs:List α}(h:xP d lt xs j)(z:(j-1) / 2=j\/eI lt (I d xs ((j-1) / 2)) (I d xs j)):cV d lt xs:=by
 intro i F h1;by_cases o:i=j
 ·subst o
  rcases z with z|z
  ·omega
  exact z
 exact h.rest i F h1 o
def xP.step [nU lt]{xs:List α}{j:Nat}(h:xP d lt xs j)(hj:(j-1) / 2≠j)(hl:lt (I d xs j) (I d xs ((j-1) / 2))=true):xP d lt (sw d xs ((j-1) / 2) j) ((j-1) / 2):=by
 have z:=h.I7;have V:(j-1) / 2<xs.length:=U;have H':0<j:=U;have F:=FV hl;refine⟨by rw[A7];exact V,fun i h0 h1 J'=>?_,fun i h0 h1 he j'=>?_⟩
 ·rw[A7]at h1
  rw[rX V z,rX V z];by_cases o:i=j
  ·subst o
   have e1:¬(i-1) / 2=i:=U;rw[aC e1,aM rfl,aM rfl];exact F
  rw[aC o,aC J'];by_cases K:(i-1) / 2=j
  ·rw[aM K]
   exact h.over i h0 h1 K H'
  rw[aC K];by_cases L:(i-1) / 2=(j-1) / 2
  ·rw[aM L]
   have:=h.rest i h0 h1 o;rw[L]at this;exact Ix F this
  rw[aC L];exact h.rest i h0 h1 o
 rw[A7]at h1;rw[rX V z,rX V z];have L:=h.rest ((j-1) / 2) j' V U;have e1:¬((j-1) / 2-1) / 2=j:=U;have e2:¬((j-1) / 2-1) / 2=(j-1) / 2:=U;rw[aC e1,aC e2];by_cases o:i=j
 ·rw[aM o];exact L
 rw[aC o];by_cases K:i=(j-1) / 2
 ·omega
 rw[aC K];have:=h.rest i h0 h1 o;rw[he]at this;exact Ix L this
def NS {xs:List α}{x:α}(h:cV d lt xs):xP d lt (xs++[x]) xs.length:=by
 have o:∀ k,k<xs.length->I d (xs++[x]) k=I d xs k:=fun k hk=>by simp[I,iD,iX hk]
 refine⟨sm,fun i z h1 F=>?_,fun i z h1 he K=>?_⟩
 ·simp only[length_append,length_cons,length_nil]at h1
  rw[o _ U,o _ U];exact h i z U
 simp only[length_append,length_cons,length_nil]at h1;omega
structure v6 (d:α) (lt:α->α->Bool) (xs:List α) (n i:Nat):Prop where
 le:n<=xs.length
 rest:∀ c,0<c->c<n->(c-1) / 2≠i->eI lt (I d xs ((c-1) / 2)) (I d xs c)
 over:∀ c,0<c->c<n->(c-1) / 2=i->0<i->eI lt (I d xs ((i-1) / 2)) (I d xs c)
def sT (d:α)(lt:α->α->Bool)(xs:List α)(n:Nat):Prop:=∀ c,0<c->c<n->eI lt (I d xs ((c-1) / 2)) (I d xs c)
def v6.leaf {xs:List α}{n i:Nat}(h:v6 d lt xs n i)(z:n<=2*i+1):sT d lt xs n:=fun c o h1=>h.rest c o h1 U
def v6.done [nU lt]{xs:List α}{n i:Nat}(h:v6 d lt xs n i)(o:∀ c,0<c->c<n->(c-1) / 2=i->eI lt (I d xs j) (I d xs c))(z:eI lt (I d xs i) (I d xs j)):sT d lt xs n:=by
 intro c K h1;by_cases F:(c-1) / 2=i
 ·have:=o c K h1 F
  rw[F];exact Ix z this
 exact h.rest c K h1 F
def v6.step [nU lt]{xs:List α}{n i j:Nat}(h:v6 d lt xs n i)(hj:j=2*i+1\/j=2*i+2)(j':j<n)(K:∀ c,0<c->c<n->(c-1) / 2=i->eI lt (I d xs j) (I d xs c))(H':lt (I d xs j) (I d xs i)=true):v6 d lt (sw d xs i j) n j:=by
 have L:=h.le;have hi:i<xs.length:=U;have o:j<xs.length:=U;refine⟨by rw[A7];exact L,fun c V h1 J'=>?_,fun c V h1 he hp=>?_⟩
 ·rw[rX hi o,rX hi o,aC J']
  by_cases z:(c-1) / 2=i
  ·rw[aM z]
   by_cases F:c=j
   ·rw[aM F];exact FV H'
   rw[aC F,aC U];exact K c V h1 z
  rw[aC z];by_cases F:c=j
  ·omega
  rw[aC F];by_cases hc:c=i
  ·subst hc
   rw[aM rfl];exact h.over j U j' U V
  rw[aC hc];exact h.rest c V h1 z
 rw[rX hi o,rX hi o];have z:(j-1) / 2=i:=U;rw[z,aC (show ¬i=j by omega),aM rfl,aC (show ¬c=j by omega),aC (show ¬c=i by omega)];have:=h.rest c V h1 U;rw[he]at this;exact this
def NT {xs:List α}(h:cV d lt xs)(z:0<xs.length):v6 d lt (sw d xs 0 (xs.length-1)) (xs.length-1) 0:=by
 refine⟨by rw[A7];omega,fun c o h1 F=>?_,fun c _ _ _ o=>absurd o U⟩;rw[rX z U,rX z U,aC U,aC U,aC U,aC U];exact h c o U
def ş [nU lt]{xs:List α}(h:cV d lt xs):∀ i,i<xs.length->eI lt (I d xs 0) (I d xs i):=by
 intro i
 induction i using Nat.strongRecOn with
 | _ i z =>
  intro F;rcases uH i with o|o
  ·subst o;exact A6 _
  exact Ix (z ((i-1) / 2) U U) (h i o F)
def NV [nU lt]{xs:List α}(h:cV d lt xs){x:α}(hx:x∈xs):eI lt (I d xs 0) x:=by
 obtain⟨i,o,rfl⟩:=fJ hx;have:=ş h i o
 rwa[show I d xs i=xs[i] from am o]at this
def NU {xs ys:List α}(V:0<xs.length)(z:ys.Perm xs)(F:sT d lt ys (xs.length-1))(h:I d ys (xs.length-1)=I d xs 0) :
  cV d lt (ys.take (xs.length-1))/\xs.Perm (I d xs 0::ys.take (xs.length-1)):=by
 have K:=z.length_eq;refine⟨fun i L h1=>?_,?_⟩
 ·simp only[jd]at h1
  have o:∀ k,k<xs.length-1->I d (ys.take (xs.length-1)) k=I d ys k:=fun k hk=>by simp[I,hk]
  rw[o _ U,o _ U];exact F i L U
 have e:ys=ys.take (xs.length-1)++[I d xs 0]:=by
  have h1:ys.drop (xs.length-1)=[I d xs 0]:=by
   rw[wI U,pS U,<-h];rw[show I d ys (xs.length-1)=ys[xs.length-1] from am U]
  rw[<-h1,yF]
 refine z.symm.trans ?_;have:=I8 (l₁:=ys.take (xs.length-1)) (l₂:=[I d xs 0]);rw[<-e]at this;exact this
def U9:cV d lt []:=fun _ _ h=>absurd h (dr _)
end
def NQ (j:Nat):Int.tdiv ((j:Int)-1) 2=(((j-1) / 2:Nat):Int):=by
 rcases uH j with h|h
 ·subst h;rfl
 rw[GK U];omega
structure E8 where
 t:aa
 H:J->Int
 B:Option Int
inductive AR where
 | Ca (i:Nat)
 | none
 | zC
def SF {α:Type}{l:List α}{i:Nat}{x d:α}(hi:i<l.length):(l.set i x).getD j d=if j=i then x else l.getD j d:=by
 simp only[List.getD,vz];by_cases h:i=j
 ·subst h;simp[hi]
 rw[aC h,aC (Ne.symm h)]


structure cF where
 bT:Int
 aP:Int
 deriving DecidableEq
def aF:Ty cF:=⟨2,fun x=>[E x.bT,E x.aP],fun _=>rfl,⟨0,0⟩⟩
instance FN:kq aF:=⟨fun x v hv=>by simp only[aF,ee,fI,pP]at hv;rcases hv with rfl|rfl<;>rfl⟩
def gy (a b:cF):Bool:=decide (a.bT<b.bT)
instance FO:nU gy:=⟨fun a b h=>by simp only[gy,gQ,qA]at *;omega,fun a b c h1 o=>by simp only[gy,qA]at *;omega⟩
def dj (E_:List de)(u:Int):List de:=E_.filter fun e=>decide (e.dst=u)
def qH (E_:List de)(S:J):Nat:=(E_.filter fun e=>decide (e.dst∉S)).length
def NY {S:J}{u:Int}(hu:u∉S):∀ E_:List de,qH E_ S=qH E_ (u::S)+(dj E_ u).length
 | []=>rfl
 | e::E_=>by
  have o:=NY hu E_;simp only[qH,dj,wg]at o ⊢;by_cases h1:e.dst=u
  ·rw[aM (by simp[h1,hu]),aC (by simp[h1]),aM (by simp[h1])]
   simp only[length_cons];omega
  by_cases h:e.dst∈S
  ·rw[aC (by simp[h]),aC (by simp[h]),aC (by simp[h1])];exact o
  rw[aM (by simp[h]),aM (by simp[h1,h]),aC (by simp[h1])];simp only[length_cons];omega
def Vd (E_:List de)(S:J):qH E_ S<=E_.length:=uC _ _
def NZ {E_:List de}{u:Int}{e:de}:e∈dj E_ u↔e∈E_/\e.dst=u:=by simp[dj]
structure DJ (E_:List de) (c:J) (G:Int->Prop) (n:Nat) (D:J) (Q:List cF) (S:J) (m:Int) (done:de->Prop):Prop where
 inv:uq E_ c G n D
 nE:∀ x∈Q,(0<=x.aP/\x.aP<n)/\dg D x.aP<=x.bT/\m<=x.bT/\x.bT<bH/\(x.aP∈S->dg D x.aP<x.bT)
 nd:Q.Nodup
 set:∀ u∈S,(0<=u/\u<n)/\dg D u<=m
 oE:∀ u:Int,0<=u->u<n->dg D u<bH->u∉S->∃ x∈Q,x.aP=u/\x.bT=dg D u
 yn:∀ e∈E_,e.dst∈S->done e->zr c D e
 m0:0<=m
abbrev zJ (E_:List de)(c:J)(G:Int->Prop)(n:Nat)(D:J)(Q:List cF)(S:J)(m:Int):Prop:=DJ E_ c G n D Q S m fun _=>True
section
variable {E_:List de}{c:J}{G:Int->Prop}{n:Nat}{D:J}{Q:List cF}{S:J}{m:Int}{done:de->Prop}
def DJ.nK (h:DJ E_ c G n D Q S m done){Q':List cF}(o:Q'.Perm Q):DJ E_ c G n D Q' S m done :=
 ⟨h.inv,fun x hx=>h.nE x (o.mem_iff.1 hx),o.nodup_iff.2 h.nd,h.set,fun u a b e f=>let ⟨x,hx,z⟩:=h.oE u a b e f;⟨x,o.mem_iff.2 hx,z⟩,h.yn,h.m0⟩
def DJ.pQ (o:oD E_ c n)(h:zJ E_ c G n D [] S m):cN E_ c G n D:=by
 refine h.inv.bT o fun e he z=>?_;have F:=o.dst e he;have hm:e.dst∈S:=by
  apply nr;intro K;obtain⟨x,hx,_⟩:=h.oE e.dst F.1 F.2 z K;simp at hx
 exact h.yn e he hm trivial z
def DJ.skip {x:cF}(h:zJ E_ c G n D (x::Q) S m)(hx:dg D x.aP<x.bT):zJ E_ c G n D Q S m:=by
 refine⟨h.inv,fun y o=>h.nE y (by simp[o]),(vr.1 h.nd).2,h.set,fun u a b e f=>?_,h.yn,h.m0⟩;obtain⟨y,o,h1,z⟩:=h.oE u a b e f;rcases ee.1 o with rfl|o
 ·subst h1;omega
 exact⟨y,o,h1,z⟩
def DJ.take {x:cF}(h:zJ E_ c G n D (x::Q) S m)(hx:¬dg D x.aP<x.bT)(z:∀ y∈Q,x.bT<=y.bT) :
  DJ E_ c G n D Q (x.aP::S) x.bT (fun e=>e.dst∈S)/\x.aP∉S/\dg D x.aP=x.bT/\(0<=x.aP/\x.aP<n)/\x.bT<bH:=by
 obtain⟨L,e2,e3,e4,e5⟩:=h.nE x sm;have hS:x.aP∉S:=fun hm=>hx (e5 hm);have V:dg D x.aP=x.bT:=U;have K:=vr.1 h.nd;refine⟨⟨h.inv,fun y F=>?_,K.2,fun u hu=>?_,fun u a b e f=>?_,fun e he _ hm=>h.yn e he hm trivial,by have:=h.m0;omega⟩,hS,V,L,e4⟩
 ·obtain⟨f1,f2,f3,f4,f5⟩:=h.nE y (by simp[F])
  refine⟨f1,f2,z y F,f4,fun hm=>?_⟩;rcases ee.1 hm with o|o
  ·have j':y.bT≠x.bT:=fun he=>K.1 (by
    have:y=x:=by
     clear hm;obtain⟨a,b⟩:=y;obtain⟨a',b'⟩:=x;simp only at he o;subst he o;rfl
    rw[<-this];exact F)
   have:=z y F;rw[o,V];omega
  exact f5 o
 ·rcases ee.1 hu with rfl|hu
  ·exact⟨L,U⟩
  have:=h.set u hu;exact⟨this.1,U⟩
 simp only[ee,not_or]at f;obtain⟨y,F,h1,o⟩:=h.oE u a b e f.2;rcases ee.1 F with rfl|F
 ·exact absurd h1.symm f.1
 exact⟨y,F,h1,o⟩
def DJ.keep (h:DJ E_ c G n D Q S m done){e:de}(F:zr c D e):DJ E_ c G n D Q S m (fun o=>done o\/o=e) :=
 ⟨h.inv,h.nE,h.nd,h.set,h.oE,fun o z hm K=>K.elim (h.yn o z hm) fun L=>L ▸ F,h.m0⟩
def DJ.sU (F:oD E_ c n)(h:DJ E_ c G n D Q S m done){e:de}(he:e∈E_)(hu:e.dst∈S)(hm:dg D e.dst=m)(R':m<bH)(hl:m+iC c e<dg D e.bh) :
  DJ E_ c G n (D.set e.bh.toNat (m+iC c e)) (⟨m+iC c e,e.bh⟩::Q) S m (fun o=>done o\/o=e):=by
 have hs:=F.bh e he;have hd:=F.dst e he;have hc:=F.iC he;have hlen:=h.inv.len;have hr:=(h.inv.dK e.bh.toNat U).2;rw[gA hs.1]at hr;have K:e.bh∉S:=fun hv=>by have:=(h.set _ hv).2;omega
 have I:∀ i:Int,0<=i->dg (D.set e.bh.toNat (m+iC c e)) i=if i=e.bh then m+iC c e else dg D i:=fun i hi=>Cg hi hs.1 U
 have L:=h.inv.sU F he U U;rw[hm]at L;have hS:∀ i∈S,dg (D.set e.bh.toNat (m+iC c e)) i=dg D i:=fun i hi=>by
  rw[I i (h.set i hi).1.1,aC (fun (o:i=e.bh)=>K (by rw[<-o];exact hi))]
 refine⟨L.1,fun y V=>?_,vr.2 ⟨fun hq=>?_,h.nd⟩,fun u hu=>?_,fun u a b f hu=>?_,fun o j' H' z => ?_,h.m0⟩
 ·rcases ee.1 V with rfl|V
  ·exact⟨hs,by simp only;rw[I _ hs.1,aM rfl];exact dt _,by simp only;omega,by simp only;omega,fun hv=>absurd hv K⟩
  obtain⟨f1,f2,f3,f4,f5⟩:=h.nE y V;refine⟨f1,?_,f3,f4,fun hv=>by rw[hS _ hv];exact f5 hv⟩;rw[I _ f1.1];split
  ·rename_i hh;rw[hh]at f2;omega
  exact f2
 ·have:=(h.nE _ hq).2.1
  simp only at this;omega
 ·rw[hS u hu];exact h.set u hu
 ·rw[I u a]at f ⊢
  by_cases ev:u=e.bh
  ·rw[aM ev];exact⟨⟨m+iC c e,e.bh⟩,sm,ev.symm,rfl⟩
  rw[aC ev]at f ⊢;obtain⟨y,V,hh⟩:=h.oE u a b f hu;exact⟨y,by simp[V],hh⟩
 intro J';have P':=F.bh o j';rw[hS _ H']at J' ⊢;rw[I _ P'.1];rcases z with z|rfl
 ·have:=h.yn o j' H' z J'
  split
  ·rename_i hh;rw[hh]at this;omega
  exact this
 rw[aM rfl,hm];exact dt _
def DJ.close {u:Int}(h:DJ E_ c G n D Q (u::S) m done)(o:∀ e∈E_,e.dst∈u::S->done e):zJ E_ c G n D Q (u::S) m :=
 ⟨h.inv,h.nE,h.nd,h.set,h.oE,fun e he hm _=>h.yn e he hm (o e he hm),h.m0⟩
end
def DJ.start (E_:List de)(c:J)(G:Int->Prop)(n:Nat){Q:List cF}(o:∀ x,x∈Q↔∃ i:Nat,i<n/\G i/\x=⟨0,i⟩)(z:Q.Nodup):zJ E_ c G n (pI G n) Q [] 0:=by
 refine⟨ŗ _ _ _ _,fun x hx=>?_,z,fun u hu=>(by simp at hu),fun u a b f _=>?_,fun e _ hm=>(by simp at hm),dt _⟩
 ·obtain⟨i,F,I,rfl⟩:=(o x).1 hx
  refine⟨⟨by simp only;omega,by simp only;omega⟩,?_,dt _,by simp only;decide,fun h=>by simp at h⟩;rw[Dc F,y9 I];exact dt _
 have hu:u=((u.toNat:Nat):Int):=U;rw[hu,Dc U]at f;by_cases I:G ((u.toNat:Nat):Int)
 ·refine⟨⟨0,u⟩,(o _).2 ⟨u.toNat,U,I,by rw[<-hu]⟩,rfl,?_⟩
  rw[hu,Dc U,y9 I]
 rw[Db I]at f;omega
structure Un where
 op:Int
 ff:Int
 aN:Int
 aK:Int
 aw:J
def Iy:Un:=⟨0,0,0,0,[]⟩
def un (U':List Un)(i:Int):Un:=U'.getD i.toNat Iy
inductive jI (U':List Un) (S:Int->Prop):Int->Int->Prop
 | start {f:Int}:S f->jI U' S f 0
 | iJ {i:Nat}{v:Int->Int}{m:Int}:i<U'.length->0<=m->(∀ n∈(un U' i).aw,jI U' S n (v n))->(∀ n∈(un U' i).aw,v n<=m)->jI U' S (un U' i).aK ((un U' i).aN+m)
structure wZ (U':List Un) (N:Nat):Prop where
 aN:∀ i:Nat,i<U'.length->0<=(un U' i).aN/\(un U' i).aN<=1048576
 aK:∀ i:Nat,i<U'.length->0<=(un U' i).aK/\(un U' i).aK<N
 aw:∀ i:Nat,i<U'.length->∀ n∈(un U' i).aw,0<=n/\n<N
 nd:∀ i:Nat,i<U'.length->(un U' i).aw.Nodup
def tT (dn:J)(l:J):Nat:=(l.filter fun n=>decide (n∉dn)).length
def TG {dn l:J}:tT dn l=0↔∀ n∈l,n∈dn:=by
 unfold tT;rw[GL,filter_eq_nil_iff];simp
def Š (l:J):tT [] l=l.length:=by
 unfold tT;rw[filter_eq_self.2 sm]
def Mx {f:Int}{dn:J}(o:f∉dn):∀ {l:J},l.Nodup->f∈l->tT dn l=tT (f::dn) l+1
 | [],_,h=>by simp at h
 | x::l,F,h=>by
  obtain⟨h1,K⟩:=vr.1 F;unfold tT;by_cases e:x=f
  ·subst e
   rw[wg,aM (by simp[o]),wg,aC sm];have z:(l.filter fun n=>decide (n∉dn))=l.filter fun n=>decide (n∉x::dn):=GH fun y L=>by
    have:y≠x:=fun e=>h1 (by rw[<-e];exact L);simp[this]
   rw[z];rfl
  have z:=Mx o K (by rcases ee.1 h with h|h;exact absurd h.symm e;exact h);unfold tT at z;by_cases hx:x∈dn
  ·rw[wg,aC (by simp[hx]),wg,aC (by simp[hx])];exact z
  rw[wg,aM (by simp[hx]),wg,aM (by simp[hx,e])];simp only[length_cons];omega
def š {f:Int}{dn l:J}(h:f∉l):tT dn l=tT (f::dn) l:=by
 unfold tT
 rw[GH fun y o=>by
  have:y≠f:=fun e=>h (by rw[<-e];exact o);show decide (y∉dn)=decide (y∉f::dn)
  simp[this]]
def ep (U':List Un)(f:Int):J:=((List.range U'.length).filter fun (i:Nat)=>decide (f∈(un U' i).aw)).map fun (i:Nat)=>(i:Int)
def TH {U':List Un}{f i:Int}:i∈ep U' f↔∃ k:Nat,i=k/\k<U'.length/\f∈(un U' k).aw:=by
 unfold ep;simp only[iS,rV,mem_range,gQ];constructor
 ·rintro⟨k,⟨h1,h⟩,rfl⟩;exact⟨k,rfl,h1,h⟩
 rintro⟨k,rfl,h1,h⟩;exact⟨k,⟨h1,h⟩,rfl⟩
def Ţ (U':List Un)(f:Int):(ep U' f).Nodup:=by
 unfold ep;refine Pairwise.map _ (fun a b h=>?_) (nodup_range.filter _);intro e;exact h U
structure RI (U':List Un) (S:Int->Prop) (N:Nat) (D lf:J) (dn:J) (Q:List cF) (m:Int) (f:Int) (ok:Nat->Prop):Prop where
 dl:D.length=N
 ll:lf.length=U'.length
 dK:∀ g:Int,0<=g->g<N->0<=dg D g/\dg D g<=bH
 qF:∀ g:Int,0<=g->g<N->dg D g<bH->jI U' S g (dg D g)
 w5:∀ i:Nat,i<U'.length->ok i->dg lf i=tT dn (un U' i).aw
 vS:∀ i:Nat,i<U'.length->¬ok i->f∈(un U' i).aw/\dg lf i=tT dn (un U' i).aw+1
 low:∀ i:Nat,i<U'.length->ok i->(∀ n∈(un U' i).aw,n∈dn)->∀ k,0<=k->(∀ n∈(un U' i).aw,dg D n<=k)->dg D (un U' i).aK<=(un U' i).aN+k
 oE:∀ g:Int,0<=g->g<N->dg D g<bH->g∉dn->∃ x∈Q,x.aP=g/\x.bT=dg D g
 nE:∀ x∈Q,(0<=x.aP/\x.aP<N)/\dg D x.aP<=x.bT/\m<=x.bT/\x.bT<bH
 set:∀ g∈dn,(0<=g/\g<N)/\dg D g<=m
 m0:0<=m
 m1:m<bH
section
variable {U':List Un}{S:Int->Prop}{N:Nat}{D lf dn:J}{Q:List cF}{m f:Int}{ok:Nat->Prop}
def RI.nK (h:RI U' S N D lf dn Q m f ok){Q':List cF}(o:Q'.Perm Q):RI U' S N D lf dn Q' m f ok :=
 { h with
  oE:=fun g a b c d=>let ⟨x,hx,z⟩:=h.oE g a b c d;⟨x,o.mem_iff.2 hx,z⟩
  nE:=fun x hx=>h.nE x (o.mem_iff.1 hx) }
def RI.reach (h:RI U' S N D lf dn Q m f ok){g v:Int}(I:0<=g/\g<N)(hv:v<dg D g)(hm:m<=v)(hd:jI U' S g v):RI U' S N (D.set g.toNat v) lf dn (⟨v,g⟩::Q) m f ok:=by
 have hr:=h.dK g I.1 I.2;have J':=h.m0;have L:g∉dn:=fun hh=>by have:=(h.set g hh).2;omega
 have V:g.toNat<D.length:=by rw[h.dl];omega
 have o:∀ x:Int,0<=x->dg (D.set g.toNat v) x=if x=g then v else dg D x:=fun x hx=>by
  unfold dg;by_cases e:x=g
  ·rw[aM e,e]
   simp[List.getD,V]
  rw[aC e];simp only[List.getD];rw[tn U]
 have eI:∀ x:Int,0<=x->dg (D.set g.toNat v) x<=dg D x:=fun x hx=>by
  rw[o x hx];split
  ·rename_i e;rw[e];omega
  exact dt _
 refine⟨by simp[h.dl],h.ll,fun x z h1=>?_,fun x z h1 F=>?_,h.w5,h.vS,fun i hi ho hn k hk j'=>?_,fun x z h1 F h3=>?_,fun x hx=>?_,fun x hx=>?_,h.m0,h.m1⟩
 ·rw[o x z];split
  ·exact⟨U,U⟩
  exact h.dK x z h1
 ·rw[o x z]at F ⊢
  split
  ·rename_i e;rw[e];exact hd
  rename_i e;rw[aC e]at F;exact h.qF x z h1 F
 ·have H':(0:Int)<=(un U' i).aK\/(un U' i).aK<0:=U
  have hb:=h.low i hi ho hn k hk fun n K=>by
   have:=j' n K;have z:=((h.set n (hn n K)).1).1;rw[o n z,aC (fun e=>L (by rw[<-e];exact hn n K))]at this;exact this
  rcases H' with z|z
  ·have:=eI _ z;omega
  unfold dg at hb ⊢;rw[show (un U' i).aK.toNat=(0:Int).toNat by omega]at hb ⊢;have:=eI 0 (dt _);unfold dg at this;omega
 ·rw[o x z]at F ⊢
  by_cases e:x=g
  ·exact⟨⟨v,g⟩,gz,e.symm,by rw[aM e]⟩
  rw[aC e]at F ⊢;obtain⟨y,K,h4⟩:=h.oE x z h1 F h3;exact⟨y,iR _ K,h4⟩
 ·rcases ee.1 hx with rfl|hx
  ·refine⟨I,?_,hm,by have:=hr.2;show v<bH;omega⟩
   rw[o _ I.1,aM rfl];exact dt _
  obtain⟨K,e2,e3,e4⟩:=h.nE x hx;exact⟨K,by have:=eI x.aP K.1;omega,e3,e4⟩
 obtain⟨K,e2⟩:=h.set x hx;exact⟨K,by have:=eI x K.1;omega⟩
def RI.skip {x:cF}(h:RI U' S N D lf dn (x::Q) m f ok)(hx:x.aP∈dn):RI U' S N D lf dn Q m f ok :=
 { h with
  oE:=fun g a b c d=>by
   obtain⟨y,o,h1,z⟩:=h.oE g a b c d;rcases ee.1 o with rfl|o
   ·exact absurd (h1 ▸ hx) d
   exact⟨y,o,h1,z⟩
  nE:=fun y o=>h.nE y (iR _ o) }
def RI.take (hU:wZ U' N){x:cF}(h:RI U' S N D lf dn (x::Q) m f fun _=>True)(hx:x.aP∉dn)(z:∀ y∈Q,x.bT<=y.bT) :
  RI U' S N D lf (x.aP::dn) Q x.bT x.aP (fun i=>x.aP∉(un U' i).aw)/\dg D x.aP=x.bT/\(0<=x.aP/\x.aP<N)/\0<=x.bT/\x.bT<bH:=by
 obtain⟨V,e2,e3,e4⟩:=h.nE x gz;have H':=h.m0;have hd:dg D x.aP=x.bT:=by
  obtain⟨y,o,h1,h2⟩:=h.oE x.aP V.1 V.2 U hx;rcases ee.1 o with rfl|o
  ·exact h2.symm
  have:=z y o;omega
 refine⟨⟨h.dl,h.ll,h.dK,h.qF,fun i K F=>?_,fun i K F=>?_,fun i K F hn k hk j'=>?_,fun g h0 h1 h2 h3=>?_,fun y o=>?_,fun g I=>?_,U,e4⟩,hd,V,U,e4⟩
 ·rw[h.w5 i K trivial,š F]
 ·have F:x.aP∈(un U' i).aw:=nr F
  refine⟨F,?_⟩;rw[h.w5 i K trivial,Mx hx (hU.nd i K) F];rfl
 ·refine h.low i K trivial (fun n L => ?_) k hk j'
  rcases ee.1 (hn n L) with e|e
  ·exact absurd (e ▸ L) F
  exact e
 ·obtain⟨y,o,L,h5⟩:=h.oE g h0 h1 h2 (fun hh=>h3 (iR _ hh))
  rcases ee.1 o with rfl|o
  ·exact absurd (by rw[L];exact gz) h3
  exact⟨y,o,L,h5⟩
 ·obtain⟨f1,f2,f3,f4⟩:=h.nE y (iR _ o)
  exact⟨f1,f2,z y o,f4⟩
 rcases ee.1 I with rfl|I
 ·exact⟨V,U⟩
 obtain⟨f1,f2⟩:=h.set g I;exact⟨f1,U⟩
def RI.count {i:Nat}(hi:i<U'.length)(h:RI U' S N D lf dn Q m f ok)(K:¬ok i)(L:dg lf i-1≠0\/dg D (un U' i).aK<=m+(un U' i).aN)(hf:dg D f=m):RI U' S N D (lf.set i (dg lf i-1)) dn Q m f (fun k=>ok k\/k=i):=by
 obtain⟨V,hl⟩:=h.vS i hi K
 have o:∀ k:Nat,dg (lf.set i (dg lf i-1)) k=if k=i then dg lf i-1 else dg lf k:=fun k=>by
  unfold dg;by_cases e:k=i
  ·subst e
   rw[aM rfl];have:k<lf.length:=by rw[h.ll];exact hi
   simp[List.getD,this]
  rw[aC e];simp only[List.getD];rw[tn U]
 refine { h with ll:=by simp[h.ll],w5:=fun k hk z=>?_,vS:=fun k hk z=>?_,low:=fun k hk z hn c hc F=>?_ }
 ·rw[o]
  by_cases e:k=i
  ·subst e;rw[aM rfl,hl];omega
  rw[aC e];exact h.w5 k hk (z.resolve_right e)
 ·have e:k≠i:=fun e=>z (.inr e)
  rw[o,aC e];exact h.vS k hk fun hh=>z (.inl hh)
 by_cases e:ok k
 ·exact h.low k hk e hn c hc F
 have e2:k=i:=z.resolve_left e;subst e2;have j':=TG.2 hn;have:=F f V;rcases L with L|L
 ·omega
 omega
def RI.pQ (L:wZ U' N)(h:RI U' S N D lf dn [] m f fun _=>True)(hS:∀ g,S g->0<=g/\g<N/\dg D g<=0):∀ g v,jI U' S g v->0<=g->g<N->dg D g<=v:=by
 have V:∀ g:Int,0<=g->g<N->dg D g<bH->g∈dn:=fun g h0 h1 h2=>by
  apply nr;intro hn;obtain⟨x,hx,_⟩:=h.oE g h0 h1 h2 hn;simp at hx
 intro g v hd
 induction hd with
 | start hs=>intro _ _;exact(hS _ hs).2.2
 | @iJ i v m K hm hn eI ih =>
  intro h0 h1;have hr:=h.dK _ h0 h1;have hc:=(L.aN i K).1;by_cases z:∀ n∈(un U' i).aw,dg D n<bH
  ·refine h.low i K trivial (fun n o => ?_) m hm fun n o => ?_
   ·have F:=L.aw i K n o
    exact V n F.1 F.2 (z n o)
   have F:=L.aw i K n o;have:=ih n o F.1 F.2;have:=eI n o;omega
  have:∃ n,n∈(un U' i).aw/\¬dg D n<bH:=by
   apply nr;intro hh;exact z fun n o=>nr fun h3=>hh ⟨n,o,h3⟩
  obtain⟨n,o,h3⟩:=this;have F:=L.aw i K n o;have:=ih n o F.1 F.2;have:=eI n o;omega
def RI.Fx {i:Nat}(hi:i<U'.length)(h:RI U' S N D lf dn Q m f ok)(z:¬ok i)(hz:dg lf i-1=0)(hb:∀ n∈(un U' i).aw,0<=n/\n<N):jI U' S (un U' i).aK (m+(un U' i).aN):=by
 obtain⟨V,hl⟩:=h.vS i hi z;have F:tT dn (un U' i).aw=0:=U;have o:=TG.1 F;rw[DN];have j':=h.m1;refine .iJ (v:=dg D) hi h.m0 (fun n K=>?_) fun n K=>?_
 ·obtain⟨L,e2⟩:=h.set n (o n K)
  exact h.qF n L.1 L.2 U
 exact(h.set n (o n K)).2
end
def bD (vars:J)(v:Nat):Int:=(vars.take v).foldl (·+·) 0
def dE (vars:J)(f:bp):Int:=bD vars f.var.toNat+f.val
def oW (acc:J)(n:Int):J:=if n∈acc then acc else acc++[n]
def cn (vars:J)(l:List bp)(acc:J):J:=l.foldl (fun acc f=>oW acc (dE vars f)) acc
def TJ (vars:J):bD vars 0=0:=rfl
def CW {vars:J}{v:Nat}(h:v<vars.length):bD vars (v+1)=bD vars v+vars.getD v W.dflt:=by
 unfold bD;rw[eC W.dflt h,ti];rfl
def Iz {vars:J}(o:∀ x∈vars,1<=x){a:Nat}:∀ {b:Nat},a<=b->b<=vars.length->bD vars a<=bD vars b
 | 0,h,_=>by rw[show a=0 by omega];exact dt _
 | b+1,h,z=>by
  by_cases e:a=b+1
  ·rw[e];exact dt _
  have:=Iz o (a:=a) (b:=b) U U;have F:=o _ (cH W.dflt (show b<vars.length by omega));rw[CW U];omega
def CV {vars:J}(h:∀ x∈vars,1<=x){b:Nat}(o:b<=vars.length):0<=bD vars b:=Iz h (a:=0) (bu _) o
def Ep {vars:J}(h:∀ i,i<vars.length->vars.getD i W.dflt<=64):∀ {b:Nat},b<=vars.length->bD vars b<=64*(b:Int)
 | 0,_=>by rw[TJ];omega
 | b+1,o=>by
  have:=Ep h (b:=b) U;have:=h b U;rw[CW U];omega
def vG {vars:J}(o:∀ x∈vars,1<=x){f:bp}(h:bN vars f):0<=dE vars f/\dE vars f<bD vars vars.length:=by
 obtain⟨z,h1,F,K⟩:=h;have hv:f.var.toNat<vars.length:=U;have a:=CV o (b:=f.var.toNat) U;have b:=Iz o (a:=f.var.toNat+1) (b:=vars.length) U (cD _);rw[CW hv]at b;unfold dE;omega
def EJ {vars:J}(h:∀ x∈vars,1<=x){v:Nat}(hv:v<vars.length){x:Int}(o:0<=x)(h1:x<vars.getD v W.dflt):0<=bD vars v+x/\bD vars v+x<bD vars vars.length:=by
 have a:=CV h (b:=v) U;have b:=Iz h (a:=v+1) (b:=vars.length) U (cD _);rw[CW hv]at b;omega
def ţ {n x:Int}:x∈oW acc n↔x∈acc\/x=n:=by
 unfold oW;split
 ·rename_i h
  exact⟨.inl,fun o=>o.elim id fun e=>by rw[e];exact h⟩
 simp
def Ť {n:Int}(h:acc.Nodup):(oW acc n).Nodup:=by
 unfold oW;split
 ·exact h
 rename_i o;exact zU.2 ⟨h,sm,fun a z b F e=>o (by rw[dp.1 F]at e;rw[<-e];exact z)⟩
def Č (acc:J)(n:Int):(oW acc n).length<=acc.length+1:=by
 unfold oW;split<;>simp
def L1 (vars:J)(l:List bp)(f:bp)(acc:J):cn vars (l++[f]) acc=oW (cn vars l acc) (dE vars f):=by simp[cn]
def yf {vars:J}{x:Int}:∀ {l:List bp},x∈cn vars l acc↔x∈acc\/∃ f∈l,dE vars f=x:=by
 intro l;refine mP (P:=fun l=>x∈cn vars l acc↔x∈acc\/∃ f∈l,dE vars f=x) (by simp[cn]) ?_ l;intro l f z;rw[L1,ţ,z];simp only[gG,dp];constructor
 ·rintro ((h|⟨g,h1,o⟩)|h)
  ·exact .inl h
  ·exact .inr ⟨g,.inl h1,o⟩
  exact .inr ⟨f,.inr rfl,h.symm⟩
 rintro (h|⟨g,h1|h1,o⟩)
 ·exact .inl (.inl h)
 ·exact .inl (.inr ⟨g,h1,o⟩)
 exact .inr (by rw[<-o,h1])
def Ih {vars:J}(h:acc.Nodup)(l:List bp):(cn vars l acc).Nodup:=by
 refine mP (P:=fun l=>(cn vars l acc).Nodup) h ?_ l;intro l f o;rw[L1];exact Ť o
def yO (vars:J)(i:Nat)(o:km)(k:Nat):Un:=⟨i,k,o.aN,dE vars ⟨(o.aJ.getD k bE).var,(o.aJ.getD k bE).val⟩,cn vars (o.aJ.getD k bE).bO (cn vars o.pre [])⟩
def lN (vars:J)(i:Nat)(o:km)(m:Nat):List Un:=(List.range m).map (yO vars i o)
def gK (t:aa)(k:Nat):List Un:=(List.range k).flatMap fun i=>lN t.vars i (t.M.getD i bj) (t.M.getD i bj).aJ.length
def bW (t:aa):List Un:=gK t t.M.length
def K6 (vars:J)(i:Nat)(o:km)(m:Nat):lN vars i o (m+1)=lN vars i o m++[yO vars i o m]:=by simp[lN,l5]
def yN (t:aa)(k:Nat):gK t (k+1)=gK t k++lN t.vars k (t.M.getD k bj) (t.M.getD k bj).aJ.length:=by simp[gK,l5]
def C1 {t:aa}{k:Nat}{u:Un}:u∈gK t k↔∃ i j,i<k/\j<(t.M.getD i bj).aJ.length/\u=yO t.vars i (t.M.getD i bj) j:=by
 simp only[gK,lN,tE,mem_range,iS];constructor
 ·rintro⟨i,h1,j,h,rfl⟩;exact⟨i,j,h1,h,rfl⟩
 rintro⟨i,j,h1,h,rfl⟩;exact⟨i,h1,j,h,rfl⟩
def Bz (vars:J)(i:Nat)(o:km)(m:Nat):(lN vars i o m).length=m:=by simp[lN]
def By {t:aa}(I:aG t):∀ {k:Nat},k<=t.M.length->(gK t k).length<=64*k
 | 0,_=>by simp[gK]
 | k+1,h=>by
  have:=By I (k:=k) U;have:=(I.op k U).aJ;rw[yN,length_append,Bz];omega
def aR (t:aa):Nat:=(bD t.vars t.vars.length).toNat
def tA {t:aa}(I:aG t):(aR t:Int)=bD t.vars t.vars.length:=by
 have:=CV I.pos (b:=t.vars.length) (cD _);unfold aR;omega
def An {t:aa}(I:aG t):aR t<=4096:=by
 have h1:=Ep (fun i h=>(I.mN i h).2) (cD t.vars.length);have o:=I.vars;unfold aR;omega
def yZ {U':List Un}{i:Nat}(h:i<U'.length):un U' i∈U':=cH Iy h
def uS {t:aa}(I:aG t):wZ (bW t) (aR t):=by
 have key:∀ u∈bW t,(0<=u.aN/\u.aN<=1048576)/\(0<=u.aK/\u.aK<aR t)/\(∀ n∈u.aw,0<=n/\n<aR t)/\u.aw.Nodup:=by
  intro u hu;obtain⟨i,j,o,K,rfl⟩:=C1.1 hu;have z:=I.op i o;have he:=tO (z.ff j K);rw[tA I];refine⟨⟨z.lE,z.pd⟩,vG I.pos he,fun n L=>?_,Ih (Ih zI _) _⟩;have Y:=(z.ff j K).1;rcases yf.1 L with h|⟨f,F,rfl⟩
  ·rcases yf.1 h with h|⟨f,F,rfl⟩
   ·simp at h
   obtain⟨k,hk,rfl⟩:=fJ F;have:=(z.pre k hk).1;rw[am hk]at this;exact vG I.pos this
  obtain⟨k,hk,rfl⟩:=fJ F;have:=(Y k hk).1;rw[am hk]at this;exact vG I.pos this
 exact⟨fun i o=>(key _ (yZ o)).1,fun i o=>(key _ (yZ o)).2.1,fun i o=>(key _ (yZ o)).2.2.1,fun i o=>(key _ (yZ o)).2.2.2⟩
def mb (vars s:J)(f:Int):Prop:=∃ v:Nat,v<vars.length/\f=bD vars v+s.getD v W.dflt
structure gT (t:aa) (s out:J):Prop where
 len:out.length=aR t
 dK:∀ g:Int,0<=g->g<aR t->0<=dg out g/\dg out g<=bH
 qF:∀ g:Int,0<=g->g<aR t->dg out g<bH->jI (bW t) (mb t.vars s) g (dg out g)
 low:∀ g v,jI (bW t) (mb t.vars s) g v->0<=g->g<aR t->dg out g<=v
def cY (vars:J)(aH:List bp)(out:J):Int:=aH.foldl (fun m f=>max m (dg out (dE vars f))) 0
def My (vars:J)(l:List bp)(f:bp)(out:J):cY vars (l++[f]) out=max (cY vars l out) (dg out (dE vars f)):=by simp[cY]
def yW {vars:J}{out:J}(o:0<=b):∀ {l:List bp},cY vars l out<=b↔∀ f∈l,dg out (dE vars f)<=b:=by
 intro l;refine mP (P:=fun l=>cY vars l out<=b↔∀ f∈l,dg out (dE vars f)<=b) (by simp[cY,o]) ?_ l;intro l f z;rw[My,DO,z];simp only[gG,dp];exact⟨fun⟨h1,F⟩ x hx=>hx.elim (h1 x) fun e=>by rw[e];exact F,fun h=>⟨fun x hx=>h x (.inl hx),h f (.inr rfl)⟩⟩
def Aw (vars:J)(l:List bp)(out:J):0<=cY vars l out:=by
 refine mP (P:=fun l=>0<=cY vars l out) (by simp[cY]) ?_ l;intro l f h;rw[My];omega
open Classical in
def jI.shift {U':List Un}{S z:Int->Prop}{c:Int}(hc:0<=c)(h:∀ f,z f->∃ v,v<=c/\jI U' S f v){f v:Int}(K:jI U' z f v):∃ v',v'<=v+c/\jI U' S f v':=by
 induction K with
 | start L=>obtain⟨v,h1,V⟩:=h _ L;exact⟨v,U,V⟩
 | @iJ i v m hi hm hn eI F =>
  refine⟨(un U' i).aN+(m+c),U,.iJ (v:=fun n=>if hx:∃ v',v'<=v n+c/\jI U' S n v' then Classical.choose hx else 0) hi U (fun n o => ?_) fun n o => ?_⟩
  ·have hx:=F n o
   show jI U' S n (dite _ _ _);rw[dif_pos hx];exact(wh hx).2
  have hx:=F n o;show dite _ _ _<=_;rw[dif_pos hx];have:=(wh hx).1;have:=eI n o;omega
def Dd {vars s:J}(o:ab vars s){f:bp}(h:jA s f):mb vars s (dE vars f) :=
 ⟨f.var.toNat,by have:=o.1;have:=h.1;have:=h.2.1;omega,by unfold dE;rw[h.2.2]⟩
def AA {s:J}{l:List bp}(h:cp s l){f:bp}(z:f∈l):jA s f:=by
 obtain⟨i,o,rfl⟩:=fJ z;have:=h i o
 rwa[am o]at this
def LO {s:J}{l:List kP}(o:∀ e∈l,0<=e.var/\e.var<s.length){v:Nat}(hv:v<s.length):(fj s l).getD v W.dflt=s.getD v W.dflt\/∃ k,k<l.length/\(l.getD k bE).var=v/\(l.getD k bE).val=(fj s l).getD v W.dflt/\cp s (l.getD k bE).bO:=by
 revert o;refine mP (P:=fun l=>(∀ e∈l,0<=e.var/\e.var<(s.length:Int))->((fj s l).getD v W.dflt=s.getD v W.dflt\/∃ k,k<l.length/\(l.getD k bE).var=v/\(l.getD k bE).val=(fj s l).getD v W.dflt/\cp s (l.getD k bE).bO)) (fun _=>.inl rfl) ?_ l;intro l e z o;have z:=z fun x hx=>o x (by simp[hx]);have F:∀ k,k<l.length->(l++[e]).getD k bE=l.getD k bE:=fun k hk=>by simp[List.getD,iX hk]
 have hold:(∃ k,k<l.length/\(l.getD k bE).var=v/\(l.getD k bE).val=(fj s l).getD v W.dflt/\cp s (l.getD k bE).bO)->∃ k,k<(l++[e]).length/\((l++[e]).getD k bE).var=v/\((l++[e]).getD k bE).val=(fj s l).getD v W.dflt/\cp s ((l++[e]).getD k bE).bO:=fun⟨k,h1,L,V,h4⟩=>⟨k,by simp;omega,by rw[F k h1];exact L,by rw[F k h1];exact V,by rw[F k h1];exact h4⟩
 rw[Ew];by_cases Y:cp s e.bO
 ·rw[aM Y]
  have he:=o e sm;by_cases K:e.var=v
  ·right
   have I:(l++[e]).getD l.length bE=e:=by simp[List.getD]
   refine⟨l.length,sm,by rw[I];exact K,?_,by rw[I];exact Y⟩;rw[I,K,jo];have:v<(fj s l).length:=by rw[Td];exact hv
   simp[List.getD,this]
  have h:((fj s l).set e.var.toNat e.val).getD v W.dflt=(fj s l).getD v W.dflt:=by
   simp only[List.getD];rw[tn U]
  rw[h];exact z.imp id hold
 rw[aC Y];exact z.imp id hold
def TK {t:aa}{op k:Nat}(o:op<t.M.length)(hk:k<(t.M.getD op bj).aJ.length):∃ i,i<(bW t).length/\un (bW t) i=yO t.vars op (t.M.getD op bj) k:=by
 have hm:yO t.vars op (t.M.getD op bj) k∈bW t:=C1.2 ⟨op,k,o,hk,rfl⟩;obtain⟨i,h,he⟩:=fJ hm;exact⟨i,h,by unfold un;rw[jo,am h];exact he⟩
def ť {t:aa}(I:aG t){s out:J}(L:ab t.vars s){op:Nat}(ho:op<t.M.length)(ha:jU t s op)(h:gT t s out)(h':gT t (cB t s op) out'){g:Int}(V:0<=g)(h1:g<aR t):dg out g<=(t.M.getD op bj).aN+dg out' g:=by
 have F:=I.op op ho;have hc:=F.lE;have hr:=h.dK g V h1;have R':=h'.dK g V h1;by_cases hi:dg out' g<bH
 ·have hd:=h'.qF g V h1 hi
  obtain⟨v,hv,j'⟩:=jI.shift (S:=mb t.vars s) hc (fun f K=>by
   obtain⟨v,hv,rfl⟩:=K;have H':v<s.length:=by rw[L.1];exact hv
   rcases LO (s:=s) (l:=(t.M.getD op bj).aJ) (fun e he=>by have:=tO (F.mem e he);rw[L.1];exact⟨this.1,this.2.1⟩) H' with e|⟨k,hk,e1,e2,e3⟩
   ·exact⟨0,hc,.start ⟨v,hv,by rw[<-e];rfl⟩⟩
   obtain⟨i,hi,o⟩:=TK ho hk;refine⟨(t.M.getD op bj).aN+0,U,?_⟩;have J':(un (bW t) i).aK=bD t.vars v+(cB t s op).getD v W.dflt:=by
    rw[o];show bD t.vars ((t.M.getD op bj).aJ.getD k bE).var.toNat+((t.M.getD op bj).aJ.getD k bE).val=_;rw[e1,e2,jo];rfl
   have P':(un (bW t) i).aN=(t.M.getD op bj).aN:=by rw[o];rfl
   rw[<-J',<-P'];refine .iJ (v:=fun _=>0) hi (dt _) (fun n z=>.start ?_) fun _ _=>dt _;rw[o]at z;rcases yf.1 z with z|⟨f,K,rfl⟩
   ·rcases yf.1 z with z|⟨f,K,rfl⟩
    ·simp at z
    exact Dd L (AA ha K)
   exact Dd L (AA e3 K)) hd
  have:=h.low g v j' V h1;omega
 omega
def Ŧ {t:aa}(I:aG t){s out:J}(hs:ab t.vars s){op:Nat}(K:op<t.M.length)(ha:jU t s op)(h:gT t s out)(h':gT t (cB t s op) out'):cY t.vars t.aH out<=(t.M.getD op bj).aN+cY t.vars t.aH out':=by
 have hc:=(I.op op K).lE;have z:=Aw t.vars t.aH out';refine(yW U).2 fun f L=>?_;obtain⟨i,V,rfl⟩:=fJ L;have o:=(I.aH i V).1;rw[am V]at o;have F:=vG I.pos o;rw[<-tA I]at F;have:=ť I hs K ha h h' F.1 F.2;have:=(yW z).1 (dt _) _ L;omega
def ŧ {t:aa}(I:aG t){s out:J}(L:ab t.vars s)(h:gT t s out)(V:cp s t.aH):cY t.vars t.aH out=0:=by
 have h1:=Aw t.vars t.aH out;have h2:cY t.vars t.aH out<=0:=(yW (dt _)).2 fun f F=>by
  obtain⟨i,K,rfl⟩:=fJ F;have o:=(I.aH i K).1;rw[am K]at o;have z:=vG I.pos o;rw[<-tA I]at z;exact h.low _ 0 (.start (Dd L (AA V F))) z.1 z.2
 omega
def vd {t:aa}(I:aG t){s out:J}(h:gT t s out):cY t.vars t.aH out<=bH:=(yW dc).2 fun f K=>by
 obtain⟨i,F,rfl⟩:=fJ K;have o:=(I.aH i F).1;rw[am F]at o;have z:=vG I.pos o;rw[<-tA I]at z;exact(h.dK _ z.1 z.2).2
def Av {t:aa}{s out:J}(h:gT t s out)(o:gT t s out'):out=out':=by
 apply iB (by rw[h.len,o.len]);intro i h1 K;have hi:i<aR t:=by rw[<-h.len];exact h1
 have a:=h.dK i U U;have a':=o.dK i U U;have b:=h.qF i U U;have F:=o.qF i U U;have c:=fun v z=>h.low i v z U U;have L:=fun v z=>o.low i v z U U;have e:dg out (i:Int)=dg out' (i:Int):=by
  by_cases hx:dg out (i:Int)<bH
  ·have:=L _ (b hx)
   have:=c _ (F U);omega
  by_cases V:dg out' (i:Int)<bH
  ·have:=c _ (F V);omega
  omega
 unfold dg at e;rw[jo,am h1,am K]at e;exact e
def jI.nn {U':List Un}{S:Int->Prop}(o:∀ i:Nat,i<U'.length->0<=(un U' i).aN){g v:Int}(h:jI U' S g v):0<=v:=by
 cases h with
 | start _=>exact dt _
 | iJ z hm _ _=>have:=o _ z;omega
def Ũ {U':List Un}{S:Int->Prop}(F:∀ i:Nat,i<U'.length->0<=(un U' i).aN)(g:Int):∃ m,0<=m/\m<=bH/\(m<bH->jI U' S g m)/\∀ v,jI U' S g v->m<=v:=by
 have key:∀ n:Nat,(∃ v,jI U' S g v/\v<(n:Int))->∃ m,jI U' S g m/\∀ v,jI U' S g v->m<=v:=by
  intro n
  induction n with
  | zero=>rintro⟨v,h1,K⟩;have:=h1.nn F;omega
  | succ n V =>
   rintro⟨v,h1,K⟩;by_cases o:∃ v,jI U' S g v/\v<(n:Int)
   ·exact V o
   refine⟨v,h1,fun L z=>?_⟩;have:¬L<(n:Int):=fun h5=>o ⟨L,z,h5⟩;omega
 have L:bH=1125899906842624:=rfl;by_cases h:∃ v,jI U' S g v/\v<bH
 ·obtain⟨v,h1,K⟩:=h
  obtain⟨m,o,z⟩:=key bH.toNat ⟨v,h1,U⟩;have:=z v h1;exact⟨m,o.nn F,U,fun _=>o,z⟩
 exact⟨bH,U,dt _,fun o=>absurd o (G3 _),fun v hv=>tu.1 fun o=>h ⟨v,hv,o⟩⟩
open Classical in
def Ax {t:aa}(I:aG t)(s:J):∃ out,gT t s out:=by
 have bL:=uS I;have h:=fun g:Int=>Ũ (U':=bW t) (S:=mb t.vars s) (fun i K=>(bL.aN i K).1) g;have F:∀ g:Int,0<=g->g<aR t->dg ((List.range (aR t)).map fun (i:Nat)=>Classical.choose (h i)) g=Classical.choose (h g):=fun g o h1=>by
  have z:g.toNat<aR t:=U;unfold dg;simp[List.getD,z,gA o]
 refine⟨(List.range (aR t)).map fun (i:Nat)=>Classical.choose (h i),sm,fun g o h1=>?_,fun g o h1 z=>?_,fun g v hv o h1=>?_⟩
 ·rw[F g o h1];have:=wh (h g);exact⟨this.1,this.2.1⟩
 ·rw[F g o h1]at z ⊢;exact(wh (h g)).2.2.1 z
 rw[F g o h1];exact(wh (h g)).2.2.2 v hv
open Classical in
noncomputable def cA (t:aa)(s:J):Int:=if h:ab t.vars s/\∃ out,gT t s out then cY t.vars t.aH (Classical.choose h.2) else 0
def yX {t:aa}{s out:J}(o:ab t.vars s)(h:gT t s out):cA t s=cY t.vars t.aH out:=by
 have hx:ab t.vars s/\∃ out,gT t s out:=⟨o,out,h⟩
 unfold cA;rw[dif_pos hx,Av (wh hx.2) h]
def A5 {t:aa}{s:J}(o:¬ab t.vars s):cA t s=0:=by
 unfold cA;rw[dif_neg (fun h=>o h.1)]
def TL {t:aa}(I:aG t):BB t (cA t):=by
 have z:(0:Int)<=bH:=dc;refine⟨I,fun y=>?_,fun y=>?_⟩
 ·by_cases h:ab t.vars y
  ·obtain⟨out,o⟩:=Ax I y
   rw[yX h o];exact Aw _ _ _
  rw[A5 h];exact dt _
 by_cases h:ab t.vars y
 ·obtain⟨out,o⟩:=Ax I y
  rw[yX h o];exact vd I o
 rw[A5 h];exact z
def I5 {t:aa}(I:aG t){s:J}(h:ab t.vars s){op:Nat}(o:op<t.M.length)(F:jU t s op):cA t s<=qz t op+cA t (cB t s op):=by
 obtain⟨out,h1⟩:=Ax I s;obtain⟨out',z⟩:=Ax I (cB t s op);rw[yX h h1,yX (uR I h o) z];exact Ŧ I h o F h1 z
def I4 {t:aa}(I:aG t){s:J}(o:cp s t.aH):cA t s=0:=by
 by_cases h:ab t.vars s
 ·obtain⟨out,h1⟩:=Ax I s
  rw[yX h h1];exact ŧ I h h1 o
 exact A5 h
def UW {t:aa}(I:aG t){s p:J}{c:Int}(h:mL t s p c):cA t s<=c:=by
 induction h with
 | aH F=>rw[I4 I F];exact dt _
 | @step s op p c o K _ L =>
  by_cases z:ab t.vars s
  ·have:=I5 I z o K;omega
  rw[A5 z];have h1:=Ce I o;have V:=(TL I).nn (cB t s op);omega
def Sz {t:aa}{s out:J}(hl:out.length=aR t)(hr:∀ g:Int,0<=g->g<aR t->0<=dg out g/\dg out g<=bH)(hU:wZ (bW t) (aR t))(hs:∀ g,mb t.vars s g->dg out g<=0)
  (z:∀ i:Nat,i<(bW t).length->dg out (un (bW t) i).aK<=(un (bW t) i).aN+(un (bW t) i).aw.foldl (fun m n=>max m (dg out n)) 0)
  (F:∀ g:Int,0<=g->g<aR t->dg out g<bH->jI (bW t) (mb t.vars s) g (dg out g)):gT t s out:=by
 have K:∀ (l:J) (a k:Int),a<=k->(∀ n∈l,dg out n<=k)->l.foldl (fun m n=>max m (dg out n)) a<=k:=by
  intro l
  induction l with
  | nil=>intro a k h _;exact h
  | cons x l L =>
   intro a k h V;exact L _ _ (DO.2 ⟨h,V x gz⟩) fun n hn=>V n (iR _ hn)
 refine⟨hl,hr,F,fun g v hd=>?_⟩
 induction hd with
 | start h=>intro _ _;exact hs _ h
 | @iJ i v m hi hm hn eI L =>
  intro h0 h1;have V:=z i hi;have h3:=K (un (bW t) i).aw 0 m hm fun n o=>by
   have hb:=hU.aw i hi n o;have:=L n o hb.1 hb.2;have:=eI n o;omega
  omega
end
variable {Q':List cF}
section
def dx (f:Nat->Rat):Nat->Rat
 | 0=>0
 | n+1=>dx f n+f n
def AZ {f g:Nat->Rat}:∀ {n:Nat},(∀ j,j<n->f j=g j)->dx f n=dx g n
 | 0,_=>rfl
 | n+1,h=>by
  show dx f n+f n=dx g n+g n;rw[AZ fun j o=>h j (by omega),h n (by omega)]
def SL:∀ (n:Nat),dx (fun _=>0) n=0
 | 0=>rfl
 | n+1=>by
  show dx (fun _=>0) n+0=0;rw[SL n];grind
def SM (f g:Nat->Rat):∀ n,dx (fun j=>f j+g j) n=dx f n+dx g n
 | 0=>by show (0:Rat)=0+0;grind
 | n+1=>by
  show dx (fun j=>f j+g j) n+(f n+g n)=dx f n+f n+(dx g n+g n)
  rw[SM f g n];grind
structure TM where
 A:Nat->Nat->Rat
 b:Nat->Rat
 B:Nat->Nat
 c:Nat->Rat
 z:Rat
section
variable (N m:Nat)
end
section
variable {N m:Nat}{T:TM}{r k:Nat}
end
section
variable {N m n:Nat}{T:Nat->TM}{r k:Nat->Nat}
end
structure da where
 num:Int
 den:Int
 deriving DecidableEq
def cr (f:da):Rat:=(f.num:Rat) / (f.den:Rat)
def eh (f:da):Prop:=1<=f.den/\f.den<=1048576 /\ -1099511627776<=f.num/\f.num<=1099511627776/\Int.gcd f.num f.den=1
instance Nv (f:da):Decidable (eh f):=by unfold eh;infer_instance
def me (num den:Int):Int × da :=
 let n:=if den<0 then -num else num
 let d:=if den<0 then -den else den
 let g:Int:=Int.gcd n d
 let f:da:=⟨n / g,d / g⟩
 if 1099511627776<f.num.natAbs\/1048576<f.den then (5,⟨0,0⟩) else (0,f)
def uy (num den other rest:Int):Int × da :=
 if num=0\/other=0 then (0,⟨0,1⟩) else
 let g:Int:=Int.gcd num rest
 let h:Int:=Int.gcd other den
 let n:=num / g
 let r:=rest / g
 let o:=other / h
 let d:=den / h
 if 1099511627776 / (o.natAbs:Int)<n.natAbs\/1048576 / r<d then (5,⟨0,0⟩) else (0,⟨n*o,d*r⟩)
def EK {a:Int}(h:a≠0):(a:Rat)≠0:=fun e=>h (by exact_mod_cast e)
def ũ {a g:Int}(I:g≠0)(o:g ∣ a)(z:g ∣ b)(F:b≠0):((a / g:Int):Rat) / ((b / g:Int):Rat)=(a:Rat) / (b:Rat):=by
 obtain⟨L,rfl⟩:=o;obtain⟨K,rfl⟩:=z;have h:K≠0:=fun e=>F (by rw[e,Int.mul_zero]);rw[Int.mul_ediv_cancel_left _ I,Int.mul_ediv_cancel_left _ I,Rat.intCast_mul,Rat.intCast_mul];have h1:=EK I;have V:=EK h
 grind
def NB {num den:Int}{f:da}(L:den≠0)(h:me num den=(0,f)):cr f=(num:Rat) / (den:Rat)/\eh f:=by
 unfold me at h;simp only at h;generalize V:(if den<0 then -num else num)=n at h;generalize F:(if den<0 then -den else den)=d at h;have z:0<d:=by rw[<-F];split<;>omega
 split at h
 ·exact absurd (show (5:Int)=0 from congrArg Prod.fst h) (by decide)
 rename_i K;have e:f=⟨n / (Int.gcd n d:Int),d / (Int.gcd n d:Int)⟩:=(congrArg Prod.snd h).symm;have I:0<(Int.gcd n d:Int):=by
  have:=Int.gcd_pos_of_ne_zero_right n (show d≠0 by omega);omega
 subst e;replace K:¬(1099511627776<((n / (Int.gcd n d:Int)).natAbs:Int)\/1048576<d / (Int.gcd n d:Int)):=by
  intro o;apply K;rcases o with o|o
  ·left;omega
  exact .inr o
 have h1:cr ⟨n / (Int.gcd n d:Int),d / (Int.gcd n d:Int)⟩=(n:Rat) / (d:Rat):=ũ (by omega) (Int.gcd_dvd_left ..) (Int.gcd_dvd_right ..) (by omega);refine⟨?_,?_,?_,?_,?_,?_⟩
 ·rw[h1,<-V,<-F]
  have:=EK L;split
  ·rw[Rat.intCast_neg,Rat.intCast_neg];grind
  rfl
 ·exact Int.le_ediv_of_mul_le I (by have:=Int.le_of_dvd z (Int.gcd_dvd_right (a:=n) (b:=d));omega)
 ·simp only;omega
 ·simp only;omega
 ·simp only;omega
 simp only;rw[Int.gcd_ediv_gcd_ediv_gcd (by omega)]
def ki (a b:da):Int × da:=if ¬eh a\/¬eh b then (2,⟨0,0⟩) else me (a.num*b.den+b.num*a.den) (a.den*b.den)
def E6 (a b:da):Int × da:=if ¬eh a\/¬eh b then (2,⟨0,0⟩) else me (a.num*b.den-b.num*a.den) (a.den*b.den)
def sQ (a b:da):Int × da:=if ¬eh a\/¬eh b then (2,⟨0,0⟩) else uy a.num a.den b.num b.den
def o0 (h:Int)(a b:da):Int × da:=if ¬eh a\/¬eh b then (2,⟨0,0⟩) else if b.num=0 then (h,⟨0,0⟩) else if b.num<0 then uy (-a.num) a.den b.den (-b.num) else uy a.num a.den b.den b.num
def zD {a b f:da}(h:ki a b=(0,f)):eh a/\eh b/\eh f/\cr f=cr a+cr b:=by
 unfold ki at h;split at h
 ·exact absurd (show (2:Int)=0 from congrArg Prod.fst h) (by decide)
 rename_i z;have F:eh a:=Classical.byContradiction fun o=>z (.inl o);have K:eh b:=Classical.byContradiction fun o=>z (.inr o);have a1:=F.1;have b1:=K.1;have L:a.den*b.den≠0:=by have:=Int.mul_pos (show 0<a.den by omega) (show 0<b.den by omega);omega
 obtain⟨h1,V⟩:=NB L h;refine⟨F,K,V,?_⟩;rw[h1,Rat.intCast_add,Rat.intCast_mul,Rat.intCast_mul,Rat.intCast_mul];unfold cr;have c1:=EK (show a.den≠0 by omega);have c2:=EK (show b.den≠0 by omega)
 grind
def fN (f:da):da:=if eh f then f else ⟨0,1⟩
def lO (a b:da):Int:=if (fN a).num*(fN b).den<(fN b).num*(fN a).den then -1 else if (fN b).num*(fN a).den<(fN a).num*(fN b).den then 1 else 0
def Dj {a c d:Int}(z:0<b)(F:0<d):a*d<c*b↔(a:Rat) / (b:Rat)<(c:Rat) / (d:Rat):=by
 have c1:(0:Rat)<(b:Rat):=by exact_mod_cast z
 have c2:(0:Rat)<(d:Rat):=by exact_mod_cast F
 have e:((c:Rat) / (d:Rat)-(a:Rat) / (b:Rat))*((b:Rat)*(d:Rat))=(c:Rat)*(b:Rat)-(a:Rat)*(d:Rat):=by grind
 have o:=Rat.mul_pos c1 c2;have k:a*d<c*b↔(a:Rat)*(d:Rat)<(c:Rat)*(b:Rat):=by
  rw[<-Rat.intCast_mul,<-Rat.intCast_mul];constructor
  ·intro h;exact_mod_cast h
  intro h;exact_mod_cast h
 rw[k];constructor
 ·intro h
  refine Classical.byContradiction fun K=>?_;have:=Rat.mul_nonneg (a:=(a:Rat) / (b:Rat)-(c:Rat) / (d:Rat)) (by grind) (Rat.le_of_lt o)
  grind
 intro h;have:=Rat.mul_pos (a:=(c:Rat) / (d:Rat)-(a:Rat) / (b:Rat)) (by grind) o
 grind
def Uz {a b:da}(L:eh a)(V:eh b):(lO a b<0↔cr a<cr b)/\(lO a b=0↔cr a=cr b):=by
 have a1:=L.1;have b1:=V.1;have h1:=Dj (a:=a.num) (b:=a.den) (c:=b.num) (d:=b.den) (by omega) (by omega);have K:=Dj (a:=b.num) (b:=b.den) (c:=a.num) (d:=a.den) (by omega) (by omega);have e1:(a.num:Rat) / (a.den:Rat)=cr a:=rfl;have e2:(b.num:Rat) / (b.den:Rat)=cr b:=rfl;rw[e1,e2]at h1 K;unfold lO fN;rw[if_pos L,if_pos V];by_cases o:a.num*b.den<b.num*a.den
 ·rw[if_pos o]
  have z:=h1.1 o;exact⟨⟨fun _=>z,fun _=>by decide⟩,⟨fun h=>absurd h (by decide),fun h=>by grind⟩⟩
 rw[if_neg o];have z:¬cr a<cr b:=fun h=>o (h1.2 h);by_cases F:b.num*a.den<a.num*b.den
 ·rw[if_pos F]
  have h6:=K.1 F;exact⟨⟨fun h=>absurd h (by decide),fun h=>absurd h z⟩,⟨fun h=>absurd h (by decide),fun h=>by grind⟩⟩
 rw[if_neg F];have h6:¬cr b<cr a:=fun h=>F (K.2 h);exact⟨⟨fun h=>absurd h (by decide),fun h=>absurd h z⟩,⟨fun _=>by grind,fun _=>rfl⟩⟩
def lB (f:da):Int:=if (fN f).num.tdiv (fN f).den*(fN f).den<(fN f).num then (fN f).num.tdiv (fN f).den+1 else (fN f).num.tdiv (fN f).den
def NH {f:da}(z:eh f){k:Int}(h:cr f<=(k:Rat)):lB f<=k:=by
 have h1:=z.1;have c1:(0:Rat)<(f.den:Rat):=by exact_mod_cast (show 0<f.den by omega)
 have L:f.num<=k*f.den:=by
  have F:=Rat.mul_nonneg (a:=(k:Rat)-cr f) (b:=(f.den:Rat)) (by grind) (Rat.le_of_lt c1);have K:cr f*(f.den:Rat)=(f.num:Rat):=by unfold cr;grind
  have o:(f.num:Rat)<=(k:Rat)*(f.den:Rat):=by grind
  rw[<-Rat.intCast_mul]at o
  exact_mod_cast o
 have V:=Int.tmod_lt_of_pos f.num (show 0<f.den by omega);have h7:=Int.lt_tmod_of_pos f.num (show 0<f.den by omega);have K:=Int.tdiv_mul_add_tmod f.num f.den;unfold lB fN;rw[if_pos z];obtain⟨q,hq⟩:∃ q,q=f.num.tdiv f.den:=⟨_,rfl⟩
 rw[<-hq]at K ⊢;split
 ·rename_i F
  have:q*f.den<k*f.den:=by omega
  have:=Int.lt_of_mul_lt_mul_right this (by omega);omega
 have F:q*f.den-f.den<k*f.den:=by omega
 have o:(q-1)*f.den<k*f.den:=by rw[Int.sub_mul,Int.one_mul];exact F
 have:=Int.lt_of_mul_lt_mul_right o (by omega);omega
def UJ {f:da}(h:0<=f.num):0<=lB f:=by
 have key:0<=(fN f).num/\1<=(fN f).den:=by
  unfold fN;split
  ·rename_i o;exact⟨h,o.1⟩
  decide
 have:=Int.tdiv_nonneg key.1 (show 0<=(fN f).den by omega);unfold lB;split<;>omega
def mf:da->List da->Int × da
 | s,[]=>(0,s)
 | s,f::l=>if (ki s f).1=0 then mf (ki s f).2 l else ((ki s f).1,⟨0,0⟩)
def NF:∀ {l:List da}{s f:da},mf s l=(0,f)->eh s->eh f/\cr f=cr s+dx (fun i=>cr (l.getD i ⟨0,1⟩)) l.length
 | [],s,f,h,z=>by
  have e:f=s:=(congrArg Prod.snd h).symm;subst e
  exact⟨z,by show _=_+(0:Rat);grind⟩
 | x::l,s,f,h,z=>by
  unfold mf at h;split at h
  ·rename_i o
   obtain⟨_,_,F,K⟩:=zD (f:=(ki s x).2) (show ki s x=(0,(ki s x).2) by rw[<-o]);obtain⟨g1,g2⟩:=NF h F;refine⟨g1,?_⟩;rw[g2,K,length_cons];have key:∀ n,dx (fun i=>cr ((x::l).getD i ⟨0,1⟩)) (n+1)=cr x+dx (fun i=>cr (l.getD i ⟨0,1⟩)) n:=by
    intro n
    induction n with
    | zero=>show (0:Rat)+cr x=cr x+0;grind
    | succ n L =>
     show dx (fun i=>cr ((x::l).getD i ⟨0,1⟩)) (n+1)+cr ((x::l).getD (n+1) ⟨0,1⟩)=cr x+(dx (fun i=>cr (l.getD i ⟨0,1⟩)) n+cr (l.getD n ⟨0,1⟩))
     rw[L,getD_cons_succ];grind
   rw[key];grind
  rename_i o;exact absurd (show (ki s x).1=0 from congrArg Prod.fst h) o
def dF:da:=⟨0,0⟩
structure o8 where
 fp:List (List da)
 right:List da
 qS:List Int
 aH:List da
 value:da
def qT (x f y:da):Int × da:=if (sQ f y).1=0 then E6 x (sQ f y).2 else ((sQ f y).1,dF)
def mE (f:da):List da->List da->Int × List da
 | x::row,y::piv=>if (qT x f y).1=0 then (if (mE f row piv).1=0 then (0,(qT x f y).2::(mE f row piv).2) else ((mE f row piv).1,[])) else ((qT x f y).1,[])
 | [],_=>(0,[])
 | _::_,[]=>(0,[])
def vT (p:da):List da->Int × List da
 | []=>(0,[])
 | x::row=>if (o0 22 x p).1=0 then (if (vT p row).1=0 then (0,(o0 22 x p).2::(vT p row).2) else ((vT p row).1,[])) else ((o0 22 x p).1,[])
def gW (r k:Nat)(h:List da)(o:da):Nat->List (List da)->List da->Int × List (List da) × List da
 | i,row::fp,x::right =>
  if i=r then
   (if (gW r k h o (i+1) fp right).1=0 then (0,h::(gW r k h o (i+1) fp right).2.1,o::(gW r k h o (i+1) fp right).2.2) else ((gW r k h o (i+1) fp right).1,[],[]))
  else if (mE (row.getD k dF) row h).1=0 then
   (if (qT x (row.getD k dF) o).1=0 then
    (if (gW r k h o (i+1) fp right).1=0 then (0,(mE (row.getD k dF) row h).2::(gW r k h o (i+1) fp right).2.1,(qT x (row.getD k dF) o).2::(gW r k h o (i+1) fp right).2.2) else ((gW r k h o (i+1) fp right).1,[],[]))
   else ((qT x (row.getD k dF) o).1,[],[]))
  else ((mE (row.getD k dF) row h).1,[],[])
 | _,[],_=>(0,[],[])
 | _,_::_,[]=>(0,[],[])
def BU (S:o8)(r k:Nat):Int × o8 :=
 let e:=(S,S)
 if (vT ((S.fp.getD r []).getD k dF) (S.fp.getD r [])).1≠0 then ((vT ((S.fp.getD r []).getD k dF) (S.fp.getD r [])).1,e.1) else
 if (o0 22 (S.right.getD r dF) ((S.fp.getD r []).getD k dF)).1≠0 then ((o0 22 (S.right.getD r dF) ((S.fp.getD r []).getD k dF)).1,e.1) else
 let h:=(vT ((S.fp.getD r []).getD k dF) (S.fp.getD r [])).2
 let o:=(o0 22 (S.right.getD r dF) ((S.fp.getD r []).getD k dF)).2
 if (gW r k h o 0 S.fp S.right).1≠0 then ((gW r k h o 0 S.fp S.right).1,e.1) else
 if (mE (S.aH.getD k dF) S.aH h).1≠0 then ((mE (S.aH.getD k dF) S.aH h).1,e.1) else
 if (sQ (S.aH.getD k dF) o).1≠0 then ((sQ (S.aH.getD k dF) o).1,e.1) else
 if (ki S.value (sQ (S.aH.getD k dF) o).2).1≠0 then ((ki S.value (sQ (S.aH.getD k dF) o).2).1,e.1) else
 (0,⟨(gW r k h o 0 S.fp S.right).2.1,(gW r k h o 0 S.fp S.right).2.2,S.qS.set r (k:Int),(mE (S.aH.getD k dF) S.aH h).2,(ki S.value (sQ (S.aH.getD k dF) o).2).2⟩)
def Fy (S:o8)(k:Nat)(m:Nat):List Nat:=(List.range m).filter fun i=>0<((S.fp.getD i []).getD k dF).num
def xw (S:o8)(k:Nat):Int->da->List Nat->Int × Int
 | h,_,[]=>(0,h)
 | h,dq,i::l =>
  if (o0 22 (S.right.getD i dF) ((S.fp.getD i []).getD k dF)).1≠0 then ((o0 22 (S.right.getD i dF) ((S.fp.getD i []).getD k dF)).1,0)
  else if h<0\/lO (o0 22 (S.right.getD i dF) ((S.fp.getD i []).getD k dF)).2 dq<0\/(lO (o0 22 (S.right.getD i dF) ((S.fp.getD i []).getD k dF)).2 dq=0/\S.qS.getD i 0<S.qS.getD h.toNat 0)
   then xw S k (i:Int) (o0 22 (S.right.getD i dF) ((S.fp.getD i []).getD k dF)).2 l
   else xw S k h dq l
def qU (S:o8)(k m:Nat):Int × Int :=
 match Fy S k m with
 | []=>(0,-1)
 | [i]=>(0,(i:Int))
 | l=>xw S k (-1) ⟨0,1⟩ l
end
section
open Go.Sl Go
section
variable {t:aa}{M:J}{u n k:Nat}
end
end
section
open Go.Sl
structure tc (n:Nat) (N:Nat->Nat) (C:Nat):Prop where
 bd:∀ v,ib C v->v<n
 tl:∀ u v,ib C u->ib C v->u≠v->ib (N u) v
def qV {x v u:Nat}:ib (x ||| 2 ^ v) u↔ib x u\/u=v:=by
 unfold ib;rw[testBit_or,yC,qa,gQ];constructor
 ·rintro (h|h)
  ·exact .inl h
  exact .inr h.symm
 rintro (h|h)
 ·exact .inl h
 exact .inr h.symm
def OA {n:Nat}{N:Nat->Nat}(hG:Gr n N):∀ (m:Nat) (C:Nat),tc n N C->2 ^ n-C<=m->∃ C',tV n N C'/\∀ v,ib C v->ib C' v:=by
 intro m
 induction m with
 | zero =>
  intro C z hm;exfalso;have:C<2 ^ n:=Ke C fun i hi=>nG.2 fun h=>by have:=z.bd i h;omega
  omega
 | succ m ih =>
  intro C z hm;by_cases hx:∃ u,u<n/\¬ib C u/\∀ v,ib C v->ib (N u) v
  ·obtain⟨u,hu,F,o⟩:=hx
   have H':C<C ||| 2 ^ u:=by
    have h1:C<=C ||| 2 ^ u:=left_le_or;have h2:C≠C ||| 2 ^ u:=fun e=>F (by rw[e];exact qV.2 (.inr rfl));omega
   have j':tc n N (C ||| 2 ^ u):=⟨fun v hv=>by
     rcases qV.1 hv with hv|rfl
     ·exact z.bd v hv
     ·exact hu,fun a b ha hb L=>by
     rcases qV.1 ha with V|ea
     ·rcases qV.1 hb with K|eb
      ·exact z.tl a b V K L
      rw[eb];exact hG.sym _ _ (o a V)
     rcases qV.1 hb with K|eb
     ·rw[ea];exact o b K
     exact absurd (ea.trans eb.symm) L⟩
   have K:C<2 ^ n:=Ke C fun i hi=>nG.2 fun h=>by have:=z.bd i h;omega
   obtain⟨C',h1,h2⟩:=ih _ j' U;exact⟨C',h1,fun v hv=>h2 v (qV.2 (.inl hv))⟩
  exact⟨C,⟨z.bd,z.tl,fun u hu F=>nr fun o=>hx ⟨u,hu,F,fun v hv=>nr fun K=>o ⟨v,hv,K⟩⟩⟩,fun v hv=>hv⟩
def kG (n:Nat)(N:Nat->Nat)(Cs:List J):Prop:=∀ l,l∈Cs↔∃ C,tV n N C/\l=dz C n
def F7 {a b v:Nat}:ib (a &&& b) v↔ib a v/\ib b v:=by
 unfold ib;rw[GY,Bool.and_eq_true]
def Dt {a b v:Nat}:ib (a ||| b) v↔ib a v\/ib b v:=by
 unfold ib;rw[testBit_or,qa]
def F5 {k v:Nat}:ib (2 ^ k) v↔v=k:=by
 unfold ib;rw[yC,gQ];exact⟨fun h=>h.symm,fun h=>h.symm⟩
def Ū {a v:Nat}(o:a<18446744073709551616)(h:ib a v):v<64:=Kw fun eI=>by
 unfold ib at h;rw[CE (Bb (show a<2 ^ 64 from o) (yt dc eI))]at h;cases h
def Ot {a b v:Nat}(F:a<18446744073709551616)(o:b<18446744073709551616):ib (a &&& qh b) v↔ib a v/\¬ib b v:=by
 rw[F7];constructor
 ·rintro⟨h1,h⟩
  refine⟨h1,fun z=>?_⟩;unfold ib at h z;rw[R5 o,z]at h;simp at h
 rintro⟨h1,h⟩;refine⟨h1,?_⟩;unfold ib at h ⊢;rw[R5 o,dy (Ū F h1),nG.2 h];rfl
def VJ {a b v:Nat}(h1:ib a v)(h2:¬ib b v):a &&& b<a:=by
 have h:=Ck (n:=a) (m:=b);have o:a &&& b≠a:=fun e=>by
  rw[<-e]at h1;exact h2 (F7.1 h1).2
 omega
def uE {x:Nat}(h:x=0)(v:Nat):¬ib x v:=by subst h;simp[ib]
def Ol {x:Nat}(h:∀ v,¬ib x v):x=0:=CI fun i=>by rw[zero_testBit];exact nG.2 (h i)
structure jY (n:Nat) (N:Nat->Nat) (R P l:Nat) (r:Bool) (M':List Nat):Prop where
 nd:M'.Nodup
 mem:∀ C∈M',kc n N R P C
 all:r=true->∀ C,kc n N R P C->C∈M'
 le:r=true->l+M'.length<=4096
 gt:r=false->l+M'.length=4097
structure FI (n:Nat) (N:Nat->Nat) (R P l q p x:Nat) (M':List Nat):Prop where
 bi:BI n N R p x
 Jo:p<=P
 qp:∀ v,ib q v->ib p v
 BV:∀ C,kc n N R p C->∃ u,ib C u/\ib q u
 nd:M'.Nodup
 mem:∀ C∈M',kc n N R P C/\¬kc n N R p C
 all:∀ C,kc n N R P C->C∈M'\/kc n N R p C
 sub:∀ C,kc n N R p C->kc n N R P C
 le:l+M'.length<=4096
section
variable {n:Nat}{N:Nat->Nat}{R P X' l q p x:Nat}{M':List Nat}
def jY.eL (h:BI n N R P X')(F:P=0)(K:X'=0)(L:l<=4096):jY n N R P l (decide (l+1<=4096)) [R] where
 nd:=sm
 mem C o:=by rw[dp.1 o];exact(h.eL (uE F) (uE K)).2 rfl
 all _ C o:=dp.2 ((h.eL (uE F) (uE K)).1 o)
 le z:=by simpa using z
 gt z:=by simp at z;simp;omega
def FI.start (z:Gr n N)(h:BI n N R P X'){u:Nat}(hu:ib P u\/ib X' u)(hq:∀ v,ib q v↔ib P v/\¬ib (N u) v)(F:l<=4096):FI n N R P l q P X' [] where
 bi:=h
 Jo:=cD _
 qp v hv:=((hq v).1 hv).1
 BV C o:=by
  obtain⟨w,h1,K,L⟩:=h.pivot z hu o;exact⟨w,h1,(hq w).2 ⟨K,L⟩⟩
 nd:=zI
 mem C o:=by simp at o
 all C o:=.inr o
 sub _ o:=o
 le:=by simpa using F
def FI.step (hG:Gr n N)(h:FI n N R P l q p x M'){v R1 P1 V x' q':Nat}{M1:List Nat}(hv:ib q v)(h1:∀ u,ib R1 u↔ib R u\/u=v)(h2:∀ u,ib P1 u↔ib p u/\ib (N v) u)(K:jY n N R1 P1 (l+M'.length) true M1)
  (hp:∀ u,ib V u↔ib p u/\u≠v)(hx:∀ u,ib x' u↔ib x u\/u=v)(hq:∀ u,ib q' u↔ib q u/\u≠v)(L:V<=p):FI n N R P l q' V x' (M'++M1):=by
 have F:=fun C=>h.bi.split (C:=C) hG (h.qp v hv) h1 h2 hp;refine⟨h.bi.next (h.qp v hv) hp hx,pT L h.Jo,fun u hu=>?_,fun C o=>?_,?_,fun C o=>?_,fun C o=>?_,fun C o=>h.sub C ((F C).1.2 (.inr o)),?_⟩
 ·have:=(hq u).1 hu
  exact(hp u).2 ⟨h.qp u this.1,this.2⟩
 ·obtain⟨u,a,b⟩:=h.BV C ((F C).1.2 (.inr o))
  have z:=(F C).2.2 o;exact⟨u,a,(hq u).2 ⟨b,fun e=>z (e ▸ a)⟩⟩
 ·refine zU.2 ⟨h.nd,K.nd,fun a z b hb e=>?_⟩
  subst e;exact(h.mem a z).2 ((F a).1.2 (.inl (K.mem a hb)))
 ·rcases gG.1 o with o|o
  ·exact⟨(h.mem C o).1,fun z=>(h.mem C o).2 ((F C).1.2 (.inr z))⟩
  have hc:=K.mem C o;exact⟨h.sub C ((F C).1.2 (.inl hc)),fun z=>(F C).2.2 z ((F C).2.1 hc)⟩
 ·rcases h.all C o with z|z
  ·exact .inl (xX _ z)
  rcases (F C).1.1 z with z|z
  ·exact .inl (Gv _ (K.all rfl C z))
  exact .inr z
 have:=K.le rfl;rw[length_append];omega
def FI.fail (V:Gr n N)(h:FI n N R P l q p x M'){v:Nat}{K:List Nat}(hv:ib q v)(h1:∀ u,ib R1 u↔ib R u\/u=v)(h2:∀ u,ib P1 u↔ib p u/\ib (N v) u)(z:jY n N R1 P1 (l+M'.length) false K) :
  jY n N R P l false (M'++K):=by
 have L:=fun C=>(h.bi.split (C:=C) (P2:=p &&& (p ^^^ 2 ^ v)) V (h.qp v hv) h1 h2 (fun u=>by
  unfold ib;rw[GY,testBit_xor,yC];by_cases e:u=v
  ·subst e
   have o:p.testBit u=true:=h.qp u hv;simp[o]
  have o:¬v=u:=fun F=>e F.symm
  simp[e,o])).1.2
 refine⟨zU.2 ⟨h.nd,z.nd,fun a ha b hb e=>?_⟩,fun C o=>?_,fun F=>(by cases F),fun F=>(by cases F),fun _=>?_⟩
 ·subst e
  exact(h.mem a ha).2 (L a (.inl (z.mem a hb)))
 ·rcases gG.1 o with o|o
  ·exact(h.mem C o).1
  exact h.sub C (L C (.inl (z.mem C o)))
 have:=z.gt rfl;rw[length_append];omega
def FI.done (h:FI n N R P l q p x M')(hq:q=0):jY n N R P l true M':=by
 have z:∀ C,¬kc n N R p C:=fun C o=>by
  obtain⟨u,_,hu⟩:=h.BV C o;exact uE hq u hu
 exact⟨h.nd,fun C o=>(h.mem C o).1,fun _ C o=>(h.all C o).elim id fun F=>absurd F (z C),fun _=>h.le,fun K=>(by cases K)⟩
end
def OY {α:Type}[DecidableEq α]:∀ {L M':List α},L.Nodup->(∀ x∈L,x∈M')->L.length<=M'.length
 | [],_,_,_=>bu _
 | x::L,M',z,h=>by
  obtain⟨h1,F⟩:=vr.1 z;have hx:=h x gz;have K:=OY (L:=L) (M':=M'.erase x) F fun y o=>(GC (fun (e:y=x)=>by subst e;exact h1 o)).2 (h y (iR _ o));rw[DK hx]at K;have:=GD hx;simp only[length_cons];omega
structure yh where
 op:Int
 ff:Int
 aN:Int
 aK:Int
 aw:Value
def kZ:Ty yh:=⟨5,fun u=>[E u.op,E u.ff,E u.aN,E u.aK,u.aw],fun _=>rfl,⟨0,0,0,0,nS⟩⟩
instance Nw:nA kZ:=⟨az⟩
structure L3 (w:World) (v:yh) (u:Un):Prop where
 op:v.op=u.op
 ff:v.ff=u.ff
 aN:v.aN=u.aN
 aK:v.aK=u.aK
 aw:RS W w v.aw u.aw
def nI (vs:List yh)(us:List Un)(w:World):Prop:=∀ i:Nat,i<us.length->L3 w (au kZ vs i) (un us i)
def dD (vars:J)(k:Nat):J:=(List.range k).map (bD vars)
def Am (vars:J)(k:Nat):(dD vars k).length=k:=by simp[dD]
def Ċ {vars:J}{k i:Nat}(h:i<k):(dD vars k).getD i W.dflt=bD vars i:=by simp[dD,List.getD,h]
def Rn (vars:J)(k:Nat):dD vars (k+1)=dD vars k++[bD vars k]:=by simp[dD,l5]
def kj (U':List Un)(u:Un)(i N:Nat):List J:=(List.range N).map fun (f:Nat)=>ep U' f++(if (f:Int)∈u.aw.take i then [(U'.length:Int)] else [])
def gb (U':List Un)(N:Nat):List J:=(List.range N).map fun (f:Nat)=>ep U' f
def SO (U':List Un)(u:Un)(i N:Nat):(kj U' u i N).length=N:=by simp[kj]
def K8 (U':List Un)(N:Nat):(gb U' N).length=N:=by simp[gb]
def Y8 {U':List Un}{N f:Nat}(h:f<N):(gb U' N).getD f []=ep U' f:=by simp[gb,List.getD,h]
def Y5 (N:Nat):gb [] N=replicate N []:=by
 apply iB (by simp[gb]);intro i h1 h;simp[gb,ep]
def č (U':List Un)(u:Un)(N:Nat):kj U' u 0 N=gb U' N:=by simp[kj,gb]
def ū (U':List Un)(u:Un)(f:Int):ep (U'++[u]) f=ep U' f++(if f∈u.aw then [(U'.length:Int)] else []):=by
 unfold ep;rw[length_append,r6,l5,Bd,oh];have h1:(List.range U'.length).filter (fun (i:Nat)=>decide (f∈(un (U'++[u]) i).aw))=(List.range U'.length).filter fun (i:Nat)=>decide (f∈(un U' i).aw):=GH fun i o=>by
  have o:=mem_range.1 o;have:un (U'++[u]) i=un U' i:=by unfold un;simp[List.getD,iX o]
  rw[this]
 have z:un (U'++[u]) (U'.length:Nat)=u:=by unfold un;simp[List.getD]
 rw[h1];congr 1;simp only[wg,GI];rw[z];by_cases h:f∈u.aw
 ·simp[h]
 simp[h]
def Đ (U':List Un)(u:Un)(N:Nat):kj U' u u.aw.length N=gb (U'++[u]) N:=by
 unfold kj gb;refine xN fun f _=>?_;rw[ū,kV]
def TN {U':List Un}{u:Un}{i N f:Nat}(h:f<N):(kj U' u i N).getD f []=ep U' f++(if (f:Int)∈u.aw.take i then [(U'.length:Int)] else []):=by simp[kj,List.getD,h]
def ď {U':List Un}{u:Un}{i N:Nat}(hi:i<u.aw.length)(L:u.aw.Nodup)(V:∀ n∈u.aw,0<=n/\n<N):(kj U' u i N).set (u.aw.getD i W.dflt).toNat ((kj U' u i N).getD (u.aw.getD i W.dflt).toNat []++[(U'.length:Int)])=kj U' u (i+1) N:=by
 have hm:=V _ (cH W.dflt hi);have z:u.aw.getD i W.dflt∉u.aw.take i:=by
  rw[am hi];intro h;obtain⟨j,K,he⟩:=fJ h;rw[jd]at K;rw[DG]at he
  exact absurd he (by
   have:=v8.1 L j i U hi U
   exact this)
 have F:u.aw.take (i+1)=u.aw.take i++[u.aw.getD i W.dflt]:=eC W.dflt hi;rw[TN U,aC (by rw[gA hm.1];exact z),fS];apply iB (by simp[kj]);intro j h1 h2;rw[si];have K:j<N:=by simpa [kj] using h2
 simp only[kj,mK,qZ];rw[F];split
 ·rename_i e
  subst e;rw[gA hm.1,aM sm]
 rename_i e;have e2:(j:Int)≠u.aw.getD i W.dflt:=fun h=>e (by rw[<-h];rfl);by_cases h:(j:Int)∈u.aw.take i
 ·rw[aM h,aM (xX _ h)]
 rw[aC h,aC (by simp only[gG,dp];exact fun hh=>hh.elim h e2)]
def TO (U':List Un)(f:Int):(ep U' f).length<=U'.length:=by
 unfold ep;rw[iz];exact pT (uC _ _) sm
def Ď (U':List Un)(u:Un)(i N f:Nat):((kj U' u i N).getD f []).length<=U'.length+1:=by
 by_cases h:f<N
 ·rw[TN h]
  have:=TO U' f;split<;>simp<;>omega
 simp[kj,List.getD,h]
def dW (U':List Un):J:=((List.range U'.length).filter fun (i:Nat)=>decide ((un U' i).aw=[])).map fun (i:Nat)=>(i:Int)
def Y6:dW []=[]:=by simp[dW]
def TP {U':List Un}{i:Int}:i∈dW U'↔∃ k:Nat,i=k/\k<U'.length/\(un U' k).aw=[]:=by
 unfold dW;simp only[iS,rV,mem_range,gQ];constructor
 ·rintro⟨k,⟨h1,h⟩,rfl⟩;exact⟨k,rfl,h1,h⟩
 rintro⟨k,rfl,h1,h⟩;exact⟨k,⟨h1,h⟩,rfl⟩
def SP (U':List Un):(dW U').length<=U'.length:=by
 unfold dW;rw[iz];exact pT (uC _ _) sm
def SQ (U':List Un)(u:Un):dW (U'++[u])=dW U'++(if u.aw=[] then [(U'.length:Int)] else []):=by
 unfold dW;rw[length_append,r6,l5,Bd,oh];have h1:(List.range U'.length).filter (fun (i:Nat)=>decide ((un (U'++[u]) i).aw=[]))=(List.range U'.length).filter fun (i:Nat)=>decide ((un U' i).aw=[]):=GH fun i o=>by
  have o:=mem_range.1 o;have:un (U'++[u]) i=un U' i:=by unfold un;simp[List.getD,iX o]
  rw[this]
 have z:un (U'++[u]) (U'.length:Nat)=u:=by unfold un;simp[List.getD]
 rw[h1];congr 1;simp only[wg,GI];rw[z];by_cases h:u.aw=[]
 ·simp[h]
 simp[h]
def Rj {U':List Un}{u:Un}{i:Nat}(h:i<U'.length):un (U'++[u]) i=un U' i:=by unfold un;simp[List.getD,iX h]
def Rm {U':List Un}{u:Un}:un (U'++[u]) (U'.length:Nat)=u:=by unfold un;simp[List.getD]
def ng (D:J)(g v:Int):J:=if v<dg D g then D.set g.toNat v else D
def rF (D:J)(Q:List cF)(g v:Int):List cF:=if v<dg D g then ⟨v,g⟩::Q else Q
def Mz (D:J)(Q:List cF)(g v:Int):(rF D Q g v).length<=Q.length+1:=by unfold rF;split<;>simp
def IA {D:J}{N:Nat}(o:D.length=N){g v:Int}(I:0<=g/\g<N){x:Int}(hx:0<=x):dg (D.set g.toNat v) x=if x=g then v else dg D x:=by
 unfold dg;by_cases e:x=g
 ·rw[aM e,e]
  have h:g.toNat<D.length:=U;simp[List.getD,h]
 rw[aC e];simp only[List.getD];rw[tn U]
def IB {D:J}{N:Nat}(o:D.length=N){g v:Int}(I:0<=g/\g<N){x:Int}(hx:0<=x):dg (ng D g v) x<=dg D x:=by
 unfold ng;split
 ·rw[IA o I hx]
  split
  ·rename_i h e;rw[e];omega
  exact dt _
 exact dt _
def MA {D:J}{N:Nat}(h:D.length=N){g v:Int}(I:0<=g/\g<N):dg (ng D g v) g<=v:=by
 unfold ng;split
 ·rw[IA h I I.1,aM rfl];exact dt _
 omega
def Ŭ {D:J}{N:Nat}(o:D.length=N){g v:Int}(I:0<=g/\g<N){x m:Int}(hx:0<=x)(hm:dg D x=m)(hv:m<=v):dg (ng D g v) x=m:=by
 unfold ng;split
 ·rw[IA o I hx]
  split
  ·rename_i h e;rw[<-e]at h;omega
  exact hm
 exact hm
structure vH (U':List Un) (S:Int->Prop) (N:Nat) (D:J) (Q:List cF):Prop where
 dl:D.length=N
 dK:∀ g:Int,0<=g->g<N->0<=dg D g/\dg D g<=bH
 qF:∀ g:Int,0<=g->g<N->dg D g<bH->jI U' S g (dg D g)
 oE:∀ g:Int,0<=g->g<N->dg D g<bH->∃ x∈Q,x.aP=g/\x.bT=dg D g
 nE:∀ x∈Q,(0<=x.aP/\x.aP<N)/\dg D x.aP<=x.bT/\0<=x.bT/\x.bT<bH
section
variable {U':List Un}{S:Int->Prop}{N:Nat}{D lf dn:J}{Q:List cF}{m f:Int}{ok:Nat->Prop}
def vH.cC (U':List Un)(S:Int->Prop)(N:Nat):vH U' S N (replicate N bH) []:=by
 have h:∀ g:Int,0<=g->g<N->dg (replicate N bH) g=bH:=fun g o h1=>by
  unfold dg;have:g.toNat<N:=U;simp[List.getD,zP,this]
 exact⟨sm,fun g o h1=>by rw[h g o h1];exact⟨dc,dt _⟩,fun g o h1 z=>by rw[h g o h1]at z;exact absurd z (G3 _),fun g o h1 z=>by rw[h g o h1]at z;exact absurd z (G3 _),fun x hx=>by simp at hx⟩
def vH.nK (h:vH U' S N D Q)(o:Q'.Perm Q):vH U' S N D Q' :=
 { h with
  oE:=fun g a b c=>let ⟨x,hx,z⟩:=h.oE g a b c;⟨x,o.mem_iff.2 hx,z⟩
  nE:=fun x hx=>h.nE x (o.mem_iff.1 hx) }
def vH.IC (h:vH U' S N D Q){g v:Int}(I:0<=g/\g<N)(hv:0<=v)(hd:jI U' S g v):vH U' S N (ng D g v) (rF D Q g v):=by
 unfold ng rF;by_cases z:v<dg D g
 ·rw[aM z,aM z]
  have hr:=h.dK g I.1 I.2;have o:∀ x:Int,0<=x->dg (D.set g.toNat v) x=if x=g then v else dg D x:=fun x hx=>IA h.dl I hx
  refine⟨by simp[h.dl],fun x F h1=>?_,fun x F h1 K=>?_,fun x F h1 K=>?_,fun x hx=>?_⟩
  ·rw[o x F];split
   ·exact⟨U,U⟩
   exact h.dK x F h1
  ·rw[o x F]at K ⊢
   split
   ·rename_i e;rw[e];exact hd
   rename_i e;rw[aC e]at K;exact h.qF x F h1 K
  ·rw[o x F]at K ⊢
   by_cases e:x=g
   ·exact⟨⟨v,g⟩,gz,e.symm,by rw[aM e]⟩
   rw[aC e]at K ⊢;obtain⟨y,L,V⟩:=h.oE x F h1 K;exact⟨y,iR _ L,V⟩
  rcases ee.1 hx with rfl|hx
  ·refine⟨I,?_,hv,by have:=hr.2;show v<bH;omega⟩
   rw[o _ I.1,aM rfl];exact dt _
  obtain⟨L,V,e3,e4⟩:=h.nE x hx;have h5:=o x.aP L.1;refine⟨L,?_,e3,e4⟩;rw[h5];split
  ·rename_i e;rw[e]at V;omega
  exact V
 rw[aC z,aC z];exact h
def vH.start (h:vH U' S N D Q)(L:lf.length=U'.length)(K:∀ i:Nat,i<U'.length->dg lf i=(un U' i).aw.length)(hc:∀ i:Nat,i<U'.length->0<=(un U' i).aN)(o:∀ i:Nat,i<U'.length->(un U' i).aw=[]->dg D (un U' i).aK<=(un U' i).aN):RI U' S N D lf [] Q 0 0 (fun _=>True):=by
 refine⟨h.dl,L,h.dK,h.qF,fun i F _=>by rw[K i F,Š],fun i F V=>absurd trivial V,fun i F _ hn k hk j'=>?_,fun g a b c _=>h.oE g a b c,h.nE,fun g I=>by simp at I,dt _,dc⟩;have z:(un U' i).aw=[]:=by
  cases hx:(un U' i).aw with
  | nil=>rfl
  | cons a l=>have:=hn a (by rw[hx];exact gz);simp at this
 have:=o i F z;omega
def RI.ID (h:RI U' S N D lf dn Q m f ok){ok':Nat->Prop}(hk:∀ i,ok i↔ok' i):RI U' S N D lf dn Q m f ok':=by
 have:ok=ok':=funext fun i=>propext (hk i);rw[<-this];exact h
def RI.IC (h:RI U' S N D lf dn Q m f ok){g v:Int}(I:0<=g/\g<N)(hm:m<=v)(z:jI U' S g v):RI U' S N (ng D g v) lf dn (rF D Q g v) m f ok:=by
 unfold ng rF;by_cases o:v<dg D g
 ·rw[aM o,aM o];exact h.reach I o hm z
 rw[aC o,aC o];exact h
end
def tB (dn:J)(N:Nat):List Bool:=(List.range N).map fun (g:Nat)=>decide ((g:Int)∈dn)
def ŭ (dn:J)(N:Nat):(tB dn N).length=N:=by simp[tB]
def Ů (N:Nat):tB [] N=replicate N false:=by
 apply iB (by simp[tB]);intro i h1 h;simp[tB]
def ů {dn:J}{N:Nat}{g:Int}(h:0<=g)(h1:g<N){d:Bool}:(tB dn N).getD g.toNat d=decide (g∈dn):=by
 have:g.toNat<N:=U;simp[tB,List.getD,this,gA h]
def Ű {dn:J}{N:Nat}{g:Int}(o:0<=g)(h1:g<N):(tB dn N).set g.toNat true=tB (g::dn) N:=by
 apply iB (by simp[tB]);intro i z h;have F:i<N:=by simpa [tB] using h
 rw[si];simp only[tB,mK,qZ];split
 ·rename_i e
  have:(i:Int)=g:=U;simp[this]
 rename_i e;have:(i:Int)≠g:=U;simp[this]
def IE:∀ {N:Nat}{l:J},l.Nodup->(∀ v∈l,0<=v/\v<(N:Int))->l.length<=N
 | 0,l,_,h=>by
  cases l with
  | nil=>exact cD _
  | cons a l=>have:=h a gz;omega
 | n+1,l,z,h=>by
  by_cases hm:(n:Int)∈l
  ·have h1:=IE (N:=n) (z.erase (n:Int)) fun v hv=>by
    have o:=(z.mem_erase_iff).1 hv;have:=h v o.2;have:=o.1;omega
   rw[DK hm]at h1;omega
  have:=IE (N:=n) z fun v hv=>by
   have:=h v hv;have:v≠(n:Int):=fun e=>hm (e ▸ hv);omega
  omega
def Bi {α:Type}{xs:List α}{k:Nat}(d:α)(hk:k<xs.length):xs.drop k=xs.getD k d::xs.drop (k+1):=by
 rw[am hk];exact wI hk
end
section
open Go.Sl Go
def gL:Ty da:=⟨2,fun f=>[E f.num,E f.den],fun _=>rfl,⟨0,0⟩⟩
instance Nx:kq gL:=⟨fun x v hv=>by simp only[gL,ee,fI,pP]at hv;rcases hv with rfl|rfl<;>rfl⟩
end
end Go.Proofs.YtmapkjoefdgjfaaGreatDoor
