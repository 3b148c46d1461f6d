/- Several texts. -/
import Derived.Test.YtmapkjoefdgjfaaGreatDoorMW13H
set_option linter.unusedSimpArgs false
set_option linter.unusedVariables false
set_option linter.defProp false
set_option maxRecDepth 8000
set_option maxHeartbeats 16000000
open List Nat
namespace Go.Proofs.YtmapkjoefdgjfaaGreatDoor
open Go.Sl
variable {i m n N j:Nat}{t:aa}{c b:List bY}{a:List (List bY)}{F:List (List Bool)}{S:e8}{C:List (List Int)}{R:List (List Bool × Int)}{r:List Bool}
section
open Go.Sl
structure vr where
 op:Nat
 aG:List bE
 aU:bE
def uk (t:aa)(k:Nat):List vr:=(List.range (t.M.getD k bz).aQ.length).map fun j=>⟨k,mP (t.M.getD k bz) j,wU (t.M.getD k bz) j⟩
def nA (t:aa):List vr:=(List.range t.M.length).flatMap (uk t)
def HG {u:vr}:u∈nA t↔∃ k j,k<t.M.length/\j<(t.M.getD k bz).aQ.length/\u=⟨k,mP (t.M.getD k bz) j,wU (t.M.getD k bz) j⟩:=by
 unfold nA uk
 grind
def vq (F:List (List Bool))(x:bE):Bool:=(F.getD x.var.toNat []).getD x.val.toNat false
def te (F:List (List Bool))(x:bE):List (List Bool):=F.set x.var.toNat ((F.getD x.var.toNat []).set x.val.toNat true)
def rW (F:List (List Bool)):Nat:=(F.map fun r=>r.countP fun b => !b).sum
def CU {vars:J}{f:bE}(h:bV vars f):0<=f.var/\f.var.toNat<vars.length/\0<=f.val/\f.val<vars.getD f.var.toNat W.dflt:=by
 obtain⟨h1,d,e,g⟩:=h;omega
structure vS (vars:J) (F:List (List Bool)):Prop where
 len:F.length=vars.length
 row:∀ v,v<vars.length->(F.getD v []).length=(vars.getD v W.dflt).toNat
def vS.set {vars:J}(h:vS vars F)(x:bE):vS vars (te F x):=by
 refine⟨by unfold te;rw[iU];exact h.len,fun v hv=>?_⟩;have d:=h.len;unfold te;by_cases e:x.var.toNat=v
 ·subst e
  rw[aq (by grind),DW,iU];exact h.row _ hv
 simp only[List.getD];rw[uO e];exact h.row v hv
def WF {vars:J}(h:vS vars F){x y:bE}(hx:bV vars x)(d:bV vars y):vq (te F x) y=if y=x then true else vq F y:=by
 obtain⟨g,f,k,l⟩:=CU hx;obtain⟨o,q,u,v⟩:=CU d;have z:=h.len;have A:=h.row _ f;unfold vq te;by_cases e:x.var.toNat=y.var.toNat
 ·have h1:(F.set x.var.toNat ((F.getD x.var.toNat []).set x.val.toNat true)).getD x.var.toNat []=(F.getD x.var.toNat []).set x.val.toNat true:=by
   rw[aq (by grind),DW]
  rw[<-e,h1];by_cases B:x.val.toNat=y.val.toNat
  ·have:y=x:=by
    cases x;cases y;simp only at *
    congr 1<;>omega
   grind
  grind
 grind
def vV:∀ {i:Nat},i<r.length->r.getD i false=false->(r.set i true).countP (fun b => !b)<r.countP (fun b => !b):=by
 grind
def qz0:∀ {i:Nat},i<F.length->r.countP (fun b => !b)<(F.getD i []).countP (fun b => !b)->rW (F.set i r)<rW F:=by
 unfold rW
 induction F with
 | nil=>grind
 | cons b F d =>
  intro i e f
  cases i with
  | zero =>
   grind
  | succ i =>
   grind
def A_ {vars:J}(h:vS vars F){x:bE}(hx:bV vars x)(d:vq F x=false):rW (te F x)<rW F:=by
 obtain⟨f,e,g,k⟩:=CU hx;have l:=h.len;have o:=h.row _ e;exact qz0 U (vV U d)
structure q8 (t:aa) (s:J) (w:bE) (F:List (List Bool)):Prop where
 zR:vS t.vars F
 Dh:∀ f,bV t.vars f->vq F f=true->tP t s w f
 st:∀ v:Nat,v<t.vars.length->vq F ⟨(v:Int),s.getD v W.dflt⟩=true
def mH (F:List (List Bool))(l:List bE):Bool:=l.all (vq F)
def q8.kg {t:aa}{s:J}{w:bE}{F:List (List Bool)}(h:q8 t s w F)(I:aJ t)(l:aj t.vars s){u:vr}(hu:u∈nA t)(Y:u.aU≠w)(o:mH F u.aG=true):q8 t s w (te F u.aU):=by
 obtain⟨k,j,hk,g,rfl⟩:=HG.1 hu;have hm:=NE I hk g;have q:tP t s w (wU (t.M.getD k bz) j):=.op hk g Y fun f d=>h.Dh f (Vk I hk g f d) (all_eq_true.1 o f d);refine⟨h.zR.set _,fun f d e=>?_,fun v hv=>?_⟩
 ·rw[WF h.zR hm d]at e
  split at e
  ·grind
  exact h.Dh f d e
 have d:bV t.vars ⟨(v:Int),s.getD v W.dflt⟩:=by
  have x:=l.1;have:=l.2 v U;exact⟨D0 v,by grind,this.1,by grind⟩
 rw[WF h.zR hm d];split
 ·rfl
 exact h.st v hv
def ui (t:aa)(w:bE)(F:List (List Bool))(i:Nat):Prop:=∀ u∈(nA t).take i,u.aU≠w->mH F u.aG=true->vq F u.aU=true
def q8.qE {s:J}{w:bE}(h:q8 t s w F)(e:ui t w F (nA t).length){f:bE}(d:bV t.vars f):vq F f=true↔tP t s w f:=by
 refine⟨h.Dh f d,fun g=>?_⟩;clear d
 induction g with
 | st hv=>exact h.st _ hv
 | @op k j hk l Y _ o =>
  exact e ⟨k,mP (t.M.getD k bz) j,wU (t.M.getD k bz) j⟩ (by rw[mK];exact HG.2 ⟨k,j,hk,l,rfl⟩) Y (all_eq_true.2 o)
def q8.has {s:J}{w:bE}(h:q8 t s w F)(g:ui t w F (nA t).length){l:List bE}(k:∀ f∈l,bV t.vars f):mH F l=true↔∀ f∈l,tP t s w f:=by
 unfold mH;rw[all_eq_true];exact⟨fun e f d=>(h.qE g (k f d)).1 (e f d),fun e f d=>(h.qE g (k f d)).2 (e f d)⟩
def OJ (f:Nat->Rat):∀ n,bH f (n+1)=f 0+bH (fun i=>f (i+1)) n
 | 0=>by show (0:Rat)+f 0=f 0+0;grind
 | n+1=>by
  have h:=OJ f n;show bH f (n+1)+f (n+1)=f 0+(bH (fun i=>f (i+1)) n+f (n+1))
  rw[h];grind
def qx (left:J):J->Int
 | []=>0
 | op::c=>c.foldl (fun m o=>min m (left.getD o.toNat W.dflt)) (left.getD op.toNat W.dflt)
def N1 {left:J}:∀ {c:J}{a:Int},c.foldl (fun m o=>min m (left.getD o.toNat W.dflt)) a<=a/\∀ o∈c,c.foldl (fun m o=>min m (left.getD o.toNat W.dflt)) a<=left.getD o.toNat W.dflt
 | [],a=>⟨iq _,fun o h=>absurd h jd⟩
 | x::c,a=>by
  obtain⟨h1,d⟩:=N1 (left:=left) (c:=c) (a:=min a (left.getD x.toNat W.dflt))
  grind
def N0 {left:J}(d:∀ x∈left,0<=x):∀ {c:J}{a:Int},0<=a->0<=c.foldl (fun m o=>min m (left.getD o.toNat W.dflt)) a
 | [],_,h=>h
 | x::c,a,h=>by
  rw[xe];refine N0 d (c:=c) ?_;have:0<=left.getD x.toNat W.dflt:=by
   by_cases e:x.toNat<left.length
   ·simp_all
   rw[List.getD,xS U];exact iq _
  omega
def qzD {left c:J}{o:Int}(h:o∈c):qx left c<=left.getD o.toNat W.dflt:=by
 cases c with
 | nil=>grind
 | cons x c =>
  obtain⟨h1,d⟩:=N1 (left:=left) (c:=c) (a:=left.getD x.toNat W.dflt);rcases gT.1 h with e|h
  ·rw[e];exact h1
  exact d o h
def VG {left c:J}(d:∀ x∈left,0<=x):0<=qx left c:=by
 cases c with
 | nil=>exact iq _
 | cons x c =>
  refine N0 d ?_;by_cases e:x.toNat<left.length
  ·simp_all
  rw[List.getD,xS U];exact iq _
def kW (left c:J)(m:Int):J:=(List.range left.length).map fun (i:Nat)=>if (i:Int)∈c then left.getD i W.dflt-m else left.getD i W.dflt
def AJ (left c:J)(m:Int):(kW left c m).length=left.length:=by simp[kW]
def CX {left c:J}{m:Int}(hi:i<left.length):(kW left c m).getD i W.dflt=if (i:Int)∈c then left.getD i W.dflt-m else left.getD i W.dflt:=by
 rw[aq (by rw[AJ];exact hi)];simp[kW]
def N2 {left c:J}(g:∀ x∈left,0<=x):∀ x∈kW left c (qx left c),0<=x:=fun x hx=>by
 obtain⟨i,f,rfl⟩:=ga hx;have e:i<left.length:=by rw[AJ]at f;exact f
 rw[<-aq (d:=W.dflt) f,CX e];have h1:=g _ (cS W.dflt e);split
 ·rename_i h
  have:=qzD (left:=left) h
  grind
 exact h1
def lD:J->List J->J
 | _,[]=>[]
 | left,c::C=>qx left c::lD (kW left c (qx left c)) C
def OK:∀ (C:List J) (left:J),(lD left C).length=C.length
 | [],_=>rfl
 | c::C,left=>by
  show (lD _ C).length+1=C.length+1;rw[OK C]
def WG:∀ (C:List J) {left:J},(∀ x∈left,0<=x)->∀ v∈lD left C,0<=v
 | [],_,_=>fun v h=>absurd h jd
 | c::C,left,h=>fun v hv=>by
  rcases gT.1 hv with e|hv
  ·rw[e];exact VG h
  exact WG C (N2 h) v hv
def WH:∀ (C:List J) {left:J},(∀ x∈left,0<=x)->∀ op:Nat,op<left.length->bH (fun i=>if (op:Int)∈C.getD i [] then (((lD left C).getD i 0:Int):Rat) else 0) C.length<=((left.getD op W.dflt:Int):Rat)
 | [],left,h,op,d=>by
  show (0:Rat)<=_;have:=h _ (cS W.dflt d)
  exact_mod_cast this
 | c::C,left,h,op,d=>by
  have f:=WH C (N2 (c:=c) h) op (by rw[AJ];exact d);rw[CX d]at f;rw[length_cons,OJ];have e:bH (fun i=>if (op:Int)∈(c::C).getD (i+1) [] then (((lD left (c::C)).getD (i+1) 0:Int):Rat) else 0) C.length=bH (fun i=>if (op:Int)∈C.getD i [] then (((lD (kW left c (qx left c)) C).getD i 0:Int):Rat) else 0) C.length:=oJ fun i _=>by
   rw[getD_cons_succ];rfl
  rw[e];show (if (op:Int)∈c then ((qx left c:Int):Rat) else 0)+_<=_;by_cases g:(op:Int)∈c
  ·rw[ba g]at f ⊢
   grind
  grind
def Xv (I:aJ t)(C:List J):j1 t C ((lD (ao t) C).map fun x=>((x:Int):Rat)):=by
 have d:∀ x∈ao t,0<=x:=fun x hx=>(zp I x hx).1;refine⟨by rw[lA,OK],fun x hx=>?_,fun op f=>?_⟩
 ·obtain⟨v,hv,rfl⟩:=iG.1 hx
  have:=WG C d v hv
  exact_mod_cast this
 have h1:=WH C d op (by rw[tC];exact f);rw[tD f]at h1;have e:bH (fun i=>if (op:Int)∈C.getD i [] then ((lD (ao t) C).map fun x=>((x:Int):Rat)).getD i 0 else 0) C.length=bH (fun i=>if (op:Int)∈C.getD i [] then (((lD (ao t) C).getD i 0:Int):Rat) else 0) C.length:=oJ fun i g=>by
  have h:i<(lD (ao t) C).length:=by rw[OK];exact g
  grind
 rw[e];exact h1
def gm (C:List J)(op:Nat):Nat:=C.countP fun c=>decide ((op:Int)∈c)
def qwm (C:List J)(op:Nat)(x:Rat):bH (fun i=>if (op:Int)∈C.getD i [] then x else 0) C.length=(gm C op:Rat)*x:=by
 induction C with
 | nil=>show (0:Rat)=((0:Nat):Rat)*x;grind
 | cons c C f =>
  rw[length_cons,OJ];have e:bH (fun i=>if (op:Int)∈(c::C).getD (i+1) [] then x else 0) C.length=bH (fun i=>if (op:Int)∈C.getD i [] then x else 0) C.length:=oJ fun i _=>by grind
  rw[e,f];show (if (op:Int)∈c then x else 0)+_=_;unfold gm;by_cases d:(op:Int)∈c
  ·rw[ba d,countP_cons_of_pos (by grind)]
   grind
  rw[aM d,countP_cons_of_neg (by grind)];grind
def Xr (I:aJ t){C:List J}{v:List Rat}(f:v.length=C.length)(g:∀ x∈v,0<=x)(k:∀ i,i<C.length->∀ op:Nat,op<t.M.length->(op:Int)∈C.getD i []->v.getD i 0<=((oF t op:Int):Rat) / (gm C op:Rat)):j1 t C v:=by
 refine⟨f,g,fun op h=>?_⟩;have l:(0:Rat)<=((oF t op:Int):Rat):=by have:=(x6 I h).1;exact_mod_cast this
 have h1:bH (fun i=>if (op:Int)∈C.getD i [] then v.getD i 0 else 0) C.length<=bH (fun i=>if (op:Int)∈C.getD i [] then ((oF t op:Int):Rat) / (gm C op:Rat) else 0) C.length:=NH fun i o=>by
  grind
 rw[qwm]at h1;by_cases d:gm C op=0
 ·rw[d]at h1
  grind
 have hm:(gm C op:Rat)≠0:=fun e=>d (by simp_all);have e:(gm C op:Rat)*(((oF t op:Int):Rat) / (gm C op:Rat))=((oF t op:Int):Rat):=by grind
 grind
def nO (m:Nat)(T:sP)(j:Nat):Rat:=bH (fun i=>if T.B i=j then T.b i else 0) m
def qzE {T:sP}(h:ij N m T)(d:0<N):zS N m T (nO m T):=by
 have:=(Oo h d 0).1;intro i e;rw[<-this i e];refine oJ fun j _=>?_;congr 1;unfold nO yu
 grind
def WI {T:sP}(h:ij N m T)(j:Nat):0<=nO m T j:=KA fun i d=>by
 split
 ·exact h.nn i d
 grind
def lS.Pm {T:Nat->sP}{r k:Nat->Nat}(h:lS N m n T r k)(d:0<N)(hi:i<m):bH (fun j=>(T 0).A i j*nO m (T n) j) N=(T 0).b i :=
 (h.J5 (cP n)).1 (qzE (h.ok (cP n)) d) i hi
def WJ (f:Nat->Rat)(n:Nat):∀ m,bH f (n+m)=bH f n+bH (fun i=>f (n+i)) m
 | 0=>by show bH f n=bH f n+0;grind
 | m+1=>by
  show bH f (n+m)+f (n+m)=bH f n+(bH (fun i=>f (n+i)) m+f (n+m))
  rw[WJ f n m];grind
def lS.rows {l:Nat}{T:Nat->sP}{r k:Nat->Nat}(h:lS (n+m) m l T r k)(d:0<n+m)(g:∀ i j,i<m->j<m->(T 0).A i (n+j)=if j=i then 1 else 0)(hi:i<m):bH (fun j=>(T 0).A i j*nO m (T l) j) n<=(T 0).b i:=by
 have h1:=h.Pm d hi;rw[WJ]at h1;have e:bH (fun j=>(T 0).A i (n+j)*nO m (T l) (n+j)) m=bH (fun j=>if j=i then nO m (T l) (n+j) else 0) m:=oJ fun j o=>by
  grind
 rw[e,EM (f:=fun j=>nO m (T l) (n+j)) hi]at h1;have:=WI (h.ok (cP l)) (n+i)
 grind
def qzF (I:aJ t){C:List J}{v:List Rat}(k:v.length=C.length)(l:∀ x∈v,0<=x)(o:∀ x∈R,bH (fun i=>if x.1.getD i false=true then v.getD i 0 else 0) C.length<=((x.2:Int):Rat))(q:∀ op:Nat,op<t.M.length->(∀ i,i<C.length->(op:Int)∉C.getD i [])\/∃ x∈R,(∀ i,i<C.length->(x.1.getD i false=true↔(op:Int)∈C.getD i []))/\x.2<=oF t op):j1 t C v:=by
 refine⟨k,l,fun op f=>?_⟩;have y:((oF t op:Int):Rat)=(((t.M.getD op bz).aT:Int):Rat):=rfl;have d:(0:Rat)<=((oF t op:Int):Rat):=by have:=(x6 I f).1;exact_mod_cast this
 rcases q op f with h1|⟨x,hx,h1,u⟩
 ·rw[oJ (g:=fun _=>0) fun i h=>aM (h1 i h),CS];exact d
 have z:=o x hx;have e:bH (fun i=>if (op:Int)∈C.getD i [] then v.getD i 0 else 0) C.length=bH (fun i=>if x.1.getD i false=true then v.getD i 0 else 0) C.length:=oJ fun i h=>by
  grind
 rw[e];have A:((x.2:Int):Rat)<=((oF t op:Int):Rat):=by exact_mod_cast u
 grind
end
section
def qq:Nat->List bY->Int
 | _,[] => -1
 | i,f::l=>if 0<f.num then (i:Int) else qq (i+1) l
def fF (S:e8):Int:=qq 0 S.aF
def GI (m:Nat)(S:e8):Prop:=0<=fF S/\(fY S (fF S).toNat m).1=0/\0<=(fY S (fF S).toNat m).2/\(nH S (fY S (fF S).toNat m).2.toNat (fF S).toNat).1=0
def pN (m:Nat)(S:e8):e8:=(nH S (fY S (fF S).toNat m).2.toNat (fF S).toNat).2
def kV (m:Nat):Nat->e8->Option (Int × e8)
 | 0,_=>none
 | n+1,S =>
  if fF S<0 then some (0,S)
  else if (fY S (fF S).toNat m).1≠0 then some ((fY S (fF S).toNat m).1,S)
  else if (fY S (fF S).toNat m).2<0 then some (3,S)
  else if (nH S (fY S (fF S).toNat m).2.toNat (fF S).toNat).1≠0 then some ((nH S (fY S (fF S).toNat m).2.toNat (fF S).toNat).1,S)
  else kV m n (pN m S)
def j7 (m:Nat):Nat->e8->e8
 | 0,S=>S
 | n+1,S=>j7 m n (pN m S)
def OL (m:Nat):∀ (n:Nat) (S:e8),j7 m (n+1) S=pN m (j7 m n S)
 | 0,_=>rfl
 | n+1,S=>OL m n (pN m S)
def WK:∀ {l:List bY}{i:Nat},qq i l<0/\(∀ j,j<l.length->¬0<(l.getD j dF).num)\/∃ k:Nat,qq i l=((i+k:Nat):Int)/\k<l.length/\0<(l.getD k dF).num/\∀ j,j<k->¬0<(l.getD j dF).num
 | [],i=>Or.inl ⟨(by decide:(-1:Int)<0),fun j d=>absurd d (not_lt_zero _)⟩
 | f::l,i=>by
  unfold qq;by_cases h:0<f.num
  ·rw[if_pos h]
   exact Or.inr ⟨0,rfl,by simp,h,fun j d=>absurd d (not_lt_zero _)⟩
  rw[if_neg h];rcases WK (l:=l) (i:=i+1) with ⟨h1,e⟩|⟨k,h1,e,g,o⟩
  ·grind
  refine Or.inr ⟨k+1,by omega,by grind,by grind,fun j d=>?_⟩
  cases j with
  | zero=>exact h
  | succ j=>grind
def Uo (d:iO N m S)(h:0<=fF S):(fF S).toNat<N/\0<(dm S).c (fF S).toNat/\∀ j,j<(fF S).toNat->(dm S).c j<=0:=by
 rcases WK (l:=S.aF) (i:=0) with ⟨h1,_⟩|⟨k,h1,v,f,g⟩
 ·exact absurd h (by unfold fF;omega)
 have e:(fF S).toNat=k:=by unfold fF;rw[h1];omega
 rw[e];have I:=d.gl;refine⟨by omega,(J7 (d.gp k (by omega))).1 f,fun j o=>?_⟩;have q:=g j o;have x:¬0<bb (S.aF.getD j dF):=fun u=>q ((J7 (d.gp j (by omega))).2 u);show bb (S.aF.getD j dF)<=0
 grind
def OM (d:iO N m S)(h:GI m S):iO N m (pN m S)/\yH N m (dm S) (fY S (fF S).toNat m).2.toNat (fF S).toNat/\dm (pN m S)=jN (dm S) (fY S (fF S).toNat m).2.toNat (fF S).toNat:=by
 obtain⟨h1,f,g,k⟩:=h;obtain⟨c1,c2,l⟩:=Uo d h1;obtain⟨e,o,q⟩:=Up (r:=(fY S (fF S).toNat m).2) d c1 (by rw[<-f]) g;obtain⟨u,v⟩:=Uq (S':=pN m S) d e c1 (by rw[<-k];rfl);exact⟨u,⟨c1,c2,l,e,o,q⟩,v⟩
def Ke {N m:Nat}{S:e8}(d:iO N m S):∀ {n:Nat},(∀ s,s<n->GI m (j7 m s S))->iO N m (j7 m n S)
 | 0,_=>d
 | n+1,h=>by
  rw[OL];exact(OM (Ke d (fun s e=>h s (by omega))) (h n (by omega))).1
def WL (g:iO N m S)(k:ij N m (dm S))(h:∀ s,s<n->GI m (j7 m s S)):lS N m n (fun s=>dm (j7 m s S)) (fun s=>(fY (j7 m s S) (fF (j7 m s S)).toNat m).2.toNat) (fun s=>(fF (j7 m s S)).toNat):=by
 refine⟨k,fun s d=>?_,fun s d=>?_⟩
 ·exact(OM (Ke g (n:=s) fun e f=>h e (by omega)) (h s d)).2.1
 show dm (j7 m (s+1) S)=_;rw[OL];exact(OM (Ke g (n:=s) fun e f=>h e (by omega)) (h s d)).2.2
def WM {m:Nat}:∀ {n:Nat}{S:e8},kV m n S=none->∀ s,s<n->GI m (j7 m s S)
 | 0,_,_,s,d=>absurd d (not_lt_zero s)
 | n+1,S,h,s,d=>by
  unfold kV at h;split at h
  ·grind
  rename_i h1;split at h
  ·grind
  rename_i e;split at h
  ·grind
  rename_i f;split at h
  ·grind
  rename_i g
  cases s with
  | zero=>exact⟨Int.not_lt.1 h1,Decidable.not_not.1 e,Int.not_lt.1 f,Decidable.not_not.1 g⟩
  | succ s=>exact WM h s (by omega)
def PM (d:iO N m S)(e:ij N m (dm S)):∃ x,kV m (N ^ m) S=some x:=by
 cases h:kV m (N ^ m) S with
 | some x=>grind
 | none=>exact absurd (WL d e (WM h)).wG (Nat.lt_irrefl _)
def WN {m:Nat}:∀ {n:Nat}{S S':e8},kV m n S=some (0,S')->∃ l,(∀ s,s<l->GI m (j7 m s S))/\S'=j7 m l S/\fF S'<0
 | 0,_,_,h=>by exact absurd h (by simp[kV])
 | n+1,S,S',h=>by
  unfold kV at h;split at h
  ·rename_i h1
   have e:S'=S:=(congrArg Prod.snd (Option.some.inj h)).symm;subst e;exact⟨0,fun s d=>absurd d (not_lt_zero s),rfl,h1⟩
  rename_i h1;split at h
  ·grind
  rename_i f;split at h
  ·grind
  rename_i g;split at h
  ·grind
  rename_i k;obtain⟨l,g1,g2,g3⟩:=WN h;refine⟨l+1,fun s d=>?_,g2,g3⟩
  cases s with
  | zero=>exact⟨Int.not_lt.1 h1,Decidable.not_not.1 f,Int.not_lt.1 g,Decidable.not_not.1 k⟩
  | succ s=>exact g1 s (by omega)
def qwJ {q:Nat}{S':e8}(d:iO (n+m) m S)(f:ij (n+m) m (dm S))(g:0<n+m)(k:∀ i j,i<m->j<m->(dm S).A i (n+j)=if j=i then 1 else 0)(h:kV m q S=some (0,S')):iO (n+m) m S'/\ij (n+m) m (dm S')/\∀ i,i<m->bH (fun j=>(dm S).A i j*nO m (dm S') j) n<=(dm S).b i:=by
 obtain⟨l,g1,g2,_⟩:=WN h;have e:=WL d f g1;subst g2;exact⟨Ke d g1,e.ok (Nat.le_refl _),fun i o=>e.rows g k o⟩
def jy:bY:=⟨0,1⟩
def tZ:bY:=⟨1,1⟩
def DA:ca jy:=by unfold jy ca;decide
def ON:ca tZ:=by unfold tZ ca;decide
def ET:bb jy=0:=by unfold bb jy;simp;grind
def WO:bb tZ=1:=by unfold bb tZ;simp;grind
def pL (m i:Nat):List bY:=(List.range m).map fun k=>if k=i then tZ else jy
def jt (c:List bY)(a:List (List bY))(b:List bY):e8 :=
 ⟨(List.range a.length).map fun i=>a.getD i []++pL a.length i,b,(List.range a.length).map fun (i:Nat)=>((c.length+i:Nat):Int),c++replicate a.length jy,jy⟩
structure kn (c:List bY) (a:List (List bY)) (b:List bY):Prop where
 ab:a.length=b.length
 ac:∀ r∈a,r.length=c.length
 cp:∀ f∈c,ca f
 ap:∀ r∈a,∀ f∈r,ca f
 bp:∀ f∈b,ca f
 bn:∀ f∈b,0<=f.num
def WP {α:Type}{f:Nat->α}{d:α}(h:i<n):((List.range n).map f).getD i d=f i:=by
 grind
def OO {α:Type}{l e:List α}{d:α}:(l++e).getD i d=if i<l.length then l.getD i d else e.getD (i-l.length) d:=by
 grind
def qA5 {f:bY}(h:ca f)(d:0<=f.num):0<=bb f:=by
 rcases Int.lt_or_eq_of_le d with h1|h1
 ·exact Rat.le_of_lt ((J7 h).1 h1)
 unfold bb;rw[<-h1];simp;grind
def qAg (hi:i<a.length):(jt c a b).rows.getD i []=a.getD i []++pL a.length i:=WP hi
def OP (h:kn c a b)(hi:i<a.length):((jt c a b).rows.getD i []).getD j dF=if j<c.length then (a.getD i []).getD j dF else (pL a.length i).getD (j-c.length) dF:=by
 rw[qAg hi,OO];have:(a.getD i []).length=c.length:=h.ac _ (by grind);rw[this]
def WQ (d:j<m):(pL m i).getD j dF=if j=i then tZ else jy:=WP d
def HD (h:kn c a b):iO (c.length+a.length) a.length (jt c a b):=by
 have e:∀ i,i<a.length->a.getD i []∈a:=fun i d=>by grind
 refine⟨by simp[jt],fun l g=>?_,h.ab.symm,by simp[jt],by simp[jt],fun i j d k=>?_,fun i d=>?_,fun j k=>?_,DA,fun i d=>?_⟩
 ·obtain⟨i,d,rfl⟩:=mem_map.1 g
  have d:=mem_range.1 d;rw[length_append,h.ac _ (e i d)];simp[pL]
 ·rw[OP h d]
  split
  ·rename_i f
   have hlen:=h.ac _ (e i d);have o:j<(a.getD i []).length:=by omega
   exact h.ap _ (e i d) _ (by grind)
  rw[WQ (by omega)];split
  ·exact ON
  exact DA
 ·have:i<b.length:=by have:=h.ab;omega
  exact h.bp _ (by show b.getD i dF∈b;grind)
 ·show ca ((c++replicate a.length jy).getD j dF)
  rw[OO];split
  ·rename_i f
   exact h.cp _ (by grind)
  rw[aq (by simp;omega),getElem_replicate];exact DA
 show 0<=((List.range a.length).map fun (i:Nat)=>((c.length+i:Nat):Int)).getD i 0
 grind
def wL (hi:i<a.length):(dm (jt c a b)).B i=c.length+i:=by
 show (((List.range a.length).map fun (i:Nat)=>((c.length+i:Nat):Int)).getD i 0).toNat=_
 grind
def OQ (h:kn c a b)(hi:i<a.length)(d:j<a.length):(dm (jt c a b)).A i (c.length+j)=if j=i then 1 else 0:=by
 show bb (((jt c a b).rows.getD i []).getD (c.length+j) dF)=_;rw[OP h hi,if_neg (by omega),WQ (by omega),show c.length+j-c.length=j by omega];split
 ·exact WO
 exact ET
def Kz (h:kn c a b):ij (c.length+a.length) a.length (dm (jt c a b)):=by
 refine⟨fun i d=>by rw[wL d];omega,fun i d=>by rw[wL d,OQ h d d,if_pos rfl],fun i k d hk f=>by rw[wL hk,OQ h d hk,if_neg (fun e=>f e.symm)],fun i d=>?_,fun i d=>?_⟩
 ·rw[wL d]
  show bb ((c++replicate a.length jy).getD (c.length+i) dF)=0;rw[OO,if_neg (by omega),aq (by simp;omega),getElem_replicate];exact ET
 show 0<=bb (b.getD i dF);have g:b.getD i dF∈b:=by rw[aq (by have:=h.ab;omega)];exact getElem_mem _
 exact qA5 (h.bp _ g) (h.bn _ g)
def Hl (h:kn c a b)(hi:i<a.length)(d:j<c.length):(dm (jt c a b)).A i j=bb ((a.getD i []).getD j dF):=by
 show bb (((jt c a b).rows.getD i []).getD j dF)=_;rw[OP h hi,if_pos d]
def kc (n:Nat):List Int->List bY->List bY->List bY
 | k::bW,f::right,x=>kc n bW right (if k<(n:Int) then x.set k.toNat f else x)
 | [],_,x=>x
 | _::_,[],x=>x
def OR {n:Nat}:∀ {B:List Int}{R x:List bY},(kc n B R x).length=x.length
 | [],_,_=>rfl
 | _::_,[],_=>rfl
 | k::B,f::R,x=>by
  unfold kc;rw[OR]
  grind
def WR {n j:Nat}(l:j<n):∀ {B:List Int}{R x:List bY},x.length=n->B.length=R.length->(∀ k∈B,0<=k)->B.Nodup->((j:Int)∉B->(kc n B R x).getD j dF=x.getD j dF)/\∀ i,i<B.length->B.getD i 0=(j:Int)->(kc n B R x).getD j dF=R.getD i dF
 | [],R,x,_,_,_,_=>⟨fun _=>rfl,fun i e=>absurd e (not_lt_zero _)⟩
 | _::_,[],_,_,g,_,_=>absurd g (by simp)
 | k::B,f::R,x,hx,g,h,o=>by
  obtain⟨d1,d2⟩:=nodup_cons.1 o;have d:(if k<(n:Int) then x.set k.toNat f else x).length=n:=by
   split
   ·grind
   exact hx
  obtain⟨g1,g2⟩:=WR l (B:=B) (R:=R) d (by grind) (fun k hk=>h k (mem_cons_of_mem _ hk)) d2;have q:=h k mem_cons_self;unfold kc;refine⟨fun hm=>?_,fun i e he=>?_⟩
  ·grind
  cases i with
  | zero =>
   grind
  | succ i=>grind
def qAh (h:iO N m S)(z:ij N m (dm S))(G:j<n):ca ((kc n S.bW S.right (replicate n jy)).getD j dF)/\bb ((kc n S.bW S.right (replicate n jy)).getD j dF)=nO m (dm S) j:=by
 have u:∀ k∈S.bW,0<=k:=fun k hk=>by
  obtain⟨i,f,rfl⟩:=getElem_of_mem hk;have:=h.an i (by rw[<-h.al];exact f)
  grind
 have H:=h.al;have v:∀ i,i<m->((dm S).B i:Int)=S.bW.getD i 0:=fun i f=>Int.toNat_of_nonneg (h.an i f);have K:S.bW.Nodup:=by
  refine pairwise_iff_getElem.2 fun i l f q o e=>?_;have h1:=v i (by omega);have d:=v l (by omega);rw[aq f]at h1;rw[aq q]at d;have y:((dm S).B i:Int)=((dm S).B l:Int):=by rw[h1,d,e]
  have:=z.inj (i:=i) (l:=l) (by omega) (by omega) (Int.ofNat.inj y);omega
 obtain⟨g1,g2⟩:=WR G (B:=S.bW) (R:=S.right) (x:=replicate n jy) (by simp) (by rw[h.al,h.bl]) u K;by_cases hm:(j:Int)∈S.bW
 ·obtain⟨i,f,e⟩:=getElem_of_mem hm
  have d:i<m:=by omega
  have A:S.bW.getD i 0=(j:Int):=by rw[aq f];exact e
  rw[g2 i f A];refine⟨h.bp i d,?_⟩;unfold nO;have y:(dm S).B i=j:=by have:=v i d;rw[A]at this;exact Int.ofNat.inj this
  rw[oJ (g:=fun l=>if l=i then (dm S).b l else 0) fun l q=>?_,EM d]
  ·rfl
  by_cases o:l=i
  ·grind
  rw[if_neg o,if_neg fun D=>o (z.inj q d (by rw[D,y]))]
 rw[g1 hm];have:(replicate n jy).getD j dF=jy:=by rw[aq (by grind),getElem_replicate]
 rw[this];refine⟨DA,?_⟩;rw[ET];unfold nO;rw[oJ (g:=fun _=>0) fun l q=>if_neg fun D=>hm ?_,CS]
 grind
def nz (C:List (List Int))(op:Nat):List Bool:=C.map fun c=>decide ((op:Int)∈c)
def mE (C:List (List Int)):Nat->List Int->List (List Bool × Int)
 | _,[]=>[]
 | i,c::l=>if true∈nz C i then (nz C i,c)::mE C (i+1) l else mE C (i+1) l
def gY (x:List Bool × Int)(i:Nat):Nat->List (List Bool × Int)->Bool
 | _,[]=>false
 | j,y::l=>decide (i≠j/\x.1=y.1/\(y.2<x.2\/(y.2=x.2/\j<i))) || gY x i (j+1) l
def iB (R:List (List Bool × Int)):Nat->List (List Bool × Int)->List (List Bool × Int)
 | _,[]=>[]
 | i,x::l=>if gY x i 0 R=true then iB R (i+1) l else x::iB R (i+1) l
def gn (d:List Int)(C:List (List Int)):List (List Bool × Int):=iB (mE C 0 d) 0 (mE C 0 d)
def Kf {C:List (List Int)}:∀ {l:List Int}{i:Nat}{x:List Bool × Int},x∈mE C i l↔∃ j,j<l.length/\true∈nz C (i+j)/\x=(nz C (i+j),l.getD j 0)
 | [],i,x=>by simp[mE]
 | c::l,i,x=>by
  have e:=Kf (C:=C) (l:=l) (i:=i+1) (x:=x);have d:∀ P:Nat->Prop,(∃ j,j<(c::l).length/\P j)↔(P 0\/∃ j,j<l.length/\P (j+1)):=fun P=>by
   constructor
   ·rintro⟨j,f,g⟩
    cases j with
    | zero=>grind
    | succ j=>grind
   grind
  rw[d fun j=>true∈nz C (i+j)/\x=(nz C (i+j),(c::l).getD j 0)];unfold mE
  grind
def WS {x:List Bool × Int}{i:Nat}:∀ {l:List (List Bool × Int)}{j:Nat},gY x i j l=true↔∃ q,q<l.length/\i≠j+q/\x.1=(l.getD q ([],0)).1/\((l.getD q ([],0)).2<x.2\/((l.getD q ([],0)).2=x.2/\j+q<i))
 | [],j=>by simp[gY]
 | y::l,j=>by
  have f:=WS (x:=x) (i:=i) (l:=l) (j:=j+1);unfold gY;rw[Bool.or_eq_true,f,decide_eq_true_iff];constructor
  ·rintro (h|⟨q,h1,g,d,e⟩)
   ·exact⟨0,by simp,h⟩
   exact⟨q+1,by grind,by omega,d,by grind⟩
  rintro⟨q,h1,g,d,e⟩
  cases q with
  | zero=>grind
  | succ q =>
   rw[getD_cons_succ]at d e
   grind
def OT {R:List (List Bool × Int)}:∀ {l:List (List Bool × Int)}{i:Nat}{x:List Bool × Int},x∈iB R i l↔∃ j,j<l.length/\gY (l.getD j ([],0)) (i+j) 0 R=false/\x=l.getD j ([],0)
 | [],i,x=>by simp[iB]
 | y::l,i,x=>by
  have g:=OT (R:=R) (l:=l) (i:=i+1) (x:=x);unfold iB;have h1:x∈(if gY y i 0 R=true then iB R (i+1) l else y::iB R (i+1) l)↔(gY y i 0 R=false/\x=y)\/x∈iB R (i+1) l:=by
   by_cases h:gY y i 0 R=true
   ·grind
   grind
  rw[h1,g];constructor
  ·rintro (⟨d,e⟩|⟨j,d,e,f⟩)
   ·exact⟨0,by simp,d,e⟩
   exact⟨j+1,by grind,by grind,f⟩
  rintro⟨j,d,e,f⟩
  cases j with
  | zero=>grind
  | succ j=>exact Or.inr ⟨j,by grind,by grind,f⟩
def qxs (e:∀ x∈R,0<=x.2):∀ (c i:Nat),i<R.length->((R.getD i ([],0)).2).toNat=c->∃ y∈iB R 0 R,y.1=(R.getD i ([],0)).1/\y.2<=(R.getD i ([],0)).2:=by
 intro c
 induction c using Nat.strongRecOn with
 | ind c f =>
  intro i
  induction i using Nat.strongRecOn with
  | ind i g =>
   intro h l;by_cases k:gY (R.getD i ([],0)) (0+i) 0 R=true
   ·obtain⟨q,h1,o,u,d⟩:=WS.1 k
    have hq:=e _ (cS ([],0) h1);rcases d with d|⟨d,v⟩
    ·grind
    grind
   exact⟨_,OT.2 ⟨i,h,by grind,rfl⟩,rfl,Int.le_refl _⟩
def quf {x:List Bool × Int}(h:x∈iB R 0 R):x∈R:=by
 obtain⟨j,h1,_,rfl⟩:=OT.1 h
 grind
def WT {op:Nat}(hi:i<C.length):(nz C op).getD i false=decide ((op:Int)∈C.getD i []):=by
 unfold nz
 grind
def gV (R:List (List Bool × Int)):List (List bY):=R.map fun x=>x.1.map fun b=>if b=true then tZ else jy
def jm (R:List (List Bool × Int)):List bY:=R.map fun x=>⟨x.2,1⟩
def iW (C:List (List Int)):List bY:=replicate C.length tZ
def PN (x:Int):bb ⟨x,1⟩=(x:Rat):=by unfold bb;simp;grind
def qAu {x:Int}(h:0<=x/\x<=1099511627776):ca ⟨x,1⟩:=⟨by grind,by grind,by grind,h.2,by simp_all⟩
def Gy {d:List Int}(e:∀ x∈d,0<=x/\x<=1048576){x:List Bool × Int}(h:x∈gn d C):x.1.length=C.length/\0<=x.2/\x.2<=1048576:=by
 obtain⟨j,h1,_,rfl⟩:=Kf.1 (quf h);have:=e _ (cS 0 h1);exact⟨by simp[nz],this.1,this.2⟩
def Ky {d:List Int}(g:∀ x∈d,0<=x/\x<=1048576):kn (iW C) (gV (gn d C)) (jm (gn d C)):=by
 refine⟨by simp[gV,jm],fun r h=>?_,fun f e=>?_,fun r h f e=>?_,fun f e=>?_,fun f e=>?_⟩
 ·obtain⟨x,hx,rfl⟩:=mem_map.1 h
  rw[length_map,(Gy g hx).1];simp[iW]
 ·rw[(mem_replicate.1 e).2];exact ON
 ·obtain⟨x,_,rfl⟩:=mem_map.1 h
  obtain⟨b,_,rfl⟩:=mem_map.1 e;split
  ·exact ON
  exact DA
 ·obtain⟨x,hx,rfl⟩:=mem_map.1 e
  have:=Gy g hx;exact qAu ⟨this.2.1,by omega⟩
 obtain⟨x,hx,rfl⟩:=mem_map.1 e;exact(Gy g hx).2.1
def Xt (I:aJ t)(K:∀ x∈ao t,0<=x/\x<=1048576){q:Nat}{S':e8}(h:kV (gn (ao t) C).length q (jt (iW C) (gV (gn (ao t) C)) (jm (gn (ao t) C)))=some (0,S')):j1 t C ((kc C.length S'.bW S'.right (replicate C.length jy)).map bb):=by
 obtain⟨R,G⟩:∃ R,R=gn (ao t) C:=⟨_,rfl⟩
 have f:kn (iW C) (gV R) (jm R):=by rw[G];exact Ky K
 rw[<-G]at h;have Q:(gV R).length=R.length:=by simp[gV]
 have T:(iW C).length=C.length:=by simp[iW]
 rw[<-Q]at h;by_cases V:C.length=0
 ·have:C=[]:=length_eq_zero_iff.1 V
  subst this;have k:((kc ([]:List (List Int)).length S'.bW S'.right (replicate ([]:List (List Int)).length jy)).map bb)=[]:=by
   apply length_eq_zero_iff.1;rw[length_map,OR];rfl
  rw[k];refine⟨rfl,fun x hx=>absurd hx not_mem_nil,fun op D=>?_⟩;show (0:Rat)<=_;have:=(x6 I D).1
  exact_mod_cast this
 obtain⟨hS,L,o⟩:=qwJ (n:=(iW C).length) (m:=(gV R).length) (HD f) (Kz f) (by omega) (fun i j k u=>OQ f k u) h;obtain⟨x,hx⟩:∃ x,x=kc C.length S'.bW S'.right (replicate C.length jy):=⟨_,rfl⟩
 rw[<-hx];have j':x.length=C.length:=by rw[hx,OR];simp
 have z:∀ j,j<C.length->(x.map bb).getD j 0=nO (gV R).length (dm S') j:=fun j u=>by
  rw[aq (by grind),getElem_map,<-aq (d:=dF) (by omega),hx];exact(qAh hS L u).2
 refine qzF I (R:=R) (by grind) (fun v hv=>?_) (fun y hy=>?_) (fun op D=>?_)
 ·obtain⟨j,u,rfl⟩:=getElem_of_mem hv
  rw[<-aq (d:=0) u,z j (by grind)];exact WI L j
 ·obtain⟨i,k,rfl⟩:=getElem_of_mem hy
  have h1:=o i (by omega);rw[T]at h1;have B:(dm (jt (iW C) (gV R) (jm R))).b i=((R[i].2:Int):Rat):=by
   show bb ((jm R).getD i dF)=_;rw[aq (by simpa [jm] using k)];unfold jm;rw[getElem_map,PN]
  rw[B]at h1;rw[oJ (g:=fun j=>(dm (jt (iW C) (gV R) (jm R))).A i j*nO (gV R).length (dm S') j) fun j u=>?_]
  ·exact h1
  rw[Hl f (by omega) (by omega),z j u];have P:R[i].1.length=C.length:=by
   have:=Gy (x:=R[i]) (C:=C) K (by grind);exact this.1
  have H:((gV R).getD i []).getD j dF=if R[i].1.getD j false=true then tZ else jy:=by
   unfold gV;rw[aq (l:=R.map _) (by grind),getElem_map,aq (by grind),getElem_map,<-aq (d:=false) (by omega)]
  rw[H];split
  ·rw[WO];grind
  rw[ET];grind
 by_cases H:true∈nz C op
 ·have B:(nz C op,(ao t).getD op 0)∈mE C 0 (ao t):=Kf.2 ⟨op,by rw[tC];exact D,by grind,by grind⟩
  obtain⟨i,k,e⟩:=getElem_of_mem B
  obtain⟨y,y1,P,y3⟩:=qxs (R:=mE C 0 (ao t)) (fun x hx=>by
   obtain⟨j,h1,_,rfl⟩:=Kf.1 hx
   simp_all) _ i k rfl
  rw[aq k,e]at P y3;refine Or.inr ⟨y,by rw[G];exact y1,fun i k=>?_,?_⟩
  ·rw[P]
   show (nz C op).getD i false=true↔_;rw[WT k,decide_eq_true_iff]
  have e3:(ao t).getD op 0=oF t op:=tD D;omega
 refine Or.inl fun i k hm=>H ?_;have:=WT (op:=op) k
 grind
end
section
open Go.Sl
def nN (n v:Nat):List bE:=(List.range n).map fun (x:Nat)=>⟨(v:Int),(x:Int)⟩
def ki (vars:J):List bE:=(List.range vars.length).flatMap fun v=>nN (vars.getD v W.dflt).toNat v
def ub (t:aa)(s:J)(w:bE):Prop:=∀ g∈t.aF,tP t s w g
open Classical in
noncomputable def sD (t:aa)(s:J)(f:bE):Bool:=decide (s.getD f.var.toNat W.dflt≠f.val/\¬ub t s f)
noncomputable def dK (t:aa)(s:J):List bE:=(ki t.vars).filter (sD t s)
open Classical in
noncomputable def tQ (t:aa)(s:J)(f:bE)(u:vr):Bool:=decide (u.aU=f/\∀ n∈u.aG,tP t s f n)
noncomputable def sS (t:aa)(s:J)(f:bE):J:=dZ (((nA t).filter (tQ t s f)).map fun u=>(u.op:Int))
noncomputable def gq (t:aa)(s:J):List bE->List J->List J
 | [],out=>out
 | f::l,out=>if sS t s f∈out then gq t s l out else gq t s l (out++[sS t s f])
def vR (n:Nat)(c:J)(i:Nat):Prop:=0<=c.getD i W.dflt/\c.getD i W.dflt<n/\(0<i->c.getD (i-1) W.dflt<c.getD i W.dflt)
instance Xm (n:Nat) (c:J) (i:Nat):Decidable (vR n c i):=by unfold vR;infer_instance
def lw (n:Nat)(c:J):Prop:=∀ i,i<c.length->vR n c i
instance PG (n:Nat) (c:J):Decidable (lw n c):=by unfold lw;infer_instance
def th (n:Nat):List J->Int
 | []=>0
 | c::C=>if c=[] then 3 else if lw n c then th n C else 2
def na (n:Nat)(C:List J):Int:=if 24<C.length then 5 else th n C
def WU {n:Nat}:∀ {C:List J},th n C=0->∀ c∈C,c≠[]/\lw n c
 | [],_,c,e=>absurd e jd
 | d::C,h,c,e=>by
  unfold th at h;split at h
  ·omega
  rename_i h1;split at h
  ·rename_i f
   rcases gT.1 e with rfl|e
   ·grind
   exact WU h c e
  omega
def HC {C:List J}(h:na n C=0):C.length<=24/\∀ c∈C,c≠[]/\lw n c:=by
 unfold na at h;split at h
 ·omega
 rename_i h1;exact⟨U,WU h⟩
def Rg {c:J}(h:lw n c):∀ i j,i<j->j<c.length->c.getD i W.dflt<c.getD j W.dflt:=by
 intro i j d
 induction j with
 | zero=>omega
 | succ j f =>
  intro e;have h1:=(h (j+1) e).2.2 (Fz _)
  grind
def Xq {c:J}(h:lw n c):∀ x∈c,0<=x/\x<n:=fun x hx=>by
 obtain⟨i,d,rfl⟩:=ga hx;have:=h i d;rw[vR,aq d]at this;omega
def xJ (x:Int):bY:=⟨x,1⟩
def gM (n:Nat)(C:List J):J:=(List.range n).map fun op=>((gm C op:Nat):Int)
def mA (d many:J):Nat->bY->J->Int × bY
 | _,cM,[]=>(0,cM)
 | i,cM,op::l =>
  if (nC (d.getD op.toNat W.dflt) (many.getD op.toNat W.dflt)).1=0 then
   mA d many (i+1) (if i=0\/lT (nC (d.getD op.toNat W.dflt) (many.getD op.toNat W.dflt)).2 cM<0 then (nC (d.getD op.toNat W.dflt) (many.getD op.toNat W.dflt)).2 else cM) l
  else ((nC (d.getD op.toNat W.dflt) (many.getD op.toNat W.dflt)).1,cM)
def pZ (d many:J):List bY->List J->Int × List bY
 | out,[]=>(0,out)
 | out,c::C=>if (mA d many 0 dF c).1=0 then pZ d many (out++[(mA d many 0 dF c).2]) C else ((mA d many 0 dF c).1,[])
def kw (c:List bY)(a:List (List bY))(b:List bY):Int × List bY :=
 if 24<a.length then (5,[]) else
 match kV a.length ((c.length+a.length) ^ a.length) (jt c a b) with
 | some (x,S)=>if x=0 then (0,kc c.length S.bW S.right (replicate c.length jy)) else (x,[])
 | none=>(0,[])
def fJ (kind:Int)(d:J)(C:List J):Int × List bY :=
 if na d.length C=0 then
  (if kind=1 then (0,(lD d C).map xJ)
  else if kind=2 then pZ d (gM d.length C) [] C
  else kw (iW C) (gV (gn d C)) (jm (gn d C)))
 else (na d.length C,[])
def xl (l:List bY):Int × Int:=if (nD ⟨0,1⟩ l).1=0 then (0,mO (nD ⟨0,1⟩ l).2) else ((nD ⟨0,1⟩ l).1,0)
def uI (kind:Int)(d:J)(C:List J):Int × Int:=if (fJ kind d C).1=0 then xl (fJ kind d C).2 else ((fJ kind d C).1,0)
open Classical in
noncomputable def sT (t:aa)(s:J)(kind:Int):Int × Int :=
 if ub t s ⟨-1,-1⟩ then
  (if (uI kind (ao t) ((gq t s (dK t s) []).take 24)).1=5 then uI 1 (ao t) ((gq t s (dK t s) []).take 24) else uI kind (ao t) ((gq t s (dK t s) []).take 24))
 else (0,bZ)
noncomputable def gC (t:aa)(kind:Int)(s:J):Int:=if (sT t s kind).1=0 then (sT t s kind).2 else 0
end
end Go.Proofs.YtmapkjoefdgjfaaGreatDoor
