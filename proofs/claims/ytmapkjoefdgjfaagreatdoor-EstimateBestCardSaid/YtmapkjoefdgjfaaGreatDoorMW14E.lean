/- Several texts. -/
import Derived.Test.YtmapkjoefdgjfaaGreatDoorMW13E
set_option linter.unusedSimpArgs false
set_option linter.unusedVariables false
set_option linter.defProp false
set_option maxRecDepth 8000
set_option maxHeartbeats 16000000
open List Nat
namespace Go.Proofs.YtmapkjoefdgjfaaGreatDoor
open Go.Sl
variable {F:List (List Bool)}{c:J}{t:aa}{n:Nat}{r:List Bool}
section
open Go.Sl
structure tS where
 op:Nat
 aw:List bp
 aK:bp
def sO (t:aa)(k:Nat):List tS:=(List.range (t.M.getD k bj).aJ.length).map fun j=>⟨k,lC (t.M.getD k bj) j,vq (t.M.getD k bj) j⟩
def l6 (t:aa):List tS:=(List.range t.M.length).flatMap (sO t)
def FT {u:tS}:u∈l6 t↔∃ k j,k<t.M.length/\j<(t.M.getD k bj).aJ.length/\u=⟨k,lC (t.M.getD k bj) j,vq (t.M.getD k bj) j⟩:=by
 unfold l6 sO;rw[tE];constructor
 ·rintro⟨k,hk,h⟩
  obtain⟨j,a,rfl⟩:=iS.1 h;exact⟨k,j,mem_range.1 hk,mem_range.1 a,rfl⟩
 rintro⟨k,j,hk,a,rfl⟩;exact⟨k,mem_range.2 hk,iS.2 ⟨j,mem_range.2 a,rfl⟩⟩
def tR (F:List (List Bool))(x:bp):Bool:=(F.getD x.var.toNat []).getD x.val.toNat false
def rC (F:List (List Bool))(x:bp):List (List Bool):=F.set x.var.toNat ((F.getD x.var.toNat []).set x.val.toNat true)
def qq (F:List (List Bool)):Nat:=(F.map fun r=>r.countP fun b => !b).sum
def BD {vars:J}{f:bp}(h:bN vars f):0<=f.var/\f.var.toNat<vars.length/\0<=f.val/\f.val<vars.getD f.var.toNat W.dflt:=by
 obtain⟨h1,d,a,b⟩:=h;exact⟨h1,U,a,b⟩
structure ur (vars:J) (F:List (List Bool)):Prop where
 len:F.length=vars.length
 row:∀ v,v<vars.length->(F.getD v []).length=(vars.getD v W.dflt).toNat
def ur.set {vars:J}(h:ur vars F)(x:bp):ur vars (rC F x):=by
 refine⟨by unfold rC;rw[gY];exact h.len,fun v hv=>?_⟩;have a:=h.len;unfold rC;by_cases e:x.var.toNat=v
 ·subst e
  rw[am (by rw[gY];omega),DV,gY];exact h.row _ hv
 simp only[List.getD];rw[tn e];exact h.row v hv
def T0 {vars:J}(h:ur vars F){x y:bp}(hx:bN vars x)(d:bN vars y):tR (rC F x) y=if y=x then true else tR F y:=by
 obtain⟨g,f,i,j⟩:=BD hx;obtain⟨k,l,m,o⟩:=BD d;have q:=h.len;have u:=h.row _ f;unfold tR rC;by_cases e:x.var.toNat=y.var.toNat
 ·have h1:(F.set x.var.toNat ((F.getD x.var.toNat []).set x.val.toNat true)).getD x.var.toNat []=(F.getD x.var.toNat []).set x.val.toNat true:=by
   rw[am (by rw[gY];omega),DV]
  rw[<-e,h1];by_cases a:x.val.toNat=y.val.toNat
  ·have:y=x:=by
    cases x;cases y;simp only at *
    congr 1<;>omega
   rw[aM this,<-a,am (by rw[gY];omega),DV]
  have:y≠x:=fun b=>a (by rw[b]);rw[aC this];simp only[List.getD];rw[tn a]
 have:y≠x:=fun b=>e (by rw[b]);rw[aC this];simp only[List.getD];rw[tn e]
def uz:∀ {i:Nat},i<r.length->r.getD i false=false->(r.set i true).countP (fun b => !b)<r.countP (fun b => !b):=by
 induction r with
 | nil=>intro i a;exact absurd a (dr _)
 | cons b r e =>
  intro i a d
  cases i with
  | zero =>
   have:b=false:=d;subst this
   simp[List.set]
  | succ i =>
   have:=e (i:=i) (by simpa using a) (by simpa [getD_cons_succ] using d);simp only[List.set,DW];omega
def ι:∀ {i:Nat},i<F.length->r.countP (fun b => !b)<(F.getD i []).countP (fun b => !b)->qq (F.set i r)<qq F:=by
 unfold qq
 induction F with
 | nil=>intro i a;exact absurd a (dr _)
 | cons b F e =>
  intro i a d
  cases i with
  | zero =>
   have f:r.countP (fun b => !b)<b.countP (fun b => !b):=d;simp only[List.set,l8,yI]
   omega
  | succ i =>
   have:=e (i:=i) (by simpa using a) (by simpa [getD_cons_succ] using d);simp only[List.set,l8,yI];omega
def ă {vars:J}(h:ur vars F){x:bp}(hx:bN vars x)(a:tR F x=false):qq (rC F x)<qq F:=by
 obtain⟨d,b,e,f⟩:=BD hx;have g:=h.len;have i:=h.row _ b;exact ι U (uz U a)
structure oU (t:aa) (s:J) (w:bp) (F:List (List Bool)):Prop where
 yk:ur t.vars F
 BY:∀ f,bN t.vars f->tR F f=true->sa t s w f
 st:∀ v:Nat,v<t.vars.length->tR F ⟨(v:Int),s.getD v W.dflt⟩=true
def lp (F:List (List Bool))(l:List bp):Bool:=l.all (tR F)
def oU.iJ {t:aa}{s:J}{w:bp}{F:List (List Bool)}(h:oU t s w F)(I:aG t)(g:ab t.vars s){u:tS}(hu:u∈l6 t)(Y:u.aK≠w)(i:lp F u.aw=true):oU t s w (rC F u.aK):=by
 obtain⟨k,j,hk,d,rfl⟩:=FT.1 hu;have hm:=LM I hk d;have l:sa t s w (vq (t.M.getD k bj) j):=.op hk d Y fun f a=>h.BY f (SH I hk d f a) (all_eq_true.1 i f a);refine⟨h.yk.set _,fun f a b=>?_,fun v hv=>?_⟩
 ·rw[T0 h.yk hm a]at b
  split at b
  ·rename_i e;rw[e];exact l
  exact h.BY f a b
 have a:bN t.vars ⟨(v:Int),s.getD v W.dflt⟩:=by
  have m:=g.1;have:=g.2 v U;exact⟨Cy v,by show (v:Int)<t.vars.length;omega,this.1,by show s.getD v W.dflt<t.vars.getD (v:Int).toNat W.dflt;rw[jo];exact this.2⟩
 rw[T0 h.yk hm a];split
 ·rfl
 exact h.st v hv
def sM (t:aa)(w:bp)(F:List (List Bool))(i:Nat):Prop:=∀ u∈(l6 t).take i,u.aK≠w->lp F u.aw=true->tR F u.aK=true
def oU.pQ {s:J}{w:bp}(h:oU t s w F)(b:sM t w F (l6 t).length){f:bp}(a:bN t.vars f):tR F f=true↔sa t s w f:=by
 refine⟨h.BY f a,fun d=>?_⟩;clear a
 induction d with
 | st hv=>exact h.st _ hv
 | @op k j hk e Y _ g =>
  exact b ⟨k,lC (t.M.getD k bj) j,vq (t.M.getD k bj) j⟩ (by rw[kV];exact FT.2 ⟨k,j,hk,e,rfl⟩) Y (all_eq_true.2 g)
def oU.has {s:J}{w:bp}(h:oU t s w F)(d:sM t w F (l6 t).length){l:List bp}(e:∀ f∈l,bN t.vars f):lp F l=true↔∀ f∈l,sa t s w f:=by
 unfold lp;rw[all_eq_true];exact⟨fun b f a=>(h.pQ d (e f a)).1 (b f a),fun b f a=>(h.pQ d (e f a)).2 (b f a)⟩
def MF (f:Nat->Rat):∀ n,dx f (n+1)=f 0+dx (fun i=>f (i+1)) n
 | 0=>by show (0:Rat)+f 0=f 0+0;grind
 | n+1=>by
  have h:=MF f n;show dx f (n+1)+f (n+1)=f 0+(dx (fun i=>f (i+1)) n+f (n+1))
  rw[h];grind
def nT (left:J):J->Int
 | []=>0
 | op::c=>c.foldl (fun m o=>min m (left.getD o.toNat W.dflt)) (left.getD op.toNat W.dflt)
def Mb {left:J}:∀ {c:J}{a:Int},c.foldl (fun m o=>min m (left.getD o.toNat W.dflt)) a<=a/\∀ o∈c,c.foldl (fun m o=>min m (left.getD o.toNat W.dflt)) a<=left.getD o.toNat W.dflt
 | [],a=>⟨dt _,fun o h=>absurd h fI⟩
 | x::c,a=>by
  obtain⟨h1,d⟩:=Mb (left:=left) (c:=c) (a:=min a (left.getD x.toNat W.dflt));have f:=Int.min_le_left a (left.getD x.toNat W.dflt);have g:=Int.min_le_right a (left.getD x.toNat W.dflt);rw[sy];refine⟨U,fun o b=>?_⟩;rcases ee.1 b with e|b
  ·rw[e];omega
  exact d o b
def Ma {left:J}(b:∀ x∈left,0<=x):∀ {c:J}{a:Int},0<=a->0<=c.foldl (fun m o=>min m (left.getD o.toNat W.dflt)) a
 | [],_,h=>h
 | x::c,a,h=>by
  rw[sy];refine Ma b (c:=c) ?_;have:0<=left.getD x.toNat W.dflt:=by
   by_cases d:x.toNat<left.length
   ·exact b _ (cH W.dflt d)
   rw[List.getD,uK U];exact dt _
  omega
def ν {left:J}{o:Int}(h:o∈c):nT left c<=left.getD o.toNat W.dflt:=by
 cases c with
 | nil=>exact absurd h fI
 | cons x c =>
  obtain⟨h1,b⟩:=Mb (left:=left) (c:=c) (a:=left.getD x.toNat W.dflt);rcases ee.1 h with e|h
  ·rw[e];exact h1
  exact b o h
def Tb {left:J}(a:∀ x∈left,0<=x):0<=nT left c:=by
 cases c with
 | nil=>exact dt _
 | cons x c =>
  refine Ma a ?_;by_cases b:x.toNat<left.length
  ·exact a _ (cH W.dflt b)
  rw[List.getD,uK U];exact dt _
def jW (left c:J)(m:Int):J:=(List.range left.length).map fun (i:Nat)=>if (i:Int)∈c then left.getD i W.dflt-m else left.getD i W.dflt
def y8 (left c:J)(m:Int):(jW left c m).length=left.length:=by simp[jW]
def BG {left:J}{m:Int}{i:Nat}(hi:i<left.length):(jW left c m).getD i W.dflt=if (i:Int)∈c then left.getD i W.dflt-m else left.getD i W.dflt:=by
 rw[am (by rw[y8];exact hi)];simp[jW]
def Mc {left:J}(e:∀ x∈left,0<=x):∀ x∈jW left c (nT left c),0<=x:=fun x hx=>by
 obtain⟨i,b,rfl⟩:=fJ hx;have a:i<left.length:=by rw[y8]at b;exact b
 rw[<-am (d:=W.dflt) b,BG a];have h1:=e _ (cH W.dflt a);split
 ·rename_i h
  have:=ν (left:=left) h;rw[jo]at this;omega
 exact h1
def jr:J->List J->J
 | _,[]=>[]
 | left,c::C=>nT left c::jr (jW left c (nT left c)) C
def MG:∀ (C:List J) (left:J),(jr left C).length=C.length
 | [],_=>rfl
 | c::C,left=>by
  show (jr _ C).length+1=C.length+1;rw[MG C]
def T1:∀ (C:List J) {left:J},(∀ x∈left,0<=x)->∀ v∈jr left C,0<=v
 | [],_,_=>fun v h=>absurd h fI
 | c::C,left,h=>fun v hv=>by
  rcases ee.1 hv with e|hv
  ·rw[e];exact Tb h
  exact T1 C (Mc h) v hv
def T2:∀ (C:List J) {left:J},(∀ x∈left,0<=x)->∀ op:Nat,op<left.length->dx (fun i=>if (op:Int)∈C.getD i [] then (((jr left C).getD i 0:Int):Rat) else 0) C.length<=((left.getD op W.dflt:Int):Rat)
 | [],left,h,op,a=>by
  show (0:Rat)<=_;have:=h _ (cH W.dflt a)
  exact_mod_cast this
 | c::C,left,h,op,a=>by
  have b:=T2 C (Mc (c:=c) h) op (by rw[y8];exact a);rw[BG a]at b;rw[length_cons,MF];have e:dx (fun i=>if (op:Int)∈(c::C).getD (i+1) [] then (((jr left (c::C)).getD (i+1) 0:Int):Rat) else 0) C.length=dx (fun i=>if (op:Int)∈C.getD i [] then (((jr (jW left c (nT left c)) C).getD i 0:Int):Rat) else 0) C.length:=AZ fun i _=>by
   rw[getD_cons_succ];rfl
  rw[e];show (if (op:Int)∈c then ((nT left c:Int):Rat) else 0)+_<=_;by_cases d:(op:Int)∈c
  ·rw[aM d]at b ⊢
   rw[Rat.intCast_sub]at b
   grind
  rw[aC d]at b ⊢
  grind
def UG (I:aG t)(C:List J):kF t C ((jr (ar t) C).map fun x=>((x:Int):Rat)):=by
 have a:∀ x∈ar t,0<=x:=fun x hx=>(Cc I x hx).1;refine⟨by rw[iz,MG],fun x hx=>?_,fun op d=>?_⟩
 ·obtain⟨v,hv,rfl⟩:=iS.1 hx
  have:=T1 C a v hv
  exact_mod_cast this
 have h1:=T2 C a op (by rw[uA];exact d);rw[vZ d]at h1;have e:dx (fun i=>if (op:Int)∈C.getD i [] then ((jr (ar t) C).map fun x=>((x:Int):Rat)).getD i 0 else 0) C.length=dx (fun i=>if (op:Int)∈C.getD i [] then (((jr (ar t) C).getD i 0:Int):Rat) else 0) C.length:=AZ fun i f=>by
  have b:i<(jr (ar t) C).length:=by rw[MG];exact f
  have g:((jr (ar t) C).map fun x=>((x:Int):Rat)).getD i 0=(((jr (ar t) C).getD i 0:Int):Rat):=by
   rw[am (by rw[iz];exact b),mK,am b]
  rw[g]
 rw[e];exact h1
def fC (C:List J)(op:Nat):Nat:=C.countP fun c=>decide ((op:Int)∈c)
def ξ (C:List J)(op:Nat)(x:Rat):dx (fun i=>if (op:Int)∈C.getD i [] then x else 0) C.length=(fC C op:Rat)*x:=by
 induction C with
 | nil=>show (0:Rat)=((0:Nat):Rat)*x;grind
 | cons c C b =>
  rw[length_cons,MF];have e:dx (fun i=>if (op:Int)∈(c::C).getD (i+1) [] then x else 0) C.length=dx (fun i=>if (op:Int)∈C.getD i [] then x else 0) C.length:=AZ fun i _=>by rw[getD_cons_succ]
  rw[e,b];show (if (op:Int)∈c then x else 0)+_=_;unfold fC;by_cases a:(op:Int)∈c
  ·rw[aM a,countP_cons_of_pos (by simpa using a)]
   have:((countP (fun c=>decide ((op:Int)∈c)) C+1:Nat):Rat)=((countP (fun c=>decide ((op:Int)∈c)) C:Nat):Rat)+1:=by
    exact_mod_cast rfl
   rw[this];grind
  rw[aC a,countP_cons_of_neg (by simpa using a)];grind
def UD (I:aG t){C:List J}{v:List Rat}(d:v.length=C.length)(f:∀ x∈v,0<=x)(g:∀ i,i<C.length->∀ op:Nat,op<t.M.length->(op:Int)∈C.getD i []->v.getD i 0<=((qz t op:Int):Rat) / (fC C op:Rat)):kF t C v:=by
 refine⟨d,f,fun op a=>?_⟩;have k:(0:Rat)<=((qz t op:Int):Rat):=by have:=(Ce I a).1;exact_mod_cast this
 have h1:dx (fun i=>if (op:Int)∈C.getD i [] then v.getD i 0 else 0) C.length<=dx (fun i=>if (op:Int)∈C.getD i [] then ((qz t op:Int):Rat) / (fC C op:Rat) else 0) C.length:=LP fun i j=>by
  by_cases h:(op:Int)∈C.getD i []
  ·rw[aM h,aM h];exact g i j op a h
  rw[aC h,aC h];exact zF
 rw[ξ]at h1;by_cases b:fC C op=0
 ·rw[b]at h1
  have e:((0:Nat):Rat)*(((qz t op:Int):Rat) / ((0:Nat):Rat))=0:=by grind
  rw[e]at h1
  grind
 have hm:(fC C op:Rat)≠0:=fun e=>b (by exact_mod_cast e);have e:(fC C op:Rat)*(((qz t op:Int):Rat) / (fC C op:Rat))=((qz t op:Int):Rat):=by grind
 rw[e]at h1;exact h1
end
section
def Fa:Nat->List da->Int
 | _,[] => -1
 | i,f::l=>if 0<f.num then (i:Int) else Fa (i+1) l
def qu (S:o8):Int:=Fa 0 S.aH
def Fz (m:Nat)(S:o8):o8:=(BU S (qU S (qu S).toNat m).2.toNat (qu S).toNat).2
def Fb (m:Nat):Nat->o8->Option (Int × o8)
 | 0,_=>none
 | n+1,S =>
  if qu S<0 then some (0,S)
  else if (qU S (qu S).toNat m).1≠0 then some ((qU S (qu S).toNat m).1,S)
  else if (qU S (qu S).toNat m).2<0 then some (3,S)
  else if (BU S (qU S (qu S).toNat m).2.toNat (qu S).toNat).1≠0 then some ((BU S (qU S (qu S).toNat m).2.toNat (qu S).toNat).1,S)
  else Fb m n (Fz m S)
def za:da:=⟨0,1⟩
def MH:da:=⟨1,1⟩
def UH:eh za:=by unfold za eh;decide
def UI:cr za=0:=by unfold cr za;simp;grind
def FA (m i:Nat):List da:=(List.range m).map fun k=>if k=i then MH else za
def Ng (c:List da)(a:List (List da))(b:List da):o8 :=
 ⟨(List.range a.length).map fun i=>a.getD i []++FA a.length i,b,(List.range a.length).map fun (i:Nat)=>((c.length+i:Nat):Int),c++replicate a.length za,za⟩
def Fc (n:Nat):List Int->List da->List da->List da
 | k::qS,f::right,x=>Fc n qS right (if k<(n:Int) then x.set k.toNat f else x)
 | [],_,x=>x
 | _::_,[],x=>x
def T3 (C:List (List Int))(op:Nat):List Bool:=C.map fun c=>decide ((op:Int)∈c)
def zu (C:List (List Int)):Nat->List Int->List (List Bool × Int)
 | _,[]=>[]
 | i,c::l=>if true∈T3 C i then (T3 C i,c)::zu C (i+1) l else zu C (i+1) l
def Fe (x:List Bool × Int)(i:Nat):Nat->List (List Bool × Int)->Bool
 | _,[]=>false
 | j,y::l=>decide (i≠j/\x.1=y.1/\(y.2<x.2\/(y.2=x.2/\j<i))) || Fe x i (j+1) l
def xy (R:List (List Bool × Int)):Nat->List (List Bool × Int)->List (List Bool × Int)
 | _,[]=>[]
 | i,x::l=>if Fe x i 0 R=true then xy R (i+1) l else x::xy R (i+1) l
def uU (a:List Int)(C:List (List Int)):List (List Bool × Int):=xy (zu C 0 a) 0 (zu C 0 a)
def ER (R:List (List Bool × Int)):List (List da):=R.map fun x=>x.1.map fun b=>if b=true then MH else za
def ES (R:List (List Bool × Int)):List da:=R.map fun x=>⟨x.2,1⟩
def EQ (C:List (List Int)):List da:=replicate C.length MH
def UF (x:Int):cr ⟨x,1⟩=(x:Rat):=by unfold cr;simp;grind
end
section
open Go.Sl
def mp (n v:Nat):List bp:=(List.range n).map fun (x:Nat)=>⟨(v:Int),(x:Int)⟩
def jk (vars:J):List bp:=(List.range vars.length).flatMap fun v=>mp (vars.getD v W.dflt).toNat v
def sD (t:aa)(s:J)(w:bp):Prop:=∀ g∈t.aH,sa t s w g
open Classical in
noncomputable def qW (t:aa)(s:J)(f:bp):Bool:=decide (s.getD f.var.toNat W.dflt≠f.val/\¬sD t s f)
noncomputable def dh (t:aa)(s:J):List bp:=(jk t.vars).filter (qW t s)
open Classical in
noncomputable def sb (t:aa)(s:J)(f:bp)(u:tS):Bool:=decide (u.aK=f/\∀ n∈u.aw,sa t s f n)
noncomputable def rf (t:aa)(s:J)(f:bp):J:=dw (((l6 t).filter (sb t s f)).map fun u=>(u.op:Int))
noncomputable def fD (t:aa)(s:J):List bp->List J->List J
 | [],out=>out
 | f::l,out=>if rf t s f∈out then fD t s l out else fD t s l (out++[rf t s f])
def uo (n:Nat)(c:J)(i:Nat):Prop:=0<=c.getD i W.dflt/\c.getD i W.dflt<n/\(0<i->c.getD (i-1) W.dflt<c.getD i W.dflt)
instance Ux (n:Nat) (c:J) (i:Nat):Decidable (uo n c i):=by unfold uo;infer_instance
def j9 (n:Nat)(c:J):Prop:=∀ i,i<c.length->uo n c i
instance Ny (n:Nat) (c:J):Decidable (j9 n c):=by unfold j9;infer_instance
def rE (n:Nat):List J->Int
 | []=>0
 | c::C=>if c=[] then 3 else if j9 n c then rE n C else 2
def mQ (n:Nat)(C:List J):Int:=if 24<C.length then 5 else rE n C
def T4 {n:Nat}:∀ {C:List J},rE n C=0->∀ c∈C,c≠[]/\j9 n c
 | [],_,c,a=>absurd a fI
 | d::C,h,c,a=>by
  unfold rE at h;split at h
  ·exact absurd h dc
  rename_i h1;split at h
  ·rename_i b
   rcases ee.1 a with rfl|a
   ·exact⟨h1,b⟩
   exact T4 h c a
  exact absurd h dc
def I1 {C:List J}(h:mQ n C=0):C.length<=24/\∀ c∈C,c≠[]/\j9 n c:=by
 unfold mQ at h;split at h
 ·exact absurd h dc
 rename_i h1;exact⟨U,T4 h⟩
def O4 (h:j9 n c):∀ i j,i<j->j<c.length->c.getD i W.dflt<c.getD j W.dflt:=by
 intro i j a
 induction j with
 | zero=>exact absurd a (dr _)
 | succ j b =>
  intro d;have h1:=(h (j+1) d).2.2 (DL _);rw[DM]at h1;by_cases e:i=j
  ·rw[e];exact h1
  have:=b U U;omega
def UC (h:j9 n c):∀ x∈c,0<=x/\x<n:=fun x hx=>by
 obtain⟨i,a,rfl⟩:=fJ hx;have:=h i a;rw[uo,am a]at this;exact⟨this.1,this.2.1⟩
def yl (x:Int):da:=⟨x,1⟩
def fT (n:Nat)(C:List J):J:=(List.range n).map fun op=>((fC C op:Nat):Int)
def jO (a many:J):Nat->da->J->Int × da
 | _,dq,[]=>(0,dq)
 | i,dq,op::l =>
  if (me (a.getD op.toNat W.dflt) (many.getD op.toNat W.dflt)).1=0 then
   jO a many (i+1) (if i=0\/lO (me (a.getD op.toNat W.dflt) (many.getD op.toNat W.dflt)).2 dq<0 then (me (a.getD op.toNat W.dflt) (many.getD op.toNat W.dflt)).2 else dq) l
  else ((me (a.getD op.toNat W.dflt) (many.getD op.toNat W.dflt)).1,dq)
def nJ (a many:J):List da->List J->Int × List da
 | out,[]=>(0,out)
 | out,c::C=>if (jO a many 0 dF c).1=0 then nJ a many (out++[(jO a many 0 dF c).2]) C else ((jO a many 0 dF c).1,[])
def EP (c:List da)(a:List (List da))(b:List da):Int × List da :=
 if 24<a.length then (5,[]) else
 match Fb a.length ((c.length+a.length) ^ a.length) (Ng c a b) with
 | some (x,S)=>if x=0 then (0,Fc c.length S.qS S.right (replicate c.length za)) else (x,[])
 | none=>(0,[])
def gg (kind:Int)(a:J)(C:List J):Int × List da :=
 if mQ a.length C=0 then
  (if kind=1 then (0,(jr a C).map yl)
  else if kind=2 then nJ a (fT a.length C) [] C
  else EP (EQ C) (ER (uU a C)) (ES (uU a C)))
 else (mQ a.length C,[])
def vI (l:List da):Int × Int:=if (mf ⟨0,1⟩ l).1=0 then (0,lB (mf ⟨0,1⟩ l).2) else ((mf ⟨0,1⟩ l).1,0)
def th (kind:Int)(a:J)(C:List J):Int × Int:=if (gg kind a C).1=0 then vI (gg kind a C).2 else ((gg kind a C).1,0)
open Classical in
noncomputable def rh (t:aa)(s:J)(kind:Int):Int × Int :=
 if sD t s ⟨-1,-1⟩ then
  (if (th kind (ar t) ((fD t s (dh t s) []).take 24)).1=5 then th 1 (ar t) ((fD t s (dh t s) []).take 24) else th kind (ar t) ((fD t s (dh t s) []).take 24))
 else (0,bH)
noncomputable def jP (t:aa)(kind:Int)(s:J):Int:=if (rh t s kind).1=0 then (rh t s kind).2 else 0
end
end Go.Proofs.YtmapkjoefdgjfaaGreatDoor
