/- Several texts. -/
import Derived.Test.YtmapkjoefdgjfaaGreatDoorMW13D
set_option linter.unusedSimpArgs false
set_option linter.unusedVariables false
set_option linter.defProp false
set_option maxRecDepth 8000
set_option maxHeartbeats 16000000
open List Nat
namespace Go.Proofs.YtmapkjoefdgjfaaGreatDoor
open Go.Sl
variable {F:List (List Bool)}{c:J}{t:aa}{n:Nat}{r:List Bool}
section
open Go.Sl
structure tQ where
 op:Nat
 aw:List bo
 aK:bo
def sN (t:aa)(k:Nat):List tQ:=(List.range (t.Z.getD k bf).aJ.length).map fun j=>⟨k,lE (t.Z.getD k bf) j,vj (t.Z.getD k bf) j⟩
def l7 (t:aa):List tQ:=(List.range t.Z.length).flatMap (sN t)
def FG {u:tQ}:u∈l7 t↔∃ k j,k<t.Z.length/\j<(t.Z.getD k bf).aJ.length/\u=⟨k,lE (t.Z.getD k bf) j,vj (t.Z.getD k bf) j⟩:=by
 unfold l7 sN;rw[tm];constructor
 ·rintro⟨k,hk,h⟩
  obtain⟨j,a,rfl⟩:=iQ.1 h;exact⟨k,j,mem_range.1 hk,mem_range.1 a,rfl⟩
 rintro⟨k,j,hk,a,rfl⟩;exact⟨k,mem_range.2 hk,iQ.2 ⟨j,mem_range.2 a,rfl⟩⟩
def tP (F:List (List Bool))(x:bo):Bool:=(F.getD x.var.toNat []).getD x.val.toNat false
def ry (F:List (List Bool))(x:bo):List (List Bool):=F.set x.var.toNat ((F.getD x.var.toNat []).set x.val.toNat true)
def qj (F:List (List Bool)):Nat:=(F.map fun r=>r.countP fun b => !b).sum
def Bu {vars:J}{f:bo}(h:bH vars f):0<=f.var/\f.var.toNat<vars.length/\0<=f.val/\f.val<vars.getD f.var.toNat O.dflt:=by
 obtain⟨h1,d,a,b⟩:=h;exact⟨h1,U,a,b⟩
structure uo (vars:J) (F:List (List Bool)):Prop where
 len:F.length=vars.length
 row:∀ v,v<vars.length->(F.getD v []).length=(vars.getD v O.dflt).toNat
def uo.set {vars:J}(h:uo vars F)(x:bo):uo vars (ry F x):=by
 refine⟨by unfold ry;rw[gS];exact h.len,fun v hv=>?_⟩;have a:=h.len;unfold ry;by_cases e:x.var.toNat=v
 ·subst e
  rw[al (by rw[gS];omega),DL,gS];exact h.row _ hv
 simp only[List.getD];rw[tn e];exact h.row v hv
def TN {vars:J}(h:uo vars F){x y:bo}(hx:bH vars x)(d:bH vars y):tP (ry F x) y=if y=x then true else tP F y:=by
 obtain⟨g,f,i,j⟩:=Bu hx;obtain⟨k,l,m,o⟩:=Bu d;have q:=h.len;have u:=h.row _ f;unfold tP ry;by_cases e:x.var.toNat=y.var.toNat
 ·have h1:(F.set x.var.toNat ((F.getD x.var.toNat []).set x.val.toNat true)).getD x.var.toNat []=(F.getD x.var.toNat []).set x.val.toNat true:=by
   rw[al (by rw[gS];omega),DL]
  rw[<-e,h1];by_cases a:x.val.toNat=y.val.toNat
  ·have:y=x:=by
    cases x;cases y;simp only at *
    congr 1<;>omega
   rw[aP this,<-a,al (by rw[gS];omega),DL]
  have:y≠x:=fun b=>a (by rw[b]);rw[aH this];simp only[List.getD];rw[tn a]
 have:y≠x:=fun b=>e (by rw[b]);rw[aH this];simp only[List.getD];rw[tn e]
def uw:∀ {i:Nat},i<r.length->r.getD i false=false->(r.set i true).countP (fun b => !b)<r.countP (fun b => !b):=by
 induction r with
 | nil=>intro i a;exact absurd a (dx _)
 | cons b r e =>
  intro i a d
  cases i with
  | zero =>
   have:b=false:=d;subst this
   simp[List.set]
  | succ i =>
   have:=e (i:=i) (by simpa using a) (by simpa [getD_cons_succ] using d);simp only[List.set,DM];omega
def Λ:∀ {i:Nat},i<F.length->r.countP (fun b => !b)<(F.getD i []).countP (fun b => !b)->qj (F.set i r)<qj F:=by
 unfold qj
 induction F with
 | nil=>intro i a;exact absurd a (dx _)
 | cons b F e =>
  intro i a d
  cases i with
  | zero =>
   have f:r.countP (fun b => !b)<b.countP (fun b => !b):=d;simp only[List.set,l8,yG]
   omega
  | succ i =>
   have:=e (i:=i) (by simpa using a) (by simpa [getD_cons_succ] using d);simp only[List.set,l8,yG];omega
def è {vars:J}(h:uo vars F){x:bo}(hx:bH vars x)(a:tP F x=false):qj (ry F x)<qj F:=by
 obtain⟨d,b,e,f⟩:=Bu hx;have g:=h.len;have i:=h.row _ b;exact Λ U (uw U a)
structure oQ (t:aa) (s:J) (w:bo) (F:List (List Bool)):Prop where
 yc:uo t.vars F
 BQ:∀ f,bH t.vars f->tP F f=true->r8 t s w f
 st:∀ v:Nat,v<t.vars.length->tP F ⟨(v:Int),s.getD v O.dflt⟩=true
def ln (F:List (List Bool))(l:List bo):Bool:=l.all (tP F)
def oQ.iI {t:aa}{s:J}{w:bo}{F:List (List Bool)}(h:oQ t s w F)(I:aC t)(g:ab t.vars s){u:tQ}(hu:u∈l7 t)(Y:u.aK≠w)(i:ln F u.aw=true):oQ t s w (ry F u.aK):=by
 obtain⟨k,j,hk,d,rfl⟩:=FG.1 hu;have hm:=Lp I hk d;have l:r8 t s w (vj (t.Z.getD k bf) j):=.op hk d Y fun f a=>h.BQ f (Sv I hk d f a) (all_eq_true.1 i f a);refine⟨h.yc.set _,fun f a b=>?_,fun v hv=>?_⟩
 ·rw[TN h.yc hm a]at b
  split at b
  ·rename_i e;rw[e];exact l
  exact h.BQ f a b
 have a:bH t.vars ⟨(v:Int),s.getD v O.dflt⟩:=by
  have m:=g.1;have:=g.2 v U;exact⟨Cn v,by show (v:Int)<t.vars.length;omega,this.1,by show s.getD v O.dflt<t.vars.getD (v:Int).toNat O.dflt;rw[gY];exact this.2⟩
 rw[TN h.yc hm a];split
 ·rfl
 exact h.st v hv
def sL (t:aa)(w:bo)(F:List (List Bool))(i:Nat):Prop:=∀ u∈(l7 t).take i,u.aK≠w->ln F u.aw=true->tP F u.aK=true
def oQ.ow {s:J}{w:bo}(h:oQ t s w F)(b:sL t w F (l7 t).length){f:bo}(a:bH t.vars f):tP F f=true↔r8 t s w f:=by
 refine⟨h.BQ f a,fun d=>?_⟩;clear a
 induction d with
 | st hv=>exact h.st _ hv
 | @op k j hk e Y _ g =>
  exact b ⟨k,lE (t.Z.getD k bf) j,vj (t.Z.getD k bf) j⟩ (by rw[lL];exact FG.2 ⟨k,j,hk,e,rfl⟩) Y (all_eq_true.2 g)
def oQ.has {s:J}{w:bo}(h:oQ t s w F)(d:sL t w F (l7 t).length){l:List bo}(e:∀ f∈l,bH t.vars f):ln F l=true↔∀ f∈l,r8 t s w f:=by
 unfold ln;rw[all_eq_true];exact⟨fun b f a=>(h.ow d (e f a)).1 (b f a),fun b f a=>(h.ow d (e f a)).2 (b f a)⟩
def Mq (f:Nat->Rat):∀ n,dw f (n+1)=f 0+dw (fun i=>f (i+1)) n
 | 0=>by show (0:Rat)+f 0=f 0+0;grind
 | n+1=>by
  have h:=Mq f n;show dw f (n+1)+f (n+1)=f 0+(dw (fun i=>f (i+1)) n+f (n+1))
  rw[h];grind
def nT (left:J):J->Int
 | []=>0
 | op::c=>c.foldl (fun m o=>min m (left.getD o.toNat O.dflt)) (left.getD op.toNat O.dflt)
def LV {left:J}:∀ {c:J}{a:Int},c.foldl (fun m o=>min m (left.getD o.toNat O.dflt)) a<=a/\∀ o∈c,c.foldl (fun m o=>min m (left.getD o.toNat O.dflt)) a<=left.getD o.toNat O.dflt
 | [],a=>⟨du _,fun o h=>absurd h fM⟩
 | x::c,a=>by
  obtain⟨h1,d⟩:=LV (left:=left) (c:=c) (a:=min a (left.getD x.toNat O.dflt));have f:=Int.min_le_left a (left.getD x.toNat O.dflt);have g:=Int.min_le_right a (left.getD x.toNat O.dflt);rw[sr];refine⟨U,fun o b=>?_⟩;rcases dZ.1 b with e|b
  ·rw[e];omega
  exact d o b
def LU {left:J}(b:∀ x∈left,0<=x):∀ {c:J}{a:Int},0<=a->0<=c.foldl (fun m o=>min m (left.getD o.toNat O.dflt)) a
 | [],_,h=>h
 | x::c,a,h=>by
  rw[sr];refine LU b (c:=c) ?_;have:0<=left.getD x.toNat O.dflt:=by
   by_cases d:x.toNat<left.length
   ·exact b _ (cD O.dflt d)
   rw[List.getD,uE U];exact du _
  omega
def Μ {left:J}{o:Int}(h:o∈c):nT left c<=left.getD o.toNat O.dflt:=by
 cases c with
 | nil=>exact absurd h fM
 | cons x c =>
  obtain⟨h1,b⟩:=LV (left:=left) (c:=c) (a:=left.getD x.toNat O.dflt);rcases dZ.1 h with e|h
  ·rw[e];exact h1
  exact b o h
def SU {left:J}(a:∀ x∈left,0<=x):0<=nT left c:=by
 cases c with
 | nil=>exact du _
 | cons x c =>
  refine LU a ?_;by_cases b:x.toNat<left.length
  ·exact a _ (cD O.dflt b)
  rw[List.getD,uE U];exact du _
def jU (left c:J)(m:Int):J:=(List.range left.length).map fun (i:Nat)=>if (i:Int)∈c then left.getD i O.dflt-m else left.getD i O.dflt
def yX (left c:J)(m:Int):(jU left c m).length=left.length:=by simp[jU]
def By {left:J}{m:Int}{i:Nat}(hi:i<left.length):(jU left c m).getD i O.dflt=if (i:Int)∈c then left.getD i O.dflt-m else left.getD i O.dflt:=by
 rw[al (by rw[yX];exact hi)];simp[jU]
def LW {left:J}(e:∀ x∈left,0<=x):∀ x∈jU left c (nT left c),0<=x:=fun x hx=>by
 obtain⟨i,b,rfl⟩:=fF hx;have a:i<left.length:=by rw[yX]at b;exact b
 rw[<-al (d:=O.dflt) b,By a];have h1:=e _ (cD O.dflt a);split
 ·rename_i h
  have:=Μ (left:=left) h;rw[gY]at this;omega
 exact h1
def jt:J->List J->J
 | _,[]=>[]
 | left,c::C=>nT left c::jt (jU left c (nT left c)) C
def Mr:∀ (C:List J) (left:J),(jt left C).length=C.length
 | [],_=>rfl
 | c::C,left=>by
  show (jt _ C).length+1=C.length+1;rw[Mr C]
def TO:∀ (C:List J) {left:J},(∀ x∈left,0<=x)->∀ v∈jt left C,0<=v
 | [],_,_=>fun v h=>absurd h fM
 | c::C,left,h=>fun v hv=>by
  rcases dZ.1 hv with e|hv
  ·rw[e];exact SU h
  exact TO C (LW h) v hv
def TP:∀ (C:List J) {left:J},(∀ x∈left,0<=x)->∀ op:Nat,op<left.length->dw (fun i=>if (op:Int)∈C.getD i [] then (((jt left C).getD i 0:Int):Rat) else 0) C.length<=((left.getD op O.dflt:Int):Rat)
 | [],left,h,op,a=>by
  show (0:Rat)<=_;have:=h _ (cD O.dflt a)
  exact_mod_cast this
 | c::C,left,h,op,a=>by
  have b:=TP C (LW (c:=c) h) op (by rw[yX];exact a);rw[By a]at b;rw[length_cons,Mq];have e:dw (fun i=>if (op:Int)∈(c::C).getD (i+1) [] then (((jt left (c::C)).getD (i+1) 0:Int):Rat) else 0) C.length=dw (fun i=>if (op:Int)∈C.getD i [] then (((jt (jU left c (nT left c)) C).getD i 0:Int):Rat) else 0) C.length:=AT fun i _=>by
   rw[getD_cons_succ];rfl
  rw[e];show (if (op:Int)∈c then ((nT left c:Int):Rat) else 0)+_<=_;by_cases d:(op:Int)∈c
  ·rw[aP d]at b ⊢
   rw[Rat.intCast_sub]at b
   grind
  rw[aH d]at b ⊢
  grind
def Ut (I:aC t)(C:List J):kH t C ((jt (am t) C).map fun x=>((x:Int):Rat)):=by
 have a:∀ x∈am t,0<=x:=fun x hx=>(zy I x hx).1;refine⟨by rw[iW,Mr],fun x hx=>?_,fun op d=>?_⟩
 ·obtain⟨v,hv,rfl⟩:=iQ.1 hx
  have:=TO C a v hv
  exact_mod_cast this
 have h1:=TP C a op (by rw[tB];exact d);rw[tC d]at h1;have e:dw (fun i=>if (op:Int)∈C.getD i [] then ((jt (am t) C).map fun x=>((x:Int):Rat)).getD i 0 else 0) C.length=dw (fun i=>if (op:Int)∈C.getD i [] then (((jt (am t) C).getD i 0:Int):Rat) else 0) C.length:=AT fun i f=>by
  have b:i<(jt (am t) C).length:=by rw[Mr];exact f
  have g:((jt (am t) C).map fun x=>((x:Int):Rat)).getD i 0=(((jt (am t) C).getD i 0:Int):Rat):=by
   rw[al (by rw[iW];exact b),mL,al b]
  rw[g]
 rw[e];exact h1
def fB (C:List J)(op:Nat):Nat:=C.countP fun c=>decide ((op:Int)∈c)
def Ν (C:List J)(op:Nat)(x:Rat):dw (fun i=>if (op:Int)∈C.getD i [] then x else 0) C.length=(fB C op:Rat)*x:=by
 induction C with
 | nil=>show (0:Rat)=((0:Nat):Rat)*x;grind
 | cons c C b =>
  rw[length_cons,Mq];have e:dw (fun i=>if (op:Int)∈(c::C).getD (i+1) [] then x else 0) C.length=dw (fun i=>if (op:Int)∈C.getD i [] then x else 0) C.length:=AT fun i _=>by rw[getD_cons_succ]
  rw[e,b];show (if (op:Int)∈c then x else 0)+_=_;unfold fB;by_cases a:(op:Int)∈c
  ·rw[aP a,countP_cons_of_pos (by simpa using a)]
   have:((countP (fun c=>decide ((op:Int)∈c)) C+1:Nat):Rat)=((countP (fun c=>decide ((op:Int)∈c)) C:Nat):Rat)+1:=by
    exact_mod_cast rfl
   rw[this];grind
  rw[aH a,countP_cons_of_neg (by simpa using a)];grind
def Uq (I:aC t){C:List J}{v:List Rat}(d:v.length=C.length)(f:∀ x∈v,0<=x)(g:∀ i,i<C.length->∀ op:Nat,op<t.Z.length->(op:Int)∈C.getD i []->v.getD i 0<=((qu t op:Int):Rat) / (fB C op:Rat)):kH t C v:=by
 refine⟨d,f,fun op a=>?_⟩;have k:(0:Rat)<=((qu t op:Int):Rat):=by have:=(B4 I a).1;exact_mod_cast this
 have h1:dw (fun i=>if (op:Int)∈C.getD i [] then v.getD i 0 else 0) C.length<=dw (fun i=>if (op:Int)∈C.getD i [] then ((qu t op:Int):Rat) / (fB C op:Rat) else 0) C.length:=Lt fun i j=>by
  by_cases h:(op:Int)∈C.getD i []
  ·rw[aP h,aP h];exact g i j op a h
  rw[aH h,aH h];exact zx
 rw[Ν]at h1;by_cases b:fB C op=0
 ·rw[b]at h1
  have e:((0:Nat):Rat)*(((qu t op:Int):Rat) / ((0:Nat):Rat))=0:=by grind
  rw[e]at h1
  grind
 have hm:(fB C op:Rat)≠0:=fun e=>b (by exact_mod_cast e);have e:(fB C op:Rat)*(((qu t op:Int):Rat) / (fB C op:Rat))=((qu t op:Int):Rat):=by grind
 rw[e]at h1;exact h1
end
section
def EX:Nat->List cZ->Int
 | _,[] => -1
 | i,f::l=>if 0<f.num then (i:Int) else EX (i+1) l
def qm (S:oY):Int:=EX 0 S.aG
def Fl (m:Nat)(S:oY):oY:=(BM S (qS S (qm S).toNat m).2.toNat (qm S).toNat).2
def EY (m:Nat):Nat->oY->Option (Int × oY)
 | 0,_=>none
 | n+1,S =>
  if qm S<0 then some (0,S)
  else if (qS S (qm S).toNat m).1≠0 then some ((qS S (qm S).toNat m).1,S)
  else if (qS S (qm S).toNat m).2<0 then some (3,S)
  else if (BM S (qS S (qm S).toNat m).2.toNat (qm S).toNat).1≠0 then some ((BM S (qS S (qm S).toNat m).2.toNat (qm S).toNat).1,S)
  else EY m n (Fl m S)
def yZ:cZ:=⟨0,1⟩
def Ms:cZ:=⟨1,1⟩
def Uu:ed yZ:=by unfold yZ ed;decide
def Uv:cm yZ=0:=by unfold cm yZ;simp;grind
def Fm (m i:Nat):List cZ:=(List.range m).map fun k=>if k=i then Ms else yZ
def MZ (c:List cZ)(a:List (List cZ))(b:List cZ):oY :=
 ⟨(List.range a.length).map fun i=>a.getD i []++Fm a.length i,b,(List.range a.length).map fun (i:Nat)=>((c.length+i:Nat):Int),c++replicate a.length yZ,yZ⟩
def EZ (n:Nat):List Int->List cZ->List cZ->List cZ
 | k::qQ,f::right,x=>EZ n qQ right (if k<(n:Int) then x.set k.toNat f else x)
 | [],_,x=>x
 | _::_,[],x=>x
def TQ (C:List (List Int))(op:Nat):List Bool:=C.map fun c=>decide ((op:Int)∈c)
def zl (C:List (List Int)):Nat->List Int->List (List Bool × Int)
 | _,[]=>[]
 | i,c::l=>if true∈TQ C i then (TQ C i,c)::zl C (i+1) l else zl C (i+1) l
def E0 (x:List Bool × Int)(i:Nat):Nat->List (List Bool × Int)->Bool
 | _,[]=>false
 | j,y::l=>decide (i≠j/\x.1=y.1/\(y.2<x.2\/(y.2=x.2/\j<i))) || E0 x i (j+1) l
def xt (R:List (List Bool × Int)):Nat->List (List Bool × Int)->List (List Bool × Int)
 | _,[]=>[]
 | i,x::l=>if E0 x i 0 R=true then xt R (i+1) l else x::xt R (i+1) l
def uO (a:List Int)(C:List (List Int)):List (List Bool × Int):=xt (zl C 0 a) 0 (zl C 0 a)
def EG (R:List (List Bool × Int)):List (List cZ):=R.map fun x=>x.1.map fun b=>if b=true then Ms else yZ
def EH (R:List (List Bool × Int)):List cZ:=R.map fun x=>⟨x.2,1⟩
def EF (C:List (List Int)):List cZ:=replicate C.length Ms
def Us (x:Int):cm ⟨x,1⟩=(x:Rat):=by unfold cm;simp;grind
end
section
open Go.Sl
def mo (n v:Nat):List bo:=(List.range n).map fun (x:Nat)=>⟨(v:Int),(x:Int)⟩
def jm (vars:J):List bo:=(List.range vars.length).flatMap fun v=>mo (vars.getD v O.dflt).toNat v
def sB (t:aa)(s:J)(w:bo):Prop:=∀ g∈t.aG,r8 t s w g
open Classical in
noncomputable def qU (t:aa)(s:J)(f:bo):Bool:=decide (s.getD f.var.toNat O.dflt≠f.val/\¬sB t s f)
noncomputable def de (t:aa)(s:J):List bo:=(jm t.vars).filter (qU t s)
open Classical in
noncomputable def r9 (t:aa)(s:J)(f:bo)(u:tQ):Bool:=decide (u.aK=f/\∀ n∈u.aw,r8 t s f n)
noncomputable def q9 (t:aa)(s:J)(f:bo):J:=dt (((l7 t).filter (r9 t s f)).map fun u=>(u.op:Int))
noncomputable def fC (t:aa)(s:J):List bo->List J->List J
 | [],out=>out
 | f::l,out=>if q9 t s f∈out then fC t s l out else fC t s l (out++[q9 t s f])
def ul (n:Nat)(c:J)(i:Nat):Prop:=0<=c.getD i O.dflt/\c.getD i O.dflt<n/\(0<i->c.getD (i-1) O.dflt<c.getD i O.dflt)
instance Uj (n:Nat) (c:J) (i:Nat):Decidable (ul n c i):=by unfold ul;infer_instance
def j9 (n:Nat)(c:J):Prop:=∀ i,i<c.length->ul n c i
instance Ni (n:Nat) (c:J):Decidable (j9 n c):=by unfold j9;infer_instance
def rA (n:Nat):List J->Int
 | []=>0
 | c::C=>if c=[] then 3 else if j9 n c then rA n C else 2
def mO (n:Nat)(C:List J):Int:=if 24<C.length then 5 else rA n C
def TR {n:Nat}:∀ {C:List J},rA n C=0->∀ c∈C,c≠[]/\j9 n c
 | [],_,c,a=>absurd a fM
 | d::C,h,c,a=>by
  unfold rA at h;split at h
  ·exact absurd h dc
  rename_i h1;split at h
  ·rename_i b
   rcases dZ.1 a with rfl|a
   ·exact⟨h1,b⟩
   exact TR h c a
  exact absurd h dc
def IG {C:List J}(h:mO n C=0):C.length<=24/\∀ c∈C,c≠[]/\j9 n c:=by
 unfold mO at h;split at h
 ·exact absurd h dc
 rename_i h1;exact⟨U,TR h⟩
def OQ (h:j9 n c):∀ i j,i<j->j<c.length->c.getD i O.dflt<c.getD j O.dflt:=by
 intro i j a
 induction j with
 | zero=>exact absurd a (dx _)
 | succ j b =>
  intro d;have h1:=(h (j+1) d).2.2 (succ_pos _);rw[DC]at h1;by_cases e:i=j
  ·rw[e];exact h1
  have:=b U U;omega
def Up (h:j9 n c):∀ x∈c,0<=x/\x<n:=fun x hx=>by
 obtain⟨i,a,rfl⟩:=fF hx;have:=h i a;rw[ul,al a]at this;exact⟨this.1,this.2.1⟩
def yd (x:Int):cZ:=⟨x,1⟩
def fS (n:Nat)(C:List J):J:=(List.range n).map fun op=>((fB C op:Nat):Int)
def jP (a many:J):Nat->cZ->J->Int × cZ
 | _,dm,[]=>(0,dm)
 | i,dm,op::l =>
  if (me (a.getD op.toNat O.dflt) (many.getD op.toNat O.dflt)).1=0 then
   jP a many (i+1) (if i=0\/lQ (me (a.getD op.toNat O.dflt) (many.getD op.toNat O.dflt)).2 dm<0 then (me (a.getD op.toNat O.dflt) (many.getD op.toNat O.dflt)).2 else dm) l
  else ((me (a.getD op.toNat O.dflt) (many.getD op.toNat O.dflt)).1,dm)
def nJ (a many:J):List cZ->List J->Int × List cZ
 | out,[]=>(0,out)
 | out,c::C=>if (jP a many 0 dF c).1=0 then nJ a many (out++[(jP a many 0 dF c).2]) C else ((jP a many 0 dF c).1,[])
def EE (c:List cZ)(a:List (List cZ))(b:List cZ):Int × List cZ :=
 if 24<a.length then (5,[]) else
 match EY a.length ((c.length+a.length) ^ a.length) (MZ c a b) with
 | some (x,S)=>if x=0 then (0,EZ c.length S.qQ S.right (replicate c.length yZ)) else (x,[])
 | none=>(0,[])
def gi (kind:Int)(a:J)(C:List J):Int × List cZ :=
 if mO a.length C=0 then
  (if kind=1 then (0,(jt a C).map yd)
  else if kind=2 then nJ a (fS a.length C) [] C
  else EE (EF C) (EG (uO a C)) (EH (uO a C)))
 else (mO a.length C,[])
def vE (l:List cZ):Int × Int:=if (mf ⟨0,1⟩ l).1=0 then (0,lD (mf ⟨0,1⟩ l).2) else ((mf ⟨0,1⟩ l).1,0)
def te (kind:Int)(a:J)(C:List J):Int × Int:=if (gi kind a C).1=0 then vE (gi kind a C).2 else ((gi kind a C).1,0)
open Classical in
noncomputable def ra (t:aa)(s:J)(kind:Int):Int × Int :=
 if sB t s ⟨-1,-1⟩ then
  (if (te kind (am t) ((fC t s (de t s) []).take 24)).1=5 then te 1 (am t) ((fC t s (de t s) []).take 24) else te kind (am t) ((fC t s (de t s) []).take 24))
 else (0,bD)
noncomputable def jQ (t:aa)(kind:Int)(s:J):Int:=if (ra t s kind).1=0 then (ra t s kind).2 else 0
end
end Go.Proofs.YtmapkjoefdgjfaaGreatDoor
