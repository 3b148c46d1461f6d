/- Several texts. -/
import Derived.Test.YtmapkjoefdgjfaaGreatDoorMW18H
set_option linter.unusedSimpArgs false
set_option linter.unusedVariables false
set_option linter.defProp false
set_option maxRecDepth 8000
set_option maxHeartbeats 16000000
open List Nat
namespace Go.Proofs.YtmapkjoefdgjfaaGreatDoor
open Go.Sl
variable {α:Type}{t:aa}{n lo hi a k u:Nat}{g:Nat->List α}{w0:World}{N:Nat->Nat}{M':List (List Bool)}{Q:Nat->Nat->Prop}{L:List Bool}
section
open Go.Sl Go
attribute [local irreducible] vc opsW opsD opV opW PureV ReadV Thn Blk
def X7 {n:Int}{a:Value}{arcs:List mh}(d:RS bO w0 a arcs) :
  Calls ak 138 #[E n,a] w0 fun e w'=>e=.returned (bS (cI n arcs))/\Z w0 w' []:=by
 have f:=d.cn;have Y:=Z.start w0;refine bI ar Tryz.func138 ?_;refine aC ?_ ?_<;>intro c
 ·refine O ?_
  refine bo (v:=.iface 57 (E 1)) rfl rfl ⟨?_,Y⟩;rw[X8 c];rfl
 refine aC ?_ ?_<;>intro h1
 ·refine O ?_
  refine bo (v:=.iface 57 (E 5)) rfl rfl ⟨?_,Y⟩;rw[X9 c U];rfl
 refine O ?_;refine de [4,4,6,6,22,57] (G:=Nat) (fun k=>[(22,E k)]) (fun k w=>k<=arcs.length/\(∀ i,i<k->fV n (arcs.getD i bO.dflt))/\Z w0 w []) (fun k=>arcs.length-k) 0 (fun _=>rfl) ⟨rfl,az⟩ ⟨bC _,fun i hi=>absurd hi (eo _),Y⟩ ?_;clear Y;rintro j k w ⟨hk,b,Y⟩;refine aC ?_ ?_<;>intro l
 ·refine lE ?_ ?_<;>intro p w Y m
  ·refine O ?_
   refine bo (v:=.iface 57 (E 1)) rfl rfl ⟨?_,Y.tail⟩;rw[Ya c U (k:=k) U (by unfold fV;omega)];rfl
  refine O ?_;refine⟨k+1,⟨rfl,az⟩,aX,⟨U,fun i hi=>?_,Y.tail⟩,U⟩;by_cases h:i=k
  ·subst h;unfold fV;omega
  exact b i U
 refine O ?_;refine bo (v:=.nilIface) rfl rfl ⟨?_,Y⟩;rw[Qv c U (fun i hi=>b i U)];rfl
def Yb {R:Nat}:decide (((R / 2 ^ k &&& 1:Nat):Int)=1)=R.testBit k:=by
 rw[testBit_eq_decide_div_mod_eq,and_one_is_mod];exact decide_eq_decide.2 U
def zX (b:n<=32)(h:∀ v,ib a v->v<n):a<18446744073709551616:=by
 have h1:=KX h;have c:2 ^ n<=2 ^ 32:=zA dc b;omega
def xH {pf:Addr}{nv:Value}{near:List Nat}(D:near.length<=32)(hG:Gr near.length (fun u=>near.getD u ed.dflt))(hT:nc w0):∀ (P R X':Nat) {w:World}{fv:Value}{fs:List Value}{Fs:List J},BI near.length (fun u=>near.getD u ed.dflt) R P X'->Fs.length<=4096->Z w0 w [X aA 22 fv fs,ai W 3 fs Fs,am pf 230 [nv,fv],X ed 220 nv near] ->
  Calls ak 139 #[.pointer (some pf),u64 R,u64 P,u64 X'] w fun e w'=>∃ r M' c d,e=.returned (.bool r)/\kY near.length (fun u=>near.getD u ed.dflt) R P Fs.length r M'/\Z w0 w' [X aA 22 c d,ai W 3 d (Fs++M'.map fun C=>ee C near.length),am pf 230 [nv,c],X ed 220 nv near]:=by
 intro P
 induction P using Nat.strongRecOn with
 | _ P ih =>
 intro R X' w fv fs Fs A hl Y;have _j:=(Y.bN 1 rfl).bU;have T':=zX D A.rb;have j:=zX D A.pb;have F:=zX D A.xb;have _f:P ||| X'<18446744073709551616:=by have:=or_lt_two_pow (n:=64) j F;omega
 have o:∀ u,near.getD u ed.dflt<18446744073709551616:=fun u=>zX D (hG.bd u);refine bI ar Tryz.func139 ?_;refine rK ?_;refine fR rfl (DD (a:=P) (b:=X') rfl rfl j F) ?_;refine rK ?_;by_cases h0:P ||| X'=0
 ·have K:decide (((P ||| X':Nat):Int)=0)=true:=dH U
  simp only[K];refine O ?_;have l:=Y.nil (T:=W) (e:=3);clear Y;refine dP [9,10,27,39] (G:=Nat) (H:=Value) (fun k d=>[(27,E k),(9,d)]) (fun k d w=>k<=near.length/\Z w0 w [X W 3 d (ee R k),X aA 22 fv fs,ai W 3 fs Fs,am pf 230 [nv,fv],X ed 220 nv near]) (fun k _=>near.length-k) 0 (nS) (fun _ _=>rfl) ⟨rfl,rfl,az⟩ ⟨bC _,l⟩ ?_;clear l;rintro σ k d w ⟨hk,Y⟩;refine aC ?_ ?_<;>intro h1
  ·have f:k<near.length:=U
   have i:=Qw R k;refine O ?_;refine fR rfl (KY (a:=R) (b:=k) (k:=.i64) rfl rfl U) ?_;refine fR rfl (zY (a:=R / 2 ^ k) (b:=1) rfl rfl (Bg (div_le_self _ _) T') dc) ?_;refine rK ?_;simp only[Yb];by_cases c:ib R k
   ·simp only[show R.testBit k=true from c]
    repeat (first|refine dS ?_|(refine gA ?_;clear Y;intro s w Y))
    rw[<-Qx c]at Y;exact⟨k+1,s,⟨rfl,rfl,az⟩,aX,⟨U,Y.bj⟩,U⟩
   simp only[vZ.2 c];refine O ?_;rw[<-Qy c]at Y;exact⟨k+1,_,⟨rfl,rfl,az⟩,aX,⟨U,Y⟩,U⟩
  have f:k=near.length:=U;subst f;have i:P=0:=Qz fun v hv=>wX h0 v (E0.2 (.inl hv));have m:X'=0:=Qz fun v hv=>wX h0 v (E0.2 (.inr hv))
  repeat (first|refine dS ?_|(refine rG ?_;clear Y;intro w Y)|(refine gA ?_;clear Y;intro s w Y))
  obtain⟨c,rfl⟩:=À s;have z:Z w0 w [X W 3 d (ee R near.length),ai W 3 fs Fs,X aA 22 c (fs++[d]),am pf 230 [nv,c],X ed 220 nv near]:=by
   have l:Z w0 w [X W 3 d (ee R near.length),X aA 22 c (fs++[d]),ai W 3 fs Fs,am pf 230 [nv,c],X ed 220 nv near]:=Y.tail;exact l.bj
  have B:=z.jv;have S:Z w0 w [X aA 22 c (fs++[d]),ai W 3 (fs++[d]) (Fs++[ee R near.length]),am pf 230 [nv,c],X ed 220 nv near]:=B.bj;refine bo (v:=.bool (decide (((fs++[d]).length:Int)<=4096))) rfl rfl ⟨_,[R],c,fs++[d],?_,kY.fC A i m hl,S⟩;congr 2;exact decide_eq_decide.2 (by simp only[length_append,length_cons,length_nil];omega)
 have K:decide (((P ||| X':Nat):Int)=0)=false:=dB U;simp only[K];refine O ?_;refine fR rfl (DD (a:=P) (b:=X') rfl rfl j F) ?_;refine rK ?_;refine de [11,15,59,81] (G:=Nat × Nat × Int) (fun y=>[(13,u64 y.1),(11,E (y.2.1:Int)),(12,E y.2.2)]) (fun y w=>y.1<18446744073709551616/\(∀ v,ib y.1 v->ib P v\/ib X' v)/\((y.2.2 = -1/\y.1=P ||| X')\/(0<=y.2.2/\y.2.2<=127/\(ib P y.2.1\/ib X' y.2.1)))/\Z w0 w [X aA 22 fv fs,ai W 3 fs Fs,am pf 230 [nv,fv],X ed 220 nv near]) (fun y=>y.1) (P ||| X',0,-1) (fun _=>rfl) ⟨rfl,rfl,rfl,az⟩ ⟨_f,fun v hv=>E0.1 hv,.inl ⟨rfl,rfl⟩,Y⟩ ?_;clear Y;rintro σ ⟨x,piv,V'⟩ w ⟨hx,d,f,Y⟩;simp only at hx d f Y;refine rK ?_;by_cases B:x=0;rotate_left
 ·have i:decide ((x:Int)=0)=false:=dB U
  simp only[i,r5];obtain⟨v,hv⟩:=QA B;have m:=d v hv.1;have _a:v<near.length:=by
   rcases m with h|h
   ·exact A.pb v h
   exact A.xb v h
  refine O ?_;refine aR rfl (wM Y hT hx hv) ?_;rintro _ w' ⟨rfl,rfl⟩;refine⟨_,rfl,?_⟩;refine rK ?_;refine fR rfl (zY (a:=P) (b:=near.getD v ed.dflt) rfl rfl j (o v)) ?_;refine aR rfl (Yc (Bg DE j)) ?_;rintro _ w' ⟨⟨kk,rfl,V,j'⟩,rfl⟩;refine⟨_,rfl,?_⟩;refine rK ?_;have z:=QB B;have S:=fun u=>QC hv u;refine j2 ?_ ?_<;>intro h2
  ·refine O ?_
   refine fR rfl (HR (a:=x) (b:=1) rfl rfl U hx) ?_;refine fR rfl (zY (a:=x) (b:=x-1) rfl rfl hx U) ?_;refine O ?_;exact⟨(x &&& (x-1),v,kk),⟨rfl,rfl,rfl,az⟩,aX,⟨by simp only;omega,fun u hu=>d u ((S u).1 hu).1,.inr ⟨V,j',m⟩,Y⟩,z⟩
  refine O ?_;refine fR rfl (HR (a:=x) (b:=1) rfl rfl U hx) ?_;refine fR rfl (zY (a:=x) (b:=x-1) rfl rfl hx U) ?_;refine O ?_;refine⟨(x &&& (x-1),piv,V'),⟨rfl,rfl,rfl,az⟩,aX,⟨by simp only;omega,fun u hu=>d u ((S u).1 hu).1,?_,Y⟩,z⟩;rcases f with ⟨e1,_⟩|f
  ·exfalso;omega
  exact .inr f
 have i:decide ((x:Int)=0)=true:=dH U;have _b:ib P piv\/ib X' piv:=by
  rcases f with ⟨_,m⟩|f
  ·exact absurd (m.symm.trans B) h0
  exact f.2.2
 have _k:piv<near.length:=by
  rcases _b with h|h
  ·exact A.pb _ h
  exact A.xb _ h
 simp only[i,pz];refine O ?_;refine fR rfl (QD (a:=P) (b:=near.getD piv ed.dflt) rfl rfl j (o piv)) ?_;refine O ?_;have _g:FI near.length (fun u=>near.getD u ed.dflt) R P Fs.length (P &&& rQ (near.getD piv ed.dflt)) P X' []:=FI.start hG A _b (fun v=>QE j (o piv)) hl;have l:Z w0 w [X aA 22 fv fs,ai W 3 fs (Fs++([]:List Nat).map fun C=>ee C near.length),am pf 230 [nv,fv],X ed 220 nv near]:=by
  rw[uL,gj];exact Y
 clear Y;refine de [2,3,8,8,16,17,91,131] (G:=Nat × Nat × Nat × List Nat × Value × List Value) (fun y=>[(16,u64 y.1),(2,u64 y.2.1),(3,u64 y.2.2.1)]) (fun y w=>FI near.length (fun u=>near.getD u ed.dflt) R P Fs.length y.1 y.2.1 y.2.2.1 y.2.2.2.1/\Z w0 w [X aA 22 y.2.2.2.2.1 y.2.2.2.2.2,ai W 3 y.2.2.2.2.2 (Fs++y.2.2.2.1.map fun C=>ee C near.length),am pf 230 [nv,y.2.2.2.2.1],X ed 220 nv near]) (fun y=>y.1) (P &&& rQ (near.getD piv ed.dflt),P,X',[],fv,fs) (fun _=>rfl) ⟨rfl,rfl,rfl,az⟩ ⟨_g,l⟩ ?_;clear l hx d f B i;rintro _l ⟨q,pp,xx,M',fv,fs⟩ w ⟨m,Y⟩;simp only at m Y;have S:=zX D fun v hv=>m.bi.pb v (m.qp v hv);have V:=zX D m.bi.pb;have _c:=zX D m.bi.xb;refine rK ?_;by_cases j':q=0
 ·have i:decide ((q:Int)=0)=true:=dH U
  simp only[i,pz];refine O ?_;exact bo (v:=.bool true) rfl rfl ⟨true,M',fv,fs,rfl,m.done j',Y⟩
 have i:decide ((q:Int)=0)=false:=dB U;simp only[i,r5];obtain⟨v,hv⟩:=QA j';have H':=m.qp v hv.1;have _a:=m.bi.pb v H';refine O ?_;refine aR rfl (wM Y hT S hv) ?_;rintro _ w' ⟨rfl,rfl⟩;refine⟨_,rfl,?_⟩;have z:2 ^ v<18446744073709551616:=zX D fun u hu=>by rw[HS.1 hu];exact _a
 have J':1*2 ^ v % 18446744073709551616=2 ^ v:=by rw[x8,HT z]
 have _h:¬ib (near.getD v ed.dflt) v:=hG.KZ v;have P':∀ u,ib (R ||| 2 ^ v) u↔ib R u\/u=v:=fun u=>by rw[E0,HS]
 have R':∀ u,ib (pp &&& near.getD v ed.dflt) u↔ib pp u/\ib (near.getD v ed.dflt) u:=fun u=>K0;have _i:∀ u,ib (xx &&& near.getD v ed.dflt) u↔ib xx u/\ib (near.getD v ed.dflt) u:=fun u=>K0;have _d:(Fs++M'.map fun C=>ee C near.length).length=Fs.length+M'.length:=sm;refine O ?_;refine gi (pl [0,1,2,3,4,5,6,7,8,9,10,11,12,13,14,15,16,17,18,19,20,21,22,23,24] []) Y kr ?_;clear Y;intro w Y;refine O ?_;refine fR rfl (DF (a:=1) (b:=v) (k:=.i64) rfl rfl U) ?_;rw[J'];refine O ?_;refine fR rfl (DD (a:=R) (b:=2 ^ v) rfl rfl T' z) ?_;refine O ?_;refine fR rfl (zY (a:=pp) (b:=near.getD v ed.dflt) rfl rfl V (o v)) ?_;refine O ?_;refine fR rfl (zY (a:=xx) (b:=near.getD v ed.dflt) rfl rfl _c (o v)) ?_;refine O ?_;refine aR rfl (ih (pp &&& near.getD v ed.dflt) (Cr (Yd H' _h) m.K1) (R ||| 2 ^ v) (xx &&& near.getD v ed.dflt) (m.bi.child hG H' P' R' _i) (by rw[_d];exact m.le) Y) ?_;clear Y;rintro _ w ⟨r,M1,c,_e,rfl,hf,Y⟩;rw[_d]at hf;rw[fk,<-qG]at Y;refine⟨_,rfl,?_⟩;cases r
 ·refine O ?_
  exact bo (v:=.bool false) rfl rfl ⟨false,M'++M1,c,_e,rfl,m.fail hG hv.1 P' R' hf,Y⟩
 refine O ?_;refine fR rfl (DF (a:=1) (b:=v) (k:=.i64) rfl rfl U) ?_;rw[J'];refine fR rfl (QD (a:=pp) (b:=2 ^ v) rfl rfl V z) ?_;refine O ?_;refine fR rfl (DF (a:=1) (b:=v) (k:=.i64) rfl rfl U) ?_;rw[J'];refine fR rfl (DD (a:=xx) (b:=2 ^ v) rfl rfl _c z) ?_;refine O ?_;refine fR rfl (HR (a:=q) (b:=1) rfl rfl U S) ?_;refine fR rfl (zY (a:=q) (b:=q-1) rfl rfl S U) ?_;refine O ?_;exact⟨(q &&& (q-1),pp &&& rQ (2 ^ v),xx ||| 2 ^ v,M'++M1,c,_e),⟨rfl,rfl,rfl,az⟩,aX,⟨m.step hG hv.1 P' R' hf (fun u=>by rw[QE V z,HS]) (fun u=>by rw[E0,HS]) (fun u=>QC hv u) DE,Y⟩,QB j'⟩
end
section
open Go.Sl Go Go.Shelf Go.Sort
attribute [local irreducible] vc opsW opsD opV opW PureV ReadV Thn Blk
def Ye {m:Nat}(F:Nat->J):SWO (ltOf fun (i j:Fin m)=>gb (F i.1) (F j.1)) where
 irrefl x:=by simp[ltOf,QF]
 trans x y z h1 b:=by
  simp only[ltOf,jV]at h1 b ⊢;exact K2 h1 b
 ntrans x y z h1 b:=by
  simp only[ltOf,rL]at h1 b ⊢;intro c;by_cases e:gb (F x.1) (F y.1)=0
  ·rw[K3 e]at c;exact b c
  have d:gb (F y.1) (F x.1)<0:=by have:=K4 (F x.1) (F y.1);omega
  exact b (K2 d c)
def Yf {L:List α}(h:L.Nodup){i j:Nat}(hi:i<L.length)(b:j<L.length)(e:L[i]=L[j]):i=j:=by
 rcases Nat.lt_trichotomy i j with h1|h1|h1
 ·exact absurd e (u9.1 h i j hi b h1)
 ·exact h1
 exact absurd e.symm (u9.1 h j i b hi h1)
def Yg {w:World}{Γ:List HP}{fv:Value}{fs:List Value}{Fs:List J}(Y:Z w0 w (X aA 22 fv fs::ai W 3 fs Fs::Γ))(T:Fs.Nodup)(h0:0<Fs.length)(hn:Fs.length<=8192) :
  Calls ak 140 #[fv,.func (.func 141) #[] #[]] w fun e w'=>e=.returned (.tuple #[])/\∃ is:List Nat,is.Perm (List.range Fs.length)/\C5 (is.map fun i=>Fs.getD i []) /\
   Z w0 w' (X aA 22 fv (is.map (cL fs))::ai W 3 (is.map (cL fs)) (is.map fun i=>Fs.getD i [])::Γ):=by
 have V:fs.length=Fs.length:=(Y.bN 1 rfl).bU;obtain⟨m,hm⟩:=À Fs.length
 haveI:Inhabited (Fin m):=⟨⟨0,U⟩⟩
 let enc:Fin m->Value:=fun i=>cL fs i.1
 have l:∀ x:Fin m,(enc x).oneCell'=true:=fun x=>((Y.bN 1 rfl).row (i:=x.1) (by have:=x.2;omega)).one;have A:(finRange m).map enc=fs:=by
  apply jB (by simp;omega);intro i h1 d;simp only[getElem_map,enc,qL];simp[List.getD,d]
 have B:Z w0 w (X aA 22 fv ((finRange m).map enc)::ai W 3 fs Fs::Γ):=by rw[A];exact Y
 rcases B.Dm enc with ⟨_,o⟩|⟨b,off,cap,rfl,hc,hb,hH,f⟩
 ·have:=uZ List.length o
  simp at this;omega
 have h:(finRange m).toArray.size=m:=sm;have r:CmpLays1 ak 141 #[] enc (fun i j=>gb (Fs.getD i.1 []) (Fs.getD j.1 [])) b off (finRange m).toArray.size w:=by
  intro q os c v x y;have h1:=(f c.toList (by simp at v ⊢;exact v) q).grow os;have C:c.toList.toArray=c:=sm;rw[C]at h1;refine(Yh ((h1.bN 1 rfl).row (i:=x.1) (by have:=x.2;omega)) ((h1.bN 1 rfl).row (i:=y.1) (by have:=y.2;omega))).mono ?_;rintro e w' ⟨he,rfl⟩;exact⟨he,0,#[],by rw[World.drewN_zero,grow_empty];rfl⟩
 have hS:=Any.slices_SortFunc O5 enc l (fun i j=>gb (Fs.getD i.1 []) (Fs.getD j.1 [])) (Ye fun i=>Fs.getD i []) 141 #[] b off cap (finRange m).toArray w (fun args w=>au.run inferInstance args w) r hH hb (by rw[h];omega);have S:(finRange m).length=(finRange m).toArray.size:=sm;rw[S];refine hS.mono ?_;rintro e w' ⟨he,c,q,os,hp,v,rfl⟩;obtain⟨D,_,F⟩:=hp;rw[h]at D v F;have G:c.toList.Perm (finRange m):=by
  have z:c.extract 0 m=c:=by
   have:=K5 (xs:=c)
   rwa[D]at this
  have H:(finRange m).toArray.extract 0 m=(finRange m).toArray:=by
   have:=K5 (xs:=(finRange m).toArray)
   rwa[h]at this
  rw[z,H]at F
  simpa using F
 refine⟨he,c.toList.map (·.1),?_,?_,?_⟩
 ·have h1:=G.map (fun i:Fin m=>i.1)
  have d:(finRange m).map (fun i:Fin m=>i.1)=List.range m:=by
   apply jB sm;intro i h1 d;simp
  rw[d]at h1;rw[<-hm];exact h1
 ·have H:c.toList.Nodup:=G.nodup_iff.2 (nodup_finRange m)
  rw[Bb];refine zB.2 ?_;rw[u9];intro i j hi K z;simp only[E7]at hi K;have h1:=v i j (bC _) z U;rw[getElem!_pos c j K,getElem!_pos c i hi]at h1;simp only[ltOf,rL]at h1;have P:c[i]≠c[j]:=fun e=>by
   have:=u9.1 H i j (by simpa using hi) (by simpa using K) z;simp only[QG]at this;exact this e
  simp only[Function.comp,QG];have j':=K4 (Fs.getD c[i].1 []) (Fs.getD c[j].1 []);have H':gb (Fs.getD c[i].1 []) (Fs.getD c[j].1 [])≠0:=fun e=>by
   have R:=K3 e;have b1:=c[i].2;have b2:=c[j].2;rw[ow,ow,mL U,mL U]at R;simp only[Option.getD_some]at R;exact P (Fin.ext (Yf T U U R))
  omega
 have h1:=(f c.toList (by simp[D]) q).grow os;have C:c.toList.toArray=c:=sm;rw[C]at h1;have d:Z w0 (grow (putRow enc (Sort.ahead w q) b off c) os) (ai W 3 fs Fs::X aA 22 (.slice (some ⟨b,off,none⟩) (finRange m).toArray.size cap) (c.toList.map enc)::Γ):=by
  rw[<-S];exact h1.swap
 have z:=d.zm (is:=c.toList.map (·.1)) (by
  have h1:=G.map (fun i:Fin m=>i.1);have d:(finRange m).map (fun i:Fin m=>i.1)=List.range m:=by
   apply jB sm;intro i h1 d;simp
  rw[d]at h1;rw[<-hm]
  exact h1)
 have H:c.toList.map enc=(c.toList.map (·.1)).map (cL fs):=by rw[Bb];rfl
 rw[H]at z;exact z.swap
end
section
open Go.Sl Go
attribute [local irreducible] vc opsW opsD opV opW PureV ReadV Thn Blk
def K6 (n v:Nat):ib (2 ^ n-1) v↔v<n:=by unfold ib;rw[testBit_two_pow_sub_one,jV]
def Yi:BI n N 0 (2 ^ n-1) 0 where
 rb v hv:=absurd hv (wX rfl v)
 pb v hv:=(K6 n v).1 hv
 xb v hv:=absurd hv (wX rfl v)
 uN u v hu:=absurd hu (wX rfl u)
 x9 u _ r b:=absurd b (wX rfl r)
 all u hu _:=.inl ((K6 n u).2 hu)
def K7 {C:Nat}:lF n N 0 (2 ^ n-1) C↔sV n N C :=
 ⟨fun h=>h.mx,fun h=>⟨h,fun v hv=>absurd hv (wX rfl v),fun v hv=>.inr ((K6 n v).2 (h.bd v hv))⟩⟩
def QH {M':List Nat}(c:M'.Nodup)(hm:∀ C∈M',sV n N C):(M'.map fun C=>ee C n).Nodup:=by
 refine zB.2 (DG (fun d f b e=>?_) c);exact b (Yj (hm _ d).bd (hm _ f).bd e)
def j8 (n:Nat)(N:Nat->Nat):Prop:=∃ M':List Nat,M'.Nodup/\M'.length=4097/\∀ C∈M',sV n N C
def Yk {n:Int}{a:Value}{arcs:List mh}(K:RS bO w0 a arcs)(hT:nc w0) :
  Calls ak 108 #[E n,a] w0 fun e w' =>
   (cI n arcs≠0/\e=.returned (.tuple #[nS,bS (cI n arcs)])/\Z w0 w' []) \/
   (cI n arcs=0/\32<n/\e=.returned (.tuple #[nS,bS 5])/\Z w0 w' []) \/
   (cI n arcs=0/\n=0/\e=.returned (.tuple #[nS,.nilIface])/\Z w0 w' []) \/
   (cI n arcs=0/\0<n/\n<=32/\j8 n.toNat (tJ n.toNat arcs)/\e=.returned (.tuple #[nS,bS 10])/\Z w0 w' []) \/
   (cI n arcs=0/\0<n/\n<=32/\∃ fv fs Cs,e=.returned (.tuple #[fv,.nilIface])/\C5 Cs/\mb n.toNat (tJ n.toNat arcs) Cs/\Cs.length<=4096/\Z w0 w' [ai W 3 fs Cs,X aA 22 fv fs]):=by
 have P':=K.cn;have Y:=Z.start w0;refine bI ar Tryz.func108 ?_;refine O ?_;refine aR rfl (X7 K) ?_;rintro _ w' ⟨rfl,aw⟩;refine aL ?_;clear aw Y;intro Y;by_cases q:cI n arcs=0;rotate_left
 ·rw[c9 q]
  refine O ?_;exact dw (v:=nS) (v':=.iface 57 (E (cI n arcs))) rfl rfl rfl (.inl ⟨q,rfl,Y⟩)
 rw[ff q];obtain⟨y,R',T',bX⟩:=Yl q;have d:∀ a∈arcs,fV (n.toNat:Int) a:=by rw[jW y];exact bX
 refine aC ?_ ?_<;>intro h1
 ·refine O ?_
  exact dw (v:=nS) (v':=.iface 57 (E 5)) rfl rfl rfl (.inr (.inl ⟨q,h1,by rw[c9 dc],Y⟩))
 refine aC ?_ ?_<;>intro D
 ·refine O ?_
  exact dw (v:=nS) (v':=.nilIface) rfl rfl rfl (.inr (.inr (.inl ⟨q,D,rfl,Y⟩)))
 refine O ?_;refine Ct ed 0 (n:=n) rfl rfl rfl rfl y U U Y ?_;clear Y;intro f w Y;have P:=(Y.rs 0 rfl).one;refine K8 (v1:=f) rfl rfl (by simp only[fo,fB,P];rfl) ?_;refine zx (vs:=[f,nS]) rfl Y ?_;clear Y;intro z w Y;refine O ?_;have j:Z w0 w [am z 230 [f,nS],X ed 220 f (fK n.toNat arcs 0)]:=Y;clear Y;refine de [9,9,27,62] (G:=Nat) (fun k=>[(27,E k)]) (fun k w=>k<=arcs.length/\Z w0 w [am z 230 [f,nS],X ed 220 f (fK n.toNat arcs k)]) (fun k=>arcs.length-k) 0 (fun _=>rfl) ⟨rfl,az⟩ ⟨bC _,j⟩ ?_;clear j;rintro σ k w ⟨hk,Y⟩;refine aC ?_ ?_<;>intro h3
 ·have m:k<arcs.length:=U
  have A:=bX _ (cS bO.dflt m);unfold fV at A;have o:=HU (n:=n.toNat) (arcs:=arcs) k U;have F:∀ x,(fK n.toNat arcs k).getD x ed.dflt<18446744073709551616:=fun x=>by
   have h1:=Ym (n:=n.toNat) (x:=x) d (show k<=arcs.length by omega);have D:2 ^ n.toNat<=2 ^ 32:=zA dc U;omega
  have C:∀ u:Nat,(u:Int)<n->1*2 ^ u % 18446744073709551616=2 ^ u/\2 ^ u<18446744073709551616:=fun u hu=>by
   have D:2 ^ u<2 ^ 64:=Nat.pow_lt_pow_right dc U;exact⟨by rw[x8,HT D],D⟩
  refine Yn ?_;intro p w Y;by_cases he:(arcs.getD k bO.dflt).br=(arcs.getD k bO.dflt).dst
  ·have B:decide ((arcs.getD k bO.dflt).br=(arcs.getD k bO.dflt).dst)=true:=dH he
   simp only[B,pz];refine O ?_;have c:rh (fK n.toNat arcs k) (arcs.getD k bO.dflt)=(fK n.toNat arcs k):=ba he;rw[<-HV m]at c;rw[<-c]at Y;exact⟨k+1,⟨rfl,az⟩,aX,⟨U,Y.tail⟩,U⟩
  have B:decide ((arcs.getD k bO.dflt).br=(arcs.getD k bO.dflt).dst)=false:=dB he;simp only[B,r5];have c:rh (fK n.toNat arcs k) (arcs.getD k bO.dflt)=nE (nE (fK n.toNat arcs k) (arcs.getD k bO.dflt).br.toNat (arcs.getD k bO.dflt).dst.toNat) (arcs.getD k bO.dflt).dst.toNat (arcs.getD k bO.dflt).br.toNat:=aM he;rw[<-HV m]at c;obtain⟨R,S⟩:=C (arcs.getD k bO.dflt).dst.toNat U;obtain⟨V,e4⟩:=C (arcs.getD k bO.dflt).br.toNat U;refine O ?_;refine gi (pl [0,1,2,3,4,5,6,7,8,9,10,11,12,13] []) Y kr ?_;clear Y;intro w Y;refine O ?_;refine fR rfl (DF (a:=1) (b:=(arcs.getD k bO.dflt).dst.toNat) (k:=.i64) rfl (by rw[jW A.2.2.1];rfl) U) ?_;rw[R];refine O ?_;refine fR rfl (DD (a:=(fK n.toNat arcs k).getD (arcs.getD k bO.dflt).br.toNat ed.dflt) (b:=2 ^ (arcs.getD k bO.dflt).dst.toNat) rfl rfl (F _) S) ?_;refine jD ?_;intro w Y;have j':=QI (fK n.toNat arcs k) (arcs.getD k bO.dflt).br.toNat (arcs.getD k bO.dflt).dst.toNat;have H:∀ x,(nE (fK n.toNat arcs k) (arcs.getD k bO.dflt).br.toNat (arcs.getD k bO.dflt).dst.toNat).getD x ed.dflt<18446744073709551616:=fun x=>zX (n:=n.toNat) U fun v hv=>by
   rcases (K9 U).1 hv with h|⟨_,h⟩
   ·exact(oM.lt (arcs:=arcs.take k) (fun a K=>d a (rZ K)) ((HW d k U).1 h)).2
   omega
  have Y:Z w0 w [am p 181 (bO.enc (arcs.getD k bO.dflt)),am z 230 [f,nS],X ed 220 f (nE (fK n.toNat arcs k) (arcs.getD k bO.dflt).br.toNat (arcs.getD k bO.dflt).dst.toNat)]:=Y;refine gi (pl [0,1,2,3,4,5,6,7,8,9,10,11,12,13] []) Y kr ?_;clear Y;intro w Y;refine O ?_;refine fR rfl (DF (a:=1) (b:=(arcs.getD k bO.dflt).br.toNat) (k:=.i64) rfl (by rw[jW A.1];rfl) U) ?_;rw[V];refine O ?_;refine fR rfl (DD (a:=(nE (fK n.toNat arcs k) (arcs.getD k bO.dflt).br.toNat (arcs.getD k bO.dflt).dst.toNat).getD (arcs.getD k bO.dflt).dst.toNat ed.dflt) (b:=2 ^ (arcs.getD k bO.dflt).br.toNat) rfl rfl (H _) e4) ?_;refine jD ?_;intro w Y;have Y:Z w0 w [am p 181 (bO.enc (arcs.getD k bO.dflt)),am z 230 [f,nS],X ed 220 f (nE (nE (fK n.toNat arcs k) (arcs.getD k bO.dflt).br.toNat (arcs.getD k bO.dflt).dst.toNat) (arcs.getD k bO.dflt).dst.toNat (arcs.getD k bO.dflt).br.toNat)]:=Y;rw[<-c]at Y;exact⟨k+1,⟨rfl,az⟩,aX,⟨U,Y.tail⟩,U⟩
 have R:k=arcs.length:=U;subst R;have hG:Gr n.toNat (tJ n.toNat arcs):=QJ d;have o:(wy n.toNat arcs).length=n.toNat:=HU _ (cP _);have F:2 ^ n.toNat<18446744073709551616:=by
  have D:2 ^ n.toNat<=2 ^ 32:=zA dc U;omega
 have S:1*2 ^ n.toNat % 18446744073709551616=2 ^ n.toNat:=by rw[x8,HT F]
 have V:1<=2 ^ n.toNat:=Nat.two_pow_pos _;have j:Z w0 w [X aA 22 (nS) [],ai W 3 [] [],am z 230 [f,nS],X ed 220 f (wy n.toNat arcs)]:=by
  have h1:=(Y.pH (T:=W) (e:=3)).nil (T:=aA) (e:=22);exact h1
 clear Y;have Y:=j;clear j;refine O ?_;refine fR rfl (DF (a:=1) (b:=n.toNat) (k:=.i64) rfl (by rw[jW y];rfl) U) ?_;rw[S];refine fR rfl (HR (a:=2 ^ n.toNat) (b:=1) rfl rfl V F) ?_;have hF:=xH (w0:=w0) (pf:=z) (nv:=f) (near:=wy n.toNat arcs) U (by rw[o];exact hG) hT (2 ^ n.toNat-1) 0 0 (w:=w) (fv:=nS) (fs:=[]) (Fs:=[]) (by rw[o];exact Yi) (bC _) Y;refine aR rfl hF ?_;clear Y hF;rintro _ w ⟨r,M',fv,fs,rfl,m,Y⟩;rw[o]at m Y;replace m:kY n.toNat (tJ n.toNat arcs) 0 (2 ^ n.toNat-1) 0 r M':=m;rw[lQ]at Y;have A:∀ C∈M',sV n.toNat (tJ n.toNat arcs) C:=fun C B=>K7.1 (m.mem C B);refine⟨_,rfl,?_⟩;cases r
 ·refine O ?_
  exact dw (v:=nS) (v':=.iface 57 (E 10)) rfl rfl rfl (.inr (.inr (.inr (.inl ⟨q,U,h1,⟨M',m.nd,by have:=m.gt rfl;omega,A⟩,by rw[c9 dc],Y.bj⟩))))
 have V':=m.le rfl;have j':M'≠[]:=fun e=>by
  obtain⟨C,B,_⟩:=QK hG _ 0 ⟨fun v hv=>absurd hv (wX rfl v),fun u v hu=>absurd hu (wX rfl u)⟩ (cP _);have:=m.all rfl C (K7.2 B);rw[e]at this;simp at this
 have _a:0<M'.length:=La.2 j';have H':=QH m.nd A;have _b:(M'.map fun C=>ee C n.toNat).length=M'.length:=lA _;refine O ?_;refine aR rfl (Yg (fv:=fv) (fs:=fs) (Fs:=M'.map fun C=>ee C n.toNat) Y H' U U) ?_;clear Y;rintro _ w ⟨rfl,is,c,H,Y⟩;refine⟨_,rfl,?_⟩;refine O ?_;refine dw (v:=fv) (v':=.nilIface) rfl rfl rfl (.inr (.inr (.inr (.inr ⟨q,U,h1,fv,is.map (cL fs),_,rfl,H,fun l=>?_,?_,Y.bj⟩))))
 ·rw[iG]
  constructor
  ·rintro⟨i,hi,rfl⟩
   have J':i<(M'.map fun C=>ee C n.toNat).length:=mem_range.1 (c.mem_iff.1 hi);have:=cS [] J';obtain⟨C,B,e⟩:=iG.1 this;exact⟨C,A C B,e.symm⟩
  rintro⟨C,B,rfl⟩;have h5:ee C n.toNat∈M'.map fun C=>ee C n.toNat:=iG.2 ⟨C,m.all rfl C (K7.2 B),rfl⟩;obtain⟨i,hi,e⟩:=ga h5;refine⟨i,c.mem_iff.2 (mem_range.2 hi),?_⟩;rw[aq hi,e]
 rw[lA,c.length_eq,E8];omega
def Yo {a b c d s:Value}{vs:List kq}{ss:List Value}{Ls:List J}(V:bR w0 a b c d vs t)(o:tT w0 s ss Ls)(hT:nc w0) :
  Calls ak 81 #[.agg #[a,b,c,d],s] w0 fun e w' =>
   (ir t Ls≠0/\e=.returned (.tuple #[nS,bS (ir t Ls)])/\Z w0 w' []) \/
   (ir t Ls=0/\32<Ls.length/\e=.returned (.tuple #[nS,bS 5])/\Z w0 w' []) \/
   (ir t Ls=0/\Ls.length=0/\e=.returned (.tuple #[nS,.nilIface])/\Z w0 w' []) \/
   (ir t Ls=0/\0<Ls.length/\Ls.length<=32/\j8 Ls.length (tJ Ls.length (gX t Ls Ls.length))/\e=.returned (.tuple #[nS,bS 10])/\Z w0 w' []) \/
   (ir t Ls=0/\0<Ls.length/\Ls.length<=32/\∃ fv fs Cs,e=.returned (.tuple #[fv,.nilIface])/\C5 Cs/\mb Ls.length (tJ Ls.length (gX t Ls Ls.length)) Cs/\Cs.length<=4096/\Z w0 w' [ai W 3 fs Cs,X aA 22 fv fs]):=by
 have D:=o.rs;have F:=o.len;have j':=D.cn;have Y:=Z.start w0;refine bI ar Tryz.func81 ?_;refine ep ?_;intro C w Y;refine aR rfl (Yp (V.at Y) (o.at Y)) ?_;rintro _ w' ⟨rfl,aw⟩;refine aL ?_;clear aw Y;intro Y;by_cases hk:ir t Ls=0;rotate_left
 ·rw[c9 hk]
  refine O ?_;exact dw (v:=nS) (v':=.iface 57 (E (ir t Ls))) rfl rfl rfl (.inl ⟨hk,rfl,Y.bj⟩)
 rw[ff hk];refine aC ?_ ?_<;>intro K
 ·refine O ?_
  exact dw (v:=nS) (v':=.iface 57 (E 5)) rfl rfl rfl (.inr (.inl ⟨hk,U,by rw[c9 dc],Y.bj⟩))
 refine aC ?_ ?_<;>intro h0
 ·refine O ?_
  exact dw (v:=nS) (v':=.nilIface) rfl rfl rfl (.inr (.inr (.inl ⟨hk,U,rfl,Y.bj⟩)))
 have f:Ls.length<=32:=U;have q:0<Ls.length:=U;refine O ?_;have j:Z w0 w' [X bO 181 (nS) (gX t Ls 0),am C 26 [a,b,c,d]]:=Y.nil (T:=bO) (e:=181);clear Y;refine dP [7,10,26,49] (G:=Nat) (H:=Value) (fun i l=>[(26,E i),(7,l)]) (fun i l w=>i<=Ls.length/\Z w0 w [X bO 181 l (gX t Ls i),am C 26 [a,b,c,d]]) (fun i _=>Ls.length-i) 0 (nS) (fun _ _=>rfl) ⟨rfl,rfl,az⟩ ⟨bC _,j⟩ ?_;clear j;rintro σ i l w ⟨hi,Y⟩;refine aC ?_ ?_<;>intro h1
 ·have x:i<Ls.length:=U
  have P:=Lb (t:=t) (Ls:=Ls) i U;refine O ?_;have j:Z w0 w [X bO 181 l (gX t Ls i++lV t Ls i 0),am C 26 [a,b,c,d]]:=by rw[show lV t Ls i 0=[] from rfl,gj];exact Y
  clear Y;refine dP [7,7,10,10,32,48] (G:=Nat) (H:=Value) (fun k l=>[(32,E k),(7,l)]) (fun k l w=>k<=i/\Z w0 w [X bO 181 l (gX t Ls i++lV t Ls i k),am C 26 [a,b,c,d]]) (fun k _=>i-k) 0 l (fun _ _=>rfl) ⟨rfl,rfl,az⟩ ⟨bC _,j⟩ ?_;clear j;rintro R k m w ⟨S,Y⟩;refine aC ?_ ?_<;>intro h2
  ·have H':k<i:=U
   have J':=Lc (t:=t) (Ls:=Ls) (i:=i) k;have A:k<Ls.length:=U;refine O ?_;refine gi (pl [0,1,2,3,4,5,6] []) Y kr ?_;clear Y;intro w Y;refine O ?_;have P':(gX t Ls i++lV t Ls i k).length<=4096:=by rw[length_append];omega
   refine aR rfl (Yq (V.at Y) ((o.eI i x).at Y) ((o.eI k A).at Y)) ?_;rintro _ w' ⟨⟨r,rfl,B⟩,aw⟩;refine aL ?_;clear aw Y;intro Y;cases r
   ·refine O ?_
    exact⟨k+1,m,⟨rfl,rfl,az⟩,aX,⟨U,by rw[Ld (fun h=>by have:=B.2 h;cases this)];exact Y⟩,U⟩
   refine O ?_;refine jA bO (x1:=⟨(k:Int),(i:Int),1⟩) rfl rfl rfl (fP rfl) (fg _) Y ?_;clear Y;intro bs w Y
   refine sF (s:=m) (s2:=bs) inferInstance rfl rfl (bB Y) rfl rfl (fun y hy v hv=>by
    rw[fU.1 hy]at hv;simp only[bO,gT,jd,pQ]at hv
    rcases hv with rfl|rfl|rfl<;>rfl) (by simp only[length_cons,length_nil];omega) (by unfold cn;simp only[length_cons,length_nil];omega) Y ?_
   clear Y;intro s' w Y;refine O ?_;refine⟨k+1,s',⟨rfl,rfl,az⟩,aX,⟨U,?_⟩,U⟩;rw[Le (B.1 rfl),<-fk];exact Y.tail
  have A:k=i:=U;subst A;rw[Yr]at Y;refine O ?_;exact⟨k+1,m,⟨rfl,rfl,az⟩,aX,⟨U,Y⟩,U⟩
 have P:i=Ls.length:=U;subst P;have m:=Ys (t:=t) (Ls:=Ls) f;refine O ?_;obtain⟨z,x⟩:∃ z:Nat,z=Ls.length:=⟨_,rfl⟩
 rw[<-x]at m Y;refine aR rfl (Yk (n:=(ss.length:Int)) (a:=l) (arcs:=gX t Ls z) (bB Y) (hT.at Y)) ?_;rw[F,<-x];rintro _ w' R;rw[jU]at R;rw[x]at R m Y ⊢;clear x;rcases R with ⟨hc,_⟩|⟨_,K,_⟩|⟨_,x,_⟩|⟨_,h0,_,hF,rfl,aw⟩|⟨_,h0,_,fv,fs,Cs,rfl,A,S,B,aw⟩
 ·exact absurd m hc
 ·exfalso;omega
 ·exfalso;omega
 ·replace Y:=Y.cH aw
  clear aw;refine⟨_,rfl,?_⟩;refine O ?_;exact dw (v:=nS) (v':=bS 10) rfl rfl rfl (.inr (.inr (.inr (.inl ⟨hk,q,f,hF,rfl,Y.bj⟩))))
 replace Y:=Y.wz aw;clear aw;refine⟨_,rfl,?_⟩;refine O ?_;exact dw (v:=fv) (v':=.nilIface) rfl rfl rfl (.inr (.inr (.inr (.inr ⟨hk,q,f,fv,fs,Cs,rfl,A,S,B,Y.bj⟩))))
end
section
open Go.Sl
def lB (g:Nat->List α)(lo hi:Nat):List α:=(range' lo (hi-lo)).flatMap g
def wY (h:hi<=lo):lB g lo hi=[]:=by
 unfold lB;simp_all
def sG (h:lo<=hi):lB g lo (hi+1)=lB g lo hi++g hi:=by
 unfold lB;rw[show hi+1-lo=hi-lo+1 by omega,range'_concat,ya]
 grind
def E9 {x:α}:x∈lB g lo hi↔∃ k,lo<=k/\k<hi/\x∈g k:=by
 unfold lB
 grind
def zZ {b:Nat->List α}(h:∀ k,lo<=k->k<hi->g k=b k):lB g lo hi=lB b lo hi:=by
 unfold lB;have key:∀ l:List Nat,(∀ k∈l,g k=b k)->l.flatMap g=l.flatMap b:=by
  intro l
  induction l with
  | nil=>intro _;rfl
  | cons x l c=>grind
 grind
def DH (p:α->Bool):(lB g lo hi).filter p=lB (fun k=>(g k).filter p) lo hi:=by
 unfold lB;generalize range' lo (hi-lo)=l
 induction l with
 | nil=>rfl
 | cons x l b=>grind
def Lf {β:Type}(f:α->List β):(lB g lo hi).flatMap f=lB (fun k=>(g k).flatMap f) lo hi:=by
 unfold lB;rw[flatMap_assoc]
def Lg {α:Type}{g:Nat->List α}{lo b:Nat}(c:∀ k,(g k).length<=b):∀ {hi:Nat},(lB g lo hi).length<=(hi-lo)*b
 | 0=>by rw[wY (bC _)];grind
 | hi+1=>by
  by_cases h:lo<=hi
  ·have d:=Lg (g:=g) (lo:=lo) c (hi:=hi)
   have:=c hi;rw[sG h,length_append,show hi+1-lo=hi-lo+1 by omega,z6];omega
  rw[wY U];grind
def kA (l:List bE)(u:Int):Prop:=∃ f∈l,f.var=u
def AM (o:mM)(u v:Int):Prop:=∃ e∈o.aQ,e.var=v/\(kA o.pre u\/kA e.cb u\/∃ d∈o.aQ,d.var=u)
def sW (t:aa)(u v:Int):Prop:=u≠v/\∃ op,op<t.M.length/\AM (t.M.getD op bz) u v
def eM (t:aa)(u v:Int):Prop:=sW t u v\/sW t v u
def eM.symm {t:aa}{u v:Int}(h:eM t u v):eM t v u:=Or.symm h
def yL (t:aa)(p:J):Prop:=∃ v∈p,∃ f∈t.aF,f.var=v
inductive CR (t:aa) (p:J):Nat->Prop
 | fC:CR t p 0
 | step {i j:Nat}:CR t p i->i<p.length->j<p.length->eM t (p.getD i W.dflt) (p.getD j W.dflt)->CR t p j
def wA (t:aa)(p:J):Prop:=∀ i,i<p.length->CR t p i
def Yt {a:Int}:wA t [a]:=fun i hi=>by
 have:i=0:=by simpa using hi
 subst this;exact .fC
def Yu {a b:Int}:wA t [a,b]↔eM t a b:=by
 constructor
 ·intro h
  have key:∀ j,CR t [a,b] j->j=1->eM t a b:=by
   intro j c
   induction c with
   | fC=>omega
   | @step i j _ hi c d e =>
    grind
  exact key 1 (h 1 sm) rfl
 intro h i hi;have:i=0\/i=1:=by simp at hi;omega
 rcases this with rfl|rfl
 ·exact .fC
 exact .step .fC sm sm h
def Yv {a b c:Int}:wA t [a,b,c]↔(eM t a b/\eM t b c)\/(eM t a b/\eM t a c)\/(eM t a c/\eM t b c):=by
 constructor
 ·intro h
  by_cases l:eM t a b
  ·by_cases e:eM t b c
   ·grind
   by_cases m:eM t a c
   ·grind
   exfalso;have key:∀ j,CR t [a,b,c] j->j≠2:=by
    intro j d
    induction d with
    | fC=>decide
    | @step i j _ hi d f o =>
     grind
   exact key 2 (h 2 sm) rfl
  by_cases m:eM t a c
  ·by_cases e:eM t b c
   ·grind
   exfalso;have key:∀ j,CR t [a,b,c] j->j≠1:=by
    intro j d
    induction d with
    | fC=>decide
    | @step i j _ hi d f o =>
     rintro rfl;have:i=0\/i=2:=by simp at hi;omega
     rcases this with rfl|rfl
     ·exact l f
     exact e f.symm
   exact key 1 (h 1 sm) rfl
  exfalso;have key:∀ j,CR t [a,b,c] j->j=0:=by
   intro j d
   induction d with
   | fC=>rfl
   | @step i j _ hi d f o =>
    grind
  have:=key 1 (h 1 sm);omega
 intro h i hi;have:i=0\/i=1\/i=2:=by simp at hi;omega
 have d:eM t a b->CR t [a,b,c] 1:=fun h=>.step .fC sm sm h;have e:eM t a c->CR t [a,b,c] 2:=fun h=>.step .fC sm sm h;rcases this with rfl|rfl|rfl
 ·exact .fC
 ·rcases h with h|h|h
  ·exact d h.1
  ·exact d h.1
  exact .step (e h.1) sm sm h.2.symm
 rcases h with h|h|h
 ·exact .step (d h.1) sm sm h.2
 ·exact e h.2
 grind
def qf (t:aa)(p:J):Prop:=yL t p/\wA t p
open Classical in
noncomputable def wZ (t:aa)(p:J):List J:=if qf t p then [p] else []
def Lh {p:J}(h:qf t p):wZ t p=[p]:=ba h
def Li {p:J}(h:¬qf t p):wZ t p=[]:=aM h
noncomputable def wc (t:aa)(k:Nat):List J:=lB (fun a=>wZ t [(a:Int)]) 0 k
noncomputable def w5 (t:aa)(a k:Nat):List J:=lB (fun b=>wZ t [(a:Int),(b:Int)]) (a+1) k
noncomputable def we (t:aa)(n k:Nat):List J:=lB (fun a=>w5 t a n) 0 k
noncomputable def xO (t:aa)(a b k:Nat):List J:=lB (fun c=>wZ t [(a:Int),(b:Int),(c:Int)]) (b+1) k
noncomputable def vd (t:aa)(n a k:Nat):List J:=lB (fun b=>xO t a b n) (a+1) k
noncomputable def tU (t:aa)(n k:Nat):List J:=lB (fun a=>vd t n a n) 0 k
def sq (p:J):Nat:=(p.getLastD (-1)+1).toNat
def Lj (n:Nat)(p:J)(k:Nat):List J:=lB (fun v=>[p++[(v:Int)]]) (sq p) k
def sH (n:Nat):Nat->List J
 | 0=>[[]]
 | m+1=>(sH n m).flatMap fun p=>Lj n p n
open Classical in
noncomputable def ke (t:aa)(m:Nat):List J:=(sH t.vars.length m).filter fun p=>decide (qf t p)
noncomputable def gE (t:aa)(k:Nat):List J:=lB (fun m=>ke t m) 1 (k+1)
def QL (n:Nat):sH n 1=lB (fun v=>[[(v:Int)]]) 0 n:=by
 show (sH n 0).flatMap _=_;rw[sH,pA,Cu,gj];rfl
def Lk (p:J)(a:Nat):sq (p++[(a:Int)])=a+1:=by
 unfold sq
 grind
def Yw (a:Nat):sq [(a:Int)]=a+1:=Lk [] a
def Yx (a b:Nat):sq [(a:Int),(b:Int)]=b+1:=Lk [(a:Int)] b
def QM (n:Nat):sH n 2=lB (fun a=>lB (fun b=>[[(a:Int),(b:Int)]]) (a+1) n) 0 n:=by
 show (sH n 1).flatMap _=_;rw[QL,Lf];refine zZ fun a _ _=>?_;rw[pA,Cu,gj];unfold Lj;rw[Yw];rfl
def Yy (n:Nat):sH n 3=lB (fun a=>lB (fun b=>lB (fun c=>[[(a:Int),(b:Int),(c:Int)]]) (b+1) n) (a+1) n) 0 n:=by
 show (sH n 2).flatMap _=_;rw[QM,Lf];refine zZ fun a _ _=>?_;rw[Lf];refine zZ fun b _ _=>?_;rw[pA,Cu,gj];unfold Lj;rw[Yx];rfl
open Classical in
def Ll (t:aa)(p:J):([p]:List J).filter (fun p=>decide (qf t p))=wZ t p:=by
 unfold wZ
 grind
def Lm (t:aa):ke t 1=wc t t.vars.length:=by
 unfold ke wc;rw[QL,DH];exact zZ fun a _ _=>Ll t _
def Ln (t:aa):ke t 2=we t t.vars.length t.vars.length:=by
 unfold ke we w5;rw[QM,DH];refine zZ fun a _ _=>?_;rw[DH];exact zZ fun b _ _=>Ll t _
def Lo (t:aa):ke t 3=tU t t.vars.length t.vars.length:=by
 unfold ke tU vd xO;rw[Yy,DH];refine zZ fun a _ _=>?_;rw[DH];refine zZ fun b _ _=>?_;rw[DH];exact zZ fun c _ _=>Ll t _
def Yz (t:aa):gE t 1=ke t 1:=by
 unfold gE;rw[sG dc,wY dc,lQ]
def QN (t:aa):gE t 2=ke t 1++ke t 2:=by
 unfold gE;rw[sG dc,sG dc,wY dc,lQ]
def YA (t:aa):gE t 3=ke t 1++ke t 2++ke t 3:=by
 unfold gE;rw[sG dc,sG dc,sG dc,wY dc,lQ]
def QO:∀ n,n<13->(sH n 1).length<=12/\(sH n 2).length<=66/\(sH n 3).length<=220:=by decide +kernel
def DI (m:Nat):(ke t m).length<=(sH t.vars.length m).length:=wV _ _
def Fa (b:t.vars.length<=12):(ke t 1).length<=12/\(ke t 2).length<=66/\(ke t 3).length<=220:=by
 have h:=QO t.vars.length U;have h1:=DI (t:=t) 1;have c:=DI (t:=t) 2;have d:=DI (t:=t) 3;omega
def DK {b:Nat}(h:hi<=b):(lB g lo hi).length<=(lB g lo b).length:=by
 induction b with
 | zero=>grind
 | succ m c =>
  by_cases e:hi=m+1
  ·grind
  have:=c U;by_cases d:lo<=m
  ·rw[sG d,length_append];omega
  rw[wY U];grind
def Lp (b:lo<=a)(h:a<hi):(lB g lo a).length+(g a).length<=(lB g lo hi).length:=by
 have:=DK (g:=g) (lo:=lo) (show a+1<=hi from h);rw[sG b,length_append]at this;exact this
def QP (b:t.vars.length<=12)(hk:k<=t.vars.length):(wc t k).length<=12:=by
 have:=(Fa b).1;rw[Lm]at this;have:=DK (g:=fun a=>wZ t [(a:Int)]) (lo:=0) hk;unfold wc at *
 omega
def QQ (c:t.vars.length<=12){b:Nat}(d:a<t.vars.length)(e:b<=t.vars.length):(we t t.vars.length a).length+(w5 t a b).length<=66:=by
 have h:=(Fa c).2.1;rw[Ln]at h;have h1:=Lp (g:=fun a=>w5 t a t.vars.length) (lo:=0) (bC a) d;have f:=DK (g:=fun b=>wZ t [(a:Int),(b:Int)]) (lo:=a+1) e;unfold we at *
 unfold w5 at *
 omega
def YB (e:t.vars.length<=12){b c:Nat}(f:a<t.vars.length)(d:a+1<=b)(i:b<t.vars.length)(j:c<=t.vars.length):(tU t t.vars.length a).length+(vd t t.vars.length a b).length+(xO t a b c).length<=220:=by
 have h:=(Fa e).2.2;rw[Lo]at h;have h1:=Lp (g:=fun a=>vd t t.vars.length a t.vars.length) (lo:=0) (bC a) f;have l:=Lp (g:=fun b=>xO t a b t.vars.length) (lo:=a+1) d i;have m:=DK (g:=fun c=>wZ t [(a:Int),(b:Int),(c:Int)]) (lo:=b+1) j;unfold tU at *
 unfold vd at *
 unfold xO at *
 omega
structure MI (M':List (List Bool)) (n:Nat) (Q:Nat->Nat->Prop):Prop where
 len:M'.length=n
 row:∀ v,v<n->(M'.getD v []).length=n
 eI:∀ v u,v<n->u<n->((M'.getD v []).getD u false=true↔Q v u)
def mC (M':List (List Bool))(v u:Nat)(b:Bool):List (List Bool):=M'.set v ((M'.getD v []).set u b)
def Cv {l:List α}{i j:Nat}{x d:α}:(l.set i x).getD j d=if i=j/\j<l.length then x else l.getD j d:=by
 grind
def MI.congr {b:Nat->Nat->Prop}(h:MI M' n Q)(e:∀ v u,v<n->u<n->(Q v u↔b v u)):MI M' n b:=⟨h.len,h.row,fun v u hv hu=>(h.eI v u hv hu).trans (e v u hv hu)⟩
def MI.xp (h:MI M' n Q){v:Nat}(hv:v<n)(hu:u<n):MI (mC M' v u true) n (fun x y=>Q x y\/(x=v/\y=u)):=by
 refine⟨by simp[mC,h.len],fun x hx=>?_,fun x y hx b=>?_⟩
 ·rw[mC,Cv]
  split
  ·rw[iU];exact h.row v hv
  exact h.row x hx
 rw[mC,Cv];by_cases e:v=x
 ·subst e
  rw[ba ⟨rfl,by rw[h.len];exact hv⟩,Cv];by_cases c:u=y
  ·subst c
   rw[ba ⟨rfl,by rw[h.row v hv];exact hu⟩];simp
  rw[aM (by simp[c]),h.eI v y hv b]
  grind
 rw[aM (by simp[e]),h.eI x y hx b]
 grind
def MI.O6 (h:MI M' n Q){v:Nat}(hv:v<n)(hu:u<n):MI (mC M' v u false) n (fun x y=>Q x y/\¬(x=v/\y=u)):=by
 refine⟨by simp[mC,h.len],fun x hx=>?_,fun x y hx b=>?_⟩
 ·rw[mC,Cv]
  split
  ·rw[iU];exact h.row v hv
  exact h.row x hx
 rw[mC,Cv];by_cases e:v=x
 ·subst e
  rw[ba ⟨rfl,by rw[h.len];exact hv⟩,Cv];by_cases c:u=y
  ·grind
  rw[aM (by simp[c]),h.eI v y hv b]
  grind
 rw[aM (by simp[e]),h.eI x y hx b]
 grind
def MI.rep (n:Nat):MI (replicate n (replicate n false)) n (fun _ _=>False):=by
 refine⟨mp,fun v hv=>?_,fun v u hv hu=>?_⟩
 ·grind
 grind
def tV (n k:Nat):List (List Bool):=(List.range n).map fun i=>if i<k then replicate n false else []
def QR (n k:Nat):(tV n k).length=n:=by simp[tV]
def QS (n:Nat):tV n 0=replicate n []:=by
 apply jB (by simp[tV]);intro i h1 b;simp[tV]
def QT (n:Nat):tV n n=replicate n (replicate n false):=by
 apply jB (by simp[tV]);intro i h1 b;have:i<n:=by simpa [tV] using h1
 simp[tV,this]
def QU:(tV n k).set k (replicate n false)=tV n (k+1):=by
 apply jB (by simp[tV]);intro i h1 b;rw[tS];simp only[tV,getElem_map,tI]
 grind
structure VI (L:List Bool) (n:Nat) (Q:Nat->Prop):Prop where
 len:L.length=n
 eI:∀ u,u<n->(L.getD u false=true↔Q u)
def VI.rep (n:Nat):VI (replicate n false) n (fun _=>False):=⟨mp,fun u hu=>by grind⟩
def VI.congr {Q b:Nat->Prop}(h:VI L n Q)(e:∀ u,u<n->(Q u↔b u)):VI L n b:=⟨h.len,fun u hu=>(h.eI u hu).trans (e u hu)⟩
def VI.xp {Q:Nat->Prop}(h:VI L n Q)(hu:u<n):VI (L.set u true) n (fun y=>Q y\/y=u):=by
 refine⟨by rw[iU];exact h.len,fun y b=>?_⟩;rw[Cv];by_cases e:u=y
 ·subst e
  rw[ba ⟨rfl,by rw[h.len];exact hu⟩];simp
 rw[aM (by simp[e]),h.eI y b]
 grind
noncomputable def gh (t:aa)(u k:Nat):List mh:=open Classical in lB (fun v=>if sW t (u:Int) (v:Int) then [⟨(u:Int),(v:Int),1⟩] else []) 0 k
noncomputable def bK (t:aa)(k:Nat):List mh:=lB (fun u=>gh t u t.vars.length) 0 k
def HX {a:mh}:a∈bK t t.vars.length↔∃ u v:Nat,u<t.vars.length/\v<t.vars.length/\sW t (u:Int) (v:Int)/\a=⟨(u:Int),(v:Int),1⟩:=by
 unfold bK gh;rw[E9];constructor
 ·rintro⟨u,_,hu,h⟩
  obtain⟨v,_,hv,h⟩:=E9.1 h
  grind
 rintro⟨u,v,hu,hv,b,rfl⟩;exact⟨u,bC _,hu,E9.2 ⟨v,bC _,hv,by grind⟩⟩
def QV (t:aa)(u k:Nat):(gh t u k).length<=k:=by
 have:=Lg (g:=fun v=>open Classical in if sW t (u:Int) (v:Int) then [(⟨(u:Int),(v:Int),1⟩:mh)] else []) (lo:=0) (b:=1) (fun k=>by grind) (hi:=k);unfold gh;omega
def QW (t:aa)(k:Nat):(bK t k).length<=k*t.vars.length:=by
 have:=Lg (g:=fun u=>gh t u t.vars.length) (lo:=0) (b:=t.vars.length) (fun u=>QV t u _) (hi:=k);unfold bK;exact this
end
end Go.Proofs.YtmapkjoefdgjfaaGreatDoor
