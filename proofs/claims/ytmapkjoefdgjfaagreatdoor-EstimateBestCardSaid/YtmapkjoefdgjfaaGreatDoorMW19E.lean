/- Several texts. -/
import Derived.Test.YtmapkjoefdgjfaaGreatDoorMW18E
set_option linter.unusedSimpArgs false
set_option linter.unusedVariables false
set_option linter.defProp false
set_option maxRecDepth 8000
set_option maxHeartbeats 16000000
open List Nat
namespace Go.Proofs.YtmapkjoefdgjfaaGreatDoor
open Go.Sl
variable {α:Type}{t:aa}{n lo hi a k u:Nat}{g:Nat->List α}{w0:World}{N:Nat->Nat}{M':List (List Bool)}{Q:Nat->Nat->Prop}{L:List Bool}
section
open Go.Sl Go
attribute [local irreducible] vc opsW opsD opV opW PureV ReadV Thn Blk
def VC {n:Int}{a:Value}{arcs:List kM}(d:RS bC w0 a arcs) :
  Calls ai 138 #[E n,a] w0 fun e w'=>e=.returned (bI (cq n arcs))/\Z w0 w' []:=by
 have f:=d.bU;have Y:=Z.start w0;refine bA an Tryz.func138 ?_;refine aB ?_ ?_<;>intro c
 ·refine O ?_
  refine bf (v:=.iface 57 (E 1)) rfl rfl ⟨?_,Y⟩;rw[VD c];rfl
 refine aB ?_ ?_<;>intro h1
 ·refine O ?_
  refine bf (v:=.iface 57 (E 5)) rfl rfl ⟨?_,Y⟩;rw[VE c U];rfl
 refine O ?_;refine cP [4,4,6,6,22,57] (G:=Nat) (fun k=>[(22,E k)]) (fun k w=>k<=arcs.length/\(∀ i,i<k->fg n (arcs.getD i bC.dflt))/\Z w0 w []) (fun k=>arcs.length-k) 0 (fun _=>rfl) ⟨rfl,az⟩ ⟨bu _,fun i hi=>absurd hi (dr _),Y⟩ ?_;clear Y;rintro j k w ⟨hk,b,Y⟩;refine aB ?_ ?_<;>intro l
 ·refine mg ?_ ?_<;>intro p w Y m
  ·refine O ?_
   refine bf (v:=.iface 57 (E 1)) rfl rfl ⟨?_,Y.tail⟩;rw[VF c U (k:=k) U (by unfold fg;omega)];rfl
  refine O ?_;refine⟨k+1,⟨rfl,az⟩,aU,⟨U,fun i hi=>?_,Y.tail⟩,U⟩;by_cases h:i=k
  ·subst h;unfold fg;omega
  exact b i U
 refine O ?_;refine bf (v:=.nilIface) rfl rfl ⟨?_,Y⟩;rw[Of c U (fun i hi=>b i U)];rfl
def VG {R:Nat}:decide (((R / 2 ^ k &&& 1:Nat):Int)=1)=R.testBit k:=by
 rw[testBit_eq_decide_div_mod_eq,and_one_is_mod];exact decide_eq_decide.2 U
def yr (b:n<=32)(h:∀ v,ib a v->v<n):a<18446744073709551616:=by
 have h1:=Og h;have c:2 ^ n<=2 ^ 32:=yt dc b;omega
def vX {pf:Addr}{nv:Value}{near:List Nat}(D:near.length<=32)(hG:Gr near.length (fun u=>near.getD u cW.dflt))(hT:lc w0):∀ (P R X':Nat) {w:World}{fv:Value}{fs:List Value}{Fs:List J},BI near.length (fun u=>near.getD u cW.dflt) R P X'->Fs.length<=4096->Z w0 w [X ap 22 fv fs,aj W 3 fs Fs,ak pf 230 [nv,fv],X cW 220 nv near] ->
  Calls ai 139 #[.pointer (some pf),u64 R,u64 P,u64 X'] w fun e w'=>∃ r M' c d,e=.returned (.bool r)/\jY near.length (fun u=>near.getD u cW.dflt) R P Fs.length r M'/\Z w0 w' [X ap 22 c d,aj W 3 d (Fs++M'.map fun C=>dz C near.length),ak pf 230 [nv,c],X cW 220 nv near]:=by
 intro P
 induction P using Nat.strongRecOn with
 | _ P ih =>
 intro R X' w fv fs Fs A hl Y;have _j:=(Y.bQ 1 rfl).cb;have T':=yr D A.rb;have j:=yr D A.pb;have F:=yr D A.xb;have _f:P ||| X'<18446744073709551616:=by have:=or_lt_two_pow (n:=64) j F;omega
 have o:∀ u,near.getD u cW.dflt<18446744073709551616:=fun u=>yr D (hG.bd u);refine bA an Tryz.func139 ?_;refine oC ?_;refine eY rfl (Cj (a:=P) (b:=X') rfl rfl j F) ?_;refine oC ?_;by_cases h0:P ||| X'=0
 ·have K:decide (((P ||| X':Nat):Int)=0)=true:=dy U
  simp only[K];refine O ?_;have l:=Y.nil (T:=W) (e:=3);clear Y;refine dQ [9,10,27,39] (G:=Nat) (H:=Value) (fun k d=>[(27,E k),(9,d)]) (fun k d w=>k<=near.length/\Z w0 w [X W 3 d (dz R k),X ap 22 fv fs,aj W 3 fs Fs,ak pf 230 [nv,fv],X cW 220 nv near]) (fun k _=>near.length-k) 0 (nS) (fun _ _=>rfl) ⟨rfl,rfl,az⟩ ⟨bu _,l⟩ ?_;clear l;rintro σ k d w ⟨hk,Y⟩;refine aB ?_ ?_<;>intro h1
  ·have f:k<near.length:=U
   have i:=Oh R k;refine O ?_;refine eY rfl (Jm (a:=R) (b:=k) (k:=.i64) rfl rfl U) ?_;refine eY rfl (yu (a:=R / 2 ^ k) (b:=1) rfl rfl (zN (div_le_self _ _) T') dc) ?_;refine oC ?_;simp only[VG];by_cases c:ib R k
   ·simp only[show R.testBit k=true from c]
    repeat (first|refine du ?_|(refine fA ?_;clear Y;intro s w Y))
    rw[<-Oi c]at Y;exact⟨k+1,s,⟨rfl,rfl,az⟩,aU,⟨U,Y.aY⟩,U⟩
   simp only[nG.2 c];refine O ?_;rw[<-Oj c]at Y;exact⟨k+1,_,⟨rfl,rfl,az⟩,aU,⟨U,Y⟩,U⟩
  have f:k=near.length:=U;subst f;have i:P=0:=Ol fun v hv=>uE h0 v (Dt.2 (.inl hv));have m:X'=0:=Ol fun v hv=>uE h0 v (Dt.2 (.inr hv))
  repeat (first|refine du ?_|(refine qB ?_;clear Y;intro w Y)|(refine fA ?_;clear Y;intro s w Y))
  obtain⟨c,rfl⟩:=À s;have z:Z w0 w [X W 3 d (dz R near.length),aj W 3 fs Fs,X ap 22 c (fs++[d]),ak pf 230 [nv,c],X cW 220 nv near]:=by
   have l:Z w0 w [X W 3 d (dz R near.length),X ap 22 c (fs++[d]),aj W 3 fs Fs,ak pf 230 [nv,c],X cW 220 nv near]:=Y.tail;exact l.aY
  have B:=z.j1;have S:Z w0 w [X ap 22 c (fs++[d]),aj W 3 (fs++[d]) (Fs++[dz R near.length]),ak pf 230 [nv,c],X cW 220 nv near]:=B.aY;refine bf (v:=.bool (decide (((fs++[d]).length:Int)<=4096))) rfl rfl ⟨_,[R],c,fs++[d],?_,jY.eL A i m hl,S⟩;congr 2;exact decide_eq_decide.2 (by simp only[length_append,length_cons,length_nil];omega)
 have K:decide (((P ||| X':Nat):Int)=0)=false:=dU U;simp only[K];refine O ?_;refine eY rfl (Cj (a:=P) (b:=X') rfl rfl j F) ?_;refine oC ?_;refine cP [11,15,59,81] (G:=Nat × Nat × Int) (fun y=>[(13,u64 y.1),(11,E (y.2.1:Int)),(12,E y.2.2)]) (fun y w=>y.1<18446744073709551616/\(∀ v,ib y.1 v->ib P v\/ib X' v)/\((y.2.2 = -1/\y.1=P ||| X')\/(0<=y.2.2/\y.2.2<=127/\(ib P y.2.1\/ib X' y.2.1)))/\Z w0 w [X ap 22 fv fs,aj W 3 fs Fs,ak pf 230 [nv,fv],X cW 220 nv near]) (fun y=>y.1) (P ||| X',0,-1) (fun _=>rfl) ⟨rfl,rfl,rfl,az⟩ ⟨_f,fun v hv=>Dt.1 hv,.inl ⟨rfl,rfl⟩,Y⟩ ?_;clear Y;rintro σ ⟨x,piv,V'⟩ w ⟨hx,d,f,Y⟩;simp only at hx d f Y;refine oC ?_;by_cases B:x=0;rotate_left
 ·have i:decide ((x:Int)=0)=false:=dU U
  simp only[i,q6];obtain⟨v,hv⟩:=Om B;have m:=d v hv.1;have _a:v<near.length:=by
   rcases m with h|h
   ·exact A.pb v h
   exact A.xb v h
  refine O ?_;refine aL rfl (vj Y hT hx hv) ?_;rintro _ w' ⟨rfl,rfl⟩;refine⟨_,rfl,?_⟩;refine oC ?_;refine eY rfl (yu (a:=P) (b:=near.getD v cW.dflt) rfl rfl j (o v)) ?_;refine aL rfl (VH (zN Ck j)) ?_;rintro _ w' ⟨⟨kk,rfl,V,j'⟩,rfl⟩;refine⟨_,rfl,?_⟩;refine oC ?_;have z:=On B;have S:=fun u=>Oo hv u;refine jw ?_ ?_<;>intro h2
  ·refine O ?_
   refine eY rfl (F4 (a:=x) (b:=1) rfl rfl U hx) ?_;refine eY rfl (yu (a:=x) (b:=x-1) rfl rfl hx U) ?_;refine O ?_;exact⟨(x &&& (x-1),v,kk),⟨rfl,rfl,rfl,az⟩,aU,⟨by simp only;omega,fun u hu=>d u ((S u).1 hu).1,.inr ⟨V,j',m⟩,Y⟩,z⟩
  refine O ?_;refine eY rfl (F4 (a:=x) (b:=1) rfl rfl U hx) ?_;refine eY rfl (yu (a:=x) (b:=x-1) rfl rfl hx U) ?_;refine O ?_;refine⟨(x &&& (x-1),piv,V'),⟨rfl,rfl,rfl,az⟩,aU,⟨by simp only;omega,fun u hu=>d u ((S u).1 hu).1,?_,Y⟩,z⟩;rcases f with ⟨e1,_⟩|f
  ·exfalso;omega
  exact .inr f
 have i:decide ((x:Int)=0)=true:=dy U;have _b:ib P piv\/ib X' piv:=by
  rcases f with ⟨_,m⟩|f
  ·exact absurd (m.symm.trans B) h0
  exact f.2.2
 have _k:piv<near.length:=by
  rcases _b with h|h
  ·exact A.pb _ h
  exact A.xb _ h
 simp only[i,nH];refine O ?_;refine eY rfl (Oq (a:=P) (b:=near.getD piv cW.dflt) rfl rfl j (o piv)) ?_;refine O ?_;have _g:FI near.length (fun u=>near.getD u cW.dflt) R P Fs.length (P &&& qh (near.getD piv cW.dflt)) P X' []:=FI.start hG A _b (fun v=>Ot j (o piv)) hl;have l:Z w0 w [X ap 22 fv fs,aj W 3 fs (Fs++([]:List Nat).map fun C=>dz C near.length),ak pf 230 [nv,fv],X cW 220 nv near]:=by
  rw[tD,fS];exact Y
 clear Y;refine cP [2,3,8,8,16,17,91,131] (G:=Nat × Nat × Nat × List Nat × Value × List Value) (fun y=>[(16,u64 y.1),(2,u64 y.2.1),(3,u64 y.2.2.1)]) (fun y w=>FI near.length (fun u=>near.getD u cW.dflt) R P Fs.length y.1 y.2.1 y.2.2.1 y.2.2.2.1/\Z w0 w [X ap 22 y.2.2.2.2.1 y.2.2.2.2.2,aj W 3 y.2.2.2.2.2 (Fs++y.2.2.2.1.map fun C=>dz C near.length),ak pf 230 [nv,y.2.2.2.2.1],X cW 220 nv near]) (fun y=>y.1) (P &&& qh (near.getD piv cW.dflt),P,X',[],fv,fs) (fun _=>rfl) ⟨rfl,rfl,rfl,az⟩ ⟨_g,l⟩ ?_;clear l hx d f B i;rintro _l ⟨q,pp,xx,M',fv,fs⟩ w ⟨m,Y⟩;simp only at m Y;have S:=yr D fun v hv=>m.bi.pb v (m.qp v hv);have V:=yr D m.bi.pb;have _c:=yr D m.bi.xb;refine oC ?_;by_cases j':q=0
 ·have i:decide ((q:Int)=0)=true:=dy U
  simp only[i,nH];refine O ?_;exact bf (v:=.bool true) rfl rfl ⟨true,M',fv,fs,rfl,m.done j',Y⟩
 have i:decide ((q:Int)=0)=false:=dU U;simp only[i,q6];obtain⟨v,hv⟩:=Om j';have H':=m.qp v hv.1;have _a:=m.bi.pb v H';refine O ?_;refine aL rfl (vj Y hT S hv) ?_;rintro _ w' ⟨rfl,rfl⟩;refine⟨_,rfl,?_⟩;have z:2 ^ v<18446744073709551616:=yr D fun u hu=>by rw[F5.1 hu];exact _a
 have J':1*2 ^ v % 18446744073709551616=2 ^ v:=by rw[wy,F6 z]
 have _h:¬ib (near.getD v cW.dflt) v:=hG.Jn v;have P':∀ u,ib (R ||| 2 ^ v) u↔ib R u\/u=v:=fun u=>by rw[Dt,F5]
 have R':∀ u,ib (pp &&& near.getD v cW.dflt) u↔ib pp u/\ib (near.getD v cW.dflt) u:=fun u=>F7;have _i:∀ u,ib (xx &&& near.getD v cW.dflt) u↔ib xx u/\ib (near.getD v cW.dflt) u:=fun u=>F7;have _d:(Fs++M'.map fun C=>dz C near.length).length=Fs.length+M'.length:=sm;refine O ?_;refine fz (pl [0,1,2,3,4,5,6,7,8,9,10,11,12,13,14,15,16,17,18,19,20,21,22,23,24] []) Y kr ?_;clear Y;intro w Y;refine O ?_;refine eY rfl (Cl (a:=1) (b:=v) (k:=.i64) rfl rfl U) ?_;rw[J'];refine O ?_;refine eY rfl (Cj (a:=R) (b:=2 ^ v) rfl rfl T' z) ?_;refine O ?_;refine eY rfl (yu (a:=pp) (b:=near.getD v cW.dflt) rfl rfl V (o v)) ?_;refine O ?_;refine eY rfl (yu (a:=xx) (b:=near.getD v cW.dflt) rfl rfl _c (o v)) ?_;refine O ?_;refine aL rfl (ih (pp &&& near.getD v cW.dflt) (Bb (VJ H' _h) m.Jo) (R ||| 2 ^ v) (xx &&& near.getD v cW.dflt) (m.bi.child hG H' P' R' _i) (by rw[_d];exact m.le) Y) ?_;clear Y;rintro _ w ⟨r,M1,c,_e,rfl,hf,Y⟩;rw[_d]at hf;rw[fL,<-oh]at Y;refine⟨_,rfl,?_⟩;cases r
 ·refine O ?_
  exact bf (v:=.bool false) rfl rfl ⟨false,M'++M1,c,_e,rfl,m.fail hG hv.1 P' R' hf,Y⟩
 refine O ?_;refine eY rfl (Cl (a:=1) (b:=v) (k:=.i64) rfl rfl U) ?_;rw[J'];refine eY rfl (Oq (a:=pp) (b:=2 ^ v) rfl rfl V z) ?_;refine O ?_;refine eY rfl (Cl (a:=1) (b:=v) (k:=.i64) rfl rfl U) ?_;rw[J'];refine eY rfl (Cj (a:=xx) (b:=2 ^ v) rfl rfl _c z) ?_;refine O ?_;refine eY rfl (F4 (a:=q) (b:=1) rfl rfl U S) ?_;refine eY rfl (yu (a:=q) (b:=q-1) rfl rfl S U) ?_;refine O ?_;exact⟨(q &&& (q-1),pp &&& qh (2 ^ v),xx ||| 2 ^ v,M'++M1,c,_e),⟨rfl,rfl,rfl,az⟩,aU,⟨m.step hG hv.1 P' R' hf (fun u=>by rw[Ot V z,F5]) (fun u=>by rw[Dt,F5]) (fun u=>Oo hv u) Ck,Y⟩,On j'⟩
end
section
open Go.Sl Go Go.Shelf Go.Sort
attribute [local irreducible] vc opsW opsD opV opW PureV ReadV Thn Blk
def VK {m:Nat}(F:Nat->J):SWO (ltOf fun (i j:Fin m)=>e8 (F i.1) (F j.1)) where
 irrefl x:=by simp[ltOf,Ou]
 trans x y z h1 b:=by
  simp only[ltOf,gQ]at h1 b ⊢;exact Jp h1 b
 ntrans x y z h1 b:=by
  simp only[ltOf,qA]at h1 b ⊢;intro c;by_cases e:e8 (F x.1) (F y.1)=0
  ·rw[Jq e]at c;exact b c
  have d:e8 (F y.1) (F x.1)<0:=by have:=Jr (F x.1) (F y.1);omega
  exact b (Jp d c)
def VL {L:List α}(h:L.Nodup){i j:Nat}(hi:i<L.length)(b:j<L.length)(e:L[i]=L[j]):i=j:=by
 rcases Nat.lt_trichotomy i j with h1|h1|h1
 ·exact absurd e (v8.1 h i j hi b h1)
 ·exact h1
 exact absurd e.symm (v8.1 h j i b hi h1)
def VM {w:World}{Γ:List HP}{fv:Value}{fs:List Value}{Fs:List J}(Y:Z w0 w (X ap 22 fv fs::aj W 3 fs Fs::Γ))(T:Fs.Nodup)(h0:0<Fs.length)(hn:Fs.length<=8192) :
  Calls ai 140 #[fv,.func (.func 141) #[] #[]] w fun e w'=>e=.returned (.tuple #[])/\∃ is:List Nat,is.Perm (List.range Fs.length)/\BL (is.map fun i=>Fs.getD i []) /\
   Z w0 w' (X ap 22 fv (is.map (cG fs))::aj W 3 (is.map (cG fs)) (is.map fun i=>Fs.getD i [])::Γ):=by
 have V:fs.length=Fs.length:=(Y.bQ 1 rfl).cb;obtain⟨m,hm⟩:=À Fs.length
 haveI:Inhabited (Fin m):=⟨⟨0,U⟩⟩
 let enc:Fin m->Value:=fun i=>cG fs i.1
 have l:∀ x:Fin m,(enc x).oneCell'=true:=fun x=>((Y.bQ 1 rfl).row (i:=x.1) (by have:=x.2;omega)).one;have A:(finRange m).map enc=fs:=by
  apply iB (by simp;omega);intro i h1 d;simp only[mK,enc,l9];simp[List.getD,d]
 have B:Z w0 w (X ap 22 fv ((finRange m).map enc)::aj W 3 fs Fs::Γ):=by rw[A];exact Y
 rcases B.B3 enc with ⟨_,o⟩|⟨b,off,cap,rfl,hc,hb,hH,f⟩
 ·have:=qy List.length o
  simp at this;omega
 have h:(finRange m).toArray.size=m:=sm;have r:CmpLays1 ai 141 #[] enc (fun i j=>e8 (Fs.getD i.1 []) (Fs.getD j.1 [])) b off (finRange m).toArray.size w:=by
  intro q os c v x y;have h1:=(f c.toList (by simp at v ⊢;exact v) q).grow os;have C:c.toList.toArray=c:=sm;rw[C]at h1;refine(VN ((h1.bQ 1 rfl).row (i:=x.1) (by have:=x.2;omega)) ((h1.bQ 1 rfl).row (i:=y.1) (by have:=y.2;omega))).mono ?_;rintro e w' ⟨he,rfl⟩;exact⟨he,0,#[],by rw[World.drewN_zero,grow_empty];rfl⟩
 have hS:=Any.slices_SortFunc MU enc l (fun i j=>e8 (Fs.getD i.1 []) (Fs.getD j.1 [])) (VK fun i=>Fs.getD i []) 141 #[] b off cap (finRange m).toArray w (fun args w=>ao.run inferInstance args w) r hH hb (by rw[h];omega);have S:(finRange m).length=(finRange m).toArray.size:=sm;rw[S];refine hS.mono ?_;rintro e w' ⟨he,c,q,os,hp,v,rfl⟩;obtain⟨D,_,F⟩:=hp;rw[h]at D v F;have G:c.toList.Perm (finRange m):=by
  have z:c.extract 0 m=c:=by
   have:=F8 (xs:=c)
   rwa[D]at this
  have H:(finRange m).toArray.extract 0 m=(finRange m).toArray:=by
   have:=F8 (xs:=(finRange m).toArray)
   rwa[h]at this
  rw[z,H]at F
  simpa using F
 refine⟨he,c.toList.map (·.1),?_,?_,?_⟩
 ·have h1:=G.map (fun i:Fin m=>i.1)
  have d:(finRange m).map (fun i:Fin m=>i.1)=List.range m:=by
   apply iB sm;intro i h1 d;simp
  rw[d]at h1;rw[<-hm];exact h1
 ·have H:c.toList.Nodup:=G.nodup_iff.2 (nodup_finRange m)
  rw[zG];refine Bc.2 ?_;rw[v8];intro i j hi K z;simp only[F9]at hi K;have h1:=v i j (bu _) z U;rw[getElem!_pos c j K,getElem!_pos c i hi]at h1;simp only[ltOf,qA]at h1;have P:c[i]≠c[j]:=fun e=>by
   have:=v8.1 H i j (by simpa using hi) (by simpa using K) z;simp only[Ov]at this;exact this e
  simp only[Function.comp,Ov];have j':=Jr (Fs.getD c[i].1 []) (Fs.getD c[j].1 []);have H':e8 (Fs.getD c[i].1 []) (Fs.getD c[j].1 [])≠0:=fun e=>by
   have R:=Jq e;have b1:=c[i].2;have b2:=c[j].2;rw[iD,iD,kN U,kN U]at R;simp only[Option.getD_some]at R;exact P (Fin.ext (VL T U U R))
  omega
 have h1:=(f c.toList (by simp[D]) q).grow os;have C:c.toList.toArray=c:=sm;rw[C]at h1;have d:Z w0 (grow (putRow enc (Sort.ahead w q) b off c) os) (aj W 3 fs Fs::X ap 22 (.slice (some ⟨b,off,none⟩) (finRange m).toArray.size cap) (c.toList.map enc)::Γ):=by
  rw[<-S];exact h1.swap
 have z:=d.xK (is:=c.toList.map (·.1)) (by
  have h1:=G.map (fun i:Fin m=>i.1);have d:(finRange m).map (fun i:Fin m=>i.1)=List.range m:=by
   apply iB sm;intro i h1 d;simp
  rw[d]at h1;rw[<-hm]
  exact h1)
 have H:c.toList.map enc=(c.toList.map (·.1)).map (cG fs):=by rw[zG];rfl
 rw[H]at z;exact z.swap
end
section
open Go.Sl Go
attribute [local irreducible] vc opsW opsD opV opW PureV ReadV Thn Blk
def Js (n v:Nat):ib (2 ^ n-1) v↔v<n:=by unfold ib;rw[Ow,gQ]
def VO:BI n N 0 (2 ^ n-1) 0 where
 rb v hv:=absurd hv (uE rfl v)
 pb v hv:=(Js n v).1 hv
 xb v hv:=absurd hv (uE rfl v)
 tl u v hu:=absurd hu (uE rfl u)
 wz u _ r b:=absurd b (uE rfl r)
 all u hu _:=.inl ((Js n u).2 hu)
def Jt {C:Nat}:kc n N 0 (2 ^ n-1) C↔tV n N C :=
 ⟨fun h=>h.mx,fun h=>⟨h,fun v hv=>absurd hv (uE rfl v),fun v hv=>.inr ((Js n v).2 (h.bd v hv))⟩⟩
def Ox {M':List Nat}(c:M'.Nodup)(hm:∀ C∈M',tV n N C):(M'.map fun C=>dz C n).Nodup:=by
 refine Bc.2 (Ju (fun d f b e=>?_) c);exact b (VP (hm _ d).bd (hm _ f).bd e)
def j2 (n:Nat)(N:Nat->Nat):Prop:=∃ M':List Nat,M'.Nodup/\M'.length=4097/\∀ C∈M',tV n N C
def VQ {n:Int}{a:Value}{arcs:List kM}(K:RS bC w0 a arcs)(hT:lc w0) :
  Calls ai 108 #[E n,a] w0 fun e w' =>
   (cq n arcs≠0/\e=.returned (.tuple #[nS,bI (cq n arcs)])/\Z w0 w' []) \/
   (cq n arcs=0/\32<n/\e=.returned (.tuple #[nS,bI 5])/\Z w0 w' []) \/
   (cq n arcs=0/\n=0/\e=.returned (.tuple #[nS,.nilIface])/\Z w0 w' []) \/
   (cq n arcs=0/\0<n/\n<=32/\j2 n.toNat (r5 n.toNat arcs)/\e=.returned (.tuple #[nS,bI 10])/\Z w0 w' []) \/
   (cq n arcs=0/\0<n/\n<=32/\∃ fv fs Cs,e=.returned (.tuple #[fv,.nilIface])/\BL Cs/\kG n.toNat (r5 n.toNat arcs) Cs/\Cs.length<=4096/\Z w0 w' [aj W 3 fs Cs,X ap 22 fv fs]):=by
 have P':=K.bU;have Y:=Z.start w0;refine bA an Tryz.func108 ?_;refine O ?_;refine aL rfl (VC K) ?_;rintro _ w' ⟨rfl,al⟩;refine aA ?_;clear al Y;intro Y;by_cases q:cq n arcs=0;rotate_left
 ·rw[cS q]
  refine O ?_;exact cR (v:=nS) (v':=.iface 57 (E (cq n arcs))) rfl rfl rfl (.inl ⟨q,rfl,Y⟩)
 rw[fK q];obtain⟨y,R',T',bL⟩:=VR q;have d:∀ a∈arcs,fg (n.toNat:Int) a:=by rw[gA y];exact bL
 refine aB ?_ ?_<;>intro h1
 ·refine O ?_
  exact cR (v:=nS) (v':=.iface 57 (E 5)) rfl rfl rfl (.inr (.inl ⟨q,h1,by rw[cS dc],Y⟩))
 refine aB ?_ ?_<;>intro D
 ·refine O ?_
  exact cR (v:=nS) (v':=.nilIface) rfl rfl rfl (.inr (.inr (.inl ⟨q,D,rfl,Y⟩)))
 refine O ?_;refine Cm cW 0 (n:=n) rfl rfl rfl rfl y U U Y ?_;clear Y;intro f w Y;have P:=(Y.rs 0 rfl).one;refine Jv (v1:=f) rfl rfl (by simp only[eD,eN,P];rfl) ?_;refine yo (vs:=[f,nS]) rfl Y ?_;clear Y;intro z w Y;refine O ?_;have j:Z w0 w [ak z 230 [f,nS],X cW 220 f (eS n.toNat arcs 0)]:=Y;clear Y;refine cP [9,9,27,62] (G:=Nat) (fun k=>[(27,E k)]) (fun k w=>k<=arcs.length/\Z w0 w [ak z 230 [f,nS],X cW 220 f (eS n.toNat arcs k)]) (fun k=>arcs.length-k) 0 (fun _=>rfl) ⟨rfl,az⟩ ⟨bu _,j⟩ ?_;clear j;rintro σ k w ⟨hk,Y⟩;refine aB ?_ ?_<;>intro h3
 ·have m:k<arcs.length:=U
  have A:=bL _ (cH bC.dflt m);unfold fg at A;have o:=Ga (n:=n.toNat) (arcs:=arcs) k U;have F:∀ x,(eS n.toNat arcs k).getD x cW.dflt<18446744073709551616:=fun x=>by
   have h1:=VS (n:=n.toNat) (x:=x) d (show k<=arcs.length by omega);have D:2 ^ n.toNat<=2 ^ 32:=yt dc U;omega
  have C:∀ u:Nat,(u:Int)<n->1*2 ^ u % 18446744073709551616=2 ^ u/\2 ^ u<18446744073709551616:=fun u hu=>by
   have D:2 ^ u<2 ^ 64:=Nat.pow_lt_pow_right dc U;exact⟨by rw[wy,F6 D],D⟩
  refine VT ?_;intro p w Y;by_cases he:(arcs.getD k bC.dflt).bh=(arcs.getD k bC.dflt).dst
  ·have B:decide ((arcs.getD k bC.dflt).bh=(arcs.getD k bC.dflt).dst)=true:=dy he
   simp only[B,nH];refine O ?_;have c:pj (eS n.toNat arcs k) (arcs.getD k bC.dflt)=(eS n.toNat arcs k):=aM he;rw[<-Gb m]at c;rw[<-c]at Y;exact⟨k+1,⟨rfl,az⟩,aU,⟨U,Y.tail⟩,U⟩
  have B:decide ((arcs.getD k bC.dflt).bh=(arcs.getD k bC.dflt).dst)=false:=dU he;simp only[B,q6];have c:pj (eS n.toNat arcs k) (arcs.getD k bC.dflt)=mh (mh (eS n.toNat arcs k) (arcs.getD k bC.dflt).bh.toNat (arcs.getD k bC.dflt).dst.toNat) (arcs.getD k bC.dflt).dst.toNat (arcs.getD k bC.dflt).bh.toNat:=aC he;rw[<-Gb m]at c;obtain⟨R,S⟩:=C (arcs.getD k bC.dflt).dst.toNat U;obtain⟨V,e4⟩:=C (arcs.getD k bC.dflt).bh.toNat U;refine O ?_;refine fz (pl [0,1,2,3,4,5,6,7,8,9,10,11,12,13] []) Y kr ?_;clear Y;intro w Y;refine O ?_;refine eY rfl (Cl (a:=1) (b:=(arcs.getD k bC.dflt).dst.toNat) (k:=.i64) rfl (by rw[gA A.2.2.1];rfl) U) ?_;rw[R];refine O ?_;refine eY rfl (Cj (a:=(eS n.toNat arcs k).getD (arcs.getD k bC.dflt).bh.toNat cW.dflt) (b:=2 ^ (arcs.getD k bC.dflt).dst.toNat) rfl rfl (F _) S) ?_;refine iE ?_;intro w Y;have j':=Oy (eS n.toNat arcs k) (arcs.getD k bC.dflt).bh.toNat (arcs.getD k bC.dflt).dst.toNat;have H:∀ x,(mh (eS n.toNat arcs k) (arcs.getD k bC.dflt).bh.toNat (arcs.getD k bC.dflt).dst.toNat).getD x cW.dflt<18446744073709551616:=fun x=>yr (n:=n.toNat) U fun v hv=>by
   rcases (Jw U).1 hv with h|⟨_,h⟩
   ·exact(mU.lt (arcs:=arcs.take k) (fun a K=>d a (pO K)) ((Gc d k U).1 h)).2
   omega
  have Y:Z w0 w [ak p 181 (bC.enc (arcs.getD k bC.dflt)),ak z 230 [f,nS],X cW 220 f (mh (eS n.toNat arcs k) (arcs.getD k bC.dflt).bh.toNat (arcs.getD k bC.dflt).dst.toNat)]:=Y;refine fz (pl [0,1,2,3,4,5,6,7,8,9,10,11,12,13] []) Y kr ?_;clear Y;intro w Y;refine O ?_;refine eY rfl (Cl (a:=1) (b:=(arcs.getD k bC.dflt).bh.toNat) (k:=.i64) rfl (by rw[gA A.1];rfl) U) ?_;rw[V];refine O ?_;refine eY rfl (Cj (a:=(mh (eS n.toNat arcs k) (arcs.getD k bC.dflt).bh.toNat (arcs.getD k bC.dflt).dst.toNat).getD (arcs.getD k bC.dflt).dst.toNat cW.dflt) (b:=2 ^ (arcs.getD k bC.dflt).bh.toNat) rfl rfl (H _) e4) ?_;refine iE ?_;intro w Y;have Y:Z w0 w [ak p 181 (bC.enc (arcs.getD k bC.dflt)),ak z 230 [f,nS],X cW 220 f (mh (mh (eS n.toNat arcs k) (arcs.getD k bC.dflt).bh.toNat (arcs.getD k bC.dflt).dst.toNat) (arcs.getD k bC.dflt).dst.toNat (arcs.getD k bC.dflt).bh.toNat)]:=Y;rw[<-c]at Y;exact⟨k+1,⟨rfl,az⟩,aU,⟨U,Y.tail⟩,U⟩
 have R:k=arcs.length:=U;subst R;have hG:Gr n.toNat (r5 n.toNat arcs):=Oz d;have o:(uV n.toNat arcs).length=n.toNat:=Ga _ (cD _);have F:2 ^ n.toNat<18446744073709551616:=by
  have D:2 ^ n.toNat<=2 ^ 32:=yt dc U;omega
 have S:1*2 ^ n.toNat % 18446744073709551616=2 ^ n.toNat:=by rw[wy,F6 F]
 have V:1<=2 ^ n.toNat:=Jy _;have j:Z w0 w [X ap 22 (nS) [],aj W 3 [] [],ak z 230 [f,nS],X cW 220 f (uV n.toNat arcs)]:=by
  have h1:=(Y.qK (T:=W) (e:=3)).nil (T:=ap) (e:=22);exact h1
 clear Y;have Y:=j;clear j;refine O ?_;refine eY rfl (Cl (a:=1) (b:=n.toNat) (k:=.i64) rfl (by rw[gA y];rfl) U) ?_;rw[S];refine eY rfl (F4 (a:=2 ^ n.toNat) (b:=1) rfl rfl V F) ?_;have hF:=vX (w0:=w0) (pf:=z) (nv:=f) (near:=uV n.toNat arcs) U (by rw[o];exact hG) hT (2 ^ n.toNat-1) 0 0 (w:=w) (fv:=nS) (fs:=[]) (Fs:=[]) (by rw[o];exact VO) (bu _) Y;refine aL rfl hF ?_;clear Y hF;rintro _ w ⟨r,M',fv,fs,rfl,m,Y⟩;rw[o]at m Y;replace m:jY n.toNat (r5 n.toNat arcs) 0 (2 ^ n.toNat-1) 0 r M':=m;rw[kL]at Y;have A:∀ C∈M',tV n.toNat (r5 n.toNat arcs) C:=fun C B=>Jt.1 (m.mem C B);refine⟨_,rfl,?_⟩;cases r
 ·refine O ?_
  exact cR (v:=nS) (v':=.iface 57 (E 10)) rfl rfl rfl (.inr (.inr (.inr (.inl ⟨q,U,h1,⟨M',m.nd,by have:=m.gt rfl;omega,A⟩,by rw[cS dc],Y.aY⟩))))
 have V':=m.le rfl;have j':M'≠[]:=fun e=>by
  obtain⟨C,B,_⟩:=OA hG _ 0 ⟨fun v hv=>absurd hv (uE rfl v),fun u v hu=>absurd hu (uE rfl u)⟩ (cD _);have:=m.all rfl C (Jt.2 B);rw[e]at this;simp at this
 have _a:0<M'.length:=Jz.2 j';have H':=Ox m.nd A;have _b:(M'.map fun C=>dz C n.toNat).length=M'.length:=iz _;refine O ?_;refine aL rfl (VM (fv:=fv) (fs:=fs) (Fs:=M'.map fun C=>dz C n.toNat) Y H' U U) ?_;clear Y;rintro _ w ⟨rfl,is,c,H,Y⟩;refine⟨_,rfl,?_⟩;refine O ?_;refine cR (v:=fv) (v':=.nilIface) rfl rfl rfl (.inr (.inr (.inr (.inr ⟨q,U,h1,fv,is.map (cG fs),_,rfl,H,fun l=>?_,?_,Y.aY⟩))))
 ·rw[iS]
  constructor
  ·rintro⟨i,hi,rfl⟩
   have J':i<(M'.map fun C=>dz C n.toNat).length:=mem_range.1 (c.mem_iff.1 hi);have:=cH [] J';obtain⟨C,B,e⟩:=iS.1 this;exact⟨C,A C B,e.symm⟩
  rintro⟨C,B,rfl⟩;have h5:dz C n.toNat∈M'.map fun C=>dz C n.toNat:=iS.2 ⟨C,m.all rfl C (Jt.2 B),rfl⟩;obtain⟨i,hi,e⟩:=fJ h5;refine⟨i,c.mem_iff.2 (mem_range.2 hi),?_⟩;rw[am hi,e]
 rw[iz,c.length_eq,length_range];omega
def VU {a b c d s:Value}{vs:List iW}{ss:List Value}{Ls:List J}(V:bn w0 a b c d vs t)(o:sk w0 s ss Ls)(hT:lc w0) :
  Calls ai 81 #[.agg #[a,b,c,d],s] w0 fun e w' =>
   (gp t Ls≠0/\e=.returned (.tuple #[nS,bI (gp t Ls)])/\Z w0 w' []) \/
   (gp t Ls=0/\32<Ls.length/\e=.returned (.tuple #[nS,bI 5])/\Z w0 w' []) \/
   (gp t Ls=0/\Ls.length=0/\e=.returned (.tuple #[nS,.nilIface])/\Z w0 w' []) \/
   (gp t Ls=0/\0<Ls.length/\Ls.length<=32/\j2 Ls.length (r5 Ls.length (ga t Ls Ls.length))/\e=.returned (.tuple #[nS,bI 10])/\Z w0 w' []) \/
   (gp t Ls=0/\0<Ls.length/\Ls.length<=32/\∃ fv fs Cs,e=.returned (.tuple #[fv,.nilIface])/\BL Cs/\kG Ls.length (r5 Ls.length (ga t Ls Ls.length)) Cs/\Cs.length<=4096/\Z w0 w' [aj W 3 fs Cs,X ap 22 fv fs]):=by
 have D:=o.rs;have F:=o.len;have j':=D.bU;have Y:=Z.start w0;refine bA an Tryz.func81 ?_;refine eE ?_;intro C w Y;refine aL rfl (VV (V.at Y) (o.at Y)) ?_;rintro _ w' ⟨rfl,al⟩;refine aA ?_;clear al Y;intro Y;by_cases hk:gp t Ls=0;rotate_left
 ·rw[cS hk]
  refine O ?_;exact cR (v:=nS) (v':=.iface 57 (E (gp t Ls))) rfl rfl rfl (.inl ⟨hk,rfl,Y.aY⟩)
 rw[fK hk];refine aB ?_ ?_<;>intro K
 ·refine O ?_
  exact cR (v:=nS) (v':=.iface 57 (E 5)) rfl rfl rfl (.inr (.inl ⟨hk,U,by rw[cS dc],Y.aY⟩))
 refine aB ?_ ?_<;>intro h0
 ·refine O ?_
  exact cR (v:=nS) (v':=.nilIface) rfl rfl rfl (.inr (.inr (.inl ⟨hk,U,rfl,Y.aY⟩)))
 have f:Ls.length<=32:=U;have q:0<Ls.length:=U;refine O ?_;have j:Z w0 w' [X bC 181 (nS) (ga t Ls 0),ak C 26 [a,b,c,d]]:=Y.nil (T:=bC) (e:=181);clear Y;refine dQ [7,10,26,49] (G:=Nat) (H:=Value) (fun i l=>[(26,E i),(7,l)]) (fun i l w=>i<=Ls.length/\Z w0 w [X bC 181 l (ga t Ls i),ak C 26 [a,b,c,d]]) (fun i _=>Ls.length-i) 0 (nS) (fun _ _=>rfl) ⟨rfl,rfl,az⟩ ⟨bu _,j⟩ ?_;clear j;rintro σ i l w ⟨hi,Y⟩;refine aB ?_ ?_<;>intro h1
 ·have x:i<Ls.length:=U
  have P:=JA (t:=t) (Ls:=Ls) i U;refine O ?_;have j:Z w0 w [X bC 181 l (ga t Ls i++ku t Ls i 0),ak C 26 [a,b,c,d]]:=by rw[show ku t Ls i 0=[] from rfl,fS];exact Y
  clear Y;refine dQ [7,7,10,10,32,48] (G:=Nat) (H:=Value) (fun k l=>[(32,E k),(7,l)]) (fun k l w=>k<=i/\Z w0 w [X bC 181 l (ga t Ls i++ku t Ls i k),ak C 26 [a,b,c,d]]) (fun k _=>i-k) 0 l (fun _ _=>rfl) ⟨rfl,rfl,az⟩ ⟨bu _,j⟩ ?_;clear j;rintro R k m w ⟨S,Y⟩;refine aB ?_ ?_<;>intro h2
  ·have H':k<i:=U
   have J':=JB (t:=t) (Ls:=Ls) (i:=i) k;have A:k<Ls.length:=U;refine O ?_;refine fz (pl [0,1,2,3,4,5,6] []) Y kr ?_;clear Y;intro w Y;refine O ?_;have P':(ga t Ls i++ku t Ls i k).length<=4096:=by rw[length_append];omega
   refine aL rfl (VW (V.at Y) ((o.dJ i x).at Y) ((o.dJ k A).at Y)) ?_;rintro _ w' ⟨⟨r,rfl,B⟩,al⟩;refine aA ?_;clear al Y;intro Y;cases r
   ·refine O ?_
    exact⟨k+1,m,⟨rfl,rfl,az⟩,aU,⟨U,by rw[JC (fun h=>by have:=B.2 h;cases this)];exact Y⟩,U⟩
   refine O ?_;refine jK bC (x1:=⟨(k:Int),(i:Int),1⟩) rfl rfl rfl (fY rfl) (fe _) Y ?_;clear Y;intro bs w Y
   refine q7 (s:=m) (s2:=bs) inferInstance rfl rfl (bk Y) rfl rfl (fun y hy v hv=>by
    rw[dp.1 hy]at hv;simp only[bC,ee,fI,pP]at hv
    rcases hv with rfl|rfl|rfl<;>rfl) (by simp only[length_cons,length_nil];omega) (by unfold bU;simp only[length_cons,length_nil];omega) Y ?_
   clear Y;intro s' w Y;refine O ?_;refine⟨k+1,s',⟨rfl,rfl,az⟩,aU,⟨U,?_⟩,U⟩;rw[JD (B.1 rfl),<-fL];exact Y.tail
  have A:k=i:=U;subst A;rw[VX]at Y;refine O ?_;exact⟨k+1,m,⟨rfl,rfl,az⟩,aU,⟨U,Y⟩,U⟩
 have P:i=Ls.length:=U;subst P;have m:=VY (t:=t) (Ls:=Ls) f;refine O ?_;obtain⟨z,x⟩:∃ z:Nat,z=Ls.length:=⟨_,rfl⟩
 rw[<-x]at m Y;refine aL rfl (VQ (n:=(ss.length:Int)) (a:=l) (arcs:=ga t Ls z) (bk Y) (hT.at Y)) ?_;rw[F,<-x];rintro _ w' R;rw[jo]at R;rw[x]at R m Y ⊢;clear x;rcases R with ⟨hc,_⟩|⟨_,K,_⟩|⟨_,x,_⟩|⟨_,h0,_,hF,rfl,al⟩|⟨_,h0,_,fv,fs,Cs,rfl,A,S,B,al⟩
 ·exact absurd m hc
 ·exfalso;omega
 ·exfalso;omega
 ·replace Y:=Y.cy al
  clear al;refine⟨_,rfl,?_⟩;refine O ?_;exact cR (v:=nS) (v':=bI 10) rfl rfl rfl (.inr (.inr (.inr (.inl ⟨hk,q,f,hF,rfl,Y.aY⟩))))
 replace Y:=Y.w9 al;clear al;refine⟨_,rfl,?_⟩;refine O ?_;exact cR (v:=fv) (v':=.nilIface) rfl rfl rfl (.inr (.inr (.inr (.inr ⟨hk,q,f,fv,fs,Cs,rfl,A,S,B,Y.aY⟩))))
end
section
open Go.Sl
def kb (g:Nat->List α)(lo hi:Nat):List α:=(range' lo (hi-lo)).flatMap g
def vt (h:hi<=lo):kb g lo hi=[]:=by
 unfold kb;rw[show hi-lo=0 by omega];rfl
def q8 (h:lo<=hi):kb g lo (hi+1)=kb g lo hi++g hi:=by
 unfold kb;rw[show hi+1-lo=hi-lo+1 by omega,range'_concat,wA];simp[show lo+(hi-lo)=hi by omega]
def Du {x:α}:x∈kb g lo hi↔∃ k,lo<=k/\k<hi/\x∈g k:=by
 unfold kb;simp only[tE,mem_range'_1];constructor
 ·rintro⟨k,hk,hx⟩;exact⟨k,hk.1,U,hx⟩
 rintro⟨k,h1,b,hx⟩;exact⟨k,⟨h1,U⟩,hx⟩
def yw {b:Nat->List α}(h:∀ k,lo<=k->k<hi->g k=b k):kb g lo hi=kb b lo hi:=by
 unfold kb;have key:∀ l:List Nat,(∀ k∈l,g k=b k)->l.flatMap g=l.flatMap b:=by
  intro l
  induction l with
  | nil=>intro _;rfl
  | cons x l d=>intro c;rw[kO,kO,c x gz,d fun k hk=>c k (iR _ hk)]
 exact key _ fun k hk=>by
  rw[mem_range'_1]at hk;exact h k hk.1 U
def Cn (p:α->Bool):(kb g lo hi).filter p=kb (fun k=>(g k).filter p) lo hi:=by
 unfold kb;generalize range' lo (hi-lo)=l
 induction l with
 | nil=>rfl
 | cons x l b=>rw[kO,kO,Bd,b]
def JE {β:Type}(f:α->List β):(kb g lo hi).flatMap f=kb (fun k=>(g k).flatMap f) lo hi:=by
 unfold kb;rw[flatMap_assoc]
def JF {α:Type}{g:Nat->List α}{lo b:Nat}(c:∀ k,(g k).length<=b):∀ {hi:Nat},(kb g lo hi).length<=(hi-lo)*b
 | 0=>by rw[vt (bu _)];exact bu _
 | hi+1=>by
  by_cases h:lo<=hi
  ·have d:=JF (g:=g) (lo:=lo) c (hi:=hi)
   have:=c hi;rw[q8 h,length_append,show hi+1-lo=hi-lo+1 by omega,zO];omega
  rw[vt U];exact bu _
def jt (l:List bp)(u:Int):Prop:=∃ f∈l,f.var=u
def zh (o:km)(u v:Int):Prop:=∃ e∈o.aJ,e.var=v/\(jt o.pre u\/jt e.bO u\/∃ d∈o.aJ,d.var=u)
def rj (t:aa)(u v:Int):Prop:=u≠v/\∃ op,op<t.M.length/\zh (t.M.getD op bj) u v
def dO (t:aa)(u v:Int):Prop:=rj t u v\/rj t v u
def dO.symm {t:aa}{u v:Int}(h:dO t u v):dO t v u:=Or.symm h
def xc (t:aa)(p:J):Prop:=∃ v∈p,∃ f∈t.aH,f.var=v
inductive CR (t:aa) (p:J):Nat->Prop
 | eL:CR t p 0
 | step {i j:Nat}:CR t p i->i<p.length->j<p.length->dO t (p.getD i W.dflt) (p.getD j W.dflt)->CR t p j
def uW (t:aa)(p:J):Prop:=∀ i,i<p.length->CR t p i
def VZ {a:Int}:uW t [a]:=fun i hi=>by
 have:i=0:=by simpa using hi
 subst this;exact .eL
def V0 {a b:Int}:uW t [a,b]↔dO t a b:=by
 constructor
 ·intro h
  have key:∀ j,CR t [a,b] j->j=1->dO t a b:=by
   intro j d
   induction d with
   | eL=>intro h;cases h
   | @step i j _ hi d e f =>
    intro c;subst c;have:i=0\/i=1:=by simp at hi;omega
    rcases this with rfl|rfl
    ·exact e
    exact f rfl
  exact key 1 (h 1 sm) rfl
 intro h i hi;have:i=0\/i=1:=by simp at hi;omega
 rcases this with rfl|rfl
 ·exact .eL
 exact .step .eL sm sm h
def V1 {a b c:Int}:uW t [a,b,c]↔(dO t a b/\dO t b c)\/(dO t a b/\dO t a c)\/(dO t a c/\dO t b c):=by
 constructor
 ·intro h
  by_cases f:dO t a b
  ·by_cases d:dO t b c
   ·exact .inl ⟨f,d⟩
   by_cases e:dO t a c
   ·exact .inr (.inl ⟨f,e⟩)
   exfalso;have key:∀ j,CR t [a,b,c] j->j≠2:=by
    intro j l
    induction l with
    | eL=>decide
    | @step i j _ hi l m o =>
     rintro rfl;have:i=0\/i=1:=by simp at hi;omega
     rcases this with rfl|rfl
     ·exact e m
     exact d m
   exact key 2 (h 2 sm) rfl
  by_cases e:dO t a c
  ·by_cases d:dO t b c
   ·exact .inr (.inr ⟨e,d⟩)
   exfalso;have key:∀ j,CR t [a,b,c] j->j≠1:=by
    intro j l
    induction l with
    | eL=>decide
    | @step i j _ hi l m o =>
     rintro rfl;have:i=0\/i=2:=by simp at hi;omega
     rcases this with rfl|rfl
     ·exact f m
     exact d m.symm
   exact key 1 (h 1 sm) rfl
  exfalso;have key:∀ j,CR t [a,b,c] j->j=0:=by
   intro j l
   induction l with
   | eL=>rfl
   | @step i j _ hi l m o =>
    subst o;have:j=0\/j=1\/j=2:=by simp at l;omega
    rcases this with rfl|rfl|rfl
    ·rfl
    ·exact absurd m f
    exact absurd m e
  have:=key 1 (h 1 sm);omega
 intro h i hi;have:i=0\/i=1\/i=2:=by simp at hi;omega
 have d:dO t a b->CR t [a,b,c] 1:=fun h=>.step .eL sm sm h;have e:dO t a c->CR t [a,b,c] 2:=fun h=>.step .eL sm sm h;rcases this with rfl|rfl|rfl
 ·exact .eL
 ·rcases h with h|h|h
  ·exact d h.1
  ·exact d h.1
  exact .step (e h.1) sm sm h.2.symm
 rcases h with h|h|h
 ·exact .step (d h.1) sm sm h.2
 ·exact e h.2
 exact e h.1
def mV (t:aa)(p:J):Prop:=xc t p/\uW t p
open Classical in
noncomputable def vu (t:aa)(p:J):List J:=if mV t p then [p] else []
def JG {p:J}(h:mV t p):vu t p=[p]:=aM h
def JH {p:J}(h:¬mV t p):vu t p=[]:=aC h
noncomputable def uF (t:aa)(k:Nat):List J:=kb (fun a=>vu t [(a:Int)]) 0 k
noncomputable def vw (t:aa)(a k:Nat):List J:=kb (fun b=>vu t [(a:Int),(b:Int)]) (a+1) k
noncomputable def uG (t:aa)(n k:Nat):List J:=kb (fun a=>vw t a n) 0 k
noncomputable def wc (t:aa)(a b k:Nat):List J:=kb (fun c=>vu t [(a:Int),(b:Int),(c:Int)]) (b+1) k
noncomputable def tF (t:aa)(n a k:Nat):List J:=kb (fun b=>wc t a b n) (a+1) k
noncomputable def sq (t:aa)(n k:Nat):List J:=kb (fun a=>tF t n a n) 0 k
def qL (p:J):Nat:=(p.getLastD (-1)+1).toNat
def JI (n:Nat)(p:J)(k:Nat):List J:=kb (fun v=>[p++[(v:Int)]]) (qL p) k
def sr (n:Nat):Nat->List J
 | 0=>[[]]
 | m+1=>(sr n m).flatMap fun p=>JI n p n
open Classical in
noncomputable def je (t:aa)(m:Nat):List J:=(sr t.vars.length m).filter fun p=>decide (mV t p)
noncomputable def fM (t:aa)(k:Nat):List J:=kb (fun m=>je t m) 1 (k+1)
def OB (n:Nat):sr n 1=kb (fun v=>[[(v:Int)]]) 0 n:=by
 show (sr n 0).flatMap _=_;rw[sr,kO,Be,fS];rfl
def JJ (p:J)(a:Nat):qL (p++[(a:Int)])=a+1:=by
 unfold qL;rw[getLastD_concat];omega
def V2 (a:Nat):qL [(a:Int)]=a+1:=JJ [] a
def V3 (a b:Nat):qL [(a:Int),(b:Int)]=b+1:=JJ [(a:Int)] b
def OC (n:Nat):sr n 2=kb (fun a=>kb (fun b=>[[(a:Int),(b:Int)]]) (a+1) n) 0 n:=by
 show (sr n 1).flatMap _=_;rw[OB,JE];refine yw fun a _ _=>?_;rw[kO,Be,fS];unfold JI;rw[V2];rfl
def V4 (n:Nat):sr n 3=kb (fun a=>kb (fun b=>kb (fun c=>[[(a:Int),(b:Int),(c:Int)]]) (b+1) n) (a+1) n) 0 n:=by
 show (sr n 2).flatMap _=_;rw[OC,JE];refine yw fun a _ _=>?_;rw[JE];refine yw fun b _ _=>?_;rw[kO,Be,fS];unfold JI;rw[V3];rfl
open Classical in
def JK (t:aa)(p:J):([p]:List J).filter (fun p=>decide (mV t p))=vu t p:=by
 unfold vu;by_cases h:mV t p
 ·rw[aM h];simp[h]
 rw[aC h];simp[h]
def JL (t:aa):je t 1=uF t t.vars.length:=by
 unfold je uF;rw[OB,Cn];exact yw fun a _ _=>JK t _
def JM (t:aa):je t 2=uG t t.vars.length t.vars.length:=by
 unfold je uG vw;rw[OC,Cn];refine yw fun a _ _=>?_;rw[Cn];exact yw fun b _ _=>JK t _
def JN (t:aa):je t 3=sq t t.vars.length t.vars.length:=by
 unfold je sq tF wc;rw[V4,Cn];refine yw fun a _ _=>?_;rw[Cn];refine yw fun b _ _=>?_;rw[Cn];exact yw fun c _ _=>JK t _
def V5 (t:aa):fM t 1=je t 1:=by
 unfold fM;rw[q8 dc,vt dc,kL]
def V6 (t:aa):fM t 2=je t 1++je t 2:=by
 unfold fM;rw[q8 dc,q8 dc,vt dc,kL]
def V7 (t:aa):fM t 3=je t 1++je t 2++je t 3:=by
 unfold fM;rw[q8 dc,q8 dc,q8 dc,vt dc,kL]
def OD:∀ n,n<13->(sr n 1).length<=12/\(sr n 2).length<=66/\(sr n 3).length<=220:=by decide +kernel
def Ge (m:Nat):(je t m).length<=(sr t.vars.length m).length:=uC _ _
def Dv (b:t.vars.length<=12):(je t 1).length<=12/\(je t 2).length<=66/\(je t 3).length<=220:=by
 have h:=OD t.vars.length U;have h1:=Ge (t:=t) 1;have c:=Ge (t:=t) 2;have d:=Ge (t:=t) 3;exact⟨U,U,U⟩
def Co {b:Nat}(h:hi<=b):(kb g lo hi).length<=(kb g lo b).length:=by
 induction b with
 | zero=>rw[show hi=0 by omega];exact cD _
 | succ m c =>
  by_cases e:hi=m+1
  ·rw[e];exact cD _
  have:=c U;by_cases d:lo<=m
  ·rw[q8 d,length_append];omega
  rw[vt U];exact bu _
def JO (b:lo<=a)(h:a<hi):(kb g lo a).length+(g a).length<=(kb g lo hi).length:=by
 have:=Co (g:=g) (lo:=lo) (show a+1<=hi from h);rw[q8 b,length_append]at this;exact this
def OE (b:t.vars.length<=12)(hk:k<=t.vars.length):(uF t k).length<=12:=by
 have:=(Dv b).1;rw[JL]at this;have:=Co (g:=fun a=>vu t [(a:Int)]) (lo:=0) hk;unfold uF at *
 omega
def OF (c:t.vars.length<=12){b:Nat}(d:a<t.vars.length)(e:b<=t.vars.length):(uG t t.vars.length a).length+(vw t a b).length<=66:=by
 have h:=(Dv c).2.1;rw[JM]at h;have h1:=JO (g:=fun a=>vw t a t.vars.length) (lo:=0) (bu a) d;have f:=Co (g:=fun b=>vu t [(a:Int),(b:Int)]) (lo:=a+1) e;unfold uG at *
 unfold vw at *
 omega
def V8 (e:t.vars.length<=12){b c:Nat}(f:a<t.vars.length)(d:a+1<=b)(i:b<t.vars.length)(j:c<=t.vars.length):(sq t t.vars.length a).length+(tF t t.vars.length a b).length+(wc t a b c).length<=220:=by
 have h:=(Dv e).2.2;rw[JN]at h;have h1:=JO (g:=fun a=>tF t t.vars.length a t.vars.length) (lo:=0) (bu a) f;have l:=JO (g:=fun b=>wc t a b t.vars.length) (lo:=a+1) d i;have m:=Co (g:=fun c=>vu t [(a:Int),(b:Int),(c:Int)]) (lo:=b+1) j;unfold sq at *
 unfold tF at *
 unfold wc at *
 omega
structure MI (M':List (List Bool)) (n:Nat) (Q:Nat->Nat->Prop):Prop where
 len:M'.length=n
 row:∀ v,v<n->(M'.getD v []).length=n
 dJ:∀ v u,v<n->u<n->((M'.getD v []).getD u false=true↔Q v u)
def lg (M':List (List Bool))(v u:Nat)(b:Bool):List (List Bool):=M'.set v ((M'.getD v []).set u b)
def Bf {l:List α}{i j:Nat}{x d:α}:(l.set i x).getD j d=if i=j/\j<l.length then x else l.getD j d:=by
 simp only[List.getD,vz];by_cases h:i=j
 ·subst h
  by_cases b:i<l.length
  ·simp[b]
  simp[b]
 simp[h]
def MI.congr {b:Nat->Nat->Prop}(h:MI M' n Q)(e:∀ v u,v<n->u<n->(Q v u↔b v u)):MI M' n b:=⟨h.len,h.row,fun v u hv hu=>(h.dJ v u hv hu).trans (e v u hv hu)⟩
def MI.vK (h:MI M' n Q){v:Nat}(hv:v<n)(hu:u<n):MI (lg M' v u true) n (fun x y=>Q x y\/(x=v/\y=u)):=by
 refine⟨by simp[lg,h.len],fun x hx=>?_,fun x y hx d=>?_⟩
 ·rw[lg,Bf]
  split
  ·rw[gY];exact h.row v hv
  exact h.row x hx
 rw[lg,Bf];by_cases e:v=x
 ·subst e
  rw[aM ⟨rfl,by rw[h.len];exact hv⟩,Bf];by_cases c:u=y
  ·subst c
   rw[aM ⟨rfl,by rw[h.row v hv];exact hu⟩];simp
  rw[aC (by simp[c]),h.dJ v y hv d];exact⟨.inl,fun b=>b.elim id fun b=>absurd b.2.symm c⟩
 rw[aC (by simp[e]),h.dJ x y hx d];exact⟨.inl,fun b=>b.elim id fun b=>absurd b.1.symm e⟩
def MI.MV (h:MI M' n Q){v:Nat}(hv:v<n)(hu:u<n):MI (lg M' v u false) n (fun x y=>Q x y/\¬(x=v/\y=u)):=by
 refine⟨by simp[lg,h.len],fun x hx=>?_,fun x y hx d=>?_⟩
 ·rw[lg,Bf]
  split
  ·rw[gY];exact h.row v hv
  exact h.row x hx
 rw[lg,Bf];by_cases e:v=x
 ·subst e
  rw[aM ⟨rfl,by rw[h.len];exact hv⟩,Bf];by_cases c:u=y
  ·subst c
   rw[aM ⟨rfl,by rw[h.row v hv];exact hu⟩];simp
  rw[aC (by simp[c]),h.dJ v y hv d];exact⟨fun b=>⟨b,fun b=>c b.2.symm⟩,fun b=>b.1⟩
 rw[aC (by simp[e]),h.dJ x y hx d];exact⟨fun b=>⟨b,fun b=>e b.1.symm⟩,fun b=>b.1⟩
def MI.rep (n:Nat):MI (replicate n (replicate n false)) n (fun _ _=>False):=by
 refine⟨nD,fun v hv=>?_,fun v u hv hu=>?_⟩
 ·have e:(replicate n (replicate n false)).getD v []=replicate n false:=by rw[iD,zP,aM hv];rfl
  rw[e,nD]
 have e:(replicate n (replicate n false)).getD v []=replicate n false:=by rw[iD,zP,aM hv];rfl
 rw[e];simp[iD,zP,hu]
def su (n k:Nat):List (List Bool):=(List.range n).map fun i=>if i<k then replicate n false else []
def OG (n k:Nat):(su n k).length=n:=by simp[su]
def OH (n:Nat):su n 0=replicate n []:=by
 apply iB (by simp[su]);intro i h1 b;simp[su]
def OI (n:Nat):su n n=replicate n (replicate n false):=by
 apply iB (by simp[su]);intro i h1 b;have:i<n:=by simpa [su] using h1
 simp[su,this]
def OJ:(su n k).set k (replicate n false)=su n (k+1):=by
 apply iB (by simp[su]);intro i h1 b;rw[si];simp only[su,mK,qZ];split
 ·rename_i e;subst e;rw[aM U]
 by_cases h:i<k
 ·rw[aM h,aM U]
 rw[aC h,aC U]
structure VI (L:List Bool) (n:Nat) (Q:Nat->Prop):Prop where
 len:L.length=n
 dJ:∀ u,u<n->(L.getD u false=true↔Q u)
def VI.rep (n:Nat):VI (replicate n false) n (fun _=>False):=⟨nD,fun u hu=>by simp[iD,zP,hu]⟩
def VI.congr {Q b:Nat->Prop}(h:VI L n Q)(e:∀ u,u<n->(Q u↔b u)):VI L n b:=⟨h.len,fun u hu=>(h.dJ u hu).trans (e u hu)⟩
def VI.vK {Q:Nat->Prop}(h:VI L n Q)(hu:u<n):VI (L.set u true) n (fun y=>Q y\/y=u):=by
 refine⟨by rw[gY];exact h.len,fun y c=>?_⟩;rw[Bf];by_cases e:u=y
 ·subst e
  rw[aM ⟨rfl,by rw[h.len];exact hu⟩];simp
 rw[aC (by simp[e]),h.dJ y c];exact⟨.inl,fun b=>b.elim id fun b=>absurd b.symm e⟩
noncomputable def fu (t:aa)(u k:Nat):List kM:=open Classical in kb (fun v=>if rj t (u:Int) (v:Int) then [⟨(u:Int),(v:Int),1⟩] else []) 0 k
noncomputable def bz (t:aa)(k:Nat):List kM:=kb (fun u=>fu t u t.vars.length) 0 k
def Gf {a:kM}:a∈bz t t.vars.length↔∃ u v:Nat,u<t.vars.length/\v<t.vars.length/\rj t (u:Int) (v:Int)/\a=⟨(u:Int),(v:Int),1⟩:=by
 unfold bz fu;rw[Du];constructor
 ·rintro⟨u,_,hu,h⟩
  obtain⟨v,_,hv,h⟩:=Du.1 h;split at h
  ·rename_i b;exact⟨u,v,hu,hv,b,dp.1 h⟩
  simp at h
 rintro⟨u,v,hu,hv,b,rfl⟩;exact⟨u,bu _,hu,Du.2 ⟨v,bu _,hv,by rw[aM b];exact mem_singleton_self _⟩⟩
def OK (t:aa)(u k:Nat):(fu t u k).length<=k:=by
 have:=JF (g:=fun v=>open Classical in if rj t (u:Int) (v:Int) then [(⟨(u:Int),(v:Int),1⟩:kM)] else []) (lo:=0) (b:=1) (fun k=>by split<;>simp) (hi:=k);unfold fu;omega
def OL (t:aa)(k:Nat):(bz t k).length<=k*t.vars.length:=by
 have:=JF (g:=fun u=>fu t u t.vars.length) (lo:=0) (b:=t.vars.length) (fun u=>OK t u _) (hi:=k);unfold bz;exact this
end
end Go.Proofs.YtmapkjoefdgjfaaGreatDoor
