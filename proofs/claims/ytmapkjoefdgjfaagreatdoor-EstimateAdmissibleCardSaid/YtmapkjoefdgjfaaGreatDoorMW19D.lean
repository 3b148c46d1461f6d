/- Several texts. -/
import Derived.Test.YtmapkjoefdgjfaaGreatDoorMW18D
set_option linter.unusedSimpArgs false
set_option linter.unusedVariables false
set_option linter.defProp false
set_option maxRecDepth 8000
set_option maxHeartbeats 16000000
open List Nat
namespace Go.Proofs.YtmapkjoefdgjfaaGreatDoor
open Go.Sl
variable {α:Type}{t:aa}{n lo hi a k u:Nat}{g:Nat->List α}{w0:World}{N:Nat->Nat}{M':List (List Bool)}{Q:Nat->Nat->Prop}{L:List Bool}
section
open Go.Sl Go
attribute [local irreducible] vc opsW opsD opV opW PureV ReadV Thn Blk
def U5 {n:Int}{a:Value}{arcs:List kO}(d:RS bA w0 a arcs) :
  Calls aj 138 #[E n,a] w0 fun e w'=>e=.returned (bO (cj n arcs))/\M w0 w' []:=by
 have f:=d.bT;have Y:=M.start w0;refine bB ao Tryz.func138 ?_;refine aA ?_ ?_<;>intro c
 ·refine W ?_
  refine bk (v:=.iface 57 (E 1)) rfl rfl ⟨?_,Y⟩;rw[U6 c];rfl
 refine aA ?_ ?_<;>intro h1
 ·refine W ?_
  refine bk (v:=.iface 57 (E 5)) rfl rfl ⟨?_,Y⟩;rw[U7 c U];rfl
 refine W ?_;refine cN [4,4,6,6,22,57] (G:=Nat) (fun k=>[(22,E k)]) (fun k w=>k<=arcs.length/\(∀ i,i<k->fj n (arcs.getD i bA.dflt))/\M w0 w []) (fun k=>arcs.length-k) 0 (fun _=>rfl) ⟨rfl,au⟩ ⟨br _,fun i hi=>absurd hi (dx _),Y⟩ ?_;clear Y;rintro j k w ⟨hk,b,Y⟩;refine aA ?_ ?_<;>intro l
 ·refine lR ?_ ?_<;>intro p w Y m
  ·refine W ?_
   refine bk (v:=.iface 57 (E 1)) rfl rfl ⟨?_,Y.tail⟩;rw[U8 c U (k:=k) U (by unfold fj;omega)];rfl
  refine W ?_;refine⟨k+1,⟨rfl,au⟩,aV,⟨U,fun i hi=>?_,Y.tail⟩,U⟩;by_cases h:i=k
  ·subst h;unfold fj;omega
  exact b i U
 refine W ?_;refine bk (v:=.nilIface) rfl rfl ⟨?_,Y⟩;rw[N3 c U (fun i hi=>b i U)];rfl
def U9 {R:Nat}:decide (((R / 2 ^ k &&& 1:Nat):Int)=1)=R.testBit k:=by
 rw[testBit_eq_decide_div_mod_eq,and_one_is_mod];exact decide_eq_decide.2 U
def yl (b:n<=32)(h:∀ v,ib a v->v<n):a<18446744073709551616:=by
 have h1:=N4 h;have c:2 ^ n<=2 ^ 32:=ym dc b;omega
def vV {pf:Addr}{nv:Value}{near:List Nat}(D:near.length<=32)(hG:Gr near.length (fun u=>near.getD u cT.dflt))(hT:la w0):∀ (P R X':Nat) {w:World}{fv:Value}{fs:List Value}{Fs:List J},BI near.length (fun u=>near.getD u cT.dflt) R P X'->Fs.length<=4096->M w0 w [X ar 22 fv fs,ai O 3 fs Fs,ak pf 230 [nv,fv],X cT 220 nv near] ->
  Calls aj 139 #[.pointer (some pf),u64 R,u64 P,u64 X'] w fun e w'=>∃ r M' c d,e=.returned (.bool r)/\jW near.length (fun u=>near.getD u cT.dflt) R P Fs.length r M'/\M w0 w' [X ar 22 c d,ai O 3 d (Fs++M'.map fun C=>dy C near.length),ak pf 230 [nv,c],X cT 220 nv near]:=by
 intro P
 induction P using Nat.strongRecOn with
 | _ P ih =>
 intro R X' w fv fs Fs A hl Y;have _j:=(Y.bJ 1 rfl).bP;have T':=yl D A.rb;have j:=yl D A.pb;have F:=yl D A.xb;have _f:P ||| X'<18446744073709551616:=by have:=or_lt_two_pow (n:=64) j F;omega
 have o:∀ u,near.getD u cT.dflt<18446744073709551616:=fun u=>yl D (hG.bd u);refine bB ao Tryz.func139 ?_;refine pV ?_;refine fi rfl (B8 (a:=P) (b:=X') rfl rfl j F) ?_;refine pV ?_;by_cases h0:P ||| X'=0
 ·have K:decide (((P ||| X':Nat):Int)=0)=true:=dY U
  simp only[K];refine W ?_;have l:=Y.nil (T:=O) (e:=3);clear Y;refine dN [9,10,27,39] (G:=Nat) (H:=Value) (fun k d=>[(27,E k),(9,d)]) (fun k d w=>k<=near.length/\M w0 w [X O 3 d (dy R k),X ar 22 fv fs,ai O 3 fs Fs,ak pf 230 [nv,fv],X cT 220 nv near]) (fun k _=>near.length-k) 0 (nS) (fun _ _=>rfl) ⟨rfl,rfl,au⟩ ⟨br _,l⟩ ?_;clear l;rintro σ k d w ⟨hk,Y⟩;refine aA ?_ ?_<;>intro h1
  ·have f:k<near.length:=U
   have i:=N5 R k;refine W ?_;refine fi rfl (I3 (a:=R) (b:=k) (k:=.i64) rfl rfl U) ?_;refine fi rfl (yn (a:=R / 2 ^ k) (b:=1) rfl rfl (zI (div_le_self _ _) T') dc) ?_;refine pV ?_;simp only[U9];by_cases c:ib R k
   ·simp only[show R.testBit k=true from c]
    repeat (first|refine dB ?_|(refine fR ?_;clear Y;intro s w Y))
    rw[<-N6 c]at Y;exact⟨k+1,s,⟨rfl,rfl,au⟩,aV,⟨U,Y.bb⟩,U⟩
   simp only[qX.2 c];refine W ?_;rw[<-N7 c]at Y;exact⟨k+1,_,⟨rfl,rfl,au⟩,aV,⟨U,Y⟩,U⟩
  have f:k=near.length:=U;subst f;have i:P=0:=N8 fun v hv=>uz h0 v (Di.2 (.inl hv));have m:X'=0:=N8 fun v hv=>uz h0 v (Di.2 (.inr hv))
  repeat (first|refine dB ?_|(refine qx ?_;clear Y;intro w Y)|(refine fR ?_;clear Y;intro s w Y))
  obtain⟨c,rfl⟩:=À s;have z:M w0 w [X O 3 d (dy R near.length),ai O 3 fs Fs,X ar 22 c (fs++[d]),ak pf 230 [nv,c],X cT 220 nv near]:=by
   have l:M w0 w [X O 3 d (dy R near.length),X ar 22 c (fs++[d]),ai O 3 fs Fs,ak pf 230 [nv,c],X cT 220 nv near]:=Y.tail;exact l.bb
  have B:=z.j0;have S:M w0 w [X ar 22 c (fs++[d]),ai O 3 (fs++[d]) (Fs++[dy R near.length]),ak pf 230 [nv,c],X cT 220 nv near]:=B.bb;refine bk (v:=.bool (decide (((fs++[d]).length:Int)<=4096))) rfl rfl ⟨_,[R],c,fs++[d],?_,jW.eO A i m hl,S⟩;congr 2;exact decide_eq_decide.2 (by simp only[length_append,length_cons,length_nil];omega)
 have K:decide (((P ||| X':Nat):Int)=0)=false:=eA U;simp only[K];refine W ?_;refine fi rfl (B8 (a:=P) (b:=X') rfl rfl j F) ?_;refine pV ?_;refine cN [11,15,59,81] (G:=Nat × Nat × Int) (fun y=>[(13,u64 y.1),(11,E (y.2.1:Int)),(12,E y.2.2)]) (fun y w=>y.1<18446744073709551616/\(∀ v,ib y.1 v->ib P v\/ib X' v)/\((y.2.2 = -1/\y.1=P ||| X')\/(0<=y.2.2/\y.2.2<=127/\(ib P y.2.1\/ib X' y.2.1)))/\M w0 w [X ar 22 fv fs,ai O 3 fs Fs,ak pf 230 [nv,fv],X cT 220 nv near]) (fun y=>y.1) (P ||| X',0,-1) (fun _=>rfl) ⟨rfl,rfl,rfl,au⟩ ⟨_f,fun v hv=>Di.1 hv,.inl ⟨rfl,rfl⟩,Y⟩ ?_;clear Y;rintro σ ⟨x,piv,V'⟩ w ⟨hx,d,f,Y⟩;simp only at hx d f Y;refine pV ?_;by_cases B:x=0;rotate_left
 ·have i:decide ((x:Int)=0)=false:=eA U
  simp only[i,qy];obtain⟨v,hv⟩:=N9 B;have m:=d v hv.1;have _a:v<near.length:=by
   rcases m with h|h
   ·exact A.pb v h
   exact A.xb v h
  refine W ?_;refine aU rfl (u9 Y hT hx hv) ?_;rintro _ w' ⟨rfl,rfl⟩;refine⟨_,rfl,?_⟩;refine pV ?_;refine fi rfl (yn (a:=P) (b:=near.getD v cT.dflt) rfl rfl j (o v)) ?_;refine aU rfl (Va (zI B9 j)) ?_;rintro _ w' ⟨⟨kk,rfl,V,j'⟩,rfl⟩;refine⟨_,rfl,?_⟩;refine pV ?_;have z:=Oa B;have S:=fun u=>Ob hv u;refine jy ?_ ?_<;>intro h2
  ·refine W ?_
   refine fi rfl (FR (a:=x) (b:=1) rfl rfl U hx) ?_;refine fi rfl (yn (a:=x) (b:=x-1) rfl rfl hx U) ?_;refine W ?_;exact⟨(x &&& (x-1),v,kk),⟨rfl,rfl,rfl,au⟩,aV,⟨by simp only;omega,fun u hu=>d u ((S u).1 hu).1,.inr ⟨V,j',m⟩,Y⟩,z⟩
  refine W ?_;refine fi rfl (FR (a:=x) (b:=1) rfl rfl U hx) ?_;refine fi rfl (yn (a:=x) (b:=x-1) rfl rfl hx U) ?_;refine W ?_;refine⟨(x &&& (x-1),piv,V'),⟨rfl,rfl,rfl,au⟩,aV,⟨by simp only;omega,fun u hu=>d u ((S u).1 hu).1,?_,Y⟩,z⟩;rcases f with ⟨e1,_⟩|f
  ·exfalso;omega
  exact .inr f
 have i:decide ((x:Int)=0)=true:=dY U;have _b:ib P piv\/ib X' piv:=by
  rcases f with ⟨_,m⟩|f
  ·exact absurd (m.symm.trans B) h0
  exact f.2.2
 have _k:piv<near.length:=by
  rcases _b with h|h
  ·exact A.pb _ h
  exact A.xb _ h
 simp only[i,nq];refine W ?_;refine fi rfl (Oc (a:=P) (b:=near.getD piv cT.dflt) rfl rfl j (o piv)) ?_;refine W ?_;have _g:FI near.length (fun u=>near.getD u cT.dflt) R P Fs.length (P &&& pZ (near.getD piv cT.dflt)) P X' []:=FI.start hG A _b (fun v=>Od j (o piv)) hl;have l:M w0 w [X ar 22 fv fs,ai O 3 fs (Fs++([]:List Nat).map fun C=>dy C near.length),ak pf 230 [nv,fv],X cT 220 nv near]:=by
  rw[tD,fI];exact Y
 clear Y;refine cN [2,3,8,8,16,17,91,131] (G:=Nat × Nat × Nat × List Nat × Value × List Value) (fun y=>[(16,u64 y.1),(2,u64 y.2.1),(3,u64 y.2.2.1)]) (fun y w=>FI near.length (fun u=>near.getD u cT.dflt) R P Fs.length y.1 y.2.1 y.2.2.1 y.2.2.2.1/\M w0 w [X ar 22 y.2.2.2.2.1 y.2.2.2.2.2,ai O 3 y.2.2.2.2.2 (Fs++y.2.2.2.1.map fun C=>dy C near.length),ak pf 230 [nv,y.2.2.2.2.1],X cT 220 nv near]) (fun y=>y.1) (P &&& pZ (near.getD piv cT.dflt),P,X',[],fv,fs) (fun _=>rfl) ⟨rfl,rfl,rfl,au⟩ ⟨_g,l⟩ ?_;clear l hx d f B i;rintro _l ⟨q,pp,xx,M',fv,fs⟩ w ⟨m,Y⟩;simp only at m Y;have S:=yl D fun v hv=>m.bi.pb v (m.qp v hv);have V:=yl D m.bi.pb;have _c:=yl D m.bi.xb;refine pV ?_;by_cases j':q=0
 ·have i:decide ((q:Int)=0)=true:=dY U
  simp only[i,nq];refine W ?_;exact bk (v:=.bool true) rfl rfl ⟨true,M',fv,fs,rfl,m.done j',Y⟩
 have i:decide ((q:Int)=0)=false:=eA U;simp only[i,qy];obtain⟨v,hv⟩:=N9 j';have H':=m.qp v hv.1;have _a:=m.bi.pb v H';refine W ?_;refine aU rfl (u9 Y hT S hv) ?_;rintro _ w' ⟨rfl,rfl⟩;refine⟨_,rfl,?_⟩;have z:2 ^ v<18446744073709551616:=yl D fun u hu=>by rw[FS.1 hu];exact _a
 have J':1*2 ^ v % 18446744073709551616=2 ^ v:=by rw[ww,FT z]
 have _h:¬ib (near.getD v cT.dflt) v:=hG.I4 v;have P':∀ u,ib (R ||| 2 ^ v) u↔ib R u\/u=v:=fun u=>by rw[Di,FS]
 have R':∀ u,ib (pp &&& near.getD v cT.dflt) u↔ib pp u/\ib (near.getD v cT.dflt) u:=fun u=>FU;have _i:∀ u,ib (xx &&& near.getD v cT.dflt) u↔ib xx u/\ib (near.getD v cT.dflt) u:=fun u=>FU;have _d:(Fs++M'.map fun C=>dy C near.length).length=Fs.length+M'.length:=sm;refine W ?_;refine fQ (pl [0,1,2,3,4,5,6,7,8,9,10,11,12,13,14,15,16,17,18,19,20,21,22,23,24] []) Y kr ?_;clear Y;intro w Y;refine W ?_;refine fi rfl (Ca (a:=1) (b:=v) (k:=.i64) rfl rfl U) ?_;rw[J'];refine W ?_;refine fi rfl (B8 (a:=R) (b:=2 ^ v) rfl rfl T' z) ?_;refine W ?_;refine fi rfl (yn (a:=pp) (b:=near.getD v cT.dflt) rfl rfl V (o v)) ?_;refine W ?_;refine fi rfl (yn (a:=xx) (b:=near.getD v cT.dflt) rfl rfl _c (o v)) ?_;refine W ?_;refine aU rfl (ih (pp &&& near.getD v cT.dflt) (A4 (Vb H' _h) m.I5) (R ||| 2 ^ v) (xx &&& near.getD v cT.dflt) (m.bi.child hG H' P' R' _i) (by rw[_d];exact m.le) Y) ?_;clear Y;rintro _ w ⟨r,M1,c,_e,rfl,hf,Y⟩;rw[_d]at hf;rw[fG,<-pX]at Y;refine⟨_,rfl,?_⟩;cases r
 ·refine W ?_
  exact bk (v:=.bool false) rfl rfl ⟨false,M'++M1,c,_e,rfl,m.fail hG hv.1 P' R' hf,Y⟩
 refine W ?_;refine fi rfl (Ca (a:=1) (b:=v) (k:=.i64) rfl rfl U) ?_;rw[J'];refine fi rfl (Oc (a:=pp) (b:=2 ^ v) rfl rfl V z) ?_;refine W ?_;refine fi rfl (Ca (a:=1) (b:=v) (k:=.i64) rfl rfl U) ?_;rw[J'];refine fi rfl (B8 (a:=xx) (b:=2 ^ v) rfl rfl _c z) ?_;refine W ?_;refine fi rfl (FR (a:=q) (b:=1) rfl rfl U S) ?_;refine fi rfl (yn (a:=q) (b:=q-1) rfl rfl S U) ?_;refine W ?_;exact⟨(q &&& (q-1),pp &&& pZ (2 ^ v),xx ||| 2 ^ v,M'++M1,c,_e),⟨rfl,rfl,rfl,au⟩,aV,⟨m.step hG hv.1 P' R' hf (fun u=>by rw[Od V z,FS]) (fun u=>by rw[Di,FS]) (fun u=>Ob hv u) B9,Y⟩,Oa j'⟩
end
section
open Go.Sl Go Go.Shelf Go.Sort
attribute [local irreducible] vc opsW opsD opV opW PureV ReadV Thn Blk
def Vc {m:Nat}(F:Nat->J):SWO (ltOf fun (i j:Fin m)=>ff (F i.1) (F j.1)) where
 irrefl x:=by simp[ltOf,Oe]
 trans x y z h1 b:=by
  simp only[ltOf,gR]at h1 b ⊢;exact I6 h1 b
 ntrans x y z h1 b:=by
  simp only[ltOf,pM]at h1 b ⊢;intro c;by_cases e:ff (F x.1) (F y.1)=0
  ·rw[I7 e]at c;exact b c
  have d:ff (F y.1) (F x.1)<0:=by have:=I8 (F x.1) (F y.1);omega
  exact b (I6 d c)
def Vd {L:List α}(h:L.Nodup){i j:Nat}(hi:i<L.length)(b:j<L.length)(e:L[i]=L[j]):i=j:=by
 rcases Nat.lt_trichotomy i j with h1|h1|h1
 ·exact absurd e (v7.1 h i j hi b h1)
 ·exact h1
 exact absurd e.symm (v7.1 h j i b hi h1)
def Ve {w:World}{Γ:List HP}{fv:Value}{fs:List Value}{Fs:List J}(Y:M w0 w (X ar 22 fv fs::ai O 3 fs Fs::Γ))(T:Fs.Nodup)(h0:0<Fs.length)(hn:Fs.length<=8192) :
  Calls aj 140 #[fv,.func (.func 141) #[] #[]] w fun e w'=>e=.returned (.tuple #[])/\∃ is:List Nat,is.Perm (List.range Fs.length)/\BC (is.map fun i=>Fs.getD i []) /\
   M w0 w' (X ar 22 fv (is.map (cF fs))::ai O 3 (is.map (cF fs)) (is.map fun i=>Fs.getD i [])::Γ):=by
 have V:fs.length=Fs.length:=(Y.bJ 1 rfl).bP;obtain⟨m,hm⟩:=À Fs.length
 haveI:Inhabited (Fin m):=⟨⟨0,U⟩⟩
 let enc:Fin m->Value:=fun i=>cF fs i.1
 have l:∀ x:Fin m,(enc x).oneCell'=true:=fun x=>((Y.bJ 1 rfl).row (i:=x.1) (by have:=x.2;omega)).one;have A:(finRange m).map enc=fs:=by
  apply iA (by simp;omega);intro i h1 d;simp only[mL,enc,l9];simp[List.getD,d]
 have B:M w0 w (X ar 22 fv ((finRange m).map enc)::ai O 3 fs Fs::Γ):=by rw[A];exact Y
 rcases B.BV enc with ⟨_,o⟩|⟨b,off,cap,rfl,hc,hb,hH,f⟩
 ·have:=qq List.length o
  simp at this;omega
 have h:(finRange m).toArray.size=m:=sm;have r:CmpLays1 aj 141 #[] enc (fun i j=>ff (Fs.getD i.1 []) (Fs.getD j.1 [])) b off (finRange m).toArray.size w:=by
  intro q os c v x y;have h1:=(f c.toList (by simp at v ⊢;exact v) q).grow os;have C:c.toList.toArray=c:=sm;rw[C]at h1;refine(Vf ((h1.bJ 1 rfl).row (i:=x.1) (by have:=x.2;omega)) ((h1.bJ 1 rfl).row (i:=y.1) (by have:=y.2;omega))).mono ?_;rintro e w' ⟨he,rfl⟩;exact⟨he,0,#[],by rw[World.drewN_zero,grow_empty];rfl⟩
 have hS:=Any.slices_SortFunc ME enc l (fun i j=>ff (Fs.getD i.1 []) (Fs.getD j.1 [])) (Vc fun i=>Fs.getD i []) 141 #[] b off cap (finRange m).toArray w (fun args w=>ap.run inferInstance args w) r hH hb (by rw[h];omega);have S:(finRange m).length=(finRange m).toArray.size:=sm;rw[S];refine hS.mono ?_;rintro e w' ⟨he,c,q,os,hp,v,rfl⟩;obtain⟨D,_,F⟩:=hp;rw[h]at D v F;have G:c.toList.Perm (finRange m):=by
  have z:c.extract 0 m=c:=by
   have:=FV (xs:=c)
   rwa[D]at this
  have H:(finRange m).toArray.extract 0 m=(finRange m).toArray:=by
   have:=FV (xs:=(finRange m).toArray)
   rwa[h]at this
  rw[z,H]at F
  simpa using F
 refine⟨he,c.toList.map (·.1),?_,?_,?_⟩
 ·have h1:=G.map (fun i:Fin m=>i.1)
  have d:(finRange m).map (fun i:Fin m=>i.1)=List.range m:=by
   apply iA sm;intro i h1 d;simp
  rw[d]at h1;rw[<-hm];exact h1
 ·have H:c.toList.Nodup:=G.nodup_iff.2 (nodup_finRange m)
  rw[zz];refine A5.2 ?_;rw[v7];intro i j hi K z;simp only[FW]at hi K;have h1:=v i j (br _) z U;rw[getElem!_pos c j K,getElem!_pos c i hi]at h1;simp only[ltOf,pM]at h1;have P:c[i]≠c[j]:=fun e=>by
   have:=v7.1 H i j (by simpa using hi) (by simpa using K) z;simp only[Of]at this;exact this e
  simp only[Function.comp,Of];have j':=I8 (Fs.getD c[i].1 []) (Fs.getD c[j].1 []);have H':ff (Fs.getD c[i].1 []) (Fs.getD c[j].1 [])≠0:=fun e=>by
   have R:=I7 e;have b1:=c[i].2;have b2:=c[j].2;rw[iB,iB,kP U,kP U]at R;simp only[Option.getD_some]at R;exact P (Fin.ext (Vd T U U R))
  omega
 have h1:=(f c.toList (by simp[D]) q).grow os;have C:c.toList.toArray=c:=sm;rw[C]at h1;have d:M w0 (grow (putRow enc (Sort.ahead w q) b off c) os) (ai O 3 fs Fs::X ar 22 (.slice (some ⟨b,off,none⟩) (finRange m).toArray.size cap) (c.toList.map enc)::Γ):=by
  rw[<-S];exact h1.swap
 have z:=d.xH (is:=c.toList.map (·.1)) (by
  have h1:=G.map (fun i:Fin m=>i.1);have d:(finRange m).map (fun i:Fin m=>i.1)=List.range m:=by
   apply iA sm;intro i h1 d;simp
  rw[d]at h1;rw[<-hm]
  exact h1)
 have H:c.toList.map enc=(c.toList.map (·.1)).map (cF fs):=by rw[zz];rfl
 rw[H]at z;exact z.swap
end
section
open Go.Sl Go
attribute [local irreducible] vc opsW opsD opV opW PureV ReadV Thn Blk
def I9 (n v:Nat):ib (2 ^ n-1) v↔v<n:=by unfold ib;rw[Og,gR]
def Vg:BI n N 0 (2 ^ n-1) 0 where
 rb v hv:=absurd hv (uz rfl v)
 pb v hv:=(I9 n v).1 hv
 xb v hv:=absurd hv (uz rfl v)
 tl u v hu:=absurd hu (uz rfl u)
 wx u _ r b:=absurd b (uz rfl r)
 all u hu _:=.inl ((I9 n u).2 hu)
def Ja {C:Nat}:kc n N 0 (2 ^ n-1) C↔tT n N C :=
 ⟨fun h=>h.mx,fun h=>⟨h,fun v hv=>absurd hv (uz rfl v),fun v hv=>.inr ((I9 n v).2 (h.bd v hv))⟩⟩
def Oh {M':List Nat}(c:M'.Nodup)(hm:∀ C∈M',tT n N C):(M'.map fun C=>dy C n).Nodup:=by
 refine A5.2 (Jb (fun d f b e=>?_) c);exact b (Vh (hm _ d).bd (hm _ f).bd e)
def j1 (n:Nat)(N:Nat->Nat):Prop:=∃ M':List Nat,M'.Nodup/\M'.length=4097/\∀ C∈M',tT n N C
def Vi {n:Int}{a:Value}{arcs:List kO}(K:RS bA w0 a arcs)(hT:la w0) :
  Calls aj 108 #[E n,a] w0 fun e w' =>
   (cj n arcs≠0/\e=.returned (.tuple #[nS,bO (cj n arcs)])/\M w0 w' []) \/
   (cj n arcs=0/\32<n/\e=.returned (.tuple #[nS,bO 5])/\M w0 w' []) \/
   (cj n arcs=0/\n=0/\e=.returned (.tuple #[nS,.nilIface])/\M w0 w' []) \/
   (cj n arcs=0/\0<n/\n<=32/\j1 n.toNat (rU n.toNat arcs)/\e=.returned (.tuple #[nS,bO 10])/\M w0 w' []) \/
   (cj n arcs=0/\0<n/\n<=32/\∃ fv fs Cs,e=.returned (.tuple #[fv,.nilIface])/\BC Cs/\kJ n.toNat (rU n.toNat arcs) Cs/\Cs.length<=4096/\M w0 w' [ai O 3 fs Cs,X ar 22 fv fs]):=by
 have P':=K.bT;have Y:=M.start w0;refine bB ao Tryz.func108 ?_;refine W ?_;refine aU rfl (U5 K) ?_;rintro _ w' ⟨rfl,an⟩;refine aI ?_;clear an Y;intro Y;by_cases q:cj n arcs=0;rotate_left
 ·rw[dq q]
  refine W ?_;exact cX (v:=nS) (v':=.iface 57 (E (cj n arcs))) rfl rfl rfl (.inl ⟨q,rfl,Y⟩)
 rw[gy q];obtain⟨y,R',T',bI⟩:=Vj q;have d:∀ a∈arcs,fj (n.toNat:Int) a:=by rw[fZ y];exact bI
 refine aA ?_ ?_<;>intro h1
 ·refine W ?_
  exact cX (v:=nS) (v':=.iface 57 (E 5)) rfl rfl rfl (.inr (.inl ⟨q,h1,by rw[dq dc],Y⟩))
 refine aA ?_ ?_<;>intro D
 ·refine W ?_
  exact cX (v:=nS) (v':=.nilIface) rfl rfl rfl (.inr (.inr (.inl ⟨q,D,rfl,Y⟩)))
 refine W ?_;refine Cb cT 0 (n:=n) rfl rfl rfl rfl y U U Y ?_;clear Y;intro f w Y;have P:=(Y.rs 0 rfl).one;refine Jc (v1:=f) rfl rfl (by simp only[ew,eN,P];rfl) ?_;refine yj (vs:=[f,nS]) rfl Y ?_;clear Y;intro z w Y;refine W ?_;have j:M w0 w [ak z 230 [f,nS],X cT 220 f (eU n.toNat arcs 0)]:=Y;clear Y;refine cN [9,9,27,62] (G:=Nat) (fun k=>[(27,E k)]) (fun k w=>k<=arcs.length/\M w0 w [ak z 230 [f,nS],X cT 220 f (eU n.toNat arcs k)]) (fun k=>arcs.length-k) 0 (fun _=>rfl) ⟨rfl,au⟩ ⟨br _,j⟩ ?_;clear j;rintro σ k w ⟨hk,Y⟩;refine aA ?_ ?_<;>intro h3
 ·have m:k<arcs.length:=U
  have A:=bI _ (cD bA.dflt m);unfold fj at A;have o:=FX (n:=n.toNat) (arcs:=arcs) k U;have F:∀ x,(eU n.toNat arcs k).getD x cT.dflt<18446744073709551616:=fun x=>by
   have h1:=Vk (n:=n.toNat) (x:=x) d (show k<=arcs.length by omega);have D:2 ^ n.toNat<=2 ^ 32:=ym dc U;omega
  have C:∀ u:Nat,(u:Int)<n->1*2 ^ u % 18446744073709551616=2 ^ u/\2 ^ u<18446744073709551616:=fun u hu=>by
   have D:2 ^ u<2 ^ 64:=Nat.pow_lt_pow_right dc U;exact⟨by rw[ww,FT D],D⟩
  refine Vl ?_;intro p w Y;by_cases he:(arcs.getD k bA.dflt).ba=(arcs.getD k bA.dflt).dst
  ·have B:decide ((arcs.getD k bA.dflt).ba=(arcs.getD k bA.dflt).dst)=true:=dY he
   simp only[B,nq];refine W ?_;have c:o8 (eU n.toNat arcs k) (arcs.getD k bA.dflt)=(eU n.toNat arcs k):=aP he;rw[<-FY m]at c;rw[<-c]at Y;exact⟨k+1,⟨rfl,au⟩,aV,⟨U,Y.tail⟩,U⟩
  have B:decide ((arcs.getD k bA.dflt).ba=(arcs.getD k bA.dflt).dst)=false:=eA he;simp only[B,qy];have c:o8 (eU n.toNat arcs k) (arcs.getD k bA.dflt)=mg (mg (eU n.toNat arcs k) (arcs.getD k bA.dflt).ba.toNat (arcs.getD k bA.dflt).dst.toNat) (arcs.getD k bA.dflt).dst.toNat (arcs.getD k bA.dflt).ba.toNat:=aH he;rw[<-FY m]at c;obtain⟨R,S⟩:=C (arcs.getD k bA.dflt).dst.toNat U;obtain⟨V,e4⟩:=C (arcs.getD k bA.dflt).ba.toNat U;refine W ?_;refine fQ (pl [0,1,2,3,4,5,6,7,8,9,10,11,12,13] []) Y kr ?_;clear Y;intro w Y;refine W ?_;refine fi rfl (Ca (a:=1) (b:=(arcs.getD k bA.dflt).dst.toNat) (k:=.i64) rfl (by rw[fZ A.2.2.1];rfl) U) ?_;rw[R];refine W ?_;refine fi rfl (B8 (a:=(eU n.toNat arcs k).getD (arcs.getD k bA.dflt).ba.toNat cT.dflt) (b:=2 ^ (arcs.getD k bA.dflt).dst.toNat) rfl rfl (F _) S) ?_;refine iC ?_;intro w Y;have j':=Oi (eU n.toNat arcs k) (arcs.getD k bA.dflt).ba.toNat (arcs.getD k bA.dflt).dst.toNat;have H:∀ x,(mg (eU n.toNat arcs k) (arcs.getD k bA.dflt).ba.toNat (arcs.getD k bA.dflt).dst.toNat).getD x cT.dflt<18446744073709551616:=fun x=>yl (n:=n.toNat) U fun v hv=>by
   rcases (Jd U).1 hv with h|⟨_,h⟩
   ·exact(mR.lt (arcs:=arcs.take k) (fun a K=>d a (pU K)) ((FZ d k U).1 h)).2
   omega
  have Y:M w0 w [ak p 181 (bA.enc (arcs.getD k bA.dflt)),ak z 230 [f,nS],X cT 220 f (mg (eU n.toNat arcs k) (arcs.getD k bA.dflt).ba.toNat (arcs.getD k bA.dflt).dst.toNat)]:=Y;refine fQ (pl [0,1,2,3,4,5,6,7,8,9,10,11,12,13] []) Y kr ?_;clear Y;intro w Y;refine W ?_;refine fi rfl (Ca (a:=1) (b:=(arcs.getD k bA.dflt).ba.toNat) (k:=.i64) rfl (by rw[fZ A.1];rfl) U) ?_;rw[V];refine W ?_;refine fi rfl (B8 (a:=(mg (eU n.toNat arcs k) (arcs.getD k bA.dflt).ba.toNat (arcs.getD k bA.dflt).dst.toNat).getD (arcs.getD k bA.dflt).dst.toNat cT.dflt) (b:=2 ^ (arcs.getD k bA.dflt).ba.toNat) rfl rfl (H _) e4) ?_;refine iC ?_;intro w Y;have Y:M w0 w [ak p 181 (bA.enc (arcs.getD k bA.dflt)),ak z 230 [f,nS],X cT 220 f (mg (mg (eU n.toNat arcs k) (arcs.getD k bA.dflt).ba.toNat (arcs.getD k bA.dflt).dst.toNat) (arcs.getD k bA.dflt).dst.toNat (arcs.getD k bA.dflt).ba.toNat)]:=Y;rw[<-c]at Y;exact⟨k+1,⟨rfl,au⟩,aV,⟨U,Y.tail⟩,U⟩
 have R:k=arcs.length:=U;subst R;have hG:Gr n.toNat (rU n.toNat arcs):=Oj d;have o:(uP n.toNat arcs).length=n.toNat:=FX _ (cz _);have F:2 ^ n.toNat<18446744073709551616:=by
  have D:2 ^ n.toNat<=2 ^ 32:=ym dc U;omega
 have S:1*2 ^ n.toNat % 18446744073709551616=2 ^ n.toNat:=by rw[ww,FT F]
 have V:1<=2 ^ n.toNat:=Je _;have j:M w0 w [X ar 22 (nS) [],ai O 3 [] [],ak z 230 [f,nS],X cT 220 f (uP n.toNat arcs)]:=by
  have h1:=(Y.qH (T:=O) (e:=3)).nil (T:=ar) (e:=22);exact h1
 clear Y;have Y:=j;clear j;refine W ?_;refine fi rfl (Ca (a:=1) (b:=n.toNat) (k:=.i64) rfl (by rw[fZ y];rfl) U) ?_;rw[S];refine fi rfl (FR (a:=2 ^ n.toNat) (b:=1) rfl rfl V F) ?_;have hF:=vV (w0:=w0) (pf:=z) (nv:=f) (near:=uP n.toNat arcs) U (by rw[o];exact hG) hT (2 ^ n.toNat-1) 0 0 (w:=w) (fv:=nS) (fs:=[]) (Fs:=[]) (by rw[o];exact Vg) (br _) Y;refine aU rfl hF ?_;clear Y hF;rintro _ w ⟨r,M',fv,fs,rfl,m,Y⟩;rw[o]at m Y;replace m:jW n.toNat (rU n.toNat arcs) 0 (2 ^ n.toNat-1) 0 r M':=m;rw[kq]at Y;have A:∀ C∈M',tT n.toNat (rU n.toNat arcs) C:=fun C B=>Ja.1 (m.mem C B);refine⟨_,rfl,?_⟩;cases r
 ·refine W ?_
  exact cX (v:=nS) (v':=.iface 57 (E 10)) rfl rfl rfl (.inr (.inr (.inr (.inl ⟨q,U,h1,⟨M',m.nd,by have:=m.gt rfl;omega,A⟩,by rw[dq dc],Y.bb⟩))))
 have V':=m.le rfl;have j':M'≠[]:=fun e=>by
  obtain⟨C,B,_⟩:=Ol hG _ 0 ⟨fun v hv=>absurd hv (uz rfl v),fun u v hu=>absurd hu (uz rfl u)⟩ (cz _);have:=m.all rfl C (Ja.2 B);rw[e]at this;simp at this
 have _a:0<M'.length:=Jf.2 j';have H':=Oh m.nd A;have _b:(M'.map fun C=>dy C n.toNat).length=M'.length:=iW _;refine W ?_;refine aU rfl (Ve (fv:=fv) (fs:=fs) (Fs:=M'.map fun C=>dy C n.toNat) Y H' U U) ?_;clear Y;rintro _ w ⟨rfl,is,c,H,Y⟩;refine⟨_,rfl,?_⟩;refine W ?_;refine cX (v:=fv) (v':=.nilIface) rfl rfl rfl (.inr (.inr (.inr (.inr ⟨q,U,h1,fv,is.map (cF fs),_,rfl,H,fun l=>?_,?_,Y.bb⟩))))
 ·rw[iQ]
  constructor
  ·rintro⟨i,hi,rfl⟩
   have J':i<(M'.map fun C=>dy C n.toNat).length:=mem_range.1 (c.mem_iff.1 hi);have:=cD [] J';obtain⟨C,B,e⟩:=iQ.1 this;exact⟨C,A C B,e.symm⟩
  rintro⟨C,B,rfl⟩;have h5:dy C n.toNat∈M'.map fun C=>dy C n.toNat:=iQ.2 ⟨C,m.all rfl C (Ja.2 B),rfl⟩;obtain⟨i,hi,e⟩:=fF h5;refine⟨i,c.mem_iff.2 (mem_range.2 hi),?_⟩;rw[al hi,e]
 rw[iW,c.length_eq,length_range];omega
def Vm {a b c d s:Value}{vs:List iX}{ss:List Value}{Ls:List J}(V:bz w0 a b c d vs t)(o:sh w0 s ss Ls)(hT:la w0) :
  Calls aj 81 #[.agg #[a,b,c,d],s] w0 fun e w' =>
   (gp t Ls≠0/\e=.returned (.tuple #[nS,bO (gp t Ls)])/\M w0 w' []) \/
   (gp t Ls=0/\32<Ls.length/\e=.returned (.tuple #[nS,bO 5])/\M w0 w' []) \/
   (gp t Ls=0/\Ls.length=0/\e=.returned (.tuple #[nS,.nilIface])/\M w0 w' []) \/
   (gp t Ls=0/\0<Ls.length/\Ls.length<=32/\j1 Ls.length (rU Ls.length (gd t Ls Ls.length))/\e=.returned (.tuple #[nS,bO 10])/\M w0 w' []) \/
   (gp t Ls=0/\0<Ls.length/\Ls.length<=32/\∃ fv fs Cs,e=.returned (.tuple #[fv,.nilIface])/\BC Cs/\kJ Ls.length (rU Ls.length (gd t Ls Ls.length)) Cs/\Cs.length<=4096/\M w0 w' [ai O 3 fs Cs,X ar 22 fv fs]):=by
 have D:=o.rs;have F:=o.len;have j':=D.bT;have Y:=M.start w0;refine bB ao Tryz.func81 ?_;refine eB ?_;intro C w Y;refine aU rfl (Vn (V.at Y) (o.at Y)) ?_;rintro _ w' ⟨rfl,an⟩;refine aI ?_;clear an Y;intro Y;by_cases hk:gp t Ls=0;rotate_left
 ·rw[dq hk]
  refine W ?_;exact cX (v:=nS) (v':=.iface 57 (E (gp t Ls))) rfl rfl rfl (.inl ⟨hk,rfl,Y.bb⟩)
 rw[gy hk];refine aA ?_ ?_<;>intro K
 ·refine W ?_
  exact cX (v:=nS) (v':=.iface 57 (E 5)) rfl rfl rfl (.inr (.inl ⟨hk,U,by rw[dq dc],Y.bb⟩))
 refine aA ?_ ?_<;>intro h0
 ·refine W ?_
  exact cX (v:=nS) (v':=.nilIface) rfl rfl rfl (.inr (.inr (.inl ⟨hk,U,rfl,Y.bb⟩)))
 have f:Ls.length<=32:=U;have q:0<Ls.length:=U;refine W ?_;have j:M w0 w' [X bA 181 (nS) (gd t Ls 0),ak C 26 [a,b,c,d]]:=Y.nil (T:=bA) (e:=181);clear Y;refine dN [7,10,26,49] (G:=Nat) (H:=Value) (fun i l=>[(26,E i),(7,l)]) (fun i l w=>i<=Ls.length/\M w0 w [X bA 181 l (gd t Ls i),ak C 26 [a,b,c,d]]) (fun i _=>Ls.length-i) 0 (nS) (fun _ _=>rfl) ⟨rfl,rfl,au⟩ ⟨br _,j⟩ ?_;clear j;rintro σ i l w ⟨hi,Y⟩;refine aA ?_ ?_<;>intro h1
 ·have x:i<Ls.length:=U
  have P:=Jg (t:=t) (Ls:=Ls) i U;refine W ?_;have j:M w0 w [X bA 181 l (gd t Ls i++kz t Ls i 0),ak C 26 [a,b,c,d]]:=by rw[show kz t Ls i 0=[] from rfl,fI];exact Y
  clear Y;refine dN [7,7,10,10,32,48] (G:=Nat) (H:=Value) (fun k l=>[(32,E k),(7,l)]) (fun k l w=>k<=i/\M w0 w [X bA 181 l (gd t Ls i++kz t Ls i k),ak C 26 [a,b,c,d]]) (fun k _=>i-k) 0 l (fun _ _=>rfl) ⟨rfl,rfl,au⟩ ⟨br _,j⟩ ?_;clear j;rintro R k m w ⟨S,Y⟩;refine aA ?_ ?_<;>intro h2
  ·have H':k<i:=U
   have J':=Jh (t:=t) (Ls:=Ls) (i:=i) k;have A:k<Ls.length:=U;refine W ?_;refine fQ (pl [0,1,2,3,4,5,6] []) Y kr ?_;clear Y;intro w Y;refine W ?_;have P':(gd t Ls i++kz t Ls i k).length<=4096:=by rw[length_append];omega
   refine aU rfl (Vo (V.at Y) ((o.dK i x).at Y) ((o.dK k A).at Y)) ?_;rintro _ w' ⟨⟨r,rfl,B⟩,an⟩;refine aI ?_;clear an Y;intro Y;cases r
   ·refine W ?_
    exact⟨k+1,m,⟨rfl,rfl,au⟩,aV,⟨U,by rw[Ji (fun h=>by have:=B.2 h;cases this)];exact Y⟩,U⟩
   refine W ?_;refine jG bA (x1:=⟨(k:Int),(i:Int),1⟩) rfl rfl rfl (fX rfl) (fb _) Y ?_;clear Y;intro bs w Y
   refine rV (s:=m) (s2:=bs) inferInstance rfl rfl (bm Y) rfl rfl (fun y hy v hv=>by
    rw[dp.1 hy]at hv;simp only[bA,dZ,fM,pL]at hv
    rcases hv with rfl|rfl|rfl<;>rfl) (by simp only[length_cons,length_nil];omega) (by unfold bT;simp only[length_cons,length_nil];omega) Y ?_
   clear Y;intro s' w Y;refine W ?_;refine⟨k+1,s',⟨rfl,rfl,au⟩,aV,⟨U,?_⟩,U⟩;rw[Jj (B.1 rfl),<-fG];exact Y.tail
  have A:k=i:=U;subst A;rw[Vp]at Y;refine W ?_;exact⟨k+1,m,⟨rfl,rfl,au⟩,aV,⟨U,Y⟩,U⟩
 have P:i=Ls.length:=U;subst P;have m:=Vq (t:=t) (Ls:=Ls) f;refine W ?_;obtain⟨z,x⟩:∃ z:Nat,z=Ls.length:=⟨_,rfl⟩
 rw[<-x]at m Y;refine aU rfl (Vi (n:=(ss.length:Int)) (a:=l) (arcs:=gd t Ls z) (bm Y) (hT.at Y)) ?_;rw[F,<-x];rintro _ w' R;rw[gY]at R;rw[x]at R m Y ⊢;clear x;rcases R with ⟨hc,_⟩|⟨_,K,_⟩|⟨_,x,_⟩|⟨_,h0,_,hF,rfl,an⟩|⟨_,h0,_,fv,fs,Cs,rfl,A,S,B,an⟩
 ·exact absurd m hc
 ·exfalso;omega
 ·exfalso;omega
 ·replace Y:=Y.cr an
  clear an;refine⟨_,rfl,?_⟩;refine W ?_;exact cX (v:=nS) (v':=bO 10) rfl rfl rfl (.inr (.inr (.inr (.inl ⟨hk,q,f,hF,rfl,Y.bb⟩))))
 replace Y:=Y.uQ an;clear an;refine⟨_,rfl,?_⟩;refine W ?_;exact cX (v:=fv) (v':=.nilIface) rfl rfl rfl (.inr (.inr (.inr (.inr ⟨hk,q,f,fv,fs,Cs,rfl,A,S,B,Y.bb⟩))))
end
section
open Go.Sl
def kb (g:Nat->List α)(lo hi:Nat):List α:=(range' lo (hi-lo)).flatMap g
def vl (h:hi<=lo):kb g lo hi=[]:=by
 unfold kb;rw[show hi-lo=0 by omega];rfl
def qY (h:lo<=hi):kb g lo (hi+1)=kb g lo hi++g hi:=by
 unfold kb;rw[show hi+1-lo=hi-lo+1 by omega,range'_concat,wy];simp[show lo+(hi-lo)=hi by omega]
def Dj {x:α}:x∈kb g lo hi↔∃ k,lo<=k/\k<hi/\x∈g k:=by
 unfold kb;simp only[tm,mem_range'_1];constructor
 ·rintro⟨k,hk,hx⟩;exact⟨k,hk.1,U,hx⟩
 rintro⟨k,h1,b,hx⟩;exact⟨k,⟨h1,U⟩,hx⟩
def yo {b:Nat->List α}(h:∀ k,lo<=k->k<hi->g k=b k):kb g lo hi=kb b lo hi:=by
 unfold kb;have key:∀ l:List Nat,(∀ k∈l,g k=b k)->l.flatMap g=l.flatMap b:=by
  intro l
  induction l with
  | nil=>intro _;rfl
  | cons x l d=>intro c;rw[kQ,kQ,c x gA,d fun k hk=>c k (iR _ hk)]
 exact key _ fun k hk=>by
  rw[mem_range'_1]at hk;exact h k hk.1 U
def Cc (p:α->Bool):(kb g lo hi).filter p=kb (fun k=>(g k).filter p) lo hi:=by
 unfold kb;generalize range' lo (hi-lo)=l
 induction l with
 | nil=>rfl
 | cons x l b=>rw[kQ,kQ,A6,b]
def Jk {β:Type}(f:α->List β):(kb g lo hi).flatMap f=kb (fun k=>(g k).flatMap f) lo hi:=by
 unfold kb;rw[flatMap_assoc]
def Jl {α:Type}{g:Nat->List α}{lo b:Nat}(c:∀ k,(g k).length<=b):∀ {hi:Nat},(kb g lo hi).length<=(hi-lo)*b
 | 0=>by rw[vl (br _)];exact br _
 | hi+1=>by
  by_cases h:lo<=hi
  ·have d:=Jl (g:=g) (lo:=lo) c (hi:=hi)
   have:=c hi;rw[qY h,length_append,show hi+1-lo=hi-lo+1 by omega,yp];omega
  rw[vl U];exact br _
def jv (l:List bo)(u:Int):Prop:=∃ f∈l,f.var=u
def y7 (o:ko)(u v:Int):Prop:=∃ e∈o.aJ,e.var=v/\(jv o.pre u\/jv e.bK u\/∃ d∈o.aJ,d.var=u)
def rc (t:aa)(u v:Int):Prop:=u≠v/\∃ op,op<t.Z.length/\y7 (t.Z.getD op bf) u v
def dL (t:aa)(u v:Int):Prop:=rc t u v\/rc t v u
def dL.symm {t:aa}{u v:Int}(h:dL t u v):dL t v u:=Or.symm h
def w7 (t:aa)(p:J):Prop:=∃ v∈p,∃ f∈t.aG,f.var=v
inductive CR (t:aa) (p:J):Nat->Prop
 | eO:CR t p 0
 | step {i j:Nat}:CR t p i->i<p.length->j<p.length->dL t (p.getD i O.dflt) (p.getD j O.dflt)->CR t p j
def uR (t:aa)(p:J):Prop:=∀ i,i<p.length->CR t p i
def Vr {a:Int}:uR t [a]:=fun i hi=>by
 have:i=0:=by simpa using hi
 subst this;exact .eO
def Vs {a b:Int}:uR t [a,b]↔dL t a b:=by
 constructor
 ·intro h
  have key:∀ j,CR t [a,b] j->j=1->dL t a b:=by
   intro j d
   induction d with
   | eO=>intro h;cases h
   | @step i j _ hi d e f =>
    intro c;subst c;have:i=0\/i=1:=by simp at hi;omega
    rcases this with rfl|rfl
    ·exact e
    exact f rfl
  exact key 1 (h 1 sm) rfl
 intro h i hi;have:i=0\/i=1:=by simp at hi;omega
 rcases this with rfl|rfl
 ·exact .eO
 exact .step .eO sm sm h
def Vt {a b c:Int}:uR t [a,b,c]↔(dL t a b/\dL t b c)\/(dL t a b/\dL t a c)\/(dL t a c/\dL t b c):=by
 constructor
 ·intro h
  by_cases f:dL t a b
  ·by_cases d:dL t b c
   ·exact .inl ⟨f,d⟩
   by_cases e:dL t a c
   ·exact .inr (.inl ⟨f,e⟩)
   exfalso;have key:∀ j,CR t [a,b,c] j->j≠2:=by
    intro j l
    induction l with
    | eO=>decide
    | @step i j _ hi l m o =>
     rintro rfl;have:i=0\/i=1:=by simp at hi;omega
     rcases this with rfl|rfl
     ·exact e m
     exact d m
   exact key 2 (h 2 sm) rfl
  by_cases e:dL t a c
  ·by_cases d:dL t b c
   ·exact .inr (.inr ⟨e,d⟩)
   exfalso;have key:∀ j,CR t [a,b,c] j->j≠1:=by
    intro j l
    induction l with
    | eO=>decide
    | @step i j _ hi l m o =>
     rintro rfl;have:i=0\/i=2:=by simp at hi;omega
     rcases this with rfl|rfl
     ·exact f m
     exact d m.symm
   exact key 1 (h 1 sm) rfl
  exfalso;have key:∀ j,CR t [a,b,c] j->j=0:=by
   intro j l
   induction l with
   | eO=>rfl
   | @step i j _ hi l m o =>
    subst o;have:j=0\/j=1\/j=2:=by simp at l;omega
    rcases this with rfl|rfl|rfl
    ·rfl
    ·exact absurd m f
    exact absurd m e
  have:=key 1 (h 1 sm);omega
 intro h i hi;have:i=0\/i=1\/i=2:=by simp at hi;omega
 have d:dL t a b->CR t [a,b,c] 1:=fun h=>.step .eO sm sm h;have e:dL t a c->CR t [a,b,c] 2:=fun h=>.step .eO sm sm h;rcases this with rfl|rfl|rfl
 ·exact .eO
 ·rcases h with h|h|h
  ·exact d h.1
  ·exact d h.1
  exact .step (e h.1) sm sm h.2.symm
 rcases h with h|h|h
 ·exact .step (d h.1) sm sm h.2
 ·exact e h.2
 exact e h.1
def mS (t:aa)(p:J):Prop:=w7 t p/\uR t p
open Classical in
noncomputable def vm (t:aa)(p:J):List J:=if mS t p then [p] else []
def Jm {p:J}(h:mS t p):vm t p=[p]:=aP h
def Jn {p:J}(h:¬mS t p):vm t p=[]:=aH h
noncomputable def uA (t:aa)(k:Nat):List J:=kb (fun a=>vm t [(a:Int)]) 0 k
noncomputable def vn (t:aa)(a k:Nat):List J:=kb (fun b=>vm t [(a:Int),(b:Int)]) (a+1) k
noncomputable def uB (t:aa)(n k:Nat):List J:=kb (fun a=>vn t a n) 0 k
noncomputable def v8 (t:aa)(a b k:Nat):List J:=kb (fun c=>vm t [(a:Int),(b:Int),(c:Int)]) (b+1) k
noncomputable def tE (t:aa)(n a k:Nat):List J:=kb (fun b=>v8 t a b n) (a+1) k
noncomputable def si (t:aa)(n k:Nat):List J:=kb (fun a=>tE t n a n) 0 k
def qI (p:J):Nat:=(p.getLastD (-1)+1).toNat
def Jo (n:Nat)(p:J)(k:Nat):List J:=kb (fun v=>[p++[(v:Int)]]) (qI p) k
def sj (n:Nat):Nat->List J
 | 0=>[[]]
 | m+1=>(sj n m).flatMap fun p=>Jo n p n
open Classical in
noncomputable def jg (t:aa)(m:Nat):List J:=(sj t.vars.length m).filter fun p=>decide (mS t p)
noncomputable def fJ (t:aa)(k:Nat):List J:=kb (fun m=>jg t m) 1 (k+1)
def Om (n:Nat):sj n 1=kb (fun v=>[[(v:Int)]]) 0 n:=by
 show (sj n 0).flatMap _=_;rw[sj,kQ,A7,fI];rfl
def Jp (p:J)(a:Nat):qI (p++[(a:Int)])=a+1:=by
 unfold qI;rw[getLastD_concat];omega
def Vu (a:Nat):qI [(a:Int)]=a+1:=Jp [] a
def Vv (a b:Nat):qI [(a:Int),(b:Int)]=b+1:=Jp [(a:Int)] b
def On (n:Nat):sj n 2=kb (fun a=>kb (fun b=>[[(a:Int),(b:Int)]]) (a+1) n) 0 n:=by
 show (sj n 1).flatMap _=_;rw[Om,Jk];refine yo fun a _ _=>?_;rw[kQ,A7,fI];unfold Jo;rw[Vu];rfl
def Vw (n:Nat):sj n 3=kb (fun a=>kb (fun b=>kb (fun c=>[[(a:Int),(b:Int),(c:Int)]]) (b+1) n) (a+1) n) 0 n:=by
 show (sj n 2).flatMap _=_;rw[On,Jk];refine yo fun a _ _=>?_;rw[Jk];refine yo fun b _ _=>?_;rw[kQ,A7,fI];unfold Jo;rw[Vv];rfl
open Classical in
def Jq (t:aa)(p:J):([p]:List J).filter (fun p=>decide (mS t p))=vm t p:=by
 unfold vm;by_cases h:mS t p
 ·rw[aP h];simp[h]
 rw[aH h];simp[h]
def Jr (t:aa):jg t 1=uA t t.vars.length:=by
 unfold jg uA;rw[Om,Cc];exact yo fun a _ _=>Jq t _
def Js (t:aa):jg t 2=uB t t.vars.length t.vars.length:=by
 unfold jg uB vn;rw[On,Cc];refine yo fun a _ _=>?_;rw[Cc];exact yo fun b _ _=>Jq t _
def Jt (t:aa):jg t 3=si t t.vars.length t.vars.length:=by
 unfold jg si tE v8;rw[Vw,Cc];refine yo fun a _ _=>?_;rw[Cc];refine yo fun b _ _=>?_;rw[Cc];exact yo fun c _ _=>Jq t _
def Vx (t:aa):fJ t 1=jg t 1:=by
 unfold fJ;rw[qY dc,vl dc,kq]
def Vy (t:aa):fJ t 2=jg t 1++jg t 2:=by
 unfold fJ;rw[qY dc,qY dc,vl dc,kq]
def Vz (t:aa):fJ t 3=jg t 1++jg t 2++jg t 3:=by
 unfold fJ;rw[qY dc,qY dc,qY dc,vl dc,kq]
def Oo:∀ n,n<13->(sj n 1).length<=12/\(sj n 2).length<=66/\(sj n 3).length<=220:=by decide +kernel
def F0 (m:Nat):(jg t m).length<=(sj t.vars.length m).length:=ux _ _
def Dk (b:t.vars.length<=12):(jg t 1).length<=12/\(jg t 2).length<=66/\(jg t 3).length<=220:=by
 have h:=Oo t.vars.length U;have h1:=F0 (t:=t) 1;have c:=F0 (t:=t) 2;have d:=F0 (t:=t) 3;exact⟨U,U,U⟩
def Cd {b:Nat}(h:hi<=b):(kb g lo hi).length<=(kb g lo b).length:=by
 induction b with
 | zero=>rw[show hi=0 by omega];exact cz _
 | succ m c =>
  by_cases e:hi=m+1
  ·rw[e];exact cz _
  have:=c U;by_cases d:lo<=m
  ·rw[qY d,length_append];omega
  rw[vl U];exact br _
def Ju (b:lo<=a)(h:a<hi):(kb g lo a).length+(g a).length<=(kb g lo hi).length:=by
 have:=Cd (g:=g) (lo:=lo) (show a+1<=hi from h);rw[qY b,length_append]at this;exact this
def Oq (b:t.vars.length<=12)(hk:k<=t.vars.length):(uA t k).length<=12:=by
 have:=(Dk b).1;rw[Jr]at this;have:=Cd (g:=fun a=>vm t [(a:Int)]) (lo:=0) hk;unfold uA at *
 omega
def Ot (c:t.vars.length<=12){b:Nat}(d:a<t.vars.length)(e:b<=t.vars.length):(uB t t.vars.length a).length+(vn t a b).length<=66:=by
 have h:=(Dk c).2.1;rw[Js]at h;have h1:=Ju (g:=fun a=>vn t a t.vars.length) (lo:=0) (br a) d;have f:=Cd (g:=fun b=>vm t [(a:Int),(b:Int)]) (lo:=a+1) e;unfold uB at *
 unfold vn at *
 omega
def VA (e:t.vars.length<=12){b c:Nat}(f:a<t.vars.length)(d:a+1<=b)(i:b<t.vars.length)(j:c<=t.vars.length):(si t t.vars.length a).length+(tE t t.vars.length a b).length+(v8 t a b c).length<=220:=by
 have h:=(Dk e).2.2;rw[Jt]at h;have h1:=Ju (g:=fun a=>tE t t.vars.length a t.vars.length) (lo:=0) (br a) f;have l:=Ju (g:=fun b=>v8 t a b t.vars.length) (lo:=a+1) d i;have m:=Cd (g:=fun c=>vm t [(a:Int),(b:Int),(c:Int)]) (lo:=b+1) j;unfold si at *
 unfold tE at *
 unfold v8 at *
 omega
structure MI (M':List (List Bool)) (n:Nat) (Q:Nat->Nat->Prop):Prop where
 len:M'.length=n
 row:∀ v,v<n->(M'.getD v []).length=n
 dK:∀ v u,v<n->u<n->((M'.getD v []).getD u false=true↔Q v u)
def lc (M':List (List Bool))(v u:Nat)(b:Bool):List (List Bool):=M'.set v ((M'.getD v []).set u b)
def A8 {l:List α}{i j:Nat}{x d:α}:(l.set i x).getD j d=if i=j/\j<l.length then x else l.getD j d:=by
 simp only[List.getD,vq];by_cases h:i=j
 ·subst h
  by_cases b:i<l.length
  ·simp[b]
  simp[b]
 simp[h]
def MI.congr {b:Nat->Nat->Prop}(h:MI M' n Q)(e:∀ v u,v<n->u<n->(Q v u↔b v u)):MI M' n b:=⟨h.len,h.row,fun v u hv hu=>(h.dK v u hv hu).trans (e v u hv hu)⟩
def MI.vH (h:MI M' n Q){v:Nat}(hv:v<n)(hu:u<n):MI (lc M' v u true) n (fun x y=>Q x y\/(x=v/\y=u)):=by
 refine⟨by simp[lc,h.len],fun x hx=>?_,fun x y hx d=>?_⟩
 ·rw[lc,A8]
  split
  ·rw[gS];exact h.row v hv
  exact h.row x hx
 rw[lc,A8];by_cases e:v=x
 ·subst e
  rw[aP ⟨rfl,by rw[h.len];exact hv⟩,A8];by_cases c:u=y
  ·subst c
   rw[aP ⟨rfl,by rw[h.row v hv];exact hu⟩];simp
  rw[aH (by simp[c]),h.dK v y hv d];exact⟨.inl,fun b=>b.elim id fun b=>absurd b.2.symm c⟩
 rw[aH (by simp[e]),h.dK x y hx d];exact⟨.inl,fun b=>b.elim id fun b=>absurd b.1.symm e⟩
def MI.MF (h:MI M' n Q){v:Nat}(hv:v<n)(hu:u<n):MI (lc M' v u false) n (fun x y=>Q x y/\¬(x=v/\y=u)):=by
 refine⟨by simp[lc,h.len],fun x hx=>?_,fun x y hx d=>?_⟩
 ·rw[lc,A8]
  split
  ·rw[gS];exact h.row v hv
  exact h.row x hx
 rw[lc,A8];by_cases e:v=x
 ·subst e
  rw[aP ⟨rfl,by rw[h.len];exact hv⟩,A8];by_cases c:u=y
  ·subst c
   rw[aP ⟨rfl,by rw[h.row v hv];exact hu⟩];simp
  rw[aH (by simp[c]),h.dK v y hv d];exact⟨fun b=>⟨b,fun b=>c b.2.symm⟩,fun b=>b.1⟩
 rw[aH (by simp[e]),h.dK x y hx d];exact⟨fun b=>⟨b,fun b=>e b.1.symm⟩,fun b=>b.1⟩
def MI.rep (n:Nat):MI (replicate n (replicate n false)) n (fun _ _=>False):=by
 refine⟨np,fun v hv=>?_,fun v u hv hu=>?_⟩
 ·have e:(replicate n (replicate n false)).getD v []=replicate n false:=by rw[iB,zJ,aP hv];rfl
  rw[e,np]
 have e:(replicate n (replicate n false)).getD v []=replicate n false:=by rw[iB,zJ,aP hv];rfl
 rw[e];simp[iB,zJ,hu]
def sk (n k:Nat):List (List Bool):=(List.range n).map fun i=>if i<k then replicate n false else []
def Ou (n k:Nat):(sk n k).length=n:=by simp[sk]
def Ov (n:Nat):sk n 0=replicate n []:=by
 apply iA (by simp[sk]);intro i h1 b;simp[sk]
def Ow (n:Nat):sk n n=replicate n (replicate n false):=by
 apply iA (by simp[sk]);intro i h1 b;have:i<n:=by simpa [sk] using h1
 simp[sk,this]
def Ox:(sk n k).set k (replicate n false)=sk n (k+1):=by
 apply iA (by simp[sk]);intro i h1 b;rw[sb];simp only[sk,mL,qW];split
 ·rename_i e;subst e;rw[aP U]
 by_cases h:i<k
 ·rw[aP h,aP U]
 rw[aH h,aH U]
structure VI (L:List Bool) (n:Nat) (Q:Nat->Prop):Prop where
 len:L.length=n
 dK:∀ u,u<n->(L.getD u false=true↔Q u)
def VI.rep (n:Nat):VI (replicate n false) n (fun _=>False):=⟨np,fun u hu=>by simp[iB,zJ,hu]⟩
def VI.congr {Q b:Nat->Prop}(h:VI L n Q)(e:∀ u,u<n->(Q u↔b u)):VI L n b:=⟨h.len,fun u hu=>(h.dK u hu).trans (e u hu)⟩
def VI.vH {Q:Nat->Prop}(h:VI L n Q)(hu:u<n):VI (L.set u true) n (fun y=>Q y\/y=u):=by
 refine⟨by rw[gS];exact h.len,fun y c=>?_⟩;rw[A8];by_cases e:u=y
 ·subst e
  rw[aP ⟨rfl,by rw[h.len];exact hu⟩];simp
 rw[aH (by simp[e]),h.dK y c];exact⟨.inl,fun b=>b.elim id fun b=>absurd b.symm e⟩
noncomputable def fy (t:aa)(u k:Nat):List kO:=open Classical in kb (fun v=>if rc t (u:Int) (v:Int) then [⟨(u:Int),(v:Int),1⟩] else []) 0 k
noncomputable def bv (t:aa)(k:Nat):List kO:=kb (fun u=>fy t u t.vars.length) 0 k
def F1 {a:kO}:a∈bv t t.vars.length↔∃ u v:Nat,u<t.vars.length/\v<t.vars.length/\rc t (u:Int) (v:Int)/\a=⟨(u:Int),(v:Int),1⟩:=by
 unfold bv fy;rw[Dj];constructor
 ·rintro⟨u,_,hu,h⟩
  obtain⟨v,_,hv,h⟩:=Dj.1 h;split at h
  ·rename_i b;exact⟨u,v,hu,hv,b,dp.1 h⟩
  simp at h
 rintro⟨u,v,hu,hv,b,rfl⟩;exact⟨u,br _,hu,Dj.2 ⟨v,br _,hv,by rw[aP b];exact mem_singleton_self _⟩⟩
def Oy (t:aa)(u k:Nat):(fy t u k).length<=k:=by
 have:=Jl (g:=fun v=>open Classical in if rc t (u:Int) (v:Int) then [(⟨(u:Int),(v:Int),1⟩:kO)] else []) (lo:=0) (b:=1) (fun k=>by split<;>simp) (hi:=k);unfold fy;omega
def Oz (t:aa)(k:Nat):(bv t k).length<=k*t.vars.length:=by
 have:=Jl (g:=fun u=>fy t u t.vars.length) (lo:=0) (b:=t.vars.length) (fun u=>Oy t u _) (hi:=k);unfold bv;exact this
end
end Go.Proofs.YtmapkjoefdgjfaaGreatDoor
