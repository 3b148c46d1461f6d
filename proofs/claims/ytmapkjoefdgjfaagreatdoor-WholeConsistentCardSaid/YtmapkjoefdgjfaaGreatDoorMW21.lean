/- Several texts. -/
import Derived.Test.YtmapkjoefdgjfaaGreatDoorMW20
set_option linter.unusedSimpArgs false
set_option linter.unusedVariables false
set_option maxRecDepth 8000
set_option maxHeartbeats 16000000
open List Nat
namespace Go.Proofs.YtmapkjoefdgjfaaGreatDoor
open Go.Sl Go
attribute [local irreducible] vc opsW opsD opV opW PureV ReadV Thn Blk
def sI:List Int->Int
 | []=>0
 | x::l=>x+sI l
theorem qpm:∀ (a b:List Int),sI (a++b)=sI a+sI b
 | [],b=>by show sI b=0+sI b;omega
 | x::a,b=>by
  show x+sI (a++b)=x+sI a+sI b;rw[qpm a b];omega
theorem sS:∀ {l:List Int},(∀ x∈l,0<=x)->0<=sI l
 | [],_=>Int.le_refl _
 | x::l,h=>by
  have h1:=h x mem_cons_self;have h2:=sS fun y hy=>h y (mem_cons_of_mem x hy);show 0<=x+sI l;omega
theorem qpn {l:List Int}(h:∀ x∈l,0<=x) (k:Nat):0<=sI (l.take k)/\sI (l.take k)<=sI l:=by
 have h1:=qpm (l.take k) (l.drop k);rw[take_append_drop]at h1;have h2:=sS (l:=l.take k) fun x hx=>h x (mem_of_mem_take hx);have h3:=sS (l:=l.drop k) fun x hx=>h x (mem_of_mem_drop hx);omega
theorem qpo:∀ (L:List (List Nat × Int)),jL L=sI (L.map Prod.snd)
 | []=>rfl
 | x::L=>by
  show x.2+jL L=x.2+sI (L.map Prod.snd);rw[qpo L]
theorem qvT {t:Aa}{z cs:List Int}{r:Option (List (List Nat × Int))}(h:Ca t z cs r):Az t cs->∀ l,r=some l->∀ x∈l,0<=x.2:=by
 induction h with
 | dead _ _=>intro _ l e;cases e
 | done _ _=>intro _ l e x hx;cases e;exact absurd hx not_mem_nil
 | @step cs V g0 K c r _ _ _ _ _ _ h7 _ ih =>
  intro hc l e x hx;have kM:=qe2 hc h7;obtain⟨⟨i,i1,i2,i3⟩,i4⟩:=h7;have lA:0<=c:=by have:=hc.2 _ (bY aa.dflt i2);omega
  cases r with
  | none=>cases e
  | some l' =>
   have e2:l=(K,c)::l':=(Option.some.inj e).symm;subst e2;rcases mem_cons.1 hx with e3|hx
   ·rw[e3];exact lA
   ·exact ih kM l' rfl x hx
theorem ql6 {w0:World}{pr:Addr}{a fv gv cv0 lv sv:Value}{us:List Cy}{t:Aa}{z:List Int}(hr:CE w0 pr t a fv gv cv0 lv us) (hg:Af t) (hs:RS aa w0 sv z) (br:Ac t.vars z) :
  Calls Tryz.prog 266 #[.pointer (some pr),sv] w0 fun e w'=>e=.returned (.int .i64 (kc t z))/\Sat w0 w' []:=by
 have hw:=Sat.start w0;refine bn (args:=[.pointer (some pr),sv]) mixed Tryz.func266 ?_;refine ab ?_;obtain⟨hb,o8,kA,eQ,mE,mh,jv,hF⟩:=hr;refine aJ rfl (qoU ⟨hb.at hw,o8.at hw,kA.at hw,eQ.at hw,mE.at hw,mh.at hw,jv,hF.at hw⟩ hg (hs.at hw) br) ?_;rintro _ w' (⟨hL,rfl,aj⟩|⟨ov,L,cl,hL,rfl,eN,hone,aj⟩)
 ·replace hw:=hw.bz aj
  clear aj;refine⟨_,rfl,?_⟩;rw[ep (show (3:Int)≠0 by decide)];refine ab ?_;exact aW (v:=.int .i64 1125899906842624) rfl rfl ⟨by rw[qE br hL];rfl,lB hw⟩
 refine aA ?_;clear aj hw;intro hw;have nP:∀ x∈cl.map Cb.cost,0<=x:=fun x hx=>by
  rw[eN]at hx;obtain⟨y,hy,rfl⟩:=mem_map.1 hx;exact qvT hL (qbA hg) L rfl y hy
 have sr:=qm9 hg hL;have wK:sI (cl.map Cb.cost)=jL L:=by rw[eN,qpo]
 have eT:(cl.map Cb.cost).length=cl.length:=length_map _;have eZ:=(aM (s:=ov) hw).bo;refine ab ?_;refine dj [7,7,9,9,22,30] (G:=Nat) (H:=Int) (fun k m=>[(22,.int .i64 k),(7,.int .i64 m)]) (fun k m w=>k<=cl.length/\m=sI ((cl.map Cb.cost).take k)/\Sat w0 w [OS jm 361 ov cl]) (fun k _=>cl.length-k) 0 0 (fun _ _=>rfl) ⟨rfl,rfl,trivial⟩ ⟨zero_le _,rfl,hw⟩ ?_;clear hw;rintro σ k m w ⟨hk,hm,hw⟩;refine ab ?_;refine ai ?_ ?_<;>intro h1
 ·have aK:k<cl.length:=by omega
  have ik:sI ((cl.map Cb.cost).take (k+1))=m+(az jm cl k).cost:=by
   rw[dJ aa.dflt (by rw[eT];exact aK),qpm,<-hm,n0,getD_at (by rw[eT];exact aK),getElem_map,getD_at aK];show m+(_+0)=_;omega
  have uT:=qpn nP (k+1);have hbm:=qpn nP k;rw[<-hm]at hbm;have ouk:=hone _ (bY (d:=jm.dflt) aK);rw[<-n0]at ouk;have qwC:(jm.enc (az jm cl k)).all Value.oneCell'=true:=by
   show ((az jm cl k).ops.oneCell' && ((Value.int .i64 (az jm cl k).cost).oneCell' && true))=true;rw[ouk];rfl
  rw[ik]at uT;refine cK ?_;clear hw;intro p w hw;exact⟨k+1,_,⟨rfl,rfl,trivial⟩,aH,⟨by omega,ik.symm,hw.tail⟩,by omega⟩
 have cH:k=cl.length:=by omega
 rw[cH,take_of_length_le (by rw[eT];exact Nat.le_refl _),wK]at hm;refine ab ?_;exact aW (v:=.int .i64 m) rfl rfl ⟨by rw[qE br hL,hm];rfl,lB hw⟩
theorem qcV {w0:World}{pr:Addr}{c0 fv c2 c3 c4 c5 lv:Value}{vars:List Int}{l:List Fact}(hb:AD w0 pr [c0,fv,c2,c3,c4,c5]) (hf:RS aa w0 fv (cw vars vars.length)) (hp:∀ x∈vars,1<=x) (hd:∀ i,i<vars.length->vars.getD i aa.dflt<=64) (eW:vars.length<=64) (hl:RS aq w0 lv l) (br:∀ f∈l,Ao vars f) (hn:l.length<=64) :
  Calls Tryz.prog 76 #[.pointer (some pr),lv] w0 fun e w'=>∃ nv,e=.returned nv/\Sat w0 w' [OS aa 3 nv (l.map (cz vars))]:=by
 have ot:=wJ vars vars.length;have hw:=Sat.start w0;refine bn (args:=[.pointer (some pr),lv]) mixed Tryz.func76 ?_;replace hw:=hw.nil (T:=aa) (e:=3);refine ab ?_;refine dj [5,5,7,7,10,28] (G:=Nat) (H:=Value) (fun k ov=>[(10,.int .i64 k),(5,ov)]) (fun k ov w=>k<=l.length/\Sat w0 w [OS aa 3 ov ((l.take k).map (cz vars))]) (fun k _=>l.length-k) 0 (.slice none 0 0) (fun _ _=>rfl) ⟨rfl,rfl,trivial⟩ ⟨zero_le _,hw⟩ ?_;clear hw;rintro σ k ov w ⟨hk,hw⟩;have eT:((l.take k).map (cz vars)).length=k:=by rw[length_map,length_take];omega
 refine ab ?_;refine ai ?_ ?_<;>intro h1
 ·have aK:k<l.length:=by omega
  obtain⟨x0,x1,x2,x3⟩:=br _ (bY aq.dflt aK);have hv:(l.getD k aq.dflt).var.toNat<vars.length:=by omega
  obtain⟨g0,g1,g2⟩:=qhG hp hd eW hv;have g3:=hd _ hv;have ik:(l.take (k+1)).map (cz vars)=(l.take k).map (cz vars)++[(cw vars vars.length).getD (l.getD k aq.dflt).var.toNat aa.dflt+(l.getD k aq.dflt).val]:=by
   rw[dJ aq.dflt aK,map_append,g0];rfl
  refine cK ?_;intro p w hw;refine fP (pl [0,1,2,3,4,5,6,7,8,9,10,11,12,13,14] []) hw kr ?_;clear hw;intro w hw
  repeat (first|refine bV ?_|(refine cB ?_;clear hw;intro s w hw))
  rw[<-ik]at hw;obtain⟨ov2,qi⟩:∃ ov2,ov2=s:=⟨s,rfl⟩
  subst qi;exact⟨k+1,ov2,⟨rfl,rfl,trivial⟩,aH,⟨by omega,hw.aT⟩,by omega⟩
 have cH:k=l.length:=by omega
 rw[cH,take_of_length_le (Nat.le_refl _)]at hw;refine ab ?_;exact aW (v:=ov) rfl rfl ⟨ov,rfl,hw⟩
theorem Cr.snoc {us:List Cy}{U:List Un}{v:Cy}{u:Un}{w:World}(h:Cr us U w) (hl:us.length=U.length) (hv:Dt w v u):Cr (us++[v]) (U++[u]) w:=fun i hi=>by
 by_cases e:i<U.length
 ·rw[qhH om,qfY e];exact h i e
 ·have e2:i=U.length:=by rw[length_append,length_singleton]at hi;omega
  rw[qhI om,e2,qfZ];exact hv
theorem qn9 {vars:List Int}{p q:List Fact}:BB (cA (dF (p.map (cz vars)++q.map (cz vars)))) (bp vars q (bp vars p [])):=fun x=>by
 rw[qf7,qev,mem_append,mem_map,mem_map,uy,uy];simp
theorem qrH {w0:World}{a b c d:Value}{vs:List AK}{t:Aa}(ht:Am w0 a b c d vs t) (hg:Af t) :
  Calls Tryz.prog 54 #[.agg #[a,b,c,d]] w0 fun e w'=>∃ p a2 fv gv cv lv us,e=.returned (.tuple #[.pointer (some p),.nilIface])/\Sat w0 w' [Aj fun w=>CE w p t a2 fv gv cv lv us]:=by
 have eF:=ht;obtain⟨ha,hb,hc,hd⟩:=ht;have hdr:=hd.rs;have jZ:=hd.len;have eW:=hg.vars;have l5:=hg.ops;have kL:=qI hg.goal;have hN:=wS hg;have hgf:∀ f∈t.goal,Ao t.vars f:=fun f hf=>by
  obtain⟨i,hi,e⟩:=getElem_of_mem hf;have:=(hg.goal i hi).1;rw[getD_at hi,e]at this;exact this
 have qK:=fun i hi=>(hg.gd i hi).2;have hw:=Sat.start w0;refine bn (args:=[.agg #[a,b,c,d]]) mixed Tryz.func54 ?_;refine cK ?_;clear hw;intro p w hw;obtain⟨pt,dO⟩:∃ pt,pt=p:=⟨p,rfl⟩
 subst dO;refine aJ rfl (sH (eF.at hw)) ?_;rintro _ w' ⟨rfl,aj⟩;refine aC ?_;clear aj hw;intro hw;rw[iy ((nZ t).2 hg)];refine ab ?_;refine aJ rfl (lx (ha.at hw) om) ?_;rintro _ w' ⟨a2,rfl,aj⟩;refine aA ?_;clear aj hw;intro hw;have oa:=(aM (s:=a2) hw).one;refine ab ?_;refine qc4 (vs:=[(0,a2)]) (ls:=[(0,[a2])]) rfl (by show [(0,a2.cells.toList)]=_;rw[qiq oa]) rfl ?_;refine xP (vs:=[a2,.slice none 0 0,.int .i64 0,.slice none 0 0,.slice none 0 0,.slice none 0 0]) rfl hw ?_;clear hw;intro pr w hw;replace hw:Sat w0 w [Ad pr 134 [a2,.slice none 0 0,.int .i64 0,.slice none 0 0,.slice none 0 0,.slice none 0 0],OS aa 3 a2 t.vars,Ad pt 26 [a,b,c,d]]:=hw;replace hw:=hw.nil (T:=aa) (e:=3);refine ab ?_;refine dj [7,7,26,51] (G:=Nat) (H:=Value) (fun k _=>[(26,.int .i64 k)]) (fun k fv w=>k<=t.vars.length/\Sat w0 w [OS aa 3 fv (cw t.vars k),Ad pr 134 [a2,fv,.int .i64 (aV t.vars k),.slice none 0 0,.slice none 0 0,.slice none 0 0],OS aa 3 a2 t.vars,Ad pt 26 [a,b,c,d]]) (fun k _=>t.vars.length-k) 0 (.slice none 0 0) (fun _ _=>rfl) ⟨rfl,trivial⟩ ⟨zero_le _,hw⟩ ?_;clear hw;rintro σ k fv w ⟨hk,hw⟩;have ot:=wJ t.vars k;refine ab ?_;refine ai ?_ ?_<;>intro h1
 ·have aK:k<t.vars.length:=by omega
  have hdk:=hg.gd k aK;have hf0:=qcn hg.pos (b:=k) om;have y9:=qcZ (fun i hi=>(hg.gd i hi).2) (b:=k) om;refine ab ?_;refine fP (pl [0,1,2,3,4,5,6,7,8,9] (.chk 4::pl [10,11,12,13] [])) hw kr ?_;clear hw;intro w hw
  repeat (first|refine bV ?_|(refine fL ?_;clear hw;intro w hw)|(refine cB ?_;clear hw;intro s w hw))
  simp only[set_cons_succ,set_cons_zero]at hw;rw[<-qjB,<-qbv aK]at hw;obtain⟨fv2,qyU⟩:∃ fv2,fv2=s:=⟨s,rfl⟩
  subst qyU;exact⟨k+1,fv2,⟨rfl,trivial⟩,aH,⟨by omega,hw.tail⟩,by omega⟩
 have cH:k=t.vars.length:=by omega
 subst cH;rw[<-pd hg]at hw;refine ab ?_;refine aJ rfl (qcV (mM (p:=pr) hw) (aM (s:=fv) hw) hg.pos qK eW (hc.at hw) hgf om) ?_;rintro _ w' ⟨gv,rfl,aj⟩;refine aA ?_;clear aj hw;intro hw;have ogv:=(aM (s:=gv) hw).one;refine fy ?_;clear hw;intro w hw;simp only[set_cons_succ,set_cons_zero]at hw;have bb:Sat w0 w (Ad pr 134 [a2,fv,.int .i64 (ay t:Int),gv,(.slice none 0 0),(.slice none 0 0)]::OS aa 3 (.slice none 0 0) ((ar t).take 0)::OS gA 138 (.slice none 0 0) ([]:List Cy)::Aj (Cr ([]:List Cy) (eR t 0))::OS aa 3 fv (cw t.vars t.vars.length)::OS aa 3 gv (cq t)::OS aa 3 a2 t.vars::[Ad pt 26 [a,b,c,d]]):=by
  have g1:Sat w0 w [OS aa 3 gv (cq t),OS aa 3 fv (cw t.vars t.vars.length),Ad pr 134 [a2,fv,.int .i64 (ay t:Int),gv,.slice none 0 0,.slice none 0 0],OS aa 3 a2 t.vars,Ad pt 26 [a,b,c,d]]:=hw;have g2:=Sat.nX (φ:=Cr [] []) (fun w i hi=>absurd hi (not_lt_zero _)) ((g1.nil (T:=aa) (e:=3)).nil (T:=gA) (e:=138));have uD:eR t 0=[]:=by simp[eR]
  rw[uD,take_zero];exact g2.bG
 clear hw;have hw:=bb;clear bb;refine cd [8,9,11,12,62,121] (G:=Nat) (fun k=>[(62,.int .i64 k)]) (fun k w=>k<=t.ops.length/\∃ cv lv us,us.length=(eR t k).length/\Sat w0 w (Ad pr 134 [a2,fv,.int .i64 (ay t:Int),gv,cv,lv]::OS aa 3 cv ((ar t).take k)::OS gA 138 lv us::Aj (Cr us (eR t k))::OS aa 3 fv (cw t.vars t.vars.length)::OS aa 3 gv (cq t)::OS aa 3 a2 t.vars::[Ad pt 26 [a,b,c,d]])) (fun k=>t.ops.length-k) 0 (fun _=>rfl) ⟨rfl,trivial⟩ ⟨zero_le _,_,_,_,rfl,hw⟩ ?_;clear hw;rintro σ1 k w ⟨hk,cv,lv,us,iw,hw⟩;refine ab ?_;refine ai ?_ ?_<;>intro h2
 ·have aK:k<t.ops.length:=by omega
  have bW:=hd.at_ k aK;have hone:=bW.one;have aN:=bW.pre;have da:=hg.op k aK;have iP:=qI da.pre;have la:=da.aw;have gg:=bW.cost;obtain⟨es,eE⟩:=bW.aw;have tI:=eE.rs;have tB:=eE.len;have eN:(ar t).length=t.ops.length:=uz t;have qzU:((ar t).take k).length=k:=by rw[length_take];omega
  have qyV:(ar t).take (k+1)=(ar t).take k++[(az bJ vs k).cost]:=by rw[dJ aa.dflt om,wV aK,gg]
  refine cK ?_;clear hw;intro p w hw;obtain⟨p9,hp9⟩:∃ p9,p9=p:=⟨p,rfl⟩
  subst hp9;refine fP (pl [0,1,2,3,4,5,6,7] (.chk 4::pl [8,9,10,11] [])) hw kr ?_;clear hw;intro w hw
  repeat (first|refine bV ?_|(refine fL ?_;clear hw;intro w hw)|(refine cB ?_;clear hw;intro s w hw))
  simp only[set_cons_succ,set_cons_zero]at hw;rw[<-qyV]at hw;obtain⟨cv2,qyW⟩:∃ cv2,cv2=s:=⟨s,rfl⟩
  subst qyW;have bb:Sat w0 w (Ad pr 134 [a2,fv,.int .i64 (ay t:Int),gv,cv2,lv]::OS aa 3 cv2 ((ar t).take (k+1))::OS gA 138 lv us::Aj (Cr us (eR t k++jn t.vars k (t.ops.getD k aO) 0))::Ad p9 44 (bJ.enc (az bJ vs k))::OS aa 3 fv (cw t.vars t.vars.length)::OS aa 3 gv (cq t)::OS aa 3 a2 t.vars::[Ad pt 26 [a,b,c,d]]):=by
   have uD:jn t.vars k (t.ops.getD k aO) 0=[]:=rfl;rw[uD,append_nil];exact hw.bG
  clear hw;have hw:=bb;clear bb;refine ab ?_;refine cd [11,12,81,120] (G:=Nat) (fun j=>[(81,.int .i64 j)]) (fun j w=>j<=(t.ops.getD k aO).aw.length/\∃ lv us,us.length=(eR t k++jn t.vars k (t.ops.getD k aO) j).length/\Sat w0 w (Ad pr 134 [a2,fv,.int .i64 (ay t:Int),gv,cv2,lv]::OS aa 3 cv2 ((ar t).take (k+1))::OS gA 138 lv us::Aj (Cr us (eR t k++jn t.vars k (t.ops.getD k aO) j))::Ad p9 44 (bJ.enc (az bJ vs k))::OS aa 3 fv (cw t.vars t.vars.length)::OS aa 3 gv (cq t)::OS aa 3 a2 t.vars::[Ad pt 26 [a,b,c,d]])) (fun j=>(t.ops.getD k aO).aw.length-j) 0 (fun _=>rfl) ⟨rfl,trivial⟩ ⟨zero_le _,_,_,by rw[show jn t.vars k (t.ops.getD k aO) 0=[] from rfl,append_nil];exact iw,hw⟩ ?_;clear hw iw;clear lv us;rintro σ2 j w ⟨hj,lv,us,iw,hw⟩;refine ab ?_;refine ai ?_ ?_<;>intro h3
  ·have cJ:j<(t.ops.getD k aO).aw.length:=by omega
   have oU:=eE.at_ j cJ;have za:=da.dL j cJ;have qyX:=oU.one;have nR:=oU.when;have rY:∀ f∈(t.ops.getD k aO).pre,Ao t.vars f:=fun f hf=>by
    obtain⟨i,hi,rfl⟩:=getElem_of_mem hf;have:=(da.pre i hi).1
    rwa[getD_at hi]at this
   have hkw:∀ f∈((t.ops.getD k aO).aw.getD j ba).when,Ao t.vars f:=fun f hf=>by
    obtain⟨i,hi,rfl⟩:=getElem_of_mem hf;have:=(za.1 i hi).1
    rwa[getD_at hi]at this
   have xr:=qI za.1;refine cK ?_;clear hw;intro p w hw;obtain⟨p11,qyY⟩:∃ p11,p11=p:=⟨p,rfl⟩
   subst qyY;refine fP (pl [0,1,2,4,5,6,3] (.chk 6::pl [7,8,9] [])) hw kr ?_;clear hw;intro w hw;refine ab ?_;refine aJ rfl (qcV (mM (p:=pr) hw) (aM (s:=fv) hw) hg.pos qK eW (aN.at hw) rY om) ?_;rintro _ w' ⟨n1,rfl,aj⟩;refine aA ?_;clear aj hw;intro hw;refine ab ?_;refine aJ rfl (qcV (mM (p:=pr) hw) (aM (s:=fv) hw) hg.pos qK eW (nR.at hw) hkw om) ?_;rintro _ w' ⟨n2,rfl,aj⟩;refine aA ?_;clear aj hw;intro hw;have hl1:((t.ops.getD k aO).pre.map (cz t.vars)).length=(t.ops.getD k aO).pre.length:=length_map _;have nW:(((t.ops.getD k aO).aw.getD j ba).when.map (cz t.vars)).length=((t.ops.getD k aO).aw.getD j ba).when.length:=length_map _;refine nV ?_;clear hw;intro s w hw;obtain⟨nd,fe⟩:∃ nd,nd=s:=⟨s,rfl⟩
   subst fe;have bb:Sat w0 w (OS aa 3 nd ((t.ops.getD k aO).pre.map (cz t.vars)++((t.ops.getD k aO).aw.getD j ba).when.map (cz t.vars))::Ad p11 61 (aR.enc (az aR es j))::Ad p9 44 (bJ.enc (az bJ vs k))::Ad pr 134 [a2,fv,.int .i64 (ay t:Int),gv,cv2,lv]::OS aa 3 cv2 ((ar t).take (k+1))::OS gA 138 lv us::Aj (Cr us (eR t k++jn t.vars k (t.ops.getD k aO) j))::OS aa 3 fv (cw t.vars t.vars.length)::OS aa 3 gv (cq t)::OS aa 3 a2 t.vars::[Ad pt 26 [a,b,c,d]]):=hw.bG;have jv:((t.ops.getD k aO).pre.map (cz t.vars)++((t.ops.getD k aO).aw.getD j ba).when.map (cz t.vars)).length<=128:=by rw[length_append];omega
   refine aJ rfl (qdk (s:=nd) bb om) ?_;clear hw bb;rintro _ w ⟨rfl,hw⟩;refine⟨_,rfl,?_⟩;have j2:Ao t.vars ⟨(az aR es j).var,(az aR es j).val⟩:=by rw[oU.var,oU.val];exact qB za
   obtain⟨x0,x1,x2,x3⟩:=j2;have y0:0<=(az aR es j).var:=x0;have y1:(az aR es j).var<t.vars.length:=x1;have y2:0<=(az aR es j).val:=x2;have y3:(az aR es j).val<t.vars.getD (az aR es j).var.toNat aa.dflt:=x3;clear x0 x1 x2 x3;have hv:(az aR es j).var.toNat<t.vars.length:=by omega
   obtain⟨g0,g1,g2⟩:=qhG hg.pos qK eW hv;have g3:=qK _ hv;rw[<-g0]at g1 g2;have ot:=wJ t.vars t.vars.length;have xl:us.length<=1048576:=by
    have h5:=ym hg (k:=k) om;rw[iw,length_append,yl];omega
   refine ab ?_;refine fP (pl [0,1,2,3,4,5,6,7,8,9,10,11,12,13,14,15,16,17,18] (.chk 4::.chk 9::.chk 11::.chk 13::.chk 15::pl [19] (.chk 4::pl [20] (.chk 4::pl [21,22,23,24] [])))) hw kr ?_;clear hw;intro w hw;refine ab ?_;refine aJ rfl (qdl (s:=nd) hw (by rw[qdb];omega)) ?_;clear hw;rintro _ w ⟨nd2,rfl,hw⟩;refine⟨_,rfl,?_⟩;have ond:=(aM (s:=nd2) hw).one;refine ab ?_;have qG:(cw t.vars t.vars.length).getD (az aR es j).var.toNat aa.dflt+(az aR es j).val=cz t.vars ⟨((t.ops.getD k aO).aw.getD j ba).var,((t.ops.getD k aO).aw.getD j ba).val⟩:=by
    rw[g0,oU.var,oU.val];rfl
   rw[qG];obtain⟨mk,pR⟩:∃ mk,mk=cz t.vars ⟨((t.ops.getD k aO).aw.getD j ba).var,((t.ops.getD k aO).aw.getD j ba).val⟩:=⟨_,rfl⟩
   rw[<-pR];refine xM (v1:=.int .i64 (k:Int)) (v2:=.int .i64 mk) (v3:=nd2) rfl rfl rfl rfl (by simp only[all_cons,all_nil,ond];rfl) ?_;refine ab ?_;refine jh gA (x1:=⟨k,mk,nd2⟩) rfl rfl rfl (le_of_ble_eq_true rfl) (zero_lt_succ _) hw ?_;clear hw;intro sl w hw;refine ab ?_;refine rT (s:=lv) (s2:=sl) inferInstance rfl rfl (aM hw) rfl rfl (fun x hx v hv=>?_) (by simp only[length_cons,length_nil];omega) (by unfold bo;simp only[length_cons,length_nil];omega) hw ?_
   ·rw[mem_singleton.1 hx]at hv
    simp only[gA,mem_cons,not_mem_nil,or_false]at hv;rcases hv with rfl|rfl|rfl
    ·rfl
    ·rfl
    ·exact ond
   clear hw;intro lv2 w hw;refine fy ?_;clear hw;intro w hw;simp only[set_cons_succ,set_cons_zero]at hw;have gX:Sat w0 w (OS aa 3 nd2 (cA (dF ((t.ops.getD k aO).pre.map (cz t.vars)++((t.ops.getD k aO).aw.getD j ba).when.map (cz t.vars))))::Aj (Cr us (eR t k++jn t.vars k (t.ops.getD k aO) j))::Ad pr 134 [a2,fv,.int .i64 (ay t:Int),gv,cv2,lv2]::OS aa 3 cv2 ((ar t).take (k+1))::OS gA 138 lv2 (us++[⟨k,mk,nd2⟩])::Ad p9 44 (bJ.enc (az bJ vs k))::OS aa 3 fv (cw t.vars t.vars.length)::OS aa 3 gv (cq t)::OS aa 3 a2 t.vars::[Ad pt 26 [a,b,c,d]]):=hw.bG
   have yq:=Sat.rd (Δ:=[OS aa 3 nd2 (cA (dF ((t.ops.getD k aO).pre.map (cz t.vars)++((t.ops.getD k aO).aw.getD j ba).when.map (cz t.vars)))),Aj (Cr us (eR t k++jn t.vars k (t.ops.getD k aO) j))]) (φ:=Cr (us++[⟨k,mk,nd2⟩]) (eR t k++jn t.vars k (t.ops.getD k aO) (j+1))) (fun _ w h=>by
    rw[qil,<-append_assoc]
    exact(h.dM 1 rfl).snoc iw ⟨rfl,pR,_,h.rs 0 rfl,qn9⟩) gX
   exact⟨j+1,⟨rfl,trivial⟩,aH,⟨by omega,lv2,us++[⟨k,mk,nd2⟩],by rw[qil,<-append_assoc,length_append,length_append,iw];rfl,yq.bG⟩,by omega⟩
  have iR:j=(t.ops.getD k aO).aw.length:=by omega
  subst iR;rw[<-u0]at hw iw;refine ab ?_;exact⟨k+1,⟨rfl,trivial⟩,aH,⟨by omega,cv2,lv,us,iw,hw.bG⟩,by omega⟩
 have cH:k=t.ops.length:=by omega
 subst cH;rw[take_of_length_le (by rw[uz];exact Nat.le_refl _)]at hw;refine ab ?_;have ct:=Sat.rd (Δ:=[Ad pr 134 [a2,fv,.int .i64 (ay t:Int),gv,cv,lv],OS aa 3 cv (ar t),OS gA 138 lv us,Aj (Cr us (bh t)),OS aa 3 fv (cw t.vars t.vars.length),OS aa 3 gv (cq t),OS aa 3 a2 t.vars]) (φ:=fun w=>CE w pr t a2 fv gv cv lv us) (fun _ w h=>⟨h.mR 0 rfl,h.rs 6 rfl,h.rs 4 rfl,h.rs 5 rfl,h.rs 1 rfl,h.rs 2 rfl,iw,h.dM 3 rfl⟩) hw;exact dz (v:=.pointer (some pr)) (v':=.nilIface) rfl rfl rfl ⟨pr,a2,fv,gv,cv,lv,us,rfl,ct.aT⟩
theorem CE.at {w0 w:World}{Γ:List HP}{pr:Addr}{t:Aa}{a fv gv cv lv:Value}{us:List Cy}(h:CE w0 pr t a fv gv cv lv us) (hw:Sat w0 w Γ):CE w pr t a fv gv cv lv us :=
 ⟨h.box.at hw,h.vars.at hw,h.fst.at hw,h.goal.at hw,h.au.at hw,h.list.at hw,h.len,h.un.at hw⟩
theorem qsk {w:World}{t:Aa}{pr:Addr}{a fv gv cv lv:Value}{us:List Cy}(h:CE w pr t a fv gv cv lv us) (hg:Af t):A0 w (.iface 98 (.pointer (some pr))) t (kc t) :=
 ⟨_,_,_,_,rfl,qfR _,inferInstance,fun _ _ _ _ hs mH br=>ql6 (h.at hs) hg mH br⟩
theorem qnF {w0:World}{a b c d:Value}{vs:List AK}{t:Aa}(ht:Am w0 a b c d vs t) (hg:Af t) :
  Calls Tryz.prog 28 #[.agg #[a,b,c,d]] w0 fun e w'=>∃ p,e=.returned (.tuple #[.pointer (some p),.nilIface])/\Sat w0 w' [Aj fun w=>Ay w p t (kc t)]:=by
 have hw:=Sat.start w0;refine bn (args:=[.agg #[a,b,c,d]]) mixed Tryz.func28 ?_;refine cK ?_;clear hw;intro p w hw;obtain⟨pt,dO⟩:∃ pt,pt=p:=⟨p,rfl⟩
 subst dO;refine aJ rfl (qrH (ht.at hw) hg) ?_;rintro _ w' ⟨pr,a2,fv,gv,cv,lv,us,rfl,aj⟩;refine aA ?_;clear aj hw;intro hw;refine ab ?_;refine aJ rfl (wC (h:=.iface 98 (.pointer (some pr))) (H:=kc t) (ht.at hw) hg ⟨_,_,rfl⟩) ?_;rintro _ w' ⟨pe,rfl,aj⟩;refine aA ?_;clear aj hw;intro hw;refine ab ?_;have ct:Sat w0 w' [Aj fun w=>A0 w (.iface 98 (.pointer (some pr))) t (kc t)->Ay w pe t (kc t),Aj fun w=>CE w pr t a2 fv gv cv lv us,Ad pt 26 [a,b,c,d]]:=hw;have gX:=Sat.rd (Δ:=[Aj fun w=>A0 w (.iface 98 (.pointer (some pr))) t (kc t)->Ay w pe t (kc t),Aj fun w=>CE w pr t a2 fv gv cv lv us]) (φ:=fun w=>Ay w pe t (kc t)) (fun _ w h=>(h.dM 0 rfl) (qsk (h.dM 1 rfl) hg)) ct;exact dz (v:=.pointer (some pe)) (v':=.nilIface) rfl rfl rfl ⟨pe,rfl,gX.aT⟩
theorem qtq (ps:List (Option Addr)) {i:Nat}(h:i<ps.length):cU (ps.map Value.pointer) i=.pointer (ps.getD i none):=by
 rw[ng];simp[List.getD,h]
theorem qvD (ps:List (Option Addr)):(ps.map Value.pointer).length=ps.length:=length_map ..
structure BW (w:World) (pr:Addr) (t:Aa):Prop where
 ex:∃ a c fv uv nv frv us ss,AD w pr [a,.slice none 0 0,c,.slice none 0 0,fv,.int .i64 (ay t:Int),uv,nv,frv]/\RS aa w a t.vars/\RS aq w c t.goal/\RS aa w fv (cw t.vars t.vars.length)/\RS iO w uv us/\us.length=(bh t).length/\BJ us (bh t) w/\RS al w nv ss/\ss.length=ay t/\(∀ f,f<ay t->RS aa w (cU ss f) (cT (bh t) f))/\RS aa w frv (cM (bh t))
theorem qrZ {w0:World}{a b c d:Value}{vs:List AK}{t:Aa}(ht:Am w0 a b c d vs t) (hg:Af t) :
  Calls Tryz.prog 53 #[.agg #[a,b,c,d],.slice none 0 0] w0 fun e w'=>∃ p,e=.returned (.tuple #[.pointer (some p),.nilIface])/\Sat w0 w' [Aj fun w=>BW w p t]:=by
 have eF:=ht;obtain⟨ha,hb,hc,hd⟩:=ht;have hdr:=hd.rs;have jZ:=hd.len;have eW:=hg.vars;have l5:=hg.ops;have kL:=qI hg.goal;have hw:=Sat.start w0;refine bn (args:=[.agg #[a,b,c,d],.slice none 0 0]) mixed Tryz.func53 ?_;refine cK ?_;clear hw;intro p w hw;obtain⟨pt,dO⟩:∃ pt,pt=p:=⟨p,rfl⟩
 subst dO;refine aJ rfl (sH (eF.at hw)) ?_;rintro _ w' ⟨rfl,aj⟩;refine aC ?_;clear aj hw;intro hw;rw[iy ((nZ t).2 hg)];replace hw:=hw.nil (T:=aa) (e:=3);have hz:(([]:List Int).length:Int)=0:=rfl;refine ab ?_;refine cd [4,5,8,8,36,47] (G:=Unit) (fun _=>[(36,.int .i64 0)]) (fun _ w=>Sat w0 w [OS aa 3 (.slice none 0 0) [],Ad pt 26 [a,b,c,d]]) (fun _=>0) () (fun _=>rfl) ⟨rfl,trivial⟩ hw ?_;clear hw;rintro σ _ w hw;refine ab ?_;replace hw:=hw.tail;refine fP (pl [0,1,3,4,2] (.chk 4::pl [5,6,7,8,9] [])) hw kr ?_;clear hw;intro w hw;refine ab ?_;refine aJ rfl (lx (ha.at hw) om) ?_;rintro _ w' ⟨a2,rfl,aj⟩;refine aA ?_;clear aj hw;intro hw;refine ab ?_;refine aJ rfl (qg1 (hc.at hw) om) ?_;rintro _ w' ⟨c2,rfl,aj⟩;refine aA ?_;clear aj hw;intro hw;refine ab ?_;have oa:=(aM (s:=a2) hw).one;have oc:=(aM (s:=c2) hw).one;refine wA (v1:=a2) (v2:=c2) rfl rfl rfl (by simp only[all_cons,all_nil,oa,oc];rfl) ?_;refine ab ?_;refine qc4 (vs:=[(0,.agg #[a2,.slice none 0 0,c2,.slice none 0 0])]) (ls:=[(0,[a2,.slice none 0 0,c2,.slice none 0 0])]) rfl rfl rfl ?_;refine cK ?_;clear hw;intro p w hw;obtain⟨pr,o6⟩:∃ pr,pr=p:=⟨p,rfl⟩
 subst o6;replace hw:Sat w0 w [Ad pr 127 [a2,.slice none 0 0,c2,.slice none 0 0,.slice none 0 0,.int .i64 0,.slice none 0 0,.slice none 0 0,.slice none 0 0],OS aq 63 c2 t.goal,OS aa 3 a2 t.vars,Ad pt 26 [a,b,c,d]]:=hw;replace hw:=hw.nil (T:=aa) (e:=3);refine dj [11,11,60,85] (G:=Nat) (H:=Value) (fun k _=>[(60,.int .i64 k)]) (fun k fv w=>k<=t.vars.length/\Sat w0 w [OS aa 3 fv (cw t.vars k),Ad pr 127 [a2,.slice none 0 0,c2,.slice none 0 0,fv,.int .i64 (aV t.vars k),.slice none 0 0,.slice none 0 0,.slice none 0 0],OS aq 63 c2 t.goal,OS aa 3 a2 t.vars,Ad pt 26 [a,b,c,d]]) (fun k _=>t.vars.length-k) 0 (.slice none 0 0) (fun _ _=>rfl) ⟨rfl,trivial⟩ ⟨zero_le _,hw⟩ ?_;clear hw;rintro σ k fv w ⟨hk,hw⟩;have ot:=wJ t.vars k;refine ab ?_;refine ai ?_ ?_<;>intro h1
 ·have aK:k<t.vars.length:=by omega
  have hdk:=hg.gd k aK;have hf0:=qcn hg.pos (b:=k) om;have y9:=qcZ (fun i hi=>(hg.gd i hi).2) (b:=k) om;refine ab ?_;refine fP (pl [0,1,2,3,4,5,6,7,8,9] (.chk 4::pl [10,11,12,13] [])) hw kr ?_;clear hw;intro w hw
  repeat (first|refine bV ?_|(refine fL ?_;clear hw;intro w hw)|(refine cB ?_;clear hw;intro s w hw))
  rw[<-qjB,<-qbv aK]at hw;exact⟨k+1,s,⟨rfl,trivial⟩,aH,⟨by omega,hw.tail⟩,by omega⟩
 have cH:k=t.vars.length:=by omega
 subst cH;rw[<-pd hg]at hw;have hN:=wS hg;refine nV ?_;clear hw;intro s w hw;obtain⟨nv,sA⟩:∃ nv,nv=s:=⟨s,rfl⟩
 subst sA;have bb:Sat w0 w (Ab aa 3 (replicate (ay t) (.slice none 0 0)) (et (eR t 0) (ay t))::OS al 22 nv (replicate (ay t) (.slice none 0 0))::Ad pr 127 [a2,.slice none 0 0,c2,.slice none 0 0,fv,.int .i64 (ay t:Int),(.slice none 0 0),nv,(.slice none 0 0)]::OS aa 3 fv (cw t.vars t.vars.length)::OS iO 131 (.slice none 0 0) ([]:List C3)::Aj (BJ ([]:List C3) (eR t 0))::OS aa 3 (.slice none 0 0) (cM (eR t 0))::OS aa 3 (.slice none 0 0) []::OS aq 63 c2 t.goal::OS aa 3 a2 t.vars::[Ad pt 26 [a,b,c,d]]):=by
  rw[Int.toNat_natCast]at hw;have g1:Sat w0 w [OS al 22 nv (replicate (ay t) (.slice none 0 0)),OS aa 3 fv (cw t.vars t.vars.length),Ad pr 127 [a2,.slice none 0 0,c2,.slice none 0 0,fv,.int .i64 (ay t:Int),.slice none 0 0,nv,.slice none 0 0],OS aq 63 c2 t.goal,OS aa 3 a2 t.vars,Ad pt 26 [a,b,c,d]]:=hw;have g2:=Sat.nX (φ:=BJ [] []) (fun w i hi=>absurd hi (not_lt_zero _)) ((((g1.nil (T:=aa) (e:=3)).nil (T:=aa) (e:=3)).nil (T:=iO) (e:=131)).fu (T:=aa) (e:=3) (ay t));have uD:eR t 0=[]:=by simp[eR]
  rw[<-qr7]at g2;rw[uD,qsa];exact g2.bG
 clear hw;have hw:=bb;clear bb;refine cd [12,16,97,137] (G:=Nat) (fun k=>[(97,.int .i64 k)]) (fun k w=>k<=t.ops.length/\∃ uv frv us ss,us.length=(eR t k).length/\Sat w0 w (Ab aa 3 ss (et (eR t k) (ay t))::OS al 22 nv ss::Ad pr 127 [a2,.slice none 0 0,c2,.slice none 0 0,fv,.int .i64 (ay t:Int),uv,nv,frv]::OS aa 3 fv (cw t.vars t.vars.length)::OS iO 131 uv us::Aj (BJ us (eR t k))::OS aa 3 frv (cM (eR t k))::OS aa 3 (.slice none 0 0) []::OS aq 63 c2 t.goal::OS aa 3 a2 t.vars::[Ad pt 26 [a,b,c,d]])) (fun k=>t.ops.length-k) 0 (fun _=>rfl) ⟨rfl,trivial⟩ ⟨zero_le _,_,_,_,_,rfl,hw⟩ ?_;clear hw;rintro σ1 k w ⟨hk,uv,frv,us,ss,iw,hw⟩;refine ab ?_;refine ai ?_ ?_<;>intro h2
 ·have aK:k<t.ops.length:=by omega
  have bW:=hd.at_ k aK;have hone:=bW.one;have aN:=bW.pre;have da:=hg.op k aK;have iP:=qI da.pre;have la:=da.aw;obtain⟨es,eE⟩:=bW.aw;have tI:=eE.rs;have tB:=eE.len;refine cK ?_;clear hw;intro p w hw;obtain⟨p13,yH⟩:∃ p13,p13=p:=⟨p,rfl⟩
  subst yH;have bb:Sat w0 w (Ab aa 3 ss (et (eR t k++jn t.vars k (t.ops.getD k aO) 0) (ay t))::OS al 22 nv ss::Ad pr 127 [a2,.slice none 0 0,c2,.slice none 0 0,fv,.int .i64 (ay t:Int),uv,nv,frv]::OS aa 3 fv (cw t.vars t.vars.length)::OS iO 131 uv us::Aj (BJ us (eR t k++jn t.vars k (t.ops.getD k aO) 0))::OS aa 3 frv (cM (eR t k++jn t.vars k (t.ops.getD k aO) 0))::Ad p13 44 (bJ.enc (az bJ vs k))::OS aa 3 (.slice none 0 0) []::OS aq 63 c2 t.goal::OS aa 3 a2 t.vars::[Ad pt 26 [a,b,c,d]]):=by
   have uD:jn t.vars k (t.ops.getD k aO) 0=[]:=rfl;rw[uD,append_nil];exact hw.bG
  clear hw;have hw:=bb;clear bb;refine cd [15,16,114,136] (G:=Nat) (fun j=>[(114,.int .i64 j)]) (fun j w=>j<=(t.ops.getD k aO).aw.length/\∃ uv frv us ss,us.length=(eR t k++jn t.vars k (t.ops.getD k aO) j).length/\Sat w0 w (Ab aa 3 ss (et (eR t k++jn t.vars k (t.ops.getD k aO) j) (ay t))::OS al 22 nv ss::Ad pr 127 [a2,.slice none 0 0,c2,.slice none 0 0,fv,.int .i64 (ay t:Int),uv,nv,frv]::OS aa 3 fv (cw t.vars t.vars.length)::OS iO 131 uv us::Aj (BJ us (eR t k++jn t.vars k (t.ops.getD k aO) j))::OS aa 3 frv (cM (eR t k++jn t.vars k (t.ops.getD k aO) j))::Ad p13 44 (bJ.enc (az bJ vs k))::OS aa 3 (.slice none 0 0) []::OS aq 63 c2 t.goal::OS aa 3 a2 t.vars::[Ad pt 26 [a,b,c,d]])) (fun j=>(t.ops.getD k aO).aw.length-j) 0 (fun _=>rfl) ⟨rfl,trivial⟩ ⟨zero_le _,_,_,_,_,by rw[show jn t.vars k (t.ops.getD k aO) 0=[] from rfl,append_nil];exact iw,hw⟩ ?_;clear hw iw;clear uv frv us ss;rintro σ2 j w ⟨hj,uv,frv,us,ss,iw,hw⟩;refine ab ?_;refine ai ?_ ?_<;>intro h3
  ·have cJ:j<(t.ops.getD k aO).aw.length:=by omega
   have oU:=eE.at_ j cJ;have hgf:=da.dL j cJ;have qyX:=oU.one;have nR:=oU.when;refine cK ?_;clear hw;intro p w hw;obtain⟨p16,qzt⟩:∃ p16,p16=p:=⟨p,rfl⟩
   subst qzt;refine fP (pl [0,1,2,3,4,5,6,7,8,12,13,14,15,9] (.chk 13::.chk 15::pl [10] (.chk 13::.chk 15::pl [11] (.chk 13::.chk 15::pl [16] [])))) hw kr ?_;clear hw;intro w hw;refine ab ?_;have j2:Ao t.vars ⟨(az aR es j).var,(az aR es j).val⟩:=by rw[oU.var,oU.val];exact qB hgf
   refine aJ rfl (qdm (f:=⟨(az aR es j).var,(az aR es j).val⟩) (mM (p:=pr) hw) (aM (s:=fv) hw) hg.pos (fun i hi=>(hg.gd i hi).2) eW j2) ?_;rintro _ w' ⟨rfl,aj⟩;refine aC ?_;clear aj hw;intro hw;refine ab ?_;refine qqf (v1:=.int .i64 (k:Int)) (v2:=.int .i64 (j:Int)) (v3:=.int .i64 (az bJ vs k).cost) (v4:=.int .i64 (cz t.vars ⟨(az aR es j).var,(az aR es j).val⟩)) rfl rfl rfl rfl rfl rfl ?_;refine ab ?_;have hwp:RS aq w0 (az bJ vs k).pre (t.ops.getD k aO).pre:=aN;have rY:∀ f∈(t.ops.getD k aO).pre,Ao t.vars f:=fun f hf=>by
    obtain⟨i,hi,rfl⟩:=getElem_of_mem hf;have:=(da.pre i hi).1
    rwa[getD_at hi]at this
   have hkw:∀ f∈((t.ops.getD k aO).aw.getD j ba).when,Ao t.vars f:=fun f hf=>by
    obtain⟨i,hi,rfl⟩:=getElem_of_mem hf;have:=(hgf.1 i hi).1
    rwa[getD_at hi]at this
   have xr:=qI hgf.1;have xl:(eR t k++jn t.vars k (t.ops.getD k aO) j).length<=1048576:=by
    have h5:=ym hg (k:=k) om;rw[length_append,yl];omega
   have bb:Sat w0 w' (Ab aa 3 ss (et (eR t k++jn t.vars k (t.ops.getD k aO) j) (ay t))::OS al 22 nv ss::Ad pr 127 [a2,.slice none 0 0,c2,.slice none 0 0,fv,.int .i64 (ay t:Int),uv,nv,frv]::OS aa 3 fv (cw t.vars t.vars.length)::OS iO 131 uv us::Aj (BJ us (eR t k++jn t.vars k (t.ops.getD k aO) j))::OS aa 3 frv (cM (eR t k++jn t.vars k (t.ops.getD k aO) j))::Ad p16 61 (aR.enc (az aR es j))::Ad p13 44 (bJ.enc (az bJ vs k))::OS aa 3 (.slice none 0 0) []::OS aq 63 c2 t.goal::OS aa 3 a2 t.vars::[Ad pt 26 [a,b,c,d]]):=hw.bG;refine aJ rfl (qrE (l1:=(t.ops.getD k aO).pre) (l2:=((t.ops.getD k aO).aw.getD j ba).when) (vars:=t.vars) (N:=ay t) hg.pos (fun i hi=>(hg.gd i hi).2) eW (pd hg) hN xl hwp nR rY hkw om om iw bb) ?_;clear hw bb;rintro _ w ⟨rfl,uv2,frv2,us2,ss2,qxB,hw⟩;refine⟨_,rfl,?_⟩;have qzu:=oU.var;have qzv:=oU.val;have gg:=bW.cost;rw[qzu,qzv,gg,append_assoc,show Un.mk (k:Int) (j:Int) (t.ops.getD k aO).cost (cz t.vars ⟨((t.ops.getD k aO).aw.getD j ba).var,((t.ops.getD k aO).aw.getD j ba).val⟩) (bp t.vars ((t.ops.getD k aO).aw.getD j ba).when (bp t.vars (t.ops.getD k aO).pre []))=uZ t.vars k (t.ops.getD k aO) j from rfl,<-qil]at hw qxB;refine ab ?_;exact⟨j+1,⟨rfl,trivial⟩,aH,⟨by omega,uv2,frv2,us2,ss2,qxB,hw.bG⟩,by omega⟩
  have iR:j=(t.ops.getD k aO).aw.length:=by omega
  subst iR;rw[<-u0]at hw iw;refine ab ?_;exact⟨k+1,⟨rfl,trivial⟩,aH,⟨by omega,uv,frv,us,ss,iw,hw.bG⟩,by omega⟩
 have cH:k=t.ops.length:=by omega
 subst cH;have mj:ss.length=ay t:=by rw[hw.bw,qif]
 refine ab ?_
 have ct:=Sat.rd (Δ:=[Ab aa 3 ss (et (eR t t.ops.length) (ay t)),OS al 22 nv ss,Ad pr 127 [a2,.slice none 0 0,c2,.slice none 0 0,fv,.int .i64 (ay t:Int),uv,nv,frv],OS aa 3 fv (cw t.vars t.vars.length),OS iO 131 uv us,Aj (BJ us (eR t t.ops.length)),OS aa 3 frv (cM (eR t t.ops.length)),OS aa 3 (.slice none 0 0) [],OS aq 63 c2 t.goal,OS aa 3 a2 t.vars]) (φ:=fun w=>BW w pr t) (fun _ w h=>by
  refine⟨a2,c2,fv,uv,nv,frv,us,ss,h.mR 2 rfl,h.rs 9 rfl,h.rs 8 rfl,h.rs 3 rfl,h.rs 4 rfl,iw,h.dM 5 rfl,h.rs 1 rfl,mj,fun f hf=>?_,h.rs 6 rfl⟩;have h3:Sat _ w [Ab aa 3 ss (et (eR t t.ops.length) (ay t))]:=h.aT;have h4:=h3.row (i:=f) (by rw[qif];exact hf);rw[quD hf]at h4
  exact h4) hw
 exact dz (v:=.pointer (some pr)) (v':=.nilIface) rfl rfl rfl ⟨pr,rfl,ct.aT⟩
end Go.Proofs.YtmapkjoefdgjfaaGreatDoor
