/-
  Contract of the relaxation's 'values': the least values of all facts.
-/
import Derived.Test.YtmapkjoefdgjfaaGreatDoorMW21
import Derived.Test.YtmapkjoefdgjfaaGreatDoorWRlxHeap
set_option linter.unusedSimpArgs false
set_option linter.unusedVariables false
set_option maxRecDepth 8000
set_option maxHeartbeats 16000000
open List Nat
namespace Go.Proofs.YtmapkjoefdgjfaaGreatDoor
open Go.Sl Go
attribute [local irreducible] vc opsW opsD opV opW PureV ReadV Thn Blk
theorem qd8 {w0 w:World}{Γ:List HP}{po pq:Addr}{ov qv:Value}{D:List Int}{Q:List Item}{N:Nat}{g v:Int}(hl:D.length=N) (hg:0<=g/\g<N) (hQ:Av ao.dflt eJ Q) (jY:Q.length<1099511627776)
  (hw:Sat w0 w (OS ao 355 qv Q::Ad pq 352 [qv]::OS aa 3 ov D::Ad po 22 [ov]::Γ)) :
  Calls Tryz.prog 264 #[.int .i64 g,.int .i64 v,.pointer (some po),.pointer (some pq)] w fun e w'=>e=.returned (.tuple #[])/\∃ qv' Q',Av ao.dflt eJ Q'/\Q'.Perm (nH D Q g v) /\
   Sat w0 w' (OS ao 355 qv' Q'::Ad pq 352 [qv']::OS aa 3 ov (ko D g v)::Ad po 22 [ov]::Γ):=by
 refine bn (args:=[.int .i64 g,.int .i64 v,.pointer (some po),.pointer (some pq)]) mixed Tryz.func264 ?_;refine ab ?_;refine ai ?_ ?_<;>intro h1
 ·have e1:ko D g v=D.set g.toNat v:=if_pos h1
  have e2:nH D Q g v=⟨v,g⟩::Q:=if_pos h1;rw[e1,e2];refine fi ?_;intro w hw;refine aJ rfl (qg8 (v:=⟨v,g⟩) hQ jY hw) ?_;clear hw;rintro _ w ⟨rfl,qv',Q',h2,h3,hw⟩;refine⟨_,rfl,?_⟩;refine ab ?_;exact o7 rfl ⟨rfl,qv',Q',h2,h3,hw⟩
 ·have e1:ko D g v=D:=if_neg (Int.not_lt.2 h1)
  have e2:nH D Q g v=Q:=if_neg (Int.not_lt.2 h1);rw[e1,e2];refine ab ?_;exact o7 rfl ⟨rfl,qv,Q,hQ,.refl _,hw⟩
theorem qtE (n:Nat) (v:Int):c9 n (fun _=>v) n=replicate n v:=by
 apply ext_getElem (by simp[c9]);intro i h1 h2;simp only[c9,getElem_map,getElem_range,getElem_replicate];rw[if_pos (by simpa [c9] using h1)]
theorem qwi (dn l:List Int):pZ dn l<=l.length:=length_filter_le _ _
theorem qtF {w:World}{v:C3}{u:Un}(h:Dy w v u):(iO.enc v).all Value.oneCell'=true:=by
 have h1:=h.an.one;show ((Value.int .i64 v.op).oneCell' && ((Value.int .i64 v.dL).oneCell' && ((Value.int .i64 v.cost).oneCell' && ((Value.int .i64 v.makes).oneCell' && (v.an.oneCell' && true)))))=true;rw[h1];rfl
instance qxX:CI Tryz.prog 350 3 4:=⟨kr⟩
instance qxE:B1 Tryz.prog 4 (.bool false):=⟨kr⟩
theorem qk9 {w0:World}{pr:Addr}{sv:Value}{t:Aa}{z:List Int}(hr:BW w0 pr t) (hg:Af t) (hs:RS aa w0 sv z) (br:Ac t.vars z) :
  Calls Tryz.prog 263 #[.pointer (some pr),sv,.map none] w0 fun e w'=>∃ ov out,e=.returned ov/\AW t z out/\Sat w0 w' [OS aa 3 ov out]:=by
 obtain⟨a,c,fv,uv,nv,frv,us,ss,hbx,ha,hc,hf,yU,iw,hU,sA,mj,fe,kA⟩:=hr.ex;obtain⟨U,hUe⟩:∃ U,U=bh t:=⟨_,rfl⟩
 rw[<-hUe]at iw hU fe kA;have lZ:CU U (ay t):=by rw[hUe];exact qF hg
 have xl:U.length<=262144:=by
  have h1:=ym hg (k:=t.ops.length) (Nat.le_refl _);have h2:=hg.ops;rw[hUe];unfold bh;omega
 have hN:=wS hg;have eW:=hg.vars;have iL:=br.1;obtain⟨N,hNe⟩:∃ N,N=ay t:=⟨_,rfl⟩
 rw[<-hNe]at hbx mj fe lZ hN;have hfN:(N:Int)=aV t.vars t.vars.length:=by rw[hNe];exact pd hg
 have hr0:(replicate ((N:Nat):Int).toNat (0:Int)).length=N:=by simp
 have wI:(replicate ((us.length:Nat):Int).toNat (0:Int)).length=U.length:=by simp[iw]
 have hw:=Sat.start w0;refine bn (args:=[.pointer (some pr),sv,.map none]) mixed Tryz.func263 ?_
 repeat (first|refine bV ?_|(refine dK ?_;clear hw;intro p w hw)|(refine fL ?_;clear hw;intro w hw)|(refine cB ?_;clear hw;intro s w hw))
 obtain⟨p7,hp7⟩:∃ p7,p7=p:=⟨p,rfl⟩
 subst hp7;obtain⟨ov,uL⟩:∃ ov,ov=s:=⟨s,rfl⟩
 subst uL;have bb:Sat w0 w [OS aa 3 ov (c9 N (fun _=>inf) 0),Ad p7 22 [ov]]:=by
  rw[Int.toNat_natCast,<-qeQ N (fun _=>inf)]at hw;exact hw.swap
 clear hw;have hw:=bb;clear bb;refine cd [8,8,30,36] (G:=Nat) (fun k=>[(30,.int .i64 k)]) (fun k w=>k<=N/\Sat w0 w [OS aa 3 ov (c9 N (fun _=>inf) k),Ad p7 22 [ov]]) (fun k=>N-k) 0 (fun _=>rfl) ⟨rfl,trivial⟩ ⟨zero_le _,hw⟩ ?_;clear hw;rintro σ k w ⟨hk,hw⟩;have eT:=qc2 N (fun _=>inf) k;refine ab ?_;refine ai ?_ ?_<;>intro h1
 ·have aK:k<N:=by omega
  refine fi ?_;clear hw;intro w hw;rw[show (1125899906842624:Int)=(fun _:Nat=>inf) k from rfl,qf6]at hw;exact⟨k+1,⟨rfl,trivial⟩,aH,⟨by omega,hw⟩,by omega⟩
 have cH:k=N:=by omega
 subst cH;clear eT h1;rw[qtE]at hw;refine nV ?_;clear hw;intro s w hw;obtain⟨lv,hlv⟩:∃ lv,lv=s:=⟨s,rfl⟩
 subst hlv;have rR:=qc2 U.length (fun i=>((un U (i:Int)).an.length:Int)) 0;have bb:Sat w0 w [OS aa 3 lv (c9 U.length (fun i=>((un U (i:Int)).an.length:Int)) 0),OS aa 3 ov (replicate k inf),Ad p7 22 [ov]]:=by
  rw[Int.toNat_natCast,iw,<-qeQ U.length (fun i=>((un U (i:Int)).an.length:Int))]at hw;exact hw
 clear hw;have hw:=bb;clear bb;refine cd [10,11,48,59] (G:=Nat) (fun j=>[(48,.int .i64 j)]) (fun j w=>j<=U.length/\Sat w0 w [OS aa 3 lv (c9 U.length (fun i=>((un U (i:Int)).an.length:Int)) j),OS aa 3 ov (replicate k inf),Ad p7 22 [ov]]) (fun j=>U.length-j) 0 (fun _=>rfl) ⟨rfl,trivial⟩ ⟨zero_le _,hw⟩ ?_;clear hw rR;rintro σ1 j w ⟨hj,hw⟩;have eT:=qc2 U.length (fun i=>((un U (i:Int)).an.length:Int)) j;refine ab ?_;refine ai ?_ ?_<;>intro h1
 ·have cJ:j<U.length:=by omega
  have hu:=hU j cJ;have huo:=qtF hu;have iv:=hu.an;refine db ?_;clear hw;intro p w hw;rw[show (((un U (j:Int)).an.length:Nat):Int)=(fun i:Nat=>((un U (i:Int)).an.length:Int)) j from rfl,qf6]at hw;exact⟨j+1,⟨rfl,trivial⟩,aH,⟨by omega,hw.tail⟩,by omega⟩
 have iR:j=U.length:=by omega
 subst iR;clear eT h1;refine cK ?_;clear hw;intro p w hw;obtain⟨p12,qzx⟩:∃ p12,p12=p:=⟨p,rfl⟩
 subst qzx;obtain⟨lf,yS⟩:∃ lf,lf=c9 U.length (fun i=>((un U (i:Int)).an.length:Int)) U.length:=⟨_,rfl⟩
 have rR:lf.length=U.length:=by rw[yS,qc2]
 have qxF:∀ i:Nat,i<U.length->dg lf i=(un U i).an.length:=fun i hi=>by
  rw[yS];unfold dg;rw[Int.toNat_natCast,qmD hi hi]
 have bb:Sat w0 w (OS ao 355 (.slice none 0 0) ([]:List Item)::Ad p12 352 [(.slice none 0 0)]::OS aa 3 ov (replicate k inf)::Ad p7 22 [ov]::[OS aa 3 lv lf]):=by
  have g1:Sat w0 w [Ad p12 352 [.slice none 0 0],OS aa 3 lv lf,OS aa 3 ov (replicate k inf),Ad p7 22 [ov]]:=by rw[yS];exact hw
  exact(g1.nil (T:=ao) (e:=355)).bG
 clear hw;have hw:=bb;clear bb;obtain⟨S,hS⟩:∃ S,S=BF t.vars z:=⟨_,rfl⟩
 refine cd [14,15,63,79] (G:=Nat) (fun j=>[(63,.int .i64 j)]) (fun j w=>j<=z.length/\∃ qv Q D,CM U S k D Q/\Av ao.dflt eJ Q/\Q.length<=j/\(∀ v:Nat,v<j->dg D (aV t.vars v+z.getD v aa.dflt)<=0)/\Sat w0 w (OS ao 355 qv Q::Ad p12 352 [qv]::OS aa 3 ov D::Ad p7 22 [ov]::[OS aa 3 lv lf])) (fun j=>z.length-j) 0 (fun _=>rfl) ⟨rfl,trivial⟩ ⟨zero_le _,_,_,_,CM.init U S k,fun i h0 h1=>absurd h1 (not_lt_zero _),Nat.le_refl _,fun v hv=>absurd hv (not_lt_zero _),hw⟩ ?_;clear hw;rintro σ2 j w ⟨hj,qv,Q,D,hI,hQ,zy,cu,hw⟩;refine ab ?_;refine ai ?_ ?_<;>intro h1
 ·have cJ:j<z.length:=by omega
  have hjv:j<t.vars.length:=by omega
  obtain⟨g0,g1,g2⟩:=qhG hg.pos (fun i hi=>(hg.gd i hi).2) eW hjv;have hz:=br.2 j cJ;have qK:=hg.gd j hjv;have uT:=qf4 hg.pos hjv hz.1 hz.2;have ot:=wJ t.vars t.vars.length;refine ab ?_;refine xq (cs:=[.pointer (some p7),.pointer (some p12)]) rfl rfl (qd8 hI.dl (by rw[g0,hfN];exact uT) hQ om hw) ?_;clear hw;rintro _ w ⟨rfl,qv2,Q2,hQ2,qy,hw⟩;refine⟨_,rfl,?_⟩;rw[g0]at qy hw;have zz:0<=aV t.vars j+z.getD j aa.dflt/\aV t.vars j+z.getD j aa.dflt<(k:Int):=by rw[hfN];exact uT
  have rZ:=(hI.rch zz (Int.le_refl 0) (.start (by rw[hS];exact⟨j,hjv,rfl⟩))).perm qy;have nW:=qi1 D Q (aV t.vars j+z.getD j aa.dflt) 0;have hl3:=qy.length_eq;refine ab ?_;refine⟨j+1,⟨rfl,trivial⟩,aH,⟨by omega,qv2,Q2,_,rZ,hQ2,by omega,fun v hv=>?_,hw⟩,by omega⟩;by_cases e:v=j
  ·rw[e];exact qqE hI.dl zz
  ·have hvv:v<t.vars.length:=by omega
   have h5:=br.2 v om;have h6:=qf4 hg.pos hvv h5.1 h5.2;exact Int.le_trans (qnj hI.dl zz h6.1) (cu v om)
 have iR:j=z.length:=by omega
 rw[iR]at cu zy;clear iR h1 hj;have qz9:=qmr U;have qxG:∀ g,S g->0<=g/\g<(k:Int)/\dg D g<=0:=fun g oy=>by
  rw[hS]at oy;obtain⟨v,hv,rfl⟩:=oy;have h5:=br.2 v om;have h6:=qf4 hg.pos hv h5.1 h5.2;rw[<-hfN]at h6;exact⟨h6.1,h6.2,cu v om⟩
 clear cu;refine ab ?_;refine cd [17,17,85,118] (G:=Nat) (fun j=>[(85,.int .i64 j)]) (fun j w=>j<=(cM U).length/\∃ qv Q D,CM U S k D Q/\Av ao.dflt eJ Q/\Q.length<=z.length+j/\(∀ g,S g->0<=g/\g<(k:Int)/\dg D g<=0)/\(∀ i:Nat,i<U.length->(i:Int)∈(cM U).take j->dg D (un U i).makes<=(un U i).cost)/\Sat w0 w (OS ao 355 qv Q::Ad p12 352 [qv]::OS aa 3 ov D::Ad p7 22 [ov]::[OS aa 3 lv lf])) (fun j=>(cM U).length-j) 0 (fun _=>rfl) ⟨rfl,trivial⟩ ⟨zero_le _,qv,Q,D,hI,hQ,zy,qxG,fun i _ h=>by simp at h,hw⟩ ?_;clear hw hI hQ zy qxG;clear qv Q D;rintro σ3 j w ⟨hj,qv,Q,D,hI,hQ,zy,cu,ub,hw⟩;refine ab ?_;refine ai ?_ ?_<;>intro h1
 ·have cJ:j<(cM U).length:=by omega
  obtain⟨i,iJ,cI,gY⟩:=qmq.1 (bY aa.dflt cJ);have hu:=hU i cI;have qzy:=hu.op;have zA:=hu.cost;have wo:=hu.makes;have q6:((cM U).getD j aa.dflt).toNat=i:=by rw[iJ];rfl
  have hb0:0<=(cM U).getD j aa.dflt/\(cM U).getD j aa.dflt<(us.length:Int):=by rw[iJ,iw];omega
  refine ab ?_;refine sq rfl (qfj (κ:=qm) (q:=(az iO us ((cM U).getD j aa.dflt).toNat).op) rfl rfl) ?_;refine ab ?_;refine fP (pl [0,1,2,3,4,5,6,7,8,9,10,11,12,13,14,15,16,17] []) hw kr ?_;clear hw;intro w hw;refine ab ?_;have qT:=lZ.makes i cI;have mE:=lZ.cost i cI;refine xq (cs:=[.pointer (some p7),.pointer (some p12)]) rfl rfl (qd8 hI.dl (by rw[q6,wo];exact qT) hQ om hw) ?_;clear hw;rintro _ w ⟨rfl,qv2,Q2,hQ2,qy,hw⟩;refine⟨_,rfl,?_⟩;rw[q6,wo,zA]at qy hw;have zm:Be U S (un U i).makes (un U i).cost:=by
   have h5:=Be.gK (U:=U) (S:=S) (v:=fun _=>0) (m:=0) cI (Int.le_refl 0) (fun n hn=>by rw[gY]at hn;simp at hn) (fun n hn=>by rw[gY]at hn;simp at hn)
   rwa[Int.add_zero]at h5
  have rZ:=(hI.rch qT mE.1 zm).perm qy;have nW:=qi1 D Q (un U i).makes (un U i).cost;have hl3:=qy.length_eq;refine ab ?_;refine⟨j+1,⟨rfl,trivial⟩,aH,⟨by omega,qv2,Q2,_,rZ,hQ2,by omega,fun g oy => ?_,fun i' eO hm=>?_,hw⟩,by omega⟩
  ·obtain⟨b1,b2,b3⟩:=cu g oy
   exact⟨b1,b2,Int.le_trans (qnj hI.dl qT b1) b3⟩
  ·rw[dJ aa.dflt cJ,iJ]at hm
   rcases mem_append.1 hm with hm|hm
   ·exact Int.le_trans (qnj hI.dl qT (lZ.makes i' eO).1) (ub i' eO hm)
   ·have e:i'=i:=by have:=mem_singleton.1 hm;omega
    rw[e];exact qqE hI.dl qT
 have iR:j=(cM U).length:=by omega
 rw[iR]at zy ub;clear iR h1 hj;rw[take_length]at ub;refine nV ?_;clear hw;intro s w hw;obtain⟨dv,hdv⟩:∃ dv,dv=s:=⟨s,rfl⟩
 subst hdv;have hR0:=hI.start rR qxF (fun i hi=>(lZ.cost i hi).1) (fun i hi hn=>ub i hi (qmq.2 ⟨i,rfl,hi,hn⟩));have bb:Sat w0 w (OS ao 355 qv Q::Ad p12 352 [qv]::OS aa 3 ov D::Ad p7 22 [ov]::[OS aa 3 lv lf,OS ah 4 dv (pB [] k)]):=by
  rw[Int.toNat_natCast,<-qvu]at hw;exact hw.bG
 clear hw;have hw:=bb;clear bb;refine dj [19,20,22,22,124,204] (G:=List Int) (H:=List Item) (fun _ _=>[]) (fun dn Q w=>∃ qv D lf m f,RI U S k D lf dn Q m f (fun _=>True)/\Av ao.dflt eJ Q/\dn.Nodup/\Q.length<=z.length+U.length+dn.length*U.length/\(∀ g,S g->0<=g/\g<(k:Int)/\dg D g<=0)/\Sat w0 w (OS ao 355 qv Q::Ad p12 352 [qv]::OS aa 3 ov D::Ad p7 22 [ov]::[OS aa 3 lv lf,OS ah 4 dv (pB dn k)])) (fun dn Q=>(k-dn.length)*(U.length+1)+Q.length) [] Q (fun _ _=>rfl) trivial ⟨qv,D,lf,0,0,hR0,hQ,nodup_nil,by simp;omega,cu,hw⟩ ?_;clear hw hI hR0 hQ zy cu ub qxF rR yS;clear qv Q D lf;rintro σ4 dn Q w ⟨qv,D,lf,m,f,hI,hQ,tk,zy,cu,hw⟩;have jZ:=qcO tk fun g oy=>(hI.set g oy).1;have hmul:=Nat.mul_le_mul (show dn.length<=4096 by omega) xl;refine ab ?_;refine aJ rfl (qff (aM (s:=qv) hw)) ?_;rintro _ w' ⟨rfl,aj⟩;refine aC ?_;clear aj hw;intro hw;refine ab ?_;refine ai ?_ ?_<;>intro h1
 ·have jY:0<Q.length:=by omega
  refine ab ?_;refine aJ rfl (qhn hQ jY om hw) ?_;clear hw;rintro _ w ⟨x,qv2,ys,rfl,vm,hp,cV,hw⟩;refine⟨_,rfl,?_⟩;have iP:=hp.length_eq;rw[length_cons]at iP;have uf:=hI.perm hp.symm;obtain⟨⟨x0,x1⟩,x2,x3,x4⟩:=uf.kZ x mem_cons_self;have qAa:=qvt dn k;have sG:=hI.m0;have e3:inf=1125899906842624:=rfl;refine cK ?_;clear hw;intro p w hw;obtain⟨p19,qzz⟩:∃ p19,p19=p:=⟨p,rfl⟩
  subst qzz;rw[qwb x0 x1];by_cases hx:x.state∈dn
  ·have hd:decide (x.state∈dn)=true:=decide_eq_true hx
   simp only[hd];refine ab ?_;exact⟨dn,ys,trivial,aH,⟨qv2,D,lf,m,f,uf.skip hx,vm,tk,by omega,cu,hw.tail⟩,by omega⟩
  have hd:decide (x.state∈dn)=false:=decide_eq_false hx;simp only[hd]
  obtain⟨hT,hTd,_,hT0,hT1⟩:=uf.take lZ hx (fun y hy=>by
   have h5:eJ y x=false:=cV y (hp.mem_iff.2 (mem_cons_of_mem _ hy))
   exact Int.not_lt.1 (of_decide_eq_false h5))
  have qxH:(x.state::dn).Nodup:=nodup_cons.2 ⟨hx,tk⟩;have qzA:=qcO qxH fun g oy=>(hT.set g oy).1;rw[length_cons]at qzA;have hnl:=qmp U x.state;have dp:RS aa w0 (cU ss x.state.toNat) (cT U x.state):=by
   have h5:=fe x.state.toNat om
   rwa[Int.toNat_of_nonneg x0]at h5
  refine fy ?_;clear hw;intro w hw;refine nK ?_;clear hw;intro w hw;rw[qvv x0 x1]at hw;refine ab ?_;have bb:Sat w0 w (OS ao 355 qv2 ys::Ad p12 352 [qv2]::OS aa 3 ov D::Ad p7 22 [ov]::[OS aa 3 lv lf,OS ah 4 dv (pB (x.state::dn) k),Ad p19 355 [.int .i64 x.bf,.int .i64 x.state]]):=hw.bG;clear hw;have hw:=bb;clear bb;have xI:=hT.okc (ok':=fun i=>x.state∉(un U i).an\/(i:Int)∈(cT U x.state).take 0) (fun i=>by simp);refine cd [22,22,155,204] (G:=Nat) (fun j=>[(155,.int .i64 j)]) (fun j w=>j<=(cT U x.state).length/\∃ qv Q D lf,RI U S k D lf (x.state::dn) Q x.bf x.state (fun i=>x.state∉(un U i).an\/(i:Int)∈(cT U x.state).take j)/\Av ao.dflt eJ Q/\Q.length<=ys.length+j/\dg D x.state=x.bf/\(∀ g,S g->0<=g/\g<(k:Int)/\dg D g<=0)/\Sat w0 w (OS ao 355 qv Q::Ad p12 352 [qv]::OS aa 3 ov D::Ad p7 22 [ov]::[OS aa 3 lv lf,OS ah 4 dv (pB (x.state::dn) k),Ad p19 355 [.int .i64 x.bf,.int .i64 x.state]])) (fun j=>(cT U x.state).length-j) 0 (fun _=>rfl) ⟨rfl,trivial⟩ ⟨zero_le _,qv2,ys,D,lf,xI,vm,Nat.le_refl _,hTd,cu,hw⟩ ?_;clear hw hI uf hT xI hQ hp cV hTd cu x2 vm;rintro σ5 j w ⟨hj,qv,Q5,D,lf,hI,hQ,hQ5,hDx,cu,hw⟩;have rR:=hI.ll;refine ab ?_;refine ai ?_ ?_<;>intro h2
  ·have cJ:j<(cT U x.state).length:=by omega
   obtain⟨i,iJ,cI,gY⟩:=qmY.1 (bY aa.dflt cJ);have hu:=hU i cI;have qzy:=hu.op;have zA:=hu.cost;have wo:=hu.makes;have q6:((cT U x.state).getD j aa.dflt).toNat=i:=by rw[iJ];rfl
   have hb0:0<=(cT U x.state).getD j aa.dflt/\(cT U x.state).getD j aa.dflt<(us.length:Int):=by rw[iJ,iw];omega
   have rV:(cT U x.state).getD j aa.dflt<(lf.length:Int):=by rw[rR,<-iw];exact hb0.2
   have jR:¬(x.state∉(un U i).an\/(i:Int)∈(cT U x.state).take j):=by
    rintro (h5|h5)
    ·exact h5 gY
    ·obtain⟨i2,oh,sE⟩:=getElem_of_mem h5
     rw[getElem_take]at sE;rw[length_take]at oh;have h6:=pairwise_iff_getElem.1 (qoa U x.state) i2 j om cJ om;rw[getD_at cJ]at iJ;exact h6 (by rw[sE,iJ])
   obtain⟨hl1,nW⟩:=hI.rQ i cI jR;have hl3:=qwi dn (un U i).an;have hl5:=qp9 hx (lZ.nd i cI) gY;have hl4:=hu.an.bo;have hlv:lf.getD ((cT U x.state).getD j aa.dflt).toNat aa.dflt=dg lf i:=by rw[q6];rfl
   have nO:1<=dg lf i/\dg lf i<=9223372036854775807:=by omega
   have fN:(lf.set ((cT U x.state).getD j aa.dflt).toNat (lf.getD ((cT U x.state).getD j aa.dflt).toNat aa.dflt-1))=lf.set i (dg lf i-1):=by rw[q6];rfl
   have zt:(lf.set ((cT U x.state).getD j aa.dflt).toNat (lf.getD ((cT U x.state).getD j aa.dflt).toNat aa.dflt-1)).length=lf.length:=by simp
   have gU:(lf.set ((cT U x.state).getD j aa.dflt).toNat (lf.getD ((cT U x.state).getD j aa.dflt).toNat aa.dflt-1)).getD ((cT U x.state).getD j aa.dflt).toNat aa.dflt=dg lf i-1:=by
    rw[fN,q6];have:i<lf.length:=by omega
    simp[List.getD,this]
   have qxI:∀ i':Nat,(x.state∉(un U i').an\/(i':Int)∈(cT U x.state).take j)\/i'=i↔x.state∉(un U i').an\/(i':Int)∈(cT U x.state).take (j+1):=fun i'=>by
    rw[dJ aa.dflt cJ,iJ];simp only[mem_append,mem_singleton];constructor
    ·rintro ((h|h)|h)
     ·exact .inl h
     ·exact .inr (.inl h)
     ·exact .inr (.inr (by rw[h]))
    ·rintro (h|h|h)
     ·exact .inl (.inl h)
     ·exact .inl (.inr h)
     ·exact .inr om
   refine fy ?_;clear hw;intro w hw;rw[gU];rw[fN]at hw;by_cases ml:dg lf i-1=0
   ·have o9:decide (dg lf i-1=0)=true:=decide_eq_true ml
    try simp only[o9];refine sg1 ?_
    refine ab ?_;refine sq rfl (qfj (κ:=qm) (q:=(az iO us ((cT U x.state).getD j aa.dflt).toNat).op) rfl rfl) ?_;refine ab ?_;have qT:=lZ.makes i cI;have mE:=lZ.cost i cI;have hcu:(az iO us ((cT U x.state).getD j aa.dflt).toNat).cost=(un U i).cost:=by rw[q6];exact zA
    have hmu:(az iO us ((cT U x.state).getD j aa.dflt).toNat).makes=(un U i).makes:=by rw[q6];exact wo
    refine fP (pl [0,1,2,3,4,5,6,7,8,9,10,11,12,13,14,15,16,17,18,19,20] []) hw kr ?_;clear hw;intro w hw;refine ab ?_;refine xq (cs:=[.pointer (some p7),.pointer (some p12)]) rfl rfl (qd8 hI.dl (by rw[hmu];exact qT) hQ om hw) ?_;clear hw;rintro _ w ⟨rfl,qv6,Q6,hQ6,hp6,hw⟩;refine⟨_,rfl,?_⟩;rw[hmu,hcu]at hp6 hw;have hfd:=hI.qw8 cI jR ml (lZ.an i cI);have rZ:=(hI.rch (v:=x.bf+(un U i).cost) qT om hfd).perm hp6;have rL:=qqE (v:=x.bf+(un U i).cost) hI.dl qT;have rJ:=qs8 (v:=x.bf+(un U i).cost) hI.dl qT x0 hDx om;have hl7:=qi1 D Q5 (un U i).makes (x.bf+(un U i).cost);have hl8:=hp6.length_eq;have hI3:=(rZ.count cI jR (.inr rL) rJ).okc qxI;refine ab ?_;refine⟨j+1,⟨rfl,trivial⟩,aH,⟨by omega,qv6,Q6,_,_,hI3,hQ6,by omega,rJ,fun g oy => ?_,hw⟩,by omega⟩;obtain⟨b1,b2,b3⟩:=cu g oy;exact⟨b1,b2,Int.le_trans (qnj hI.dl qT b1) b3⟩
   ·have o9:decide (dg lf i-1=0)=false:=decide_eq_false ml
    try simp only[o9];refine sg1 ?_
    refine ab ?_;have hI3:=(hI.count cI jR (.inl ml) hDx).okc qxI;exact⟨j+1,⟨rfl,trivial⟩,aH,⟨by omega,qv,Q5,D,_,hI3,hQ,by omega,hDx,cu,hw⟩,by omega⟩
  have iR:j=(cT U x.state).length:=by omega
  rw[iR]at hI hQ5;rw[take_length]at hI
  have rZ:=hI.okc (ok':=fun _=>True) (fun i=>⟨fun _=>trivial,fun _=>by
   by_cases h5:x.state∈(un U i).an
   ·by_cases h6:i<U.length
    ·exact .inr (qmY.2 ⟨i,rfl,h6,h5⟩)
    ·have h7:un U i=dUn:=by unfold un;simp[List.getD,Nat.le_of_not_lt h6]
     rw[h7]at h5;simp[dUn]at h5
   ·exact .inl h5⟩)
  refine ab ?_;have x9:=succ_mul (k-(dn.length+1)) (U.length+1);rw[show (k-(dn.length+1)).succ=k-dn.length by omega]at x9;refine⟨x.state::dn,Q5,trivial,aH,⟨qv,D,lf,x.bf,x.state,rZ,hQ,qxH,?_,cu,hw.bG⟩,?_⟩
  ·rw[length_cons,succ_mul];omega
  ·rw[length_cons];omega
 have hQ0:Q=[]:=eq_nil_of_length_eq_zero om;rw[hQ0]at hI;refine ab ?_;refine aW (v:=ov) rfl rfl ⟨ov,D,rfl,⟨by rw[hI.dl,hNe],by rw[<-hNe];exact hI.cC,?_,?_⟩,hw.aT⟩
 ·rw[<-hNe,<-hUe,<-hS];exact hI.mG
 ·rw[<-hNe,<-hUe,<-hS]
  exact hI.fin lZ cu
end Go.Proofs.YtmapkjoefdgjfaaGreatDoor
