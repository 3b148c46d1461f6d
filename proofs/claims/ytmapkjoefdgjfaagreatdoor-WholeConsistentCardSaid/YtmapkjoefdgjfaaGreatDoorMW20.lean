/- Several texts. -/
import Derived.Test.YtmapkjoefdgjfaaGreatDoorMW19
set_option linter.unusedSimpArgs false
set_option linter.unusedVariables false
set_option maxRecDepth 8000
set_option maxHeartbeats 16000000
open List Nat
namespace Go.Proofs.YtmapkjoefdgjfaaGreatDoor
section
open Go.Sl Go
attribute [local irreducible] vc opsW opsD opV opW PureV ReadV Thn Blk
theorem qhG {vars:List Int}(hp:∀ x∈vars,1<=x) (hd:∀ i,i<vars.length->vars.getD i aa.dflt<=64) (eW:vars.length<=64) {i:Nat}(h:i<vars.length):(cw vars vars.length).getD i aa.dflt=aV vars i/\0<=aV vars i/\aV vars i<=4096:=by
 have h1:=qcn hp (b:=i) om;have h2:=qcZ hd (b:=i) om;exact⟨quC h,h1,by omega⟩
theorem qdm {w0:World}{pr:Addr}{vars:List Int}{c0 c1 c2 c3 fv c5 c6 c7 c8:Value}{f:Fact}(hr:AD w0 pr [c0,c1,c2,c3,fv,c5,c6,c7,c8]) (hf:RS aa w0 fv (cw vars vars.length)) (hp:∀ x∈vars,1<=x) (hd:∀ i,i<vars.length->vars.getD i aa.dflt<=64) (eW:vars.length<=64) (hx:Ao vars f) :
  Calls Tryz.prog 75 #[.pointer (some pr),.agg #[.int .i64 f.var,.int .i64 f.val]] w0 fun e w'=>e=.returned (.int .i64 (cz vars f))/\Sat w0 w' []:=by
 obtain⟨x0,x1,x2,x3⟩:=hx;have hv:f.var.toNat<vars.length:=by omega
 obtain⟨g0,g1,g2⟩:=qhG hp hd eW hv;have g3:=hd _ hv;have hl:=wJ vars vars.length;have hw:=Sat.start w0;refine bn (args:=[.pointer (some pr),.agg #[.int .i64 f.var,.int .i64 f.val]]) mixed Tryz.func75 ?_;refine db ?_;intro p w hw;exact aW (v:=.int .i64 ((cw vars vars.length).getD f.var.toNat aa.dflt+f.val)) rfl rfl ⟨by rw[g0];rfl,hw.aT⟩
def kW (vars:List Int) (Ls:List (List Fact)) (i:Nat):List Int:=(Ls.take i).foldl (fun acc l=>bp vars l acc) []
theorem qpY {vars:List Int}{Ls:List (List Fact)}{i:Nat}(h:i<Ls.length):kW vars Ls (i+1)=bp vars (Ls.getD i []) (kW vars Ls i):=by
 unfold kW;rw[dJ [] h,foldl_append];rfl
theorem qdX {vars:List Int}{acc:List Int}{l:List Fact}{k:Nat}(h:k<l.length):bp vars (l.take (k+1)) acc=lG (bp vars (l.take k) acc) (cz vars (l.getD k aq.dflt)):=by
 rw[dJ aq.dflt h,qdR]
theorem qhH {α:Type}{T:Ty α}{xs:List α}{x:α}{i:Nat}(h:i<xs.length):az T (xs++[x]) i=az T xs i:=by
 rw[n0,n0];simp[getD_eq_getElem?_getD,getElem?_append_left h]
theorem qhI {α:Type}{T:Ty α}{xs:List α}{x:α}{i:Nat}(h:i=xs.length):az T (xs++[x]) i=x:=by
 rw[n0];subst h;simp[getD_eq_getElem?_getD]
theorem BJ.snoc {us:List C3}{U:List Un}{v:C3}{u:Un}{w:World}(h:BJ us U w) (hl:us.length=U.length) (hv:Dy w v u):BJ (us++[v]) (U++[u]) w:=fun i hi=>by
 by_cases e:i<U.length
 ·rw[qhH om,qfY e];exact h i e
 ·have e2:i=U.length:=by rw[length_append,length_singleton]at hi;omega
  rw[qhI om,e2,qfZ];exact hv
theorem qrE {w0 w:World}{Γ:List HP}{pr:Addr}{c0 c1 c2 c3 fv uv nv frv v1 v2:Value}{us:List C3}{ss:List Value}{U:List Un}{vars:List Int}{N:Nat}{op dL cost makes:Int}{l1 l2:List Fact}
  (hp:∀ x∈vars,1<=x) (hd:∀ i,i<vars.length->vars.getD i aa.dflt<=64) (eW:vars.length<=64) (hN:(N:Int)=aV vars vars.length) (hN2:N<=4096) (xl:U.length<=1048576)
  (h1:RS aq w0 v1 l1) (h2:RS aq w0 v2 l2) (k1:∀ f∈l1,Ao vars f) (k2:∀ f∈l2,Ao vars f) (n1:l1.length<=64) (n2:l2.length<=64) (iw:us.length=U.length)
  (hw:Sat w0 w (Ab aa 3 ss (et U N)::OS al 22 nv ss::Ad pr 127 [c0,c1,c2,c3,fv,.int .i64 (N:Int),uv,nv,frv]::OS aa 3 fv (cw vars vars.length)::OS iO 131 uv us::Aj (BJ us U)::OS aa 3 frv (cM U)::Γ)) :
  Calls Tryz.prog 74 #[.pointer (some pr),.agg #[.int .i64 op,.int .i64 dL,.int .i64 cost,.int .i64 makes,.slice none 0 0],v1,v2] w fun e w'=>e=.returned (.tuple #[])/\∃ uv' frv' us' ss',us'.length=(U++[(Un.mk op dL cost makes (bp vars l2 (bp vars l1 [])))]).length /\
   Sat w0 w' (Ab aa 3 ss' (et (U++[(Un.mk op dL cost makes (bp vars l2 (bp vars l1 [])))]) N)::OS al 22 nv ss'::Ad pr 127 [c0,c1,c2,c3,fv,.int .i64 (N:Int),uv',nv,frv']::OS aa 3 fv (cw vars vars.length)::OS iO 131 uv' us'::Aj (BJ us' (U++[(Un.mk op dL cost makes (bp vars l2 (bp vars l1 [])))]))::OS aa 3 frv' (cM (U++[(Un.mk op dL cost makes (bp vars l2 (bp vars l1 [])))]))::Γ):=by
 have jX:=hw.bw;refine bn (args:=[.pointer (some pr),.agg #[.int .i64 op,.int .i64 dL,.int .i64 cost,.int .i64 makes,.slice none 0 0],v1,v2]) mixed Tryz.func74 ?_;refine cK ?_;intro p w hw;obtain⟨p5,hp5⟩:∃ p5,p5=p:=⟨p,rfl⟩
 subst hp5;have e1:=h1.dc;have e2:=h2.dc;have s1:v1.cells.size=1:=by rw[<-Array.length_toList,e1];rfl
 have s2:v2.cells.size=1:=by rw[<-Array.length_toList,e2];rfl
 refine qa6 (T:=al) [v1,v2] [v1,v2] rfl (by simp only[flatMap_cons,e1,e2,flatMap_nil];rfl) (by simp[s1,s2]) rfl rfl (by decide) (by decide) (by decide) hw ?_;clear hw;intro lv w hw;obtain⟨Ls,yQ⟩:∃ Ls:List (List Fact),Ls=[l1,l2]:=⟨_,rfl⟩
 have hLl:Ls.length=2:=by rw[yQ];rfl
 have dp:∀ i,i<2->RS aq w0 (cU [v1,v2] i) (Ls.getD i [])/\(∀ f∈Ls.getD i [],Ao vars f)/\(Ls.getD i []).length<=64:=fun i hi=>by
  rw[yQ]
  match i,hi with
  | 0,_=>exact⟨by rw[ng];exact h1,k1,n1⟩
  | 1,_=>exact⟨by rw[ng];exact h2,k2,n2⟩
 have nt:kW vars Ls 2=bp vars l2 (bp vars l1 []):=by rw[yQ];rfl
 have bb:Sat w0 w (OS aa 3 (.slice none 0 0) (kW vars Ls 0)::Ad p5 131 [.int .i64 op,.int .i64 dL,.int .i64 cost,.int .i64 makes,.slice none 0 0]::OS al 23 lv [v1,v2]::Ab aa 3 ss (et U N)::OS al 22 nv ss::Ad pr 127 [c0,c1,c2,c3,fv,.int .i64 (N:Int),uv,nv,frv]::OS aa 3 fv (cw vars vars.length)::OS iO 131 uv us::Aj (BJ us U)::OS aa 3 frv (cM U)::Γ):=Sat.nil (T:=aa) (e:=3) hw.swap;clear hw;have hw:=bb;clear bb;refine ab ?_;refine dj [9,9,11,12,20,45] (G:=Nat) (H:=Value) (fun i _=>[(20,.int .i64 i)]) (fun i nd w=>i<=2/\(kW vars Ls i).length<=64*i/\Sat w0 w (OS aa 3 nd (kW vars Ls i)::Ad p5 131 [.int .i64 op,.int .i64 dL,.int .i64 cost,.int .i64 makes,nd]::OS al 23 lv [v1,v2]::Ab aa 3 ss (et U N)::OS al 22 nv ss::Ad pr 127 [c0,c1,c2,c3,fv,.int .i64 (N:Int),uv,nv,frv]::OS aa 3 fv (cw vars vars.length)::OS iO 131 uv us::Aj (BJ us U)::OS aa 3 frv (cM U)::Γ)) (fun i _=>2-i) 0 (.slice none 0 0) (fun _ _=>rfl) ⟨rfl,trivial⟩ ⟨by omega,Nat.le_refl 0,hw⟩ ?_;clear hw;rintro σ i nd w ⟨hi,uw,hw⟩;have pM:[v1,v2].length=2:=rfl;refine ab ?_;refine ai ?_ ?_<;>intro g1
 ·have oh:i<2:=by omega
  obtain⟨r1,r2,r3⟩:=dp i oh;refine ab ?_;obtain⟨l,hl⟩:∃ l,l=Ls.getD i []:=⟨_,rfl⟩
  rw[<-hl]at r1 r2 r3;have jv:(Ls.getD i []).length=l.length:=by rw[hl]
  refine dj [11,12,26,44] (G:=Nat) (H:=Value) (fun k _=>[(26,.int .i64 k)]) (fun k nd w=>k<=l.length/\(bp vars (l.take k) (kW vars Ls i)).length<=64*i+k/\Sat w0 w (OS aa 3 nd (bp vars (l.take k) (kW vars Ls i))::Ad p5 131 [.int .i64 op,.int .i64 dL,.int .i64 cost,.int .i64 makes,nd]::OS al 23 lv [v1,v2]::Ab aa 3 ss (et U N)::OS al 22 nv ss::Ad pr 127 [c0,c1,c2,c3,fv,.int .i64 (N:Int),uv,nv,frv]::OS aa 3 fv (cw vars vars.length)::OS iO 131 uv us::Aj (BJ us U)::OS aa 3 frv (cM U)::Γ)) (fun k _=>l.length-k) 0 nd (fun _ _=>rfl) ⟨rfl,trivial⟩ ⟨by omega,by simpa [bp] using uw,hw⟩ ?_;clear hw;rintro σ1 k nd1 w ⟨hk,aK,hw⟩;refine ab ?_;refine ai ?_ ?_<;>intro g2
  ·have gW:k<l.length:=by omega
   have hfk:=r2 _ (bY aq.dflt gW);refine cK ?_;intro p w hw;refine aJ rfl (qdm (f:=l.getD k aq.dflt) (mM (p:=pr) hw) (aM (s:=fv) hw) hp hd eW hfk) ?_;rintro _ w' ⟨rfl,aj⟩;refine aC ?_;clear aj hw;intro hw;refine ab ?_;refine aJ rfl (su (aM (s:=nd1) hw)) ?_;rintro _ w' ⟨rfl,aj⟩;refine aC ?_;clear aj hw;intro hw;obtain⟨q,hq⟩:∃ q,q=decide (cz vars (l.getD k aq.dflt)∈bp vars (l.take k) (kW vars Ls i)):=⟨_,rfl⟩
   rw[<-hq];have hna:=qse (bp vars (l.take k) (kW vars Ls i)) (cz vars (l.getD k aq.dflt));rw[<-qdX gW]at hna;cases q
   ·have gY:=of_decide_eq_false hq.symm
    repeat (first|refine bV ?_|(refine fL ?_;clear hw;intro w hw)|(refine cB ?_;clear hw;intro s w hw))
    refine⟨k+1,s,⟨rfl,trivial⟩,aH,⟨by omega,by omega,?_⟩,by omega⟩;rw[qdX gW,lG,if_neg gY];exact hw.tail.tail
   ·have gY:=of_decide_eq_true hq.symm
    refine ab ?_;exact⟨k+1,nd1,⟨rfl,trivial⟩,aH,⟨by omega,by omega,by rw[qdX gW,lG,if_pos gY];exact hw.tail⟩,by omega⟩
  have cH:k=l.length:=by omega
  subst cH;rw[take_of_length_le (Nat.le_refl _),hl,<-qpY om]at hw aK;refine ab ?_;exact⟨i+1,nd1,⟨rfl,trivial⟩,aH,⟨by omega,by omega,hw⟩,by omega⟩
 have iJ:i=2:=by omega
 subst iJ;refine ab ?_;rw[nt]at hw uw;obtain⟨u,hu⟩:∃ u:Un,u=(Un.mk op dL cost makes (bp vars l2 (bp vars l1 []))):=⟨_,rfl⟩
 have iv:u.an=bp vars l2 (bp vars l1 []):=by rw[hu]
 rw[<-hu];rw[<-iv]at hw uw;have qzQ:(kW vars Ls 2).length=u.an.length:=by rw[nt,iv]
 have qyL:u.an.Nodup:=by rw[iv];exact qb9 (qb9 nodup_nil _) _
 have qw3:∀ n∈u.an,0<=n/\n<N:=fun n hn=>by
  rw[iv]at hn;rw[hN];rcases uy.1 hn with hn|⟨f,hf,rfl⟩
  ·rcases uy.1 hn with hn|⟨f,hf,rfl⟩
   ·simp at hn
   ·exact rz hp (k1 f hf)
  ·exact rz hp (k2 f hf)
 rw[<-qo5 U u N]at hw;refine dj [15,15,54,74] (G:=Nat) (H:=List Value) (fun j _=>[(54,.int .i64 j)]) (fun j ss w=>j<=u.an.length/\ss.length=N/\Sat w0 w (Ab aa 3 ss (ic U u j N)::OS al 22 nv ss::OS aa 3 nd u.an::Ad p5 131 [.int .i64 op,.int .i64 dL,.int .i64 cost,.int .i64 makes,nd]::OS al 23 lv [v1,v2]::Ad pr 127 [c0,c1,c2,c3,fv,.int .i64 (N:Int),uv,nv,frv]::OS aa 3 fv (cw vars vars.length)::OS iO 131 uv us::Aj (BJ us U)::OS aa 3 frv (cM U)::Γ)) (fun j _=>u.an.length-j) 0 ss (fun _ _=>rfl) ⟨rfl,trivial⟩ ⟨zero_le _,by rw[jX,qif],?_⟩ ?_
 ·exact(hw.focus 4 rfl).focus 4 rfl
 clear hw;rintro σ1 j ss w ⟨hj,iL,hw⟩;refine ab ?_;refine ai ?_ ?_<;>intro g3
 ·have cJ:j<u.an.length:=by omega
  have hnr:=qw3 _ (bY aa.dflt cJ);refine ab ?_;have hi:(u.an.getD j aa.dflt).toNat<(ic U u j N).length:=by rw[qmo];omega
  replace hw:=hw.fb hi;have iI:=qlb U u j N (u.an.getD j aa.dflt).toNat;refine fP (pl [0,1,2,3,4,5,6,7,8,9,10,11,12,13] (.chk 3::.chk 8::.chk 11::pl [14] (.chk 3::pl [15,16] []))) hw kr ?_;clear hw;intro w hw
  repeat (first|refine bV ?_|(refine nL ?_;clear hw;intro w hw)|(refine cB ?_;clear hw;intro s w hw))
  replace hw:=Sat.lS hi (by rw[iL,qmo]) hw.tail;rw[iw,qr9 cJ qyL qw3]at hw;exact⟨j+1,_,⟨rfl,trivial⟩,aH,⟨by omega,by rw[length_set];exact iL,hw⟩,by omega⟩
 have iR:j=u.an.length:=by omega
 subst iR;rw[qr8]at hw;have ot:=qmr U;have ond:=(aM (s:=nd) hw).one;obtain⟨uu,huu⟩:∃ uu:C3,uu=⟨op,dL,cost,makes,nd⟩:=⟨_,rfl⟩
 refine ab ?_;refine ai ?_ ?_<;>intro g4
 ·have ew:u.an=[]:=eq_nil_of_length_eq_zero om
  have kA:cM (U++[u])=cM U++[(us.length:Int)]:=by rw[qjC,if_pos ew,iw]
  repeat (first|refine bV ?_|(refine fL ?_;clear hw;intro w hw)|(refine cB ?_;clear hw;intro s w hw))
  rw[<-kA]at hw;refine fP (pl [0,1,2,3,4,5,6] (.chk 4::pl [7,8,9,10] [])) hw kr ?_;clear hw;intro w hw;refine ab ?_;refine jh iO (x1:=uu) rfl (by rw[huu];rfl) rfl (le_of_ble_eq_true rfl) (zero_lt_succ _) hw ?_;clear hw;intro sl w hw;have huo:∀ v∈iO.enc uu,v.oneCell'=true:=by
   rw[huu];intro v hv;simp only[iO,mem_cons,not_mem_nil,or_false]at hv;rcases hv with rfl|rfl|rfl|rfl|rfl
   ·rfl
   ·rfl
   ·rfl
   ·rfl
   ·exact ond
  refine ab ?_;refine rT (s:=uv) (s2:=sl) inferInstance rfl rfl (aM hw) rfl rfl (fun x hx v hv=>by rw[mem_singleton.1 hx]at hv;exact huo v hv) (by simp only[length_cons,length_nil];omega) (by unfold bo;simp only[length_cons,length_nil];omega) hw ?_;clear hw;intro uv2 w hw;refine fy ?_;intro w hw;obtain⟨fr2,qyM⟩:∃ fr2,fr2=s:=⟨s,rfl⟩
  subst qyM;have bb:Sat w0 w (Ab aa 3 ss (et (U++[u]) N)::OS al 22 nv ss::OS aa 3 nd u.an::Ad p5 131 [.int .i64 op,.int .i64 dL,.int .i64 cost,.int .i64 makes,nd]::OS al 23 lv [v1,v2]::Ad pr 127 [c0,c1,c2,c3,fv,.int .i64 (N:Int),uv2,nv,fr2]::OS aa 3 fv (cw vars vars.length)::OS iO 131 uv2 (us++[uu])::Aj (BJ us U)::OS aa 3 fr2 (cM (U++[u]))::Γ):=hw.tail.tail;exact o7 rfl ⟨rfl,uv2,fr2,us++[uu],ss,by simp[iw],Sat.bG (Sat.rd (Δ:=[OS aa 3 nd u.an,Aj (BJ us U)]) (Γ:=Ab aa 3 ss (et (U++[u]) N)::OS al 22 nv ss::Ad pr 127 [c0,c1,c2,c3,fv,.int .i64 (N:Int),uv2,nv,fr2]::OS aa 3 fv (cw vars vars.length)::OS iO 131 uv2 (us++[uu])::OS aa 3 fr2 (cM (U++[u]))::Γ) (φ:=BJ (us++[uu]) (U++[u])) (fun _ w h=>(h.dM 1 rfl).snoc iw (by rw[huu,hu];exact⟨rfl,rfl,rfl,rfl,by rw[<-iv];exact h.rs 0 rfl⟩)) (show Sat w0 w (OS aa 3 nd u.an::Aj (BJ us U)::Ab aa 3 ss (et (U++[u]) N)::OS al 22 nv ss::Ad pr 127 [c0,c1,c2,c3,fv,.int .i64 (N:Int),uv2,nv,fr2]::OS aa 3 fv (cw vars vars.length)::OS iO 131 uv2 (us++[uu])::OS aa 3 fr2 (cM (U++[u]))::Γ) from Sat.bG bb))⟩
 ·have ew:u.an≠[]:=fun e=>g4 (by rw[e];rfl)
  have kA:cM (U++[u])=cM U:=by rw[qjC,if_neg ew,append_nil]
  refine ab ?_;rw[<-kA]at hw;refine fP (pl [0,1,2,3,4,5,6] (.chk 4::pl [7,8,9,10] [])) hw kr ?_;clear hw;intro w hw;refine ab ?_;refine jh iO (x1:=uu) rfl (by rw[huu];rfl) rfl (le_of_ble_eq_true rfl) (zero_lt_succ _) hw ?_;clear hw;intro sl w hw;have huo:∀ v∈iO.enc uu,v.oneCell'=true:=by
   rw[huu];intro v hv;simp only[iO,mem_cons,not_mem_nil,or_false]at hv;rcases hv with rfl|rfl|rfl|rfl|rfl
   ·rfl
   ·rfl
   ·rfl
   ·rfl
   ·exact ond
  refine ab ?_;refine rT (s:=uv) (s2:=sl) inferInstance rfl rfl (aM hw) rfl rfl (fun x hx v hv=>by rw[mem_singleton.1 hx]at hv;exact huo v hv) (by simp only[length_cons,length_nil];omega) (by unfold bo;simp only[length_cons,length_nil];omega) hw ?_;clear hw;intro uv2 w hw;refine fy ?_;intro w hw;have bb:Sat w0 w (Ab aa 3 ss (et (U++[u]) N)::OS al 22 nv ss::OS aa 3 nd u.an::Ad p5 131 [.int .i64 op,.int .i64 dL,.int .i64 cost,.int .i64 makes,nd]::OS al 23 lv [v1,v2]::Ad pr 127 [c0,c1,c2,c3,fv,.int .i64 (N:Int),uv2,nv,frv]::OS aa 3 fv (cw vars vars.length)::OS iO 131 uv2 (us++[uu])::Aj (BJ us U)::OS aa 3 frv (cM (U++[u]))::Γ):=hw.tail;exact o7 rfl ⟨rfl,uv2,frv,us++[uu],ss,by simp[iw],Sat.bG (Sat.rd (Δ:=[OS aa 3 nd u.an,Aj (BJ us U)]) (Γ:=Ab aa 3 ss (et (U++[u]) N)::OS al 22 nv ss::Ad pr 127 [c0,c1,c2,c3,fv,.int .i64 (N:Int),uv2,nv,frv]::OS aa 3 fv (cw vars vars.length)::OS iO 131 uv2 (us++[uu])::OS aa 3 frv (cM (U++[u]))::Γ) (φ:=BJ (us++[uu]) (U++[u])) (fun _ w h=>(h.dM 1 rfl).snoc iw (by rw[huu,hu];exact⟨rfl,rfl,rfl,rfl,by rw[<-iv];exact h.rs 0 rfl⟩)) (show Sat w0 w (OS aa 3 nd u.an::Aj (BJ us U)::Ab aa 3 ss (et (U++[u]) N)::OS al 22 nv ss::Ad pr 127 [c0,c1,c2,c3,fv,.int .i64 (N:Int),uv2,nv,frv]::OS aa 3 fv (cw vars vars.length)::OS iO 131 uv2 (us++[uu])::OS aa 3 frv (cM (U++[u]))::Γ) from Sat.bG bb))⟩
structure Cy where
 op:Int
 makes:Int
 an:Value
def gA:Ty Cy:=⟨3,fun x=>[.int .i64 x.op,.int .i64 x.makes,x.an],fun _=>rfl,⟨0,0,.slice none 0 0⟩⟩
instance qxQ:BN gA:=⟨trivial⟩
def Dt (w:World) (v:Cy) (u:Un):Prop:=v.op=u.op/\v.makes=u.makes/\∃ L,RS aa w v.an L/\BB L u.an
def Cr (us:List Cy) (U:List Un) (w:World):Prop:=∀ i:Nat,i<U.length->Dt w (az gA us i) (un U i)
structure CE (w:World) (pr:Addr) (t:Aa) (a fv gv cv lv:Value) (us:List Cy):Prop where
 box:AD w pr [a,fv,.int .i64 (ay t:Int),gv,cv,lv]
 vars:RS aa w a t.vars
 fst:RS aa w fv (cw t.vars t.vars.length)
 goal:RS aa w gv (cq t)
 au:RS aa w cv (ar t)
 list:RS gA w lv us
 len:us.length=(bh t).length
 un:Cr us (bh t) w
theorem Cr.at {w0 w:World}{Γ:List HP}{us:List Cy}{U:List Un}(h:Cr us U w0) (hw:Sat w0 w Γ):Cr us U w:=fun i hi=>by
 obtain⟨h1,h2,L,h3,h4⟩:=h i hi;exact⟨h1,h2,L,h3.at hw,h4⟩
theorem qtT {t:Aa}{i:Nat}(hi:i<(bh t).length):∃ op:Nat,(un (bh t) i).op=(op:Int)/\op<t.ops.length:=by
 obtain⟨op,j,h1,_,h2⟩:=qeO.1 (u7 hi);have h3:un (bh t) (i:Int)=uZ t.vars op (t.ops.getD op aO) j:=h2;exact⟨op,by rw[h3];rfl,h1⟩
theorem qpI {k m:Nat}:(replicate k inf++replicate (m+1) (0:Int)).set k inf=replicate (k+1) inf++replicate m 0:=by
 rw[set_append_right _ _ (by simp),length_replicate,Nat.sub_self,replicate_succ (n:=m),set_cons_zero,replicate_succ' (n:=k),append_assoc];rfl
structure SI (t:Aa) (z D:List Int) (k:Nat):Prop where
 len:D.length=ay t
 val:∀ g:Int,0<=g->g<ay t->dg D g=inf\/(dg D g=0/\BF t.vars z g)
 st:∀ v:Nat,v<k->dg D (aV t.vars v+z.getD v aa.dflt)=0
theorem SI.zero {t:Aa}{z:List Int}:SI t z (replicate (ay t) inf) 0:=⟨by simp,fun g h0 h1=>.inl (by
 have h2:g.toNat<ay t:=by omega
 simp[dg,List.getD,h2]),fun v hv=>absurd hv (not_lt_zero _)⟩
theorem SI.step {t:Aa}{z D:List Int}{k:Nat}(h:SI t z D k) (hg:Af t) (hs:Ac t.vars z) (hk:k<t.vars.length):SI t z (D.set (aV t.vars k+z.getD k aa.dflt).toNat 0) (k+1):=by
 have hr:=vu hg hs (f:=aV t.vars k+z.getD k aa.dflt) ⟨k,hk,rfl⟩;have hl:=h.len;have fN:∀ g:Int,0<=g->dg (D.set (aV t.vars k+z.getD k aa.dflt).toNat 0) g=if g=aV t.vars k+z.getD k aa.dflt then 0 else dg D g:=fun g h0=>qhK h0 hr.1 om
 refine⟨by rw[length_set];exact hl,fun g h0 h1=>?_,fun v hv=>?_⟩
 ·rw[fN g h0]
  split
  ·rename_i e;exact .inr ⟨rfl,⟨k,hk,e⟩⟩
  ·exact h.val g h0 h1
 ·have iD:v<t.vars.length:=by omega
  have hrv:=vu hg hs (f:=aV t.vars v+z.getD v aa.dflt) ⟨v,iD,rfl⟩;rw[fN _ hrv.1];split
  ·rfl
  ·rename_i e
   exact h.st v (by
    have:v≠k:=fun e2=>e (by rw[e2])
    omega)
theorem SI.vi {t:Aa}{z D cs:List Int}(h:SI t z D t.vars.length):C5 (aF t cs) z D:=by
 refine⟨h.len,fun g h0 h1=>?_,fun g h0 h1 bD=>?_,fun g hg=>?_⟩
 ·rcases h.val g h0 h1 with e|⟨e,_⟩
  ·rw[e];exact⟨by decide,Int.le_refl _⟩
  ·rw[e];exact⟨Int.le_refl _,by decide⟩
 ·rcases h.val g h0 h1 with e|⟨e,hs⟩
  ·omega
  ·rw[e];exact .start hs
 ·obtain⟨v,hv,rfl⟩:=hg
  have:=h.st v hv;exact Int.le_of_eq this
theorem qsr {t:Aa}{cs:List Int}:(bh (aF t cs)).length=(bh t).length:=by
 have key:∀ k,k<=t.ops.length->(eR (aF t cs) k).length=(eR t k).length:=by
  intro k
  induction k with
  | zero=>intro _;simp[eR]
  | succ k ih =>
   intro hk;rw[u0,u0,length_append,length_append,ih om,xn om,yl,yl]
 unfold bh;rw[vy];exact key _ (Nat.le_refl _)
theorem qkZ {w0:World}{pr:Addr}{a fv gv cv0 lv sv cv:Value}{us:List Cy}{t:Aa}{z cs:List Int}(hr:CE w0 pr t a fv gv cv0 lv us) (hg:Af t) (hc:Az t cs) (hs:RS aa w0 sv z) (br:Ac t.vars z) (jM:RS aa w0 cv cs) :
  Calls Tryz.prog 268 #[.pointer (some pr),sv,cv] w0 fun e w'=>∃ ov V,e=.returned ov/\AW (aF t cs) z V/\Sat w0 w' [OS aa 3 ov V]:=by
 obtain⟨hb,o8,kA,eQ,mE,mh,jv,hF⟩:=hr;have hgT:=vz hg hc;have hN:=wS hg;have eN:=hc.1;have uJ:=br.1;have eW:=hg.vars;have ot:=wJ t.vars t.vars.length;have l5:=hg.ops;have xl:(bh t).length<=64*t.ops.length:=ym hg (k:=t.ops.length) (Nat.le_refl _);have hw:=Sat.start w0;refine bn (args:=[.pointer (some pr),sv,cv]) mixed Tryz.func268 ?_;refine kq ?_;intro s w hw;obtain⟨ov,uL⟩:∃ ov,ov=s:=⟨s,rfl⟩
 subst uL;rw[Int.toNat_natCast]at hw;have l6:∀ k,k<=ay t->(replicate k inf++replicate (ay t-k) (0:Int)).length=ay t:=fun k hk=>by simp;omega
 have vC:(replicate ((ay t:Int)).toNat (0:Int)).length=ay t:=by simp
 have bb:Sat w0 w [OS aa 3 ov (replicate 0 inf++replicate (ay t-0) (0:Int))]:=hw;refine ab ?_;refine cd [8,8,22,28] (G:=Nat) (fun k=>[(22,.int .i64 k)]) (fun k w=>k<=ay t/\Sat w0 w [OS aa 3 ov (replicate k inf++replicate (ay t-k) (0:Int))]) (fun k=>ay t-k) 0 (fun _=>rfl) ⟨rfl,trivial⟩ ⟨zero_le _,bb⟩ ?_;clear hw bb;rintro σ k w ⟨j7,hw⟩;have hlk:=l6 k j7;refine ab ?_;refine ai ?_ ?_<;>intro h1
 ·have aK:k<ay t:=by omega
  refine fi ?_;intro w hw;rw[show ay t-k=(ay t-(k+1))+1 by omega,show (1125899906842624:Int)=inf from rfl,qpI]at hw;exact⟨k+1,⟨rfl,trivial⟩,aH,⟨by omega,hw⟩,by omega⟩
 have cH:k=ay t:=by omega
 rw[cH,Nat.sub_self,replicate_zero,append_nil]at hw;clear hlk vC l6;refine ab ?_;refine dj [9,10,31,47] (G:=Nat) (H:=List Int) (fun k _=>[(31,.int .i64 k)]) (fun k D w=>k<=t.vars.length/\SI t z D k/\Sat w0 w [OS aa 3 ov D]) (fun k _=>t.vars.length-k) 0 _ (fun _ _=>rfl) ⟨rfl,trivial⟩ ⟨zero_le _,SI.zero,hw⟩ ?_;clear hw;rintro σ1 k D w ⟨gW,hSI,hw⟩;have oO:=hSI.len;refine ab ?_;refine ai ?_ ?_<;>intro h2
 ·have aK:k<t.vars.length:=by omega
  have hrg:=vu hg br (f:=aV t.vars k+z.getD k aa.dflt) ⟨k,aK,rfl⟩;obtain⟨g0,g1,g2⟩:=qhG hg.pos (fun i hi=>(hg.gd i hi).2) eW aK;have hz:=br.2 k om;have hd:=hg.gd k aK;have uC:=hSI.step hg br aK;rw[<-g0]at uC hrg g1 g2;refine fi ?_;intro w hw;exact⟨k+1,_,⟨rfl,trivial⟩,aH,⟨by omega,uC,hw⟩,by omega⟩
 have rJ:k=t.vars.length:=by omega
 subst rJ;have hV0:=hSI.vi (cs:=cs);clear hSI oO;refine ab ?_;refine dj [11,11,13,14,48,90] (G:=Bool) (H:=List Int) (fun ch _=>[(11,.bool ch)]) (fun ch D w=>C5 (aF t cs) z D/\(ch=false->∀ i:Nat,i<(bh t).length->(fun i D=>gz D (un (bh (aF t cs)) i).an<inf->dg D (un (bh (aF t cs)) i).makes<=gz D (un (bh (aF t cs)) i).an+(un (bh (aF t cs)) i).cost) i D)/\Sat w0 w [OS aa 3 ov D]) (fun ch D=>2*fa D+(bif ch then 1 else 0)) true _ (fun _ _=>rfl) ⟨rfl,trivial⟩ ⟨hV0,(fun h=>by cases h),hw⟩ ?_;clear hw hV0;rintro σ2 ch D w ⟨hV,cu,hw⟩;cases ch
 ·refine ab ?_
  exact aW (v:=ov) rfl rfl ⟨ov,D,rfl,hV.fin hgT fun i hi=>cu rfl i (by
   by_cases h:i<(bh t).length
   ·exact h
   ·exfalso
    have:(bh (aF t cs)).length=(bh t).length:=qsr
    omega),hw⟩
 clear cu;refine ab ?_;refine mB [11,11,13,14,54,90] (G:=Nat) (H:=Bool) (I:=List Int) (fun k ch _=>[(54,.int .i64 k),(11,.bool ch)]) (fun k ch D' w=>k<=(bh t).length/\C5 (aF t cs) z D'/\fa D'<=fa D/\(ch=true->fa D'<fa D)/\(ch=false->∀ i:Nat,i<k->(fun i D=>gz D (un (bh (aF t cs)) i).an<inf->dg D (un (bh (aF t cs)) i).makes<=gz D (un (bh (aF t cs)) i).an+(un (bh (aF t cs)) i).cost) i D')/\Sat w0 w [OS aa 3 ov D']) (fun k _ _=>(bh t).length-k) 0 false D (fun _ _ _=>rfl) ⟨rfl,rfl,trivial⟩ ⟨zero_le _,hV,Nat.le_refl _,(fun h=>by cases h),fun _ i hi=>absurd hi (not_lt_zero _),hw⟩ ?_;clear hw;rintro σ3 k ch D' w ⟨w5,vD,jy,dW,ou,hw⟩;refine ab ?_;refine ai ?_ ?_<;>intro h3
 ·have aK:k<(bh t).length:=by omega
  obtain⟨c1,c2,L,c3,c4⟩:=hF k aK;obtain⟨op,bW,rH⟩:=qtT aK;obtain⟨u1,u2,u3,u4,u5⟩:=qiU (cs:=cs) aK;rw[bW,Int.toNat_natCast]at u5;have yG:k<(bh (aF t cs)).length:=by rw[u1];exact aK
  have hSL:BB L (un (bh (aF t cs)) k).an:=by rw[u4];exact c4
  have fe:=vD.rI hgT yG hSL;have qG:=(qF hgT).makes k yG;have oO:=vD.len;have hfT:ay (aF t cs)=ay t:=rfl;have qzP:=hc.2 _ (bY aa.dflt (show op<cs.length by omega));have jd:=qm5 hSL fun f hf=>(fe f hf).1;have nP:=xo (V:=D') fun f hf=>(fe f hf).1;have qT:=vD.cC _ qG.1 qG.2;rw[u3]at qG qT;obtain⟨mk,pR⟩:∃ mk,mk=(un (bh t) k).makes:=⟨_,rfl⟩
  rw[<-pR]at qG qT c2 u3;have ouk:=c3.one;have qwC:(gA.enc (az gA us k)).all Value.oneCell'=true:=by
   show ((Value.int .i64 (az gA us k).op).oneCell' && ((Value.int .i64 (az gA us k).makes).oneCell' && ((az gA us k).an.oneCell' && true)))=true;rw[ouk];rfl
  have hen:gA.enc (az gA us k)=[.int .i64 (op:Int),.int .i64 mk,(az gA us k).an]:=by
   show [Value.int .i64 (az gA us k).op,Value.int .i64 (az gA us k).makes,(az gA us k).an]=_;rw[c1,c2,bW]
  refine db ?_;intro p w hw;refine aJ rfl (qcT (lv:=(az gA us k).an) (c3.at hw) (aM (s:=ov) hw) fun f hf=>⟨(fe f hf).1.1,by have:=(fe f hf).2;omega⟩) ?_;rintro _ w' ⟨rfl,aj⟩;refine aC ?_;clear aj hw;intro hw;obtain⟨p13,yH⟩:∃ p13,p13=p:=⟨p,rfl⟩
  subst yH;replace hw:Sat w0 w' [Ad p13 138 [.int .i64 (op:Int),.int .i64 mk,(az gA us k).an],OS aa 3 ov D']:=by rw[<-hen];exact hw
  by_cases q1:gz D' L<inf
  ·have q1':gz D' L<1125899906842624:=q1
   have ee:decide (gz D' L<1125899906842624)=true:=decide_eq_true q1;by_cases q2:gz D' L+cs.getD op aa.dflt<dg D' mk
   ·have jI:decide (gz D' L+cs.getD op aa.dflt<D'.getD mk.toNat aa.dflt)=true:=decide_eq_true q2
    have hrx:=vD.oP hgT yG hSL q1 (by rw[u5,u3];exact q2);rw[u5,u3]at hrx;refine ab ?_;refine nK ?_;clear hw;intro w hw;refine ab ?_
    try simp only[ee];refine cX ?_
    refine ab ?_
    try simp only[jI];refine cX ?_
    refine ab ?_;refine nK ?_;clear hw;intro w hw;refine fy ?_;intro w hw;exact⟨k+1,true,_,⟨rfl,rfl,trivial⟩,aH,⟨by omega,hrx.1,by omega,fun _=>by omega,(fun h=>by cases h),hw.tail⟩,by omega⟩
   ·have jI:decide (gz D' L+cs.getD op aa.dflt<D'.getD mk.toNat aa.dflt)=false:=decide_eq_false q2
    refine ab ?_;refine nK ?_;clear hw;intro w hw;refine ab ?_
    try simp only[ee];refine cX ?_
    refine ab ?_
    try simp only[jI];refine cX ?_
    refine ab ?_;refine⟨k+1,ch,D',⟨rfl,rfl,trivial⟩,aH,⟨by omega,vD,jy,dW,fun gh i hi=>?_,hw.tail⟩,by omega⟩;by_cases e:i=k
    ·subst e
     intro _;rw[u5,u3,<-jd];omega
    ·exact ou gh i om
  ·have ee:decide (gz D' L<1125899906842624)=false:=decide_eq_false q1
   refine ab ?_;refine nK ?_;clear hw;intro w hw;refine ab ?_
   try simp only[ee];refine cX ?_
   refine ab ?_;refine⟨k+1,ch,D',⟨rfl,rfl,trivial⟩,aH,⟨by omega,vD,jy,dW,fun gh i hi=>?_,hw.tail⟩,by omega⟩;by_cases e:i=k
   ·subst e
    intro bD;rw[<-jd]at bD;exact absurd bD q1
   ·exact ou gh i om
 ·refine ab ?_
  refine⟨ch,D',⟨rfl,trivial⟩,aH,⟨vD,fun gh i hi=>ou gh i om,hw⟩,?_⟩;cases ch
  ·simp only[cond_true,cond_false];omega
  ·have:=dW rfl
   simp only[cond_true];omega
end
section
open Go.Sl
structure B0 where
 src:Int
 dst:Int
 op:Int
def aI:Ty B0:=⟨3,fun a=>[.int .i64 a.src,.int .i64 a.dst,.int .i64 a.op],fun _=>rfl,⟨0,0,0⟩⟩
instance qxj:Bn aI:=⟨fun x v hv=>by simp only[aI,mem_cons,not_mem_nil,or_false]at hv;rcases hv with rfl|rfl|rfl<;>rfl⟩
def oN (V:List Int) (u:Un):List B0:=if gz V u.an<inf then [⟨fq V u.an,u.makes,u.op⟩] else []
def kU (t:Aa) (V:List Int) (k:Nat):List B0:=(List.range k).flatMap fun (i:Nat)=>oN V (un (bh t) i)
theorem qqB (t:Aa) (V:List Int):kU t V 0=[]:=by simp[kU]
theorem qkq (t:Aa) (V:List Int) (k:Nat):kU t V (k+1)=kU t V k++oN V (un (bh t) k):=by simp[kU,range_succ]
theorem qng {t:Aa}{V:List Int}{k:Nat}{a:B0}:a∈kU t V k↔∃ i:Nat,i<k/\gz V (un (bh t) i).an<inf/\a=⟨fq V (un (bh t) i).an,(un (bh t) i).makes,(un (bh t) i).op⟩:=by
 unfold kU;rw[mem_flatMap];constructor
 ·rintro⟨i,hi,ha⟩
  unfold oN at ha;split at ha
  ·exact⟨i,mem_range.1 hi,‹_›,mem_singleton.1 ha⟩
  ·exact absurd ha not_mem_nil
 ·rintro⟨i,hi,h,rfl⟩
  exact⟨i,mem_range.2 hi,by unfold oN;rw[if_pos h];exact mem_singleton.2 rfl⟩
theorem qi0 (t:Aa) (V:List Int):∀ k,(kU t V k).length<=k
 | 0=>by simp[kU]
 | k+1=>by
  rw[qkq,length_append];have:=qi0 t V k;have h:(oN V (un (bh t) k)).length<=1:=by unfold oN;split<;>simp
  omega
theorem qqC {V l m:List Int}(h:BB l m) (hl:∀ f∈l,0<=f):fq V l=fq V m:=by
 have hm:∀ f∈m,0<=f:=fun f hf=>hl f ((h f).2 hf);rcases vL (V:=V) hl with ⟨e,h1⟩|⟨h0,h1⟩
 ·have:=(qm4 h).1 e
  subst this;rw[h1];rfl
 ·rcases vL (V:=V) hm with ⟨e,h2⟩|⟨_,h2⟩
  ·have:=(qm4 h).2 e
   subst this;exact absurd h1.1 not_mem_nil
  ·exact qdt ((qqj h).1 h1) h2
def aD (t:Aa) (V:List Int):List B0:=kU t V (bh t).length
section
variable {t:Aa}{z V cs:List Int}{g0:Int}
theorem qnh (hg:Af t) (hV:∀ g:Int,0<=g->g<ay t->0<=dg V g) {a:B0}(h:a∈aD t V):∃ u∈bh (aF t cs),BY V u.an/\u.makes=a.dst/\u.op=a.op/\u.cost=cs.getD a.op.toNat aa.dflt/\((u.an=[]/\a.src = -1)\/(0<=a.src/\Bc V u.an a.src))/\(0<=a.dst/\a.dst<ay t)/\a.src<ay t/\∃ op:Nat,a.op=(op:Int)/\op<t.ops.length:=by
 obtain⟨i,hi,hf,rfl⟩:=qng.1 h;obtain⟨u1,u2,u3,u4,u5⟩:=qiU (cs:=cs) hi;have hU:=qF hg;have hn:∀ f∈(un (bh t) i).an,0<=f/\0<=dg V f:=fun f hf=>by
  have:=hU.an i hi f hf;exact⟨this.1,hV f this.1 this.2⟩
 have hm:=hU.makes i hi;obtain⟨op,j,o1,_,o2⟩:=qeO.1 (u7 hi);have o3:un (bh t) (i:Int)=uZ t.vars op (t.ops.getD op aO) j:=o2;refine⟨un (bh (aF t cs)) i,u7 (by rw[u1];exact hi),by rw[u4];exact(qlD hn).1 hf,u3,u2,u5,?_,hm,?_,op,by rw[o3];rfl,o1⟩
 ·rw[u4]
  rcases vL (V:=V) (l:=(un (bh t) i).an) fun f hf=>(hn f hf).1 with ⟨e,h1⟩|h1
  ·exact .inl ⟨e,h1⟩
  ·exact .inr h1
 ·rcases vL (V:=V) (l:=(un (bh t) i).an) fun f hf=>(hn f hf).1 with ⟨e,h1⟩|h1
  ·show fq V (un (bh t) i).an<_;omega
  ·exact(hU.an i hi _ h1.2.1).2
theorem qni (hg:Af t) (hV:∀ g:Int,0<=g->g<ay t->0<=dg V g) {u:Un}(h:u∈bh (aF t cs)) (hf:BY V u.an):∃ a∈aD t V,a.dst=u.makes/\a.op=u.op/\u.cost=cs.getD a.op.toNat aa.dflt/\((u.an=[]/\a.src = -1)\/(0<=a.src/\Bc V u.an a.src)):=by
 obtain⟨i,hi,rfl⟩:=qR h;have eO:i<(bh t).length:=by
  have h1:∀ k,k<=t.ops.length->(eR (aF t cs) k).length=(eR t k).length:=by
   intro k
   induction k with
   | zero=>intro _;simp[eR]
   | succ k ih =>
    intro hk;rw[u0,u0,length_append,length_append,ih om,xn om,yl,yl]
  have h2:(bh (aF t cs)).length=(bh t).length:=by
   unfold bh;rw[vy];exact h1 _ (Nat.le_refl _)
  omega
 obtain⟨u1,u2,u3,u4,u5⟩:=qiU (cs:=cs) eO;have hU:=qF hg;have hn:∀ f∈(un (bh t) i).an,0<=f/\0<=dg V f:=fun f hf=>by
  have:=hU.an i eO f hf;exact⟨this.1,hV f this.1 this.2⟩
 rw[u4]at hf ⊢;refine⟨_,qng.2 ⟨i,eO,(qlD hn).2 hf,rfl⟩,u3.symm,u2.symm,u5,?_⟩;rcases vL (V:=V) (l:=(un (bh t) i).an) fun f hf=>(hn f hf).1 with ⟨e,h1⟩|h1
 ·exact .inl ⟨e,h1⟩
 ·exact .inr h1
theorem qwa (hg:Af t) (hV:∀ g:Int,0<=g->g<ay t->0<=dg V g) {a:B0}(h:a∈aD t V) (h0:0<=a.src) (hc:cs.getD a.op.toNat aa.dflt=0) (hz:ZT (aF t cs) V g0 a.dst):ZT (aF t cs) V g0 a.src:=by
 obtain⟨u,u1,u2,u3,u4,u5,u6,_⟩:=qnh (cs:=cs) hg hV h;rcases u6 with ⟨_,e⟩|⟨_,eQ⟩
 ·omega
 ·exact .step u1 u2 eQ (by rw[u5];exact hc) (by rw[u3];exact hz)
theorem qxk (hg:Af t) (hV:∀ g:Int,0<=g->g<ay t->0<=dg V g) {B:Int->Prop}(hb:B g0) (eN:∀ a∈aD t V,0<=a.src->cs.getD a.op.toNat aa.dflt=0->B a.dst->B a.src) {f:Int}(h:ZT (aF t cs) V g0 f):B f:=by
 induction h with
 | goal=>exact hb
 | @step u f hu hf eQ hc _ ih =>
  obtain⟨a,a1,a2,a3,a4,a5⟩:=qni hg hV hu hf;rcases a5 with ⟨e,_⟩|⟨h0,mn⟩
  ·rw[e]at eQ;exact absurd eQ.1 not_mem_nil
  ·have:=eN a a1 h0 (by rw[<-a4];exact hc) (by rw[a2];exact ih)
   rw[qdt mn eQ]at this;exact this
theorem qt8 (hg:Af t) (hV:∀ g:Int,0<=g->g<ay t->0<=dg V g) {a:B0}(h:a∈aD t V) (hs:a.src<0\/ZS (aF t cs) z V g0 a.src) (hz:¬ZT (aF t cs) V g0 a.dst):ZS (aF t cs) z V g0 a.dst:=by
 obtain⟨u,u1,u2,u3,u4,u5,u6,_⟩:=qnh (cs:=cs) hg hV h;rw[<-u3]at hz ⊢;rcases u6 with ⟨e,_⟩|⟨h0,eQ⟩
 ·exact .start u1 e hz
 ·rcases hs with hs|hs
  ·omega
  ·exact .step u1 u2 eQ hs hz
theorem qxl (hg:Af t) (hV:∀ g:Int,0<=g->g<ay t->0<=dg V g) {S:Int->Prop}(hb:∀ f,BF t.vars z f->S f) (eN:∀ a∈aD t V,(a.src<0\/S a.src)->¬ZT (aF t cs) V g0 a.dst->S a.dst) {f:Int}(h:ZS (aF t cs) z V g0 f):S f:=by
 induction h with
 | st h=>exact hb _ h
 | @start u hu hn hz =>
  obtain⟨a,a1,a2,a3,a4,a5⟩:=qni hg hV hu (fun n h=>by rw[hn]at h;exact absurd h not_mem_nil);rw[<-a2]at hz ⊢;rcases a5 with ⟨_,e⟩|⟨_,mn⟩
  ·exact eN a a1 (.inl om) hz
  ·rw[hn]at mn;exact absurd mn.1 not_mem_nil
 | @step u f hu hf eQ _ hz ih =>
  obtain⟨a,a1,a2,a3,a4,a5⟩:=qni hg hV hu hf;rw[<-a2]at hz ⊢;rcases a5 with ⟨e,_⟩|⟨_,mn⟩
  ·rw[e]at eQ;exact absurd eQ.1 not_mem_nil
  ·exact eN a a1 (.inr (by rw[qdt mn eQ];exact ih)) hz
theorem qkr (hg:Af t) (hV:∀ g:Int,0<=g->g<ay t->0<=dg V g) {i:Nat}:A8 (aF t cs) z V g0 i↔∃ a∈aD t V,a.op=(i:Int)/\(a.src<0\/ZS (aF t cs) z V g0 a.src)/\ZT (aF t cs) V g0 a.dst:=by
 constructor
 ·rintro⟨u,hu,ho,hf,hs,hz⟩
  obtain⟨a,a1,a2,a3,a4,a5⟩:=qni hg hV hu hf;refine⟨a,a1,by rw[a3];exact ho,?_,by rw[a2];exact hz⟩;rcases a5 with ⟨e,h1⟩|⟨h0,mn⟩
  ·exact .inl om
  ·rcases hs with e|⟨f,eQ,vx⟩
   ·rw[e]at mn;exact absurd mn.1 not_mem_nil
   ·exact .inr (by rw[qdt mn eQ];exact vx)
 ·rintro⟨a,ha,ho,hs,hz⟩
  obtain⟨u,u1,u2,u3,u4,u5,u6,_⟩:=qnh (cs:=cs) hg hV ha;refine⟨u,u1,by rw[u4];exact ho,u2,?_,by rw[u3];exact hz⟩;rcases u6 with ⟨e,_⟩|⟨h0,eQ⟩
  ·exact .inl e
  ·rcases hs with hs|hs
   ·omega
   ·exact .inr ⟨_,eQ,hs⟩
end
def iY (B:List Bool) (f:Int):Bool:=B.getD f.toNat ah.dflt
def jV (B:List Bool):Nat:=B.countP (fun b => !b)
theorem vX {B:List Bool}{f g:Int}(h0:0<=f) (hl:f<B.length) (hg:0<=g):iY (B.set f.toNat true) g=if g=f then true else iY B g:=by
 unfold iY;rw[qt0 om];by_cases e:g=f
 ·rw[if_pos e,if_pos (by rw[e])]
 ·rw[if_neg e,if_neg om]
theorem qfS:∀ {B:List Bool}{i:Nat},i<B.length->B.getD i ah.dflt=false->jV (B.set i true)<jV B
 | [],i,h,_=>by simp at h
 | b::B,0,_,h=>by
  have e:b=false:=h;subst e
  simp[jV]
 | b::B,i+1,h,h2=>by
  have ih:=qfS (B:=B) (i:=i) (by simpa using h) h2;unfold jV at ih ⊢;rw[set_cons_succ,countP_cons,countP_cons];omega
theorem qqD (n:Nat) (f:Int):iY (replicate n false) f=false:=by
 unfold iY;by_cases h:f.toNat<n
 ·simp[List.getD,h]
 ·simp[List.getD,h];rfl
end
section
open Go.Sl Go
attribute [local irreducible] vc opsW opsD opV opW PureV ReadV Thn Blk
theorem qoI {w0:World}{pr:Addr}{a fv gv cv0 lv vv:Value}{us:List Cy}{t:Aa}{V:List Int}(hr:CE w0 pr t a fv gv cv0 lv us) (hg:Af t) (hv:RS aa w0 vv V) (hVl:V.length=ay t) (hV:∀ g:Int,0<=g->g<ay t->0<=dg V g) :
  Calls Tryz.prog 272 #[.pointer (some pr),vv] w0 fun e w'=>∃ av,e=.returned av/\Sat w0 w' [OS aI 367 av (aD t V)]:=by
 obtain⟨hb,o8,kA,eQ,mE,mh,jv,hF⟩:=hr;have hN:=wS hg;have l5:=hg.ops;have xl:(bh t).length<=64*t.ops.length:=ym hg (k:=t.ops.length) (Nat.le_refl _);have hw:=Sat.start w0;refine bn (args:=[.pointer (some pr),vv]) mixed Tryz.func272 ?_;replace hw:=hw.nil (T:=aI) (e:=367);rw[<-qqB t V]at hw;refine ab ?_;refine dj [5,5,7,7,13,34] (G:=Nat) (H:=Value) (fun k av=>[(13,.int .i64 k),(5,av)]) (fun k av w=>k<=(bh t).length/\Sat w0 w [OS aI 367 av (kU t V k)]) (fun k _=>(bh t).length-k) 0 (.slice none 0 0) (fun _ _=>rfl) ⟨rfl,rfl,trivial⟩ ⟨zero_le _,hw⟩ ?_;clear hw;rintro σ k av w ⟨hk,hw⟩;have uw:=qi0 t V k;refine ab ?_;refine ai ?_ ?_<;>intro h1
 ·have aK:k<(bh t).length:=by omega
  obtain⟨c1,c2,L,c3,c4⟩:=hF k aK;obtain⟨op,bW,rH⟩:=qtT aK;have hU:=qF hg;have hn:∀ f∈L,0<=f/\f<ay t:=fun f hf=>hU.an k aK f ((c4 f).1 hf);have fe:∀ f∈L,0<=f/\0<=dg V f:=fun f hf=>⟨(hn f hf).1,hV f (hn f hf).1 (hn f hf).2⟩
  have jd:=qm5 c4 fe;have r7:=qqC (V:=V) c4 fun f hf=>(hn f hf).1;have qP:=qkq t V k;obtain⟨mk,pR⟩:∃ mk,mk=(un (bh t) k).makes:=⟨_,rfl⟩
  rw[<-pR]at c2;have ouk:=c3.one;have qwC:(gA.enc (az gA us k)).all Value.oneCell'=true:=by
   show ((Value.int .i64 (az gA us k).op).oneCell' && ((Value.int .i64 (az gA us k).makes).oneCell' && ((az gA us k).an.oneCell' && true)))=true;rw[ouk];rfl
  have hen:gA.enc (az gA us k)=[.int .i64 (op:Int),.int .i64 mk,(az gA us k).an]:=by
   show [Value.int .i64 (az gA us k).op,Value.int .i64 (az gA us k).makes,(az gA us k).an]=_;rw[c1,c2,bW]
  refine db ?_;intro p w hw;refine aJ rfl (qcT (lv:=(az gA us k).an) (c3.at hw) (hv.at hw) fun f hf=>⟨(hn f hf).1,by have:=(hn f hf).2;omega⟩) ?_;rintro _ w' ⟨rfl,aj⟩;refine aC ?_;clear aj hw;intro hw;obtain⟨p7,hp7⟩:∃ p7,p7=p:=⟨p,rfl⟩
  subst hp7;replace hw:Sat w0 w' [Ad p7 138 [.int .i64 (op:Int),.int .i64 mk,(az gA us k).an],OS aI 367 av (kU t V k)]:=by rw[<-hen];exact hw
  refine ab ?_;refine ai ?_ ?_<;>intro h2
  ·have bD:gz V (un (bh t) k).an<inf:=by rw[<-jd];exact h2
   rw[oN,if_pos bD]at qP;refine ab ?_;refine fP (pl [0,1,2,3,5,6,7,8,4] (.chk 6::.chk 8::pl [9,10,11,12] [])) hw kr ?_;clear hw;intro w hw;refine ab ?_;refine aJ rfl (qcl (lv:=(az gA us k).an) (c3.at hw) (hv.at hw) fun f hf=>⟨(hn f hf).1,by have:=(hn f hf).2;omega⟩) ?_;rintro _ w' ⟨rfl,aj⟩;refine aC ?_;clear aj hw;intro hw;refine ab ?_;refine jh aI (x1:=⟨fq V L,mk,op⟩) rfl rfl rfl (le_of_ble_eq_true rfl) (zero_lt_succ _) hw ?_;clear hw;intro sl w hw;refine nV ?_;intro s w hw;obtain⟨av2,qyn⟩:∃ av2,av2=s:=⟨s,rfl⟩
   subst qyn;rw[r7,pR,<-bW,<-qP]at hw;exact⟨k+1,av2,⟨rfl,rfl,trivial⟩,aH,⟨by omega,hw.tail.tail⟩,by omega⟩
  ·have bD:¬gz V (un (bh t) k).an<inf:=by rw[<-jd];exact Int.not_lt.2 h2
   rw[oN,if_neg bD,append_nil]at qP;refine ab ?_;exact⟨k+1,av,⟨rfl,rfl,trivial⟩,aH,⟨by omega,by rw[qP];exact hw.tail⟩,by omega⟩
 have cH:k=(bh t).length:=by omega
 subst cH;refine ab ?_;exact aW (v:=av) rfl rfl ⟨av,rfl,hw⟩
structure TI (t:Aa) (cs V:List Int) (g0:Int) (B:List Bool):Prop where
 len:B.length=ay t
 ok:∀ f:Int,0<=f->f<ay t->iY B f=true->ZT (aF t cs) V g0 f
 g:iY B g0=true
def Dp (cs:List Int) (B:List Bool) (a:B0):Prop:=0<=a.src->cs.getD a.op.toNat aa.dflt=0->iY B a.dst=true->iY B a.src=true
structure Dx (t:Aa) (cs z V:List Int) (g0:Int) (S:List Bool):Prop where
 len:S.length=ay t
 ok:∀ f:Int,0<=f->f<ay t->iY S f=true->ZS (aF t cs) z V g0 f
 st:∀ f,BF t.vars z f->iY S f=true
def Dl (B S:List Bool) (a:B0):Prop:=(a.src<0\/iY S a.src=true)->iY B a.dst=false->iY S a.dst=true
theorem qrY {w0:World}{pr:Addr}{a fv gv cv0 lv sv cv vv:Value}{us:List Cy}{t:Aa}{z cs V:List Int}{g0:Int}(hr:CE w0 pr t a fv gv cv0 lv us) (hg:Af t) (hc:Az t cs) (hs:RS aa w0 sv z) (br:Ac t.vars z) (jM:RS aa w0 cv cs) (hv:RS aa w0 vv V) (X:AO (aF t cs) z V g0) :
  Calls Tryz.prog 270 #[.pointer (some pr),sv,cv,vv] w0 fun e w'=>∃ (kv:Value) (K:List Nat),e=.returned kv/\K.Pairwise (·<·)/\(∀ i:Nat,i∈K↔i<t.ops.length/\A8 (aF t cs) z V g0 i)/\Sat w0 w' [OS aa 3 kv (K.map fun i:Nat=>(i:Int))]:=by
 have hr0:=hr;obtain⟨hb,o8,kA,eQ,mE,mh,jv,hF⟩:=hr;have hN:=wS hg;have l5:=hg.ops;have eN:=hc.1;have uJ:=br.1;have eW:=hg.vars;have ot:=wJ t.vars t.vars.length;have xl:(bh t).length<=64*t.ops.length:=ym hg (k:=t.ops.length) (Nat.le_refl _);have hVl:V.length=ay t:=X.hm.len;have hV:∀ g:Int,0<=g->g<ay t->0<=dg V g:=fun g h0 h1=>(X.hm.cC g h0 h1).1;have hAl:(aD t V).length<=(bh t).length:=qi0 t V _;have vV:∀ f∈cq t,0<=f/\f<V.length:=fun f hf=>by
  obtain⟨x,hx,rfl⟩:=mem_map.1 hf;obtain⟨i,hi,e⟩:=getElem_of_mem hx;have ho:=(hg.goal i hi).1;rw[getD_at hi,e]at ho;have h1:=rz hg.pos ho;have h2:=pd hg;omega
 have hg0:fq V (cq t)=g0:=by
  rcases vL (V:=V) (l:=cq t) fun f hf=>(vV f hf).1 with ⟨e,_⟩|⟨_,h⟩
  ·have:=X.g.1
   have e2:cq (aF t cs)=cq t:=rfl;rw[e2,e]at this;exact absurd this not_mem_nil
  ·exact qdt h X.g
 have qh:=vV g0 X.g.1;have qk:∀ a∈(aD t V),(0<=a.dst/\a.dst<ay t)/\a.src<ay t/\∃ op:Nat,a.op=(op:Int)/\op<t.ops.length:=fun a ha=>by
  obtain⟨_,_,_,_,_,_,_,h1,h2,h3⟩:=qnh (cs:=cs) hg hV ha;exact⟨h1,h2,h3⟩
 have hw:=Sat.start w0;refine bn (args:=[.pointer (some pr),sv,cv,vv]) mixed Tryz.func270 ?_;refine ab ?_;refine aJ rfl (qoI (⟨hb.at hw,o8.at hw,kA.at hw,eQ.at hw,mE.at hw,mh.at hw,jv,hF.at hw⟩) hg (hv.at hw) hVl hV) ?_;rintro _ w' ⟨av,rfl,aj⟩;replace hw:Sat w0 w' [OS aI 367 av (aD t V)]:=hw.jC aj;clear aj;refine⟨_,rfl,?_⟩;refine kq ?_;intro s w hw;obtain⟨tv,htv⟩:∃ tv,tv=s:=⟨s,rfl⟩
 subst htv;rw[Int.toNat_natCast]at hw;have vC:(replicate (ay t) false).length=ay t:=length_replicate;refine ab ?_;refine aJ rfl (qcl (eQ.at hw) (hv.at hw) vV) ?_;rintro _ w' ⟨rfl,aj⟩;refine aC ?_;clear aj hw;intro hw;rw[hg0];have hT0:TI t cs V g0 ((replicate (ay t) false).set g0.toNat true):=by
  refine⟨by rw[length_set];exact vC,fun f h0 h1 hb=>?_,by rw[vX qh.1 om qh.1,if_pos rfl]⟩;rw[vX qh.1 om h0]at hb;by_cases e:f=g0
  ·rw[e];exact .goal
  ·rw[if_neg e,qqD]at hb;cases hb
 refine fi ?_;intro w hw;refine dj [11,11,13,13,39,76] (G:=Bool) (H:=List Bool) (fun ch _=>[(11,.bool ch)]) (fun ch B w=>TI t cs V g0 B/\(ch=false->∀ i:Nat,i<(aD t V).length->Dp cs B ((aD t V).getD i aI.dflt))/\Sat w0 w [OS ah 4 tv B,OS aI 367 av (aD t V)]) (fun ch B=>2*jV B+(bif ch then 1 else 0)) true _ (fun _ _=>rfl) ⟨rfl,trivial⟩ ⟨hT0,(fun h=>by cases h),hw⟩ ?_;clear hw hT0 vC;rintro σ0 ch B w ⟨hT,cu,hw⟩;cases ch;rotate_left
 ·clear cu
  refine ab ?_;refine mB [11,11,13,13,42,76] (G:=Nat) (H:=Bool) (I:=List Bool) (fun k ch _=>[(42,.int .i64 k),(11,.bool ch)]) (fun k ch B' w=>k<=(aD t V).length/\TI t cs V g0 B'/\jV B'<=jV B/\(ch=true->jV B'<jV B)/\(ch=false->∀ i:Nat,i<k->Dp cs B' ((aD t V).getD i aI.dflt))/\Sat w0 w [OS ah 4 tv B',OS aI 367 av (aD t V)]) (fun k _ _=>(aD t V).length-k) 0 false B (fun _ _ _=>rfl) ⟨rfl,rfl,trivial⟩ ⟨zero_le _,hT,Nat.le_refl _,(fun h=>by cases h),fun _ i hi=>absurd hi (not_lt_zero _),hw⟩ ?_;clear hw;rintro σ1 k ch B' w ⟨hk,lq,jy,dW,ou,hw⟩;have yu:=lq.len;refine ab ?_;refine ai ?_ ?_<;>intro h3
  ·have aK:k<(aD t V).length:=by omega
   have tZ:=bY aI.dflt aK;obtain⟨fp,ny,op,bW,rH⟩:=qk _ tZ;by_cases p1:0<=((aD t V).getD k aI.dflt).src;rotate_left
   ·have gM:Dp cs B' ((aD t V).getD k aI.dflt):=fun h=>absurd h p1
    have ee:decide (0<=((aD t V).getD k aI.dflt).src)=false:=decide_eq_false p1;refine cK ?_;intro p w hw
    try simp only[ee];refine cX ?_
    refine ab ?_;refine⟨k+1,ch,B',⟨rfl,rfl,trivial⟩,aH,⟨by omega,lq,jy,dW,fun gh i hi=>?_,hw.tail⟩,by omega⟩;by_cases e:i=k
    ·subst e;exact gM
    ·exact ou gh i om
   have ee:decide (0<=((aD t V).getD k aI.dflt).src)=true:=decide_eq_true p1;by_cases p2:cs.getD ((aD t V).getD k aI.dflt).op.toNat aa.dflt=0;rotate_left
   ·have gM:Dp cs B' ((aD t V).getD k aI.dflt):=fun _ h=>absurd h p2
    have jI:decide (cs.getD ((aD t V).getD k aI.dflt).op.toNat aa.dflt=0)=false:=decide_eq_false p2;refine cK ?_;intro p w hw
    try simp only[ee];refine cX ?_
    refine ab ?_
    try simp only[jI];refine cX ?_
    refine ab ?_;refine⟨k+1,ch,B',⟨rfl,rfl,trivial⟩,aH,⟨by omega,lq,jy,dW,fun gh i hi=>?_,hw.tail⟩,by omega⟩;by_cases e:i=k
    ·subst e;exact gM
    ·exact ou gh i om
   have jI:decide (cs.getD ((aD t V).getD k aI.dflt).op.toNat aa.dflt=0)=true:=decide_eq_true p2;cases p3:B'.getD ((aD t V).getD k aI.dflt).dst.toNat ah.dflt
   ·have gM:Dp cs B' ((aD t V).getD k aI.dflt):=fun _ _ h=>by
     have h2:B'.getD ((aD t V).getD k aI.dflt).dst.toNat ah.dflt=true:=h;rw[p3]at h2;cases h2
    refine cK ?_;intro p w hw
    try simp only[ee];refine cX ?_
    refine ab ?_
    try simp only[jI];refine cX ?_
    refine ab ?_
    try simp only[p3];refine cX ?_
    refine ab ?_;refine⟨k+1,ch,B',⟨rfl,rfl,trivial⟩,aH,⟨by omega,lq,jy,dW,fun gh i hi=>?_,hw.tail⟩,by omega⟩;by_cases e:i=k
    ·subst e;exact gM
    ·exact ou gh i om
   cases p4:B'.getD ((aD t V).getD k aI.dflt).src.toNat ah.dflt;rotate_left
   ·have gM:Dp cs B' ((aD t V).getD k aI.dflt):=fun _ _ _=>p4
    refine cK ?_;intro p w hw
    try simp only[ee];refine cX ?_
    refine ab ?_
    try simp only[jI];refine cX ?_
    refine ab ?_
    try simp only[p3];refine cX ?_
    refine ab ?_
    try simp only[p4];refine cX ?_
    refine ab ?_;refine⟨k+1,ch,B',⟨rfl,rfl,trivial⟩,aH,⟨by omega,lq,jy,dW,fun gh i hi=>?_,hw.tail⟩,by omega⟩;by_cases e:i=k
    ·subst e;exact gM
    ·exact ou gh i om
   have hzd:=lq.ok _ fp.1 fp.2 p3;have vx:=qwa hg hV tZ p1 p2 hzd;have xI:TI t cs V g0 (B'.set ((aD t V).getD k aI.dflt).src.toNat true):=by
    refine⟨by rw[length_set];exact yu,fun f h0 h1 hb=>?_,?_⟩
    ·rw[vX p1 om h0]at hb
     by_cases e:f=((aD t V).getD k aI.dflt).src
     ·rw[e];exact vx
     ·rw[if_neg e]at hb;exact lq.ok f h0 h1 hb
    ·rw[vX p1 om qh.1]
     split
     ·rfl
     ·exact lq.g
   have uK:=qfS (B:=B') (i:=((aD t V).getD k aI.dflt).src.toNat) om p4;refine cK ?_;intro p w hw
   try simp only[ee];refine cX ?_
   refine ab ?_
   try simp only[jI];refine cX ?_
   refine ab ?_
   try simp only[p3];refine cX ?_
   refine ab ?_
   try simp only[p4];refine cX ?_
   refine fy ?_;intro w hw;exact⟨k+1,true,_,⟨rfl,rfl,trivial⟩,aH,⟨by omega,xI,by omega,fun _=>by omega,(fun h=>by cases h),hw.tail⟩,by omega⟩
  ·refine ab ?_
   refine⟨ch,B',⟨rfl,trivial⟩,aH,⟨lq,fun gh i hi=>ou gh i om,hw⟩,?_⟩;cases ch
   ·simp only[cond_true,cond_false];omega
   ·have:=dW rfl
    simp only[cond_true];omega
 have qxh:=cu rfl;clear cu
 have hTz:∀ f:Int,0<=f->f<ay t->(iY B f=true↔ZT (aF t cs) V g0 f):=fun f h0 h1=>⟨hT.ok f h0 h1,fun h=>by
  refine qxk (B:=fun f=>iY B f=true) hg hV hT.g (fun a ha h2 h3 h4=>?_) h;obtain⟨i,hi,e⟩:=getElem_of_mem ha;have h5:=qxh i hi;rw[getD_at hi,e]at h5
  exact h5 h2 h3 h4⟩
 refine kq ?_;intro s w hw;obtain⟨uv,yU⟩:∃ uv,uv=s:=⟨s,rfl⟩
 subst yU;rw[Int.toNat_natCast]at hw;have yu:=hT.len;refine dj [15,16,84,100] (G:=Nat) (H:=List Bool) (fun k _=>[(84,.int .i64 k)]) (fun k S w=>k<=t.vars.length/\S.length=ay t/\(∀ f:Int,0<=f->f<ay t->iY S f=true->BF t.vars z f)/\(∀ v:Nat,v<k->iY S (aV t.vars v+z.getD v aa.dflt)=true)/\Sat w0 w [OS ah 4 uv S,OS ah 4 tv B,OS aI 367 av (aD t V)]) (fun k _=>t.vars.length-k) 0 _ (fun _ _=>rfl) ⟨rfl,trivial⟩ ⟨zero_le _,length_replicate,(fun f _ _ h=>by rw[qqD]at h;cases h),fun v hv=>absurd hv (not_lt_zero _),hw⟩ ?_;clear hw;rintro σ2 k S w ⟨hk,sW,hS1,xS,hw⟩;refine ab ?_;refine ai ?_ ?_<;>intro h4
 ·have aK:k<t.vars.length:=by omega
  have hrg:=vu hg br (f:=aV t.vars k+z.getD k aa.dflt) ⟨k,aK,rfl⟩;obtain⟨q0,q1,q2⟩:=qhG hg.pos (fun i hi=>(hg.gd i hi).2) eW aK;have hz:=br.2 k om;have hd:=hg.gd k aK;have fN:=fun f (h0:0<=f)=>vX (B:=S) (g:=f) hrg.1 om h0;have n1:∀ f:Int,0<=f->f<ay t->iY (S.set (aV t.vars k+z.getD k aa.dflt).toNat true) f=true->BF t.vars z f:=fun f h0 h1 hb=>by
   rw[fN f h0]at hb;by_cases e:f=aV t.vars k+z.getD k aa.dflt
   ·exact⟨k,aK,e⟩
   ·rw[if_neg e]at hb;exact hS1 f h0 h1 hb
  have n2:∀ v:Nat,v<k+1->iY (S.set (aV t.vars k+z.getD k aa.dflt).toNat true) (aV t.vars v+z.getD v aa.dflt)=true:=fun v hv=>by
   have iD:v<t.vars.length:=by omega
   rw[fN _ (vu hg br (f:=aV t.vars v+z.getD v aa.dflt) ⟨v,iD,rfl⟩).1];split
   ·rfl
   ·rename_i e
    exact xS v (by
     have:v≠k:=fun e2=>e (by rw[e2])
     omega)
  rw[<-q0]at n1 n2 hrg q1 q2;refine fi ?_;intro w hw;refine⟨k+1,_,⟨rfl,trivial⟩,aH,⟨by omega,by rw[length_set];exact sW,n1,fun v hv=>?_,hw⟩,by omega⟩;exact n2 v hv
 have cH:k=t.vars.length:=by omega
 subst cH
 have hS0:Dx t cs z V g0 S:=⟨sW,fun f h0 h1 hb=>.st (hS1 f h0 h1 hb),fun f hf=>by
  obtain⟨v,hv,rfl⟩:=hf
  exact xS v hv⟩
 clear hS1 xS sW;refine ab ?_;refine dj [17,17,19,19,101,138] (G:=Bool) (H:=List Bool) (fun ch _=>[(17,.bool ch)]) (fun ch S w=>Dx t cs z V g0 S/\(ch=false->∀ i:Nat,i<(aD t V).length->Dl B S ((aD t V).getD i aI.dflt))/\Sat w0 w [OS ah 4 uv S,OS ah 4 tv B,OS aI 367 av (aD t V)]) (fun ch S=>2*jV S+(bif ch then 1 else 0)) true _ (fun _ _=>rfl) ⟨rfl,trivial⟩ ⟨hS0,(fun h=>by cases h),hw⟩ ?_;clear hw hS0;clear S;rintro σ3 ch S w ⟨hS,cu,hw⟩;cases ch;rotate_left
 ·clear cu
  refine ab ?_;refine mB [17,17,19,19,104,138] (G:=Nat) (H:=Bool) (I:=List Bool) (fun k ch _=>[(104,.int .i64 k),(17,.bool ch)]) (fun k ch S' w=>k<=(aD t V).length/\Dx t cs z V g0 S'/\jV S'<=jV S/\(ch=true->jV S'<jV S)/\(ch=false->∀ i:Nat,i<k->Dl B S' ((aD t V).getD i aI.dflt))/\Sat w0 w [OS ah 4 uv S',OS ah 4 tv B,OS aI 367 av (aD t V)]) (fun k _ _=>(aD t V).length-k) 0 false S (fun _ _ _=>rfl) ⟨rfl,rfl,trivial⟩ ⟨zero_le _,hS,Nat.le_refl _,(fun h=>by cases h),fun _ i hi=>absurd hi (not_lt_zero _),hw⟩ ?_;clear hw;rintro σ4 k ch S' w ⟨hk,lq,jy,dW,ou,hw⟩;have sW:=lq.len;refine ab ?_;refine ai ?_ ?_<;>intro h3
  ·have aK:k<(aD t V).length:=by omega
   have tZ:=bY aI.dflt aK;obtain⟨fp,ny,op,bW,rH⟩:=qk _ tZ;by_cases p1:((aD t V).getD k aI.dflt).src<0
   ·have ee:decide (((aD t V).getD k aI.dflt).src<0)=true:=decide_eq_true p1
    cases p2:B.getD ((aD t V).getD k aI.dflt).dst.toNat ah.dflt;rotate_left
    ·have gM:Dl B S' ((aD t V).getD k aI.dflt):=fun _ h=>by
      have h2:B.getD ((aD t V).getD k aI.dflt).dst.toNat ah.dflt=false:=h;rw[p2]at h2;cases h2
     refine cK ?_;intro p w hw
     try simp only[ee];refine cX ?_
     refine ab ?_
     try simp only[p2];refine cX ?_
     refine ab ?_;refine⟨k+1,ch,S',⟨rfl,rfl,trivial⟩,aH,⟨by omega,lq,jy,dW,fun gh i hi=>?_,hw.tail⟩,by omega⟩;by_cases e:i=k
     ·subst e;exact gM
     ·exact ou gh i om
    cases p3:S'.getD ((aD t V).getD k aI.dflt).dst.toNat ah.dflt;rotate_left
    ·have gM:Dl B S' ((aD t V).getD k aI.dflt):=fun _ _=>p3
     refine cK ?_;intro p w hw
     try simp only[ee];refine cX ?_
     refine ab ?_
     try simp only[p2];refine cX ?_
     refine ab ?_
     try simp only[p3];refine cX ?_
     refine ab ?_;refine⟨k+1,ch,S',⟨rfl,rfl,trivial⟩,aH,⟨by omega,lq,jy,dW,fun gh i hi=>?_,hw.tail⟩,by omega⟩;by_cases e:i=k
     ·subst e;exact gM
     ·exact ou gh i om
    have hnz:¬ZT (aF t cs) V g0 ((aD t V).getD k aI.dflt).dst:=fun h=>by
     have h2:B.getD ((aD t V).getD k aI.dflt).dst.toNat ah.dflt=true:=(hTz _ fp.1 fp.2).2 h;rw[p2]at h2;cases h2
    have vx:ZS (aF t cs) z V g0 ((aD t V).getD k aI.dflt).dst:=qt8 hg hV tZ (.inl p1) hnz;have xI:Dx t cs z V g0 (S'.set ((aD t V).getD k aI.dflt).dst.toNat true):=by
     refine⟨by rw[length_set];exact sW,fun f h0 h1 hb=>?_,fun f hf=>?_⟩
     ·rw[vX fp.1 om h0]at hb
      by_cases e:f=((aD t V).getD k aI.dflt).dst
      ·rw[e];exact vx
      ·rw[if_neg e]at hb;exact lq.ok f h0 h1 hb
     ·rw[vX fp.1 om (vu hg br hf).1]
      split
      ·rfl
      ·exact lq.st f hf
    have uK:=qfS (B:=S') (i:=((aD t V).getD k aI.dflt).dst.toNat) om p3;refine cK ?_;intro p w hw
    try simp only[ee];refine cX ?_
    refine ab ?_
    try simp only[p2];refine cX ?_
    refine ab ?_
    try simp only[p3];refine cX ?_
    refine fy ?_;intro w hw;exact⟨k+1,true,_,⟨rfl,rfl,trivial⟩,aH,⟨by omega,xI,by omega,fun _=>by omega,(fun h=>by cases h),hw.tail⟩,by omega⟩
   have ee:decide (((aD t V).getD k aI.dflt).src<0)=false:=decide_eq_false p1;cases p1b:S'.getD ((aD t V).getD k aI.dflt).src.toNat ah.dflt
   ·have gM:Dl B S' ((aD t V).getD k aI.dflt):=fun h=>by
     rcases h with h|h
     ·exact absurd h p1
     ·have h2:S'.getD ((aD t V).getD k aI.dflt).src.toNat ah.dflt=true:=h
      rw[p1b]at h2;cases h2
    refine cK ?_;intro p w hw
    try simp only[ee];refine cX ?_
    refine ab ?_
    try simp only[p1b];refine cX ?_
    refine ab ?_;refine⟨k+1,ch,S',⟨rfl,rfl,trivial⟩,aH,⟨by omega,lq,jy,dW,fun gh i hi=>?_,hw.tail⟩,by omega⟩;by_cases e:i=k
    ·subst e;exact gM
    ·exact ou gh i om
   cases p2:B.getD ((aD t V).getD k aI.dflt).dst.toNat ah.dflt;rotate_left
   ·have gM:Dl B S' ((aD t V).getD k aI.dflt):=fun _ h=>by
     have h2:B.getD ((aD t V).getD k aI.dflt).dst.toNat ah.dflt=false:=h;rw[p2]at h2;cases h2
    refine cK ?_;intro p w hw
    try simp only[ee];refine cX ?_
    refine ab ?_
    try simp only[p1b];refine cX ?_
    refine ab ?_
    try simp only[p2];refine cX ?_
    refine ab ?_;refine⟨k+1,ch,S',⟨rfl,rfl,trivial⟩,aH,⟨by omega,lq,jy,dW,fun gh i hi=>?_,hw.tail⟩,by omega⟩;by_cases e:i=k
    ·subst e;exact gM
    ·exact ou gh i om
   cases p3:S'.getD ((aD t V).getD k aI.dflt).dst.toNat ah.dflt;rotate_left
   ·have gM:Dl B S' ((aD t V).getD k aI.dflt):=fun _ _=>p3
    refine cK ?_;intro p w hw
    try simp only[ee];refine cX ?_
    refine ab ?_
    try simp only[p1b];refine cX ?_
    refine ab ?_
    try simp only[p2];refine cX ?_
    refine ab ?_
    try simp only[p3];refine cX ?_
    refine ab ?_;refine⟨k+1,ch,S',⟨rfl,rfl,trivial⟩,aH,⟨by omega,lq,jy,dW,fun gh i hi=>?_,hw.tail⟩,by omega⟩;by_cases e:i=k
    ·subst e;exact gM
    ·exact ou gh i om
   have hnz:¬ZT (aF t cs) V g0 ((aD t V).getD k aI.dflt).dst:=fun h=>by
    have h2:B.getD ((aD t V).getD k aI.dflt).dst.toNat ah.dflt=true:=(hTz _ fp.1 fp.2).2 h;rw[p2]at h2;cases h2
   have vx:ZS (aF t cs) z V g0 ((aD t V).getD k aI.dflt).dst:=qt8 hg hV tZ (.inr (lq.ok _ om ny p1b)) hnz;have xI:Dx t cs z V g0 (S'.set ((aD t V).getD k aI.dflt).dst.toNat true):=by
    refine⟨by rw[length_set];exact sW,fun f h0 h1 hb=>?_,fun f hf=>?_⟩
    ·rw[vX fp.1 om h0]at hb
     by_cases e:f=((aD t V).getD k aI.dflt).dst
     ·rw[e];exact vx
     ·rw[if_neg e]at hb;exact lq.ok f h0 h1 hb
    ·rw[vX fp.1 om (vu hg br hf).1]
     split
     ·rfl
     ·exact lq.st f hf
   have uK:=qfS (B:=S') (i:=((aD t V).getD k aI.dflt).dst.toNat) om p3;refine cK ?_;intro p w hw
   try simp only[ee];refine cX ?_
   refine ab ?_
   try simp only[p1b];refine cX ?_
   refine ab ?_
   try simp only[p2];refine cX ?_
   refine ab ?_
   try simp only[p3];refine cX ?_
   refine fy ?_;intro w hw;exact⟨k+1,true,_,⟨rfl,rfl,trivial⟩,aH,⟨by omega,xI,by omega,fun _=>by omega,(fun h=>by cases h),hw.tail⟩,by omega⟩
  ·refine ab ?_
   refine⟨ch,S',⟨rfl,trivial⟩,aH,⟨lq,fun gh i hi=>ou gh i om,hw⟩,?_⟩;cases ch
   ·simp only[cond_true,cond_false];omega
   ·have:=dW rfl
    simp only[cond_true];omega
 have qxi:=cu rfl;clear cu
 have hSz:∀ f:Int,0<=f->f<ay t->(iY S f=true↔ZS (aF t cs) z V g0 f):=fun f h0 h1=>⟨hS.ok f h0 h1,fun h=>by
  refine qxl (S:=fun f=>iY S f=true) hg hV hS.st (fun a ha h2 h3=>?_) h;obtain⟨i,hi,e⟩:=getElem_of_mem ha;have h5:=qxi i hi;rw[getD_at hi,e]at h5;refine h5 h2 ?_;cases h6:iY B a.dst
  ·rfl
  ·exact absurd ((hTz _ (qk a ha).1.1 (qk a ha).1.2).1 h6) h3⟩
 have sW:=hS.len;replace hw:=hw.nil (T:=aa) (e:=3);refine ab ?_;refine mB [20,20,22,22,141,167] (G:=Nat) (H:=Value) (I:=List Int) (fun k ov _=>[(141,.int .i64 k),(20,ov)]) (fun k ov xs w=>k<=(aD t V).length/\xs.length<=k/\(∀ x:Int,x∈xs↔∃ i:Nat,i<k/\((aD t V).getD i aI.dflt).op=x/\(((aD t V).getD i aI.dflt).src<0\/iY S ((aD t V).getD i aI.dflt).src=true)/\iY B ((aD t V).getD i aI.dflt).dst=true)/\Sat w0 w [OS aa 3 ov xs,OS ah 4 uv S,OS ah 4 tv B,OS aI 367 av (aD t V)]) (fun k _ _=>(aD t V).length-k) 0 (.slice none 0 0) [] (fun _ _ _=>rfl) ⟨rfl,rfl,trivial⟩ ⟨zero_le _,Nat.le_refl _,(fun x=>⟨fun h=>absurd h not_mem_nil,fun⟨i,hi,_⟩=>absurd hi (not_lt_zero _)⟩),hw⟩ ?_;clear hw;rintro σ5 k ov xs w ⟨hk,ku,ed,hw⟩;refine ab ?_;refine ai ?_ ?_<;>intro h3
 ·have aK:k<(aD t V).length:=by omega
  have tZ:=bY aI.dflt aK;obtain⟨fp,ny,op,bW,rH⟩:=qk _ tZ;have jR:¬((((aD t V).getD k aI.dflt).src<0\/iY S ((aD t V).getD k aI.dflt).src=true)/\iY B ((aD t V).getD k aI.dflt).dst=true)->∀ x:Int,x∈xs↔∃ i:Nat,i<k+1/\((aD t V).getD i aI.dflt).op=x/\(((aD t V).getD i aI.dflt).src<0\/iY S ((aD t V).getD i aI.dflt).src=true)/\iY B ((aD t V).getD i aI.dflt).dst=true:=fun hn x=>by
   rw[ed x];constructor
   ·rintro⟨i,h1,h2⟩;exact⟨i,by omega,h2⟩
   ·rintro⟨i,h1,h2⟩
    by_cases e:i=k
    ·subst e;exact absurd h2.2 hn
    ·exact⟨i,by omega,h2⟩
  have qxA:((((aD t V).getD k aI.dflt).src<0\/iY S ((aD t V).getD k aI.dflt).src=true)/\iY B ((aD t V).getD k aI.dflt).dst=true)->∀ x:Int,x∈xs++[((aD t V).getD k aI.dflt).op]↔∃ i:Nat,i<k+1/\((aD t V).getD i aI.dflt).op=x/\(((aD t V).getD i aI.dflt).src<0\/iY S ((aD t V).getD i aI.dflt).src=true)/\iY B ((aD t V).getD i aI.dflt).dst=true:=fun hn x=>by
   rw[mem_append,ed x,mem_singleton];constructor
   ·rintro (⟨i,h1,h2⟩|h)
    ·exact⟨i,by omega,h2⟩
    ·exact⟨k,by omega,h.symm,hn⟩
   ·rintro⟨i,h1,h2⟩
    by_cases e:i=k
    ·subst e;exact .inr h2.1.symm
    ·exact .inl ⟨i,by omega,h2⟩
  by_cases p1:((aD t V).getD k aI.dflt).src<0
  ·have ee:decide (((aD t V).getD k aI.dflt).src<0)=true:=decide_eq_true p1
   cases p2:B.getD ((aD t V).getD k aI.dflt).dst.toNat ah.dflt
   ·have hn:=jR fun h=>by
     have h2:B.getD ((aD t V).getD k aI.dflt).dst.toNat ah.dflt=true:=h.2;rw[p2]at h2;cases h2
    refine cK ?_;intro p w hw
    try simp only[ee];refine cX ?_
    refine ab ?_
    try simp only[p2];refine cX ?_
    refine ab ?_;exact⟨k+1,ov,xs,⟨rfl,rfl,trivial⟩,aH,⟨by omega,by omega,hn,hw.tail⟩,by omega⟩
   ·have hn:=qxA ⟨.inl p1,p2⟩
    refine cK ?_;intro p w hw
    try simp only[ee];refine cX ?_
    refine ab ?_
    try simp only[p2];refine cX ?_
    repeat (first|refine bV ?_|(refine cB ?_;clear hw;intro s w hw))
    obtain⟨ov2,qi⟩:∃ ov2,ov2=s:=⟨s,rfl⟩
    subst qi;exact⟨k+1,ov2,_,⟨rfl,rfl,trivial⟩,aH,⟨by omega,by rw[length_append,length_singleton];omega,hn,hw.tail.tail⟩,by omega⟩
  have ee:decide (((aD t V).getD k aI.dflt).src<0)=false:=decide_eq_false p1;cases p1b:S.getD ((aD t V).getD k aI.dflt).src.toNat ah.dflt
  ·have hn:=jR fun h=>by
    rcases h.1 with h|h
    ·exact p1 h
    ·have h2:S.getD ((aD t V).getD k aI.dflt).src.toNat ah.dflt=true:=h
     rw[p1b]at h2;cases h2
   refine cK ?_;intro p w hw
   try simp only[ee];refine cX ?_
   refine ab ?_
   try simp only[p1b];refine cX ?_
   refine ab ?_;exact⟨k+1,ov,xs,⟨rfl,rfl,trivial⟩,aH,⟨by omega,by omega,hn,hw.tail⟩,by omega⟩
  cases p2:B.getD ((aD t V).getD k aI.dflt).dst.toNat ah.dflt
  ·have hn:=jR fun h=>by
    have h2:B.getD ((aD t V).getD k aI.dflt).dst.toNat ah.dflt=true:=h.2;rw[p2]at h2;cases h2
   refine cK ?_;intro p w hw
   try simp only[ee];refine cX ?_
   refine ab ?_
   try simp only[p1b];refine cX ?_
   refine ab ?_
   try simp only[p2];refine cX ?_
   refine ab ?_;exact⟨k+1,ov,xs,⟨rfl,rfl,trivial⟩,aH,⟨by omega,by omega,hn,hw.tail⟩,by omega⟩
  ·have hn:=qxA ⟨.inr p1b,p2⟩
   refine cK ?_;intro p w hw
   try simp only[ee];refine cX ?_
   refine ab ?_
   try simp only[p1b];refine cX ?_
   refine ab ?_
   try simp only[p2];refine cX ?_
   repeat (first|refine bV ?_|(refine cB ?_;clear hw;intro s w hw))
   obtain⟨ov2,qi⟩:∃ ov2,ov2=s:=⟨s,rfl⟩
   subst qi;exact⟨k+1,ov2,_,⟨rfl,rfl,trivial⟩,aH,⟨by omega,by rw[length_append,length_singleton];omega,hn,hw.tail.tail⟩,by omega⟩
 have cH:k=(aD t V).length:=by omega
 subst cH;refine ab ?_;refine aJ rfl (qdk (s:=ov) hw om) ?_;clear hw;rintro _ w ⟨rfl,hw⟩;refine⟨_,rfl,?_⟩;refine ab ?_;refine aJ rfl (qdl (s:=ov) hw (by rw[qdb];omega)) ?_;clear hw;rintro _ w ⟨kv,rfl,hw⟩;refine⟨_,rfl,?_⟩;have gY:∀ x:Int,x∈cA (dF xs)↔∃ i:Nat,x=(i:Int)/\i<t.ops.length/\A8 (aF t cs) z V g0 i:=fun x=>by
  rw[qf7,qev,ed x];constructor
  ·rintro⟨j,h1,h2,h3,h4⟩
   have tZ:=bY aI.dflt h1;obtain⟨fp,ny,op,bW,rH⟩:=qk _ tZ;refine⟨op,by rw[<-h2,bW],rH,(qkr hg hV).2 ⟨_,tZ,bW,?_,(hTz _ fp.1 fp.2).1 h4⟩⟩;by_cases h0:((aD t V).getD j aI.dflt).src<0
   ·exact .inl h0
   ·rcases h3 with h|h
    ·exact .inl h
    ·exact .inr ((hSz _ om ny).1 h)
  ·rintro⟨i,rfl,cI,nz⟩
   obtain⟨a,ha,ho,ig,hz⟩:=(qkr hg hV).1 nz;obtain⟨fp,ny,_⟩:=qk a ha;obtain⟨j,hj,e⟩:=getElem_of_mem ha;refine⟨j,hj,?_⟩;rw[getD_at hj,e];refine⟨ho,?_,(hTz _ fp.1 fp.2).2 hz⟩;by_cases h0:a.src<0
   ·exact .inl h0
   ·rcases ig with h|h
    ·exact .inl h
    ·exact .inr ((hSz _ om ny).2 h)
 have nP:∀ x∈cA (dF xs),((x.toNat:Nat):Int)=x:=fun x hx=>by
  obtain⟨i,e,_⟩:=(gY x).1 hx;rw[e];rfl
 have qzs:((cA (dF xs)).map Int.toNat).map (fun i:Nat=>(i:Int))=cA (dF xs):=by
  rw[map_map]
  conv=>rhs;rw[<-map_id (cA (dF xs))]
  exact map_congr_left fun x hx=>nP x hx
 have mr:=qjP (qiC xs);refine ab ?_;refine aW (v:=kv) rfl rfl ⟨kv,(cA (dF xs)).map Int.toNat,rfl,?_,fun i=>?_,?_⟩
 ·refine pairwise_map.2 (Pairwise.imp_of_mem (fun {x y} hx hy bD=>?_) mr)
  have h1:=nP x hx;have h2:=nP y hy;omega
 ·rw[mem_map]
  constructor
  ·rintro⟨x,hx,rfl⟩
   obtain⟨i,e,h1,h2⟩:=(gY x).1 hx;rw[e,Int.toNat_natCast];exact⟨h1,h2⟩
  ·rintro⟨h1,h2⟩
   exact⟨(i:Int),(gY _).2 ⟨i,rfl,h1,h2⟩,rfl⟩
 ·rw[qzs];exact hw.only
structure Cb where
 ops:Value
 cost:Int
def jm:Ty Cb:=⟨2,fun x=>[x.ops,.int .i64 x.cost],fun _=>rfl,⟨.slice none 0 0,0⟩⟩
instance qxU:BN jm:=⟨trivial⟩
def Dk (t:Aa) (z cs:List Int) (L:List (List Nat × Int)):Prop:=∀ r,Ca t z cs r->Ca t z (ar t) (r.map (L++·))
theorem Dk.zero {t:Aa}{z:List Int}:Dk t z (ar t) []:=fun r h=>by
 have e:r.map (([]:List (List Nat × Int))++·)=r:=by cases r<;>rfl
 rw[e];exact h
theorem Dk.step {t:Aa}{z cs V:List Int}{L:List (List Nat × Int)}{g0:Int}{K:List Nat}{c:Int}(h:Dk t z cs L) (h1:AW (aF t cs) z V) (h2:0<bQ t.vars t.goal V) (h3:bQ t.vars t.goal V<inf) (h4:Bc V (cq t) g0) (h5:∀ i,i∈K↔i<t.ops.length/\A8 (aF t cs) z V g0 i) (h6:K.Pairwise (·<·)) (h7:BZ cs K c):Dk t z (gq cs K c) (L++[(K,c)]):=fun r hr=>by
 have:=h _ (.step h1 h2 h3 h4 h5 h6 h7 hr);have e:(r.map ((K,c)::·)).map (L++·)=r.map ((L++[(K,c)])++·):=by cases r<;>simp
 rw[e]at this;exact this
def nG (m x:Int):Int:=if x<m then x else m
def ju (cs:List Int) (m:Int) (K:List Nat):Int:=K.foldl (fun m i=>nG m (cs.getD i aa.dflt)) m
theorem qqA {cs:List Int}:∀ {K:List Nat}{m:Int},ju cs m K<=m/\(∀ i∈K,ju cs m K<=cs.getD i aa.dflt)/\(ju cs m K=m\/∃ i∈K,cs.getD i aa.dflt=ju cs m K)
 | [],m=>⟨Int.le_refl _,fun i hi=>absurd hi not_mem_nil,.inl rfl⟩
 | x::K,m=>by
  obtain⟨h1,h2,h3⟩:=qqA (cs:=cs) (K:=K) (m:=nG m (cs.getD x aa.dflt));have e:ju cs m (x::K)=ju cs (nG m (cs.getD x aa.dflt)) K:=rfl;have hs:nG m (cs.getD x aa.dflt)<=m/\nG m (cs.getD x aa.dflt)<=cs.getD x aa.dflt/\(nG m (cs.getD x aa.dflt)=m\/nG m (cs.getD x aa.dflt)=cs.getD x aa.dflt):=by unfold nG;split<;>omega
  rw[e];refine⟨by omega,fun i hi=>?_,?_⟩
  ·rcases mem_cons.1 hi with e|hi
   ·rw[e];omega
   ·exact h2 i hi
  ·rcases h3 with h3|⟨i,hi,h3⟩
   ·rcases hs.2.2 with h4|h4
    ·exact .inl om
    ·exact .inr ⟨x,mem_cons_self,by omega⟩
   ·exact .inr ⟨i,mem_cons_of_mem _ hi,h3⟩
theorem qvr {t:Aa}{cs:List Int}{K:List Nat}(hc:Az t cs) (cY:K≠[]) (bD:∀ i∈K,i<cs.length):BZ cs K (ju cs 1048576 K):=by
 obtain⟨h1,h2,h3⟩:=qqA (cs:=cs) (K:=K) (m:=1048576);refine⟨?_,h2⟩;rcases h3 with h3|⟨i,hi,h3⟩
 ·cases K with
  | nil=>exact absurd rfl cY
  | cons x K =>
   have hx:=bD x mem_cons_self;have h4:=hc.2 _ (bY aa.dflt hx);have h5:=h2 x mem_cons_self;exact⟨x,mem_cons_self,hx,by omega⟩
 ·exact⟨i,hi,bD i hi,h3⟩
theorem qhT {K:List Nat}{k:Nat}(h:k<K.length):K.take (k+1)=K.take k++[K[k]]:=by rw[take_add_one,getElem?_eq_getElem h];rfl
theorem qs6 (cs:List Int) (c:Int):gq cs [] c=cs:=by
 unfold gq;refine ext_getElem (by simp) fun i h1 h2=>?_;rw[getElem_map,getElem_range,if_neg not_mem_nil,getD_at h2]
theorem qs7 {cs:List Int}{K:List Nat}{c:Int}{k:Nat}(hk:k<K.length) (ha:K.Pairwise (·<·)) (hl:K[k]<cs.length):(gq cs (K.take k) c).set K[k] ((gq cs (K.take k) c).getD K[k] aa.dflt-c)=gq cs (K.take (k+1)) c:=by
 have hni:K[k]∉K.take k:=fun h=>by
  obtain⟨j,hj,e⟩:=getElem_of_mem h;rw[length_take]at hj;rw[getElem_take]at e;have:=pairwise_iff_getElem.1 ha j k om hk om;omega
 rw[vS hl,if_neg hni];refine ext_getElem (by rw[length_set,xC,xC]) fun i h1 h2=>?_;have hi:i<cs.length:=by rw[xC]at h2;exact h2
 rw[<-getD_at (d:=aa.dflt) h1,<-getD_at (d:=aa.dflt) h2,vS hi,qhT hk];rw[qt0 (by rw[xC];exact hl)];by_cases e:i=K[k]
 ·rw[if_pos e,if_pos (mem_append.2 (.inr (mem_singleton.2 e))),e]
 ·rw[if_neg e,vS hi]
  by_cases h:i∈K.take k
  ·rw[if_pos h,if_pos (mem_append.2 (.inl h))]
  ·rw[if_neg h,if_neg fun h2=>by
    rcases mem_append.1 h2 with h2|h2
    ·exact h h2
    ·exact e (mem_singleton.1 h2)]
theorem qvs {t:Aa}{V:List Int}(hn:∀ f∈cq t,0<=f/\0<=dg V f):gz V (cq t)=bQ t.vars t.goal V:=by
 rw[qqi hn];unfold cq bQ;rw[foldl_map]
theorem qoU {w0:World}{pr:Addr}{a fv gv cv0 lv sv:Value}{us:List Cy}{t:Aa}{z:List Int}(hr:CE w0 pr t a fv gv cv0 lv us) (hg:Af t) (hs:RS aa w0 sv z) (br:Ac t.vars z) :
  Calls Tryz.prog 267 #[.pointer (some pr),sv] w0 fun e w'=>(Ca t z (ar t) none/\e=.returned (.tuple #[.slice none 0 0,bE 3])/\Sat w0 w' [])\/∃ ov L cl,Ca t z (ar t) (some L)/\e=.returned (.tuple #[ov,.nilIface])/\cl.map Cb.cost=L.map Prod.snd/\(∀ x∈cl,x.ops.oneCell'=true)/\Sat w0 w' [OS jm 361 ov cl]:=by
 have hr0:=hr;obtain⟨hb,o8,kA,eQ,mE,mh,jv,hF⟩:=hr;have l5:=hg.ops;have rL:∀ {w:World}{Γ:List HP},Sat w0 w Γ->CE w pr t a fv gv cv0 lv us:=fun hw=>⟨hb.at hw,o8.at hw,kA.at hw,eQ.at hw,mE.at hw,mh.at hw,jv,hF.at hw⟩
 have vV:∀ f∈cq t,0<=f/\f<ay t:=fun f hf=>by
  obtain⟨x,hx,rfl⟩:=mem_map.1 hf;obtain⟨i,hi,e⟩:=getElem_of_mem hx;have ho:=(hg.goal i hi).1;rw[getD_at hi,e]at ho;have h1:=rz hg.pos ho;have h2:=pd hg;omega
 have hw:=Sat.start w0;refine bn (args:=[.pointer (some pr),sv]) mixed Tryz.func267 ?_;refine ab ?_;refine aJ rfl (wB (o8.at hw) (hs.at hw)) ?_;rintro _ w' ⟨⟨r,rfl,j1⟩,aj⟩;refine aC ?_;clear aj hw;intro hw;obtain rfl:r=true:=j1.2 br;refine ab ?_;refine aJ rfl (lx (mE.at hw) (by rw[uz];omega)) ?_;rintro _ w' ⟨cv,rfl,aj⟩;replace hw:Sat w0 w' [OS aa 3 cv (ar t)]:=hw.jC aj;clear aj;refine⟨_,rfl,?_⟩;replace hw:=hw.nil (T:=jm) (e:=361);refine ab ?_;refine cd [4,5,7,10,12,12,14,14,31,88] (G:=Value × List Int × List (List Nat × Int) × List Cb) (fun x=>[(7,x.1)]) (fun x w=>Az t x.2.1/\Dk t z x.2.1 x.2.2.1/\x.2.2.2.map Cb.cost=x.2.2.1.map Prod.snd/\(∀ y∈x.2.2.2,y.ops.oneCell'=true)/\x.2.2.2.length+fa x.2.1<=4294967296/\Sat w0 w [OS jm 361 x.1 x.2.2.2,OS aa 3 cv x.2.1]) (fun x=>fa x.2.1) (.slice none 0 0,ar t,[],[]) (fun _=>rfl) ⟨rfl,trivial⟩ ⟨qbA hg,Dk.zero,rfl,(fun x hx=>absurd hx not_mem_nil),?_,hw⟩ ?_
 ·have h3:=qqm (cs:=ar t) (B:=1048576) fun x hx=>(qeK hg x hx).2
  have h4:(ar t).length*1048576<=4096*1048576:=mul_le_mul_right _ (by rw[uz];exact hg.ops);show 0+fa (ar t)<=4294967296;omega
 clear hw;rintro σ ⟨ov,cs,L,cl⟩ w ⟨hc,vW,eN,hone,hlen,hw⟩;simp only at hc vW eN hone hlen hw;have qze:=hc.1;refine ab ?_;refine aJ rfl (qkZ (rL hw) hg hc (hs.at hw) br (aM (s:=cv) hw)) ?_;rintro _ w' ⟨vv,V,rfl,zo,aj⟩;refine aA ?_;clear aj hw;intro hw;have hVl:V.length=ay t:=zo.len;have fe:∀ f∈cq t,0<=f/\0<=dg V f:=fun f hf=>⟨(vV f hf).1,(zo.cC f (vV f hf).1 (vV f hf).2).1⟩
 have hgm:=qvs fe;have hmn:=wT t.vars t.goal V;have eT:bQ t.vars t.goal V<=inf:=qH (vz hg hc) zo;have einf:inf=1125899906842624:=rfl;refine ab ?_;refine aJ rfl (qcT (eQ.at hw) (aM (s:=vv) hw) fun f hf=>⟨(vV f hf).1,by have:=(vV f hf).2;omega⟩) ?_;rintro _ w' ⟨rfl,aj⟩;refine aC ?_;clear aj hw;intro hw;rw[hgm];refine ab ?_;refine ai ?_ ?_<;>intro h1
 ·have hL:=vW _ (.dead zo om)
  refine ab ?_;exact dz (v:=.slice none 0 0) (v':=.iface 57 (.int .i64 3)) rfl rfl rfl (.inl ⟨hL,by rw[ep (by decide)],lB hw⟩)
 refine ab ?_;refine ai ?_ ?_<;>intro h2
 ·have hL:=vW _ (.done zo h2)
  refine ab ?_;exact dz (v:=ov) (v':=.nilIface) rfl rfl rfl (.inr ⟨ov,L,cl,by simpa using hL,rfl,eN,hone,(hw.tail).only⟩)
 have xW:0<bQ t.vars t.goal V:=by omega
 have hpf:bQ t.vars t.goal V<inf:=by omega
 have qzf:cq t≠[]:=fun e=>by
  have:t.goal=[]:=by simpa [cq] using e
  rw[this]at xW;exact absurd xW (by simp[bQ])
 obtain⟨g0,qh⟩:=qhz (V:=V) qzf;have X:=qgB hg br hc zo xW hpf qh;refine ab ?_;refine aJ rfl (qrY (rL hw) hg hc (hs.at hw) br (aM (s:=cv) hw) (aM (s:=vv) hw) X) ?_;rintro _ w' ⟨kv,K,rfl,mr,hK,aj⟩;refine aA ?_;clear aj hw;intro hw;have zp:∀ i∈K,i<cs.length:=fun i hi=>by rw[qze];exact((hK i).1 hi).1
 have qzg:K≠[]:=fun e=>by
  obtain⟨i,h3,h4⟩:=qiV X;have:=(hK i).2 ⟨h3,h4⟩;rw[e]at this;exact absurd this not_mem_nil
 have tR:=qvr hc qzg zp;have hCA:=qm7 hg hc X hK mr tR;have okv:=(aM (s:=kv) hw).one;have qzh:(K.map fun i:Nat=>(i:Int)).length=K.length:=length_map _;refine ab ?_;refine wA (v1:=kv) (v2:=.int .i64 1048576) rfl rfl rfl (by simp only[all_cons,all_nil,okv];rfl) ?_;refine qx0 ?_;intro p w hw;obtain⟨pc,hpc⟩:∃ pc,pc=p:=⟨p,rfl⟩
 subst hpc;refine gZ (n:=2) (p:=pc) (vs:=[kv,.int .i64 1048576]) rfl rfl hw inferInstance rfl rfl (by simp only[all_cons,all_nil,okv];rfl) ?_;clear hw;intro w hw;obtain⟨KI,hKI⟩:∃ KI,KI=K.map fun i:Nat=>(i:Int):=⟨_,rfl⟩
 rw[<-hKI]at hw qzh;have hKl:K.length<=t.ops.length:=by
  have h1:=qkn (l:=K) (m:=List.range t.ops.length) (mr.imp fun h=>ne_of_lt h) fun i hi=>mem_range.2 ((hK i).1 hi).1;rw[length_range]at h1;exact h1
 have qxg:∀ k (h:k<K.length),KI.getD k aa.dflt=(K[k]:Int):=fun k h=>by
  rw[hKI,getD_at (by rw[length_map];exact h),getElem_map]
 refine ab ?_;refine cd [12,12,56,68] (G:=Nat) (fun k=>[(56,.int .i64 k)]) (fun k w=>k<=K.length/\Sat w0 w [Ad pc 361 [kv,.int .i64 (ju cs 1048576 (K.take k))],OS aa 3 kv KI,OS aa 3 vv V,OS jm 361 ov cl,OS aa 3 cv cs]) (fun k=>K.length-k) 0 (fun _=>rfl) ⟨rfl,trivial⟩ ⟨zero_le _,hw⟩ ?_;clear hw;rintro σ1 k w ⟨hk,hw⟩;refine ab ?_;refine ai ?_ ?_<;>intro h3
 ·have aK:k<K.length:=by omega
  have wR:=qxg k aK;have hkc:=zp _ (getElem_mem aK);have ik:ju cs 1048576 (K.take (k+1))=nG (ju cs 1048576 (K.take k)) (cs.getD K[k] aa.dflt):=by rw[qhT aK];unfold ju;rw[foldl_append];rfl
  refine ab ?_;refine nK ?_;clear hw;intro w hw;refine fy ?_;intro w hw;simp only[set_cons_succ,set_cons_zero]at hw;rw[wR,Int.toNat_natCast,show (if cs.getD K[k] aa.dflt<ju cs 1048576 (K.take k) then cs.getD K[k] aa.dflt else ju cs 1048576 (K.take k))=ju cs 1048576 (K.take (k+1)) from ik.symm]at hw;exact⟨k+1,⟨rfl,trivial⟩,aH,⟨by omega,hw⟩,by omega⟩
 have cH:k=K.length:=by omega
 rw[cH,take_of_length_le (Nat.le_refl _)]at hw;obtain⟨c,hcd⟩:∃ c,c=ju cs 1048576 K:=⟨_,rfl⟩
 rw[<-hcd]at hw tR hCA;rw[<-qs6 cs c]at hw;have qxh:=hCA.pos;have qxi:=hCA.le;refine ab ?_;refine cd [14,14,72,84] (G:=Nat) (fun k=>[(72,.int .i64 k)]) (fun k w=>k<=K.length/\Sat w0 w [Ad pc 361 [kv,.int .i64 c],OS aa 3 kv KI,OS aa 3 vv V,OS jm 361 ov cl,OS aa 3 cv (gq cs (K.take k) c)]) (fun k=>K.length-k) 0 (fun _=>rfl) ⟨rfl,trivial⟩ ⟨zero_le _,hw⟩ ?_;clear hw;rintro σ2 k w ⟨hk,hw⟩;refine ab ?_;refine ai ?_ ?_<;>intro h4
 ·have aK:k<K.length:=by omega
  have wR:=qxg k aK;have hkc:=zp _ (getElem_mem aK);have iL:=xC cs (K.take k) c;have cu:=qs7 (c:=c) aK mr hkc;have mE:=hc.2 _ (bY aa.dflt hkc);have hsa:=vS (cs:=cs) (K:=K.take k) (c:=c) hkc;have hsr : -1048576<=(gq cs (K.take k) c).getD K[k] aa.dflt/\(gq cs (K.take k) c).getD K[k] aa.dflt<=1048576:=by
   rw[hsa];split<;>omega
  have gW:(KI.getD k aa.dflt).toNat=K[k]:=by rw[wR];rfl
  have qzV : -1048576<=(gq cs (K.take k) c).getD (KI.getD k aa.dflt).toNat aa.dflt/\(gq cs (K.take k) c).getD (KI.getD k aa.dflt).toNat aa.dflt<=1048576:=by rw[gW];exact hsr
  refine ab ?_;refine nK ?_;clear hw;intro w hw;refine fy ?_;intro w hw;rw[gW,cu]at hw;exact⟨k+1,⟨rfl,trivial⟩,aH,⟨by omega,hw⟩,by omega⟩
 have rJ:k=K.length:=by omega
 rw[rJ,take_of_length_le (Nat.le_refl _)]at hw;have qw9:=qiW (fun x hx=>(hc.2 x hx).1) om tR;refine ab ?_;refine jh jm (x1:=⟨kv,c⟩) rfl rfl rfl (le_of_ble_eq_true rfl) (zero_lt_succ _) hw ?_;clear hw;intro so w hw;refine rT (s:=ov) (s2:=so) inferInstance rfl rfl (aM hw) rfl rfl (fun x hx v hv=>?_) (by simp only[length_cons,length_nil];omega) (by unfold bo;simp only[length_cons,length_nil];omega) hw ?_
 ·rw[mem_singleton.1 hx]at hv
  simp only[jm,mem_cons,not_mem_nil,or_false]at hv;rcases hv with rfl|rfl
  ·exact okv
  ·rfl
 clear hw;intro ov2 w hw;refine ab ?_
 exact⟨(ov2,gq cs K c,L++[(K,c)],cl++[⟨kv,c⟩]),⟨rfl,trivial⟩,aH,⟨qe2 hc tR,vW.step zo xW hpf qh hK mr tR,by simp[eN],fun x hx=>(by
  rcases mem_append.1 hx with hx|hx
  ·exact hone x hx
  ·rw[mem_singleton.1 hx];exact okv),by simp only[length_append,length_singleton];omega,hw.aT⟩,by simp only;omega⟩
end
end Go.Proofs.YtmapkjoefdgjfaaGreatDoor
