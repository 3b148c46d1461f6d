/- Several texts. -/
import Derived.Test.YtmapkjoefdgjfaaGreatDoorMW8
set_option linter.unusedSimpArgs false
set_option linter.unusedVariables false
set_option maxRecDepth 8000
set_option maxHeartbeats 16000000
open List Nat
namespace Go.Proofs.YtmapkjoefdgjfaaGreatDoor
open Go.Sl Go
attribute [local irreducible] vc opsW opsD opV opW PureV ReadV Thn Blk
theorem qho {w0:World}{pb:Addr}{a:Value}{L:List Int}(hc:w0.cell? pb=some a) (ha:RS aa w0 a L) (hl:L.length<=4096) :
  Calls Tryz.prog 145 #[.slice none 0 0,.func (.func 113) #[] #[.pointer (some pb)]] w0 fun e w'=>∃ s,e=.returned s/\Sat w0 w' [OS aa 3 s L]:=by
 have hw:=Sat.start w0;refine(callsIn_wide (n:=3)).1 (callsIn_of_wp_marks (F:=Fence.wide) (n:=3) Tryz.func145 rfl trivial ?_);refine qdw (ro:=none) (n:=13) mixed kr (by simp only[Array.size_append,Array.size_replicate];rfl) rfl ?_;rw[show (#[.slice none 0 0,.func (.func 113) #[] #[.pointer (some pb)]]:Array Value)=[.slice none 0 0,.func (.func 113) #[] #[.pointer (some pb)]].toArray from rfl,qp2];refine qu ?_;refine wz ?_;clear hw;intro p2 w hw;refine ab ?_;intro a1 jy ee y9;refine wpIn_seq ?_;refine qdw (ro:=none) (n:=13) mixed kr jy ee ?_;rw[y9];refine ab ?_;intro a2 dW jI hf2;clear y9 ee jy;refine wpIn_block ?_;have oM:a2.defers=[]:=jI;have ea:(⟨a2.tmps,[]⟩:Act)=a2:=by rw[<-oM]
 have ez:∀ x:Int,({ tmps:=(#[7].zip (zf x)).foldl (fun t (p,v)=>t.setIfInBounds p v) a2.tmps,defers:=[] }:Act)=a2.put (some 7) (.int .i64 x):=fun x=>by
  rw[<-ea];unfold zf;simp[Act.put]
 obtain⟨W0,hW0⟩:∃ W0,W0=w:=⟨_,rfl⟩
 have hB:w0.heap.size<=w.heap.size:=hw.below.size
 refine wpIn_rangeFunc_ownF (F:=Fence.wide) (n:=3) (α:=Int) rfl (by decide) (gf:=113) (lb:=#[.pointer (some pb)]) (by rw[<-nu,hf2];rfl) trivial (fun args w=>Ae.run inferInstance args w)
  (qkL (n:=2) hc ha)
  (fun h k=>⟨fun e=>k.1 (h.1 e),fun e=>k.2 (h.2 e)⟩) (fun W l o o' _ hl ho _=>⟨qdY hl ho,qj3 hl ho⟩) hw.below (fun _=>rfl)
  (fun pre W=>∃ v,BV w0 W [OS aa 3 v pre,Ad p2 22 [v]])
  (fun _ _ _=>False) (fun s W W' row ⟨v,h⟩ hg hr=>⟨v,h.qw7 hB hg hr⟩) (fun _=>fun _ _ _ _ h=>h.elim) ⟨.slice none 0 0,(hw.nil (T:=aa) (e:=3)).toN⟩
  (fun x=>(a2.put (some 7) (.int .i64 x)).put (some 5) (.int .i64 x)) ?assign ?body ?done ?stop
 case assign =>
  intro l x W K hK;rw[ez];refine qfp (ro:=some l) mixed (by rw[size_put,dW];decide) (by rw[xd];exact oM) ?_;rw[te (fun t e=>by cases e;rw[dW];decide)];exact hK
 case body =>
  rintro l pre x W ⟨v,hC⟩ hlen;have hb:=hC.below;refine wpIn_mono (tm (ro:=some l) (n:=13) mixed _ kr (fun e ρ W'=>e=.normal/\W.heap.size<=W'.heap.size/\∃ v',Sat w0 W' (CZ w0 W::[OS aa 3 v' (pre++[x]),Ad p2 22 [v']])) _ _ (by rw[size_put,size_put,dW]) (by rw[xd,xd];exact oM) ?_) ?_
  ·rw[te (fun t e=>by cases e;rw[size_put,dW];decide),te (fun t e=>by cases e;rw[dW];decide),hf2]
   clear hw;have hw:=hC.open;have iP:pre.length<=4096:=by omega
   refine zM ?_;refine qu ?_
   repeat (first|refine xL ?_|refine zF ?_)
   refine qgp aa (x1:=x) rfl rfl rfl (le_of_ble_eq_true rfl) (zero_lt_succ _) hw ?_;clear hw;intro s1 w1 hz1 hw;refine qn8 (T:=aa) (sz:=1) (by_:=8) (e:=3) (zs:=[.int .i64 0]) (s:=v) (s2:=s1) (xs:=pre) (ys:=[x]) inferInstance rfl rfl (aM hw) rfl rfl (fun y _ u hu=>Bn.ok y u hu) (by simp only[length_cons,length_nil];omega) (by unfold bo;simp only[length_cons,length_nil];omega) hw ?_;clear hw;intro s2 w2 hz2 hw;refine qqR (k:=0) (p:=p2) (v:=s2) (by simp[Addr.add];rfl) rfl ((aM (s:=s2) hw).one) hw inferInstance (by simp) ?_;clear hw;intro w3 hw w5;refine ab ?_;exact⟨rfl,by rw[w5.1];omega,s2,hw.tail⟩
  ·intro e a' W' hq
   obtain⟨_,_,rfl,eM,v',dA⟩:=hq;obtain⟨h1,h2⟩:=Sat.y8 hb dA eM;exact⟨h2,⟨fun _=>qdr hc dA,fun _=>ha.at dA⟩,v',h1⟩
 case done =>
  rintro D xs W hD hS ⟨v,hC⟩ hK;show Code.wpIn (fw none) 3 _ _ _ _ _;refine wpIn_seq ?_;refine qj6 (n:=13) (ds:={ target:=.collected D,args:=#[] }::a2.defers) (K:=fun ρ w'=>ρ 4=v/\w'=W) (fun a w h=>?_) kr dW rfl ?_
  ·obtain⟨g1,g2,g3,rfl⟩:=h
   show Code.wpIn (fw none) 3 _ _ _ _ _;refine wpIn_ret ?_;rw[oM]at g2;obtain⟨at1,ad1⟩:=a;subst g2;refine⟨by simp,.inl ⟨_,_,rfl,run_takeDeferred hK,?_⟩⟩;have hI:∃ v',v'=v/\BV w0 (w.putObj D (.deferred none)) [OS aa 3 v' xs,Ad p2 22 [v']]:=⟨v,rfl,hC.qw7 hB (grownBy_putObj' w D (.deferred none)) fun r e=>by cases e;exact⟨hD,_,hK,rfl⟩⟩
   obtain⟨v',rfl,hI⟩:=hI;have hS:xs=L:=hS;subst hS;have g4:at1[4]?.getD undef=v':=by rw[<-Array.getD_eq_getD_getElem?];exact g3
   exact⟨v',by simp[results,Tryz.f145,Act.eval,g4],v',rfl,hI.tE.aT⟩
  ·clear hw
   have hw:=hC.tE;show opsW _ _ _ [_,_] (fr a2) _;rw[hf2];refine ab ?_;exact⟨rfl,rfl⟩
 case stop =>
  rintro D c pre W _ _ hF _;exact hF.elim
theorem qnP (n:Nat):dF (bX n)=bX n:=by
 unfold dF;refine mergeSort_of_pairwise ?_;unfold bX;rw[pairwise_map];exact pairwise_lt_range.imp fun h=>by simp;omega
theorem qkT {w0:World}{pb:Addr}{a:Value}{L:List Int}(hc:w0.cell? pb=some a) (ha:RS aa w0 a L) (hl:L.length<=4096) :
  Calls Tryz.prog 112 #[.func (.func 113) #[] #[.pointer (some pb)]] w0 fun e w'=>∃ s,e=.returned s/\Sat w0 w' [OS aa 3 s L]:=by
 have hw:=Sat.start w0;refine bn (args:=[.func (.func 113) #[] #[.pointer (some pb)]]) mixed Tryz.func112 ?_;refine ab ?_;refine aJ rfl (qho (qdr hc hw) (ha.at hw) hl) ?_;rintro _ w' ⟨s,rfl,aj⟩;refine aA ?_;clear aj hw;intro hw;refine ab ?_;exact aW (v:=s) rfl rfl ⟨s,rfl,hw⟩
theorem ql5 {w0:World}{pb:Addr}{a:Value}{L:List Int}(hc:w0.cell? pb=some a) (ha:RS aa w0 a L) (hl:L.length<=4096) :
  Calls Tryz.prog 87 #[.func (.func 113) #[] #[.pointer (some pb)]] w0 fun e w'=>∃ s,e=.returned s/\Sat w0 w' [OS aa 3 s (dF L)]:=by
 have hw:=Sat.start w0;refine bn (args:=[.func (.func 113) #[] #[.pointer (some pb)]]) mixed Tryz.func87 ?_;refine ab ?_;refine aJ rfl (qkT (qdr hc hw) (ha.at hw) hl) ?_;rintro _ w' ⟨s,rfl,aj⟩;refine aA ?_;clear aj hw;intro hw;refine ab ?_;refine aJ rfl (qdk (s:=s) hw om) ?_;rintro _ w' ⟨rfl,dA⟩;clear hw;have hw:=dA;clear dA;refine⟨_,rfl,?_⟩;refine ab ?_;exact aW (v:=s) rfl rfl ⟨s,rfl,hw⟩
theorem quE {S:Ak}(hv:Ar S):((j8 S).length:Int)=S.st:=by
 have h:=(qtS (qlx hv) (fr:=eP S.goals S.goals.length) (qin _) (fun i hi=>by have:=qf8.1 hi;have h3:=hv.2.2.2.2.1;omega)).1.ol;have h1:=hv.1;unfold j8 zU rq;omega
def Dc (t:Aa) (L:List Bb) (D:List Int):Prop:=(∀ k,k<L.length->∃ n,Ch t.vars L n)/\∀ s,Ac t.vars s->0<=lh s L/\lh s L<D.length
theorem ql4 {w0:World}{a b c d ov:Value}{vs:List AK}{t:Aa}{M:Int}(hT:Bv w0) (hg:Af t) (ht:Am w0 a b c d vs t) (ho:RS aa w0 ov (bX t.vars.length)) :
  Calls Tryz.prog 58 #[.agg #[a,b,c,d],ov,.int .i64 M] w0 fun e w'=>(dh t M≠0/\e=.returned (.tuple #[.pointer none,bE (dh t M)])/\Sat w0 w' [])\/(dh t M=0/\Dc t (na t M) (pF t M)/\∃ p,e=.returned (.tuple #[.pointer (some p),.nilIface])/\Sat w0 w' [Aj fun w=>CJ w p t (na t M) (pF t M)]):=by
 have lA:=(nZ t).2 hg;have sA:=hg.vars;have iL:(bX t.vars.length).length=t.vars.length:=zP _;have eW:=ht.1.bo;have hw:=Sat.start w0;refine bn (args:=[.agg #[a,b,c,d],ov,.int .i64 M]) mixed Tryz.func58 ?_;refine cK ?_;intro p w hw;obtain⟨pt,dO⟩:∃ q,q=p:=⟨p,rfl⟩
 subst dO;have hw:Sat w0 w [Ad pt 26 [a,b,c,d]]:=hw;refine aJ rfl (sH (ht.at hw)) ?_;refine mf ?_;clear hw;intro w' hw;rw[lA,iy rfl];refine ab ?_;refine aJ rfl (qmh (a:=ov)) ?_;rintro _ w' ⟨pb,rfl,aj⟩;refine aA ?_;clear aj hw;intro hw;rw[ho.dc]at hw;refine ab ?_;refine aJ rfl (ql5 (zV (i:=0) hw rfl rfl) (ho.at hw) om) ?_;rintro _ w' ⟨sv,rfl,aj⟩;refine aA ?_;clear aj hw;intro hw;rw[qnP]at hw;have iu:=ht.1;refine ab ?_;refine aJ rfl (qib (n:=t.vars.length) om) ?_;rintro _ w' ⟨ev,rfl,aj⟩;refine aA ?_;clear aj hw;intro hw;refine ab ?_;refine aJ rfl (qhd (aM (s:=sv) hw) (aM (s:=ev) hw)) ?_;rintro _ w' ⟨⟨eq,rfl,heq⟩,aj⟩;refine aC ?_;clear aj hw;intro hw;have heq:=heq.2 rfl;subst heq;refine ab ?_;refine aJ rfl (lx (iu.at hw) om) ?_;rintro _ w' ⟨vv,rfl,aj⟩;refine aA ?_;clear aj hw;intro hw;have ov1:=(aM (s:=vv) hw).one;refine ab ?_;refine iN (parts:=[(0,.tmp 31),(3,.const (.bool true))]) (vs:=[(0,vv),(3,.bool true)]) rfl rfl (by simp only[all_cons,all_nil,ov1];rfl) ?_;obtain⟨K,hK⟩:∃ K:Nat,(K:Int)=iz M:=⟨(iz M).toNat,by unfold iz;omega⟩
 have hK1:1<=K/\K<=4096:=by unfold iz at hK;omega
 have hMv:(if (if 4096<M then 4096 else M)>1 then (if 4096<M then 4096 else M) else 1)=(K:Int):=by rw[hK];unfold iz;split<;>split<;>omega
 refine cK ?_;intro p w hw;rw[hMv];obtain⟨pa,hpa⟩:∃ q,q=p:=⟨p,rfl⟩
 subst hpa;have hw:Sat w0 w [Ad pa 164 [vv,.slice none 0 0,.slice none 0 0,.bool true],OS aa 3 vv t.vars,OS aa 3 ev (bX t.vars.length),OS aa 3 sv (bX t.vars.length),Ad pb 22 [ov],Ad pt 26 [a,b,c,d]]:=hw;have ct:Sat w0 w (Ad pa 164 [vv,.slice none 0 0,.slice none 0 0,.bool true]::OS aa 3 vv t.vars::[Ad pt 26 [a,b,c,d]]):=hw.aT;refine aJ rfl (qrv (M:=K) ct hT hg ht ho hK1.1 hK1.2) ?_;clear hw ct;rintro _ w ⟨cv,ce,cg,sv,ms,ex,rfl,hC,hw⟩;refine⟨_,rfl,?_⟩;rw[hK]at hC hw ⊢;obtain⟨X,hX⟩:∃ X,X=fV t (iz M) t.vars.length:=⟨_,rfl⟩
 have hS:na t M=X.de:=by unfold na;rw[<-hX]
 have hD:pF t M=j8 X.cur:=by unfold pF;rw[<-hX]
 rw[<-hX]at hC hw ⊢;have oX:=(hw.dM 3 rfl).jE;unfold bN;by_cases he:X.err=0;rotate_left
 ·have hE:dh t M=X.err:=by unfold dh;rw[<-hX,if_pos he]
  rw[ep he];refine cK ?_;intro p w hw;exact dz (v:=.pointer none) (v':=bE X.err) rfl (by rfl) (by rw[ep he];rfl) (.inl ⟨by rw[hE];exact he,by rw[hE],hw.aT⟩)
 rw[iy he];refine cK ?_;intro p w hw;refine aJ rfl (qrB (S:=X.cur) (hw.dM 4 rfl)) ?_;rintro _ w' ⟨dv,rfl,aj⟩;refine aA ?_;clear aj hw;intro hw;have od:=(aM (s:=dv) hw).one;by_cases hv:fM X.cur=true;rotate_left
 ·have sJ:¬Ar X.cur:=fun h=>hv (xX h)
  have hE:dh t M=2:=by unfold dh;rw[<-hX,if_neg (fun h=>h he),if_neg sJ]
  have hdE:fD X.cur=2:=by unfold fD;rw[if_neg hv]
  rw[hdE,ep (show (2:Int)≠0 by decide)];refine fy ?_;intro w hw;exact dz (v:=.pointer none) (v':=bE 2) rfl (by rfl) (by rw[ep (show (2:Int)≠0 by decide)];rfl) (.inl ⟨by rw[hE];decide,by rw[hE],hw.aT⟩)
 have sJ:Ar X.cur:=Classical.byContradiction fun h=>by rw[r6 h]at hv;cases hv
 have hE:dh t M=0:=by unfold dh;rw[<-hX,if_neg (fun h=>h he),if_pos sJ]
 have hdE:fD X.cur=0:=by unfold fD;rw[if_pos hv]
 have hdR:pG X.cur=j8 X.cur:=by unfold pG;rw[if_pos hv]
 rw[hdE,iy rfl];rw[hdR]at hw;refine fy ?_;intro w hw;simp only[set_cons_succ,set_cons_zero]at hw;refine dz (v:=.pointer (some pa)) (v':=.nilIface) rfl rfl rfl (.inr ⟨hE,?_,pa,rfl,?_⟩)
 ·rw[hS,hD]
  have jZ:=quE sJ;have jA:=sJ.1;by_cases h0:t.vars.length=0
  ·have hXs:X.de=[]:=by rw[hX,h0];rfl
   rw[hXs];exact⟨fun k hk=>absurd hk (by simp),fun s _=>⟨Int.le_refl _,by show (0:Int)<_;omega⟩⟩
  ·have hI:=hC he om
   exact⟨fun _ _=>⟨_,hI.ch⟩,fun s hs=>by have:=hI.ch.at hs;omega⟩
 rw[hS,hD];have h1:Sat w0 w (Ad pa 164 [vv,sv,dv,.bool ex]::OS aa 3 vv t.vars::OS dH 201 sv ms::Aj (Bi ms X.de)::OS aa 3 dv (j8 X.cur)::[]):=hw.aT;exact Sat.rd (Δ:=[_,_,_,_,_]) (fun _ _ h=>⟨vv,sv,dv,_,ms,fun j v hv=>jw (i:=0) h rfl hv,h.rs 1 rfl,h.rs 2 rfl,h.dM 3 rfl,h.rs 4 rfl⟩) h1
theorem qg1 {w0:World}{a:Value}{xs:List Fact}(ha:RS aq w0 a xs) (hn:xs.length<=1099511627776) :
  Calls Tryz.prog 73 #[a] w0 fun e w'=>∃ s,e=.returned s/\Sat w0 w' [OS aq 63 s xs]:=by
 have hw:=Sat.start w0;obtain⟨ad,cap,hs⟩:=ha.shape;subst hs;refine bn (args:=[.slice ad xs.length cap]) mixed Tryz.func73 ?_;refine ab ?_;refine eD rfl (qe1 (a:=ad) (n:=xs.length) (c:=cap) rfl) ?_
 cases ad with
 | none =>
  have h0:xs=[]:=by
   rcases eq_zero_or_pos xs.length with h|h
   ·exact eq_nil_of_length_eq_zero h
   ·obtain⟨p,c2,he,_⟩:=ha.some (by decide) h
    cases he
  subst h0;refine ab ?_
  exact aW (v:=.slice none 0 0) rfl rfl ⟨_,rfl,hw.nil⟩
 | some p =>
  refine ab ?_;refine xO aq hw ?_;clear hw;intro s1 w hw;refine kq ?_;intro s w hw;rw[nil_append]at hw;exact aW (v:=s) rfl rfl ⟨_,rfl,hw⟩
theorem ql2 {w0:World}{a:Value}{xs:List Bw}(ha:RS aR w0 a xs) (hn:xs.length<=1099511627776) (ho:∀ x∈xs,∀ v∈aR.enc x,v.oneCell'=true) :
  Calls Tryz.prog 72 #[a] w0 fun e w'=>∃ s,e=.returned s/\Sat w0 w' [OS aR 61 s xs]:=by
 have hw:=Sat.start w0;obtain⟨ad,cap,hs⟩:=ha.shape;subst hs;refine bn (args:=[.slice ad xs.length cap]) mixed Tryz.func72 ?_;refine ab ?_;refine eD rfl (qe1 (a:=ad) (n:=xs.length) (c:=cap) rfl) ?_
 cases ad with
 | none =>
  have h0:xs=[]:=by
   rcases eq_zero_or_pos xs.length with h|h
   ·exact eq_nil_of_length_eq_zero h
   ·obtain⟨p,c2,he,_⟩:=ha.some (by decide) h
    cases he
  subst h0;refine ab ?_
  exact aW (v:=.slice none 0 0) rfl rfl ⟨_,rfl,hw.nil⟩
 | some p =>
  refine ab ?_;refine xO aR hw ?_;clear hw;intro s1 w hw;refine ab ?_;refine qjz ?_ (hone:=ho);clear hw;intro s w hw;refine ab ?_;rw[nil_append]at hw;exact aW (v:=s) rfl rfl ⟨_,rfl,hw⟩

theorem yT {w0:World}{a:Value}{xs:List Fact}(ha:RS aq w0 a xs) (hn:xs.length<=1099511627776) :
  Calls Tryz.prog 48 #[a] w0 fun e w'=>∃ s,e=.returned s/\Sat w0 w' [OS aq 63 s xs]:=by
 have hw:=Sat.start w0;refine bn (args:=[a]) mixed Tryz.func48 ?_;refine ab ?_;refine aJ rfl (qg1 ha hn) ?_;rintro _ w' ⟨s,rfl,aj⟩;refine aA ?_;clear aj hw;intro hw;refine ab ?_;exact aW (v:=s) rfl rfl ⟨_,rfl,hw⟩
structure CX (E:List BD) (us:List Bw) (j:Nat) (es:List Bw):Prop where
 len:es.length=E.length
 pX:∀ i,i<E.length->(az aR es i).var=(E.getD i ba).var/\(az aR es i).val=(E.getD i ba).val
 old:∀ i,j<=i->i<E.length->(az aR es i).when=(az aR us i).when
def BU (E:List BD) (j:Nat) (es:List Bw) (w:World):Prop:=∀ i,i<j->RS aq w (az aR es i).when (E.getD i ba).when
theorem qiE {α:Type}{T:Ty α}{xs:List α}{i j:Nat}{x:α}(hj:j<xs.length):az T (xs.set j x) i=if i=j then x else az T xs i:=by
 rw[n0,n0];by_cases e:i=j
 ·subst e;rw[if_pos rfl];simp[List.getD,hj]
 ·rw[if_neg e];simp only[List.getD];rw[getElem?_set_ne (fun h=>e h.symm)]
theorem CX.step {E:List BD}{us es:List Bw}{j:Nat}(h:CX E us j es) (hj:j<E.length) {s:Value}:CX E us (j+1) (es.set j ⟨s,(az aR es j).var,(az aR es j).val⟩):=by
 have hl:=h.len;refine⟨by simp[hl],fun i hi=>?_,fun i hi oh=>?_⟩
 ·rw[qiE om]
  split
  ·rename_i e;rw[e];exact h.pX j hj
  ·exact h.pX i hi
 ·rw[qiE om,if_neg om]
  exact h.old i om oh
theorem BU.step {E:List BD}{es:List Bw}{j:Nat}{w:World}(h:BU E j es w) (hj:j<es.length) {s:Value}{a b:Int}(hs:RS aq w s (E.getD j ba).when):BU E (j+1) (es.set j ⟨s,a,b⟩) w:=fun i hi=>by
 rw[qiE hj];split
 ·rename_i e;subst e;exact hs
 ·exact h i om
def Bg (t:Aa) (k:Nat) (ws:List AK) (w:World):Prop:=∀ i,i<k->Cm w (az bJ ws i) (t.ops.getD i aO)
theorem qsE {α:Type}{T:Ty α}{xs:List α}{x:α}{i:Nat}:az T (xs++[x]) i=if i<xs.length then az T xs i else if i=xs.length then x else T.dflt:=by
 rw[n0,n0];by_cases h:i<xs.length
 ·rw[if_pos h];simp[getD_eq_getElem?_getD,getElem?_append_left h]
 ·rw[if_neg h]
  by_cases e:i=xs.length
  ·subst e;rw[if_pos rfl];simp[getD_eq_getElem?_getD]
  ·rw[if_neg e];simp[getD_eq_getElem?_getD,getElem?_append_right (Nat.le_of_not_lt h),getElem?_cons,show ¬i-xs.length=0 by omega]
theorem Bg.step {t:Aa}{k:Nat}{ws:List AK}{w:World}{v:AK}(h:Bg t k ws w) (hl:ws.length=k) (hv:Cm w v (t.ops.getD k aO)):Bg t (k+1) (ws++[v]) w:=fun i hi=>by
 rw[qsE];by_cases e:i<k
 ·rw[if_pos om];exact h i e
 ·have e2:i=k:=by omega
  rw[if_neg om,if_pos om,e2];exact hv
theorem qn5 {w:World}{s:Value}{us:List Bw}{E:List BD}(h:B2 w s us E):∀ x∈us,∀ v∈aR.enc x,v.oneCell'=true:=fun x hx v hv=>by
 obtain⟨i,hi,rfl⟩:=getElem_of_mem hx;have h1:=(h.at_ i (by have:=h.len;omega)).one;rw[n0,getD_at hi]at h1;exact all_eq_true.1 h1 v hv
def A9 (t:Aa) (a b c:Value) (w:World):Prop:=RS aa w a t.vars/\RS aa w b t.init/\RS aq w c t.goal
theorem qg7 {w0:World}{a b c d:Value}{vs:List AK}{t:Aa}(ht:Am w0 a b c d vs t) (hg:Af t) :
  Calls Tryz.prog 46 #[.agg #[a,b,c,d]] w0 fun e w'=>∃ a2 b2 c2 d2 vs2,e=.returned (.agg #[a2,b2,c2,d2])/\Sat w0 w' [Aj fun w=>Am w a2 b2 c2 d2 vs2 t]:=by
 have eF:=ht;obtain⟨ha,hb,hc,hd⟩:=ht;have hdr:=hd.rs;have jZ:=hd.len;have l5:=hg.ops;have eW:=hg.vars;have cI:=hg.init.1;have kL:=qI hg.goal;have hw:=Sat.start w0;refine bn (args:=[.agg #[a,b,c,d]]) mixed Tryz.func46 ?_;refine rU ?_;refine qu ?_;refine wz ?_;clear hw;intro pt w hw;replace hw:Sat w0 w [Ad pt 26 [a,b,c,d]]:=hw;refine qfB ?_;clear hw;intro pr w hw;refine ab ?_;refine rp [3,3,7,16] (G:=Addr × Value × Value × Value) (fun g=>[(3,.pointer (some g.1))]) (fun g w=>Sat w0 w [Ad g.1 26 [g.2.1,g.2.2.1,g.2.2.2,.slice none 0 0],OS aa 3 g.2.1 t.vars,OS aa 3 g.2.2.1 t.init,OS aq 63 g.2.2.2 t.goal,Ad pr 26 [.slice none 0 0,.slice none 0 0,.slice none 0 0,.slice none 0 0],Ad pt 26 [a,b,c,d]]) (fun _=>rfl) ?_ ?_
 ·refine qeV (.s [0,3,6,1,4,7] (.d 2 [4,7] (.d 5 [7] (.d 8 [] (.d 9 [] (.c 10 [1,4,7] (.s [11] (.lin []))) (.d 10 [1,4,7] (.s [9,11] (.lin [])) (.stop))) (.d 10 [1,4,7] (.s [8,9,11] (.lin [])) (.stop))) (.d 10 [1,4,7] (.c 5 [7] (.s [8,9,11] (.lin []))) (.stop))) (.d 10 [1,4,7] (.c 2 [4,7] (.c 5 [7] (.s [8,9,11] (.lin [])))) (.stop)))) hw kr kr ?_;clear hw;intro w hw
  refine ab ?_;refine jz ?_ (jz ?_ pU)
  ·refine ab ?_
   refine aJ rfl (lx (ha.at hw) om) ?_;rintro _ w' ⟨a2,rfl,aj⟩;refine aA ?_;clear aj hw;intro hw;refine ab ?_;refine jz ?_ (jz ?_ pU)
   ·refine ab ?_
    refine aJ rfl (lx (hb.at hw) om) ?_;rintro _ w' ⟨b2,rfl,aj⟩;refine aA ?_;clear aj hw;intro hw;refine ab ?_;refine jz ?_ (jz ?_ pU)
    ·refine ab ?_
     refine aJ rfl (yT (hc.at hw) om) ?_;rintro _ w' ⟨c2,rfl,aj⟩;refine aA ?_;clear aj hw;intro hw;refine ab ?_;refine jz ?_ (jz ?_ pU)
     ·refine ab ?_
      have oa:=(aM (s:=a2) hw).one;have ob:=(aM (s:=b2) hw).one;have oc:=(aM (s:=c2) hw).one;refine xM (v1:=a2) (v2:=b2) (v3:=c2) rfl rfl rfl rfl (by simp only[all_cons,all_nil,oa,ob,oc];rfl) ?_;refine cK ?_;intro p w hw;obtain⟨po,nQ⟩:∃ po,po=p:=⟨p,rfl⟩
      subst nQ;refine ab ?_;refine gZ (n:=4) (p:=po) (vs:=[a2,b2,c2,.slice none 0 0]) rfl rfl hw inferInstance rfl rfl (by simp only[all_cons,all_nil,oa,ob,oc];rfl) ?_;clear hw;intro w hw;refine ab ?_;have ct:Sat w0 w [Ad po 26 [a2,b2,c2,.slice none 0 0],OS aa 3 a2 t.vars,OS aa 3 b2 t.init,OS aq 63 c2 t.goal,Ad pr 26 [.slice none 0 0,.slice none 0 0,.slice none 0 0,.slice none 0 0],Ad pt 26 [a,b,c,d]]:=hw.aT;exact⟨(po,a2,b2,c2),⟨rfl,trivial⟩,aH,ct⟩
     ·refine cK ?_;intro p w hw
      obtain⟨po,nQ⟩:∃ po,po=p:=⟨p,rfl⟩
      subst nQ;refine ab ?_;have oa:=(aM (s:=a2) hw).one;have ob:=(aM (s:=b2) hw).one;have oc:=(aM (s:=c2) hw).one;refine xM (v1:=a2) (v2:=b2) (v3:=c2) rfl rfl rfl rfl (by simp only[all_cons,all_nil,oa,ob,oc];rfl) ?_;refine ab ?_;refine gZ (n:=4) (p:=po) (vs:=[a2,b2,c2,.slice none 0 0]) rfl rfl hw inferInstance rfl rfl (by simp only[all_cons,all_nil,oa,ob,oc];rfl) ?_;clear hw;intro w hw;refine ab ?_;have ct:Sat w0 w [Ad po 26 [a2,b2,c2,.slice none 0 0],OS aa 3 a2 t.vars,OS aa 3 b2 t.init,OS aq 63 c2 t.goal,Ad pr 26 [.slice none 0 0,.slice none 0 0,.slice none 0 0,.slice none 0 0],Ad pt 26 [a,b,c,d]]:=hw.aT;exact⟨(po,a2,b2,c2),⟨rfl,trivial⟩,aH,ct⟩
    ·refine cK ?_;intro p w hw
     obtain⟨po,nQ⟩:∃ po,po=p:=⟨p,rfl⟩
     subst nQ;refine ab ?_;refine aJ rfl (yT (hc.at hw) om) ?_;rintro _ w' ⟨c2,rfl,aj⟩;refine aA ?_;clear aj hw;intro hw;refine ab ?_;refine ab ?_;have oa:=(aM (s:=a2) hw).one;have ob:=(aM (s:=b2) hw).one;have oc:=(aM (s:=c2) hw).one;refine xM (v1:=a2) (v2:=b2) (v3:=c2) rfl rfl rfl rfl (by simp only[all_cons,all_nil,oa,ob,oc];rfl) ?_;refine ab ?_;refine gZ (n:=4) (p:=po) (vs:=[a2,b2,c2,.slice none 0 0]) rfl rfl hw inferInstance rfl rfl (by simp only[all_cons,all_nil,oa,ob,oc];rfl) ?_;clear hw;intro w hw;refine ab ?_;have ct:Sat w0 w [Ad po 26 [a2,b2,c2,.slice none 0 0],OS aa 3 a2 t.vars,OS aa 3 b2 t.init,OS aq 63 c2 t.goal,Ad pr 26 [.slice none 0 0,.slice none 0 0,.slice none 0 0,.slice none 0 0],Ad pt 26 [a,b,c,d]]:=hw.aT;exact⟨(po,a2,b2,c2),⟨rfl,trivial⟩,aH,ct⟩
   ·refine cK ?_;intro p w hw
    obtain⟨po,nQ⟩:∃ po,po=p:=⟨p,rfl⟩
    subst nQ;refine ab ?_;refine aJ rfl (lx (hb.at hw) om) ?_;rintro _ w' ⟨b2,rfl,aj⟩;refine aA ?_;clear aj hw;intro hw;refine ab ?_;refine ab ?_;refine aJ rfl (yT (hc.at hw) om) ?_;rintro _ w' ⟨c2,rfl,aj⟩;refine aA ?_;clear aj hw;intro hw;refine ab ?_;refine ab ?_;have oa:=(aM (s:=a2) hw).one;have ob:=(aM (s:=b2) hw).one;have oc:=(aM (s:=c2) hw).one;refine xM (v1:=a2) (v2:=b2) (v3:=c2) rfl rfl rfl rfl (by simp only[all_cons,all_nil,oa,ob,oc];rfl) ?_;refine ab ?_;refine gZ (n:=4) (p:=po) (vs:=[a2,b2,c2,.slice none 0 0]) rfl rfl hw inferInstance rfl rfl (by simp only[all_cons,all_nil,oa,ob,oc];rfl) ?_;clear hw;intro w hw;refine ab ?_;have ct:Sat w0 w [Ad po 26 [a2,b2,c2,.slice none 0 0],OS aa 3 a2 t.vars,OS aa 3 b2 t.init,OS aq 63 c2 t.goal,Ad pr 26 [.slice none 0 0,.slice none 0 0,.slice none 0 0,.slice none 0 0],Ad pt 26 [a,b,c,d]]:=hw.aT;exact⟨(po,a2,b2,c2),⟨rfl,trivial⟩,aH,ct⟩
  ·refine cK ?_;intro p w hw
   obtain⟨po,nQ⟩:∃ po,po=p:=⟨p,rfl⟩
   subst nQ;refine ab ?_;refine aJ rfl (lx (ha.at hw) om) ?_;rintro _ w' ⟨a2,rfl,aj⟩;refine aA ?_;clear aj hw;intro hw;refine ab ?_;refine ab ?_;refine aJ rfl (lx (hb.at hw) om) ?_;rintro _ w' ⟨b2,rfl,aj⟩;refine aA ?_;clear aj hw;intro hw;refine ab ?_;refine ab ?_;refine aJ rfl (yT (hc.at hw) om) ?_;rintro _ w' ⟨c2,rfl,aj⟩;refine aA ?_;clear aj hw;intro hw;refine ab ?_;refine ab ?_;have oa:=(aM (s:=a2) hw).one;have ob:=(aM (s:=b2) hw).one;have oc:=(aM (s:=c2) hw).one;refine xM (v1:=a2) (v2:=b2) (v3:=c2) rfl rfl rfl rfl (by simp only[all_cons,all_nil,oa,ob,oc];rfl) ?_;refine ab ?_;refine gZ (n:=4) (p:=po) (vs:=[a2,b2,c2,.slice none 0 0]) rfl rfl hw inferInstance rfl rfl (by simp only[all_cons,all_nil,oa,ob,oc];rfl) ?_;clear hw;intro w hw;refine ab ?_;have ct:Sat w0 w [Ad po 26 [a2,b2,c2,.slice none 0 0],OS aa 3 a2 t.vars,OS aa 3 b2 t.init,OS aq 63 c2 t.goal,Ad pr 26 [.slice none 0 0,.slice none 0 0,.slice none 0 0,.slice none 0 0],Ad pt 26 [a,b,c,d]]:=hw.aT;exact⟨(po,a2,b2,c2),⟨rfl,trivial⟩,aH,ct⟩
 clear hw;rintro σ0 ⟨po,a2,b2,c2⟩ w hw;simp only at hw;have bb:Sat w0 w [OS bJ 44 (.slice none 0 0) [],Aj (Bg t 0 []),Aj (A9 t a2 b2 c2),Ad po 26 [a2,b2,c2,.slice none 0 0],Ad pr 26 [.slice none 0 0,.slice none 0 0,.slice none 0 0,.slice none 0 0],Ad pt 26 [a,b,c,d]]:=by
  have ct:Sat w0 w [OS aa 3 a2 t.vars,OS aa 3 b2 t.init,OS aq 63 c2 t.goal,Ad po 26 [a2,b2,c2,.slice none 0 0],Ad pr 26 [.slice none 0 0,.slice none 0 0,.slice none 0 0,.slice none 0 0],Ad pt 26 [a,b,c,d]]:=hw.aT;have gX:=Sat.rd (Δ:=[OS aa 3 a2 t.vars,OS aa 3 b2 t.init,OS aq 63 c2 t.goal]) (φ:=A9 t a2 b2 c2) (fun _ w h=>⟨h.rs 0 rfl,h.rs 1 rfl,h.rs 2 rfl⟩) ct;exact(Sat.nX (φ:=Bg t 0 []) (fun w i hi=>absurd hi (not_lt_zero _)) gX).nil
 clear hw;have hw:=bb;clear bb;refine ab ?_;refine mB [5,6,20,57] (G:=Nat) (H:=Value) (I:=List AK) (fun k _ _=>[(20,.int .i64 k)]) (fun k dv ws w=>k<=t.ops.length/\ws.length=k/\Sat w0 w [OS bJ 44 dv ws,Aj (Bg t k ws),Aj (A9 t a2 b2 c2),Ad po 26 [a2,b2,c2,dv],Ad pr 26 [.slice none 0 0,.slice none 0 0,.slice none 0 0,.slice none 0 0],Ad pt 26 [a,b,c,d]]) (fun k _ _=>t.ops.length-k) 0 (.slice none 0 0) [] (fun _ _ _=>rfl) ⟨rfl,trivial⟩ ⟨zero_le _,rfl,hw⟩ ?_;clear hw;rintro σ k dv ws w ⟨hk,xr,hw⟩;refine ab ?_;refine ai ?_ ?_<;>intro h1
 ·have aK:k<t.ops.length:=by omega
  have bW:=hd.at_ k aK;have hone:=bW.one;have aN:=bW.pre;have da:=hg.op k aK;have iP:=qI da.pre;have la:=da.aw;obtain⟨us,hus⟩:=bW.aw;have qyF:=hus.rs;have qyG:=hus.len;refine cK ?_;intro p w hw;obtain⟨p5,hp5⟩:∃ p5,p5=p:=⟨p,rfl⟩
  subst hp5;refine fP (pl [0,1,3,4,2] (.chk 4::pl [6,5,7,8,9] [])) hw kr ?_;clear hw;intro w hw;refine ab ?_;refine aJ rfl (yT (aN.at hw) om) ?_;rintro _ w' ⟨pv,rfl,aj⟩;refine aA ?_;clear aj hw;intro hw;refine ab ?_;refine aJ rfl (ql2 (qyF.at hw) om (qn5 hus)) ?_;rintro _ w' ⟨ev,rfl,aj⟩;refine aA ?_;clear aj hw;intro hw;have opv:=(aM (s:=pv) hw).one;have oev:=(aM (s:=ev) hw).one;refine ab ?_;refine qno (k:=2) (p:=p5) (v:=pv) rfl rfl opv hw inferInstance (by rw[bJ.ok];decide) ?_;clear hw;intro w hw;refine ab ?_;refine qno (k:=3) (p:=p5) (v:=ev) rfl rfl oev hw inferInstance (by rw[length_set,bJ.ok];decide) ?_;clear hw;intro w hw;have bb:Sat w0 w [Aj (BU (t.ops.getD k aO).aw 0 us),OS aR 61 ev us,Ad p5 44 (bJ.enc ⟨(az bJ vs k).name,(az bJ vs k).cost,pv,ev⟩),OS aq 63 pv (t.ops.getD k aO).pre,OS bJ 44 dv ws,Aj (Bg t k ws),Aj (A9 t a2 b2 c2),Ad po 26 [a2,b2,c2,dv],Ad pr 26 [.slice none 0 0,.slice none 0 0,.slice none 0 0,.slice none 0 0],Ad pt 26 [a,b,c,d]]:=by
   have ct:Sat w0 w [OS aR 61 ev us,OS aq 63 pv (t.ops.getD k aO).pre,Ad p5 44 (bJ.enc ⟨(az bJ vs k).name,(az bJ vs k).cost,pv,ev⟩),OS bJ 44 dv ws,Aj (Bg t k ws),Aj (A9 t a2 b2 c2),Ad po 26 [a2,b2,c2,dv],Ad pr 26 [.slice none 0 0,.slice none 0 0,.slice none 0 0,.slice none 0 0],Ad pt 26 [a,b,c,d]]:=hw;exact(Sat.nX (φ:=BU (t.ops.getD k aO).aw 0 us) (fun w i hi=>absurd hi (not_lt_zero _)) ct).aT
  clear hw;have hw:=bb;clear bb;have vI:CX (t.ops.getD k aO).aw us 0 us:=⟨qyG,fun i hi=>⟨(hus.at_ i hi).var,(hus.at_ i hi).val⟩,fun i _ _=>rfl⟩
  refine ab ?_;refine dj [6,6,35,50] (G:=Nat) (H:=List Bw) (fun j _=>[(35,.int .i64 j)]) (fun j es w=>j<=(t.ops.getD k aO).aw.length/\CX (t.ops.getD k aO).aw us j es/\Sat w0 w [Aj (BU (t.ops.getD k aO).aw j es),OS aR 61 ev es,Ad p5 44 (bJ.enc ⟨(az bJ vs k).name,(az bJ vs k).cost,pv,ev⟩),OS aq 63 pv (t.ops.getD k aO).pre,OS bJ 44 dv ws,Aj (Bg t k ws),Aj (A9 t a2 b2 c2),Ad po 26 [a2,b2,c2,dv],Ad pr 26 [.slice none 0 0,.slice none 0 0,.slice none 0 0,.slice none 0 0],Ad pt 26 [a,b,c,d]]) (fun j _=>(t.ops.getD k aO).aw.length-j) 0 us (fun _ _=>rfl) ⟨rfl,trivial⟩ ⟨zero_le _,vI,hw⟩ ?_;clear hw;rintro σ1 j es w ⟨hj,hE,hw⟩;have tB:=hE.len;refine ab ?_;refine ai ?_ ?_<;>intro h2
  ·have cJ:j<(t.ops.getD k aO).aw.length:=by omega
   have oU:=hus.at_ j cJ;have hfj:=hE.pX j cJ;have lP:=hE.old j (Nat.le_refl _) cJ;have ot:=qI (da.dL j cJ).1;have qw1:RS aq w0 (az aR es j).when ((t.ops.getD k aO).aw.getD j ba).when:=by rw[lP];exact oU.when
   refine ab ?_;refine fP (pl [0,1,2,3,4,5,6,7,8,9] (.chk 1::pl [10,11,12] [])) hw kr ?_;clear hw;intro w hw;refine ab ?_;refine aJ rfl (yT (qw1.at hw) om) ?_;rintro _ w' ⟨fv,rfl,aj⟩;refine aA ?_;clear aj hw;intro hw;have ofv:=(aM (s:=fv) hw).one;refine ab ?_;refine qkC (T:=aR) (s:=ev) (j:=j) (k:=0) (v:=fv) (x':=⟨fv,(az aR es j).var,(az aR es j).val⟩) rfl rfl ofv hw inferInstance om (zero_lt_succ _) (by rw[<-n0];rfl) ?_;clear hw;intro w hw;have bb:Sat w0 w [Aj (BU (t.ops.getD k aO).aw (j+1) (es.set j ⟨fv,(az aR es j).var,(az aR es j).val⟩)),OS aR 61 ev (es.set j ⟨fv,(az aR es j).var,(az aR es j).val⟩),Ad p5 44 (bJ.enc ⟨(az bJ vs k).name,(az bJ vs k).cost,pv,ev⟩),OS aq 63 pv (t.ops.getD k aO).pre,OS bJ 44 dv ws,Aj (Bg t k ws),Aj (A9 t a2 b2 c2),Ad po 26 [a2,b2,c2,dv],Ad pr 26 [.slice none 0 0,.slice none 0 0,.slice none 0 0,.slice none 0 0],Ad pt 26 [a,b,c,d]]:=by
    have ct:Sat w0 w [OS aq 63 fv ((t.ops.getD k aO).aw.getD j ba).when,Aj (BU (t.ops.getD k aO).aw j es),OS aR 61 ev (es.set j ⟨fv,(az aR es j).var,(az aR es j).val⟩),Ad p5 44 (bJ.enc ⟨(az bJ vs k).name,(az bJ vs k).cost,pv,ev⟩),OS aq 63 pv (t.ops.getD k aO).pre,OS bJ 44 dv ws,Aj (Bg t k ws),Aj (A9 t a2 b2 c2),Ad po 26 [a2,b2,c2,dv],Ad pr 26 [.slice none 0 0,.slice none 0 0,.slice none 0 0,.slice none 0 0],Ad pt 26 [a,b,c,d]]:=hw;exact Sat.rd2 (χ:=BU (t.ops.getD k aO).aw (j+1) (es.set j ⟨fv,(az aR es j).var,(az aR es j).val⟩)) (fun w h1 h2=>h2.step om h1) (Sat.rd (Δ:=[OS aq 63 fv ((t.ops.getD k aO).aw.getD j ba).when]) (φ:=fun w=>RS aq w fv ((t.ops.getD k aO).aw.getD j ba).when) (fun _ _ h=>h.rs 0 rfl) ct)
   refine ab ?_;exact⟨j+1,_,⟨rfl,trivial⟩,aH,⟨by omega,hE.step cJ,bb⟩,by omega⟩
  have iR:j=(t.ops.getD k aO).aw.length:=by omega
  subst iR;obtain⟨vo,hvo⟩:∃ vo:AK,vo=⟨(az bJ vs k).name,(az bJ vs k).cost,pv,ev⟩:=⟨_,rfl⟩
  rw[<-hvo]at hw;have qyH:∀ v∈bJ.enc vo,v.oneCell'=true:=by
   rw[hvo];intro v hv;simp only[bJ,mem_cons,not_mem_nil,or_false]at hv;rcases hv with rfl|rfl|rfl|rfl
   ·rfl
   ·rfl
   ·exact opv
   ·exact oev
  have bb:Sat w0 w [Aj fun w=>Cm w vo (t.ops.getD k aO),Ad p5 44 (bJ.enc vo),OS bJ 44 dv ws,Aj (Bg t k ws),Aj (A9 t a2 b2 c2),Ad po 26 [a2,b2,c2,dv],Ad pr 26 [.slice none 0 0,.slice none 0 0,.slice none 0 0,.slice none 0 0],Ad pt 26 [a,b,c,d]]:=by
   have ct:Sat w0 w [Aj (BU (t.ops.getD k aO).aw (t.ops.getD k aO).aw.length es),OS aR 61 ev es,OS aq 63 pv (t.ops.getD k aO).pre,Ad p5 44 (bJ.enc vo),OS bJ 44 dv ws,Aj (Bg t k ws),Aj (A9 t a2 b2 c2),Ad po 26 [a2,b2,c2,dv],Ad pr 26 [.slice none 0 0,.slice none 0 0,.slice none 0 0,.slice none 0 0],Ad pt 26 [a,b,c,d]]:=hw.aT;refine Sat.rd (Δ:=[Aj (BU (t.ops.getD k aO).aw (t.ops.getD k aO).aw.length es),OS aR 61 ev es,OS aq 63 pv (t.ops.getD k aO).pre]) (φ:=fun w=>Cm w vo (t.ops.getD k aO)) (fun _ w h=>?_) ct;have hff:=h.dM 0 rfl;rw[hvo];exact⟨bW.name,bW.size,bW.cost,h.rs 2 rfl,es,h.rs 1 rfl,hE.len,fun i hi=>⟨(hE.pX i hi).1,(hE.pX i hi).2,hff i hi⟩⟩
  clear hw;have hw:=bb;clear bb;refine ab ?_;refine jh bJ (x1:=vo) rfl rfl rfl (le_of_ble_eq_true rfl) (zero_lt_succ _) hw ?_;clear hw;intro bs w hw;refine ab ?_;refine rT (s:=dv) (s2:=bs) inferInstance rfl rfl (aM hw) rfl rfl (fun x hx v hv=>by rw[mem_singleton.1 hx]at hv;exact qyH v hv) (by simp only[length_cons,length_nil];omega) (by unfold bo;simp only[length_cons,length_nil];omega) hw ?_;clear hw;intro dv2 w hw;have odv:=(aM (s:=dv2) hw).one;refine fy ?_;intro w hw;have bb:Sat w0 w [OS bJ 44 dv2 (ws++[vo]),Aj (Bg t (k+1) (ws++[vo])),Aj (A9 t a2 b2 c2),Ad po 26 [a2,b2,c2,dv2],Ad pr 26 [.slice none 0 0,.slice none 0 0,.slice none 0 0,.slice none 0 0],Ad pt 26 [a,b,c,d]]:=by
   have ct:Sat w0 w [OS bJ 44 bs [vo],Aj fun w=>Cm w vo (t.ops.getD k aO),Ad p5 44 (bJ.enc vo),OS bJ 44 dv2 (ws++[vo]),Aj (Bg t k ws),Aj (A9 t a2 b2 c2),Ad po 26 [a2,b2,c2,dv2],Ad pr 26 [.slice none 0 0,.slice none 0 0,.slice none 0 0,.slice none 0 0],Ad pt 26 [a,b,c,d]]:=hw;have gX:Sat w0 w [Aj fun w=>Cm w vo (t.ops.getD k aO),Aj (Bg t k ws),OS bJ 44 dv2 (ws++[vo]),Aj (A9 t a2 b2 c2),Ad po 26 [a2,b2,c2,dv2],Ad pr 26 [.slice none 0 0,.slice none 0 0,.slice none 0 0,.slice none 0 0],Ad pt 26 [a,b,c,d]]:=ct.aT;exact(Sat.rd2 (χ:=Bg t (k+1) (ws++[vo])) (fun w h1 h2=>h2.step xr h1) gX).swap
  exact⟨k+1,_,_,⟨rfl,trivial⟩,aH,⟨by omega,by simp[xr],bb⟩,by omega⟩
 have cH:k=t.ops.length:=by omega
 subst cH;have odv:=(aM (s:=dv) hw).one
 have bb:Sat w0 w [Aj fun w=>Am w a2 b2 c2 dv ws t,Ad po 26 [a2,b2,c2,dv],Ad pr 26 [.slice none 0 0,.slice none 0 0,.slice none 0 0,.slice none 0 0],Ad pt 26 [a,b,c,d]] :=
  Sat.rd (Δ:=[OS bJ 44 dv ws,Aj (Bg t t.ops.length ws),Aj (A9 t a2 b2 c2)]) (φ:=fun w=>Am w a2 b2 c2 dv ws t) (fun _ w h=>⟨(h.dM 2 rfl).1,(h.dM 2 rfl).2.1,(h.dM 2 rfl).2.2,h.rs 0 rfl,xr,h.dM 1 rfl⟩) hw
 clear hw;have hw:=bb;clear bb;have wD:=hw.dM 0 rfl;have o1:=wD.vars.one;have o2:=wD.init.one;have o3:=wD.goal.one;refine ab ?_;refine gZ (n:=4) (p:=pr) (vs:=[a2,b2,c2,dv]) rfl rfl hw inferInstance rfl rfl (by simp only[all_cons,all_nil,o1,o2,o3,odv];rfl) ?_;clear hw;intro w hw;refine ab ?_;exact qsX (p:=pr) (vs:=[a2,b2,c2,dv]) rfl rfl rfl (hw.mR 2 rfl) ⟨a2,b2,c2,dv,ws,rfl,hw.aT⟩
end Go.Proofs.YtmapkjoefdgjfaaGreatDoor
