/- Several texts. -/
import Derived.Test.YtmapkjoefdgjfaaGreatDoorMW8D
set_option linter.unusedSimpArgs false
set_option linter.unusedVariables false
set_option linter.defProp false
set_option maxRecDepth 8000
set_option maxHeartbeats 16000000
open List Nat
namespace Go.Proofs.YtmapkjoefdgjfaaGreatDoor
open Go.Sl Go
variable {w0:World}{a:Value}{m:Addr}{L:J}{xs:List bo}
attribute [local irreducible] vc opsW opsD opV opW PureV ReadV Thn Blk
def VB (Q:w0.cell? m=some a)(R:RS O w0 a L)(H:L.length<=4096) :
  Calls aj 145 #[nS,.func (.func 113) #[] #[.pointer (some m)]] w0 fun e w'=>∃ s,e=.returned s/\M w0 w' [X O 3 s L]:=by
 have Y:=M.start w0;refine(callsIn_wide (n:=3)).1 (callsIn_of_wp_marks (F:=Fence.wide) (n:=3) Tryz.func145 rfl trivial ?_);refine F3 (ro:=none) (n:=13) ao kr (by simp only[Array.size_append,OA];rfl) rfl ?_;rw[show (#[nS,.func (.func 113) #[] #[.pointer (some m)]]:Array Value)=[nS,.func (.func 113) #[] #[.pointer (some m)]].toArray from rfl,OB];refine tF ?_;refine zK ?_;clear Y;intro B w Y;refine W ?_;intro a1 q z A;refine wpIn_seq ?_;refine F3 (ro:=none) (n:=13) ao kr q z ?_;rw[A];refine W ?_;intro a2 b N i;clear A z q;refine wpIn_block ?_;have g:a2.defers=[]:=N;have ea:(⟨a2.tmps,[]⟩:Act)=a2:=by rw[<-g]
 have ez:∀ x:Int,({ tmps:=(#[7].zip (BD x)).foldl (fun t (p,v)=>t.setIfInBounds p v) a2.tmps,defers:=[] }:Act)=a2.put (some 7) (E x):=fun x=>by
  rw[<-ea];unfold BD;simp[Act.put]
 obtain⟨W0,j'⟩:=À w;have S:w0.heap.size<=w.heap.size:=Y.below.size
 refine wpIn_rangeFunc_ownF (F:=Fence.wide) (n:=3) (α:=Int) rfl dc (gf:=113) (lb:=#[.pointer (some m)]) (by rw[<-qZ,i];rfl) trivial (fun args w=>ap.run inferInstance args w)
  (VC (n:=2) Q R)
  (fun h k=>⟨fun e=>k.1 (h.1 e),fun e=>k.2 (h.2 e)⟩) (fun f l o G _ H d _=>⟨Jv H d,OC H d⟩) Y.below (fun _=>rfl)
  (fun pre f=>∃ v,oF w0 f [X O 3 v pre,ak B 22 [v]])
  (fun _ _ _=>False) (fun s f C row ⟨v,h⟩ I j=>⟨v,h.EK S I j⟩) (fun _=>fun _ _ _ _ h=>h.elim) ⟨nS,(Y.nil (T:=O) (e:=3)).OD⟩
  (fun x=>(a2.put (some 7) (E x)).put (some 5) (E x)) ?assign ?body ?done ?stop
 case assign =>
  intro l x f K G;rw[ez];refine OE (ro:=some l) ao (by rw[eZ,b];decide) (by rw[zL];exact g) ?_;rw[wz (fun t e=>by cases e;rw[b];decide)];exact G
 case body =>
  rintro l pre x f ⟨v,o⟩ hlen;have hb:=o.below;refine wpIn_mono (wA (ro:=some l) (n:=13) ao _ kr (fun e V C=>e=.normal/\f.heap.size<=C.heap.size/\∃ d,M w0 C (w8 w0 f::[X O 3 d (pre++[x]),ak B 22 [d]])) _ _ (by rw[eZ,eZ,b]) (by rw[zL,zL];exact g) ?_) ?_
  ·rw[wz (fun t e=>by cases e;rw[eZ,b];decide),wz (fun t e=>by cases e;rw[b];decide),i]
   clear Y;have Y:=o.open;have P:pre.length<=4096:=U;refine Ce ?_;refine tF ?_
   repeat (first|refine A9 ?_|refine Cf ?_)
   refine VD O (x1:=x) rfl rfl rfl (fX rfl) (fb _) Y ?_;clear Y;intro s1 w1 H' Y;refine VE (T:=O) (sz:=1) (by_:=8) (e:=3) (zs:=[E 0]) (s:=v) (s2:=s1) (xs:=pre) (ys:=[x]) inferInstance rfl rfl (bm Y) rfl rfl (fun y _ u hu=>ku.ok y u hu) (by simp only[length_cons,length_nil];omega) (by unfold bT;simp only[length_cons,length_nil];omega) Y ?_;clear Y;intro s2 w2 J' Y;refine OF (k:=0) (p:=B) (v:=s2) (by simp[Addr.add];rfl) rfl ((bm (s:=s2) Y).one) Y inferInstance sm ?_;clear Y;intro w3 Y j;refine W ?_;exact⟨rfl,by rw[j.1];omega,s2,Y.tail⟩
  intro e a' C hq;obtain⟨_,_,rfl,P,d,j⟩:=hq;obtain⟨h1,h2⟩:=M.BW hb j P;exact⟨h2,⟨fun _=>F4 Q j,fun _=>R.at j⟩,d,h1⟩
 case done =>
  rintro D xs f hD j ⟨v,o⟩ G;show Code.wpIn (fw none) 3 _ _ _ _ _;refine wpIn_seq ?_;refine VF (n:=13) (ds:={ target:=.collected D,args:=#[] }::a2.defers) (K:=fun V w'=>V 4=v/\w'=f) (fun a w h=>?_) kr b rfl ?_
  ·obtain⟨g1,g2,g3,rfl⟩:=h
   show Code.wpIn (fw none) 3 _ _ _ _ _;refine wpIn_ret ?_;rw[g]at g2;obtain⟨C,H'⟩:=a;subst g2;refine⟨sm,.inl ⟨_,_,rfl,run_takeDeferred G,?_⟩⟩;have P:∃ d,d=v/\oF w0 (w.putObj D (.deferred none)) [X O 3 d xs,ak B 22 [d]]:=⟨v,rfl,o.EK S (grownBy_putObj' w D (.deferred none)) fun r e=>by cases e;exact⟨hD,_,G,rfl⟩⟩
   obtain⟨d,rfl,P⟩:=P;have j:xs=L:=j;subst j;have g4:C[4]?.getD undef=d:=by rw[<-Jw];exact g3
   exact⟨d,by simp[results,Tryz.f145,Act.eval,g4],d,rfl,P.wP.bb⟩
  clear Y;have Y:=o.wP;show opsW _ _ _ [_,_] (fr a2) _;rw[i];refine W ?_;exact⟨rfl,rfl⟩
 case stop =>
  rintro D c pre f _ _ d _;exact d.elim
def VG (n:Nat):fk (cY n)=cY n:=by
 unfold fk;refine mergeSort_of_pairwise ?_;unfold cY;rw[A5];exact Dl.imp fun h=>by simp;omega
def VH (b:w0.cell? m=some a)(c:RS O w0 a L)(d:L.length<=4096) :
  Calls aj 112 #[.func (.func 113) #[] #[.pointer (some m)]] w0 fun e w'=>∃ s,e=.returned s/\M w0 w' [X O 3 s L]:=by
 have Y:=M.start w0;refine bB ao Tryz.func112 ?_;refine W ?_;refine aU rfl (VB (F4 b Y) (c.at Y) d) ?_;rintro _ w' ⟨s,rfl,an⟩;refine aL ?_;clear an Y;intro Y;refine W ?_;exact bk (v:=s) rfl rfl ⟨s,rfl,Y⟩
def VJ (c:w0.cell? m=some a)(d:RS O w0 a L)(f:L.length<=4096) :
  Calls aj 87 #[.func (.func 113) #[] #[.pointer (some m)]] w0 fun e w'=>∃ s,e=.returned s/\M w0 w' [X O 3 s (fk L)]:=by
 have Y:=M.start w0;refine bB ao Tryz.func87 ?_;refine W ?_;refine aU rfl (VH (F4 c Y) (d.at Y) f) ?_;rintro _ w' ⟨s,rfl,an⟩;refine aL ?_;clear an Y;intro Y;refine W ?_;refine aU rfl (Dm (s:=s) Y U) ?_;rintro _ w' ⟨rfl,b⟩;clear Y;have Y:=b;clear b;refine⟨_,rfl,?_⟩;refine W ?_;exact bk (v:=s) rfl rfl ⟨s,rfl,Y⟩
def VK {S:bV}(hv:dP S):((mT S).length:Int)=S.st:=by
 have h:=(OG (Jy hv) (fr:=gN S.aR S.aR.length) (F5 _) (fun i b=>by have:=Dn.1 b;have c:=hv.2.2.2.2.1;omega)).1.ol;have h1:=hv.1;unfold mT Cg vI;omega
def Aw (t:aa)(L:List kA)(D:J):Prop:=(∀ k,k<L.length->∃ n,Ch t.vars L n)/\∀ s,ab t.vars s->0<=nZ s L/\nZ s L<D.length
def VL {b c d A:Value}{vs:List iX}{t:aa}{M':Int}(hT:lT w0)(I:aC t)(B:bz w0 a b c d vs t)(D:RS O w0 A (cY t.vars.length)) :
  Calls aj 58 #[.agg #[a,b,c,d],A,E M'] w0 fun e w'=>(eL t M'≠0/\e=.returned (.tuple #[.pointer none,bO (eL t M')])/\M w0 w' [])\/(eL t M'=0/\Aw t (re t M') (tU t M')/\∃ p,e=.returned (.tuple #[.pointer (some p),.nilIface])/\M w0 w' [bj fun w=>vJ w p t (re t M') (tU t M')]):=by
 have F:=(rQ t).2 I;have j':=I.vars;have H':(cY t.vars.length).length=t.vars.length:=Ci _;have J':=B.1.bT;have Y:=M.start w0;refine bB ao Tryz.func58 ?_;refine c9 ?_;intro G w Y;have Y:M w0 w [ak G 26 [a,b,c,d]]:=Y;refine aU rfl (vY (B.at Y)) ?_;refine j7 ?_;clear Y;intro w' Y;rw[F,gy rfl];refine W ?_;refine aU rfl (VM (a:=A)) ?_;rintro _ w' ⟨m,rfl,an⟩;refine aL ?_;clear an Y;intro Y;rw[D.eJ]at Y;refine W ?_;refine aU rfl (VJ (Cj (i:=0) Y rfl rfl) (D.at Y) U) ?_;rintro _ w' ⟨u,rfl,an⟩;refine aL ?_;clear an Y;intro Y;rw[VG]at Y;have H:=B.1;refine W ?_;refine aU rfl (OH (n:=t.vars.length) U) ?_;rintro _ w' ⟨V,rfl,an⟩;refine aL ?_;clear an Y;intro Y;refine W ?_;refine aU rfl (Do (bm (s:=u) Y) (bm (s:=V) Y)) ?_;rintro _ w' ⟨⟨eq,rfl,heq⟩,an⟩;refine aI ?_;clear an Y;intro Y;have heq:=heq.2 rfl;subst heq;refine W ?_;refine aU rfl (nH (H.at Y) U) ?_;rintro _ w' ⟨l,rfl,an⟩;refine aL ?_;clear an Y;intro Y;have N:=(bm (s:=l) Y).one;refine W ?_;refine lA (parts:=[(0,.tmp 31),(3,.const (.bool true))]) (vs:=[(0,l),(3,.bool true)]) rfl rfl (by simp only[ew,eN,N];rfl) ?_;obtain⟨K,P⟩:∃ K:Nat,(K:Int)=lg M':=⟨(lg M').toNat,by unfold lg;omega⟩
 have x:1<=K/\K<=4096:=by unfold lg at P;omega
 have Q:(if (if 4096<M' then 4096 else M')>1 then (if 4096<M' then 4096 else M') else 1)=(K:Int):=by rw[P];unfold lg;split<;>split<;>omega
 refine c9 ?_;intro p w Y;rw[Q];obtain⟨y,rfl⟩:=À p;have Y:M w0 w [ak y 164 [l,nS,nS,.bool true],X O 3 l t.vars,X O 3 V (cY t.vars.length),X O 3 u (cY t.vars.length),ak m 22 [A],ak G 26 [a,b,c,d]]:=Y;have z:M w0 w (ak y 164 [l,nS,nS,.bool true]::X O 3 l t.vars::[ak G 26 [a,b,c,d]]):=Y.bb;refine aU rfl (VN (M':=K) z hT I B D x.1 x.2) ?_;clear Y z;rintro _ w ⟨cv,ce,cg,u,ms,ex,rfl,R,Y⟩;refine⟨_,rfl,?_⟩;rw[P]at R Y ⊢;obtain⟨g,o⟩:=À (lB t (lg M') t.vars.length);have hS:re t M'=g.eI:=by unfold re;rw[<-o]
 have hD:tU t M'=mT g.eE:=by unfold tU;rw[<-o]
 rw[<-o]at R Y ⊢;have oX:=(Y.cU 3 rfl).mh;unfold cK;by_cases he:g.vr=0;rotate_left
 ·have q:eL t M'=g.vr:=by unfold eL;rw[<-o,aP he]
  rw[dq he];refine c9 ?_;intro p w Y;exact cX (v:=.pointer none) (v':=bO g.vr) rfl (by rfl) (by rw[dq he];rfl) (.inl ⟨by rw[q];exact he,by rw[q],Y.bb⟩)
 rw[gy he];refine c9 ?_;intro p w Y;refine aU rfl (VO (S:=g.eE) (Y.cU 4 rfl)) ?_;rintro _ w' ⟨C,rfl,an⟩;refine aL ?_;clear an Y;intro Y;have od:=(bm (s:=C) Y).one;by_cases hv:iS g.eE=true;rotate_left
 ·have f:¬dP g.eE:=fun h=>hv (Ck h)
  have q:eL t M'=2:=by unfold eL;rw[<-o,aH (fun h=>h he),aH f]
  have r:iF g.eE=2:=by unfold iF;rw[aH hv]
  rw[r,dq (show (2:Int)≠0 by decide)];refine iC ?_;intro w Y;exact cX (v:=.pointer none) (v':=bO 2) rfl (by rfl) (by rw[dq (show (2:Int)≠0 by decide)];rfl) (.inl ⟨by rw[q];decide,by rw[q],Y.bb⟩)
 have f:dP g.eE:=nl fun h=>by rw[wc h]at hv;cases hv
 have q:eL t M'=0:=by unfold eL;rw[<-o,aH (fun h=>h he),aP f]
 have r:iF g.eE=0:=by unfold iF;rw[aP hv]
 have T:tV g.eE=mT g.eE:=by unfold tV;rw[aP hv]
 rw[r,gy rfl];rw[T]at Y;refine iC ?_;intro w Y;simp only[mM,mJ]at Y;refine cX (v:=.pointer (some y)) (v':=.nilIface) rfl rfl rfl (.inr ⟨q,?_,y,rfl,?_⟩)
 ·rw[hS,hD]
  have P':=VK f;have R':=f.1;by_cases h0:t.vars.length=0
  ·have j:g.eI=[]:=by rw[o,h0];rfl
   rw[j];exact⟨fun k hk=>absurd hk sm,fun s _=>⟨du _,by show (0:Int)<_;omega⟩⟩
  have j:=R he U;exact⟨fun _ _=>⟨_,j.ch⟩,fun s hs=>by have:=j.ch.at hs;omega⟩
 rw[hS,hD];have h1:M w0 w (ak y 164 [l,u,C,.bool ex]::X O 3 l t.vars::X fq 201 u ms::bj (kt ms g.eI)::X O 3 C (mT g.eE)::[]):=Y.bb;exact M.rd (Δ:=[_,_,_,_,_]) (fun _ _ h=>⟨l,u,C,_,ms,fun j v hv=>lM (i:=0) h rfl hv,h.rs 1 rfl,h.rs 2 rfl,h.cU 3 rfl,h.rs 4 rfl⟩) h1
def Dp (b:RS aq w0 a xs)(i:xs.length<=1099511627776) :
  Calls aj 73 #[a] w0 fun e w'=>∃ s,e=.returned s/\M w0 w' [X aq 63 s xs]:=by
 have Y:=M.start w0;obtain⟨d,cap,f⟩:=b.shape;subst f;refine bB ao Tryz.func73 ?_;refine W ?_;refine fi rfl (F6 (a:=d) (n:=xs.length) (c:=cap) rfl) ?_
 cases d with
 | none =>
  have g:xs=[]:=by
   rcases uC xs.length with h|h
   ·exact nY h
   obtain⟨p,c2,he,_⟩:=b.some dc h;cases he
  subst g;refine W ?_
  exact bk (v:=nS) rfl rfl ⟨_,rfl,Y.nil⟩
 | some p =>
  refine W ?_;refine zB aq Y ?_;clear Y;intro s1 w Y;refine lw ?_;intro s w Y;rw[kq]at Y;exact bk (v:=s) rfl rfl ⟨_,rfl,Y⟩
def VP {xs:List ke}(b:RS aY w0 a xs)(j:xs.length<=1099511627776)(g:∀ x∈xs,∀ v∈aY.enc x,v.oneCell'=true) :
  Calls aj 72 #[a] w0 fun e w'=>∃ s,e=.returned s/\M w0 w' [X aY 61 s xs]:=by
 have Y:=M.start w0;obtain⟨d,cap,i⟩:=b.shape;subst i;refine bB ao Tryz.func72 ?_;refine W ?_;refine fi rfl (F6 (a:=d) (n:=xs.length) (c:=cap) rfl) ?_
 cases d with
 | none =>
  have f:xs=[]:=by
   rcases uC xs.length with h|h
   ·exact nY h
   obtain⟨p,c2,he,_⟩:=b.some dc h;cases he
  subst f;refine W ?_
  exact bk (v:=nS) rfl rfl ⟨_,rfl,Y.nil⟩
 | some p =>
  refine W ?_;refine zB aY Y ?_;clear Y;intro s1 w Y;refine W ?_;refine OI ?_ (hone:=g);clear Y;intro s w Y;refine W ?_;rw[kq]at Y;exact bk (v:=s) rfl rfl ⟨_,rfl,Y⟩

def AV (b:RS aq w0 a xs)(c:xs.length<=1099511627776) :
  Calls aj 48 #[a] w0 fun e w'=>∃ s,e=.returned s/\M w0 w' [X aq 63 s xs]:=by
 have Y:=M.start w0;refine bB ao Tryz.func48 ?_;refine W ?_;refine aU rfl (Dp b c) ?_;rintro _ w' ⟨s,rfl,an⟩;refine aL ?_;clear an Y;intro Y;refine W ?_;exact bk (v:=s) rfl rfl ⟨_,rfl,Y⟩
structure wQ (E_:List kU) (us:List ke) (j:Nat) (es:List ke):Prop where
 len:es.length=E_.length
 Dq:∀ i,i<E_.length->(az aY es i).var=(E_.getD i bE).var/\(az aY es i).val=(E_.getD i bE).val
 OJ:∀ i,j<=i->i<E_.length->(az aY es i).bK=(az aY us i).bK
def oG (E_:List kU)(j:Nat)(es:List ke)(w:World):Prop:=∀ i,i<j->RS aq w (az aY es i).bK (E_.getD i bE).bK
def Jz {α:Type}{T:Ty α}{xs:List α}{i j:Nat}{x:α}(b:j<xs.length):az T (xs.set j x) i=if i=j then x else az T xs i:=by
 rw[nr,nr];by_cases e:i=j
 ·subst e;rw[aP rfl];simp[List.getD,b]
 rw[aH e];simp only[List.getD];rw[tn (fun h=>e h.symm)]
def wQ.step {E_:List kU}{us es:List ke}{j:Nat}(h:wQ E_ us j es)(d:j<E_.length){s:Value}:wQ E_ us (j+1) (es.set j ⟨s,(az aY es j).var,(az aY es j).val⟩):=by
 have f:=h.len;refine⟨by simp[f],fun i c=>?_,fun i c b=>?_⟩
 ·rw[Jz U]
  split
  ·rename_i e;rw[e];exact h.Dq j d
  exact h.Dq i c
 rw[Jz U,aH U];exact h.OJ i U b
def oG.step {E_:List kU}{es:List ke}{j:Nat}{w:World}(h:oG E_ j es w)(c:j<es.length){s:Value}{a b:Int}(d:RS aq w s (E_.getD j bE).bK):oG E_ (j+1) (es.set j ⟨s,a,b⟩) w:=fun i f=>by
 rw[Jz c];split
 ·rename_i e;subst e;exact d
 exact h i U
def kf (t:aa)(k:Nat)(ws:List iX)(w:World):Prop:=∀ i,i<k->oC w (az cp ws i) (t.Z.getD i bf)
def VQ {α:Type}{T:Ty α}{xs:List α}{x:α}{i:Nat}:az T (xs++[x]) i=if i<xs.length then az T xs i else if i=xs.length then x else T.dflt:=by
 rw[nr,nr];by_cases h:i<xs.length
 ·rw[aP h];simp[iB,js h]
 rw[aH h];by_cases e:i=xs.length
 ·subst e;rw[aP rfl];simp[iB]
 rw[aH e];simp[iB,kp (Dt h),getElem?_cons,show ¬i-xs.length=0 by omega]
def kf.step {t:aa}{k:Nat}{ws:List iX}{w:World}{v:iX}(h:kf t k ws w)(c:ws.length=k)(hv:oC w v (t.Z.getD k bf)):kf t (k+1) (ws++[v]) w:=fun i d=>by
 rw[VQ];by_cases e:i<k
 ·rw[aP U];exact h i e
 have b:i=k:=U;rw[aH U,aP U,b];exact hv
def VR {w:World}{s:Value}{us:List ke}{E_:List kU}(h:lF w s us E_):∀ x∈us,∀ v∈aY.enc x,v.oneCell'=true:=fun x hx v hv=>by
 obtain⟨i,b,rfl⟩:=fF hx;have h1:=(h.dK i (by have:=h.len;omega)).one;rw[nr,al b]at h1;exact all_eq_true.1 h1 v hv
def iZ (t:aa)(a b c:Value)(w:World):Prop:=RS O w a t.vars/\RS O w b t.cE/\RS aq w c t.aG
def F7 {b c d:Value}{vs:List iX}{t:aa}(ht:bz w0 a b c d vs t)(I:aC t) :
  Calls aj 46 #[.agg #[a,b,c,d]] w0 fun e w'=>∃ a2 f c2 d2 j,e=.returned (.agg #[a2,f,c2,d2])/\M w0 w' [bj fun w=>bz w a2 f c2 d2 j t]:=by
 have _e:=ht;obtain⟨ha,hb,hc,hd⟩:=ht;have _f:=hd.rs;have _g:=hd.len;have _h:=I.Z;have _i:=I.vars;have _j:=I.cE.1;have _k:=sa I.aG;have Y:=M.start w0;refine bB ao Tryz.func46 ?_;refine vt ?_;refine tF ?_;refine zK ?_;clear Y;intro y w Y;replace Y:M w0 w [ak y 26 [a,b,c,d]]:=Y;refine F8 ?_;clear Y;intro u w Y;refine W ?_;refine th [3,3,7,16] (G:=Addr × Value × Value × Value) (fun g=>[(3,.pointer (some g.1))]) (fun g w=>M w0 w [ak g.1 26 [g.2.1,g.2.2.1,g.2.2.2,nS],X O 3 g.2.1 t.vars,X O 3 g.2.2.1 t.cE,X aq 63 g.2.2.2 t.aG,ak u 26 [nS,nS,nS,nS],ak y 26 [a,b,c,d]]) (fun _=>rfl) ?_ ?_
 ·refine xL (.s [0,3,6,1,4,7] (.d 2 [4,7] (.d 5 [7] (.d 8 [] (.d 9 [] (.c 10 [1,4,7] (.s [11] (.j6 []))) (.d 10 [1,4,7] (.s [9,11] (.j6 [])) (.stop))) (.d 10 [1,4,7] (.s [8,9,11] (.j6 [])) (.stop))) (.d 10 [1,4,7] (.c 5 [7] (.s [8,9,11] (.j6 []))) (.stop))) (.d 10 [1,4,7] (.c 2 [4,7] (.c 5 [7] (.s [8,9,11] (.j6 [])))) (.stop)))) Y kr kr ?_;clear Y;intro w Y
  refine W ?_;refine jF ?_ (jF ?_ qt)
  ·refine W ?_
   refine aU rfl (nH (ha.at Y) U) ?_;rintro _ w' ⟨a2,rfl,an⟩;refine aL ?_;clear an Y;intro Y;refine W ?_;refine jF ?_ (jF ?_ qt)
   ·refine W ?_
    refine aU rfl (nH (hb.at Y) U) ?_;rintro _ w' ⟨f,rfl,an⟩;refine aL ?_;clear an Y;intro Y;refine W ?_;refine jF ?_ (jF ?_ qt)
    ·refine W ?_
     refine aU rfl (AV (hc.at Y) U) ?_;rintro _ w' ⟨c2,rfl,an⟩;refine aL ?_;clear an Y;intro Y;refine W ?_;refine jF ?_ (jF ?_ qt)
     ·refine W ?_
      have j:=(bm (s:=a2) Y).one;have q:=(bm (s:=f) Y).one;have r:=(bm (s:=c2) Y).one;refine yq (v1:=a2) (v2:=f) (v3:=c2) rfl rfl rfl rfl (by simp only[ew,eN,j,q,r];rfl) ?_;refine c9 ?_;intro o w Y;refine W ?_;refine jH (n:=4) (p:=o) (vs:=[a2,f,c2,nS]) rfl rfl Y inferInstance rfl rfl (by simp only[ew,eN,j,q,r];rfl) ?_;clear Y;intro w Y;refine W ?_;have l:M w0 w [ak o 26 [a2,f,c2,nS],X O 3 a2 t.vars,X O 3 f t.cE,X aq 63 c2 t.aG,ak u 26 [nS,nS,nS,nS],ak y 26 [a,b,c,d]]:=Y.bb;exact⟨(o,a2,f,c2),⟨rfl,au⟩,aV,l⟩
     refine c9 ?_;intro o w Y;refine W ?_;have j:=(bm (s:=a2) Y).one;have q:=(bm (s:=f) Y).one;have r:=(bm (s:=c2) Y).one;refine yq (v1:=a2) (v2:=f) (v3:=c2) rfl rfl rfl rfl (by simp only[ew,eN,j,q,r];rfl) ?_;refine W ?_;refine jH (n:=4) (p:=o) (vs:=[a2,f,c2,nS]) rfl rfl Y inferInstance rfl rfl (by simp only[ew,eN,j,q,r];rfl) ?_;clear Y;intro w Y;refine W ?_;have l:M w0 w [ak o 26 [a2,f,c2,nS],X O 3 a2 t.vars,X O 3 f t.cE,X aq 63 c2 t.aG,ak u 26 [nS,nS,nS,nS],ak y 26 [a,b,c,d]]:=Y.bb;exact⟨(o,a2,f,c2),⟨rfl,au⟩,aV,l⟩
    refine c9 ?_;intro o w Y;refine W ?_;refine aU rfl (AV (hc.at Y) U) ?_;rintro _ w' ⟨c2,rfl,an⟩;refine aL ?_;clear an Y;intro Y;refine W ?_;refine W ?_;have j:=(bm (s:=a2) Y).one;have q:=(bm (s:=f) Y).one;have r:=(bm (s:=c2) Y).one;refine yq (v1:=a2) (v2:=f) (v3:=c2) rfl rfl rfl rfl (by simp only[ew,eN,j,q,r];rfl) ?_;refine W ?_;refine jH (n:=4) (p:=o) (vs:=[a2,f,c2,nS]) rfl rfl Y inferInstance rfl rfl (by simp only[ew,eN,j,q,r];rfl) ?_;clear Y;intro w Y;refine W ?_;have l:M w0 w [ak o 26 [a2,f,c2,nS],X O 3 a2 t.vars,X O 3 f t.cE,X aq 63 c2 t.aG,ak u 26 [nS,nS,nS,nS],ak y 26 [a,b,c,d]]:=Y.bb;exact⟨(o,a2,f,c2),⟨rfl,au⟩,aV,l⟩
   refine c9 ?_;intro o w Y;refine W ?_;refine aU rfl (nH (hb.at Y) U) ?_;rintro _ w' ⟨f,rfl,an⟩;refine aL ?_;clear an Y;intro Y;refine W ?_;refine W ?_;refine aU rfl (AV (hc.at Y) U) ?_;rintro _ w' ⟨c2,rfl,an⟩;refine aL ?_;clear an Y;intro Y;refine W ?_;refine W ?_;have j:=(bm (s:=a2) Y).one;have q:=(bm (s:=f) Y).one;have r:=(bm (s:=c2) Y).one;refine yq (v1:=a2) (v2:=f) (v3:=c2) rfl rfl rfl rfl (by simp only[ew,eN,j,q,r];rfl) ?_;refine W ?_;refine jH (n:=4) (p:=o) (vs:=[a2,f,c2,nS]) rfl rfl Y inferInstance rfl rfl (by simp only[ew,eN,j,q,r];rfl) ?_;clear Y;intro w Y;refine W ?_;have l:M w0 w [ak o 26 [a2,f,c2,nS],X O 3 a2 t.vars,X O 3 f t.cE,X aq 63 c2 t.aG,ak u 26 [nS,nS,nS,nS],ak y 26 [a,b,c,d]]:=Y.bb;exact⟨(o,a2,f,c2),⟨rfl,au⟩,aV,l⟩
  refine c9 ?_;intro o w Y;refine W ?_;refine aU rfl (nH (ha.at Y) U) ?_;rintro _ w' ⟨a2,rfl,an⟩;refine aL ?_;clear an Y;intro Y;refine W ?_;refine W ?_;refine aU rfl (nH (hb.at Y) U) ?_;rintro _ w' ⟨f,rfl,an⟩;refine aL ?_;clear an Y;intro Y;refine W ?_;refine W ?_;refine aU rfl (AV (hc.at Y) U) ?_;rintro _ w' ⟨c2,rfl,an⟩;refine aL ?_;clear an Y;intro Y;refine W ?_;refine W ?_;have j:=(bm (s:=a2) Y).one;have q:=(bm (s:=f) Y).one;have r:=(bm (s:=c2) Y).one;refine yq (v1:=a2) (v2:=f) (v3:=c2) rfl rfl rfl rfl (by simp only[ew,eN,j,q,r];rfl) ?_;refine W ?_;refine jH (n:=4) (p:=o) (vs:=[a2,f,c2,nS]) rfl rfl Y inferInstance rfl rfl (by simp only[ew,eN,j,q,r];rfl) ?_;clear Y;intro w Y;refine W ?_;have l:M w0 w [ak o 26 [a2,f,c2,nS],X O 3 a2 t.vars,X O 3 f t.cE,X aq 63 c2 t.aG,ak u 26 [nS,nS,nS,nS],ak y 26 [a,b,c,d]]:=Y.bb;exact⟨(o,a2,f,c2),⟨rfl,au⟩,aV,l⟩
 clear Y;rintro _l ⟨o,a2,f,c2⟩ w Y;simp only at Y;have q:M w0 w [X cp 44 (nS) [],bj (kf t 0 []),bj (iZ t a2 f c2),ak o 26 [a2,f,c2,nS],ak u 26 [nS,nS,nS,nS],ak y 26 [a,b,c,d]]:=by
  have l:M w0 w [X O 3 a2 t.vars,X O 3 f t.cE,X aq 63 c2 t.aG,ak o 26 [a2,f,c2,nS],ak u 26 [nS,nS,nS,nS],ak y 26 [a,b,c,d]]:=Y.bb;have P:=M.rd (Δ:=[X O 3 a2 t.vars,X O 3 f t.cE,X aq 63 c2 t.aG]) (φ:=iZ t a2 f c2) (fun _ w h=>⟨h.rs 0 rfl,h.rs 1 rfl,h.rs 2 rfl⟩) l;exact(M.pN (φ:=kf t 0 []) (fun w i K=>absurd K (dx _)) P).nil
 clear Y;have Y:=q;clear q;refine W ?_;refine nE [5,6,20,57] (G:=Nat) (H:=Value) (I':=List iX) (fun k _ _=>[(20,E k)]) (fun k r ws w=>k<=t.Z.length/\ws.length=k/\M w0 w [X cp 44 r ws,bj (kf t k ws),bj (iZ t a2 f c2),ak o 26 [a2,f,c2,r],ak u 26 [nS,nS,nS,nS],ak y 26 [a,b,c,d]]) (fun k _ _=>t.Z.length-k) 0 (nS) [] (fun _ _ _=>rfl) ⟨rfl,au⟩ ⟨br _,rfl,Y⟩ ?_;clear Y;rintro σ k r ws w ⟨hk,Q,Y⟩;refine aA ?_ ?_<;>intro h1
 ·have V:k<t.Z.length:=U
  have D:=hd.dK k V;have _c:=D.one;have j':=D.pre;have hgo:=I.op k V;have _m:=sa hgo.pre;have _n:=hgo.aJ;obtain⟨us,F⟩:=D.aJ;have H':=F.rs;have J':=F.len;refine c9 ?_;intro N w Y;refine fQ (pl [0,1,3,4,2] (.cJ 4::pl [6,5,7,8,9] [])) Y kr ?_;clear Y;intro w Y;refine W ?_;refine aU rfl (AV (j'.at Y) U) ?_;rintro _ w' ⟨B,rfl,an⟩;refine aL ?_;clear an Y;intro Y;refine W ?_;refine aU rfl (VP (H'.at Y) U (VR F)) ?_;rintro _ w' ⟨A,rfl,an⟩;refine aL ?_;clear an Y;intro Y;have P':=(bm (s:=B) Y).one;have R':=(bm (s:=A) Y).one;refine W ?_;refine F9 (k:=2) (p:=N) (v:=B) rfl rfl P' Y inferInstance (by rw[cp.ok];decide) ?_;clear Y;intro w Y;refine W ?_;refine F9 (k:=3) (p:=N) (v:=A) rfl rfl R' Y inferInstance (by rw[gS,cp.ok];decide) ?_;clear Y;intro w Y;have q:M w0 w [bj (oG (t.Z.getD k bf).aJ 0 us),X aY 61 A us,ak N 44 (cp.enc ⟨(az cp vs k).name,(az cp vs k).aO,B,A⟩),X aq 63 B (t.Z.getD k bf).pre,X cp 44 r ws,bj (kf t k ws),bj (iZ t a2 f c2),ak o 26 [a2,f,c2,r],ak u 26 [nS,nS,nS,nS],ak y 26 [a,b,c,d]]:=by
   have l:M w0 w [X aY 61 A us,X aq 63 B (t.Z.getD k bf).pre,ak N 44 (cp.enc ⟨(az cp vs k).name,(az cp vs k).aO,B,A⟩),X cp 44 r ws,bj (kf t k ws),bj (iZ t a2 f c2),ak o 26 [a2,f,c2,r],ak u 26 [nS,nS,nS,nS],ak y 26 [a,b,c,d]]:=Y;exact(M.pN (φ:=oG (t.Z.getD k bf).aJ 0 us) (fun w i K=>absurd K (dx _)) l).bb
  clear Y;have Y:=q;clear q;have _a:wQ (t.Z.getD k bf).aJ us 0 us:=⟨J',fun i K=>⟨(F.dK i K).var,(F.dK i K).val⟩,fun i _ _=>rfl⟩
  refine W ?_;refine dN [6,6,35,50] (G:=Nat) (H:=List ke) (fun j _=>[(35,E j)]) (fun j es w=>j<=(t.Z.getD k bf).aJ.length/\wQ (t.Z.getD k bf).aJ us j es/\M w0 w [bj (oG (t.Z.getD k bf).aJ j es),X aY 61 A es,ak N 44 (cp.enc ⟨(az cp vs k).name,(az cp vs k).aO,B,A⟩),X aq 63 B (t.Z.getD k bf).pre,X cp 44 r ws,bj (kf t k ws),bj (iZ t a2 f c2),ak o 26 [a2,f,c2,r],ak u 26 [nS,nS,nS,nS],ak y 26 [a,b,c,d]]) (fun j _=>(t.Z.getD k bf).aJ.length-j) 0 us (fun _ _=>rfl) ⟨rfl,au⟩ ⟨br _,_a,Y⟩ ?_;clear Y;rintro _o j es w ⟨hj,R,Y⟩;have _d:=R.len;refine aA ?_ ?_<;>intro h2
  ·have z:j<(t.Z.getD k bf).aJ.length:=U
   have T':=F.dK j z;have _p:=R.Dq j z;have V':=R.OJ j (cz _) z;have _q:=sa (hgo.fc j z).1;have S:RS aq w0 (az aY es j).bK ((t.Z.getD k bf).aJ.getD j bE).bK:=by rw[V'];exact T'.bK
   refine W ?_;refine fQ (pl [0,1,2,3,4,5,6,7,8,9] (.cJ 1::pl [10,11,12] [])) Y kr ?_;clear Y;intro w Y;refine W ?_;refine aU rfl (AV (S.at Y) U) ?_;rintro _ w' ⟨C,rfl,an⟩;refine aL ?_;clear an Y;intro Y;have _b:=(bm (s:=C) Y).one;refine W ?_;refine VS (T:=aY) (s:=A) (j:=j) (k:=0) (v:=C) (x':=⟨C,(az aY es j).var,(az aY es j).val⟩) rfl rfl _b Y inferInstance U (fb _) (by rw[<-nr];rfl) ?_;clear Y;intro w Y;have q:M w0 w [bj (oG (t.Z.getD k bf).aJ (j+1) (es.set j ⟨C,(az aY es j).var,(az aY es j).val⟩)),X aY 61 A (es.set j ⟨C,(az aY es j).var,(az aY es j).val⟩),ak N 44 (cp.enc ⟨(az cp vs k).name,(az cp vs k).aO,B,A⟩),X aq 63 B (t.Z.getD k bf).pre,X cp 44 r ws,bj (kf t k ws),bj (iZ t a2 f c2),ak o 26 [a2,f,c2,r],ak u 26 [nS,nS,nS,nS],ak y 26 [a,b,c,d]]:=by
    have l:M w0 w [X aq 63 C ((t.Z.getD k bf).aJ.getD j bE).bK,bj (oG (t.Z.getD k bf).aJ j es),X aY 61 A (es.set j ⟨C,(az aY es j).var,(az aY es j).val⟩),ak N 44 (cp.enc ⟨(az cp vs k).name,(az cp vs k).aO,B,A⟩),X aq 63 B (t.Z.getD k bf).pre,X cp 44 r ws,bj (kf t k ws),bj (iZ t a2 f c2),ak o 26 [a2,f,c2,r],ak u 26 [nS,nS,nS,nS],ak y 26 [a,b,c,d]]:=Y;exact M.Ba (χ:=oG (t.Z.getD k bf).aJ (j+1) (es.set j ⟨C,(az aY es j).var,(az aY es j).val⟩)) (fun w h1 h2=>h2.step U h1) (M.rd (Δ:=[X aq 63 C ((t.Z.getD k bf).aJ.getD j bE).bK]) (φ:=fun w=>RS aq w C ((t.Z.getD k bf).aJ.getD j bE).bK) (fun _ _ h=>h.rs 0 rfl) l)
   refine W ?_;exact⟨j+1,_,⟨rfl,au⟩,aV,⟨U,R.step z,q⟩,U⟩
  have _b:j=(t.Z.getD k bf).aJ.length:=U;subst _b;obtain⟨z,S⟩:∃ z:iX,z=⟨(az cp vs k).name,(az cp vs k).aO,B,A⟩:=⟨_,rfl⟩
  rw[<-S]at Y;have T':∀ v∈cp.enc z,v.oneCell'=true:=by
   rw[S];intro v hv;simp only[cp,dZ,fM,pL]at hv;rcases hv with rfl|rfl|rfl|rfl
   ·rfl
   ·rfl
   ·exact P'
   exact R'
  have q:M w0 w [bj fun w=>oC w z (t.Z.getD k bf),ak N 44 (cp.enc z),X cp 44 r ws,bj (kf t k ws),bj (iZ t a2 f c2),ak o 26 [a2,f,c2,r],ak u 26 [nS,nS,nS,nS],ak y 26 [a,b,c,d]]:=by
   have l:M w0 w [bj (oG (t.Z.getD k bf).aJ (t.Z.getD k bf).aJ.length es),X aY 61 A es,X aq 63 B (t.Z.getD k bf).pre,ak N 44 (cp.enc z),X cp 44 r ws,bj (kf t k ws),bj (iZ t a2 f c2),ak o 26 [a2,f,c2,r],ak u 26 [nS,nS,nS,nS],ak y 26 [a,b,c,d]]:=Y.bb;refine M.rd (Δ:=[bj (oG (t.Z.getD k bf).aJ (t.Z.getD k bf).aJ.length es),X aY 61 A es,X aq 63 B (t.Z.getD k bf).pre]) (φ:=fun w=>oC w z (t.Z.getD k bf)) (fun _ w h=>?_) l;have C:=h.cU 0 rfl;rw[S];exact⟨D.name,D.size,D.aO,h.rs 2 rfl,es,h.rs 1 rfl,R.len,fun i K=>⟨(R.Dq i K).1,(R.Dq i K).2,C i K⟩⟩
  clear Y;have Y:=q;clear q;refine W ?_;refine jG cp (x1:=z) rfl rfl rfl (fX rfl) (fb _) Y ?_;clear Y;intro bs w Y;refine W ?_;refine rV (s:=r) (s2:=bs) inferInstance rfl rfl (bm Y) rfl rfl (fun x hx v hv=>by rw[dp.1 hx]at hv;exact T' v hv) (by simp only[length_cons,length_nil];omega) (by unfold bT;simp only[length_cons,length_nil];omega) Y ?_;clear Y;intro C w Y;have V':=(bm (s:=C) Y).one;refine iC ?_;intro w Y;have q:M w0 w [X cp 44 C (ws++[z]),bj (kf t (k+1) (ws++[z])),bj (iZ t a2 f c2),ak o 26 [a2,f,c2,C],ak u 26 [nS,nS,nS,nS],ak y 26 [a,b,c,d]]:=by
   have l:M w0 w [X cp 44 bs [z],bj fun w=>oC w z (t.Z.getD k bf),ak N 44 (cp.enc z),X cp 44 C (ws++[z]),bj (kf t k ws),bj (iZ t a2 f c2),ak o 26 [a2,f,c2,C],ak u 26 [nS,nS,nS,nS],ak y 26 [a,b,c,d]]:=Y;have P:M w0 w [bj fun w=>oC w z (t.Z.getD k bf),bj (kf t k ws),X cp 44 C (ws++[z]),bj (iZ t a2 f c2),ak o 26 [a2,f,c2,C],ak u 26 [nS,nS,nS,nS],ak y 26 [a,b,c,d]]:=l.bb;exact(M.Ba (χ:=kf t (k+1) (ws++[z])) (fun w h1 h2=>h2.step Q h1) P).swap
  exact⟨k+1,_,_,⟨rfl,au⟩,aV,⟨U,by simp[Q],q⟩,U⟩
 have l:k=t.Z.length:=U;subst l;have V':=(bm (s:=r) Y).one
 have q:M w0 w [bj fun w=>bz w a2 f c2 r ws t,ak o 26 [a2,f,c2,r],ak u 26 [nS,nS,nS,nS],ak y 26 [a,b,c,d]] :=
  M.rd (Δ:=[X cp 44 r ws,bj (kf t t.Z.length ws),bj (iZ t a2 f c2)]) (φ:=fun w=>bz w a2 f c2 r ws t) (fun _ w h=>⟨(h.cU 2 rfl).1,(h.cU 2 rfl).2.1,(h.cU 2 rfl).2.2,h.rs 0 rfl,Q,h.cU 1 rfl⟩) Y
 clear Y;have Y:=q;clear q;have j:=Y.cU 0 rfl;have z:=j.vars.one;have A:=j.cE.one;have B:=j.aG.one;refine W ?_;refine jH (n:=4) (p:=u) (vs:=[a2,f,c2,r]) rfl rfl Y inferInstance rfl rfl (by simp only[ew,eN,z,A,B,V'];rfl) ?_;clear Y;intro w Y;refine W ?_;exact Cl (p:=u) (vs:=[a2,f,c2,r]) rfl rfl rfl (Y.gB 2 rfl) ⟨a2,f,c2,r,ws,rfl,Y.bb⟩
end Go.Proofs.YtmapkjoefdgjfaaGreatDoor
