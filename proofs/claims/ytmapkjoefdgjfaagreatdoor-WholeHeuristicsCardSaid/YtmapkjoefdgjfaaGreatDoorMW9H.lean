/- Several texts. -/
import Derived.Test.YtmapkjoefdgjfaaGreatDoorMW8H
set_option linter.unusedSimpArgs false
set_option linter.unusedVariables false
set_option linter.defProp false
set_option maxRecDepth 8000
set_option maxHeartbeats 16000000
open List Nat
namespace Go.Proofs.YtmapkjoefdgjfaaGreatDoor
open Go.Sl Go
variable {w0:World}{a:Value}{m:Addr}{L:J}{xs:List bE}
attribute [local irreducible] vc opsW opsD opV opW PureV ReadV Thn Blk
def YC (Q:w0.cell? m=some a)(R:RS W w0 a L)(H:L.length<=4096) :
  Calls ak 145 #[nS,.func (.func 113) #[] #[.pointer (some m)]] w0 fun e w'=>∃ s,e=.returned s/\Z w0 w' [X W 3 s L]:=by
 have Y:=Z.start w0;refine(callsIn_wide (n:=3)).1 (callsIn_of_wp_marks (F:=Fence.wide) (n:=3) Tryz.func145 rfl trivial ?_);refine HY (ro:=none) (n:=13) ar kr (by simp only[Array.size_append,QX];rfl) rfl ?_;rw[show (#[nS,.func (.func 113) #[] #[.pointer (some m)]]:Array Value)=[nS,.func (.func 113) #[] #[.pointer (some m)]].toArray from rfl,QY];refine ve ?_;refine Bh ?_;clear Y;intro B w Y;refine O ?_;intro a1 q z A;refine wpIn_seq ?_;refine HY (ro:=none) (n:=13) ar kr q z ?_;rw[A];refine O ?_;intro a2 b N i;clear A z q;refine wpIn_block ?_;have g:a2.defers=[]:=N;have ea:(⟨a2.tmps,[]⟩:Act)=a2:=by rw[<-g]
 have ez:∀ x:Int,({ tmps:=(#[7].zip (C6 x)).foldl (fun t (p,v)=>t.setIfInBounds p v) a2.tmps,defers:=[] }:Act)=a2.put (some 7) (E x):=fun x=>by
  rw[<-ea];unfold C6;simp[Act.put]
 obtain⟨W0,j'⟩:=À w;have S:w0.heap.size<=w.heap.size:=Y.below.size
 refine wpIn_rangeFunc_ownF (F:=Fence.wide) (n:=3) (α:=Int) rfl dc (gf:=113) (lb:=#[.pointer (some m)]) (by rw[<-sJ,i];rfl) trivial (fun args w=>au.run inferInstance args w)
  (YD (n:=2) Q R)
  (fun h k=>⟨fun e=>k.1 (h.1 e),fun e=>k.2 (h.2 e)⟩) (fun f l o G _ H d _=>⟨Lq H d,QZ H d⟩) Y.below (fun _=>rfl)
  (fun pre f=>∃ v,qO w0 f [X W 3 v pre,am B 22 [v]])
  (fun _ _ _=>False) (fun s f C row ⟨v,h⟩ I j=>⟨v,h.GM S I j⟩) (fun _=>fun _ _ _ _ h=>h.elim) ⟨nS,(Y.nil (T:=W) (e:=3)).Q0⟩
  (fun x=>(a2.put (some 7) (E x)).put (some 5) (E x)) ?assign ?body ?done ?stop
 case assign =>
  intro l x f K G;rw[ez];refine Q1 (ro:=some l) ar (by rw[fN,b];decide) (by rw[Bi];exact g) ?_;rw[yb (fun t e=>by cases e;rw[b];decide)];exact G
 case body =>
  rintro l pre x f ⟨v,o⟩ hlen;have hb:=o.below;refine wpIn_mono (yc (ro:=some l) (n:=13) ar _ kr (fun e V C=>e=.normal/\f.heap.size<=C.heap.size/\∃ d,Z w0 C (yM w0 f::[X W 3 d (pre++[x]),am B 22 [d]])) _ _ (by rw[fN,fN,b]) (by rw[Bi,Bi];exact g) ?_) ?_
  ·rw[yb (fun t e=>by cases e;rw[fN,b];decide),yb (fun t e=>by cases e;rw[b];decide),i]
   clear Y;have Y:=o.open;have P:pre.length<=4096:=U;refine DL ?_;refine ve ?_
   repeat (first|refine Cw ?_|refine DM ?_)
   refine YE W (x1:=x) rfl rfl rfl (fP rfl) (fg _) Y ?_;clear Y;intro s1 w1 H' Y;refine YF (T:=W) (sz:=1) (by_:=8) (e:=3) (zs:=[E 0]) (s:=v) (s2:=s1) (xs:=pre) (ys:=[x]) inferInstance rfl rfl (bB Y) rfl rfl (fun y _ u hu=>lU.ok y u hu) (by simp only[length_cons,length_nil];omega) (by unfold cn;simp only[length_cons,length_nil];omega) Y ?_;clear Y;intro s2 w2 J' Y;refine Q3 (k:=0) (p:=B) (v:=s2) (by simp[Addr.add];rfl) rfl ((bB (s:=s2) Y).one) Y inferInstance sm ?_;clear Y;intro w3 Y j;refine O ?_;exact⟨rfl,by rw[j.1];omega,s2,Y.tail⟩
  intro e a' C hq;obtain⟨_,_,rfl,P,d,j⟩:=hq;obtain⟨h1,h2⟩:=Z.Dn hb j P;exact⟨h2,⟨fun _=>HZ Q j,fun _=>R.at j⟩,d,h1⟩
 case done =>
  rintro D xs f hD j ⟨v,o⟩ G;show Code.wpIn (fw none) 3 _ _ _ _ _;refine wpIn_seq ?_;refine YG (n:=13) (ds:={ target:=.collected D,args:=#[] }::a2.defers) (K:=fun V w'=>V 4=v/\w'=f) (fun a w h=>?_) kr b rfl ?_
  ·obtain⟨g1,g2,g3,rfl⟩:=h
   show Code.wpIn (fw none) 3 _ _ _ _ _;refine wpIn_ret ?_;rw[g]at g2;obtain⟨C,H'⟩:=a;subst g2;refine⟨sm,.inl ⟨_,_,rfl,run_takeDeferred G,?_⟩⟩;have P:∃ d,d=v/\qO w0 (w.putObj D (.deferred none)) [X W 3 d xs,am B 22 [d]]:=⟨v,rfl,o.GM S (grownBy_putObj' w D (.deferred none)) fun r e=>by cases e;exact⟨hD,_,G,rfl⟩⟩
   obtain⟨d,rfl,P⟩:=P;have j:xs=L:=j;subst j;have g4:C[4]?.getD undef=d:=by rw[<-Lr];exact g3
   exact⟨d,by simp[results,Tryz.f145,Act.eval,g4],d,rfl,P.yy.bj⟩
  clear Y;have Y:=o.yy;show opsW _ _ _ [_,_] (fr a2) _;rw[i];refine O ?_;exact⟨rfl,rfl⟩
 case stop =>
  rintro D c pre f _ _ d _;exact d.elim
def YH (n:Nat):fW (dI n)=dI n:=by
 unfold fW;refine mergeSort_of_pairwise ?_;unfold dI;rw[zB];exact Bj.imp fun h=>by simp;omega
def YI (b:w0.cell? m=some a)(c:RS W w0 a L)(d:L.length<=4096) :
  Calls ak 112 #[.func (.func 113) #[] #[.pointer (some m)]] w0 fun e w'=>∃ s,e=.returned s/\Z w0 w' [X W 3 s L]:=by
 have Y:=Z.start w0;refine bI ar Tryz.func112 ?_;refine O ?_;refine aR rfl (YC (HZ b Y) (c.at Y) d) ?_;rintro _ w' ⟨s,rfl,aw⟩;refine aO ?_;clear aw Y;intro Y;refine O ?_;exact bo (v:=s) rfl rfl ⟨s,rfl,Y⟩
def YJ (c:w0.cell? m=some a)(d:RS W w0 a L)(f:L.length<=4096) :
  Calls ak 87 #[.func (.func 113) #[] #[.pointer (some m)]] w0 fun e w'=>∃ s,e=.returned s/\Z w0 w' [X W 3 s (fW L)]:=by
 have Y:=Z.start w0;refine bI ar Tryz.func87 ?_;refine O ?_;refine aR rfl (YI (HZ c Y) (d.at Y) f) ?_;rintro _ w' ⟨s,rfl,aw⟩;refine aO ?_;clear aw Y;intro Y;refine O ?_;refine aR rfl (Fb (s:=s) Y U) ?_;rintro _ w' ⟨rfl,b⟩;clear Y;have Y:=b;clear b;refine⟨_,rfl,?_⟩;refine O ?_;exact bo (v:=s) rfl rfl ⟨s,rfl,Y⟩
def YK {S:ct}(hv:cW S):((oN S).length:Int)=S.st:=by
 have h:=(Q4 (Lt hv) (fr:=iN S.aW S.aW.length) (H0 _) (fun i b=>by have:=Fc.1 b;have c:=hv.2.2.2.2.1;omega)).1.ol;have h1:=hv.1;unfold oN DN xq;omega
def BX (t:aa)(L:List lW)(D:J):Prop:=(∀ k,k<L.length->∃ n,Ch t.vars L n)/\∀ s,aj t.vars s->0<=qH s L/\qH s L<D.length
def YL {b c d A:Value}{vs:List kq}{t:aa}{M':Int}(hT:nF w0)(I:aJ t)(B:bR w0 a b c d vs t)(D:RS W w0 A (dI t.vars.length)) :
  Calls ak 58 #[.agg #[a,b,c,d],A,E M'] w0 fun e w'=>(fa t M'≠0/\e=.returned (.tuple #[.pointer none,bS (fa t M')])/\Z w0 w' [])\/(fa t M'=0/\BX t (sX t M') (vz t M')/\∃ p,e=.returned (.tuple #[.pointer (some p),.nilIface])/\Z w0 w' [bA fun w=>xt w p t (sX t M') (vz t M')]):=by
 have F:=(tE t).2 I;have j':=I.vars;have H':(dI t.vars.length).length=t.vars.length:=DO _;have J':=B.1.cn;have Y:=Z.start w0;refine bI ar Tryz.func58 ?_;refine dj ?_;intro G w Y;have Y:Z w0 w [am G 26 [a,b,c,d]]:=Y;refine aR rfl (xL (B.at Y)) ?_;refine gk ?_;clear Y;intro w' Y;rw[F,ff rfl];refine O ?_;refine aR rfl (YM (a:=A)) ?_;rintro _ w' ⟨m,rfl,aw⟩;refine aO ?_;clear aw Y;intro Y;rw[D.fu]at Y;refine O ?_;refine aR rfl (YJ (DP (i:=0) Y rfl rfl) (D.at Y) U) ?_;rintro _ w' ⟨u,rfl,aw⟩;refine aO ?_;clear aw Y;intro Y;rw[YH]at Y;have H:=B.1;refine O ?_;refine aR rfl (Q7 (n:=t.vars.length) U) ?_;rintro _ w' ⟨V,rfl,aw⟩;refine aO ?_;clear aw Y;intro Y;refine O ?_;refine aR rfl (Fe (bB (s:=u) Y) (bB (s:=V) Y)) ?_;rintro _ w' ⟨⟨eq,rfl,heq⟩,aw⟩;refine aL ?_;clear aw Y;intro Y;have heq:=heq.2 rfl;subst heq;refine O ?_;refine aR rfl (pU (H.at Y) U) ?_;rintro _ w' ⟨l,rfl,aw⟩;refine aO ?_;clear aw Y;intro Y;have N:=(bB (s:=l) Y).one;refine O ?_;refine mq (parts:=[(0,.tmp 31),(3,.const (.bool true))]) (vs:=[(0,l),(3,.bool true)]) rfl rfl (by simp only[fo,fB,N];rfl) ?_;obtain⟨K,P⟩:∃ K:Nat,(K:Int)=lX M':=⟨(lX M').toNat,by unfold lX;omega⟩
 have x:1<=K/\K<=4096:=by unfold lX at P;omega
 have Q:(if (if 4096<M' then 4096 else M')>1 then (if 4096<M' then 4096 else M') else 1)=(K:Int):=by rw[P];unfold lX;split<;>split<;>omega
 refine dj ?_;intro p w Y;rw[Q];obtain⟨y,rfl⟩:=À p;have Y:Z w0 w [am y 164 [l,nS,nS,.bool true],X W 3 l t.vars,X W 3 V (dI t.vars.length),X W 3 u (dI t.vars.length),am m 22 [A],am G 26 [a,b,c,d]]:=Y;have z:Z w0 w (am y 164 [l,nS,nS,.bool true]::X W 3 l t.vars::[am G 26 [a,b,c,d]]):=Y.bj;refine aR rfl (YN (M':=K) z hT I B D x.1 x.2) ?_;clear Y z;rintro _ w ⟨cv,ce,cg,u,ms,ex,rfl,R,Y⟩;refine⟨_,rfl,?_⟩;rw[P]at R Y ⊢;obtain⟨g,o⟩:=À (kb t (lX M') t.vars.length);have hS:sX t M'=g.fp:=by unfold sX;rw[<-o]
 have hD:vz t M'=oN g.eY:=by unfold vz;rw[<-o]
 rw[<-o]at R Y ⊢;have oX:=(Y.dQ 3 rfl).nG;unfold df;by_cases he:g.vg=0;rotate_left
 ·have q:fa t M'=g.vg:=by unfold fa;rw[<-o,ba he]
  rw[c9 he];refine dj ?_;intro p w Y;exact dw (v:=.pointer none) (v':=bS g.vg) rfl (by rfl) (by rw[c9 he];rfl) (.inl ⟨by rw[q];exact he,by rw[q],Y.bj⟩)
 rw[ff he];refine dj ?_;intro p w Y;refine aR rfl (YO (S:=g.eY) (Y.dQ 4 rfl)) ?_;rintro _ w' ⟨C,rfl,aw⟩;refine aO ?_;clear aw Y;intro Y;have od:=(bB (s:=C) Y).one;by_cases hv:jY g.eY=true;rotate_left
 ·have f:¬cW g.eY:=fun h=>hv (Cx h)
  have q:fa t M'=2:=by unfold fa;rw[<-o,aM (fun h=>h he),aM f]
  have r:jI g.eY=2:=by unfold jI;rw[aM hv]
  rw[r,c9 (show (2:Int)≠0 by decide)];refine jD ?_;intro w Y;exact dw (v:=.pointer none) (v':=bS 2) rfl (by rfl) (by rw[c9 (show (2:Int)≠0 by decide)];rfl) (.inl ⟨by rw[q];decide,by rw[q],Y.bj⟩)
 have f:cW g.eY:=oE fun h=>by rw[xP h]at hv;cases hv
 have q:fa t M'=0:=by unfold fa;rw[<-o,aM (fun h=>h he),ba f]
 have r:jI g.eY=0:=by unfold jI;rw[ba hv]
 have T:vC g.eY=oN g.eY:=by unfold vC;rw[ba hv]
 rw[r,ff rfl];rw[T]at Y;refine jD ?_;intro w Y;simp only[mY,lO]at Y;refine dw (v:=.pointer (some y)) (v':=.nilIface) rfl rfl rfl (.inr ⟨q,?_,y,rfl,?_⟩)
 ·rw[hS,hD]
  have P':=YK f;have R':=f.1;by_cases h0:t.vars.length=0
  ·have j:g.fp=[]:=by rw[o,h0];rfl
   rw[j];exact⟨fun k hk=>absurd hk sm,fun s _=>⟨iq _,by show (0:Int)<_;omega⟩⟩
  have j:=R he U;exact⟨fun _ _=>⟨_,j.ch⟩,fun s hs=>by have:=j.ch.at hs;omega⟩
 rw[hS,hD];have h1:Z w0 w (am y 164 [l,u,C,.bool ex]::X W 3 l t.vars::X gd 201 u ms::bA (lR ms g.fp)::X W 3 C (oN g.eY)::[]):=Y.bj;exact Z.rd (Δ:=[_,_,_,_,_]) (fun _ _ h=>⟨l,u,C,_,ms,fun j v hv=>nw (i:=0) h rfl hv,h.rs 1 rfl,h.rs 2 rfl,h.dQ 3 rfl,h.rs 4 rfl⟩) h1
def Ff (b:RS aD w0 a xs)(i:xs.length<=1099511627776) :
  Calls ak 73 #[a] w0 fun e w'=>∃ s,e=.returned s/\Z w0 w' [X aD 63 s xs]:=by
 have Y:=Z.start w0;obtain⟨d,cap,f⟩:=b.shape;subst f;refine bI ar Tryz.func73 ?_;refine O ?_;refine fR rfl (Fg (a:=d) (n:=xs.length) (c:=cap) rfl) ?_
 cases d with
 | none =>
  have g:xs=[]:=by
   rcases wg xs.length with h|h
   ·exact qD h
   obtain⟨p,c2,he,_⟩:=b.some dc h;cases he
  subst g;refine O ?_
  exact bo (v:=nS) rfl rfl ⟨_,rfl,Y.nil⟩
 | some p =>
  refine O ?_;refine zU aD Y ?_;clear Y;intro s1 w Y;refine kO ?_;intro s w Y;rw[lQ]at Y;exact bo (v:=s) rfl rfl ⟨_,rfl,Y⟩
def YP {xs:List lG}(b:RS bm w0 a xs)(j:xs.length<=1099511627776)(g:∀ x∈xs,∀ v∈bm.enc x,v.oneCell'=true) :
  Calls ak 72 #[a] w0 fun e w'=>∃ s,e=.returned s/\Z w0 w' [X bm 61 s xs]:=by
 have Y:=Z.start w0;obtain⟨d,cap,i⟩:=b.shape;subst i;refine bI ar Tryz.func72 ?_;refine O ?_;refine fR rfl (Fg (a:=d) (n:=xs.length) (c:=cap) rfl) ?_
 cases d with
 | none =>
  have f:xs=[]:=by
   rcases wg xs.length with h|h
   ·exact qD h
   obtain⟨p,c2,he,_⟩:=b.some dc h;cases he
  subst f;refine O ?_
  exact bo (v:=nS) rfl rfl ⟨_,rfl,Y.nil⟩
 | some p =>
  refine O ?_;refine zU bm Y ?_;clear Y;intro s1 w Y;refine O ?_;refine Q8 ?_ (hone:=g);clear Y;intro s w Y;refine O ?_;rw[lQ]at Y;exact bo (v:=s) rfl rfl ⟨_,rfl,Y⟩

def Cl (b:RS aD w0 a xs)(c:xs.length<=1099511627776) :
  Calls ak 48 #[a] w0 fun e w'=>∃ s,e=.returned s/\Z w0 w' [X aD 63 s xs]:=by
 have Y:=Z.start w0;refine bI ar Tryz.func48 ?_;refine O ?_;refine aR rfl (Ff b c) ?_;rintro _ w' ⟨s,rfl,aw⟩;refine aO ?_;clear aw Y;intro Y;refine O ?_;exact bo (v:=s) rfl rfl ⟨_,rfl,Y⟩
structure yz (E_:List mr) (us:List lG) (j:Nat) (es:List lG):Prop where
 len:es.length=E_.length
 Fh:∀ i,i<E_.length->(aB bm es i).var=(E_.getD i bQ).var/\(aB bm es i).val=(E_.getD i bQ).val
 Q9:∀ i,j<=i->i<E_.length->(aB bm es i).cb=(aB bm us i).cb
def qP (E_:List mr)(j:Nat)(es:List lG)(w:World):Prop:=∀ i,i<j->RS aD w (aB bm es i).cb (E_.getD i bQ).cb
def Lu {α:Type}{T:Ty α}{xs:List α}{i j:Nat}{x:α}(b:j<xs.length):aB T (xs.set j x) i=if i=j then x else aB T xs i:=by
 rw[oz,oz];by_cases e:i=j
 ·subst e;rw[ba rfl];simp[List.getD,b]
 rw[aM e];simp only[List.getD];rw[uO (fun h=>e h.symm)]
def yz.step {E_:List mr}{us es:List lG}{j:Nat}(h:yz E_ us j es)(d:j<E_.length){s:Value}:yz E_ us (j+1) (es.set j ⟨s,(aB bm es j).var,(aB bm es j).val⟩):=by
 have f:=h.len;refine⟨by simp[f],fun i c=>?_,fun i c b=>?_⟩
 ·rw[Lu U]
  split
  ·rename_i e;rw[e];exact h.Fh j d
  exact h.Fh i c
 rw[Lu U,aM U];exact h.Q9 i U b
def qP.step {E_:List mr}{es:List lG}{j:Nat}{w:World}(h:qP E_ j es w)(c:j<es.length){s:Value}{a b:Int}(d:RS aD w s (E_.getD j bQ).cb):qP E_ (j+1) (es.set j ⟨s,a,b⟩) w:=fun i f=>by
 rw[Lu c];split
 ·rename_i e;subst e;exact d
 exact h i U
def lH (t:aa)(k:Nat)(ws:List kq)(w:World):Prop:=∀ i,i<k->sK w (aB cN ws i) (t.M.getD i bz)
def YQ {α:Type}{T:Ty α}{xs:List α}{x:α}{i:Nat}:aB T (xs++[x]) i=if i<xs.length then aB T xs i else if i=xs.length then x else T.dflt:=by
 rw[oz,oz];by_cases h:i<xs.length
 ·rw[ba h];simp[ow,mu h]
 rw[aM h];by_cases e:i=xs.length
 ·subst e;rw[ba rfl];simp[ow]
 rw[aM e];simp[ow,lP (Fi h),getElem?_cons,show ¬i-xs.length=0 by omega]
def lH.step {t:aa}{k:Nat}{ws:List kq}{w:World}{v:kq}(h:lH t k ws w)(c:ws.length=k)(hv:sK w v (t.M.getD k bz)):lH t (k+1) (ws++[v]) w:=fun i d=>by
 rw[YQ];by_cases e:i<k
 ·rw[ba U];exact h i e
 have b:i=k:=U;rw[aM U,ba U,b];exact hv
def YR {w:World}{s:Value}{us:List lG}{E_:List mr}(h:mQ w s us E_):∀ x∈us,∀ v∈bm.enc x,v.oneCell'=true:=fun x hx v hv=>by
 obtain⟨i,b,rfl⟩:=ga hx;have h1:=(h.eI i (by have:=h.len;omega)).one;rw[oz,aq b]at h1;exact all_eq_true.1 h1 v hv
def j3 (t:aa)(a b c:Value)(w:World):Prop:=RS W w a t.vars/\RS W w b t.dt/\RS aD w c t.aF
def H1 {b c d:Value}{vs:List kq}{t:aa}(ht:bR w0 a b c d vs t)(I:aJ t) :
  Calls ak 46 #[.agg #[a,b,c,d]] w0 fun e w'=>∃ a2 f c2 d2 j,e=.returned (.agg #[a2,f,c2,d2])/\Z w0 w' [bA fun w=>bR w a2 f c2 d2 j t]:=by
 have _e:=ht;obtain⟨ha,hb,hc,hd⟩:=ht;have _f:=hd.rs;have _g:=hd.len;have _h:=I.M;have _i:=I.vars;have _j:=I.dt.1;have _k:=tR I.aF;have Y:=Z.start w0;refine bI ar Tryz.func46 ?_;refine w6 ?_;refine ve ?_;refine Bh ?_;clear Y;intro y w Y;replace Y:Z w0 w [am y 26 [a,b,c,d]]:=Y;refine H2 ?_;clear Y;intro u w Y;refine O ?_;refine rJ [3,3,7,16] (G:=Addr × Value × Value × Value) (fun g=>[(3,.pointer (some g.1))]) (fun g w=>Z w0 w [am g.1 26 [g.2.1,g.2.2.1,g.2.2.2,nS],X W 3 g.2.1 t.vars,X W 3 g.2.2.1 t.dt,X aD 63 g.2.2.2 t.aF,am u 26 [nS,nS,nS,nS],am y 26 [a,b,c,d]]) (fun _=>rfl) ?_ ?_
 ·refine u7 (.s [0,3,6,1,4,7] (.d 2 [4,7] (.d 5 [7] (.d 8 [] (.d 9 [] (.c 10 [1,4,7] (.s [11] (.jz []))) (.d 10 [1,4,7] (.s [9,11] (.jz [])) (.stop))) (.d 10 [1,4,7] (.s [8,9,11] (.jz [])) (.stop))) (.d 10 [1,4,7] (.c 5 [7] (.s [8,9,11] (.jz []))) (.stop))) (.d 10 [1,4,7] (.c 2 [4,7] (.c 5 [7] (.s [8,9,11] (.jz [])))) (.stop)))) Y kr kr ?_;clear Y;intro w Y
  refine O ?_;refine jl ?_ (jl ?_ pP)
  ·refine O ?_
   refine aR rfl (pU (ha.at Y) U) ?_;rintro _ w' ⟨a2,rfl,aw⟩;refine aO ?_;clear aw Y;intro Y;refine O ?_;refine jl ?_ (jl ?_ pP)
   ·refine O ?_
    refine aR rfl (pU (hb.at Y) U) ?_;rintro _ w' ⟨f,rfl,aw⟩;refine aO ?_;clear aw Y;intro Y;refine O ?_;refine jl ?_ (jl ?_ pP)
    ·refine O ?_
     refine aR rfl (Cl (hc.at Y) U) ?_;rintro _ w' ⟨c2,rfl,aw⟩;refine aO ?_;clear aw Y;intro Y;refine O ?_;refine jl ?_ (jl ?_ pP)
     ·refine O ?_
      have j:=(bB (s:=a2) Y).one;have q:=(bB (s:=f) Y).one;have r:=(bB (s:=c2) Y).one;refine Cy (v1:=a2) (v2:=f) (v3:=c2) rfl rfl rfl rfl (by simp only[fo,fB,j,q,r];rfl) ?_;refine dj ?_;intro o w Y;refine O ?_;refine lm (n:=4) (p:=o) (vs:=[a2,f,c2,nS]) rfl rfl Y inferInstance rfl rfl (by simp only[fo,fB,j,q,r];rfl) ?_;clear Y;intro w Y;refine O ?_;have l:Z w0 w [am o 26 [a2,f,c2,nS],X W 3 a2 t.vars,X W 3 f t.dt,X aD 63 c2 t.aF,am u 26 [nS,nS,nS,nS],am y 26 [a,b,c,d]]:=Y.bj;exact⟨(o,a2,f,c2),⟨rfl,az⟩,aX,l⟩
     refine dj ?_;intro o w Y;refine O ?_;have j:=(bB (s:=a2) Y).one;have q:=(bB (s:=f) Y).one;have r:=(bB (s:=c2) Y).one;refine Cy (v1:=a2) (v2:=f) (v3:=c2) rfl rfl rfl rfl (by simp only[fo,fB,j,q,r];rfl) ?_;refine O ?_;refine lm (n:=4) (p:=o) (vs:=[a2,f,c2,nS]) rfl rfl Y inferInstance rfl rfl (by simp only[fo,fB,j,q,r];rfl) ?_;clear Y;intro w Y;refine O ?_;have l:Z w0 w [am o 26 [a2,f,c2,nS],X W 3 a2 t.vars,X W 3 f t.dt,X aD 63 c2 t.aF,am u 26 [nS,nS,nS,nS],am y 26 [a,b,c,d]]:=Y.bj;exact⟨(o,a2,f,c2),⟨rfl,az⟩,aX,l⟩
    refine dj ?_;intro o w Y;refine O ?_;refine aR rfl (Cl (hc.at Y) U) ?_;rintro _ w' ⟨c2,rfl,aw⟩;refine aO ?_;clear aw Y;intro Y;refine O ?_;refine O ?_;have j:=(bB (s:=a2) Y).one;have q:=(bB (s:=f) Y).one;have r:=(bB (s:=c2) Y).one;refine Cy (v1:=a2) (v2:=f) (v3:=c2) rfl rfl rfl rfl (by simp only[fo,fB,j,q,r];rfl) ?_;refine O ?_;refine lm (n:=4) (p:=o) (vs:=[a2,f,c2,nS]) rfl rfl Y inferInstance rfl rfl (by simp only[fo,fB,j,q,r];rfl) ?_;clear Y;intro w Y;refine O ?_;have l:Z w0 w [am o 26 [a2,f,c2,nS],X W 3 a2 t.vars,X W 3 f t.dt,X aD 63 c2 t.aF,am u 26 [nS,nS,nS,nS],am y 26 [a,b,c,d]]:=Y.bj;exact⟨(o,a2,f,c2),⟨rfl,az⟩,aX,l⟩
   refine dj ?_;intro o w Y;refine O ?_;refine aR rfl (pU (hb.at Y) U) ?_;rintro _ w' ⟨f,rfl,aw⟩;refine aO ?_;clear aw Y;intro Y;refine O ?_;refine O ?_;refine aR rfl (Cl (hc.at Y) U) ?_;rintro _ w' ⟨c2,rfl,aw⟩;refine aO ?_;clear aw Y;intro Y;refine O ?_;refine O ?_;have j:=(bB (s:=a2) Y).one;have q:=(bB (s:=f) Y).one;have r:=(bB (s:=c2) Y).one;refine Cy (v1:=a2) (v2:=f) (v3:=c2) rfl rfl rfl rfl (by simp only[fo,fB,j,q,r];rfl) ?_;refine O ?_;refine lm (n:=4) (p:=o) (vs:=[a2,f,c2,nS]) rfl rfl Y inferInstance rfl rfl (by simp only[fo,fB,j,q,r];rfl) ?_;clear Y;intro w Y;refine O ?_;have l:Z w0 w [am o 26 [a2,f,c2,nS],X W 3 a2 t.vars,X W 3 f t.dt,X aD 63 c2 t.aF,am u 26 [nS,nS,nS,nS],am y 26 [a,b,c,d]]:=Y.bj;exact⟨(o,a2,f,c2),⟨rfl,az⟩,aX,l⟩
  refine dj ?_;intro o w Y;refine O ?_;refine aR rfl (pU (ha.at Y) U) ?_;rintro _ w' ⟨a2,rfl,aw⟩;refine aO ?_;clear aw Y;intro Y;refine O ?_;refine O ?_;refine aR rfl (pU (hb.at Y) U) ?_;rintro _ w' ⟨f,rfl,aw⟩;refine aO ?_;clear aw Y;intro Y;refine O ?_;refine O ?_;refine aR rfl (Cl (hc.at Y) U) ?_;rintro _ w' ⟨c2,rfl,aw⟩;refine aO ?_;clear aw Y;intro Y;refine O ?_;refine O ?_;have j:=(bB (s:=a2) Y).one;have q:=(bB (s:=f) Y).one;have r:=(bB (s:=c2) Y).one;refine Cy (v1:=a2) (v2:=f) (v3:=c2) rfl rfl rfl rfl (by simp only[fo,fB,j,q,r];rfl) ?_;refine O ?_;refine lm (n:=4) (p:=o) (vs:=[a2,f,c2,nS]) rfl rfl Y inferInstance rfl rfl (by simp only[fo,fB,j,q,r];rfl) ?_;clear Y;intro w Y;refine O ?_;have l:Z w0 w [am o 26 [a2,f,c2,nS],X W 3 a2 t.vars,X W 3 f t.dt,X aD 63 c2 t.aF,am u 26 [nS,nS,nS,nS],am y 26 [a,b,c,d]]:=Y.bj;exact⟨(o,a2,f,c2),⟨rfl,az⟩,aX,l⟩
 clear Y;rintro _l ⟨o,a2,f,c2⟩ w Y;simp only at Y;have q:Z w0 w [X cN 44 (nS) [],bA (lH t 0 []),bA (j3 t a2 f c2),am o 26 [a2,f,c2,nS],am u 26 [nS,nS,nS,nS],am y 26 [a,b,c,d]]:=by
  have l:Z w0 w [X W 3 a2 t.vars,X W 3 f t.dt,X aD 63 c2 t.aF,am o 26 [a2,f,c2,nS],am u 26 [nS,nS,nS,nS],am y 26 [a,b,c,d]]:=Y.bj;have P:=Z.rd (Δ:=[X W 3 a2 t.vars,X W 3 f t.dt,X aD 63 c2 t.aF]) (φ:=j3 t a2 f c2) (fun _ w h=>⟨h.rs 0 rfl,h.rs 1 rfl,h.rs 2 rfl⟩) l;exact(Z.r6 (φ:=lH t 0 []) (fun w i K=>absurd K (eo _)) P).nil
 clear Y;have Y:=q;clear q;refine O ?_;refine pu [5,6,20,57] (G:=Nat) (H:=Value) (I':=List kq) (fun k _ _=>[(20,E k)]) (fun k r ws w=>k<=t.M.length/\ws.length=k/\Z w0 w [X cN 44 r ws,bA (lH t k ws),bA (j3 t a2 f c2),am o 26 [a2,f,c2,r],am u 26 [nS,nS,nS,nS],am y 26 [a,b,c,d]]) (fun k _ _=>t.M.length-k) 0 (nS) [] (fun _ _ _=>rfl) ⟨rfl,az⟩ ⟨bC _,rfl,Y⟩ ?_;clear Y;rintro σ k r ws w ⟨hk,Q,Y⟩;refine aC ?_ ?_<;>intro h1
 ·have V:k<t.M.length:=U
  have D:=hd.eI k V;have _c:=D.one;have j':=D.pre;have hgo:=I.op k V;have _m:=tR hgo.pre;have _n:=hgo.aQ;obtain⟨us,F⟩:=D.aQ;have H':=F.rs;have J':=F.len;refine dj ?_;intro N w Y;refine gi (pl [0,1,3,4,2] (.cY 4::pl [6,5,7,8,9] [])) Y kr ?_;clear Y;intro w Y;refine O ?_;refine aR rfl (Cl (j'.at Y) U) ?_;rintro _ w' ⟨B,rfl,aw⟩;refine aO ?_;clear aw Y;intro Y;refine O ?_;refine aR rfl (YP (H'.at Y) U (YR F)) ?_;rintro _ w' ⟨A,rfl,aw⟩;refine aO ?_;clear aw Y;intro Y;have P':=(bB (s:=B) Y).one;have R':=(bB (s:=A) Y).one;refine O ?_;refine H3 (k:=2) (p:=N) (v:=B) rfl rfl P' Y inferInstance (by rw[cN.ok];decide) ?_;clear Y;intro w Y;refine O ?_;refine H3 (k:=3) (p:=N) (v:=A) rfl rfl R' Y inferInstance (by rw[iU,cN.ok];decide) ?_;clear Y;intro w Y;have q:Z w0 w [bA (qP (t.M.getD k bz).aQ 0 us),X bm 61 A us,am N 44 (cN.enc ⟨(aB cN vs k).name,(aB cN vs k).aT,B,A⟩),X aD 63 B (t.M.getD k bz).pre,X cN 44 r ws,bA (lH t k ws),bA (j3 t a2 f c2),am o 26 [a2,f,c2,r],am u 26 [nS,nS,nS,nS],am y 26 [a,b,c,d]]:=by
   have l:Z w0 w [X bm 61 A us,X aD 63 B (t.M.getD k bz).pre,am N 44 (cN.enc ⟨(aB cN vs k).name,(aB cN vs k).aT,B,A⟩),X cN 44 r ws,bA (lH t k ws),bA (j3 t a2 f c2),am o 26 [a2,f,c2,r],am u 26 [nS,nS,nS,nS],am y 26 [a,b,c,d]]:=Y;exact(Z.r6 (φ:=qP (t.M.getD k bz).aQ 0 us) (fun w i K=>absurd K (eo _)) l).bj
  clear Y;have Y:=q;clear q;have _a:yz (t.M.getD k bz).aQ us 0 us:=⟨J',fun i K=>⟨(F.eI i K).var,(F.eI i K).val⟩,fun i _ _=>rfl⟩
  refine O ?_;refine dP [6,6,35,50] (G:=Nat) (H:=List lG) (fun j _=>[(35,E j)]) (fun j es w=>j<=(t.M.getD k bz).aQ.length/\yz (t.M.getD k bz).aQ us j es/\Z w0 w [bA (qP (t.M.getD k bz).aQ j es),X bm 61 A es,am N 44 (cN.enc ⟨(aB cN vs k).name,(aB cN vs k).aT,B,A⟩),X aD 63 B (t.M.getD k bz).pre,X cN 44 r ws,bA (lH t k ws),bA (j3 t a2 f c2),am o 26 [a2,f,c2,r],am u 26 [nS,nS,nS,nS],am y 26 [a,b,c,d]]) (fun j _=>(t.M.getD k bz).aQ.length-j) 0 us (fun _ _=>rfl) ⟨rfl,az⟩ ⟨bC _,_a,Y⟩ ?_;clear Y;rintro _o j es w ⟨hj,R,Y⟩;have _d:=R.len;refine aC ?_ ?_<;>intro h2
  ·have z:j<(t.M.getD k bz).aQ.length:=U
   have T':=F.eI j z;have _p:=R.Fh j z;have V':=R.Q9 j (cP _) z;have _q:=tR (hgo.fS j z).1;have S:RS aD w0 (aB bm es j).cb ((t.M.getD k bz).aQ.getD j bQ).cb:=by rw[V'];exact T'.cb
   refine O ?_;refine gi (pl [0,1,2,3,4,5,6,7,8,9] (.cY 1::pl [10,11,12] [])) Y kr ?_;clear Y;intro w Y;refine O ?_;refine aR rfl (Cl (S.at Y) U) ?_;rintro _ w' ⟨C,rfl,aw⟩;refine aO ?_;clear aw Y;intro Y;have _b:=(bB (s:=C) Y).one;refine O ?_;refine YS (T:=bm) (s:=A) (j:=j) (k:=0) (v:=C) (x':=⟨C,(aB bm es j).var,(aB bm es j).val⟩) rfl rfl _b Y inferInstance U (fg _) (by rw[<-oz];rfl) ?_;clear Y;intro w Y;have q:Z w0 w [bA (qP (t.M.getD k bz).aQ (j+1) (es.set j ⟨C,(aB bm es j).var,(aB bm es j).val⟩)),X bm 61 A (es.set j ⟨C,(aB bm es j).var,(aB bm es j).val⟩),am N 44 (cN.enc ⟨(aB cN vs k).name,(aB cN vs k).aT,B,A⟩),X aD 63 B (t.M.getD k bz).pre,X cN 44 r ws,bA (lH t k ws),bA (j3 t a2 f c2),am o 26 [a2,f,c2,r],am u 26 [nS,nS,nS,nS],am y 26 [a,b,c,d]]:=by
    have l:Z w0 w [X aD 63 C ((t.M.getD k bz).aQ.getD j bQ).cb,bA (qP (t.M.getD k bz).aQ j es),X bm 61 A (es.set j ⟨C,(aB bm es j).var,(aB bm es j).val⟩),am N 44 (cN.enc ⟨(aB cN vs k).name,(aB cN vs k).aT,B,A⟩),X aD 63 B (t.M.getD k bz).pre,X cN 44 r ws,bA (lH t k ws),bA (j3 t a2 f c2),am o 26 [a2,f,c2,r],am u 26 [nS,nS,nS,nS],am y 26 [a,b,c,d]]:=Y;exact Z.DQ (χ:=qP (t.M.getD k bz).aQ (j+1) (es.set j ⟨C,(aB bm es j).var,(aB bm es j).val⟩)) (fun w h1 h2=>h2.step U h1) (Z.rd (Δ:=[X aD 63 C ((t.M.getD k bz).aQ.getD j bQ).cb]) (φ:=fun w=>RS aD w C ((t.M.getD k bz).aQ.getD j bQ).cb) (fun _ _ h=>h.rs 0 rfl) l)
   refine O ?_;exact⟨j+1,_,⟨rfl,az⟩,aX,⟨U,R.step z,q⟩,U⟩
  have _b:j=(t.M.getD k bz).aQ.length:=U;subst _b;obtain⟨z,S⟩:∃ z:kq,z=⟨(aB cN vs k).name,(aB cN vs k).aT,B,A⟩:=⟨_,rfl⟩
  rw[<-S]at Y;have T':∀ v∈cN.enc z,v.oneCell'=true:=by
   rw[S];intro v hv;simp only[cN,gT,jd,pQ]at hv;rcases hv with rfl|rfl|rfl|rfl
   ·rfl
   ·rfl
   ·exact P'
   exact R'
  have q:Z w0 w [bA fun w=>sK w z (t.M.getD k bz),am N 44 (cN.enc z),X cN 44 r ws,bA (lH t k ws),bA (j3 t a2 f c2),am o 26 [a2,f,c2,r],am u 26 [nS,nS,nS,nS],am y 26 [a,b,c,d]]:=by
   have l:Z w0 w [bA (qP (t.M.getD k bz).aQ (t.M.getD k bz).aQ.length es),X bm 61 A es,X aD 63 B (t.M.getD k bz).pre,am N 44 (cN.enc z),X cN 44 r ws,bA (lH t k ws),bA (j3 t a2 f c2),am o 26 [a2,f,c2,r],am u 26 [nS,nS,nS,nS],am y 26 [a,b,c,d]]:=Y.bj;refine Z.rd (Δ:=[bA (qP (t.M.getD k bz).aQ (t.M.getD k bz).aQ.length es),X bm 61 A es,X aD 63 B (t.M.getD k bz).pre]) (φ:=fun w=>sK w z (t.M.getD k bz)) (fun _ w h=>?_) l;have C:=h.dQ 0 rfl;rw[S];exact⟨D.name,D.size,D.aT,h.rs 2 rfl,es,h.rs 1 rfl,R.len,fun i K=>⟨(R.Fh i K).1,(R.Fh i K).2,C i K⟩⟩
  clear Y;have Y:=q;clear q;refine O ?_;refine jA cN (x1:=z) rfl rfl rfl (fP rfl) (fg _) Y ?_;clear Y;intro bs w Y;refine O ?_;refine sF (s:=r) (s2:=bs) inferInstance rfl rfl (bB Y) rfl rfl (fun x hx v hv=>by rw[fU.1 hx]at hv;exact T' v hv) (by simp only[length_cons,length_nil];omega) (by unfold cn;simp only[length_cons,length_nil];omega) Y ?_;clear Y;intro C w Y;have V':=(bB (s:=C) Y).one;refine jD ?_;intro w Y;have q:Z w0 w [X cN 44 C (ws++[z]),bA (lH t (k+1) (ws++[z])),bA (j3 t a2 f c2),am o 26 [a2,f,c2,C],am u 26 [nS,nS,nS,nS],am y 26 [a,b,c,d]]:=by
   have l:Z w0 w [X cN 44 bs [z],bA fun w=>sK w z (t.M.getD k bz),am N 44 (cN.enc z),X cN 44 C (ws++[z]),bA (lH t k ws),bA (j3 t a2 f c2),am o 26 [a2,f,c2,C],am u 26 [nS,nS,nS,nS],am y 26 [a,b,c,d]]:=Y;have P:Z w0 w [bA fun w=>sK w z (t.M.getD k bz),bA (lH t k ws),X cN 44 C (ws++[z]),bA (j3 t a2 f c2),am o 26 [a2,f,c2,C],am u 26 [nS,nS,nS,nS],am y 26 [a,b,c,d]]:=l.bj;exact(Z.DQ (χ:=lH t (k+1) (ws++[z])) (fun w h1 h2=>h2.step Q h1) P).swap
  exact⟨k+1,_,_,⟨rfl,az⟩,aX,⟨U,by simp[Q],q⟩,U⟩
 have l:k=t.M.length:=U;subst l;have V':=(bB (s:=r) Y).one
 have q:Z w0 w [bA fun w=>bR w a2 f c2 r ws t,am o 26 [a2,f,c2,r],am u 26 [nS,nS,nS,nS],am y 26 [a,b,c,d]] :=
  Z.rd (Δ:=[X cN 44 r ws,bA (lH t t.M.length ws),bA (j3 t a2 f c2)]) (φ:=fun w=>bR w a2 f c2 r ws t) (fun _ w h=>⟨(h.dQ 2 rfl).1,(h.dQ 2 rfl).2.1,(h.dQ 2 rfl).2.2,h.rs 0 rfl,Q,h.dQ 1 rfl⟩) Y
 clear Y;have Y:=q;clear q;have j:=Y.dQ 0 rfl;have z:=j.vars.one;have A:=j.dt.one;have B:=j.aF.one;refine O ?_;refine lm (n:=4) (p:=u) (vs:=[a2,f,c2,r]) rfl rfl Y inferInstance rfl rfl (by simp only[fo,fB,z,A,B,V'];rfl) ?_;clear Y;intro w Y;refine O ?_;exact DR (p:=u) (vs:=[a2,f,c2,r]) rfl rfl rfl (Y.dA 2 rfl) ⟨a2,f,c2,r,ws,rfl,Y.bj⟩
end Go.Proofs.YtmapkjoefdgjfaaGreatDoor
