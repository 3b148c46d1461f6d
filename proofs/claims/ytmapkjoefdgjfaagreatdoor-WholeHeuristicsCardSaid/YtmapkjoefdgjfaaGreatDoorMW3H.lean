/- Several texts. -/
import Derived.Test.YtmapkjoefdgjfaaGreatDoorMW2H
import Derived.Shelf.Sort.Plain
import Derived.Shelf.Slices.In.SortNone
import Derived.Shelf.Slices.CompactI
set_option linter.unusedSimpArgs false
set_option linter.unusedVariables false
set_option linter.defProp false
set_option maxRecDepth 8000
set_option maxHeartbeats 16000000
open List Nat
namespace Go.Proofs.YtmapkjoefdgjfaaGreatDoor
open Go.Sl
variable {w0 w:World}{a m b c d s:Value}{L xs:J}{v u:Int}{k:Nat}{Γ:List HP}{vs:List kq}{t:aa}{f:List bE}{o:mM}{Q:Int × Int->Prop}{pv:Addr}
section
open Go.Sl Go Go.Shelf
def Pb:Ren:=⟨rl [125,98,128,132,129,133,189,77,215,158,216,129,257,97,294,123,295,124,296,125,297,126,298,127,299,128,300,130,301,131,328,153,329,154,330,155,331,156,332,157,343,178],rl [0,0,3,3,4,4,5,5,9,9,28,22,46,175,51,218,53,220,131,183,182,210,183,211,218,250,222,254,228,279,229,267],fun k=>k⟩
set_option maxRecDepth 100000 in
def wN:Lays.n189 ak Pb:=by constructor<;>first|exact ar|kernel_rfl|(intro w;kernel_rfl)
def Pc:Ren:=⟨rl [20,78],rl [0,0,3,3,4,4,22,22],fun k=>k⟩
set_option maxRecDepth 100000 in
def rF:Lays2.n20 ak Pc:=by constructor<;>first|exact ar|kernel_rfl|(intro w;kernel_rfl)
def fW (xs:J):J:=xs.mergeSort fun x y=>decide (x<=y)
def Fw (xs:J):(fW xs).length=xs.length:=length_mergeSort _
def If {x:Int}:x∈fW xs↔x∈xs:=mem_mergeSort
def LS (xs:J):(fW xs).Pairwise (·<=·):=by
 have:=pairwise_mergeSort (le:=fun x y:Int=>decide (x<=y)) (fun a b c h k=>by simp at h k ⊢;omega) (fun a b=>by simp;omega) xs;exact this.imp fun h=>by simpa using h
def Fb (Y:Z w0 w (X W 3 s xs::Γ))(h:xs.length<4611686018427387904) :
  Calls ak 77 #[s] w fun e w'=>e=.returned (.tuple #[])/\Z w0 w' (X W 3 s (fW xs)::Γ):=by
 rcases Y.y9 with ⟨rfl,rfl⟩|⟨b,off,cap,rfl,j,i,hH,g⟩
 ·refine wh (Any.slices_Sort_int_none wN none 0 w) ?_
  rintro e w' ⟨rfl,rfl⟩;exact⟨rfl,(by have e:fW []=[]:=qD (Fw []);rw[e];exact Y)⟩
 refine wh (Any.slices_Sort_int wN b off cap xs w hH i h) ?_;rintro e w' ⟨rfl,n,os,rfl⟩;exact⟨rfl,(g (fW xs) (Fw xs) n).grow os⟩
def dZ (xs:J):J:=Lib.compact xs
def RK (xs:J):(dZ xs).length<=xs.length:=by
 unfold dZ Lib.compact Lib.compactUpTo;rw[lA];exact rN (wV _ _) sm
def Ig (Y:Z w0 w (X W 3 s xs::Γ))(i:xs.length<=9223372036854775807) :
  Calls ak 78 #[s] w fun e w'=>∃ g,e=.returned g/\Z w0 w' (X W 3 g (dZ xs)::Γ):=by
 rcases Y.y9 with ⟨rfl,rfl⟩|⟨b,off,cap,rfl,j,q,hH,g⟩
 ·refine wh (Any.slices_Compact_int_empty rF none 0 w) ?_
  rintro e w' ⟨rfl,rfl⟩;exact⟨_,rfl,Y⟩
 refine wh (Any.slices_Compact_int rF b off cap xs w hH i j) ?_;rintro e w' ⟨rfl,n,rfl⟩;have fh:=RK xs;have h1:=g (dZ xs++replicate (xs.length-(dZ xs).length) 0) (by simp;omega) n;refine⟨_,rfl,?_⟩;have hlen:(dZ xs).length<=(dZ xs++replicate (xs.length-(dZ xs).length) 0).length:=sm;have h:=h1.sub own_here 0 (dZ xs).length (bC _) hlen;have e:cut (dZ xs++replicate (xs.length-(dZ xs).length) 0) 0 (dZ xs).length=dZ xs:=by simp[cut]
 have l:ssub (.slice (some ⟨b,off,none⟩) xs.length cap) W.sz 0 (dZ xs).length=.slice (some ⟨b,off,none⟩) (dZ xs).length cap:=by simp[ssub,Ac,W]
 rw[e,l]at h;exact h
end
section
open Go.Sl Go
attribute [local irreducible] vc opsW opsD opV opW PureV ReadV Thn Blk
def É (q:RS W w0 a xs) :
  Calls ak 122 #[a,E v] w0 fun e w'=>(∃ r:Int,e=.returned (E r)/\(0<=r↔v∈xs))/\Z w0 w' []:=by
 have x:=q.cn;have Y:=Z.start w0;refine bI ar Tryz.func122 ?_;refine O ?_;refine de [4,5,8,18] (G:=Nat) (fun k=>[(8,E k)]) (fun k w=>k<=xs.length/\(∀ i,i<k->xs.getD i W.dflt≠v)/\Z w0 w []) (fun k=>xs.length-k) 0 (fun _=>rfl) ⟨rfl,az⟩ ⟨bC _,fun i j=>absurd j (eo _),Y⟩ ?_;clear Y;rintro y k w ⟨hk,g,Y⟩;refine aC ?_ ?_<;>intro h1
 ·have l:k<xs.length:=U
  refine aC ?_ ?_<;>intro n
  ·refine O ?_
   refine bo (v:=E k) rfl rfl ⟨⟨k,rfl,⟨fun _=>?_,fun _=>U⟩⟩,Y⟩;rw[n];exact cS _ l
  refine O ?_;refine⟨k+1,⟨rfl,az⟩,aX,⟨U,fun i j=>?_,Y⟩,U⟩;by_cases h:i=k
  ·subst h;exact fun h=>n h.symm
  exact g i U
 refine O ?_;refine bo (v:=E (-1)) rfl rfl ⟨⟨-1,rfl,⟨fun h=>U,fun h=>?_⟩⟩,Y⟩;obtain⟨i,j,he⟩:=Bd.1 h;exact absurd (by rw[aq j];exact he) (g i U)
def xR (g:RS W w0 a xs) :
  Calls ak 96 #[a,E v] w0 fun e w'=>e=.returned (.bool (decide (v∈xs)))/\Z w0 w' []:=by
 have Y:=Z.start w0;refine bI ar Tryz.func96 ?_;refine O ?_;refine aR rfl (É g) ?_;rintro _ w' ⟨⟨r,rfl,h⟩,aw⟩;refine aL ?_;clear aw Y;intro Y;refine O ?_;refine bo (v:=.bool (decide (0<=r))) rfl rfl ⟨?_,Y⟩;rw[decide_eq_decide.2 h]
def pU (g:RS W w0 a xs)(q:xs.length<=1099511627776) :
  Calls ak 47 #[a] w0 fun e w'=>∃ s,e=.returned s/\Z w0 w' [X W 3 s xs]:=by
 have Y:=Z.start w0;obtain⟨i,cap,j⟩:=g.shape;subst j;refine bI ar Tryz.func47 ?_;refine O ?_;refine fR rfl (Fg (a:=i) (n:=xs.length) (c:=cap) rfl) ?_
 cases i with
 | none =>
  have l:xs=[]:=by
   rcases wg xs.length with h|h
   ·exact qD h
   obtain⟨p,c2,he,_⟩:=g.some dc h;cases he
  subst l;refine O ?_
  exact bo (v:=nS) rfl rfl ⟨_,rfl,Y.nil⟩
 | some p =>
  refine O ?_;refine zU W Y ?_;clear Y;intro s1 w Y;refine kO ?_;intro s w Y;rw[lQ]at Y;exact bo (v:=s) rfl rfl ⟨_,rfl,Y⟩
def s6 (L:J)(k:Nat):List (Int × Int):=(List.range k).map fun (j:Nat)=>(((L.length:Int)-1-(j:Int)),L.getD (L.length-1-j) W.dflt)
def Ê (L:J)(k:Nat):s6 L (k+1)=s6 L k++[(((L.length:Int)-1-(k:Int)),L.getD (L.length-1-k) W.dflt)]:=by simp[s6,lN]
def Ë (e:Addr)(a:Value)(L:J)(g h:World):Prop:=(g.cell? e=some a->h.cell? e=some a)/\(RS W g a L->RS W h a L)
def uc (x:{ p:Int × Int // Q p }):Array Value:=#[E x.1.1,E x.1.2]
def Ì {n:Nat}{r:Addr}(P:∀ i:Nat,i<L.length->Q ((i:Int),L.getD i W.dflt))(C:w0.cell? r=some a)(x:RS W w0 a L) :
  SeqStopsK (α:={ p:Int × Int // Q p }) Fence.wide n ak 161 #[.pointer (some r)] uc (Ë r a L) (fun xs=>xs.map (·.1)=s6 L L.length) (fun _=>True) L.length w0:=by
 intro l e Jx D F hJ R S K;refine(callsIn_wide (n:=n)).2 ?_;have g:D.cell? r=some a:=by
  have j:r.block<w0.heap.size:=by
   rcases pB r.block w0.heap.size with h|h
   ·exact h
   simp[World.cell?,vj h]at C
  rw[F.cell j];exact C
 have q:RS W D a L:=⟨x.1.below F,x.2⟩
 have T:=x.cn;refine bI ar Tryz.func161 ?_;refine O ?_;refine r7 rfl (yd rfl g) ?_;refine O ?_;refine dP [3,3,7,18] (G:=Nat) (H:=List { p:Int × Int // Q p }) (fun k _=>[(3,E ((L.length:Int)-1-(k:Int)))]) (fun k pre w=>k<=L.length/\pre.map (·.1)=s6 L k/\e pre w/\w.cell? r=some a/\RS W w a L) (fun k _=>L.length-k) 0 [] (fun _ _=>rfl) ⟨by have V:((L.length:Int)-1-((0:Nat):Int))=(L.length:Int)-1:=U;rw[V];rfl,az⟩ ⟨bC _,rfl,K,g,q⟩ ?_;clear g q K;rintro σ k pre w ⟨hk,j,N,g,q⟩;refine aC ?_ ?_<;>intro h1
 ·have j':k<L.length:=U
  have H':pre.length=k:=by have:=uZ List.length j;simpa [s6] using this
  have e1:((L.length:Int)-1-(k:Int)).toNat=L.length-1-k:=U;have e2:((L.length-1-k:Nat):Int)=(L.length:Int)-1-(k:Int):=U;have hx:=P (L.length-1-k) U;rw[e2]at hx;have hy:=S pre ⟨_,hx⟩ w N U;refine O ?_;refine r7 rfl (yd rfl g) ?_;refine O ?_;rw[e1];refine RL (l:=l) rfl rfl hy ?_;rintro _ W' (⟨rfl,y,z,A⟩|⟨rfl,B⟩)
  ·refine⟨_,rfl,?_⟩
   refine O ?_;refine⟨k+1,pre++[⟨_,hx⟩],⟨?_,az⟩,aX,⟨U,?_,y,z g,A q⟩,U⟩
   ·show Value.int .i64 _=_
    congr 1;omega
   rw[qG,j,Ê];rfl
  refine⟨_,rfl,?_⟩;refine O ?_;exact LU rfl ⟨⟨_,rfl⟩,.inr ⟨_,az,B⟩⟩
 have y:k=L.length:=U;subst y;refine O ?_;exact uK rfl ⟨⟨_,rfl⟩,.inl ⟨pre,j,N⟩⟩
def s7 (x:{ p:Int × Int // Q p }):Int:=x.1.2
def Í (L:J):(s6 L L.length).map (·.2)=L.reverse:=by
 apply jB (by simp[s6]);intro i h1 e;have g:i<L.length:=by simpa using e
 simp only[s6,Bb,getElem_map,tI,Function.comp_apply,getElem_reverse];rw[aq U]
def Î :
  Calls ak 136 #[a] w0 fun e w'=>∃ g,e=.returned (.func (.func 161) #[] #[.pointer (some g)])/\Z w0 w' [am g 22 a.cells.toList]:=by
 have Y:=Z.start w0;refine bI ar Tryz.func136 ?_;refine ep ?_;intro p w Y;exact bo (v:=.func (.func 161) #[] #[.pointer (some p)]) rfl rfl ⟨p,rfl,Y⟩
def LV {st:J}{n:Int}(ht:bR w0 a b c d vs t)(hL:RS W w0 m L)(Y:Z w0 w (X W 3 s st::Γ))(hp:∀ x∈t.vars,1<=x)(hv:∀ v∈L,0<=v/\v<t.vars.length)(_h:st.length=t.vars.length)(hn:0<=n)(_i:n<=1099511627776) :
  Calls ak 104 #[.agg #[a,b,c,d],m,s,E n] w fun e w'=>e=.returned (.tuple #[])/\Z w0 w' (X W 3 s (jp t.vars L st n)::Γ):=by
 obtain⟨ha,hb,hc,hd⟩:=ht;have _j:=ha.cn;have _k:=hL.cn;have R':s.cells.toList=[s]:=(Y.rs 0 rfl).fu;have T':m.cells.toList=[m]:=hL.fu;refine(callsIn_wide (n:=3)).1 (callsIn_of_wp_marks (F:=Fence.wide) (n:=3) Tryz.func104 rfl trivial ?_);refine HY (ro:=none) (n:=31) ar kr (by simp only[Array.size_append,QX];rfl) rfl ?_;rw[show (#[.agg #[a,b,c,d],m,s,E n]:Array Value)=[.agg #[a,b,c,d],m,s,E n].toArray from rfl,QY];refine ve ?_;refine Bh ?_;clear Y;intro pt w Y;refine Bh ?_;clear Y;intro ps w Y;refine Bh ?_;clear Y;intro pn w Y;refine Bn ?_;refine D6 ?_;intro a1 C G H;refine HY (ro:=none) (n:=31) ar kr C G ?_;rw[H];refine O ?_;refine aR rfl (Î (a:=m)) ?_;rintro _ w' ⟨N,rfl,aw⟩;replace Y:=Y.pI aw;clear aw;rw[T',R']at Y;refine⟨_,rfl,?_⟩;refine O ?_;intro a2 A V' P;clear H G C;refine wpIn_block ?_;have R:a2.defers=[]:=V';obtain⟨V,_a⟩:=À w';subst _a;have hB:w0.heap.size<=V.heap.size:=Y.below.size;have _b:V.cell? N=some m:=DP (i:=0) Y rfl rfl;have e9:∀ x:{ p:Int × Int // 0<=p.2/\p.2<t.vars.length },fr (({ tmps:=(#[12,13].zip (uc x)).foldl (fun t (p,v)=>t.setIfInBounds p v) a2.tmps,defers:=[] }:Act).put (some 9) (E x.1.2))=fQ (fQ (fQ (fr a2) 12 (E x.1.1)) 13 (E x.1.2)) 9 (E x.1.2):=fun x=>by
  rw[yb (fun t e=>by cases e;rw[show (#[12,13].zip (uc x))=#[12,13].zip #[E x.1.1,E x.1.2] from rfl,LW,A];decide)];rw[show (#[12,13].zip (uc x))=#[12,13].zip #[E x.1.1,E x.1.2] from rfl,RM U U];have:(⟨a2.tmps,[]⟩:Act)=a2:=by rw[<-R]
  rw[this];rfl
 refine wpIn_rangeFunc_ownF (F:=Fence.wide) (n:=3) (α:={ p:Int × Int // 0<=p.2/\p.2<t.vars.length }) rfl dc (gf:=161) (lb:=#[.pointer (some N)]) (by rw[<-sJ,P];rfl) trivial (fun args w=>au.run inferInstance args w)
  (Ì (n:=2) (Q:=fun p=>0<=p.2/\p.2<t.vars.length) (fun i r=>hv _ (cS W.dflt r)) _b (hL.at Y))
  (fun h k=>⟨fun e=>k.1 (h.1 e),fun e=>k.2 (h.2 e)⟩) (fun z l o o' _ g q _=>⟨Lq g q,QZ g q⟩) (Go.RowKit.Below.refl _ _) (fun _=>rfl)
  (fun pre z=>V.heap.size<=z.heap.size/\qi V.heap.size w0 z (am N 22 [m]::am pn 3 [E (mF t.vars (pre.map s7) st n).2]::am ps 22 [s]::am pt 26 [a,b,c,d]::X W 3 s (mF t.vars (pre.map s7) st n).1::Γ))
  (fun _ _ _=>False) (qi.own (Γ:=fun pre=>_) hB) (fun _=>fun _ _ _ _ h=>h.elim) ⟨cP _,Y.Ï⟩
  (fun x=>({ tmps:=(#[12,13].zip (uc x)).foldl (fun t (p,v)=>t.setIfInBounds p v) a2.tmps,defers:=[] }:Act).put (some 9) (E x.1.2)) ?assign ?body ?done ?stop
 case assign =>
  intro l x z K hK;refine Q1 (ro:=some l) ar ?_ rfl ?_
  ·rw[show (#[12,13].zip (uc x))=#[12,13].zip #[E x.1.1,E x.1.2] from rfl,LW,A];decide
  rw[show (#[12,13].zip (uc x))=#[12,13].zip #[E x.1.1,E x.1.2] from rfl,RM U U];exact hK
 case body =>
  rintro l pre x z ⟨B,hC⟩ _;obtain⟨⟨xi,g⟩,_c,_d⟩:=x;simp only at _c _d;have _g:=hp _ (cS W.dflt (show g.toNat<t.vars.length by omega));have j':=RN t.vars (pre.map s7) st n;have H':=Ð (s:=st) (vs:=pre.map s7) hp hn fun v hv=>by
   obtain⟨y,_,rfl⟩:=iG.1 hv;exact y.2
  have J':=Ih t.vars (pre.map s7) st n g;obtain⟨S,hS⟩:=À (mF t.vars (pre.map s7) st n);rw[<-hS]at hC j' H' J';obtain⟨S1,S2⟩:=S;simp only at hC j' H' J';refine wpIn_mono (yc (ro:=some l) (n:=31) ar _ kr (fun e ρ W'=>e=.normal/\qj z W'/\qi V.heap.size w0 W' (am N 22 [m]::am pn 3 [E (vF t.vars (S1,S2) g).2]::am ps 22 [s]::am pt 26 [a,b,c,d]::X W 3 s (vF t.vars (S1,S2) g).1::Γ)) _ _ ?_ rfl ?_) ?_
  ·rw[fN,show (#[12,13].zip (uc _))=#[12,13].zip #[E xi,E g] from rfl,LW,A]
  ·rw[e9,P]
   show vc _ _ _ (fQ (fQ (fQ _ 12 (E xi)) 13 (E g)) 9 (E g)) _;clear Y;have Y:=hC.open hB;refine DL ?_;refine w6 ?_;refine RO Y (by decide +kernel) ?_;clear Y;intro w1 r Y;refine O ?_;refine Ñ (T:=W) (s:=s) (j:=g.toNat) (v:=E (S2.tmod (t.vars.getD g.toNat W.dflt))) (x':=S2.tmod (t.vars.getD g.toNat W.dflt)) rfl rfl rfl Y inferInstance U rfl ?_;clear Y;intro w2 Y P';refine O ?_;refine RO Y (by decide +kernel) ?_;clear Y;intro w3 _e Y;refine O ?_;refine Q3 (k:=0) (p:=pn) (v:=E (S2.tdiv (t.vars.getD g.toNat W.dflt))) (by simp[Addr.add];rfl) rfl rfl Y inferInstance sm ?_;clear Y;intro w4 Y _f;refine O ?_;have q:=((r.trans P').trans _e).trans _f;exact⟨rfl,q,Y.close q.1⟩
  intro e a' W' hq;obtain⟨_,_,rfl,q,P'⟩:=hq;have r:=P'.yy;refine⟨q.Dt,⟨fun _=>DP (i:=0) r rfl rfl,fun _=>hL.at r⟩,by rw[q.1];exact B,?_⟩;rw[qG,map_singleton,Ih,<-hS];exact P'
 case done =>
  rintro D xs z q hS ⟨B,hC⟩ hK;refine⟨sm,.inl ⟨_,_,rfl,run_takeDeferred hK,?_⟩⟩;rw[R];have hI:=(qi.own (Γ:=fun pre:List { p:Int × Int // 0<=p.2/\p.2<t.vars.length }=>(am N 22 [m]::am pn 3 [E (mF t.vars (pre.map s7) st n).2]::am ps 22 [s]::am pt 26 [a,b,c,d]::X W 3 s (mF t.vars (pre.map s7) st n).1::Γ)) hB).putObj (o':=.deferred none) ⟨B,hC⟩ q hK rfl;have r:=hI.2.yy;have g:xs.map s7=L.reverse:=by
   have:=uZ (List.map (·.2)) hS;rw[Í,Bb]at this;exact this
  rw[g]at r;exact⟨.tuple #[],by simp[results,Tryz.f104],rfl,r.tail.tail.tail.tail⟩
 case stop =>
  rintro D c pre z _ _ g _;exact g.elim
instance (vars p:J):Decidable (fX vars p):=by unfold fX;infer_instance
noncomputable def nb (t:aa)(p:J):Int:=if cC t≠0 then cC t else if fX t.vars p then 0 else 2
def Ò (x:bR w0 a b c d vs t)(z:RS W w0 m L) :
  Calls ak 100 #[.agg #[a,b,c,d],m] w0 fun e w'=>e=.returned (bS (nb t L))/\Z w0 w' []:=by
 have l:=x;obtain⟨A,K,N,P⟩:=x;have B:=A.cn;have C:=z.cn;have Y:=Z.start w0;refine bI ar Tryz.func100 ?_;refine ep ?_;intro D w Y;refine aR rfl (xL (l.at Y)) ?_;rintro _ w' ⟨rfl,aw⟩;refine aL ?_;clear aw Y;intro Y;by_cases hk:cC t=0
 ·rw[ff hk]
  refine O ?_;refine de [4,4,6,7,15,43] (G:=Nat) (fun k=>[(15,E k)]) (fun k w=>k<=L.length/\(∀ i,i<k->(0<=L.getD i W.dflt/\L.getD i W.dflt<t.vars.length)/\(0<i->L.getD (i-1) W.dflt<L.getD i W.dflt))/\Z w0 w [am D 26 [a,b,c,d]]) (fun k=>L.length-k) 0 (fun _=>rfl) ⟨rfl,az⟩ ⟨bC _,fun i n=>absurd n (eo _),Y⟩ ?_;clear Y;rintro R k w ⟨F,g,Y⟩;refine aC ?_ ?_<;>intro h1
  ·have q:k<L.length:=U
   have y:((k:Int)-1).toNat=k-1:=U;refine aC ?_ ?_<;>intro j
   ·refine O ?_
    refine bo (v:=bS 2) rfl (by rw[c9 dc];rfl) ⟨?_,Y.tail⟩;rw[nb,aM (by simp[hk]),aM];intro r;have H:=r k q;rw[y]at j;rcases j with (j|j)|⟨j,S⟩
    ·omega
    ·omega
    have:=H.2 U;omega
   rw[y]at j;refine O ?_;refine⟨k+1,⟨rfl,az⟩,aX,⟨U,fun i n=>?_,Y⟩,U⟩;by_cases h:i=k
   ·subst h;exact⟨U,fun r=>U⟩
   exact g i U
  refine O ?_;refine bo (v:=bS 0) rfl (by rw[ff rfl];rfl) ⟨?_,Y.tail⟩;rw[nb,aM (by simp[hk]),ba];intro i n;exact g i U
 rw[c9 hk];refine O ?_;refine bo (v:=bS (cC t)) rfl (by rw[c9 hk];rfl) ⟨?_,Y.tail⟩;rw[nb,ba hk]
def KL {vars:J}(e:∀ x∈vars,1<=x)(g:∀ v∈L,0<=v/\v<vars.length)(k:Nat):bG vars (L.take k)<=bG vars L:=by
 have h1:gJ vars (L.take k)=(gJ vars L).take k:=by simp[gJ,map_take]
 rw[bG,h1];exact Fx (RP e g) k
def Ó {vars:J}(hk:k<L.length):bG vars (L.take (k+1))=bG vars (L.take k)*sg vars (L.getD k W.dflt):=by
 rw[eX W.dflt hk,LX]
def Qi {vars s:J}(hk:k<L.length):cy vars (L.take (k+1)) s=cy vars (L.take k) s*sg vars (L.getD k W.dflt)+sg s (L.getD k W.dflt):=by
 rw[eX W.dflt hk,RQ]
def LY (r:bR w0 a b c d vs t)(x:RS W w0 m L)(I:aJ t)(i:∀ v∈L,0<=v/\v<t.vars.length) :
  Calls ak 101 #[.agg #[a,b,c,d],m] w0 fun e w'=>e=.returned (.tuple (if bG t.vars L<=4096 then #[E (bG t.vars L),.bool true] else #[E 0,.bool false]))/\Z w0 w' []:=by
 obtain⟨y,D,F,K⟩:=r;have z:=y.cn;have A:=x.cn;have Y:=Z.start w0;refine bI ar Tryz.func101 ?_;refine ep ?_;intro B w Y;refine dP [4,6,8,8,11,24] (G:=Nat) (H:=Int) (fun k n=>[(11,E k),(6,E n)]) (fun k n w=>k<=L.length/\n=bG t.vars (L.take k)/\n<=4096/\Z w0 w [am B 26 [a,b,c,d]]) (fun k _=>L.length-k) 0 1 (fun _ _=>rfl) ⟨rfl,rfl,az⟩ ⟨bC _,rfl,dc,Y⟩ ?_;clear Y;rintro N k n w ⟨hk,h,j,Y⟩;refine aC ?_ ?_<;>intro h1
 ·have g:k<L.length:=U
  have hv:=i _ (cS W.dflt g);have C:=I.pC (L.getD k W.dflt).toNat U;have l:1<=n:=by rw[h];exact EZ I.pos fun v hv=>i v (rZ hv)
  have q:bG t.vars (L.take (k+1))=n*sg t.vars (L.getD k W.dflt):=by rw[Ó g,h]
  have fh:=KL I.pos i (k+1);simp only[sg]at q;have P:0<=n*t.vars.getD (L.getD k W.dflt).toNat W.dflt:=vX U U;have R:n*t.vars.getD (L.getD k W.dflt).toNat W.dflt<=4096*64:=w9 j U U U;refine aC ?_ ?_<;>intro S
  ·refine O ?_
   refine dw (v:=E 0) (v':=.bool false) rfl rfl rfl ⟨?_,Y.tail⟩;rw[aM U]
  refine O ?_;exact⟨k+1,_,⟨rfl,rfl,az⟩,aX,⟨U,q.symm,U,Y⟩,U⟩
 refine O ?_;refine dw (v:=E n) (v':=.bool true) rfl rfl rfl ⟨?_,Y.tail⟩;rw[io U]at h;rw[ba U,h]
def RR {sv:Value}{s:J}(q:bR w0 a b c d vs t)(r:RS W w0 m L)(F:RS W w0 sv s)(I:aJ t)(h:∀ v∈L,0<=v/\v<t.vars.length)(bX:aj t.vars s)(K:bG t.vars L<=1099511627776) :
  Calls ak 102 #[.agg #[a,b,c,d],m,sv] w0 fun e w'=>e=.returned (E (cy t.vars L s))/\Z w0 w' []:=by
 obtain⟨x,N,P,R⟩:=q;have y:=x.cn;have z:=r.cn;have A:=bX.1;have Y:=Z.start w0;refine bI ar Tryz.func102 ?_;refine ep ?_;intro B w Y;refine dP [7,7,9,9,12,28] (G:=Nat) (H:=Int) (fun k n=>[(12,E k),(7,E n)]) (fun k n w=>k<=L.length/\n=cy t.vars (L.take k) s/\Z w0 w [am B 26 [a,b,c,d]]) (fun k _=>L.length-k) 0 0 (fun _ _=>rfl) ⟨rfl,rfl,az⟩ ⟨bC _,rfl,Y⟩ ?_;clear Y;rintro S k n w ⟨hk,i,Y⟩;refine aC ?_ ?_<;>intro h1
 ·have g:k<L.length:=U
  have hv:=h _ (cS W.dflt g);have C:=bX.et hv.1 hv.2;have j:=qF (p:=L.take k) bX fun v hv=>h v (rZ hv);have D:=qF (p:=L.take (k+1)) bX fun v hv=>h v (rZ hv);have fh:=KL I.pos h (k+1);have l:=Qi (vars:=t.vars) (s:=s) g;rw[<-i]at j l;simp only[sg]at l C;have T:0<=n*t.vars.getD (L.getD k W.dflt).toNat W.dflt:=vX U U;refine dD ?_;intro w Y;exact⟨k+1,_,⟨rfl,rfl,az⟩,aX,⟨U,l.symm,Y⟩,U⟩
 refine O ?_;refine bo (v:=E n) rfl rfl ⟨?_,Y.tail⟩;rw[io U]at i;rw[i]
def RT {p:Addr}{v:Value}(h:w0.cell? p=some v)(Y:Z w0 w Γ):w.cell? p=some v:=by
 have e:p.block<w0.heap.size:=by
  rcases pB p.block w0.heap.size with g|g
  ·exact g
  simp[World.cell?,vj g]at h
 rw[Y.below.cell e];exact h
def Ô {x:bE}(hv:w0.cell? pv=some (E v)) :
  Calls ak 160 #[.agg #[E x.var,E x.val],.pointer (some pv)] w0 fun e w'=>e=.returned (.bool (decide (x.var=v)))/\Z w0 w' []:=by
 have Y:=Z.start w0;refine bI ar Tryz.func160 ?_;refine ep ?_;intro p w Y;refine r7 rfl (yd rfl (RT hv Y)) ?_;refine O ?_;exact bo (v:=.bool (decide (x.var=v))) rfl rfl ⟨rfl,Y.tail⟩
def Õ (q:RS aD w0 a f)(hv:w0.cell? pv=some (E v)) :
  Calls ak 179 #[a,.func (.func 160) #[] #[.pointer (some pv)]] w0 fun e w'=>(∃ r:Int,e=.returned (E r)/\(0<=r↔∃ x∈f,x.var=v))/\Z w0 w' []:=by
 have y:=q.cn;have Y:=Z.start w0;refine bI ar Tryz.func179 ?_;refine O ?_;refine de [4,5,8,18] (G:=Nat) (fun k=>[(8,E k)]) (fun k w=>k<=f.length/\(∀ i,i<k->(f.getD i aD.dflt).var≠v)/\Z w0 w []) (fun k=>f.length-k) 0 (fun _=>rfl) ⟨rfl,az⟩ ⟨bC _,fun i j=>absurd j (eo _),Y⟩ ?_;clear Y;rintro z k w ⟨hk,g,Y⟩;refine aC ?_ ?_<;>intro h1
 ·have l:k<f.length:=U
  refine O ?_;refine xK (cs:=[.pointer (some pv)]) rfl rfl (Ô (x:=f.getD k aD.dflt) (RT hv Y)) ?_;rintro _ w' ⟨rfl,aw⟩;refine aL ?_;clear aw Y;intro Y;refine aC ?_ ?_<;>intro n
  ·refine O ?_
   refine bo (v:=E k) rfl rfl ⟨⟨k,rfl,⟨fun _=>⟨_,cS aD.dflt l,n⟩,fun _=>U⟩⟩,Y⟩
  refine O ?_;refine⟨k+1,⟨rfl,az⟩,aX,⟨U,fun i j=>?_,Y⟩,U⟩;by_cases h:i=k
  ·subst h;exact n
  exact g i U
 refine O ?_;refine bo (v:=E (-1)) rfl rfl ⟨⟨-1,rfl,⟨fun h=>U,?_⟩⟩,Y⟩;rintro⟨x,hx,he⟩;obtain⟨i,j,rfl⟩:=Bd.1 hx;exact absurd (by rw[aq j];exact he) (g i U)
def Ö (g:RS aD w0 a f)(hv:w0.cell? pv=some (E v)) :
  Calls ak 159 #[a,.func (.func 160) #[] #[.pointer (some pv)]] w0 fun e w'=>(∃ r,e=.returned (.bool r)/\(r=true↔∃ x∈f,x.var=v))/\Z w0 w' []:=by
 have Y:=Z.start w0;refine bI ar Tryz.func159 ?_;refine O ?_;refine aR rfl (Õ g hv) ?_;rintro _ w' ⟨⟨r,rfl,h⟩,aw⟩;refine aL ?_;clear aw Y;intro Y;refine O ?_;exact bo (v:=.bool (decide (0<=r))) rfl rfl ⟨⟨_,rfl,by rw[jV];exact h⟩,Y⟩
def Ø (g:RS aD w0 a f) :
  Calls ak 135 #[a,E v] w0 fun e w'=>(∃ r,e=.returned (.bool r)/\(r=true↔∃ x∈f,x.var=v))/\Z w0 w' []:=by
 have Y:=Z.start w0;refine bI ar Tryz.func135 ?_;refine ep ?_;intro p w Y;refine aR rfl (Ö (v:=v) (g.at Y) (DP (i:=0) Y rfl rfl)) ?_;rintro _ w' ⟨⟨r,rfl,h⟩,aw⟩;refine aL ?_;clear aw Y;intro Y;refine O ?_;exact bo (v:=.bool r) rfl rfl ⟨⟨_,rfl,h⟩,Y.tail⟩
def nT (o:mM)(L:J)(k:Nat)(u:Int):Prop:=(∃ e∈o.aQ.take k,e.var∈L/\∃ f∈e.cb,f.var=u)/\u∉L/\∀ f∈o.pre,f.var≠u
def sy (o:mM)(L:J)(k:Nat)(f:List bE)(u:Int):Prop:=nT o L k u\/((∃ x∈f,x.var=u)/\u∉L/\∀ x∈o.pre,x.var≠u)
def Ù (o:mM)(L:J)(u:Int):¬nT o L 0 u:=fun⟨⟨e,he,_⟩,_⟩=>by simp at he
def Ú (hk:k<o.aQ.length)(hm:(o.aQ.getD k bQ).var∈L):sy o L k (o.aQ.getD k bQ).cb u↔nT o L (k+1) u:=by
 unfold sy nT;rw[eX bQ hk];constructor
 ·rintro (⟨⟨e,he,h1⟩,g⟩|⟨⟨x,hx,h⟩,g⟩)
  ·exact⟨⟨e,by simp[he],h1⟩,g⟩
  exact⟨⟨_,sm,hm,x,hx,h⟩,g⟩
 rintro⟨⟨e,he,h1,h⟩,g⟩;rcases kK.1 he with he|he
 ·exact .inl ⟨⟨e,he,h1,h⟩,g⟩
 rw[fU.1 he]at h;exact .inr ⟨h,g⟩
def Û (hk:k<o.aQ.length)(hm:(o.aQ.getD k bQ).var∉L):nT o L k u↔nT o L (k+1) u:=by
 unfold nT;rw[eX bQ hk];constructor
 ·rintro⟨⟨e,he,h1⟩,g⟩
  exact⟨⟨e,by simp[he],h1⟩,g⟩
 rintro⟨⟨e,he,h1,h⟩,g⟩;rcases kK.1 he with he|he
 ·exact⟨⟨e,he,h1,h⟩,g⟩
 rw[fU.1 he]at h1;exact absurd h1 hm
def Ü {x:bE}:sy o L k (f++[x]) u↔sy o L k f u\/(u=x.var/\u∉L/\∀ y∈o.pre,y.var≠u):=by
 unfold sy;constructor
 ·rintro (h|⟨⟨y,g,e⟩,i⟩)
  ·exact .inl (.inl h)
  rcases kK.1 g with g|g
  ·exact .inl (.inr ⟨⟨y,g,e⟩,i⟩)
  rw[fU.1 g]at e;exact .inr ⟨e.symm,i⟩
 rintro ((h|⟨⟨y,g,e⟩,i⟩)|⟨rfl,i⟩)
 ·exact .inl h
 ·exact .inr ⟨⟨y,by simp[g],e⟩,i⟩
 exact .inr ⟨⟨x,sm,rfl⟩,i⟩
def Ý (h:xs.Nodup):(fW xs).Pairwise (·<·):=by
 have h1:=LS xs;have e:(fW xs).Nodup:=(mergeSort_perm xs _).nodup_iff.2 h;exact(h1.and e).imp fun h=>U
def Þ {v:kq}{vars:J}(hv:sK w0 v o)(hp:RS W w0 m L)(S:vG vars o)(hn:vars.length<=64) :
  Calls ak 103 #[.agg (cN.enc v).toArray,m] w0 fun e w'=>∃ s,e=.returned s/\Z w0 w' [X W 3 s (ut vars o L)]:=by
 have R':=hv.one;obtain⟨es,A⟩:=hv.aQ;have D:=A.rs;have V':=A.len;have _a:=D.cn;have K:=hv.pre;have T':=S.aQ;have Y:=Z.start w0;refine bI ar Tryz.func103 ?_;refine ep ?_;intro pt w Y;refine pu [5,5,7,7,9,9,13,55] (G:=Nat) (H:=Value) (I':=J) (fun k s _=>[(13,E k),(5,s)]) (fun k s xs w=>k<=o.aQ.length/\xs.Nodup/\xs.length<=64*k/\(∀ u,u∈xs↔nT o L k u)/\Z w0 w [X W 3 s xs,am pt 44 (cN.enc v)]) (fun k _ _=>o.aQ.length-k) 0 (nS) [] (fun _ _ _=>rfl) ⟨rfl,rfl,az⟩ ⟨bC _,Be,sm,fun u=>⟨fun h=>by simp at h,fun h=>absurd h (Ù o L u)⟩,Y.nil⟩ ?_;clear Y;rintro σ k s xs w ⟨hk,i,N,g,Y⟩;refine aC ?_ ?_<;>intro h1
 ·have n:k<o.aQ.length:=U
  have B:=A.eI k n;have P:=B.cb;have T:=B.one;have R:=B.var;have V:=S.fS k n;have j':=tR V.1;have H':=P.cn;obtain⟨F,hF⟩:=À ((o.aQ.getD k bQ).cb);rw[<-hF]at P j' H';refine ep ?_;intro pe w Y;refine aR rfl (xR (hp.at Y)) ?_;rintro _ w' ⟨rfl,aw⟩;replace Y:=Y.cH aw;clear aw;by_cases hm:(aB bm es k).var∈L
  ·rw[dH hm]
   refine⟨_,rfl,?_⟩;rw[R]at hm;refine O ?_;refine pu [5,5,9,9,25,54] (G:=Nat) (H:=Value) (I':=J) (fun j s _=>[(25,E j),(5,s)]) (fun j s xs w=>j<=F.length/\xs.Nodup/\xs.length<=64*k+j/\(∀ u,u∈xs↔sy o L k (F.take j) u)/\Z w0 w [am pe 61 (bm.enc (aB bm es k)),X W 3 s xs,am pt 44 (cN.enc v)]) (fun j _ _=>F.length-j) 0 s xs (fun _ _ _=>rfl) ⟨rfl,rfl,az⟩ ⟨bC _,i,U,fun u=>(g u).trans ⟨fun h=>.inl h,fun h=>by rcases h with h|⟨⟨x,hx,_⟩,_⟩;exact h;simp at hx⟩,Y⟩ ?_;clear Y g i N;rintro _b j s xs w ⟨hj,i,N,g,Y⟩;refine aC ?_ ?_<;>intro h2
   ·have J':j<F.length:=U
    have l:=fun u=>Ü (o:=o) (L:=L) (k:=k) (f:=F.take j) (x:=F.getD j aD.dflt) (u:=u);rw[<-eX aD.dflt J']at l;refine ep ?_;intro p w Y;refine aR rfl (xR (hp.at Y)) ?_;rintro _ w' ⟨rfl,aw⟩;replace Y:=Y.cH aw;clear aw;by_cases q:(F.getD j aD.dflt).var∈L
    ·rw[dH q]
     refine⟨_,rfl,?_⟩;refine O ?_;refine⟨j+1,s,xs,⟨rfl,rfl,az⟩,aX,⟨U,i,U,fun u=>?_,Y.tail⟩,U⟩;rw[g u,l u];exact⟨.inl,fun h=>h.resolve_right fun h=>h.2.1 (h.1 ▸ q)⟩
    rw[dB q];refine⟨_,rfl,?_⟩;refine O ?_;refine aR rfl (Ø (K.at Y)) ?_;rintro _ w' ⟨⟨r,rfl,hr⟩,aw⟩;refine aL ?_;clear aw Y;intro Y
    cases r with
    | true =>
     refine O ?_;refine⟨j+1,s,xs,⟨rfl,rfl,az⟩,aX,⟨U,i,U,fun u=>?_,Y.tail⟩,U⟩;rw[g u,l u];obtain⟨y,C,z⟩:=hr.1 rfl
     exact⟨.inl,fun h=>h.resolve_right fun h=>h.2.2 y C (by rw[z,h.1])⟩
    | false =>
     have P':∀ y∈o.pre,y.var≠(F.getD j aD.dflt).var:=fun y C e=>by have:=hr.2 ⟨y,C,e⟩;cases this
     refine O ?_;refine aR rfl (xR (a:=s) (bB Y)) ?_;rintro _ w' ⟨rfl,aw⟩;replace Y:=Y.cH aw;clear aw;by_cases z:(F.getD j aD.dflt).var∈xs
     ·rw[dH z]
      refine⟨_,rfl,?_⟩;refine O ?_;refine⟨j+1,s,xs,⟨rfl,rfl,az⟩,aX,⟨U,i,U,fun u=>?_,Y.tail⟩,U⟩;rw[l u,<-g u];exact⟨.inl,fun h=>h.elim id fun h=>h.1 ▸ z⟩
     rw[dB z];refine⟨_,rfl,?_⟩
     repeat (first|refine dS ?_|(refine gA ?_;clear Y;intro s w Y))
     refine⟨j+1,_,xs++[(F.getD j aD.dflt).var],⟨rfl,rfl,az⟩,aX,⟨U,?_,by simp;omega,fun u=>?_,Y.tail.tail⟩,U⟩
     ·rw[DY]
      refine⟨i,sm,fun x hx y C e=>?_⟩;rw[fU.1 C]at e;exact z (e ▸ hx)
     rw[l u,<-g u,kK,fU];exact⟨fun h=>h.elim .inl fun h=>.inr ⟨h,h ▸ q,fun y C=>h ▸ P' y C⟩,fun h=>h.elim .inl fun h=>.inr h.1⟩
   rw[io U]at g;refine O ?_;refine⟨k+1,s,xs,⟨rfl,rfl,az⟩,aX,⟨U,i,U,fun u=>?_,Y.tail⟩,U⟩;rw[g u,hF,Ú n hm]
  rw[dB hm];refine⟨_,rfl,?_⟩;rw[R]at hm;refine O ?_;refine⟨k+1,s,xs,⟨rfl,rfl,az⟩,aX,⟨U,i,U,fun u=>?_,Y.tail⟩,U⟩;rw[g u,Û n hm]
 have l:k=o.aQ.length:=U;subst l;refine O ?_;refine aR rfl (Fb Y U) ?_;clear Y;rintro _ w' ⟨rfl,Y⟩;refine⟨_,rfl,?_⟩;refine O ?_;refine bo (v:=s) rfl rfl ⟨s,rfl,?_⟩;have e:fW xs=ut vars o L:=by
  refine LZ (Ý i) fun u=>?_;rw[If,g u];unfold nT za;rw[mK];constructor
  ·rintro⟨⟨e,he,h1,f,n,j⟩,h2⟩
   have:=Ad (S.mem e he).1 f n;exact⟨⟨j ▸ this.1,j ▸ this.2.1⟩,⟨e,he,h1,f,n,j⟩,h2⟩
  exact fun h=>h.2
 rw[e]at Y;exact Y.only
end
end Go.Proofs.YtmapkjoefdgjfaaGreatDoor
