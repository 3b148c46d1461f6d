/- Several texts. -/
import Derived.Test.YtmapkjoefdgjfaaGreatDoorMW2D
import Derived.Shelf.Sort.Plain
import Derived.Shelf.Slices.In.SortNone
import Derived.Shelf.Slices.CompactI
set_option linter.unusedSimpArgs false
set_option linter.unusedVariables false
set_option linter.defProp false
set_option maxRecDepth 8000
set_option maxHeartbeats 16000000
open List Nat
namespace Go.Proofs.YtmapkjoefdgjfaaGreatDoor
open Go.Sl
variable {w0 w:World}{a m b c d s:Value}{L xs:J}{v u:Int}{k:Nat}{Γ:List HP}{vs:List iX}{t:aa}{f:List bo}{o:ko}{Q:Int × Int->Prop}{pv:Addr}
section
open Go.Sl Go Go.Shelf
def ML:Ren:=⟨rl [125,98,128,132,129,133,189,77,215,158,216,129,257,97,294,123,295,124,296,125,297,126,298,127,299,128,300,130,301,131,328,153,329,154,330,155,331,156,332,157,343,178],rl [0,0,3,3,4,4,5,5,9,9,28,22,46,175,51,218,53,220,131,183,182,210,183,211,218,250,222,254,228,279,229,267],fun k=>k⟩
set_option maxRecDepth 100000 in
def vd:Lays.n189 aj ML:=by constructor<;>first|exact ao|kernel_rfl|(intro w;kernel_rfl)
def MM:Ren:=⟨rl [20,78],rl [0,0,3,3,4,4,22,22],fun k=>k⟩
set_option maxRecDepth 100000 in
def pK:Lays2.n20 aj MM:=by constructor<;>first|exact ao|kernel_rfl|(intro w;kernel_rfl)
def fk (xs:J):J:=xs.mergeSort fun x y=>decide (x<=y)
def Dz (xs:J):(fk xs).length=xs.length:=length_mergeSort _
def Gi {x:Int}:x∈fk xs↔x∈xs:=mem_mergeSort
def JJ (xs:J):(fk xs).Pairwise (·<=·):=by
 have:=pairwise_mergeSort (le:=fun x y:Int=>decide (x<=y)) (fun a b c h k=>by simp at h k ⊢;omega) (fun a b=>by simp;omega) xs;exact this.imp fun h=>by simpa using h
def Dm (Y:M w0 w (X O 3 s xs::Γ))(h:xs.length<4611686018427387904) :
  Calls aj 77 #[s] w fun e w'=>e=.returned (.tuple #[])/\M w0 w' (X O 3 s (fk xs)::Γ):=by
 rcases Y.xw with ⟨rfl,rfl⟩|⟨b,off,cap,rfl,j,i,hH,g⟩
 ·refine uD (Any.slices_Sort_int_none vd none 0 w) ?_
  rintro e w' ⟨rfl,rfl⟩;exact⟨rfl,(by have e:fk []=[]:=nY (Dz []);rw[e];exact Y)⟩
 refine uD (Any.slices_Sort_int vd b off cap xs w hH i h) ?_;rintro e w' ⟨rfl,n,os,rfl⟩;exact⟨rfl,(g (fk xs) (Dz xs) n).grow os⟩
def dt (xs:J):J:=Lib.compact xs
def OZ (xs:J):(dt xs).length<=xs.length:=by
 unfold dt Lib.compact Lib.compactUpTo;rw[iW];exact oD (ux _ _) sm
def Gj (Y:M w0 w (X O 3 s xs::Γ))(i:xs.length<=9223372036854775807) :
  Calls aj 78 #[s] w fun e w'=>∃ g,e=.returned g/\M w0 w' (X O 3 g (dt xs)::Γ):=by
 rcases Y.xw with ⟨rfl,rfl⟩|⟨b,off,cap,rfl,j,q,hH,g⟩
 ·refine uD (Any.slices_Compact_int_empty pK none 0 w) ?_
  rintro e w' ⟨rfl,rfl⟩;exact⟨_,rfl,Y⟩
 refine uD (Any.slices_Compact_int pK b off cap xs w hH i j) ?_;rintro e w' ⟨rfl,n,rfl⟩;have eH:=OZ xs;have h1:=g (dt xs++replicate (xs.length-(dt xs).length) 0) (by simp;omega) n;refine⟨_,rfl,?_⟩;have hlen:(dt xs).length<=(dt xs++replicate (xs.length-(dt xs).length) 0).length:=sm;have h:=h1.sub own_here 0 (dt xs).length (br _) hlen;have e:cut (dt xs++replicate (xs.length-(dt xs).length) 0) 0 (dt xs).length=dt xs:=by simp[cut]
 have l:ssub (.slice (some ⟨b,off,none⟩) xs.length cap) O.sz 0 (dt xs).length=.slice (some ⟨b,off,none⟩) (dt xs).length cap:=by simp[ssub,zN,O]
 rw[e,l]at h;exact h
end
section
open Go.Sl Go
attribute [local irreducible] vc opsW opsD opV opW PureV ReadV Thn Blk
def WD (q:RS O w0 a xs) :
  Calls aj 122 #[a,E v] w0 fun e w'=>(∃ r:Int,e=.returned (E r)/\(0<=r↔v∈xs))/\M w0 w' []:=by
 have x:=q.bT;have Y:=M.start w0;refine bB ao Tryz.func122 ?_;refine W ?_;refine cN [4,5,8,18] (G:=Nat) (fun k=>[(8,E k)]) (fun k w=>k<=xs.length/\(∀ i,i<k->xs.getD i O.dflt≠v)/\M w0 w []) (fun k=>xs.length-k) 0 (fun _=>rfl) ⟨rfl,au⟩ ⟨br _,fun i j=>absurd j (dx _),Y⟩ ?_;clear Y;rintro y k w ⟨hk,g,Y⟩;refine aA ?_ ?_<;>intro h1
 ·have l:k<xs.length:=U
  refine aA ?_ ?_<;>intro n
  ·refine W ?_
   refine bk (v:=E k) rfl rfl ⟨⟨k,rfl,⟨fun _=>?_,fun _=>U⟩⟩,Y⟩;rw[n];exact cD _ l
  refine W ?_;refine⟨k+1,⟨rfl,au⟩,aV,⟨U,fun i j=>?_,Y⟩,U⟩;by_cases h:i=k
  ·subst h;exact fun h=>n h.symm
  exact g i U
 refine W ?_;refine bk (v:=E (-1)) rfl rfl ⟨⟨-1,rfl,⟨fun h=>U,fun h=>?_⟩⟩,Y⟩;obtain⟨i,j,he⟩:=AU.1 h;exact absurd (by rw[al j];exact he) (g i U)
def wC (g:RS O w0 a xs) :
  Calls aj 96 #[a,E v] w0 fun e w'=>e=.returned (.bool (decide (v∈xs)))/\M w0 w' []:=by
 have Y:=M.start w0;refine bB ao Tryz.func96 ?_;refine W ?_;refine aU rfl (WD g) ?_;rintro _ w' ⟨⟨r,rfl,h⟩,an⟩;refine aI ?_;clear an Y;intro Y;refine W ?_;refine bk (v:=.bool (decide (0<=r))) rfl rfl ⟨?_,Y⟩;rw[decide_eq_decide.2 h]
def nH (g:RS O w0 a xs)(q:xs.length<=1099511627776) :
  Calls aj 47 #[a] w0 fun e w'=>∃ s,e=.returned s/\M w0 w' [X O 3 s xs]:=by
 have Y:=M.start w0;obtain⟨i,cap,j⟩:=g.shape;subst j;refine bB ao Tryz.func47 ?_;refine W ?_;refine fi rfl (F6 (a:=i) (n:=xs.length) (c:=cap) rfl) ?_
 cases i with
 | none =>
  have l:xs=[]:=by
   rcases uC xs.length with h|h
   ·exact nY h
   obtain⟨p,c2,he,_⟩:=g.some dc h;cases he
  subst l;refine W ?_
  exact bk (v:=nS) rfl rfl ⟨_,rfl,Y.nil⟩
 | some p =>
  refine W ?_;refine zB O Y ?_;clear Y;intro s1 w Y;refine lw ?_;intro s w Y;rw[kq]at Y;exact bk (v:=s) rfl rfl ⟨_,rfl,Y⟩
def ri (L:J)(k:Nat):List (Int × Int):=(List.range k).map fun (j:Nat)=>(((L.length:Int)-1-(j:Int)),L.getD (L.length-1-j) O.dflt)
def WE (L:J)(k:Nat):ri L (k+1)=ri L k++[(((L.length:Int)-1-(k:Int)),L.getD (L.length-1-k) O.dflt)]:=by simp[ri,lz]
def WF (e:Addr)(a:Value)(L:J)(g h:World):Prop:=(g.cell? e=some a->h.cell? e=some a)/\(RS O g a L->RS O h a L)
def sD (x:{ p:Int × Int // Q p }):Array Value:=#[E x.1.1,E x.1.2]
def WG {n:Nat}{r:Addr}(P:∀ i:Nat,i<L.length->Q ((i:Int),L.getD i O.dflt))(C:w0.cell? r=some a)(x:RS O w0 a L) :
  SeqStopsK (α:={ p:Int × Int // Q p }) Fence.wide n aj 161 #[.pointer (some r)] sD (WF r a L) (fun xs=>xs.map (·.1)=ri L L.length) (fun _=>True) L.length w0:=by
 intro l e Jx D F hJ R S K;refine(callsIn_wide (n:=n)).2 ?_;have g:D.cell? r=some a:=by
  have j:r.block<w0.heap.size:=by
   rcases ns r.block w0.heap.size with h|h
   ·exact h
   simp[World.cell?,tI h]at C
  rw[F.cell j];exact C
 have q:RS O D a L:=⟨x.1.below F,x.2⟩
 have T:=x.bT;refine bB ao Tryz.func161 ?_;refine W ?_;refine rW rfl (wB rfl g) ?_;refine W ?_;refine dN [3,3,7,18] (G:=Nat) (H:=List { p:Int × Int // Q p }) (fun k _=>[(3,E ((L.length:Int)-1-(k:Int)))]) (fun k pre w=>k<=L.length/\pre.map (·.1)=ri L k/\e pre w/\w.cell? r=some a/\RS O w a L) (fun k _=>L.length-k) 0 [] (fun _ _=>rfl) ⟨by have V:((L.length:Int)-1-((0:Nat):Int))=(L.length:Int)-1:=U;rw[V];rfl,au⟩ ⟨br _,rfl,K,g,q⟩ ?_;clear g q K;rintro σ k pre w ⟨hk,j,N,g,q⟩;refine aA ?_ ?_<;>intro h1
 ·have j':k<L.length:=U
  have H':pre.length=k:=by have:=qq List.length j;simpa [ri] using this
  have e1:((L.length:Int)-1-(k:Int)).toNat=L.length-1-k:=U;have e2:((L.length-1-k:Nat):Int)=(L.length:Int)-1-(k:Int):=U;have hx:=P (L.length-1-k) U;rw[e2]at hx;have hy:=S pre ⟨_,hx⟩ w N U;refine W ?_;refine rW rfl (wB rfl g) ?_;refine W ?_;rw[e1];refine O0 (l:=l) rfl rfl hy ?_;rintro _ W' (⟨rfl,y,z,A⟩|⟨rfl,B⟩)
  ·refine⟨_,rfl,?_⟩
   refine W ?_;refine⟨k+1,pre++[⟨_,hx⟩],⟨?_,au⟩,aV,⟨U,?_,y,z g,A q⟩,U⟩
   ·show Value.int .i64 _=_
    congr 1;omega
   rw[pX,j,WE];rfl
  refine⟨_,rfl,?_⟩;refine W ?_;exact JK rfl ⟨⟨_,rfl⟩,.inr ⟨_,au,B⟩⟩
 have y:k=L.length:=U;subst y;refine W ?_;exact ti rfl ⟨⟨_,rfl⟩,.inl ⟨pre,j,N⟩⟩
def rj (x:{ p:Int × Int // Q p }):Int:=x.1.2
def WH (L:J):(ri L L.length).map (·.2)=L.reverse:=by
 apply iA (by simp[ri]);intro i h1 e;have g:i<L.length:=by simpa using e
 simp only[ri,zz,mL,qW,Function.comp_apply,getElem_reverse];rw[al U]
def WI :
  Calls aj 136 #[a] w0 fun e w'=>∃ g,e=.returned (.func (.func 161) #[] #[.pointer (some g)])/\M w0 w' [ak g 22 a.cells.toList]:=by
 have Y:=M.start w0;refine bB ao Tryz.func136 ?_;refine eB ?_;intro p w Y;exact bk (v:=.func (.func 161) #[] #[.pointer (some p)]) rfl rfl ⟨p,rfl,Y⟩
def JL {st:J}{n:Int}(ht:bz w0 a b c d vs t)(hL:RS O w0 m L)(Y:M w0 w (X O 3 s st::Γ))(hp:∀ x∈t.vars,1<=x)(hv:∀ v∈L,0<=v/\v<t.vars.length)(_h:st.length=t.vars.length)(hn:0<=n)(_i:n<=1099511627776) :
  Calls aj 104 #[.agg #[a,b,c,d],m,s,E n] w fun e w'=>e=.returned (.tuple #[])/\M w0 w' (X O 3 s (im t.vars L st n)::Γ):=by
 obtain⟨ha,hb,hc,hd⟩:=ht;have _j:=ha.bT;have _k:=hL.bT;have R':s.cells.toList=[s]:=(Y.rs 0 rfl).eJ;have T':m.cells.toList=[m]:=hL.eJ;refine(callsIn_wide (n:=3)).1 (callsIn_of_wp_marks (F:=Fence.wide) (n:=3) Tryz.func104 rfl trivial ?_);refine F3 (ro:=none) (n:=31) ao kr (by simp only[Array.size_append,OA];rfl) rfl ?_;rw[show (#[.agg #[a,b,c,d],m,s,E n]:Array Value)=[.agg #[a,b,c,d],m,s,E n].toArray from rfl,OB];refine tF ?_;refine zK ?_;clear Y;intro pt w Y;refine zK ?_;clear Y;intro ps w Y;refine zK ?_;clear Y;intro pn w Y;refine zO ?_;refine Co ?_;intro a1 C G H;refine F3 (ro:=none) (n:=31) ao kr C G ?_;rw[H];refine W ?_;refine aU rfl (WI (a:=m)) ?_;rintro _ w' ⟨N,rfl,an⟩;replace Y:=Y.mu an;clear an;rw[T',R']at Y;refine⟨_,rfl,?_⟩;refine W ?_;intro a2 A V' P;clear H G C;refine wpIn_block ?_;have R:a2.defers=[]:=V';obtain⟨V,_a⟩:=À w';subst _a;have hB:w0.heap.size<=V.heap.size:=Y.below.size;have _b:V.cell? N=some m:=Cj (i:=0) Y rfl rfl;have e9:∀ x:{ p:Int × Int // 0<=p.2/\p.2<t.vars.length },fr (({ tmps:=(#[12,13].zip (sD x)).foldl (fun t (p,v)=>t.setIfInBounds p v) a2.tmps,defers:=[] }:Act).put (some 9) (E x.1.2))=fa (fa (fa (fr a2) 12 (E x.1.1)) 13 (E x.1.2)) 9 (E x.1.2):=fun x=>by
  rw[wz (fun t e=>by cases e;rw[show (#[12,13].zip (sD x))=#[12,13].zip #[E x.1.1,E x.1.2] from rfl,JM,A];decide)];rw[show (#[12,13].zip (sD x))=#[12,13].zip #[E x.1.1,E x.1.2] from rfl,O1 U U];have:(⟨a2.tmps,[]⟩:Act)=a2:=by rw[<-R]
  rw[this];rfl
 refine wpIn_rangeFunc_ownF (F:=Fence.wide) (n:=3) (α:={ p:Int × Int // 0<=p.2/\p.2<t.vars.length }) rfl dc (gf:=161) (lb:=#[.pointer (some N)]) (by rw[<-qZ,P];rfl) trivial (fun args w=>ap.run inferInstance args w)
  (WG (n:=2) (Q:=fun p=>0<=p.2/\p.2<t.vars.length) (fun i r=>hv _ (cD O.dflt r)) _b (hL.at Y))
  (fun h k=>⟨fun e=>k.1 (h.1 e),fun e=>k.2 (h.2 e)⟩) (fun z l o o' _ g q _=>⟨Jv g q,OC g q⟩) (Go.RowKit.Below.refl _ _) (fun _=>rfl)
  (fun pre z=>V.heap.size<=z.heap.size/\nN V.heap.size w0 z (ak N 22 [m]::ak pn 3 [E (li t.vars (pre.map rj) st n).2]::ak ps 22 [s]::ak pt 26 [a,b,c,d]::X O 3 s (li t.vars (pre.map rj) st n).1::Γ))
  (fun _ _ _=>False) (nN.own (Γ:=fun pre=>_) hB) (fun _=>fun _ _ _ _ h=>h.elim) ⟨cz _,Y.WJ⟩
  (fun x=>({ tmps:=(#[12,13].zip (sD x)).foldl (fun t (p,v)=>t.setIfInBounds p v) a2.tmps,defers:=[] }:Act).put (some 9) (E x.1.2)) ?assign ?body ?done ?stop
 case assign =>
  intro l x z K hK;refine OE (ro:=some l) ao ?_ rfl ?_
  ·rw[show (#[12,13].zip (sD x))=#[12,13].zip #[E x.1.1,E x.1.2] from rfl,JM,A];decide
  rw[show (#[12,13].zip (sD x))=#[12,13].zip #[E x.1.1,E x.1.2] from rfl,O1 U U];exact hK
 case body =>
  rintro l pre x z ⟨B,hC⟩ _;obtain⟨⟨xi,g⟩,_c,_d⟩:=x;simp only at _c _d;have _g:=hp _ (cD O.dflt (show g.toNat<t.vars.length by omega));have j':=O2 t.vars (pre.map rj) st n;have H':=WK (s:=st) (vs:=pre.map rj) hp hn fun v hv=>by
   obtain⟨y,_,rfl⟩:=iQ.1 hv;exact y.2
  have J':=Gk t.vars (pre.map rj) st n g;obtain⟨S,hS⟩:=À (li t.vars (pre.map rj) st n);rw[<-hS]at hC j' H' J';obtain⟨S1,S2⟩:=S;simp only at hC j' H' J';refine wpIn_mono (wA (ro:=some l) (n:=31) ao _ kr (fun e ρ W'=>e=.normal/\nO z W'/\nN V.heap.size w0 W' (ak N 22 [m]::ak pn 3 [E (tX t.vars (S1,S2) g).2]::ak ps 22 [s]::ak pt 26 [a,b,c,d]::X O 3 s (tX t.vars (S1,S2) g).1::Γ)) _ _ ?_ rfl ?_) ?_
  ·rw[eZ,show (#[12,13].zip (sD _))=#[12,13].zip #[E xi,E g] from rfl,JM,A]
  ·rw[e9,P]
   show vc _ _ _ (fa (fa (fa _ 12 (E xi)) 13 (E g)) 9 (E g)) _;clear Y;have Y:=hC.open hB;refine Ce ?_;refine vt ?_;refine O3 Y (by decide +kernel) ?_;clear Y;intro w1 r Y;refine W ?_;refine WL (T:=O) (s:=s) (j:=g.toNat) (v:=E (S2.tmod (t.vars.getD g.toNat O.dflt))) (x':=S2.tmod (t.vars.getD g.toNat O.dflt)) rfl rfl rfl Y inferInstance U rfl ?_;clear Y;intro w2 Y P';refine W ?_;refine O3 Y (by decide +kernel) ?_;clear Y;intro w3 _e Y;refine W ?_;refine OF (k:=0) (p:=pn) (v:=E (S2.tdiv (t.vars.getD g.toNat O.dflt))) (by simp[Addr.add];rfl) rfl rfl Y inferInstance sm ?_;clear Y;intro w4 Y _f;refine W ?_;have q:=((r.trans P').trans _e).trans _f;exact⟨rfl,q,Y.close q.1⟩
  intro e a' W' hq;obtain⟨_,_,rfl,q,P'⟩:=hq;have r:=P'.wP;refine⟨q.BY,⟨fun _=>Cj (i:=0) r rfl rfl,fun _=>hL.at r⟩,by rw[q.1];exact B,?_⟩;rw[pX,map_singleton,Gk,<-hS];exact P'
 case done =>
  rintro D xs z q hS ⟨B,hC⟩ hK;refine⟨sm,.inl ⟨_,_,rfl,run_takeDeferred hK,?_⟩⟩;rw[R];have hI:=(nN.own (Γ:=fun pre:List { p:Int × Int // 0<=p.2/\p.2<t.vars.length }=>(ak N 22 [m]::ak pn 3 [E (li t.vars (pre.map rj) st n).2]::ak ps 22 [s]::ak pt 26 [a,b,c,d]::X O 3 s (li t.vars (pre.map rj) st n).1::Γ)) hB).putObj (o':=.deferred none) ⟨B,hC⟩ q hK rfl;have r:=hI.2.wP;have g:xs.map rj=L.reverse:=by
   have:=qq (List.map (·.2)) hS;rw[WH,zz]at this;exact this
  rw[g]at r;exact⟨.tuple #[],by simp[results,Tryz.f104],rfl,r.tail.tail.tail.tail⟩
 case stop =>
  rintro D c pre z _ _ g _;exact g.elim
instance (vars p:J):Decidable (fm vars p):=by unfold fm;infer_instance
noncomputable def lS (t:aa)(p:J):Int:=if bX t≠0 then bX t else if fm t.vars p then 0 else 2
def WM (x:bz w0 a b c d vs t)(z:RS O w0 m L) :
  Calls aj 100 #[.agg #[a,b,c,d],m] w0 fun e w'=>e=.returned (bO (lS t L))/\M w0 w' []:=by
 have l:=x;obtain⟨A,K,N,P⟩:=x;have B:=A.bT;have C:=z.bT;have Y:=M.start w0;refine bB ao Tryz.func100 ?_;refine eB ?_;intro D w Y;refine aU rfl (vY (l.at Y)) ?_;rintro _ w' ⟨rfl,an⟩;refine aI ?_;clear an Y;intro Y;by_cases hk:bX t=0
 ·rw[gy hk]
  refine W ?_;refine cN [4,4,6,7,15,43] (G:=Nat) (fun k=>[(15,E k)]) (fun k w=>k<=L.length/\(∀ i,i<k->(0<=L.getD i O.dflt/\L.getD i O.dflt<t.vars.length)/\(0<i->L.getD (i-1) O.dflt<L.getD i O.dflt))/\M w0 w [ak D 26 [a,b,c,d]]) (fun k=>L.length-k) 0 (fun _=>rfl) ⟨rfl,au⟩ ⟨br _,fun i n=>absurd n (dx _),Y⟩ ?_;clear Y;rintro R k w ⟨F,g,Y⟩;refine aA ?_ ?_<;>intro h1
  ·have q:k<L.length:=U
   have y:((k:Int)-1).toNat=k-1:=U;refine aA ?_ ?_<;>intro j
   ·refine W ?_
    refine bk (v:=bO 2) rfl (by rw[dq dc];rfl) ⟨?_,Y.tail⟩;rw[lS,aH (by simp[hk]),aH];intro r;have H:=r k q;rw[y]at j;rcases j with (j|j)|⟨j,S⟩
    ·omega
    ·omega
    have:=H.2 U;omega
   rw[y]at j;refine W ?_;refine⟨k+1,⟨rfl,au⟩,aV,⟨U,fun i n=>?_,Y⟩,U⟩;by_cases h:i=k
   ·subst h;exact⟨U,fun r=>U⟩
   exact g i U
  refine W ?_;refine bk (v:=bO 0) rfl (by rw[gy rfl];rfl) ⟨?_,Y.tail⟩;rw[lS,aH (by simp[hk]),aP];intro i n;exact g i U
 rw[dq hk];refine W ?_;refine bk (v:=bO (bX t)) rfl (by rw[dq hk];rfl) ⟨?_,Y.tail⟩;rw[lS,aP hk]
def IT {vars:J}(e:∀ x∈vars,1<=x)(g:∀ v∈L,0<=v/\v<vars.length)(k:Nat):bp vars (L.take k)<=bp vars L:=by
 have h1:fO vars (L.take k)=(fO vars L).take k:=by simp[fO,map_take]
 rw[bp,h1];exact DA (O4 e g) k
def WN {vars:J}(hk:k<L.length):bp vars (L.take (k+1))=bp vars (L.take k)*sg vars (L.getD k O.dflt):=by
 rw[eD O.dflt hk,JN]
def NQ {vars s:J}(hk:k<L.length):bU vars (L.take (k+1)) s=bU vars (L.take k) s*sg vars (L.getD k O.dflt)+sg s (L.getD k O.dflt):=by
 rw[eD O.dflt hk,O5]
def JO (r:bz w0 a b c d vs t)(x:RS O w0 m L)(I:aC t)(i:∀ v∈L,0<=v/\v<t.vars.length) :
  Calls aj 101 #[.agg #[a,b,c,d],m] w0 fun e w'=>e=.returned (.tuple (if bp t.vars L<=4096 then #[E (bp t.vars L),.bool true] else #[E 0,.bool false]))/\M w0 w' []:=by
 obtain⟨y,D,F,K⟩:=r;have z:=y.bT;have A:=x.bT;have Y:=M.start w0;refine bB ao Tryz.func101 ?_;refine eB ?_;intro B w Y;refine dN [4,6,8,8,11,24] (G:=Nat) (H:=Int) (fun k n=>[(11,E k),(6,E n)]) (fun k n w=>k<=L.length/\n=bp t.vars (L.take k)/\n<=4096/\M w0 w [ak B 26 [a,b,c,d]]) (fun k _=>L.length-k) 0 1 (fun _ _=>rfl) ⟨rfl,rfl,au⟩ ⟨br _,rfl,dc,Y⟩ ?_;clear Y;rintro N k n w ⟨hk,h,j,Y⟩;refine aA ?_ ?_<;>intro h1
 ·have g:k<L.length:=U
  have hv:=i _ (cD O.dflt g);have C:=I.nt (L.getD k O.dflt).toNat U;have l:1<=n:=by rw[h];exact FQ I.pos fun v hv=>i v (pU hv)
  have q:bp t.vars (L.take (k+1))=n*sg t.vars (L.getD k O.dflt):=by rw[WN g,h]
  have eH:=IT I.pos i (k+1);simp only[sg]at q;have P:0<=n*t.vars.getD (L.getD k O.dflt).toNat O.dflt:=tj U U;have R:n*t.vars.getD (L.getD k O.dflt).toNat O.dflt<=4096*64:=zP j U U U;refine aA ?_ ?_<;>intro S
  ·refine W ?_
   refine cX (v:=E 0) (v':=.bool false) rfl rfl rfl ⟨?_,Y.tail⟩;rw[aH U]
  refine W ?_;exact⟨k+1,_,⟨rfl,rfl,au⟩,aV,⟨U,q.symm,U,Y⟩,U⟩
 refine W ?_;refine cX (v:=E n) (v':=.bool true) rfl rfl rfl ⟨?_,Y.tail⟩;rw[gH U]at h;rw[aP U,h]
def O6 {sv:Value}{s:J}(q:bz w0 a b c d vs t)(r:RS O w0 m L)(F:RS O w0 sv s)(I:aC t)(h:∀ v∈L,0<=v/\v<t.vars.length)(bI:ab t.vars s)(K:bp t.vars L<=1099511627776) :
  Calls aj 102 #[.agg #[a,b,c,d],m,sv] w0 fun e w'=>e=.returned (E (bU t.vars L s))/\M w0 w' []:=by
 obtain⟨x,N,P,R⟩:=q;have y:=x.bT;have z:=r.bT;have A:=bI.1;have Y:=M.start w0;refine bB ao Tryz.func102 ?_;refine eB ?_;intro B w Y;refine dN [7,7,9,9,12,28] (G:=Nat) (H:=Int) (fun k n=>[(12,E k),(7,E n)]) (fun k n w=>k<=L.length/\n=bU t.vars (L.take k) s/\M w0 w [ak B 26 [a,b,c,d]]) (fun k _=>L.length-k) 0 0 (fun _ _=>rfl) ⟨rfl,rfl,au⟩ ⟨br _,rfl,Y⟩ ?_;clear Y;rintro S k n w ⟨hk,i,Y⟩;refine aA ?_ ?_<;>intro h1
 ·have g:k<L.length:=U
  have hv:=h _ (cD O.dflt g);have C:=bI.dC hv.1 hv.2;have j:=oz (p:=L.take k) bI fun v hv=>h v (pU hv);have D:=oz (p:=L.take (k+1)) bI fun v hv=>h v (pU hv);have eH:=IT I.pos h (k+1);have l:=NQ (vars:=t.vars) (s:=s) g;rw[<-i]at j l;simp only[sg]at l C;have T:0<=n*t.vars.getD (L.getD k O.dflt).toNat O.dflt:=tj U U;refine eQ ?_;intro w Y;exact⟨k+1,_,⟨rfl,rfl,au⟩,aV,⟨U,l.symm,Y⟩,U⟩
 refine W ?_;refine bk (v:=E n) rfl rfl ⟨?_,Y.tail⟩;rw[gH U]at i;rw[i]
def O7 {p:Addr}{v:Value}(h:w0.cell? p=some v)(Y:M w0 w Γ):w.cell? p=some v:=by
 have e:p.block<w0.heap.size:=by
  rcases ns p.block w0.heap.size with g|g
  ·exact g
  simp[World.cell?,tI g]at h
 rw[Y.below.cell e];exact h
def WO {x:bo}(hv:w0.cell? pv=some (E v)) :
  Calls aj 160 #[.agg #[E x.var,E x.val],.pointer (some pv)] w0 fun e w'=>e=.returned (.bool (decide (x.var=v)))/\M w0 w' []:=by
 have Y:=M.start w0;refine bB ao Tryz.func160 ?_;refine eB ?_;intro p w Y;refine rW rfl (wB rfl (O7 hv Y)) ?_;refine W ?_;exact bk (v:=.bool (decide (x.var=v))) rfl rfl ⟨rfl,Y.tail⟩
def WP (q:RS aq w0 a f)(hv:w0.cell? pv=some (E v)) :
  Calls aj 179 #[a,.func (.func 160) #[] #[.pointer (some pv)]] w0 fun e w'=>(∃ r:Int,e=.returned (E r)/\(0<=r↔∃ x∈f,x.var=v))/\M w0 w' []:=by
 have y:=q.bT;have Y:=M.start w0;refine bB ao Tryz.func179 ?_;refine W ?_;refine cN [4,5,8,18] (G:=Nat) (fun k=>[(8,E k)]) (fun k w=>k<=f.length/\(∀ i,i<k->(f.getD i aq.dflt).var≠v)/\M w0 w []) (fun k=>f.length-k) 0 (fun _=>rfl) ⟨rfl,au⟩ ⟨br _,fun i j=>absurd j (dx _),Y⟩ ?_;clear Y;rintro z k w ⟨hk,g,Y⟩;refine aA ?_ ?_<;>intro h1
 ·have l:k<f.length:=U
  refine W ?_;refine wr (cs:=[.pointer (some pv)]) rfl rfl (WO (x:=f.getD k aq.dflt) (O7 hv Y)) ?_;rintro _ w' ⟨rfl,an⟩;refine aI ?_;clear an Y;intro Y;refine aA ?_ ?_<;>intro n
  ·refine W ?_
   refine bk (v:=E k) rfl rfl ⟨⟨k,rfl,⟨fun _=>⟨_,cD aq.dflt l,n⟩,fun _=>U⟩⟩,Y⟩
  refine W ?_;refine⟨k+1,⟨rfl,au⟩,aV,⟨U,fun i j=>?_,Y⟩,U⟩;by_cases h:i=k
  ·subst h;exact n
  exact g i U
 refine W ?_;refine bk (v:=E (-1)) rfl rfl ⟨⟨-1,rfl,⟨fun h=>U,?_⟩⟩,Y⟩;rintro⟨x,hx,he⟩;obtain⟨i,j,rfl⟩:=AU.1 hx;exact absurd (by rw[al j];exact he) (g i U)
def WQ (g:RS aq w0 a f)(hv:w0.cell? pv=some (E v)) :
  Calls aj 159 #[a,.func (.func 160) #[] #[.pointer (some pv)]] w0 fun e w'=>(∃ r,e=.returned (.bool r)/\(r=true↔∃ x∈f,x.var=v))/\M w0 w' []:=by
 have Y:=M.start w0;refine bB ao Tryz.func159 ?_;refine W ?_;refine aU rfl (WP g hv) ?_;rintro _ w' ⟨⟨r,rfl,h⟩,an⟩;refine aI ?_;clear an Y;intro Y;refine W ?_;exact bk (v:=.bool (decide (0<=r))) rfl rfl ⟨⟨_,rfl,by rw[gR];exact h⟩,Y⟩
def WR (g:RS aq w0 a f) :
  Calls aj 135 #[a,E v] w0 fun e w'=>(∃ r,e=.returned (.bool r)/\(r=true↔∃ x∈f,x.var=v))/\M w0 w' []:=by
 have Y:=M.start w0;refine bB ao Tryz.func135 ?_;refine eB ?_;intro p w Y;refine aU rfl (WQ (v:=v) (g.at Y) (Cj (i:=0) Y rfl rfl)) ?_;rintro _ w' ⟨⟨r,rfl,h⟩,an⟩;refine aI ?_;clear an Y;intro Y;refine W ?_;exact bk (v:=.bool r) rfl rfl ⟨⟨_,rfl,h⟩,Y.tail⟩
def mw (o:ko)(L:J)(k:Nat)(u:Int):Prop:=(∃ e∈o.aJ.take k,e.var∈L/\∃ f∈e.bK,f.var=u)/\u∉L/\∀ f∈o.pre,f.var≠u
def qK (o:ko)(L:J)(k:Nat)(f:List bo)(u:Int):Prop:=mw o L k u\/((∃ x∈f,x.var=u)/\u∉L/\∀ x∈o.pre,x.var≠u)
def WS (o:ko)(L:J)(u:Int):¬mw o L 0 u:=fun⟨⟨e,he,_⟩,_⟩=>by simp at he
def WT (hk:k<o.aJ.length)(hm:(o.aJ.getD k bE).var∈L):qK o L k (o.aJ.getD k bE).bK u↔mw o L (k+1) u:=by
 unfold qK mw;rw[eD bE hk];constructor
 ·rintro (⟨⟨e,he,h1⟩,g⟩|⟨⟨x,hx,h⟩,g⟩)
  ·exact⟨⟨e,by simp[he],h1⟩,g⟩
  exact⟨⟨_,sm,hm,x,hx,h⟩,g⟩
 rintro⟨⟨e,he,h1,h⟩,g⟩;rcases gK.1 he with he|he
 ·exact .inl ⟨⟨e,he,h1,h⟩,g⟩
 rw[dp.1 he]at h;exact .inr ⟨h,g⟩
def WU (hk:k<o.aJ.length)(hm:(o.aJ.getD k bE).var∉L):mw o L k u↔mw o L (k+1) u:=by
 unfold mw;rw[eD bE hk];constructor
 ·rintro⟨⟨e,he,h1⟩,g⟩
  exact⟨⟨e,by simp[he],h1⟩,g⟩
 rintro⟨⟨e,he,h1,h⟩,g⟩;rcases gK.1 he with he|he
 ·exact⟨⟨e,he,h1,h⟩,g⟩
 rw[dp.1 he]at h1;exact absurd h1 hm
def WV {x:bo}:qK o L k (f++[x]) u↔qK o L k f u\/(u=x.var/\u∉L/\∀ y∈o.pre,y.var≠u):=by
 unfold qK;constructor
 ·rintro (h|⟨⟨y,g,e⟩,i⟩)
  ·exact .inl (.inl h)
  rcases gK.1 g with g|g
  ·exact .inl (.inr ⟨⟨y,g,e⟩,i⟩)
  rw[dp.1 g]at e;exact .inr ⟨e.symm,i⟩
 rintro ((h|⟨⟨y,g,e⟩,i⟩)|⟨rfl,i⟩)
 ·exact .inl h
 ·exact .inr ⟨⟨y,by simp[g],e⟩,i⟩
 exact .inr ⟨⟨x,sm,rfl⟩,i⟩
def WW (h:xs.Nodup):(fk xs).Pairwise (·<·):=by
 have h1:=JJ xs;have e:(fk xs).Nodup:=(mergeSort_perm xs _).nodup_iff.2 h;exact(h1.and e).imp fun h=>U
def WX {v:iX}{vars:J}(hv:oC w0 v o)(hp:RS O w0 m L)(S:tY vars o)(hn:vars.length<=64) :
  Calls aj 103 #[.agg (cp.enc v).toArray,m] w0 fun e w'=>∃ s,e=.returned s/\M w0 w' [X O 3 s (sU vars o L)]:=by
 have R':=hv.one;obtain⟨es,A⟩:=hv.aJ;have D:=A.rs;have V':=A.len;have _a:=D.bT;have K:=hv.pre;have T':=S.aJ;have Y:=M.start w0;refine bB ao Tryz.func103 ?_;refine eB ?_;intro pt w Y;refine nE [5,5,7,7,9,9,13,55] (G:=Nat) (H:=Value) (I':=J) (fun k s _=>[(13,E k),(5,s)]) (fun k s xs w=>k<=o.aJ.length/\xs.Nodup/\xs.length<=64*k/\(∀ u,u∈xs↔mw o L k u)/\M w0 w [X O 3 s xs,ak pt 44 (cp.enc v)]) (fun k _ _=>o.aJ.length-k) 0 (nS) [] (fun _ _ _=>rfl) ⟨rfl,rfl,au⟩ ⟨br _,zC,sm,fun u=>⟨fun h=>by simp at h,fun h=>absurd h (WS o L u)⟩,Y.nil⟩ ?_;clear Y;rintro σ k s xs w ⟨hk,i,N,g,Y⟩;refine aA ?_ ?_<;>intro h1
 ·have n:k<o.aJ.length:=U
  have B:=A.dK k n;have P:=B.bK;have T:=B.one;have R:=B.var;have V:=S.fc k n;have j':=sa V.1;have H':=P.bT;obtain⟨F,hF⟩:=À ((o.aJ.getD k bE).bK);rw[<-hF]at P j' H';refine eB ?_;intro pe w Y;refine aU rfl (wC (hp.at Y)) ?_;rintro _ w' ⟨rfl,an⟩;replace Y:=Y.cr an;clear an;by_cases hm:(az aY es k).var∈L
  ·rw[dY hm]
   refine⟨_,rfl,?_⟩;rw[R]at hm;refine W ?_;refine nE [5,5,9,9,25,54] (G:=Nat) (H:=Value) (I':=J) (fun j s _=>[(25,E j),(5,s)]) (fun j s xs w=>j<=F.length/\xs.Nodup/\xs.length<=64*k+j/\(∀ u,u∈xs↔qK o L k (F.take j) u)/\M w0 w [ak pe 61 (aY.enc (az aY es k)),X O 3 s xs,ak pt 44 (cp.enc v)]) (fun j _ _=>F.length-j) 0 s xs (fun _ _ _=>rfl) ⟨rfl,rfl,au⟩ ⟨br _,i,U,fun u=>(g u).trans ⟨fun h=>.inl h,fun h=>by rcases h with h|⟨⟨x,hx,_⟩,_⟩;exact h;simp at hx⟩,Y⟩ ?_;clear Y g i N;rintro _b j s xs w ⟨hj,i,N,g,Y⟩;refine aA ?_ ?_<;>intro h2
   ·have J':j<F.length:=U
    have l:=fun u=>WV (o:=o) (L:=L) (k:=k) (f:=F.take j) (x:=F.getD j aq.dflt) (u:=u);rw[<-eD aq.dflt J']at l;refine eB ?_;intro p w Y;refine aU rfl (wC (hp.at Y)) ?_;rintro _ w' ⟨rfl,an⟩;replace Y:=Y.cr an;clear an;by_cases q:(F.getD j aq.dflt).var∈L
    ·rw[dY q]
     refine⟨_,rfl,?_⟩;refine W ?_;refine⟨j+1,s,xs,⟨rfl,rfl,au⟩,aV,⟨U,i,U,fun u=>?_,Y.tail⟩,U⟩;rw[g u,l u];exact⟨.inl,fun h=>h.resolve_right fun h=>h.2.1 (h.1 ▸ q)⟩
    rw[eA q];refine⟨_,rfl,?_⟩;refine W ?_;refine aU rfl (WR (K.at Y)) ?_;rintro _ w' ⟨⟨r,rfl,hr⟩,an⟩;refine aI ?_;clear an Y;intro Y
    cases r with
    | true =>
     refine W ?_;refine⟨j+1,s,xs,⟨rfl,rfl,au⟩,aV,⟨U,i,U,fun u=>?_,Y.tail⟩,U⟩;rw[g u,l u];obtain⟨y,C,z⟩:=hr.1 rfl
     exact⟨.inl,fun h=>h.resolve_right fun h=>h.2.2 y C (by rw[z,h.1])⟩
    | false =>
     have P':∀ y∈o.pre,y.var≠(F.getD j aq.dflt).var:=fun y C e=>by have:=hr.2 ⟨y,C,e⟩;cases this
     refine W ?_;refine aU rfl (wC (a:=s) (bm Y)) ?_;rintro _ w' ⟨rfl,an⟩;replace Y:=Y.cr an;clear an;by_cases z:(F.getD j aq.dflt).var∈xs
     ·rw[dY z]
      refine⟨_,rfl,?_⟩;refine W ?_;refine⟨j+1,s,xs,⟨rfl,rfl,au⟩,aV,⟨U,i,U,fun u=>?_,Y.tail⟩,U⟩;rw[l u,<-g u];exact⟨.inl,fun h=>h.elim id fun h=>h.1 ▸ z⟩
     rw[eA z];refine⟨_,rfl,?_⟩
     repeat (first|refine dB ?_|(refine fR ?_;clear Y;intro s w Y))
     refine⟨j+1,_,xs++[(F.getD j aq.dflt).var],⟨rfl,rfl,au⟩,aV,⟨U,?_,by simp;omega,fun u=>?_,Y.tail.tail⟩,U⟩
     ·rw[zM]
      refine⟨i,sm,fun x hx y C e=>?_⟩;rw[dp.1 C]at e;exact z (e ▸ hx)
     rw[l u,<-g u,gK,dp];exact⟨fun h=>h.elim .inl fun h=>.inr ⟨h,h ▸ q,fun y C=>h ▸ P' y C⟩,fun h=>h.elim .inl fun h=>.inr h.1⟩
   rw[gH U]at g;refine W ?_;refine⟨k+1,s,xs,⟨rfl,rfl,au⟩,aV,⟨U,i,U,fun u=>?_,Y.tail⟩,U⟩;rw[g u,hF,WT n hm]
  rw[eA hm];refine⟨_,rfl,?_⟩;rw[R]at hm;refine W ?_;refine⟨k+1,s,xs,⟨rfl,rfl,au⟩,aV,⟨U,i,U,fun u=>?_,Y.tail⟩,U⟩;rw[g u,WU n hm]
 have l:k=o.aJ.length:=U;subst l;refine W ?_;refine aU rfl (Dm Y U) ?_;clear Y;rintro _ w' ⟨rfl,Y⟩;refine⟨_,rfl,?_⟩;refine W ?_;refine bk (v:=s) rfl rfl ⟨s,rfl,?_⟩;have e:fk xs=sU vars o L:=by
  refine JP (WW i) fun u=>?_;rw[Gi,g u];unfold mw xy;rw[lL];constructor
  ·rintro⟨⟨e,he,h1,f,n,j⟩,h2⟩
   have:=yr (S.mem e he).1 f n;exact⟨⟨j ▸ this.1,j ▸ this.2.1⟩,⟨e,he,h1,f,n,j⟩,h2⟩
  exact fun h=>h.2
 rw[e]at Y;exact Y.only
end
end Go.Proofs.YtmapkjoefdgjfaaGreatDoor
