/- Several texts. -/
import Derived.Test.YtmapkjoefdgjfaaGreatDoorMW2E
import Derived.Shelf.Sort.Plain
import Derived.Shelf.Slices.In.SortNone
import Derived.Shelf.Slices.CompactI
set_option linter.unusedSimpArgs false
set_option linter.unusedVariables false
set_option linter.defProp false
set_option maxRecDepth 8000
set_option maxHeartbeats 16000000
open List Nat
namespace Go.Proofs.YtmapkjoefdgjfaaGreatDoor
open Go.Sl
variable {w0 w:World}{a m b c d s:Value}{L xs:J}{v u:Int}{k:Nat}{Γ:List HP}{vs:List iW}{t:aa}{f:List bp}{o:km}{Q:Int × Int->Prop}{pv:Addr}
section
open Go.Sl Go Go.Shelf
def M0:Ren:=⟨rl [125,98,128,132,129,133,189,77,215,158,216,129,257,97,294,123,295,124,296,125,297,126,298,127,299,128,300,130,301,131,328,153,329,154,330,155,331,156,332,157,343,178],rl [0,0,3,3,4,4,5,5,9,9,28,22,46,175,51,218,53,220,131,183,182,210,183,211,218,250,222,254,228,279,229,267],fun k=>k⟩
set_option maxRecDepth 100000 in
def vk:Lays.n189 ai M0:=by constructor<;>first|exact an|kernel_rfl|(intro w;kernel_rfl)
def M2:Ren:=⟨rl [20,78],rl [0,0,3,3,4,4,22,22],fun k=>k⟩
set_option maxRecDepth 100000 in
def pN:Lays2.n20 ai M2:=by constructor<;>first|exact an|kernel_rfl|(intro w;kernel_rfl)
def fh (xs:J):J:=xs.mergeSort fun x y=>decide (x<=y)
def DH (xs:J):(fh xs).length=xs.length:=length_mergeSort _
def Gy {x:Int}:x∈fh xs↔x∈xs:=mem_mergeSort
def J5 (xs:J):(fh xs).Pairwise (·<=·):=by
 have:=pairwise_mergeSort (le:=fun x y:Int=>decide (x<=y)) (fun a b c h k=>by simp at h k ⊢;omega) (fun a b=>by simp;omega) xs;exact this.imp fun h=>by simpa using h
def Dx (Y:Z w0 w (X W 3 s xs::Γ))(h:xs.length<4611686018427387904) :
  Calls ai 77 #[s] w fun e w'=>e=.returned (.tuple #[])/\Z w0 w' (X W 3 s (fh xs)::Γ):=by
 rcases Y.xA with ⟨rfl,rfl⟩|⟨b,off,cap,rfl,j,i,hH,g⟩
 ·refine uJ (Any.slices_Sort_int_none vk none 0 w) ?_
  rintro e w' ⟨rfl,rfl⟩;exact⟨rfl,(by have e:fh []=[]:=n0 (DH []);rw[e];exact Y)⟩
 refine uJ (Any.slices_Sort_int vk b off cap xs w hH i h) ?_;rintro e w' ⟨rfl,n,os,rfl⟩;exact⟨rfl,(g (fh xs) (DH xs) n).grow os⟩
def dw (xs:J):J:=Lib.compact xs
def Ph (xs:J):(dw xs).length<=xs.length:=by
 unfold dw Lib.compact Lib.compactUpTo;rw[iz];exact pT (uC _ _) sm
def Gz (Y:Z w0 w (X W 3 s xs::Γ))(i:xs.length<=9223372036854775807) :
  Calls ai 78 #[s] w fun e w'=>∃ g,e=.returned g/\Z w0 w' (X W 3 g (dw xs)::Γ):=by
 rcases Y.xA with ⟨rfl,rfl⟩|⟨b,off,cap,rfl,j,q,hH,g⟩
 ·refine uJ (Any.slices_Compact_int_empty pN none 0 w) ?_
  rintro e w' ⟨rfl,rfl⟩;exact⟨_,rfl,Y⟩
 refine uJ (Any.slices_Compact_int pN b off cap xs w hH i j) ?_;rintro e w' ⟨rfl,n,rfl⟩;have eI:=Ph xs;have h1:=g (dw xs++replicate (xs.length-(dw xs).length) 0) (by simp;omega) n;refine⟨_,rfl,?_⟩;have hlen:(dw xs).length<=(dw xs++replicate (xs.length-(dw xs).length) 0).length:=sm;have h:=h1.sub own_here 0 (dw xs).length (bu _) hlen;have e:cut (dw xs++replicate (xs.length-(dw xs).length) 0) 0 (dw xs).length=dw xs:=by simp[cut]
 have l:ssub (.slice (some ⟨b,off,none⟩) xs.length cap) W.sz 0 (dw xs).length=.slice (some ⟨b,off,none⟩) (dw xs).length cap:=by simp[ssub,zV,W]
 rw[e,l]at h;exact h
end
section
open Go.Sl Go
attribute [local irreducible] vc opsW opsD opV opW PureV ReadV Thn Blk
def Xb (q:RS W w0 a xs) :
  Calls ai 122 #[a,E v] w0 fun e w'=>(∃ r:Int,e=.returned (E r)/\(0<=r↔v∈xs))/\Z w0 w' []:=by
 have x:=q.bU;have Y:=Z.start w0;refine bA an Tryz.func122 ?_;refine O ?_;refine cP [4,5,8,18] (G:=Nat) (fun k=>[(8,E k)]) (fun k w=>k<=xs.length/\(∀ i,i<k->xs.getD i W.dflt≠v)/\Z w0 w []) (fun k=>xs.length-k) 0 (fun _=>rfl) ⟨rfl,az⟩ ⟨bu _,fun i j=>absurd j (dr _),Y⟩ ?_;clear Y;rintro y k w ⟨hk,g,Y⟩;refine aB ?_ ?_<;>intro h1
 ·have l:k<xs.length:=U
  refine aB ?_ ?_<;>intro n
  ·refine O ?_
   refine bf (v:=E k) rfl rfl ⟨⟨k,rfl,⟨fun _=>?_,fun _=>U⟩⟩,Y⟩;rw[n];exact cH _ l
  refine O ?_;refine⟨k+1,⟨rfl,az⟩,aU,⟨U,fun i j=>?_,Y⟩,U⟩;by_cases h:i=k
  ·subst h;exact fun h=>n h.symm
  exact g i U
 refine O ?_;refine bf (v:=E (-1)) rfl rfl ⟨⟨-1,rfl,⟨fun h=>U,fun h=>?_⟩⟩,Y⟩;obtain⟨i,j,he⟩:=A0.1 h;exact absurd (by rw[am j];exact he) (g i U)
def wE (g:RS W w0 a xs) :
  Calls ai 96 #[a,E v] w0 fun e w'=>e=.returned (.bool (decide (v∈xs)))/\Z w0 w' []:=by
 have Y:=Z.start w0;refine bA an Tryz.func96 ?_;refine O ?_;refine aL rfl (Xb g) ?_;rintro _ w' ⟨⟨r,rfl,h⟩,al⟩;refine aA ?_;clear al Y;intro Y;refine O ?_;refine bf (v:=.bool (decide (0<=r))) rfl rfl ⟨?_,Y⟩;rw[decide_eq_decide.2 h]
def ns (g:RS W w0 a xs)(q:xs.length<=1099511627776) :
  Calls ai 47 #[a] w0 fun e w'=>∃ s,e=.returned s/\Z w0 w' [X W 3 s xs]:=by
 have Y:=Z.start w0;obtain⟨i,cap,j⟩:=g.shape;subst j;refine bA an Tryz.func47 ?_;refine O ?_;refine eY rfl (Gj (a:=i) (n:=xs.length) (c:=cap) rfl) ?_
 cases i with
 | none =>
  have l:xs=[]:=by
   rcases uH xs.length with h|h
   ·exact n0 h
   obtain⟨p,c2,he,_⟩:=g.some dc h;cases he
  subst l;refine O ?_
  exact bf (v:=nS) rfl rfl ⟨_,rfl,Y.nil⟩
 | some p =>
  refine O ?_;refine A8 W Y ?_;clear Y;intro s1 w Y;refine l7 ?_;intro s w Y;rw[kL]at Y;exact bf (v:=s) rfl rfl ⟨_,rfl,Y⟩
def rp (L:J)(k:Nat):List (Int × Int):=(List.range k).map fun (j:Nat)=>(((L.length:Int)-1-(j:Int)),L.getD (L.length-1-j) W.dflt)
def Xc (L:J)(k:Nat):rp L (k+1)=rp L k++[(((L.length:Int)-1-(k:Int)),L.getD (L.length-1-k) W.dflt)]:=by simp[rp,l5]
def Xd (e:Addr)(a:Value)(L:J)(g h:World):Prop:=(g.cell? e=some a->h.cell? e=some a)/\(RS W g a L->RS W h a L)
def sE (x:{ p:Int × Int // Q p }):Array Value:=#[E x.1.1,E x.1.2]
def Xe {n:Nat}{r:Addr}(P:∀ i:Nat,i<L.length->Q ((i:Int),L.getD i W.dflt))(C:w0.cell? r=some a)(x:RS W w0 a L) :
  SeqStopsK (α:={ p:Int × Int // Q p }) Fence.wide n ai 161 #[.pointer (some r)] sE (Xd r a L) (fun xs=>xs.map (·.1)=rp L L.length) (fun _=>True) L.length w0:=by
 intro l e Jx D F hJ R S K;refine(callsIn_wide (n:=n)).2 ?_;have g:D.cell? r=some a:=by
  have j:r.block<w0.heap.size:=by
   rcases nu r.block w0.heap.size with h|h
   ·exact h
   simp[World.cell?,tH h]at C
  rw[F.cell j];exact C
 have q:RS W D a L:=⟨x.1.below F,x.2⟩
 have T:=x.bU;refine bA an Tryz.func161 ?_;refine O ?_;refine qX rfl (wD rfl g) ?_;refine O ?_;refine dQ [3,3,7,18] (G:=Nat) (H:=List { p:Int × Int // Q p }) (fun k _=>[(3,E ((L.length:Int)-1-(k:Int)))]) (fun k pre w=>k<=L.length/\pre.map (·.1)=rp L k/\e pre w/\w.cell? r=some a/\RS W w a L) (fun k _=>L.length-k) 0 [] (fun _ _=>rfl) ⟨by have V:((L.length:Int)-1-((0:Nat):Int))=(L.length:Int)-1:=U;rw[V];rfl,az⟩ ⟨bu _,rfl,K,g,q⟩ ?_;clear g q K;rintro σ k pre w ⟨hk,j,N,g,q⟩;refine aB ?_ ?_<;>intro h1
 ·have j':k<L.length:=U
  have H':pre.length=k:=by have:=qy List.length j;simpa [rp] using this
  have e1:((L.length:Int)-1-(k:Int)).toNat=L.length-1-k:=U;have e2:((L.length-1-k:Nat):Int)=(L.length:Int)-1-(k:Int):=U;have hx:=P (L.length-1-k) U;rw[e2]at hx;have hy:=S pre ⟨_,hx⟩ w N U;refine O ?_;refine qX rfl (wD rfl g) ?_;refine O ?_;rw[e1];refine Pi (l:=l) rfl rfl hy ?_;rintro _ W' (⟨rfl,y,z,A⟩|⟨rfl,B⟩)
  ·refine⟨_,rfl,?_⟩
   refine O ?_;refine⟨k+1,pre++[⟨_,hx⟩],⟨?_,az⟩,aU,⟨U,?_,y,z g,A q⟩,U⟩
   ·show Value.int .i64 _=_
    congr 1;omega
   rw[oh,j,Xc];rfl
  refine⟨_,rfl,?_⟩;refine O ?_;exact J6 rfl ⟨⟨_,rfl⟩,.inr ⟨_,az,B⟩⟩
 have y:k=L.length:=U;subst y;refine O ?_;exact tj rfl ⟨⟨_,rfl⟩,.inl ⟨pre,j,N⟩⟩
def rq (x:{ p:Int × Int // Q p }):Int:=x.1.2
def Xf (L:J):(rp L L.length).map (·.2)=L.reverse:=by
 apply iB (by simp[rp]);intro i h1 e;have g:i<L.length:=by simpa using e
 simp only[rp,zG,mK,qZ,Function.comp_apply,J7];rw[am U]
def Xg :
  Calls ai 136 #[a] w0 fun e w'=>∃ g,e=.returned (.func (.func 161) #[] #[.pointer (some g)])/\Z w0 w' [ak g 22 a.cells.toList]:=by
 have Y:=Z.start w0;refine bA an Tryz.func136 ?_;refine eE ?_;intro p w Y;exact bf (v:=.func (.func 161) #[] #[.pointer (some p)]) rfl rfl ⟨p,rfl,Y⟩
def J8 {st:J}{n:Int}(ht:bn w0 a b c d vs t)(hL:RS W w0 m L)(Y:Z w0 w (X W 3 s st::Γ))(hp:∀ x∈t.vars,1<=x)(hv:∀ v∈L,0<=v/\v<t.vars.length)(_h:st.length=t.vars.length)(hn:0<=n)(_i:n<=1099511627776) :
  Calls ai 104 #[.agg #[a,b,c,d],m,s,E n] w fun e w'=>e=.returned (.tuple #[])/\Z w0 w' (X W 3 s (io t.vars L st n)::Γ):=by
 obtain⟨ha,hb,hc,hd⟩:=ht;have _j:=ha.bU;have _k:=hL.bU;have R':s.cells.toList=[s]:=(Y.rs 0 rfl).et;have T':m.cells.toList=[m]:=hL.et;refine(callsIn_wide (n:=3)).1 (callsIn_of_wp_marks (F:=Fence.wide) (n:=3) Tryz.func104 rfl trivial ?_);refine Gg (ro:=none) (n:=31) an kr (by simp only[Array.size_append,OM];rfl) rfl ?_;rw[show (#[.agg #[a,b,c,d],m,s,E n]:Array Value)=[.agg #[a,b,c,d],m,s,E n].toArray from rfl,ON];refine tm ?_;refine xU ?_;clear Y;intro pt w Y;refine xU ?_;clear Y;intro ps w Y;refine xU ?_;clear Y;intro pn w Y;refine zW ?_;refine Cz ?_;intro a1 C G H;refine Gg (ro:=none) (n:=31) an kr C G ?_;rw[H];refine O ?_;refine aL rfl (Xg (a:=m)) ?_;rintro _ w' ⟨N,rfl,al⟩;replace Y:=Y.mu al;clear al;rw[T',R']at Y;refine⟨_,rfl,?_⟩;refine O ?_;intro a2 A V' P;clear H G C;refine wpIn_block ?_;have R:a2.defers=[]:=V';obtain⟨V,_a⟩:=À w';subst _a;have hB:w0.heap.size<=V.heap.size:=Y.below.size;have _b:V.cell? N=some m:=Cu (i:=0) Y rfl rfl;have e9:∀ x:{ p:Int × Int // 0<=p.2/\p.2<t.vars.length },fr (({ tmps:=(#[12,13].zip (sE x)).foldl (fun t (p,v)=>t.setIfInBounds p v) a2.tmps,defers:=[] }:Act).put (some 9) (E x.1.2))=eZ (eZ (eZ (fr a2) 12 (E x.1.1)) 13 (E x.1.2)) 9 (E x.1.2):=fun x=>by
  rw[wB (fun t e=>by cases e;rw[show (#[12,13].zip (sE x))=#[12,13].zip #[E x.1.1,E x.1.2] from rfl,J9,A];decide)];rw[show (#[12,13].zip (sE x))=#[12,13].zip #[E x.1.1,E x.1.2] from rfl,Pj U U];have:(⟨a2.tmps,[]⟩:Act)=a2:=by rw[<-R]
  rw[this];rfl
 refine wpIn_rangeFunc_ownF (F:=Fence.wide) (n:=3) (α:={ p:Int × Int // 0<=p.2/\p.2<t.vars.length }) rfl dc (gf:=161) (lb:=#[.pointer (some N)]) (by rw[<-q9,P];rfl) trivial (fun args w=>ao.run inferInstance args w)
  (Xe (n:=2) (Q:=fun p=>0<=p.2/\p.2<t.vars.length) (fun i r=>hv _ (cH W.dflt r)) _b (hL.at Y))
  (fun h k=>⟨fun e=>k.1 (h.1 e),fun e=>k.2 (h.2 e)⟩) (fun z l o o' _ g q _=>⟨JP g q,OO g q⟩) (Go.RowKit.Below.refl _ _) (fun _=>rfl)
  (fun pre z=>V.heap.size<=z.heap.size/\nN V.heap.size w0 z (ak N 22 [m]::ak pn 3 [E (lj t.vars (pre.map rq) st n).2]::ak ps 22 [s]::ak pt 26 [a,b,c,d]::X W 3 s (lj t.vars (pre.map rq) st n).1::Γ))
  (fun _ _ _=>False) (nN.own (Γ:=fun pre=>_) hB) (fun _=>fun _ _ _ _ h=>h.elim) ⟨cD _,Y.Xh⟩
  (fun x=>({ tmps:=(#[12,13].zip (sE x)).foldl (fun t (p,v)=>t.setIfInBounds p v) a2.tmps,defers:=[] }:Act).put (some 9) (E x.1.2)) ?assign ?body ?done ?stop
 case assign =>
  intro l x z K hK;refine OQ (ro:=some l) an ?_ rfl ?_
  ·rw[show (#[12,13].zip (sE x))=#[12,13].zip #[E x.1.1,E x.1.2] from rfl,J9,A];decide
  rw[show (#[12,13].zip (sE x))=#[12,13].zip #[E x.1.1,E x.1.2] from rfl,Pj U U];exact hK
 case body =>
  rintro l pre x z ⟨B,hC⟩ _;obtain⟨⟨xi,g⟩,_c,_d⟩:=x;simp only at _c _d;have _g:=hp _ (cH W.dflt (show g.toNat<t.vars.length by omega));have j':=Pk t.vars (pre.map rq) st n;have H':=Xi (s:=st) (vs:=pre.map rq) hp hn fun v hv=>by
   obtain⟨y,_,rfl⟩:=iS.1 hv;exact y.2
  have J':=GA t.vars (pre.map rq) st n g;obtain⟨S,hS⟩:=À (lj t.vars (pre.map rq) st n);rw[<-hS]at hC j' H' J';obtain⟨S1,S2⟩:=S;simp only at hC j' H' J';refine wpIn_mono (wC (ro:=some l) (n:=31) an _ kr (fun e ρ W'=>e=.normal/\nO z W'/\nN V.heap.size w0 W' (ak N 22 [m]::ak pn 3 [E (tZ t.vars (S1,S2) g).2]::ak ps 22 [s]::ak pt 26 [a,b,c,d]::X W 3 s (tZ t.vars (S1,S2) g).1::Γ)) _ _ ?_ rfl ?_) ?_
  ·rw[eW,show (#[12,13].zip (sE _))=#[12,13].zip #[E xi,E g] from rfl,J9,A]
  ·rw[e9,P]
   show vc _ _ _ (eZ (eZ (eZ _ 12 (E xi)) 13 (E g)) 9 (E g)) _;clear Y;have Y:=hC.open hB;refine Cp ?_;refine uI ?_;refine Pl Y (by decide +kernel) ?_;clear Y;intro w1 r Y;refine O ?_;refine Xj (T:=W) (s:=s) (j:=g.toNat) (v:=E (S2.tmod (t.vars.getD g.toNat W.dflt))) (x':=S2.tmod (t.vars.getD g.toNat W.dflt)) rfl rfl rfl Y inferInstance U rfl ?_;clear Y;intro w2 Y P';refine O ?_;refine Pl Y (by decide +kernel) ?_;clear Y;intro w3 _e Y;refine O ?_;refine OR (k:=0) (p:=pn) (v:=E (S2.tdiv (t.vars.getD g.toNat W.dflt))) (by simp[Addr.add];rfl) rfl rfl Y inferInstance sm ?_;clear Y;intro w4 Y _f;refine O ?_;have q:=((r.trans P').trans _e).trans _f;exact⟨rfl,q,Y.close q.1⟩
  intro e a' W' hq;obtain⟨_,_,rfl,q,P'⟩:=hq;have r:=P'.wR;refine⟨q.B6,⟨fun _=>Cu (i:=0) r rfl rfl,fun _=>hL.at r⟩,by rw[q.1];exact B,?_⟩;rw[oh,map_singleton,GA,<-hS];exact P'
 case done =>
  rintro D xs z q hS ⟨B,hC⟩ hK;refine⟨sm,.inl ⟨_,_,rfl,run_takeDeferred hK,?_⟩⟩;rw[R];have hI:=(nN.own (Γ:=fun pre:List { p:Int × Int // 0<=p.2/\p.2<t.vars.length }=>(ak N 22 [m]::ak pn 3 [E (lj t.vars (pre.map rq) st n).2]::ak ps 22 [s]::ak pt 26 [a,b,c,d]::X W 3 s (lj t.vars (pre.map rq) st n).1::Γ)) hB).putObj (o':=.deferred none) ⟨B,hC⟩ q hK rfl;have r:=hI.2.wR;have g:xs.map rq=L.reverse:=by
   have:=qy (List.map (·.2)) hS;rw[Xf,zG]at this;exact this
  rw[g]at r;exact⟨.tuple #[],by simp[results,Tryz.f104],rfl,r.tail.tail.tail.tail⟩
 case stop =>
  rintro D c pre z _ _ g _;exact g.elim
instance (vars p:J):Decidable (fi vars p):=by unfold fi;infer_instance
noncomputable def lQ (t:aa)(p:J):Int:=if bM t≠0 then bM t else if fi t.vars p then 0 else 2
def Xk (x:bn w0 a b c d vs t)(z:RS W w0 m L) :
  Calls ai 100 #[.agg #[a,b,c,d],m] w0 fun e w'=>e=.returned (bI (lQ t L))/\Z w0 w' []:=by
 have l:=x;obtain⟨A,K,N,P⟩:=x;have B:=A.bU;have C:=z.bU;have Y:=Z.start w0;refine bA an Tryz.func100 ?_;refine eE ?_;intro D w Y;refine aL rfl (tC (l.at Y)) ?_;rintro _ w' ⟨rfl,al⟩;refine aA ?_;clear al Y;intro Y;by_cases hk:bM t=0
 ·rw[fK hk]
  refine O ?_;refine cP [4,4,6,7,15,43] (G:=Nat) (fun k=>[(15,E k)]) (fun k w=>k<=L.length/\(∀ i,i<k->(0<=L.getD i W.dflt/\L.getD i W.dflt<t.vars.length)/\(0<i->L.getD (i-1) W.dflt<L.getD i W.dflt))/\Z w0 w [ak D 26 [a,b,c,d]]) (fun k=>L.length-k) 0 (fun _=>rfl) ⟨rfl,az⟩ ⟨bu _,fun i n=>absurd n (dr _),Y⟩ ?_;clear Y;rintro R k w ⟨F,g,Y⟩;refine aB ?_ ?_<;>intro h1
  ·have q:k<L.length:=U
   have y:((k:Int)-1).toNat=k-1:=U;refine aB ?_ ?_<;>intro j
   ·refine O ?_
    refine bf (v:=bI 2) rfl (by rw[cS dc];rfl) ⟨?_,Y.tail⟩;rw[lQ,aC (by simp[hk]),aC];intro r;have H:=r k q;rw[y]at j;rcases j with (j|j)|⟨j,S⟩
    ·omega
    ·omega
    have:=H.2 U;omega
   rw[y]at j;refine O ?_;refine⟨k+1,⟨rfl,az⟩,aU,⟨U,fun i n=>?_,Y⟩,U⟩;by_cases h:i=k
   ·subst h;exact⟨U,fun r=>U⟩
   exact g i U
  refine O ?_;refine bf (v:=bI 0) rfl (by rw[fK rfl];rfl) ⟨?_,Y.tail⟩;rw[lQ,aC (by simp[hk]),aM];intro i n;exact g i U
 rw[cS hk];refine O ?_;refine bf (v:=bI (bM t)) rfl (by rw[cS hk];rfl) ⟨?_,Y.tail⟩;rw[lQ,aM hk]
def Jc {vars:J}(e:∀ x∈vars,1<=x)(g:∀ v∈L,0<=v/\v<vars.length)(k:Nat):br vars (L.take k)<=br vars L:=by
 have h1:fQ vars (L.take k)=(fQ vars L).take k:=by simp[fQ,map_take]
 rw[br,h1];exact DI (Pm e g) k
def Xl {vars:J}(hk:k<L.length):br vars (L.take (k+1))=br vars (L.take k)*sg vars (L.getD k W.dflt):=by
 rw[eC W.dflt hk,Ka]
def N1 {vars s:J}(hk:k<L.length):bX vars (L.take (k+1)) s=bX vars (L.take k) s*sg vars (L.getD k W.dflt)+sg s (L.getD k W.dflt):=by
 rw[eC W.dflt hk,Pn]
def Kb (r:bn w0 a b c d vs t)(x:RS W w0 m L)(I:aG t)(i:∀ v∈L,0<=v/\v<t.vars.length) :
  Calls ai 101 #[.agg #[a,b,c,d],m] w0 fun e w'=>e=.returned (.tuple (if br t.vars L<=4096 then #[E (br t.vars L),.bool true] else #[E 0,.bool false]))/\Z w0 w' []:=by
 obtain⟨y,D,F,K⟩:=r;have z:=y.bU;have A:=x.bU;have Y:=Z.start w0;refine bA an Tryz.func101 ?_;refine eE ?_;intro B w Y;refine dQ [4,6,8,8,11,24] (G:=Nat) (H:=Int) (fun k n=>[(11,E k),(6,E n)]) (fun k n w=>k<=L.length/\n=br t.vars (L.take k)/\n<=4096/\Z w0 w [ak B 26 [a,b,c,d]]) (fun k _=>L.length-k) 0 1 (fun _ _=>rfl) ⟨rfl,rfl,az⟩ ⟨bu _,rfl,dc,Y⟩ ?_;clear Y;rintro N k n w ⟨hk,h,j,Y⟩;refine aB ?_ ?_<;>intro h1
 ·have g:k<L.length:=U
  have hv:=i _ (cH W.dflt g);have C:=I.mN (L.getD k W.dflt).toNat U;have l:1<=n:=by rw[h];exact F3 I.pos fun v hv=>i v (pO hv)
  have q:br t.vars (L.take (k+1))=n*sg t.vars (L.getD k W.dflt):=by rw[Xl g,h]
  have eI:=Jc I.pos i (k+1);simp only[sg]at q;have P:0<=n*t.vars.getD (L.getD k W.dflt).toNat W.dflt:=sj U U;have R:n*t.vars.getD (L.getD k W.dflt).toNat W.dflt<=4096*64:=yx j U U U;refine aB ?_ ?_<;>intro S
  ·refine O ?_
   refine cR (v:=E 0) (v':=.bool false) rfl rfl rfl ⟨?_,Y.tail⟩;rw[aC U]
  refine O ?_;exact⟨k+1,_,⟨rfl,rfl,az⟩,aU,⟨U,q.symm,U,Y⟩,U⟩
 refine O ?_;refine cR (v:=E n) (v':=.bool true) rfl rfl rfl ⟨?_,Y.tail⟩;rw[gH U]at h;rw[aM U,h]
def Po {sv:Value}{s:J}(q:bn w0 a b c d vs t)(r:RS W w0 m L)(F:RS W w0 sv s)(I:aG t)(h:∀ v∈L,0<=v/\v<t.vars.length)(bL:ab t.vars s)(K:br t.vars L<=1099511627776) :
  Calls ai 102 #[.agg #[a,b,c,d],m,sv] w0 fun e w'=>e=.returned (E (bX t.vars L s))/\Z w0 w' []:=by
 obtain⟨x,N,P,R⟩:=q;have y:=x.bU;have z:=r.bU;have A:=bL.1;have Y:=Z.start w0;refine bA an Tryz.func102 ?_;refine eE ?_;intro B w Y;refine dQ [7,7,9,9,12,28] (G:=Nat) (H:=Int) (fun k n=>[(12,E k),(7,E n)]) (fun k n w=>k<=L.length/\n=bX t.vars (L.take k) s/\Z w0 w [ak B 26 [a,b,c,d]]) (fun k _=>L.length-k) 0 0 (fun _ _=>rfl) ⟨rfl,rfl,az⟩ ⟨bu _,rfl,Y⟩ ?_;clear Y;rintro S k n w ⟨hk,i,Y⟩;refine aB ?_ ?_<;>intro h1
 ·have g:k<L.length:=U
  have hv:=h _ (cH W.dflt g);have C:=bL.dK hv.1 hv.2;have j:=oF (p:=L.take k) bL fun v hv=>h v (pO hv);have D:=oF (p:=L.take (k+1)) bL fun v hv=>h v (pO hv);have eI:=Jc I.pos h (k+1);have l:=N1 (vars:=t.vars) (s:=s) g;rw[<-i]at j l;simp only[sg]at l C;have T:0<=n*t.vars.getD (L.getD k W.dflt).toNat W.dflt:=sj U U;refine fm ?_;intro w Y;exact⟨k+1,_,⟨rfl,rfl,az⟩,aU,⟨U,l.symm,Y⟩,U⟩
 refine O ?_;refine bf (v:=E n) rfl rfl ⟨?_,Y.tail⟩;rw[gH U]at i;rw[i]
def Pp {p:Addr}{v:Value}(h:w0.cell? p=some v)(Y:Z w0 w Γ):w.cell? p=some v:=by
 have e:p.block<w0.heap.size:=by
  rcases nu p.block w0.heap.size with g|g
  ·exact g
  simp[World.cell?,tH g]at h
 rw[Y.below.cell e];exact h
def Xm {x:bp}(hv:w0.cell? pv=some (E v)) :
  Calls ai 160 #[.agg #[E x.var,E x.val],.pointer (some pv)] w0 fun e w'=>e=.returned (.bool (decide (x.var=v)))/\Z w0 w' []:=by
 have Y:=Z.start w0;refine bA an Tryz.func160 ?_;refine eE ?_;intro p w Y;refine qX rfl (wD rfl (Pp hv Y)) ?_;refine O ?_;exact bf (v:=.bool (decide (x.var=v))) rfl rfl ⟨rfl,Y.tail⟩
def Xn (q:RS aq w0 a f)(hv:w0.cell? pv=some (E v)) :
  Calls ai 179 #[a,.func (.func 160) #[] #[.pointer (some pv)]] w0 fun e w'=>(∃ r:Int,e=.returned (E r)/\(0<=r↔∃ x∈f,x.var=v))/\Z w0 w' []:=by
 have y:=q.bU;have Y:=Z.start w0;refine bA an Tryz.func179 ?_;refine O ?_;refine cP [4,5,8,18] (G:=Nat) (fun k=>[(8,E k)]) (fun k w=>k<=f.length/\(∀ i,i<k->(f.getD i aq.dflt).var≠v)/\Z w0 w []) (fun k=>f.length-k) 0 (fun _=>rfl) ⟨rfl,az⟩ ⟨bu _,fun i j=>absurd j (dr _),Y⟩ ?_;clear Y;rintro z k w ⟨hk,g,Y⟩;refine aB ?_ ?_<;>intro h1
 ·have l:k<f.length:=U
  refine O ?_;refine wr (cs:=[.pointer (some pv)]) rfl rfl (Xm (x:=f.getD k aq.dflt) (Pp hv Y)) ?_;rintro _ w' ⟨rfl,al⟩;refine aA ?_;clear al Y;intro Y;refine aB ?_ ?_<;>intro n
  ·refine O ?_
   refine bf (v:=E k) rfl rfl ⟨⟨k,rfl,⟨fun _=>⟨_,cH aq.dflt l,n⟩,fun _=>U⟩⟩,Y⟩
  refine O ?_;refine⟨k+1,⟨rfl,az⟩,aU,⟨U,fun i j=>?_,Y⟩,U⟩;by_cases h:i=k
  ·subst h;exact n
  exact g i U
 refine O ?_;refine bf (v:=E (-1)) rfl rfl ⟨⟨-1,rfl,⟨fun h=>U,?_⟩⟩,Y⟩;rintro⟨x,hx,he⟩;obtain⟨i,j,rfl⟩:=A0.1 hx;exact absurd (by rw[am j];exact he) (g i U)
def Xo (g:RS aq w0 a f)(hv:w0.cell? pv=some (E v)) :
  Calls ai 159 #[a,.func (.func 160) #[] #[.pointer (some pv)]] w0 fun e w'=>(∃ r,e=.returned (.bool r)/\(r=true↔∃ x∈f,x.var=v))/\Z w0 w' []:=by
 have Y:=Z.start w0;refine bA an Tryz.func159 ?_;refine O ?_;refine aL rfl (Xn g hv) ?_;rintro _ w' ⟨⟨r,rfl,h⟩,al⟩;refine aA ?_;clear al Y;intro Y;refine O ?_;exact bf (v:=.bool (decide (0<=r))) rfl rfl ⟨⟨_,rfl,by rw[gQ];exact h⟩,Y⟩
def Xp (g:RS aq w0 a f) :
  Calls ai 135 #[a,E v] w0 fun e w'=>(∃ r,e=.returned (.bool r)/\(r=true↔∃ x∈f,x.var=v))/\Z w0 w' []:=by
 have Y:=Z.start w0;refine bA an Tryz.func135 ?_;refine eE ?_;intro p w Y;refine aL rfl (Xo (v:=v) (g.at Y) (Cu (i:=0) Y rfl rfl)) ?_;rintro _ w' ⟨⟨r,rfl,h⟩,al⟩;refine aA ?_;clear al Y;intro Y;refine O ?_;exact bf (v:=.bool r) rfl rfl ⟨⟨_,rfl,h⟩,Y.tail⟩
def mw (o:km)(L:J)(k:Nat)(u:Int):Prop:=(∃ e∈o.aJ.take k,e.var∈L/\∃ f∈e.bO,f.var=u)/\u∉L/\∀ f∈o.pre,f.var≠u
def qM (o:km)(L:J)(k:Nat)(f:List bp)(u:Int):Prop:=mw o L k u\/((∃ x∈f,x.var=u)/\u∉L/\∀ x∈o.pre,x.var≠u)
def Xq (o:km)(L:J)(u:Int):¬mw o L 0 u:=fun⟨⟨e,he,_⟩,_⟩=>by simp at he
def Xr (hk:k<o.aJ.length)(hm:(o.aJ.getD k bE).var∈L):qM o L k (o.aJ.getD k bE).bO u↔mw o L (k+1) u:=by
 unfold qM mw;rw[eC bE hk];constructor
 ·rintro (⟨⟨e,he,h1⟩,g⟩|⟨⟨x,hx,h⟩,g⟩)
  ·exact⟨⟨e,by simp[he],h1⟩,g⟩
  exact⟨⟨_,sm,hm,x,hx,h⟩,g⟩
 rintro⟨⟨e,he,h1,h⟩,g⟩;rcases gG.1 he with he|he
 ·exact .inl ⟨⟨e,he,h1,h⟩,g⟩
 rw[dp.1 he]at h;exact .inr ⟨h,g⟩
def Xs (hk:k<o.aJ.length)(hm:(o.aJ.getD k bE).var∉L):mw o L k u↔mw o L (k+1) u:=by
 unfold mw;rw[eC bE hk];constructor
 ·rintro⟨⟨e,he,h1⟩,g⟩
  exact⟨⟨e,by simp[he],h1⟩,g⟩
 rintro⟨⟨e,he,h1,h⟩,g⟩;rcases gG.1 he with he|he
 ·exact⟨⟨e,he,h1,h⟩,g⟩
 rw[dp.1 he]at h1;exact absurd h1 hm
def Xt {x:bp}:qM o L k (f++[x]) u↔qM o L k f u\/(u=x.var/\u∉L/\∀ y∈o.pre,y.var≠u):=by
 unfold qM;constructor
 ·rintro (h|⟨⟨y,g,e⟩,i⟩)
  ·exact .inl (.inl h)
  rcases gG.1 g with g|g
  ·exact .inl (.inr ⟨⟨y,g,e⟩,i⟩)
  rw[dp.1 g]at e;exact .inr ⟨e.symm,i⟩
 rintro ((h|⟨⟨y,g,e⟩,i⟩)|⟨rfl,i⟩)
 ·exact .inl h
 ·exact .inr ⟨⟨y,by simp[g],e⟩,i⟩
 exact .inr ⟨⟨x,sm,rfl⟩,i⟩
def Xu (h:xs.Nodup):(fh xs).Pairwise (·<·):=by
 have h1:=J5 xs;have e:(fh xs).Nodup:=(mergeSort_perm xs _).nodup_iff.2 h;exact(h1.and e).imp fun h=>U
def Xv {v:iW}{vars:J}(hv:oG w0 v o)(hp:RS W w0 m L)(S:ua vars o)(hn:vars.length<=64) :
  Calls ai 103 #[.agg (cd.enc v).toArray,m] w0 fun e w'=>∃ s,e=.returned s/\Z w0 w' [X W 3 s (sW vars o L)]:=by
 have R':=hv.one;obtain⟨es,A⟩:=hv.aJ;have D:=A.rs;have V':=A.len;have _a:=D.bU;have K:=hv.pre;have T':=S.aJ;have Y:=Z.start w0;refine bA an Tryz.func103 ?_;refine eE ?_;intro pt w Y;refine nZ [5,5,7,7,9,9,13,55] (G:=Nat) (H:=Value) (I':=J) (fun k s _=>[(13,E k),(5,s)]) (fun k s xs w=>k<=o.aJ.length/\xs.Nodup/\xs.length<=64*k/\(∀ u,u∈xs↔mw o L k u)/\Z w0 w [X W 3 s xs,ak pt 44 (cd.enc v)]) (fun k _ _=>o.aJ.length-k) 0 (nS) [] (fun _ _ _=>rfl) ⟨rfl,rfl,az⟩ ⟨bu _,zI,sm,fun u=>⟨fun h=>by simp at h,fun h=>absurd h (Xq o L u)⟩,Y.nil⟩ ?_;clear Y;rintro σ k s xs w ⟨hk,i,N,g,Y⟩;refine aB ?_ ?_<;>intro h1
 ·have n:k<o.aJ.length:=U
  have B:=A.dJ k n;have P:=B.bO;have T:=B.one;have R:=B.var;have V:=S.ff k n;have j':=sd V.1;have H':=P.bU;obtain⟨F,hF⟩:=À ((o.aJ.getD k bE).bO);rw[<-hF]at P j' H';refine eE ?_;intro pe w Y;refine aL rfl (wE (hp.at Y)) ?_;rintro _ w' ⟨rfl,al⟩;replace Y:=Y.cy al;clear al;by_cases hm:(au aV es k).var∈L
  ·rw[dy hm]
   refine⟨_,rfl,?_⟩;rw[R]at hm;refine O ?_;refine nZ [5,5,9,9,25,54] (G:=Nat) (H:=Value) (I':=J) (fun j s _=>[(25,E j),(5,s)]) (fun j s xs w=>j<=F.length/\xs.Nodup/\xs.length<=64*k+j/\(∀ u,u∈xs↔qM o L k (F.take j) u)/\Z w0 w [ak pe 61 (aV.enc (au aV es k)),X W 3 s xs,ak pt 44 (cd.enc v)]) (fun j _ _=>F.length-j) 0 s xs (fun _ _ _=>rfl) ⟨rfl,rfl,az⟩ ⟨bu _,i,U,fun u=>(g u).trans ⟨fun h=>.inl h,fun h=>by rcases h with h|⟨⟨x,hx,_⟩,_⟩;exact h;simp at hx⟩,Y⟩ ?_;clear Y g i N;rintro _b j s xs w ⟨hj,i,N,g,Y⟩;refine aB ?_ ?_<;>intro h2
   ·have J':j<F.length:=U
    have l:=fun u=>Xt (o:=o) (L:=L) (k:=k) (f:=F.take j) (x:=F.getD j aq.dflt) (u:=u);rw[<-eC aq.dflt J']at l;refine eE ?_;intro p w Y;refine aL rfl (wE (hp.at Y)) ?_;rintro _ w' ⟨rfl,al⟩;replace Y:=Y.cy al;clear al;by_cases q:(F.getD j aq.dflt).var∈L
    ·rw[dy q]
     refine⟨_,rfl,?_⟩;refine O ?_;refine⟨j+1,s,xs,⟨rfl,rfl,az⟩,aU,⟨U,i,U,fun u=>?_,Y.tail⟩,U⟩;rw[g u,l u];exact⟨.inl,fun h=>h.resolve_right fun h=>h.2.1 (h.1 ▸ q)⟩
    rw[dU q];refine⟨_,rfl,?_⟩;refine O ?_;refine aL rfl (Xp (K.at Y)) ?_;rintro _ w' ⟨⟨r,rfl,hr⟩,al⟩;refine aA ?_;clear al Y;intro Y
    cases r with
    | true =>
     refine O ?_;refine⟨j+1,s,xs,⟨rfl,rfl,az⟩,aU,⟨U,i,U,fun u=>?_,Y.tail⟩,U⟩;rw[g u,l u];obtain⟨y,C,z⟩:=hr.1 rfl
     exact⟨.inl,fun h=>h.resolve_right fun h=>h.2.2 y C (by rw[z,h.1])⟩
    | false =>
     have P':∀ y∈o.pre,y.var≠(F.getD j aq.dflt).var:=fun y C e=>by have:=hr.2 ⟨y,C,e⟩;cases this
     refine O ?_;refine aL rfl (wE (a:=s) (bk Y)) ?_;rintro _ w' ⟨rfl,al⟩;replace Y:=Y.cy al;clear al;by_cases z:(F.getD j aq.dflt).var∈xs
     ·rw[dy z]
      refine⟨_,rfl,?_⟩;refine O ?_;refine⟨j+1,s,xs,⟨rfl,rfl,az⟩,aU,⟨U,i,U,fun u=>?_,Y.tail⟩,U⟩;rw[l u,<-g u];exact⟨.inl,fun h=>h.elim id fun h=>h.1 ▸ z⟩
     rw[dU z];refine⟨_,rfl,?_⟩
     repeat (first|refine du ?_|(refine fA ?_;clear Y;intro s w Y))
     refine⟨j+1,_,xs++[(F.getD j aq.dflt).var],⟨rfl,rfl,az⟩,aU,⟨U,?_,by simp;omega,fun u=>?_,Y.tail.tail⟩,U⟩
     ·rw[zU]
      refine⟨i,sm,fun x hx y C e=>?_⟩;rw[dp.1 C]at e;exact z (e ▸ hx)
     rw[l u,<-g u,gG,dp];exact⟨fun h=>h.elim .inl fun h=>.inr ⟨h,h ▸ q,fun y C=>h ▸ P' y C⟩,fun h=>h.elim .inl fun h=>.inr h.1⟩
   rw[gH U]at g;refine O ?_;refine⟨k+1,s,xs,⟨rfl,rfl,az⟩,aU,⟨U,i,U,fun u=>?_,Y.tail⟩,U⟩;rw[g u,hF,Xr n hm]
  rw[dU hm];refine⟨_,rfl,?_⟩;rw[R]at hm;refine O ?_;refine⟨k+1,s,xs,⟨rfl,rfl,az⟩,aU,⟨U,i,U,fun u=>?_,Y.tail⟩,U⟩;rw[g u,Xs n hm]
 have l:k=o.aJ.length:=U;subst l;refine O ?_;refine aL rfl (Dx Y U) ?_;clear Y;rintro _ w' ⟨rfl,Y⟩;refine⟨_,rfl,?_⟩;refine O ?_;refine bf (v:=s) rfl rfl ⟨s,rfl,?_⟩;have e:fh xs=sW vars o L:=by
  refine Kc (Xu i) fun u=>?_;rw[Gy,g u];unfold mw xB;rw[kV];constructor
  ·rintro⟨⟨e,he,h1,f,n,j⟩,h2⟩
   have:=yB (S.mem e he).1 f n;exact⟨⟨j ▸ this.1,j ▸ this.2.1⟩,⟨e,he,h1,f,n,j⟩,h2⟩
  exact fun h=>h.2
 rw[e]at Y;exact Y.only
end
end Go.Proofs.YtmapkjoefdgjfaaGreatDoor
