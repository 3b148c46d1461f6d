/-
  The statement 'EstimateBest' returns true.
-/
import Derived.Test.YtmapkjoefdgjfaaGreatDoorWLawEBE
import Derived.Test.YtmapkjoefdgjfaaGreatDoorWBTaskE
set_option linter.unusedSimpArgs false
set_option linter.unusedVariables false
set_option maxRecDepth 8000
set_option maxHeartbeats 16000000
open List Nat
namespace Go.Proofs.YtmapkjoefdgjfaaGreatDoor
open Go.Sl Go
variable {t:aa}{w0:World}{ps:List (Option Addr)}{Gs:List (J->Int)}{lv:Value}
attribute [local irreducible] vc opsW opsD opV opW PureV ReadV Thn Blk
theorem Et {n:Nat}{i:Nat}(h:i<n):(replicate n t).getD i dT=t:=Ek h
theorem HM (j:RS ap w0 lv (ps.map Value.pointer))(m:ps.length<=1024)(d:0<ps.length)(I:aG t)(f:ps.length=Gs.length)(g:bG w0 ps t Gs) :
  Calls ai 14 #[lv] w0 fun e w'=>∃ p,e=.returned (.tuple #[.pointer (some p),.nilIface])/\Z w0 w' [aZ fun w=>bG w ps t Gs->bK w p t (bv t Gs)]:=by
 have a:(replicate ps.length t).getD 0 dT=t:=Et d;have k:jV ps (replicate ps.length t)=0:=by
  unfold jV;rw[aC,aC]
  ·rintro⟨i,b,c⟩
   exact c (by rw[Et b,a])
  rintro (h|h)
  ·rw[h]at d;exact absurd d (Nat.lt_irrefl _)
  obtain⟨i,b,e⟩:=fJ h;obtain⟨p,h1,_⟩:=g i b;rw[am b,e]at h1;cases h1
 refine(HN (us:=replicate ps.length t) (Hs:=Gs) j U f.symm (fun i b p l=>?_) (by rw[a];exact I)).mono fun e w' h=>?_
 ·obtain⟨q,h1,c⟩:=g i b
  rw[l]at h1;obtain rfl:p=q:=wx h1;rw[Et b];exact c
 rcases h with ⟨h1,_⟩|⟨_,p,rfl,c⟩
 ·exact absurd k h1
 rw[a]at c;exact⟨p,rfl,c⟩
theorem HO (d:RS ap w0 lv (ps.map Value.pointer))(m:ps.length<=1024)(I:aG t)(a:ps.length=Gs.length)(f:∀ i,i<ps.length->∀ p,ps.getD i none=some p->bK w0 p t (Gs.getD i fun _=>0))(g:ps=[]\/none∈ps) :
  Calls ai 14 #[lv] w0 fun e w'=>e=.returned (.tuple #[.pointer none,bI 3])/\Z w0 w' []:=by
 have b:(replicate (ps.length+1) t).getD 0 dT=t:=Et (DL _);have c:jV ps (replicate (ps.length+1) t)=3:=by unfold jV;rw[aM g]
 refine(HN (us:=replicate (ps.length+1) t) (Hs:=Gs) d U a.symm (fun i j p k=>?_) (by rw[b];exact I)).mono fun e w' h=>?_
 ·rw[Et U];exact f i j p k
 rcases h with ⟨_,rfl,l⟩|⟨h1,_⟩
 ·rw[c];exact⟨rfl,l⟩
 rw[c]at h1;exact absurd h1 dc
open Classical in
theorem RP {b c:Addr}{u:aa}{H1 H2:J->Int}(k:RS ap w0 lv [.pointer (some b),.pointer (some c)])(I:aG t)(h1:bK w0 b t H1)(h2:bK w0 c u H2) :
  Calls ai 14 #[lv] w0 fun e w'=>(t=u/\∃ p,e=.returned (.tuple #[.pointer (some p),.nilIface])/\Z w0 w' [])\/(t≠u/\e=.returned (.tuple #[.pointer none,bI 2])/\Z w0 w' []):=by
 have d:jV [some b,some c] [t,u]=if t=u then 0 else 2:=by
  unfold jV;rw[aC sm];by_cases e:t=u
  ·subst e
   rw[aM rfl,aC];rintro⟨i,f,a⟩;have g:i=0\/i=1:=by simp at f;omega
   rcases g with rfl|rfl<;>exact a rfl
  rw[aC e,aM ⟨1,sm,fun h=>e (by simpa using h.symm)⟩]
 refine(HN (ps:=[some b,some c]) (us:=[t,u]) (Hs:=[H1,H2]) k (show 2<=1048576 by decide) rfl (fun i f p j=>?_) I).mono fun e w' h=>?_
 ·have g:i=0\/i=1:=by simp at f;omega
  rcases g with rfl|rfl
  ·obtain rfl:b=p:=wx j
   exact h1
  obtain rfl:c=p:=wx j;exact h2
 rcases h with ⟨a,rfl,h2⟩|⟨a,p,rfl,h2⟩
 ·by_cases e:t=u
  ·rw[d,aM e]at a;exact absurd rfl a
  rw[d,aC e];exact .inr ⟨e,rfl,h2⟩
 by_cases e:t=u
 ·exact .inl ⟨e,p,rfl,h2.aY⟩
 rw[d,aC e]at a;exact absurd a dc
theorem bG.rev {w:World}(h:bG w ps t Gs)(b:ps.length=Gs.length):bG w ps.reverse t Gs.reverse:=fun i a=>by
 rw[tL]at a;obtain⟨p,h1,c⟩:=h (ps.length-1-i) U;refine⟨p,?_,?_⟩
 ·rw[am (by rw[tL];exact a),J7,<-am (d:=none)];exact h1
 rw[am (by rw[tL];omega),J7,<-am (d:=fun _=>0)];rw[<-b];exact c
theorem bG.AO {w:World}(h:bG w ps t Gs)(g:ps.length=Gs.length):∀ i,i<(ps++[none]).length->∀ p,(ps++[none]).getD i none=some p->bK w p t ((Gs++[fun _=>0]).getD i fun _=>0):=fun i b p a=>by
 rw[length_append,r6]at b;by_cases e:i<ps.length
 ·obtain⟨q,h1,c⟩:=h i e
  have d:(ps++[none]).getD i none=ps.getD i none:=by simp only[List.getD,iX e]
  rw[d,h1]at a;obtain rfl:=wx a;have f:(Gs++[fun _=>0]).getD i (fun _=>0)=Gs.getD i fun _=>0:=by simp only[List.getD,iX (show i<Gs.length by omega)]
  rw[f];exact c
 have:i=ps.length:=U;subst this;simp[List.getD]at a
theorem Vw {a b c d a2 y c2 d2 xv:Value}{vs us:List iW}{u:aa}{T:J}(hT:lR w0)(hB:lc w0)(D:bn w0 a b c d vs t)(hu:bn w0 a2 y c2 d2 us u)(hx:RS W w0 xv T) :
  Calls ai 6 #[.agg #[a,b,c,d],.agg #[a2,y,c2,d2],xv] w0 fun e w'=>e=.returned (.bool true)/\Z w0 w' []:=by
 have _x:=hx.bU;have Y:=Z.start w0;refine bA an Tryz.func6 ?_
 repeat (first|refine du ?_|(refine gX ?_;clear Y;intro p w Y))
 obtain⟨pu,rfl⟩:=À p;obtain⟨L,rfl⟩:=À p;replace Y:Z w0 w [ak pu 26 [a2,y,c2,d2],ak L 26 [a,b,c,d]]:=Y;refine aL rfl (Rx (D.at Y)) ?_;rintro _ w' ⟨⟨r,rfl,g⟩,al⟩;refine aA ?_;clear al Y;intro Y;have _h:=D.vars;cases r
 ·refine O ?_
  refine aL rfl Eu ?_;refine jT ?_;clear Y;intro w' Y;exact bf (v:=.bool true) rfl rfl ⟨rfl,gm Y⟩
 have hs:=g.1 rfl;have I:=hs.cZ;have _y:=hs.many;have _z:=I.vars;have _A:(ba t.vars).length=(bY t.vars).toNat:=Aq I.pos;have _B:=yy I.pos;refine O ?_;refine aL rfl (Rx (hu.at Y)) ?_;rintro _ w' ⟨⟨r,rfl,g⟩,al⟩;refine aA ?_;clear al Y;intro Y;cases r
 ·refine O ?_
  refine aL rfl Eu ?_;refine jT ?_;clear Y;intro w' Y;exact bf (v:=.bool true) rfl rfl ⟨rfl,gm Y⟩
 have _b:=(g.1 rfl).cZ;by_cases q1:(600:Int)<(T.length:Int)
 ·have Q:decide ((600:Int)<(T.length:Int))=true:=dy q1
  refine O ?_
  try simp only[Q];refine dI ?_
  refine O ?_;refine aL rfl Eu ?_;refine jT ?_;clear Y;intro w' Y;exact bf (v:=.bool true) rfl rfl ⟨rfl,gm Y⟩
 have Q:decide ((600:Int)<(T.length:Int))=false:=dU q1;refine O ?_
 try simp only[Q];refine dI ?_
 refine O ?_;refine aL rfl (Ru (m:=512) (_h.at Y) I.pos dc dc) ?_;refine gZ ?_;clear Y;intro w' Y;obtain⟨mm,_i⟩:=À (qP t.vars 512);rw[<-_i];by_cases P':(100:Int)<mm
 ·have Q:decide ((100:Int)<mm)=true:=dy P'
  refine O ?_
  try simp only[Q];refine dI ?_
  refine O ?_;refine aL rfl Eu ?_;refine jT ?_;clear Y;intro w' Y;exact bf (v:=.bool true) rfl rfl ⟨rfl,gm Y⟩
 have Q:decide ((100:Int)<mm)=false:=dU P';refine O ?_
 try simp only[Q];refine dI ?_
 refine O ?_;refine aL rfl Eu ?_;refine gZ ?_;clear Y;intro w' Y;replace Y:Z w0 w' [ak pu 26 [a2,y,c2,d2],ak L 26 [a,b,c,d]]:=Y;refine O ?_;refine aL rfl (Z3 (D.at Y) hs (hT.at Y) (hB.at Y)) ?_;rintro _ w' ⟨F,ps,Gs,rfl,f,_c,_j,_k,al⟩;replace Y:=Y.w9 al;clear al _k;refine⟨_,rfl,?_⟩;refine O ?_;refine aL rfl (UU (D.at Y) I (hx.at Y) U) ?_;rintro _ w' _d;rcases _d with ⟨hE,rfl,al⟩|⟨hE,pq,rfl,al⟩
 ·refine aA ?_;clear al Y;intro Y
  rw[cS hE];have _l:ps.length<=8:=U;refine O ?_;obtain⟨w,J'⟩:=À w';subst J';have R':=yQ ps;replace Y:Z w0 w [X ap 36 F (ps.map Value.pointer),aZ (fun w=>bG w ps t Gs),ak pu 26 [a2,y,c2,d2],ak L 26 [a,b,c,d]]:=Y.aY;refine O ?_;refine dQ [10,11,70,80] (G:=Nat) (H:=Value) (fun K N=>[(11,E ((K:Int)-1)),(10,N)]) (fun K N w=>K<=ps.length/\Z w0 w [X ap 36 N ((ps.drop K).reverse.map Value.pointer),X ap 36 F (ps.map Value.pointer),aZ (fun w=>bG w ps t Gs),ak pu 26 [a2,y,c2,d2],ak L 26 [a,b,c,d]]) (fun K _=>K) (ps.map Value.pointer).length (nS) (fun _ _=>rfl) ⟨rfl,rfl,az⟩ ⟨U,by rw[pS U];exact Y.nil⟩ ?_;clear Y;rintro σ K N w ⟨hK,Y⟩;have _m:((ps.drop K).reverse.map Value.pointer).length<=64:=by rw[iz,tL,yD];omega
  refine aB ?_ ?_<;>intro g1
  ·obtain⟨k,rfl⟩:∃ k,K=k+1:=⟨K-1,U⟩
   have l:k<ps.length:=U;obtain⟨q,hq,_⟩:=(Y.ct 2 rfl) k l;have ek:(((k+1:Nat):Int)-1)=(k:Int):=U;rw[ek];refine O ?_;rw[yR ps l,hq]
   repeat (first|refine du ?_|(refine fA ?_;clear Y;intro s w Y))
   obtain⟨A,rfl⟩:=À s;have e:(ps.drop (k+1)).reverse.map Value.pointer++[Value.pointer (some q)]=(ps.drop k).reverse.map Value.pointer:=by
    rw[Bi none l,reverse_cons,oh,hq];rfl
   rw[e]at Y;exact⟨k,A,⟨rfl,rfl,az⟩,aU,⟨U,Y.aY⟩,U⟩
  have T':K=0:=U;rw[T',Bs]at Y;have _n:(ps.reverse.map Value.pointer).length=ps.length:=by rw[iz,tL]
  refine O ?_;refine aL rfl (HM (ps:=ps) (t:=t) (Gs:=Gs) (bk (s:=F) Y) U U I f (Y.ct 2 rfl)) ?_;rintro _ w' ⟨P,rfl,al⟩;refine aI ?_;clear al Y;intro Y;refine O ?_;refine aL rfl (HM (ps:=ps.reverse) (t:=t) (Gs:=Gs.reverse) (bk (s:=N) Y) (by rw[tL];omega) (by rw[tL];omega) I (by rw[tL,tL];exact f) ((Y.ct 3 rfl).rev f)) ?_;rintro _ w' ⟨S,rfl,al⟩;refine aI ?_;clear al Y;intro Y;rw[show bv t Gs.reverse=bv t Gs from funext fun s=>RQ fun H=>mem_reverse]at Y;refine O ?_;refine aL rfl (yP ((Y.ct 1 rfl) (Y.ct 4 rfl)) (D.at Y)) ?_;rintro _ w' ⟨⟨r,rfl,g⟩,al⟩;refine aA ?_;clear al Y;intro Y;obtain rfl:=g.2 rfl;refine O ?_;refine aL rfl (RR (D.at Y) hs) ?_;rintro _ w' ⟨V,os,R,Zs,rfl,hZ,_o,_p,al⟩;refine iM ?_;clear al Y;intro Y;have _e:=hZ.1;replace Y:Z w0 w' [aj W 3 R (ba t.vars),X ap 22 V os,aZ (fun w=>bG w ps.reverse t Gs.reverse->bK w S t (bv t Gs)),aZ (fun w=>bG w ps t Gs->bK w P t (bv t Gs)),aZ (fun w=>bG w ps t Gs),X ap 36 F (ps.map Value.pointer),X ap 36 N (ps.reverse.map Value.pointer),ak pu 26 [a2,y,c2,d2],ak L 26 [a,b,c,d]]:=Y.aY;refine O ?_;refine cP [6,6,17,18,20,20,106,134] (G:=Nat) (fun k=>[(106,E k)]) (fun k w=>k<=Zs.length/\Z w0 w [aj W 3 R (ba t.vars),X ap 22 V os,aZ (fun w=>bG w ps.reverse t Gs.reverse->bK w S t (bv t Gs)),aZ (fun w=>bG w ps t Gs->bK w P t (bv t Gs)),aZ (fun w=>bG w ps t Gs),X ap 36 F (ps.map Value.pointer),X ap 36 N (ps.reverse.map Value.pointer),ak pu 26 [a2,y,c2,d2],ak L 26 [a,b,c,d]]) (fun k=>Zs.length-k) 0 (fun _=>rfl) ⟨rfl,az⟩ ⟨bu _,Y⟩ ?_
  clear Y;rintro _q k w ⟨hk,Y⟩;refine aB ?_ ?_<;>intro g2
  ·have l:k<Zs.length:=U
   have bL:=hZ.ok I l;have B:∀ {Γ:List HP}(w:World),Z w0 w (aj W 3 R (ba t.vars)::Γ)->RS W w (cG os k) (Zs.getD k []):=fun w h=>hZ.rs D.cC h l;obtain⟨z,hz⟩:=À (Zs.getD k []);rw[<-hz]at bL B;refine O ?_;refine cP [18,18,20,20,112,121] (G:=Nat) (fun j=>[(112,E j),(18,E (bv t (Gs.take j) z))]) (fun j w=>j<=ps.length/\Z w0 w [aj W 3 R (ba t.vars),X ap 22 V os,aZ (fun w=>bG w ps.reverse t Gs.reverse->bK w S t (bv t Gs)),aZ (fun w=>bG w ps t Gs->bK w P t (bv t Gs)),aZ (fun w=>bG w ps t Gs),X ap 36 F (ps.map Value.pointer),X ap 36 N (ps.reverse.map Value.pointer),ak pu 26 [a2,y,c2,d2],ak L 26 [a,b,c,d]]) (fun j=>ps.length-j) 0 (fun _=>rfl) ⟨rfl,rfl,az⟩ ⟨bu _,Y⟩ ?_;clear Y;rintro _r j w ⟨hj,Y⟩;refine aB ?_ ?_<;>intro g3
   ·have C:j<ps.length:=U
    obtain⟨q,hq,hE⟩:=(Y.ct 4 rfl) j C;refine O ?_;rw[yR ps C,hq];refine O ?_;refine aL rfl (wM hE (B _ Y)) ?_;refine gZ ?_;clear Y;intro w' Y;have j':bv t (Gs.take (j+1)) z=max (bv t (Gs.take j) z) (gD t (Gs.getD j fun _=>0) z):=by rw[eC (fun _=>0) U,HQ]
    obtain⟨n,hn⟩:=À (gD t (Gs.getD j fun _=>0) z);obtain⟨m,hm⟩:=À (bv t (Gs.take j) z);rw[<-hn,<-hm]at j';rw[<-hn,<-hm];have e:(if n>m then n else m)=bv t (Gs.take (j+1)) z:=by rw[j'];split<;>omega
    refine O ?_;exact⟨j+1,⟨rfl,by rw[<-e];rfl,az⟩,aU,⟨U,Y⟩,U⟩
   have C:j=ps.length:=U;rw[C,f,kV];have H':gD t (bv t Gs) z=bv t Gs z:=by unfold gD;rw[aM bL]
   have Q:decide (bv t Gs z=bv t Gs z)=true:=dy rfl;refine O ?_;refine aL rfl (wM ((Y.ct 3 rfl) (Y.ct 4 rfl)) (B _ Y)) ?_;refine gZ ?_;clear Y;intro w' Y;rw[H'];refine O ?_
   try simp only[Q,rI];refine dI ?_
   refine O ?_;refine aL rfl (wM ((Y.ct 2 rfl) ((Y.ct 4 rfl).rev f)) (B _ Y)) ?_;refine gZ ?_;clear Y;intro w' Y;rw[H'];refine O ?_
   try simp only[Q,rI];refine dI ?_
   refine O ?_;exact⟨k+1,⟨rfl,az⟩,aU,⟨U,Y⟩,U⟩
  refine O ?_;refine aL rfl (HO (ps:=[]) (t:=t) (Gs:=[]) RS.nil dc I rfl (fun i hi=>absurd hi (dr _)) (.inl rfl)) ?_;refine gZ ?_;clear Y;intro w' Y
  repeat (first|refine du ?_|(refine fA ?_;clear Y;intro s w Y))
  obtain⟨A,rfl⟩:=À s;have Y:Z w0 w (X ap 36 A (ps.reverse.map Value.pointer++[Value.pointer none])::[aj W 3 R (ba t.vars),X ap 22 V os,aZ (fun w=>bG w ps.reverse t Gs.reverse->bK w S t (bv t Gs)),aZ (fun w=>bG w ps t Gs->bK w P t (bv t Gs)),aZ (fun w=>bG w ps t Gs),X ap 36 F (ps.map Value.pointer),ak pu 26 [a2,y,c2,d2],ak L 26 [a,b,c,d]]):=Y.aY;rw[show ps.reverse.map Value.pointer++[Value.pointer none]=(ps.reverse++[none]).map Value.pointer by simp]at Y;refine aL rfl (HO (ps:=ps.reverse++[none]) (t:=t) (Gs:=Gs.reverse++[fun _=>0]) (bk (s:=A) Y) (by simp;omega) I (by simp;omega) (((Y.ct 5 rfl).rev f).AO (by simp;omega)) (.inr sm)) ?_;refine jT ?_;clear Y;intro w' Y;refine aL rfl (FU (hu.at Y) _b) ?_;rintro _ w' ⟨px,rfl,al⟩;refine aI ?_;clear al Y;intro Y;replace Y:Z w0 w' [aZ (fun w=>bK w px u (bP u)),aj W 3 R (ba t.vars),X ap 22 V os,aZ (fun w=>bG w ps.reverse t Gs.reverse->bK w S t (bv t Gs)),aZ (fun w=>bG w ps t Gs->bK w P t (bv t Gs)),aZ (fun w=>bG w ps t Gs),X ap 36 F (ps.map Value.pointer),ak pu 26 [a2,y,c2,d2],ak L 26 [a,b,c,d]]:=Y.aY;refine O ?_;refine aL rfl (kT 3 3) ?_;refine gZ ?_;clear Y;intro w' Y;rw[show decide ((3:Int)≠0/\(3:Int)=3)=true by decide];refine O ?_;refine aL rfl (kT 3 3) ?_;refine gZ ?_;clear Y;intro w' Y;rw[show decide ((3:Int)≠0/\(3:Int)=3)=true by decide];refine O ?_;refine ya (T:=ap) [.pointer (some P),.pointer (some px)] [.pointer (some P),.pointer (some px)] rfl rfl rfl rfl rfl dc dc dc Y ?_
  clear Y;intro lv w Y;refine aL rfl (RP (H1:=bv t Gs) (H2:=bP u) (bk (s:=lv) Y) I ((Y.ct 5 rfl) (Y.ct 6 rfl)) (Y.ct 1 rfl)) ?_;rintro _ w' (⟨o,pz,rfl,al⟩|⟨o,rfl,al⟩)
  ·refine aA ?_;clear al Y;intro Y
   refine O ?_;refine aL rfl (Gw (D.at Y) (hu.at Y)) ?_;rintro _ w' ⟨⟨r,rfl,g⟩,al⟩;refine aA ?_;clear al Y;intro Y;obtain rfl:=g.2 o;refine O ?_;refine aL rfl (yP (Y.ct 1 rfl) (D.at Y)) ?_;rintro _ w' ⟨⟨r,rfl,g⟩,al⟩;refine aA ?_;clear al Y;intro Y;obtain rfl:=g.2 o.symm;refine O ?_;exact bf (v:=.bool true) rfl rfl ⟨rfl,gm Y⟩
  refine aA ?_;clear al Y;intro Y;refine O ?_;refine aL rfl (Gw (D.at Y) (hu.at Y)) ?_;rintro _ w' ⟨⟨r,rfl,g⟩,al⟩;refine aA ?_;clear al Y;intro Y;obtain rfl:r=false:=nG.2 fun h=>o (g.1 h);refine O ?_;refine aL rfl (kT 2 2) ?_;refine gZ ?_;clear Y;intro w' Y;rw[show decide ((2:Int)≠0/\(2:Int)=2)=true by decide];refine O ?_;refine aL rfl (yP (Y.ct 1 rfl) (D.at Y)) ?_;rintro _ w' ⟨⟨r,rfl,g⟩,al⟩;refine aA ?_;clear al Y;intro Y;obtain rfl:r=false:=nG.2 fun h=>o (g.1 h).symm;refine O ?_;refine aL rfl (yP ((Y.ct 5 rfl) (Y.ct 6 rfl)) (hu.at Y)) ?_;rintro _ w' ⟨⟨r,rfl,g⟩,al⟩;refine aA ?_;clear al Y;intro Y;obtain rfl:r=false:=nG.2 fun h=>o (g.1 h);refine O ?_;exact bf (v:=.bool true) rfl rfl ⟨rfl,gm Y⟩
 refine aI ?_;clear al Y;intro Y;refine nX ?_;clear Y;intro s w Y;have R':=yQ ps;refine q7 (s:=F) (s2:=s) inferInstance rfl rfl (bk Y) rfl rfl (fun x hx v hv=>by rw[dp.1 hv,dp.1 hx];rfl) (by simp only[length_cons,length_nil];omega) (by unfold bU;simp only[length_cons,length_nil];omega) Y ?_;clear Y;intro _f w Y;have e:(ps++[some pq]).map Value.pointer=ps.map Value.pointer++[Value.pointer (some pq)]:=by rw[oh];rfl
 have _g:Z w0 w [aZ (fun w=>bG w ps t Gs),aZ (fun w=>bK w pq t (lP t T)),X ap 36 _f ((ps++[some pq]).map Value.pointer),ak pu 26 [a2,y,c2,d2],ak L 26 [a,b,c,d]]:=by rw[e];exact Y.aY
 have V':=Z.rd (Δ:=[aZ (fun w=>bG w ps t Gs),aZ (fun w=>bK w pq t (lP t T))]) (φ:=fun w=>bG w (ps++[some pq]) t (Gs++[lP t T])) (fun _ w h=>(h.ct 0 rfl).eQ f (h.ct 1 rfl)) _g;obtain⟨qs,J'⟩:=À (ps++[some pq]);obtain⟨Ks,_a⟩:=À (Gs++[lP t T]);have _s:qs.length=Ks.length:=by rw[J',_a,length_append,length_append,f];rfl
 have _t:4<=qs.length:=by rw[J',length_append];omega
 have _l:qs.length<=8:=by rw[J',length_append,r6];omega
 rw[<-J',<-_a]at V';clear Y _g e R' f _c _j J' _a;have Y:=V';clear V';obtain⟨ps,_u⟩:=À qs;subst _u;obtain⟨Gs,_v⟩:=À Ks;subst _v;obtain⟨F,_w⟩:=À _f;subst _w;have f:=_s;have _c:=_t;have R':=yQ ps;replace Y:Z w0 w [X ap 36 F (ps.map Value.pointer),aZ (fun w=>bG w ps t Gs),ak pu 26 [a2,y,c2,d2],ak L 26 [a,b,c,d]]:=Y.aY;refine O ?_;refine dQ [10,11,70,80] (G:=Nat) (H:=Value) (fun K N=>[(11,E ((K:Int)-1)),(10,N)]) (fun K N w=>K<=ps.length/\Z w0 w [X ap 36 N ((ps.drop K).reverse.map Value.pointer),X ap 36 F (ps.map Value.pointer),aZ (fun w=>bG w ps t Gs),ak pu 26 [a2,y,c2,d2],ak L 26 [a,b,c,d]]) (fun K _=>K) (ps.map Value.pointer).length (nS) (fun _ _=>rfl) ⟨rfl,rfl,az⟩ ⟨U,by rw[pS U];exact Y.nil⟩ ?_;clear Y;rintro σ K N w ⟨hK,Y⟩;have _m:((ps.drop K).reverse.map Value.pointer).length<=64:=by rw[iz,tL,yD];omega
 refine aB ?_ ?_<;>intro g1
 ·obtain⟨k,rfl⟩:∃ k,K=k+1:=⟨K-1,U⟩
  have l:k<ps.length:=U;obtain⟨q,hq,_⟩:=(Y.ct 2 rfl) k l;have ek:(((k+1:Nat):Int)-1)=(k:Int):=U;rw[ek];refine O ?_;rw[yR ps l,hq]
  repeat (first|refine du ?_|(refine fA ?_;clear Y;intro s w Y))
  obtain⟨A,rfl⟩:=À s;have e:(ps.drop (k+1)).reverse.map Value.pointer++[Value.pointer (some q)]=(ps.drop k).reverse.map Value.pointer:=by
   rw[Bi none l,reverse_cons,oh,hq];rfl
  rw[e]at Y;exact⟨k,A,⟨rfl,rfl,az⟩,aU,⟨U,Y.aY⟩,U⟩
 have T':K=0:=U;rw[T',Bs]at Y;have _n:(ps.reverse.map Value.pointer).length=ps.length:=by rw[iz,tL]
 refine O ?_;refine aL rfl (HM (ps:=ps) (t:=t) (Gs:=Gs) (bk (s:=F) Y) U U I f (Y.ct 2 rfl)) ?_;rintro _ w' ⟨P,rfl,al⟩;refine aI ?_;clear al Y;intro Y;refine O ?_;refine aL rfl (HM (ps:=ps.reverse) (t:=t) (Gs:=Gs.reverse) (bk (s:=N) Y) (by rw[tL];omega) (by rw[tL];omega) I (by rw[tL,tL];exact f) ((Y.ct 3 rfl).rev f)) ?_;rintro _ w' ⟨S,rfl,al⟩;refine aI ?_;clear al Y;intro Y;rw[show bv t Gs.reverse=bv t Gs from funext fun s=>RQ fun H=>mem_reverse]at Y;refine O ?_;refine aL rfl (yP ((Y.ct 1 rfl) (Y.ct 4 rfl)) (D.at Y)) ?_;rintro _ w' ⟨⟨r,rfl,g⟩,al⟩;refine aA ?_;clear al Y;intro Y;obtain rfl:=g.2 rfl;refine O ?_;refine aL rfl (RR (D.at Y) hs) ?_;rintro _ w' ⟨V,os,R,Zs,rfl,hZ,_o,_p,al⟩;refine iM ?_;clear al Y;intro Y;have _e:=hZ.1;replace Y:Z w0 w' [aj W 3 R (ba t.vars),X ap 22 V os,aZ (fun w=>bG w ps.reverse t Gs.reverse->bK w S t (bv t Gs)),aZ (fun w=>bG w ps t Gs->bK w P t (bv t Gs)),aZ (fun w=>bG w ps t Gs),X ap 36 F (ps.map Value.pointer),X ap 36 N (ps.reverse.map Value.pointer),ak pu 26 [a2,y,c2,d2],ak L 26 [a,b,c,d]]:=Y.aY;refine O ?_;refine cP [6,6,17,18,20,20,106,134] (G:=Nat) (fun k=>[(106,E k)]) (fun k w=>k<=Zs.length/\Z w0 w [aj W 3 R (ba t.vars),X ap 22 V os,aZ (fun w=>bG w ps.reverse t Gs.reverse->bK w S t (bv t Gs)),aZ (fun w=>bG w ps t Gs->bK w P t (bv t Gs)),aZ (fun w=>bG w ps t Gs),X ap 36 F (ps.map Value.pointer),X ap 36 N (ps.reverse.map Value.pointer),ak pu 26 [a2,y,c2,d2],ak L 26 [a,b,c,d]]) (fun k=>Zs.length-k) 0 (fun _=>rfl) ⟨rfl,az⟩ ⟨bu _,Y⟩ ?_
 clear Y;rintro _q k w ⟨hk,Y⟩;refine aB ?_ ?_<;>intro g2
 ·have l:k<Zs.length:=U
  have bL:=hZ.ok I l;have B:∀ {Γ:List HP}(w:World),Z w0 w (aj W 3 R (ba t.vars)::Γ)->RS W w (cG os k) (Zs.getD k []):=fun w h=>hZ.rs D.cC h l;obtain⟨z,hz⟩:=À (Zs.getD k []);rw[<-hz]at bL B;refine O ?_;refine cP [18,18,20,20,112,121] (G:=Nat) (fun j=>[(112,E j),(18,E (bv t (Gs.take j) z))]) (fun j w=>j<=ps.length/\Z w0 w [aj W 3 R (ba t.vars),X ap 22 V os,aZ (fun w=>bG w ps.reverse t Gs.reverse->bK w S t (bv t Gs)),aZ (fun w=>bG w ps t Gs->bK w P t (bv t Gs)),aZ (fun w=>bG w ps t Gs),X ap 36 F (ps.map Value.pointer),X ap 36 N (ps.reverse.map Value.pointer),ak pu 26 [a2,y,c2,d2],ak L 26 [a,b,c,d]]) (fun j=>ps.length-j) 0 (fun _=>rfl) ⟨rfl,rfl,az⟩ ⟨bu _,Y⟩ ?_;clear Y;rintro _r j w ⟨hj,Y⟩;refine aB ?_ ?_<;>intro g3
  ·have C:j<ps.length:=U
   obtain⟨q,hq,hE⟩:=(Y.ct 4 rfl) j C;refine O ?_;rw[yR ps C,hq];refine O ?_;refine aL rfl (wM hE (B _ Y)) ?_;refine gZ ?_;clear Y;intro w' Y;have j':bv t (Gs.take (j+1)) z=max (bv t (Gs.take j) z) (gD t (Gs.getD j fun _=>0) z):=by rw[eC (fun _=>0) U,HQ]
   obtain⟨n,hn⟩:=À (gD t (Gs.getD j fun _=>0) z);obtain⟨m,hm⟩:=À (bv t (Gs.take j) z);rw[<-hn,<-hm]at j';rw[<-hn,<-hm];have e:(if n>m then n else m)=bv t (Gs.take (j+1)) z:=by rw[j'];split<;>omega
   refine O ?_;exact⟨j+1,⟨rfl,by rw[<-e];rfl,az⟩,aU,⟨U,Y⟩,U⟩
  have C:j=ps.length:=U;rw[C,f,kV];have H':gD t (bv t Gs) z=bv t Gs z:=by unfold gD;rw[aM bL]
  have Q:decide (bv t Gs z=bv t Gs z)=true:=dy rfl;refine O ?_;refine aL rfl (wM ((Y.ct 3 rfl) (Y.ct 4 rfl)) (B _ Y)) ?_;refine gZ ?_;clear Y;intro w' Y;rw[H'];refine O ?_
  try simp only[Q,rI];refine dI ?_
  refine O ?_;refine aL rfl (wM ((Y.ct 2 rfl) ((Y.ct 4 rfl).rev f)) (B _ Y)) ?_;refine gZ ?_;clear Y;intro w' Y;rw[H'];refine O ?_
  try simp only[Q,rI];refine dI ?_
  refine O ?_;exact⟨k+1,⟨rfl,az⟩,aU,⟨U,Y⟩,U⟩
 refine O ?_;refine aL rfl (HO (ps:=[]) (t:=t) (Gs:=[]) RS.nil dc I rfl (fun i hi=>absurd hi (dr _)) (.inl rfl)) ?_;refine gZ ?_;clear Y;intro w' Y
 repeat (first|refine du ?_|(refine fA ?_;clear Y;intro s w Y))
 obtain⟨A,rfl⟩:=À s;have Y:Z w0 w (X ap 36 A (ps.reverse.map Value.pointer++[Value.pointer none])::[aj W 3 R (ba t.vars),X ap 22 V os,aZ (fun w=>bG w ps.reverse t Gs.reverse->bK w S t (bv t Gs)),aZ (fun w=>bG w ps t Gs->bK w P t (bv t Gs)),aZ (fun w=>bG w ps t Gs),X ap 36 F (ps.map Value.pointer),ak pu 26 [a2,y,c2,d2],ak L 26 [a,b,c,d]]):=Y.aY;rw[show ps.reverse.map Value.pointer++[Value.pointer none]=(ps.reverse++[none]).map Value.pointer by simp]at Y;refine aL rfl (HO (ps:=ps.reverse++[none]) (t:=t) (Gs:=Gs.reverse++[fun _=>0]) (bk (s:=A) Y) (by simp;omega) I (by simp;omega) (((Y.ct 5 rfl).rev f).AO (by simp;omega)) (.inr sm)) ?_;refine jT ?_;clear Y;intro w' Y;refine aL rfl (FU (hu.at Y) _b) ?_;rintro _ w' ⟨px,rfl,al⟩;refine aI ?_;clear al Y;intro Y;replace Y:Z w0 w' [aZ (fun w=>bK w px u (bP u)),aj W 3 R (ba t.vars),X ap 22 V os,aZ (fun w=>bG w ps.reverse t Gs.reverse->bK w S t (bv t Gs)),aZ (fun w=>bG w ps t Gs->bK w P t (bv t Gs)),aZ (fun w=>bG w ps t Gs),X ap 36 F (ps.map Value.pointer),ak pu 26 [a2,y,c2,d2],ak L 26 [a,b,c,d]]:=Y.aY;refine O ?_;refine aL rfl (kT 3 3) ?_;refine gZ ?_;clear Y;intro w' Y;rw[show decide ((3:Int)≠0/\(3:Int)=3)=true by decide];refine O ?_;refine aL rfl (kT 3 3) ?_;refine gZ ?_;clear Y;intro w' Y;rw[show decide ((3:Int)≠0/\(3:Int)=3)=true by decide];refine O ?_;refine ya (T:=ap) [.pointer (some P),.pointer (some px)] [.pointer (some P),.pointer (some px)] rfl rfl rfl rfl rfl dc dc dc Y ?_
 clear Y;intro lv w Y;refine aL rfl (RP (H1:=bv t Gs) (H2:=bP u) (bk (s:=lv) Y) I ((Y.ct 5 rfl) (Y.ct 6 rfl)) (Y.ct 1 rfl)) ?_;rintro _ w' (⟨o,pz,rfl,al⟩|⟨o,rfl,al⟩)
 ·refine aA ?_;clear al Y;intro Y
  refine O ?_;refine aL rfl (Gw (D.at Y) (hu.at Y)) ?_;rintro _ w' ⟨⟨r,rfl,g⟩,al⟩;refine aA ?_;clear al Y;intro Y;obtain rfl:=g.2 o;refine O ?_;refine aL rfl (yP (Y.ct 1 rfl) (D.at Y)) ?_;rintro _ w' ⟨⟨r,rfl,g⟩,al⟩;refine aA ?_;clear al Y;intro Y;obtain rfl:=g.2 o.symm;refine O ?_;exact bf (v:=.bool true) rfl rfl ⟨rfl,gm Y⟩
 refine aA ?_;clear al Y;intro Y;refine O ?_;refine aL rfl (Gw (D.at Y) (hu.at Y)) ?_;rintro _ w' ⟨⟨r,rfl,g⟩,al⟩;refine aA ?_;clear al Y;intro Y;obtain rfl:r=false:=nG.2 fun h=>o (g.1 h);refine O ?_;refine aL rfl (kT 2 2) ?_;refine gZ ?_;clear Y;intro w' Y;rw[show decide ((2:Int)≠0/\(2:Int)=2)=true by decide];refine O ?_;refine aL rfl (yP (Y.ct 1 rfl) (D.at Y)) ?_;rintro _ w' ⟨⟨r,rfl,g⟩,al⟩;refine aA ?_;clear al Y;intro Y;obtain rfl:r=false:=nG.2 fun h=>o (g.1 h).symm;refine O ?_;refine aL rfl (yP ((Y.ct 5 rfl) (Y.ct 6 rfl)) (hu.at Y)) ?_;rintro _ w' ⟨⟨r,rfl,g⟩,al⟩;refine aA ?_;clear al Y;intro Y;obtain rfl:r=false:=nG.2 fun h=>o (g.1 h);refine O ?_;exact bf (v:=.bool true) rfl rfl ⟨rfl,gm Y⟩
end Go.Proofs.YtmapkjoefdgjfaaGreatDoor
