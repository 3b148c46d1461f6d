/- Several texts. -/
import Derived.Test.YtmapkjoefdgjfaaGreatDoorMW17
set_option linter.unusedSimpArgs false
set_option linter.unusedVariables false
set_option maxRecDepth 8000
set_option maxHeartbeats 16000000
open List Nat
namespace Go.Proofs.YtmapkjoefdgjfaaGreatDoor
section
open Go.Sl Go
attribute [local irreducible] vc opsW opsD opV opW PureV ReadV Thn Blk
theorem qhm {w0:World}{a b c d s:Value}{vs:List AK}{t:Aa}{ss:List Value}{Ls:List (List Int)}(ht:Am w0 a b c d vs t) (hl:Co w0 s ss Ls) (hT:Bp w0) :
  Calls Tryz.prog 81 #[.agg #[a,b,c,d],s] w0 fun e w' =>
   (eG t Ls≠0/\e=.returned (.tuple #[.slice none 0 0,bE (eG t Ls)])/\Sat w0 w' []) \/
   (eG t Ls=0/\32<Ls.length/\e=.returned (.tuple #[.slice none 0 0,bE 5])/\Sat w0 w' []) \/
   (eG t Ls=0/\Ls.length=0/\e=.returned (.tuple #[.slice none 0 0,.nilIface])/\Sat w0 w' []) \/
   (eG t Ls=0/\0<Ls.length/\Ls.length<=32/\A7 Ls.length (nN Ls.length (eB t Ls Ls.length))/\e=.returned (.tuple #[.slice none 0 0,bE 10])/\Sat w0 w' []) \/
   (eG t Ls=0/\0<Ls.length/\Ls.length<=32/\∃ fv fs Cs,e=.returned (.tuple #[fv,.nilIface])/\Di Cs/\Bh Ls.length (nN Ls.length (eB t Ls Ls.length)) Cs/\Cs.length<=4096/\Sat w0 w' [Ab aa 3 fs Cs,OS al 22 fv fs]):=by
 have mh:=hl.rs;have l6:=hl.len;have nO:=mh.bo;have hw:=Sat.start w0;refine bn (args:=[.agg #[a,b,c,d],s]) mixed Tryz.func81 ?_;refine db ?_;intro p w hw;obtain⟨pt,dO⟩:∃ pt,pt=p:=⟨p,rfl⟩
 subst dO;refine aJ rfl (qoX (ht.at hw) (hl.at hw)) ?_;rintro _ w' ⟨rfl,aj⟩;refine aC ?_;clear aj hw;intro hw;by_cases hk:eG t Ls=0;rotate_left
 ·rw[ep hk]
  refine ab ?_;exact dz (v:=.slice none 0 0) (v':=.iface 57 (.int .i64 (eG t Ls))) rfl rfl rfl (.inl ⟨hk,rfl,hw.aT⟩)
 rw[iy hk];refine ab ?_;refine ai ?_ ?_<;>intro ux
 ·refine ab ?_
  exact dz (v:=.slice none 0 0) (v':=.iface 57 (.int .i64 5)) rfl rfl rfl (.inr (.inl ⟨hk,by omega,by rw[ep (by decide)],hw.aT⟩))
 refine ab ?_;refine ai ?_ ?_<;>intro h0
 ·refine ab ?_
  exact dz (v:=.slice none 0 0) (v':=.nilIface) rfl rfl rfl (.inr (.inr (.inl ⟨hk,by omega,rfl,hw.aT⟩)))
 have yk:Ls.length<=32:=by omega
 have z8:0<Ls.length:=by omega
 refine ab ?_;have bb:Sat w0 w' [OS aU 181 (.slice none 0 0) (eB t Ls 0),Ad pt 26 [a,b,c,d]]:=hw.nil (T:=aU) (e:=181);clear hw;refine dj [7,10,26,49] (G:=Nat) (H:=Value) (fun i av=>[(26,.int .i64 i),(7,av)]) (fun i av w=>i<=Ls.length/\Sat w0 w [OS aU 181 av (eB t Ls i),Ad pt 26 [a,b,c,d]]) (fun i _=>Ls.length-i) 0 (.slice none 0 0) (fun _ _=>rfl) ⟨rfl,rfl,trivial⟩ ⟨zero_le _,bb⟩ ?_;clear bb;rintro σ i av w ⟨hi,hw⟩;refine ab ?_;refine ai ?_ ?_<;>intro h1
 ·have cI:i<Ls.length:=by omega
  have iP:=qi6 (t:=t) (Ls:=Ls) i om;refine ab ?_;have bb:Sat w0 w [OS aU 181 av (eB t Ls i++iA t Ls i 0),Ad pt 26 [a,b,c,d]]:=by rw[show iA t Ls i 0=[] from rfl,append_nil];exact hw
  clear hw;refine dj [7,7,10,10,32,48] (G:=Nat) (H:=Value) (fun k av=>[(32,.int .i64 k),(7,av)]) (fun k av w=>k<=i/\Sat w0 w [OS aU 181 av (eB t Ls i++iA t Ls i k),Ad pt 26 [a,b,c,d]]) (fun k _=>i-k) 0 av (fun _ _=>rfl) ⟨rfl,rfl,trivial⟩ ⟨zero_le _,bb⟩ ?_;clear bb;rintro σ1 k av1 w ⟨j7,hw⟩;refine ab ?_;refine ai ?_ ?_<;>intro h2
  ·have wR:k<i:=by omega
   have iI:=qi5 (t:=t) (Ls:=Ls) (i:=i) k;have aK:k<Ls.length:=by omega
   refine ab ?_;refine fP (pl [0,1,2,3,4,5,6] []) hw kr ?_;clear hw;intro w hw;refine ab ?_;have uw:(eB t Ls i++iA t Ls i k).length<=4096:=by rw[length_append];omega
   refine aJ rfl (qjs (ht.at hw) ((hl.at_ i cI).at hw) ((hl.at_ k aK).at hw)) ?_;rintro _ w' ⟨⟨r,rfl,hr⟩,aj⟩;refine aC ?_;clear aj hw;intro hw;cases r
   ·refine ab ?_
    exact⟨k+1,av1,⟨rfl,rfl,trivial⟩,aH,⟨by omega,by rw[qi3 (fun h=>by have:=hr.2 h;cases this)];exact hw⟩,by omega⟩
   ·refine ab ?_
    refine jh aU (x1:=⟨(k:Int),(i:Int),1⟩) rfl rfl rfl (le_of_ble_eq_true rfl) (zero_lt_succ _) hw ?_;clear hw;intro bs w hw
    refine rT (s:=av1) (s2:=bs) inferInstance rfl rfl (aM hw) rfl rfl (fun y hy v hv=>by
     rw[mem_singleton.1 hy]at hv;simp only[aU,mem_cons,not_mem_nil,or_false]at hv
     rcases hv with rfl|rfl|rfl<;>rfl) (by simp only[length_cons,length_nil];omega) (by unfold bo;simp only[length_cons,length_nil];omega) hw ?_
    clear hw;intro s' w hw;refine ab ?_;refine⟨k+1,s',⟨rfl,rfl,trivial⟩,aH,⟨by omega,?_⟩,by omega⟩;rw[qlI (hr.1 rfl),<-append_assoc];exact hw.tail
  ·have cH:k=i:=by omega
   subst cH;rw[qqF]at hw;refine ab ?_;exact⟨k+1,av1,⟨rfl,rfl,trivial⟩,aH,⟨by omega,hw⟩,by omega⟩
 ·have iJ:i=Ls.length:=by omega
  subst iJ;have hck:=qok (t:=t) (Ls:=Ls) yk;refine ab ?_;obtain⟨z,hz⟩:∃ z:Nat,z=Ls.length:=⟨_,rfl⟩
  rw[<-hz]at hck hw;refine aJ rfl (qkS (n:=(ss.length:Int)) (a:=av) (arcs:=eB t Ls z) (aM hw) (hT.at hw)) ?_;rw[l6,<-hz];rintro _ w' hR;rw[Int.toNat_natCast]at hR;rw[hz]at hR hck hw ⊢;clear hz;rcases hR with ⟨hc,_⟩|⟨_,ux,_⟩|⟨_,hz,_⟩|⟨_,h0,_,hF,rfl,aj⟩|⟨_,h0,_,fv,fs,Cs,rfl,uX,eN,uY,aj⟩
  ·exact absurd hck hc
  ·exfalso;omega
  ·exfalso;omega
  ·replace hw:=hw.bz aj
   clear aj;refine⟨_,rfl,?_⟩;refine ab ?_;exact dz (v:=.slice none 0 0) (v':=bE 10) rfl rfl rfl (.inr (.inr (.inr (.inl ⟨hk,z8,yk,hF,rfl,hw.aT⟩))))
  ·replace hw:=hw.call2 aj
   clear aj;refine⟨_,rfl,?_⟩;refine ab ?_;exact dz (v:=fv) (v':=.nilIface) rfl rfl rfl (.inr (.inr (.inr (.inr ⟨hk,z8,yk,fv,fs,Cs,rfl,uX,eN,uY,hw.aT⟩))))
end
section
open Go.Sl
def im {α:Type}(g:Nat->List α) (lo hi:Nat):List α:=(range' lo (hi-lo)).flatMap g
theorem ry {α:Type}{g:Nat->List α}{lo hi:Nat}(h:hi<=lo):im g lo hi=[]:=by
 unfold im;rw[show hi-lo=0 by omega];rfl
theorem np {α:Type}{g:Nat->List α}{lo hi:Nat}(h:lo<=hi):im g lo (hi+1)=im g lo hi++g hi:=by
 unfold im;rw[show hi+1-lo=hi-lo+1 by omega,range'_concat,flatMap_append];simp[show lo+(hi-lo)=hi by omega]
theorem qgF {α:Type}{g:Nat->List α}{lo hi:Nat}{x:α}:x∈im g lo hi↔∃ k,lo<=k/\k<hi/\x∈g k:=by
 unfold im;simp only[mem_flatMap,mem_range'_1];constructor
 ·rintro⟨k,hk,hx⟩;exact⟨k,hk.1,by omega,hx⟩
 ·rintro⟨k,h1,h2,hx⟩;exact⟨k,⟨h1,by omega⟩,hx⟩
theorem vY {α:Type}{g g':Nat->List α}{lo hi:Nat}(h:∀ k,lo<=k->k<hi->g k=g' k):im g lo hi=im g' lo hi:=by
 unfold im;have key:∀ l:List Nat,(∀ k∈l,g k=g' k)->l.flatMap g=l.flatMap g':=by
  intro l
  induction l with
  | nil=>intro _;rfl
  | cons x l ih=>intro hl;rw[flatMap_cons,flatMap_cons,hl x mem_cons_self,ih fun k hk=>hl k (mem_cons_of_mem _ hk)]
 exact key _ fun k hk=>by
  rw[mem_range'_1]at hk;exact h k hk.1 om
theorem qbV {α:Type}{g:Nat->List α}{lo hi:Nat}(p:α->Bool):(im g lo hi).filter p=im (fun k=>(g k).filter p) lo hi:=by
 unfold im;generalize range' lo (hi-lo)=l
 induction l with
 | nil=>rfl
 | cons x l ih=>rw[flatMap_cons,flatMap_cons,filter_append,ih]
theorem qd1 {α β:Type}{g:Nat->List α}{lo hi:Nat}(f:α->List β):(im g lo hi).flatMap f=im (fun k=>(g k).flatMap f) lo hi:=by
 unfold im;rw[flatMap_assoc]
theorem qlL {α:Type}{g:Nat->List α}{lo b:Nat}(hb:∀ k,(g k).length<=b):∀ {hi:Nat},(im g lo hi).length<=(hi-lo)*b
 | 0=>by rw[ry (zero_le _)];exact zero_le _
 | hi+1=>by
  by_cases h:lo<=hi
  ·have ih:=qlL (g:=g) (lo:=lo) hb (hi:=hi)
   have:=hb hi;rw[np h,length_append,show hi+1-lo=hi-lo+1 by omega,succ_mul];omega
  ·rw[ry om];exact zero_le _
def gu (l:List Fact) (u:Int):Prop:=∃ f∈l,f.var=u
def vZ (o:Bu) (u v:Int):Prop:=∃ e∈o.aw,e.var=v/\(gu o.pre u\/gu e.when u\/∃ d∈o.aw,d.var=u)
def nI (t:Aa) (u v:Int):Prop:=u≠v/\∃ op,op<t.ops.length/\vZ (t.ops.getD op aO) u v
def cG (t:Aa) (u v:Int):Prop:=nI t u v\/nI t v u
theorem cG.symm {t:Aa}{u v:Int}(h:cG t u v):cG t v u:=Or.symm h
def tt (t:Aa) (p:List Int):Prop:=∃ v∈p,∃ f∈t.goal,f.var=v
inductive CR (t:Aa) (p:List Int):Nat->Prop
 | base:CR t p 0
 | step {i j:Nat}:CR t p i->i<p.length->j<p.length->cG t (p.getD i aa.dflt) (p.getD j aa.dflt)->CR t p j
def re (t:Aa) (p:List Int):Prop:=∀ i,i<p.length->CR t p i
theorem qta {t:Aa}{a:Int}:re t [a]:=fun i hi=>by
 have:i=0:=by simpa using hi
 subst this;exact .base
theorem qtb {t:Aa}{a b:Int}:re t [a,b]↔cG t a b:=by
 constructor
 ·intro h
  have key:∀ j,CR t [a,b] j->j=1->cG t a b:=by
   intro j hj
   induction hj with
   | base=>intro h;cases h
   | @step i j _ hi hj hn ih =>
    intro hj1;subst hj1;have:i=0\/i=1:=by simp at hi;omega
    rcases this with rfl|rfl
    ·exact hn
    ·exact ih rfl
  exact key 1 (h 1 (by simp)) rfl
 ·intro h i hi
  have:i=0\/i=1:=by simp at hi;omega
  rcases this with rfl|rfl
  ·exact .base
  ·exact .step .base (by simp) (by simp) h
theorem qol {t:Aa}{a b c:Int}:re t [a,b,c]↔(cG t a b/\cG t b c)\/(cG t a b/\cG t a c)\/(cG t a c/\cG t b c):=by
 constructor
 ·intro h
  by_cases pC:cG t a b
  ·by_cases hbc:cG t b c
   ·exact .inl ⟨pC,hbc⟩
   ·by_cases x8:cG t a c
    ·exact .inr (.inl ⟨pC,x8⟩)
    ·exfalso
     have key:∀ j,CR t [a,b,c] j->j≠2:=by
      intro j hj
      induction hj with
      | base=>decide
      | @step i j _ hi hj hn ih =>
       rintro rfl;have:i=0\/i=1:=by simp at hi;omega
       rcases this with rfl|rfl
       ·exact x8 hn
       ·exact hbc hn
     exact key 2 (h 2 (by simp)) rfl
  ·by_cases x8:cG t a c
   ·by_cases hbc:cG t b c
    ·exact .inr (.inr ⟨x8,hbc⟩)
    ·exfalso
     have key:∀ j,CR t [a,b,c] j->j≠1:=by
      intro j hj
      induction hj with
      | base=>decide
      | @step i j _ hi hj hn ih =>
       rintro rfl;have:i=0\/i=2:=by simp at hi;omega
       rcases this with rfl|rfl
       ·exact pC hn
       ·exact hbc hn.symm
     exact key 1 (h 1 (by simp)) rfl
   ·exfalso
    have key:∀ j,CR t [a,b,c] j->j=0:=by
     intro j hj
     induction hj with
     | base=>rfl
     | @step i j _ hi hj hn ih =>
      subst ih;have:j=0\/j=1\/j=2:=by simp at hj;omega
      rcases this with rfl|rfl|rfl
      ·rfl
      ·exact absurd hn pC
      ·exact absurd hn x8
    have:=key 1 (h 1 (by simp));omega
 ·intro h i hi
  have:i=0\/i=1\/i=2:=by simp at hi;omega
  have s01:cG t a b->CR t [a,b,c] 1:=fun h=>.step .base (by simp) (by simp) h;have s02:cG t a c->CR t [a,b,c] 2:=fun h=>.step .base (by simp) (by simp) h;rcases this with rfl|rfl|rfl
  ·exact .base
  ·rcases h with h|h|h
   ·exact s01 h.1
   ·exact s01 h.1
   ·exact .step (s02 h.1) (by simp) (by simp) h.2.symm
  ·rcases h with h|h|h
   ·exact .step (s01 h.1) (by simp) (by simp) h.2
   ·exact s02 h.2
   ·exact s02 h.1
def km (t:Aa) (p:List Int):Prop:=tt t p/\re t p
open Classical in
noncomputable def rM (t:Aa) (p:List Int):List (List Int):=if km t p then [p] else []
theorem qqG {t:Aa}{p:List Int}(h:km t p):rM t p=[p]:=if_pos h
theorem qlM {t:Aa}{p:List Int}(h:¬km t p):rM t p=[]:=if_neg h
noncomputable def qV (t:Aa) (k:Nat):List (List Int):=im (fun a=>rM t [(a:Int)]) 0 k
noncomputable def rN (t:Aa) (a k:Nat):List (List Int):=im (fun b=>rM t [(a:Int),(b:Int)]) (a+1) k
noncomputable def qW (t:Aa) (n k:Nat):List (List Int):=im (fun a=>rN t a n) 0 k
noncomputable def sh (t:Aa) (a b k:Nat):List (List Int):=im (fun c=>rM t [(a:Int),(b:Int),(c:Int)]) (b+1) k
noncomputable def pV (t:Aa) (n a k:Nat):List (List Int):=im (fun b=>sh t a b n) (a+1) k
noncomputable def oR (t:Aa) (n k:Nat):List (List Int):=im (fun a=>pV t n a n) 0 k
def mO (p:List Int):Nat:=(p.getLastD (-1)+1).toNat
def grR (n:Nat) (p:List Int) (k:Nat):List (List Int):=im (fun v=>[p++[(v:Int)]]) (mO p) k
def ni (n:Nat):Nat->List (List Int)
 | 0=>[[]]
 | m+1=>(ni n m).flatMap fun p=>grR n p n
open Classical in
noncomputable def fY (t:Aa) (m:Nat):List (List Int):=(ni t.vars.length m).filter fun p=>decide (km t p)
noncomputable def dT (t:Aa) (k:Nat):List (List Int):=im (fun m=>fY t m) 1 (k+1)
theorem qqH (n:Nat):ni n 1=im (fun v=>[[(v:Int)]]) 0 n:=by
 show (ni n 0).flatMap _=_;rw[ni,flatMap_cons,flatMap_nil,append_nil];rfl
theorem qd2 (p:List Int) (a:Nat):mO (p++[(a:Int)])=a+1:=by
 unfold mO;rw[getLastD_concat];omega
theorem qom (a:Nat):mO [(a:Int)]=a+1:=qd2 [] a
theorem qon (a b:Nat):mO [(a:Int),(b:Int)]=b+1:=qd2 [(a:Int)] b
theorem qqI (n:Nat):ni n 2=im (fun a=>im (fun b=>[[(a:Int),(b:Int)]]) (a+1) n) 0 n:=by
 show (ni n 1).flatMap _=_;rw[qqH,qd1];refine vY fun a _ _=>?_;rw[flatMap_cons,flatMap_nil,append_nil];unfold grR;rw[qom];rfl
theorem qqJ (n:Nat):ni n 3=im (fun a=>im (fun b=>im (fun c=>[[(a:Int),(b:Int),(c:Int)]]) (b+1) n) (a+1) n) 0 n:=by
 show (ni n 2).flatMap _=_;rw[qqI,qd1];refine vY fun a _ _=>?_;rw[qd1];refine vY fun b _ _=>?_;rw[flatMap_cons,flatMap_nil,append_nil];unfold grR;rw[qon];rfl
open Classical in
theorem qgG (t:Aa) (p:List Int):([p]:List (List Int)).filter (fun p=>decide (km t p))=rM t p:=by
 unfold rM;by_cases h:km t p
 ·rw[if_pos h];simp[h]
 ·rw[if_neg h];simp[h]
theorem qi7 (t:Aa):fY t 1=qV t t.vars.length:=by
 unfold fY qV;rw[qqH,qbV];exact vY fun a _ _=>qgG t _
theorem qi8 (t:Aa):fY t 2=qW t t.vars.length t.vars.length:=by
 unfold fY qW rN;rw[qqI,qbV];refine vY fun a _ _=>?_;rw[qbV];exact vY fun b _ _=>qgG t _
theorem qe6 (t:Aa):fY t 3=oR t t.vars.length t.vars.length:=by
 unfold fY oR pV sh;rw[qqJ,qbV];refine vY fun a _ _=>?_;rw[qbV];refine vY fun b _ _=>?_;rw[qbV];exact vY fun c _ _=>qgG t _
theorem qtc (t:Aa):dT t 1=fY t 1:=by
 unfold dT;rw[np (by decide),ry (by decide),nil_append]
theorem qnk (t:Aa):dT t 2=fY t 1++fY t 2:=by
 unfold dT;rw[np (by decide),np (by decide),ry (by decide),nil_append]
theorem qoo (t:Aa):dT t 3=fY t 1++fY t 2++fY t 3:=by
 unfold dT;rw[np (by decide),np (by decide),np (by decide),ry (by decide),nil_append]
theorem qqK:∀ n,n<13->(ni n 1).length<=12/\(ni n 2).length<=66/\(ni n 3).length<=220:=by decide +kernel
theorem qdC {t:Aa}(m:Nat):(fY t m).length<=(ni t.vars.length m).length:=length_filter_le _ _
theorem qgH {t:Aa}(hn:t.vars.length<=12):(fY t 1).length<=12/\(fY t 2).length<=66/\(fY t 3).length<=220:=by
 have h:=qqK t.vars.length om;have h1:=qdC (t:=t) 1;have h2:=qdC (t:=t) 2;have h3:=qdC (t:=t) 3;exact⟨by omega,by omega,by omega⟩
theorem qdD {α:Type}{g:Nat->List α}{lo hi eO:Nat}(h:hi<=eO):(im g lo hi).length<=(im g lo eO).length:=by
 induction eO with
 | zero=>rw[show hi=0 by omega];exact Nat.le_refl _
 | succ m ih =>
  by_cases e:hi=m+1
  ·rw[e];exact Nat.le_refl _
  ·have:=ih om
   by_cases hl:lo<=m
   ·rw[np hl,length_append];omega
   ·rw[ry om];exact zero_le _
theorem qi9 {α:Type}{g:Nat->List α}{lo a hi:Nat}(h0:lo<=a) (h:a<hi):(im g lo a).length+(g a).length<=(im g lo hi).length:=by
 have:=qdD (g:=g) (lo:=lo) (show a+1<=hi from h);rw[np h0,length_append]at this;exact this
theorem qqL {t:Aa}(hn:t.vars.length<=12) {k:Nat}(hk:k<=t.vars.length):(qV t k).length<=12:=by
 have:=(qgH hn).1;rw[qi7]at this;have:=qdD (g:=fun a=>rM t [(a:Int)]) (lo:=0) hk;unfold qV at *
 omega
theorem qt9 {t:Aa}(hn:t.vars.length<=12) {a b:Nat}(ha:a<t.vars.length) (hb:b<=t.vars.length):(qW t t.vars.length a).length+(rN t a b).length<=66:=by
 have h:=(qgH hn).2.1;rw[qi8]at h;have h1:=qi9 (g:=fun a=>rN t a t.vars.length) (lo:=0) (zero_le a) ha;have h2:=qdD (g:=fun b=>rM t [(a:Int),(b:Int)]) (lo:=a+1) hb;unfold qW at *
 unfold rN at *
 omega
theorem qwc {t:Aa}(hn:t.vars.length<=12) {a b c:Nat}(ha:a<t.vars.length) (pC:a+1<=b) (hb:b<t.vars.length) (hc:c<=t.vars.length):(oR t t.vars.length a).length+(pV t t.vars.length a b).length+(sh t a b c).length<=220:=by
 have h:=(qgH hn).2.2;rw[qe6]at h;have h1:=qi9 (g:=fun a=>pV t t.vars.length a t.vars.length) (lo:=0) (zero_le a) ha;have h2:=qi9 (g:=fun b=>sh t a b t.vars.length) (lo:=a+1) pC hb;have h3:=qdD (g:=fun c=>rM t [(a:Int),(b:Int),(c:Int)]) (lo:=b+1) hc;unfold oR at *
 unfold pV at *
 unfold sh at *
 omega
structure MI (M:List (List Bool)) (n:Nat) (Q:Nat->Nat->Prop):Prop where
 len:M.length=n
 row:∀ v,v<n->(M.getD v []).length=n
 at_:∀ v u,v<n->u<n->((M.getD v []).getD u false=true↔Q v u)
def iV (M:List (List Bool)) (v u:Nat) (b:Bool):List (List Bool):=M.set v ((M.getD v []).set u b)
theorem zq {α:Type}{l:List α}{i j:Nat}{x d:α}:(l.set i x).getD j d=if i=j/\j<l.length then x else l.getD j d:=by
 simp only[List.getD,getElem?_set];by_cases h:i=j
 ·subst h
  by_cases h2:i<l.length
  ·simp[h2]
  ·simp[h2]
 ·simp[h]
theorem MI.congr {M:List (List Bool)}{n:Nat}{Q Q':Nat->Nat->Prop}(h:MI M n Q) (e:∀ v u,v<n->u<n->(Q v u↔Q' v u)):MI M n Q':=⟨h.len,h.row,fun v u hv hu=>(h.at_ v u hv hu).trans (e v u hv hu)⟩
theorem MI.rK {M:List (List Bool)}{n:Nat}{Q:Nat->Nat->Prop}(h:MI M n Q) {v u:Nat}(hv:v<n) (hu:u<n):MI (iV M v u true) n (fun x y=>Q x y\/(x=v/\y=u)):=by
 refine⟨by simp[iV,h.len],fun x hx=>?_,fun x y hx hy=>?_⟩
 ·rw[iV,zq]
  split
  ·rw[length_set];exact h.row v hv
  ·exact h.row x hx
 ·rw[iV,zq]
  by_cases e:v=x
  ·subst e
   rw[if_pos ⟨rfl,by rw[h.len];exact hv⟩,zq];by_cases e2:u=y
   ·subst e2
    rw[if_pos ⟨rfl,by rw[h.row v hv];exact hu⟩];simp
   ·rw[if_neg (by simp[e2]),h.at_ v y hv hy]
    exact⟨.inl,fun hh=>hh.elim id fun hh=>absurd hh.2.symm e2⟩
  ·rw[if_neg (by simp[e]),h.at_ x y hx hy]
   exact⟨.inl,fun hh=>hh.elim id fun hh=>absurd hh.1.symm e⟩
theorem MI.qzi {M:List (List Bool)}{n:Nat}{Q:Nat->Nat->Prop}(h:MI M n Q) {v u:Nat}(hv:v<n) (hu:u<n):MI (iV M v u false) n (fun x y=>Q x y/\¬(x=v/\y=u)):=by
 refine⟨by simp[iV,h.len],fun x hx=>?_,fun x y hx hy=>?_⟩
 ·rw[iV,zq]
  split
  ·rw[length_set];exact h.row v hv
  ·exact h.row x hx
 ·rw[iV,zq]
  by_cases e:v=x
  ·subst e
   rw[if_pos ⟨rfl,by rw[h.len];exact hv⟩,zq];by_cases e2:u=y
   ·subst e2
    rw[if_pos ⟨rfl,by rw[h.row v hv];exact hu⟩];simp
   ·rw[if_neg (by simp[e2]),h.at_ v y hv hy]
    exact⟨fun hh=>⟨hh,fun hh=>e2 hh.2.symm⟩,fun hh=>hh.1⟩
  ·rw[if_neg (by simp[e]),h.at_ x y hx hy]
   exact⟨fun hh=>⟨hh,fun hh=>e hh.1.symm⟩,fun hh=>hh.1⟩
theorem MI.rep (n:Nat):MI (replicate n (replicate n false)) n (fun _ _=>False):=by
 refine⟨length_replicate,fun v hv=>?_,fun v u hv hu=>?_⟩
 ·have e:(replicate n (replicate n false)).getD v []=replicate n false:=by rw[getD_eq_getElem?_getD,getElem?_replicate,if_pos hv];rfl
  rw[e,length_replicate]
 ·have e:(replicate n (replicate n false)).getD v []=replicate n false:=by rw[getD_eq_getElem?_getD,getElem?_replicate,if_pos hv];rfl
  rw[e];simp[getD_eq_getElem?_getD,getElem?_replicate,hu]
def oQ (n k:Nat):List (List Bool):=(List.range n).map fun i=>if i<k then replicate n false else []
theorem qqM (n k:Nat):(oQ n k).length=n:=by simp[oQ]
theorem qnl (n:Nat):oQ n 0=replicate n []:=by
 apply ext_getElem (by simp[oQ]);intro i h1 h2;simp[oQ]
theorem qqN (n:Nat):oQ n n=replicate n (replicate n false):=by
 apply ext_getElem (by simp[oQ]);intro i h1 h2;have:i<n:=by simpa [oQ] using h1
 simp[oQ,this]
theorem qqO {n k:Nat}:(oQ n k).set k (replicate n false)=oQ n (k+1):=by
 apply ext_getElem (by simp[oQ]);intro i h1 h2;rw[getElem_set];simp only[oQ,getElem_map,getElem_range];split
 ·rename_i e;subst e;rw[if_pos om]
 ·by_cases h:i<k
  ·rw[if_pos h,if_pos om]
  ·rw[if_neg h,if_neg om]
structure VI (L:List Bool) (n:Nat) (Q:Nat->Prop):Prop where
 len:L.length=n
 at_:∀ u,u<n->(L.getD u false=true↔Q u)
theorem VI.rep (n:Nat):VI (replicate n false) n (fun _=>False):=⟨length_replicate,fun u hu=>by simp[getD_eq_getElem?_getD,getElem?_replicate,hu]⟩
theorem VI.congr {L:List Bool}{n:Nat}{Q Q':Nat->Prop}(h:VI L n Q) (e:∀ u,u<n->(Q u↔Q' u)):VI L n Q':=⟨h.len,fun u hu=>(h.at_ u hu).trans (e u hu)⟩
theorem VI.rK {L:List Bool}{n:Nat}{Q:Nat->Prop}(h:VI L n Q) {u:Nat}(hu:u<n):VI (L.set u true) n (fun y=>Q y\/y=u):=by
 refine⟨by rw[length_set];exact h.len,fun y hy=>?_⟩;rw[zq];by_cases e:u=y
 ·subst e
  rw[if_pos ⟨rfl,by rw[h.len];exact hu⟩];simp
 ·rw[if_neg (by simp[e]),h.at_ y hy]
  exact⟨.inl,fun hh=>hh.elim id fun hh=>absurd hh.symm e⟩
noncomputable def dI (t:Aa) (u k:Nat):List Bl:=open Classical in im (fun v=>if nI t (u:Int) (v:Int) then [⟨(u:Int),(v:Int),1⟩] else []) 0 k
noncomputable def aP (t:Aa) (k:Nat):List Bl:=im (fun u=>dI t u t.vars.length) 0 k
theorem qdE {t:Aa}{a:Bl}:a∈aP t t.vars.length↔∃ u v:Nat,u<t.vars.length/\v<t.vars.length/\nI t (u:Int) (v:Int)/\a=⟨(u:Int),(v:Int),1⟩:=by
 unfold aP dI;rw[qgF];constructor
 ·rintro⟨u,_,hu,h⟩
  obtain⟨v,_,hv,h⟩:=qgF.1 h;split at h
  ·rename_i hh;exact⟨u,v,hu,hv,hh,mem_singleton.1 h⟩
  ·simp at h
 ·rintro⟨u,v,hu,hv,hh,rfl⟩
  exact⟨u,zero_le _,hu,qgF.2 ⟨v,zero_le _,hv,by rw[if_pos hh];exact mem_singleton_self _⟩⟩
theorem qhU (t:Aa) (u k:Nat):(dI t u k).length<=k:=by
 have:=qlL (g:=fun v=>open Classical in if nI t (u:Int) (v:Int) then [(⟨(u:Int),(v:Int),1⟩:Bl)] else []) (lo:=0) (b:=1) (fun k=>by split<;>simp) (hi:=k);unfold dI;omega
theorem qhV (t:Aa) (k:Nat):(aP t k).length<=k*t.vars.length:=by
 have:=qlL (g:=fun u=>dI t u t.vars.length) (lo:=0) (b:=t.vars.length) (fun u=>qhU t u _) (hi:=k);unfold aP;exact this
end
section
open Go.Sl Go
attribute [local irreducible] vc opsW opsD opV opW PureV ReadV Thn Blk
def mw (t:Aa) (k:Nat) (v u:Nat):Prop:=∃ op,op<k/\vZ (t.ops.getD op aO) (u:Int) (v:Int)
def oZ (o:Bu) (j:Nat) (v u:Nat):Prop:=∃ i,i<j/\(o.aw.getD i ba).var=v/\(gu o.pre u\/gu (o.aw.getD i ba).when u\/∃ d∈o.aw,d.var=u)
theorem qq8 {t:Aa}{k v u:Nat}:mw t (k+1) v u↔mw t k v u\/vZ (t.ops.getD k aO) (u:Int) (v:Int):=yL
theorem qq9 {o:Bu}{j v u:Nat}:oZ o (j+1) v u↔oZ o j v u\/((o.aw.getD j ba).var=v/\(gu o.pre u\/gu (o.aw.getD j ba).when u\/∃ d∈o.aw,d.var=u)):=yL
theorem qtn {o:Bu}{v u:Nat}:oZ o o.aw.length v u↔vZ o u v:=by
 constructor
 ·rintro⟨i,hi,h1,h2⟩
  exact⟨_,bY ba hi,h1,h2⟩
 ·rintro⟨e,he,h1,h2⟩
  obtain⟨i,hi,rfl⟩:=getElem_of_mem he;exact⟨i,hi,by rw[getD_at hi];exact⟨h1,h2⟩⟩
theorem qra {l:List Fact}{u:Int}:gu l u↔∃ i,i<l.length/\(l.getD i aq.dflt).var=u:=by
 constructor
 ·rintro⟨f,hf,e⟩
  obtain⟨i,hi,rfl⟩:=getElem_of_mem hf;exact⟨i,hi,by rw[getD_at hi];exact e⟩
 ·rintro⟨i,hi,e⟩
  exact⟨_,bY aq.dflt hi,e⟩
theorem qvC {l:List BD}{u:Int}:(∃ d∈l,d.var=u)↔∃ i,i<l.length/\(l.getD i ba).var=u:=by
 constructor
 ·rintro⟨f,hf,e⟩
  obtain⟨i,hi,rfl⟩:=getElem_of_mem hf;exact⟨i,hi,by rw[getD_at hi];exact e⟩
 ·rintro⟨i,hi,e⟩
  exact⟨_,bY ba hi,e⟩
theorem qrb {B E L F:Prop}:(B\/(E/\L))\/(E/\F)↔B\/(E/\(L\/F)) :=
 ⟨fun h=>h.elim (fun h=>h.elim .inl fun h=>.inr ⟨h.1,.inl h.2⟩) fun h=>.inr ⟨h.1,.inr h.2⟩,fun h=>h.elim (fun h=>.inl (.inl h)) fun⟨h1,h2⟩=>h2.elim (fun h=>.inl (.inr ⟨h1,h⟩)) fun h=>.inr ⟨h1,h⟩⟩
theorem qto {K D E E' P W X:Prop}(e:E↔E'):((K\/D)\/(E/\(P\/W)))\/(E/\X)↔K\/D\/(E'/\(P\/W\/X)):=by
 rw[qrb,or_assoc,<-e,or_assoc]
theorem qk5 {w0:World}{a b c d:Value}{vs:List AK}{t:Aa}(ht:Am w0 a b c d vs t) (hg:Af t) :
  Calls Tryz.prog 134 #[.agg #[a,b,c,d]] w0 fun e w'=>∃ out ss M,e=.returned out/\MI M t.vars.length (fun v u=>nI t (u:Int) (v:Int))/\Sat w0 w' [Ab ah 4 ss M,OS al 140 out ss]:=by
 obtain⟨ha,hb,hc,hd⟩:=ht;have jx:=hd.rs;have jZ:=hd.len;have uE:=jx.bo;have ru:=ha.bo;have hV:=hg.vars;have hw:=Sat.start w0;refine bn (args:=[.agg #[a,b,c,d]]) mixed Tryz.func134 ?_
 repeat (first|refine bV ?_|(refine dK ?_;clear hw;intro p w hw)|(refine cB ?_;clear hw;intro s w hw))
 obtain⟨pt,dO⟩:∃ pt,pt=p:=⟨p,rfl⟩
 subst dO;obtain⟨out,pK⟩:∃ out,out=s:=⟨s,rfl⟩
 subst pK;have hw:=hw.fu (T:=ah) (e:=4) t.vars.length;rw[<-qnl]at hw;obtain⟨ss,jX⟩:∃ ss,ss=replicate t.vars.length (Value.slice none 0 0):=⟨_,rfl⟩
 have iL:ss.length=t.vars.length:=by rw[jX];simp
 have bb:Sat w0 w [Ab ah 4 ss (oQ t.vars.length 0),OS al 140 out ss,Ad pt 26 [a,b,c,d]]:=by rw[jX];exact hw
 clear hw jX;have hl0:(replicate (↑t.vars.length:Int).toNat (Value.slice none 0 0)).length=t.vars.length:=by simp
 refine dj [4,4,22,32] (G:=Nat) (H:=List Value) (fun k _=>[(22,.int .i64 k)]) (fun k ss w=>k<=t.vars.length/\ss.length=t.vars.length/\Sat w0 w [Ab ah 4 ss (oQ t.vars.length k),OS al 140 out ss,Ad pt 26 [a,b,c,d]]) (fun k _=>t.vars.length-k) 0 ss (fun _ _=>rfl) ⟨rfl,trivial⟩ ⟨zero_le _,iL,bb⟩ ?_;clear bb iL ss;rintro σ k ss w ⟨hk,iL,hw⟩;refine ab ?_;refine ai ?_ ?_<;>intro h1
 ·refine kq ?_;clear hw;intro s w hw
  replace hw:=Sat.pT (i:=k) (by rw[qqM];omega) hw;rw[Int.toNat_natCast,qqO]at hw;exact⟨k+1,_,⟨rfl,trivial⟩,aH,⟨by omega,by rw[length_set];exact iL,hw⟩,by omega⟩
 have cH:k=t.vars.length:=by omega
 subst cH;rw[qqN]at hw;refine ab ?_;clear hl0 h1;refine dj [6,6,8,8,10,10,12,12,14,14,36,90] (G:=Nat) (H:=List (List Bool)) (fun k _=>[(36,.int .i64 k)]) (fun k M w=>k<=t.ops.length/\MI M t.vars.length (mw t k)/\Sat w0 w [Ab ah 4 ss M,OS al 140 out ss,Ad pt 26 [a,b,c,d]]) (fun k _=>t.ops.length-k) 0 _ (fun _ _=>rfl) ⟨rfl,trivial⟩ ⟨zero_le _,(MI.rep t.vars.length).congr fun v u _ _=>⟨False.elim,fun⟨op,h,_⟩=>absurd h (not_lt_zero _)⟩,hw⟩ ?_;clear hw hk;rintro σ k M w ⟨hk,hM,hw⟩;refine ab ?_;refine ai ?_ ?_<;>intro h1
 ·have aK:k<t.ops.length:=by omega
  have bW:=hd.at_ k aK;have hone:=bW.one;have zr:=hg.op k aK;have aN:=bW.pre;have xF:=aN.bo;obtain⟨es,eE⟩:=bW.aw;have tI:=eE.rs;have tB:=eE.len;have wc:=tI.bo;refine db ?_;clear hw;intro p w hw;obtain⟨po,nQ⟩:∃ po,po=p:=⟨p,rfl⟩
  subst nQ;have bb:Sat w0 w [Ab ah 4 ss M,OS al 140 out ss,Ad po 44 (bJ.enc (az bJ vs k)),Ad pt 26 [a,b,c,d]]:=hw.aT;clear hw;refine dj [8,8,10,10,12,12,14,14,43,89] (G:=Nat) (H:=List (List Bool)) (fun j _=>[(43,.int .i64 j)]) (fun j M w=>j<=(t.ops.getD k aO).aw.length/\MI M t.vars.length (fun v u=>mw t k v u\/oZ (t.ops.getD k aO) j v u)/\Sat w0 w [Ab ah 4 ss M,OS al 140 out ss,Ad po 44 (bJ.enc (az bJ vs k)),Ad pt 26 [a,b,c,d]]) (fun j _=>(t.ops.getD k aO).aw.length-j) 0 M (fun _ _=>rfl) ⟨rfl,trivial⟩ ⟨zero_le _,hM.congr fun v u _ _=>⟨.inl,fun h=>h.elim id fun⟨i,h,_⟩=>absurd h (not_lt_zero _)⟩,bb⟩ ?_;clear bb hM M;rintro σ1 j M w ⟨hj,hM,hw⟩;refine ab ?_;refine ai ?_ ?_<;>intro h2
  ·have cJ:j<(t.ops.getD k aO).aw.length:=by omega
   have hee:=eE.at_ j cJ;have heo:=hee.one;have nS:=hee.var;have nR:=hee.when;have qxu:=nR.bo;have hwo:=nR.one;have nQ:=aN.one;have vT:=zr.dL j cJ;have hEr:=qB vT;refine db ?_;clear hw;intro p w hw;obtain⟨pe,qZ⟩:∃ pe,pe=p:=⟨p,rfl⟩
   subst qZ
   repeat refine bV ?_
   have c1:=aN.dc;have c2:=nR.dc;have z1:(az bJ vs k).pre.cells.size=1:=by have:=congrArg List.length c1;simpa using this
   have z2:(az aR es j).when.cells.size=1:=by have:=congrArg List.length c2;simpa using this
   refine qa6 (T:=al) [(az bJ vs k).pre,(az aR es j).when] [(az bJ vs k).pre,(az aR es j).when] rfl (by simp[c1,c2,al]) (by simp[z1,z2]) rfl rfl (le_of_ble_eq_true rfl) (zero_lt_succ _) (le_of_ble_eq_true rfl) hw ?_;clear hw;intro ls w hw;refine ab ?_;have bb:Sat w0 w [Ab ah 4 ss M,OS al 140 out ss,OS al 23 ls [(az bJ vs k).pre,(az aR es j).when],Ad pe 61 (aR.enc (az aR es j)),Ad po 44 (bJ.enc (az bJ vs k)),Ad pt 26 [a,b,c,d]]:=hw.aT;clear hw;obtain⟨ev,qzn⟩:∃ ev:Nat,((t.ops.getD k aO).aw.getD j ba).var=(ev:Int):=⟨((t.ops.getD k aO).aw.getD j ba).var.toNat,by omega⟩
   have we:ev<t.vars.length:=by omega
   refine dj [10,10,12,12,53,72] (G:=Nat) (H:=List (List Bool)) (fun m _=>[(53,.int .i64 m)]) (fun m M w=>m<=2/\MI M t.vars.length (fun v u=>(mw t k v u\/oZ (t.ops.getD k aO) j v u)\/(v=ev/\((0<m/\gu (t.ops.getD k aO).pre (u:Int))\/(1<m/\gu ((t.ops.getD k aO).aw.getD j ba).when (u:Int)))))/\Sat w0 w [Ab ah 4 ss M,OS al 140 out ss,OS al 23 ls [(az bJ vs k).pre,(az aR es j).when],Ad pe 61 (aR.enc (az aR es j)),Ad po 44 (bJ.enc (az bJ vs k)),Ad pt 26 [a,b,c,d]]) (fun m _=>2-m) 0 M (fun _ _=>rfl) ⟨rfl,trivial⟩ ⟨zero_le _,hM.congr fun v u _ _=>⟨.inl,fun h=>h.elim id fun hh=>hh.2.elim (fun h=>absurd h.1 (not_lt_zero _)) fun h=>absurd h.1 (not_lt_zero _)⟩,bb⟩ ?_;clear bb hM M;rintro σ2 m M w ⟨hm,hM,hw⟩;refine ab ?_;refine ai ?_ ?_<;>intro h3
   ·have j6:m<2:=by simp at h3;omega
    obtain⟨fl,fv,nq,ot,gY⟩:∃ fl fv,cU [(az bJ vs k).pre,(az aR es j).when] m=fv/\RS aq w0 fv fl/\(∀ x∈fl,Ao t.vars x)/\∀ u:Nat,(((0<m+1/\gu (t.ops.getD k aO).pre (u:Int))\/(1<m+1/\gu ((t.ops.getD k aO).aw.getD j ba).when (u:Int)))↔(((0<m/\gu (t.ops.getD k aO).pre (u:Int))\/(1<m/\gu ((t.ops.getD k aO).aw.getD j ba).when (u:Int))))\/gu fl u):=by
     have:m=0\/m=1:=by omega
     rcases this with rfl|rfl
     ·exact⟨(t.ops.getD k aO).pre,_,by rw[ng];rfl,aN,vF zr.pre,fun u=>by simp⟩
     ·exact⟨((t.ops.getD k aO).aw.getD j ba).when,_,by rw[ng];rfl,nR,vF vT.1,fun u=>by simp⟩
    have qzX:=ot.bo;refine ab ?_;rw[nq];obtain⟨hfm,gY⟩:=gY;refine ab ?_;refine dj [12,12,59,71] (G:=Nat) (H:=List (List Bool)) (fun i _=>[(59,.int .i64 i)]) (fun i M w=>i<=fl.length/\MI M t.vars.length (fun v u=>((mw t k v u\/oZ (t.ops.getD k aO) j v u)\/(v=ev/\((0<m/\gu (t.ops.getD k aO).pre (u:Int))\/(1<m/\gu ((t.ops.getD k aO).aw.getD j ba).when (u:Int)))))\/(v=ev/\∃ i',i'<i/\(fl.getD i' aq.dflt).var=(u:Int)))/\Sat w0 w [Ab ah 4 ss M,OS al 140 out ss,OS al 23 ls [(az bJ vs k).pre,(az aR es j).when],Ad pe 61 (aR.enc (az aR es j)),Ad po 44 (bJ.enc (az bJ vs k)),Ad pt 26 [a,b,c,d]]) (fun i _=>fl.length-i) 0 M (fun _ _=>rfl) ⟨rfl,trivial⟩ ⟨zero_le _,hM.congr fun v u _ _=>⟨.inl,fun h=>h.elim id fun⟨_,i',h,_⟩=>absurd h (not_lt_zero _)⟩,hw⟩ ?_;clear hw hM M;rintro σ3 i M w ⟨hi,hM,hw⟩;refine ab ?_;refine ai ?_ ?_<;>intro h4
    ·have cI:i<fl.length:=by omega
     have j2:=hfm _ (bY aq.dflt cI);unfold Ao at j2;have hlen:=hM.len;have hir:ev<M.length:=by omega
     have iI:=hM.row ev we;have tW:(az aR es j).var.toNat=ev:=by omega
     refine cK ?_;clear hw;intro p w hw;have bb:Sat w0 w [Ab ah 4 ss M,OS al 140 out ss,Ad p 63 (aq.enc (fl.getD i aq.dflt)),OS al 23 ls [(az bJ vs k).pre,(az aR es j).when],Ad pe 61 (aR.enc (az aR es j)),Ad po 44 (bJ.enc (az bJ vs k)),Ad pt 26 [a,b,c,d]]:=hw.aT;clear hw;have mj:=bb.bw;have hw:=bb.fb (i:=(az aR es j).var.toNat) om;clear bb;rw[<-tW]at iI;refine fi ?_;clear hw;intro w hw;replace hw:=Sat.jS (i:=(az aR es j).var.toNat) om om hw;rw[tW]at hw;change Sat w0 w (Ab ah 4 ss (iV M ev (fl.getD i aq.dflt).var.toNat true)::_) at hw;refine⟨i+1,iV M ev (fl.getD i aq.dflt).var.toNat true,⟨rfl,trivial⟩,aH,⟨by omega,?_,hw.aT⟩,by omega⟩;exact(hM.rK (v:=ev) (u:=(fl.getD i aq.dflt).var.toNat) we om).congr fun v u _ _=>by
      rw[yL];refine or_assoc.trans (or_congr Iff.rfl ?_);exact⟨fun h=>h.elim (fun h=>⟨h.1,.inl h.2⟩) fun h=>⟨h.1,.inr om⟩,fun⟨h1,h2⟩=>h2.elim (fun h=>.inl ⟨h1,h⟩) fun h=>.inr ⟨h1,by omega⟩⟩
    ·have iJ:i=fl.length:=by omega
     subst iJ;refine ab ?_;exact⟨m+1,M,⟨rfl,trivial⟩,aH,⟨by omega,hM.congr fun v u _ _=>by rw[gY u,qra (l:=fl)];exact qrb,hw⟩,by omega⟩
   ·have j6:m=2:=by simp at h3;omega
    subst j6;have wH:MI M t.vars.length (fun v u=>(mw t k v u\/oZ (t.ops.getD k aO) j v u)\/(v=ev/\(gu (t.ops.getD k aO).pre (u:Int)\/gu ((t.ops.getD k aO).aw.getD j ba).when (u:Int)))):=hM.congr fun v u _ _=>by simp
    clear hM;refine ab ?_;refine dj [14,14,76,88] (G:=Nat) (H:=List (List Bool)) (fun i _=>[(76,.int .i64 i)]) (fun i M w=>i<=(t.ops.getD k aO).aw.length/\MI M t.vars.length (fun v u=>((mw t k v u\/oZ (t.ops.getD k aO) j v u)\/(v=ev/\(gu (t.ops.getD k aO).pre (u:Int)\/gu ((t.ops.getD k aO).aw.getD j ba).when (u:Int))))\/(v=ev/\∃ i',i'<i/\((t.ops.getD k aO).aw.getD i' ba).var=(u:Int)))/\Sat w0 w [Ab ah 4 ss M,OS al 140 out ss,Ad pe 61 (aR.enc (az aR es j)),Ad po 44 (bJ.enc (az bJ vs k)),Ad pt 26 [a,b,c,d]]) (fun i _=>(t.ops.getD k aO).aw.length-i) 0 M (fun _ _=>rfl) ⟨rfl,trivial⟩ ⟨zero_le _,wH.congr fun v u _ _=>⟨.inl,fun h=>h.elim id fun⟨_,i',h,_⟩=>absurd h (not_lt_zero _)⟩,hw.aT⟩ ?_;clear hw wH M;rintro σ3 i M w ⟨hi,hM,hw⟩;refine ab ?_;refine ai ?_ ?_<;>intro h4
    ·have cI:i<(t.ops.getD k aO).aw.length:=by omega
     have qxv:=eE.at_ i cI;have qzY:=qxv.one;have yb:=qxv.var;have qzZ:=qB (zr.dL i cI);have hlen:=hM.len;have hir:ev<M.length:=by omega
     have iI:=hM.row ev we;have tW:(az aR es j).var.toNat=ev:=by omega
     refine cK ?_;clear hw;intro p w hw;have bb:Sat w0 w [Ab ah 4 ss M,OS al 140 out ss,Ad p 61 (aR.enc (az aR es i)),Ad pe 61 (aR.enc (az aR es j)),Ad po 44 (bJ.enc (az bJ vs k)),Ad pt 26 [a,b,c,d]]:=hw.aT;clear hw;have mj:=bb.bw;have hw:=bb.fb (i:=(az aR es j).var.toNat) om;clear bb;rw[<-tW]at iI;refine fi ?_;clear hw;intro w hw;replace hw:=Sat.jS (i:=(az aR es j).var.toNat) om om hw;rw[tW]at hw;change Sat w0 w (Ab ah 4 ss (iV M ev (az aR es i).var.toNat true)::_) at hw;refine⟨i+1,iV M ev (az aR es i).var.toNat true,⟨rfl,trivial⟩,aH,⟨by omega,?_,hw.aT⟩,by omega⟩;exact(hM.rK (v:=ev) (u:=(az aR es i).var.toNat) we om).congr fun v u _ _=>by
      rw[yL];refine or_assoc.trans (or_congr Iff.rfl ?_);exact⟨fun h=>h.elim (fun h=>⟨h.1,.inl h.2⟩) fun h=>⟨h.1,.inr om⟩,fun⟨h1,h2⟩=>h2.elim (fun h=>.inl ⟨h1,h⟩) fun h=>.inr ⟨h1,by omega⟩⟩
    ·have iJ:i=(t.ops.getD k aO).aw.length:=by omega
     subst iJ;refine ab ?_;exact⟨j+1,M,⟨rfl,trivial⟩,aH,⟨by omega,hM.congr fun v u _ _=>by rw[qq9,qzn,qvC];exact qto om,hw.aT⟩,by omega⟩
  ·have iR:j=(t.ops.getD k aO).aw.length:=by omega
   subst iR;refine ab ?_;exact⟨k+1,M,⟨rfl,trivial⟩,aH,⟨by omega,hM.congr fun v u _ _=>by rw[qq8,qtn],hw.aT⟩,by omega⟩
 have cH:k=t.ops.length:=by omega
 subst cH;have eT:=hM.len;have zt:=hw.bw;have wH:MI M t.vars.length (fun v u=>mw t t.ops.length v u/\¬(v<0/\u=v)):=hM.congr fun v u _ _=>⟨fun h=>⟨h,fun h=>absurd h.1 (not_lt_zero _)⟩,fun h=>h.1⟩
 clear hM;refine ab ?_;refine dj [15,15,93,102] (G:=Nat) (H:=List (List Bool)) (fun i _=>[(93,.int .i64 i)]) (fun i M w=>i<=t.vars.length/\MI M t.vars.length (fun v u=>mw t t.ops.length v u/\¬(v<i/\u=v))/\Sat w0 w [Ab ah 4 ss M,OS al 140 out ss,Ad pt 26 [a,b,c,d]]) (fun i _=>t.vars.length-i) 0 M (fun _ _=>rfl) ⟨rfl,trivial⟩ ⟨zero_le _,wH,hw⟩ ?_;clear hw wH eT zt M;rintro σ1 i M w ⟨hi,hM,hw⟩;have eT:=hM.len;have zt:=hw.bw;refine ab ?_;refine ai ?_ ?_<;>intro h5
 ·have cI:i<t.vars.length:=by omega
  have iI:=hM.row i cI;replace hw:=hw.fb (i:=i) om;refine fi ?_;clear hw;intro w hw;replace hw:=Sat.jS (i:=i) om om hw;refine⟨i+1,_,⟨rfl,trivial⟩,aH,⟨by omega,?_,hw⟩,by omega⟩
  exact(hM.qzi (v:=i) (u:=i) cI cI).congr fun v u _ _=>⟨fun h=>⟨h.1.1,fun hh=>by
   by_cases e:v=i
   ·exact h.2 ⟨e,by omega⟩
   ·exact h.1.2 ⟨by omega,hh.2⟩⟩,fun h=>⟨⟨h.1,fun hh=>h.2 ⟨by omega,hh.2⟩⟩,fun hh=>h.2 ⟨by omega,by omega⟩⟩⟩
 ·have iJ:i=t.vars.length:=by omega
  subst iJ;refine ab ?_;refine aW (v:=out) rfl rfl ⟨out,ss,M,rfl,hM.congr fun v u hv hu=>?_,hw.aT⟩;constructor
  ·rintro⟨h1,h2⟩
   exact⟨fun e=>h2 ⟨hv,by omega⟩,h1⟩
  ·rintro⟨h1,h2⟩
   exact⟨h2,fun hh=>h1 om⟩
theorem qlV (t:Aa) (u:Nat):dI t u 0=[]:=ry (Nat.le_refl _)
theorem qrd {t:Aa}{u v:Nat}(h:nI t (u:Int) (v:Int)):dI t u (v+1)=dI t u v++[⟨(u:Int),(v:Int),1⟩]:=by
 unfold dI;rw[np (zero_le _),if_pos h]
theorem qot {t:Aa}{u v:Nat}(h:¬nI t (u:Int) (v:Int)):dI t u (v+1)=dI t u v:=by
 unfold dI;rw[np (zero_le _),if_neg h,append_nil]
theorem qlW (t:Aa) (u:Nat):aP t (u+1)=aP t u++dI t u t.vars.length:=by
 unfold aP;rw[np (zero_le _)]
theorem qrU {w0:World}{a b c d:Value}{vs:List AK}{t:Aa}(ht:Am w0 a b c d vs t) (hg:Af t) :
  Calls Tryz.prog 99 #[.agg #[a,b,c,d]] w0 fun e w'=>∃ av,e=.returned (.tuple #[av,.nilIface])/\Sat w0 w' [OS aU 181 av (aP t t.vars.length)]:=by
 have eF:=ht;obtain⟨ha,hb,hc,hd⟩:=ht;have ru:=ha.bo;have hV:=hg.vars;have hw:=Sat.start w0;refine bn (args:=[.agg #[a,b,c,d]]) mixed Tryz.func99 ?_;refine db ?_;intro p w hw;obtain⟨pt,dO⟩:∃ pt,pt=p:=⟨p,rfl⟩
 subst dO;refine aJ rfl (sH (eF.at hw)) ?_;rintro _ w' ⟨rfl,aj⟩;refine aC ?_;clear aj hw;intro hw;rw[iy ((nZ t).2 hg)];refine ab ?_;refine aJ rfl (qk5 (eF.at hw) hg) ?_;rintro _ w' ⟨out,ss,M,rfl,hM,aj⟩;refine lu ?_;clear aj hw;intro hw;have eT:=hM.len;refine ab ?_;have bb:Sat w0 w' [OS aU 181 (.slice none 0 0) (aP t 0),Ab ah 4 ss M,OS al 140 out ss,Ad pt 26 [a,b,c,d]]:=hw.nil (T:=aU) (e:=181);clear hw;refine dj [6,8,19,42] (G:=Nat) (H:=Value) (fun u av=>[(19,.int .i64 u),(6,av)]) (fun u av w=>u<=t.vars.length/\Sat w0 w [OS aU 181 av (aP t u),Ab ah 4 ss M,OS al 140 out ss,Ad pt 26 [a,b,c,d]]) (fun u _=>t.vars.length-u) 0 (.slice none 0 0) (fun _ _=>rfl) ⟨rfl,rfl,trivial⟩ ⟨zero_le _,bb⟩ ?_;clear bb;rintro σ u av w ⟨hu,hw⟩;refine ab ?_;refine ai ?_ ?_<;>intro h1
 ·have iw:u<t.vars.length:=by omega
  have uw:=qhV t u;have qyu:u*t.vars.length<=64*64:=Nat.mul_le_mul om hV;refine ab ?_;have bb:Sat w0 w [OS aU 181 av (aP t u++dI t u 0),Ab ah 4 ss M,OS al 140 out ss,Ad pt 26 [a,b,c,d]]:=by rw[qlV,append_nil];exact hw
  clear hw;refine dj [6,6,8,8,25,41] (G:=Nat) (H:=Value) (fun v av=>[(25,.int .i64 v),(6,av)]) (fun v av w=>v<=t.vars.length/\Sat w0 w [OS aU 181 av (aP t u++dI t u v),Ab ah 4 ss M,OS al 140 out ss,Ad pt 26 [a,b,c,d]]) (fun v _=>t.vars.length-v) 0 av (fun _ _=>rfl) ⟨rfl,rfl,trivial⟩ ⟨zero_le _,bb⟩ ?_;clear bb;rintro σ1 v av1 w ⟨hv,hw⟩;have iL:=hw.tail.bw;refine ab ?_;refine ai ?_ ?_<;>intro h2
  ·have eW:v<t.vars.length:=by omega
   have dp:=hw.tail.row (i:=v) om;have iI:=hM.row v eW;have rL:=hM.at_ v u eW iw;have qyC:=qhU t u v;have bZ:(aP t u++dI t u v).length<=8192:=by rw[length_append];omega
   refine me ?_;have wg:(M.getD v []).getD u ah.dflt=true↔nI t (u:Int) (v:Int):=rL
   cases hb:(M.getD v []).getD u ah.dflt with
   | false =>
    rw[hb]at wg;refine ab ?_
    exact⟨v+1,av1,⟨rfl,rfl,trivial⟩,aH,⟨by omega,by rw[qot (fun h=>by have:=wg.2 h;cases this)];exact hw⟩,by omega⟩
   | true =>
    rw[hb]at wg;refine ab ?_;refine jh aU (x1:=⟨(u:Int),(v:Int),1⟩) rfl rfl rfl (le_of_ble_eq_true rfl) (zero_lt_succ _) hw ?_;clear hw dp;intro bs w hw
    refine rT (s:=av1) (s2:=bs) inferInstance rfl rfl (aM hw) rfl rfl (fun y hy v hv=>by
     rw[mem_singleton.1 hy]at hv;simp only[aU,mem_cons,not_mem_nil,or_false]at hv
     rcases hv with rfl|rfl|rfl<;>rfl) (by simp only[length_cons,length_nil];omega) (by unfold bo;simp only[length_cons,length_nil];omega) hw ?_
    clear hw;intro s' w hw;refine ab ?_;refine⟨v+1,s',⟨rfl,rfl,trivial⟩,aH,⟨by omega,?_⟩,by omega⟩;rw[qrd (wg.1 rfl),<-append_assoc];exact hw.tail
  ·have hve:v=t.vars.length:=by omega
   subst hve;rw[<-qlW]at hw;refine ab ?_;exact⟨u+1,av1,⟨rfl,rfl,trivial⟩,aH,⟨by omega,hw⟩,by omega⟩
 ·have oU:u=t.vars.length:=by omega
  subst oU;refine ab ?_;exact dz (v:=av) (v':=.nilIface) rfl rfl rfl ⟨av,rfl,hw.aT⟩
def je (t:Aa) (v:Nat):Prop:=∃ f∈t.goal,f.var=(v:Int)
theorem qsA {t:Aa}{v:Nat}:je t v↔∃ i,i<t.goal.length/\(t.goal.getD i aq.dflt).var=(v:Int):=qra
theorem qpL {t:Aa}{a:Nat}:km t [(a:Int)]↔je t a:=by
 constructor
 ·rintro⟨⟨v,hv,h⟩,_⟩
  rw[mem_singleton.1 hv]at h;exact h
 ·exact fun h=>⟨⟨a,mem_singleton_self _,h⟩,qta⟩
theorem qu0 {t:Aa}{a b:Nat}:km t [(a:Int),(b:Int)]↔(je t a\/je t b)/\cG t a b:=by
 unfold km;rw[qtb];refine and_congr ?_ Iff.rfl;unfold tt je;simp[or_and_right,exists_or]
theorem qpM {t:Aa}{a b c:Nat}:km t [(a:Int),(b:Int),(c:Int)]↔(je t a\/je t b\/je t c)/\((cG t a b/\cG t b c)\/(cG t a b/\cG t a c)\/(cG t a c/\cG t b c)):=by
 unfold km;rw[qol];refine and_congr ?_ Iff.rfl;unfold tt je;simp[or_and_right,exists_or]
theorem qpN {t:Aa}{x y:Nat}(hx:x<t.vars.length) (hy:y<t.vars.length):(∃ i,i<(aP t t.vars.length).length/\(((aP t t.vars.length).getD i aU.dflt).src=(x:Int)/\((aP t t.vars.length).getD i aU.dflt).dst=(y:Int)\/((aP t t.vars.length).getD i aU.dflt).dst=(x:Int)/\((aP t t.vars.length).getD i aU.dflt).src=(y:Int)))↔cG t x y:=by
 constructor
 ·rintro⟨i,hi,h⟩
  obtain⟨u,v,_,_,ha,e⟩:=qdE.1 (bY aU.dflt hi);rw[e]at h;simp only at h;rcases h with ⟨h1,h2⟩|⟨h1,h2⟩
  ·exact .inl (by rw[<-h1,<-h2];exact ha)
  ·exact .inr (by rw[<-h1,<-h2];exact ha)
 ·rintro (h|h)
  ·obtain⟨i,hi,e⟩:=getElem_of_mem (qdE.2 ⟨x,y,hx,hy,h,rfl⟩)
   exact⟨i,hi,by rw[getD_at hi,e];exact .inl ⟨rfl,rfl⟩⟩
  ·obtain⟨i,hi,e⟩:=getElem_of_mem (qdE.2 ⟨y,x,hy,hx,h,rfl⟩)
   exact⟨i,hi,by rw[getD_at hi,e];exact .inr ⟨rfl,rfl⟩⟩
def dm (size:Int):Nat:=(max 1 (min size 3)).toNat
theorem qpO (size:Int):1<=dm size/\dm size<=3:=by unfold dm;omega
theorem qg5 {w0:World}{a b c d:Value}{vs:List AK}{t:Aa}{size:Int}(ht:Am w0 a b c d vs t) (hg:Af t) (hn:t.vars.length<=12) :
  Calls Tryz.prog 79 #[.agg #[a,b,c,d],.int .i64 size] w0 fun e w'=>∃ ov os,e=.returned (.tuple #[ov,.nilIface])/\Sat w0 w' [Ab aa 3 os (dT t (dm size)),OS al 22 ov os]:=by
 have eF:=ht;obtain⟨ha,hb,hc,hd⟩:=ht;have ru:=ha.bo;have yI:=hc.bo;have hw:=Sat.start w0;refine bn (args:=[.agg #[a,b,c,d],.int .i64 size]) mixed Tryz.func79 ?_;refine db ?_;intro p w hw;obtain⟨pt,dO⟩:∃ pt,pt=p:=⟨p,rfl⟩
 subst dO;refine aJ rfl (qrU (eF.at hw) hg) ?_;rintro _ w' ⟨av,rfl,aj⟩;refine aA ?_;clear aj hw;intro hw;have uw:=qhV t t.vars.length;have qyu:t.vars.length*t.vars.length<=12*12:=Nat.mul_le_mul hn hn;have ed:∀ i,i<(aP t t.vars.length).length->(0<=((aP t t.vars.length).getD i aU.dflt).src/\((aP t t.vars.length).getD i aU.dflt).src<t.vars.length)/\(0<=((aP t t.vars.length).getD i aU.dflt).dst/\((aP t t.vars.length).getD i aU.dflt).dst<t.vars.length):=fun i hi=>by
  obtain⟨u,v,hu,hv,_,e⟩:=qdE.1 (bY aU.dflt hi);rw[e];simp only;omega
 refine kq ?_;intro s w hw;obtain⟨out,pK⟩:∃ out,out=s:=⟨s,rfl⟩
 subst pK;have hw:=hw.fu (T:=ah) (e:=4) t.vars.length;rw[<-qnl]at hw;obtain⟨ss,jX⟩:∃ ss,ss=replicate t.vars.length (Value.slice none 0 0):=⟨_,rfl⟩
 have iL:ss.length=t.vars.length:=by rw[jX];simp
 have bb:Sat w0 w [Ab ah 4 ss (oQ t.vars.length 0),OS al 140 out ss,OS aU 181 av (aP t t.vars.length),Ad pt 26 [a,b,c,d]]:=by rw[jX];exact hw
 clear hw jX;have hl0:(replicate (↑t.vars.length:Int).toNat (Value.slice none 0 0)).length=t.vars.length:=by simp
 refine dj [10,10,39,47] (G:=Nat) (H:=List Value) (fun k _=>[(39,.int .i64 k)]) (fun k ss w=>k<=t.vars.length/\ss.length=t.vars.length/\Sat w0 w [Ab ah 4 ss (oQ t.vars.length k),OS al 140 out ss,OS aU 181 av (aP t t.vars.length),Ad pt 26 [a,b,c,d]]) (fun k _=>t.vars.length-k) 0 ss (fun _ _=>rfl) ⟨rfl,trivial⟩ ⟨zero_le _,iL,bb⟩ ?_;clear bb iL ss;rintro σ k ss w ⟨hk,iL,hw⟩;refine ab ?_;refine ai ?_ ?_<;>intro h1
 ·refine kq ?_;intro s w hw
  replace hw:=Sat.pT (i:=k) (by rw[qqM];omega) hw;rw[Int.toNat_natCast,qqO]at hw;exact⟨k+1,_,⟨rfl,trivial⟩,aH,⟨by omega,by rw[length_set];exact iL,hw⟩,by omega⟩
 have cH:k=t.vars.length:=by omega
 subst cH;rw[qqN]at hw;clear hl0 h1;refine ab ?_;refine dj [12,12,50,70] (G:=Nat) (H:=List (List Bool)) (fun k _=>[(50,.int .i64 k)]) (fun k M w=>k<=(aP t t.vars.length).length/\MI M t.vars.length (fun x y=>(∃ i,i<k/\(((aP t t.vars.length).getD i aU.dflt).src=(x:Int)/\((aP t t.vars.length).getD i aU.dflt).dst=(y:Int)\/((aP t t.vars.length).getD i aU.dflt).dst=(x:Int)/\((aP t t.vars.length).getD i aU.dflt).src=(y:Int))))/\Sat w0 w [Ab ah 4 ss M,OS al 140 out ss,OS aU 181 av (aP t t.vars.length),Ad pt 26 [a,b,c,d]]) (fun k _=>(aP t t.vars.length).length-k) 0 _ (fun _ _=>rfl) ⟨rfl,trivial⟩ ⟨zero_le _,(MI.rep t.vars.length).congr fun v u _ _=>⟨False.elim,fun⟨op,h,_⟩=>absurd h (not_lt_zero _)⟩,hw⟩ ?_;clear hw hk;rintro σ k M w ⟨hk,hM,hw⟩;refine ab ?_;refine ai ?_ ?_<;>intro h1
 ·have aK:k<(aP t t.vars.length).length:=by omega
  have qG:=ed k aK;have hlen:=hM.len;have mj:=hw.bw;refine cK ?_;intro p w hw;refine fP (pl [0,1,2,3,4,5,6,7,8,9,10,11,12,13,14,15] (.chk 13::pl [16,17] [])) hw kr ?_;clear hw;intro w hw;refine ab ?_;have bb:Sat w0 w [Ab ah 4 ss M,OS al 140 out ss,Ad p 181 (aU.enc ((aP t t.vars.length).getD k aU.dflt)),OS aU 181 av (aP t t.vars.length),Ad pt 26 [a,b,c,d]]:=hw.aT;clear hw;have iI:=hM.row ((aP t t.vars.length).getD k aU.dflt).src.toNat om;have hw:=bb.fb (i:=((aP t t.vars.length).getD k aU.dflt).src.toNat) om;clear bb;refine fy ?_;intro w hw;replace hw:=Sat.jS (i:=((aP t t.vars.length).getD k aU.dflt).src.toNat) om om hw;have wG:=hM.rK (v:=((aP t t.vars.length).getD k aU.dflt).src.toNat) (u:=((aP t t.vars.length).getD k aU.dflt).dst.toNat) om om;obtain⟨M1,qwZ⟩:∃ M1,M1=iV M ((aP t t.vars.length).getD k aU.dflt).src.toNat ((aP t t.vars.length).getD k aU.dflt).dst.toNat true:=⟨_,rfl⟩
  rw[<-qwZ]at wG;change Sat w0 w (Ab ah 4 ss (iV M ((aP t t.vars.length).getD k aU.dflt).src.toNat ((aP t t.vars.length).getD k aU.dflt).dst.toNat true)::_) at hw;rw[<-qwZ]at hw;have s9:=wG.len;have qyv:=wG.row ((aP t t.vars.length).getD k aU.dflt).dst.toNat om;replace hw:=hw.fb (i:=((aP t t.vars.length).getD k aU.dflt).dst.toNat) om;refine fy ?_;intro w hw;replace hw:=Sat.jS (i:=((aP t t.vars.length).getD k aU.dflt).dst.toNat) om om hw;change Sat w0 w (Ab ah 4 ss (iV M1 ((aP t t.vars.length).getD k aU.dflt).dst.toNat ((aP t t.vars.length).getD k aU.dflt).src.toNat true)::_) at hw;refine ab ?_;refine⟨k+1,iV M1 ((aP t t.vars.length).getD k aU.dflt).dst.toNat ((aP t t.vars.length).getD k aU.dflt).src.toNat true,⟨rfl,trivial⟩,aH,⟨by omega,?_,hw.aT⟩,by omega⟩;exact(wG.rK (v:=((aP t t.vars.length).getD k aU.dflt).dst.toNat) (u:=((aP t t.vars.length).getD k aU.dflt).src.toNat) om om).congr fun x y _ _=>by
   rw[yL,or_assoc];refine or_congr Iff.rfl (or_congr ⟨fun h=>⟨by omega,by omega⟩,fun h=>⟨by omega,by omega⟩⟩ ⟨fun h=>⟨by omega,by omega⟩,fun h=>⟨by omega,by omega⟩⟩)
 have cH:k=(aP t t.vars.length).length:=by omega
 subst cH;have hN:MI M t.vars.length (fun x y=>cG t (x:Int) (y:Int)):=hM.congr fun x y hx hy=>qpN hx hy;clear hM;have hMl:=hN.len;refine kq ?_;intro s w hw;obtain⟨gv,hgv⟩:∃ gv,gv=s:=⟨s,rfl⟩
 subst hgv;rw[Int.toNat_natCast]at hw;refine dj [15,15,76,84] (G:=Nat) (H:=List Bool) (fun k _=>[(76,.int .i64 k)]) (fun k G w=>k<=t.goal.length/\VI G t.vars.length (fun x=>(∃ i,i<k/\(t.goal.getD i aq.dflt).var=(x:Int)))/\Sat w0 w [OS ah 4 gv G,Ab ah 4 ss M,OS al 140 out ss,Ad pt 26 [a,b,c,d]]) (fun k _=>t.goal.length-k) 0 _ (fun _ _=>rfl) ⟨rfl,trivial⟩ ⟨zero_le _,(VI.rep t.vars.length).congr fun v _=>⟨False.elim,fun⟨op,h,_⟩=>absurd h (not_lt_zero _)⟩,hw.aT⟩ ?_;clear hw hk;rintro σ k G w ⟨hk,hG,hw⟩;have hGl:=hG.len;refine ab ?_;refine ai ?_ ?_<;>intro h1
 ·have aK:k<t.goal.length:=by omega
  have j2:=vF hg.goal _ (bY aq.dflt aK);unfold Ao at j2;refine db ?_;intro p w hw;refine⟨k+1,_,⟨rfl,trivial⟩,aH,⟨by omega,?_,hw.tail⟩,by omega⟩;exact(hG.rK (u:=(t.goal.getD k aq.dflt).var.toNat) om).congr fun x _=>by
   rw[yL];exact or_congr Iff.rfl ⟨fun h=>by omega,fun h=>by omega⟩
 have cH:k=t.goal.length:=by omega
 subst cH;have hV:VI G t.vars.length (je t):=hG.congr fun x _=>qsA.symm;clear hG hk h1;obtain⟨κ,hκ⟩:∃ κ,κ=dm size:=⟨_,rfl⟩
 have hκr:=qpO size;rw[<-hκ]at hκr ⊢;have eN:(if (if 3<size then 3 else size)>1 then if 3<size then 3 else size else 1)=(κ:Int):=by rw[hκ];unfold dm;split<;>split at*<;> omega
 refine ab ?_;have bb:Sat w0 w [Ab aa 3 [] (qV t 0),OS al 22 (.slice none 0 0) [],OS ah 4 gv G,Ab ah 4 ss M,OS al 140 out ss,Ad pt 26 [a,b,c,d]]:=hw.nil.mF;clear hw;refine mB [16,17,89,101] (G:=Nat) (H:=Value) (I:=List Value) (fun k ov _=>[(89,.int .i64 k),(16,ov)]) (fun k ov os w=>k<=t.vars.length/\Sat w0 w [Ab aa 3 os (qV t k),OS al 22 ov os,OS ah 4 gv G,Ab ah 4 ss M,OS al 140 out ss,Ad pt 26 [a,b,c,d]]) (fun k _ _=>t.vars.length-k) 0 (.slice none 0 0) [] (fun _ _ _=>rfl) ⟨rfl,rfl,trivial⟩ ⟨zero_le _,bb⟩ ?_;clear bb;rintro σ k ov os w ⟨hk,hw⟩;refine ab ?_;refine ai ?_ ?_<;>intro h1
 ·have aK:k<t.vars.length:=by omega
  have rL:=hV.at_ k aK;have hlen:=qqL (t:=t) hn (k:=k) om;have l5:=hw.bw;have vG:qV t (k+1)=qV t k++rM t [(k:Int)]:=by unfold qV;rw[np (zero_le k)]
  refine me ?_
  cases hb:G.getD k ah.dflt with
  | false =>
   rw[show G.getD k false=false from hb]at rL;refine ab ?_
   exact⟨k+1,ov,os,⟨rfl,rfl,trivial⟩,aH,⟨by omega,by rw[vG,qlM (fun h=>by have:=rL.2 (qpL.1 h);cases this),append_nil];exact hw⟩,by omega⟩
  | true =>
   rw[show G.getD k false=true from hb]at rL
   repeat (first|refine bV ?_|(refine cB ?_;clear hw;intro s w hw))
   exact⟨k+1,_,_,⟨rfl,rfl,trivial⟩,aH,⟨by omega,by rw[vG,qqG (qpL.2 (rL.1 rfl))];exact hw.tail.gH⟩,by omega⟩
 have cH:k=t.vars.length:=by omega
 subst cH;have h1l:=qqL (t:=t) hn (Nat.le_refl _);have yM:qW t t.vars.length 0=[]:=ry (Nat.le_refl _);have bb:Sat w0 w [Ab aa 3 os (qV t t.vars.length++qW t t.vars.length 0),OS al 22 ov os,OS ah 4 gv G,Ab ah 4 ss M,OS al 140 out ss,Ad pt 26 [a,b,c,d]]:=by rw[yM,append_nil];exact hw
 clear hw h1 hk;refine ab ?_;refine mB [16,16,18,19,102,142] (G:=Nat) (H:=Value) (I:=List Value) (fun k ov _=>[(18,.int .i64 k),(16,ov)]) (fun k ov os w=>k<=t.vars.length/\(2<=κ\/k=0)/\Sat w0 w [Ab aa 3 os (qV t t.vars.length++qW t t.vars.length k),OS al 22 ov os,OS ah 4 gv G,Ab ah 4 ss M,OS al 140 out ss,Ad pt 26 [a,b,c,d]]) (fun k _ _=>t.vars.length-k) 0 ov os (fun _ _ _=>rfl) ⟨rfl,rfl,trivial⟩ ⟨zero_le _,.inr rfl,bb⟩ ?_;clear bb;rintro σ1 k ov os w ⟨hk,gW,hw⟩;have sT:=hw.bw;refine ab ?_;refine ai ?_ ?_<;>intro h1
 ·rw[eN]at h1
  have fT:k<t.vars.length:=by omega
  have qzH:=qt9 hn fT (Nat.le_refl _);refine ab ?_;have qyw:rN t k (k+1)=[]:=ry (Nat.le_refl _);have bb:Sat w0 w [Ab aa 3 os (qV t t.vars.length++qW t t.vars.length k++rN t k (k+1)),OS al 22 ov os,OS ah 4 gv G,Ab ah 4 ss M,OS al 140 out ss,Ad pt 26 [a,b,c,d]]:=by rw[qyw,append_nil];exact hw
  clear hw sT;refine mB [16,16,19,19,113,142] (G:=Nat) (H:=Value) (I:=List Value) (fun j ov _=>[(19,.int .i64 j),(16,ov)]) (fun j ov os w=>k+1<=j/\j<=t.vars.length/\Sat w0 w [Ab aa 3 os (qV t t.vars.length++qW t t.vars.length k++rN t k j),OS al 22 ov os,OS ah 4 gv G,Ab ah 4 ss M,OS al 140 out ss,Ad pt 26 [a,b,c,d]]) (fun j _ _=>t.vars.length-j) (k+1) ov os (fun _ _ _=>rfl) ⟨rfl,rfl,trivial⟩ ⟨Nat.le_refl _,by omega,bb⟩ ?_;clear bb;rintro σ2 j ov1 os1 w ⟨qU,hj,hw⟩;refine ab ?_;refine ai ?_ ?_<;>intro h2
  ·have ky:j<t.vars.length:=by omega
   have yN:=hV.at_ k fT;have yO:=hV.at_ j ky;have yP:=hN.at_ k j fT ky;have tu:=qt9 hn fT hj;have l5:=hw.bw;rw[length_append,length_append]at l5;have vG:rN t k (j+1)=rN t k j++rM t [(k:Int),(j:Int)]:=by unfold rN;rw[np qU]
   have dp:=hw.tail.tail.tail.row (i:=k) om;have iI:=hN.row k fT;have nC:((G.getD k ah.dflt || G.getD j ah.dflt) && (M.getD k []).getD j ah.dflt)=true↔km t [(k:Int),(j:Int)]:=by
    rw[qu0,<-yN,<-yO,<-yP,Bool.and_eq_true,Bool.or_eq_true];rfl
   refine me ?_
   cases hb:((G.getD k ah.dflt || G.getD j ah.dflt) && (M.getD k []).getD j ah.dflt) with
   | false =>
    rw[hb]at nC;refine ab ?_
    exact⟨j+1,ov1,os1,⟨rfl,rfl,trivial⟩,aH,⟨by omega,by omega,by rw[vG,qlM (fun h=>by have:=nC.2 h;cases this),append_nil];exact hw⟩,by omega⟩
   | true =>
    rw[hb]at nC;clear dp;refine ab ?_;refine qa6 (T:=aa) [(k:Int),(j:Int)] [.int .i64 k,.int .i64 j] rfl rfl rfl rfl rfl (le_of_ble_eq_true rfl) (zero_lt_succ _) (le_of_ble_eq_true rfl) hw ?_;clear hw;intro sv w hw
    repeat (first|refine bV ?_|(refine cB ?_;clear hw;intro s w hw))
    exact⟨j+1,_,_,⟨rfl,rfl,trivial⟩,aH,⟨by omega,by omega,by rw[vG,qqG (nC.1 rfl),<-append_assoc];exact hw.tail.gH⟩,by omega⟩
  ·have iR:j=t.vars.length:=by omega
   subst iR;refine ab ?_;refine⟨k+1,ov1,os1,⟨rfl,rfl,trivial⟩,aH,⟨by omega,.inl om,?_⟩,by omega⟩;rw[show qW t t.vars.length (k+1)=qW t t.vars.length k++rN t k t.vars.length by unfold qW;rw[np (zero_le k)],<-append_assoc];exact hw
 rw[eN]at h1
 obtain⟨L2,wW,yn,yQ⟩:∃ L2,qV t t.vars.length++qW t t.vars.length k=L2/\L2.length<=78/\L2=if 2<=κ then fY t 1++fY t 2 else fY t 1:=by
  refine⟨_,rfl,?_,?_⟩
  ·have:=(qgH hn).2.1
   rw[qi8]at this;have h3:=qdD (g:=fun a=>rN t a t.vars.length) (lo:=0) hk;unfold qW at *
   rw[length_append];omega
  ·by_cases e:2<=κ
   ·rw[if_pos e,qi7,qi8,show k=t.vars.length by omega]
   ·rw[if_neg e,qi7,show k=0 by omega,yM,append_nil]
 rw[wW]at hw sT;clear wW h1 hk gW yM h1l;have yR:oR t t.vars.length 0=[]:=ry (Nat.le_refl _);have bb:Sat w0 w [Ab aa 3 os (L2++oR t t.vars.length 0),OS al 22 ov os,OS ah 4 gv G,Ab ah 4 ss M,OS al 140 out ss,Ad pt 26 [a,b,c,d]]:=by rw[yR,append_nil];exact hw
 clear hw;refine ab ?_;refine mB [16,16,20,23,143,248] (G:=Nat) (H:=Value) (I:=List Value) (fun k ov _=>[(20,.int .i64 k),(16,ov)]) (fun k ov os w=>k<=t.vars.length/\(3<=κ\/k=0)/\Sat w0 w [Ab aa 3 os (L2++oR t t.vars.length k),OS al 22 ov os,OS ah 4 gv G,Ab ah 4 ss M,OS al 140 out ss,Ad pt 26 [a,b,c,d]]) (fun k _ _=>t.vars.length-k) 0 ov os (fun _ _ _=>rfl) ⟨rfl,rfl,trivial⟩ ⟨zero_le _,.inr rfl,bb⟩ ?_;clear bb sT;rintro σ2 k ov os w ⟨hk,gW,hw⟩;have sT:=hw.bw;have h3b:(oR t t.vars.length k).length<=220:=by
  have h:=(qgH hn).2.2;rw[qe6]at h;have h3:=qdD (g:=fun a=>pV t t.vars.length a t.vars.length) (lo:=0) hk;unfold oR at *
  omega
 rw[length_append]at sT;refine ab ?_;refine ai ?_ ?_<;>intro h1
 ·rw[eN]at h1
  have fT:k<t.vars.length:=by omega
  refine ab ?_;have qyx:pV t t.vars.length k (k+1)=[]:=ry (Nat.le_refl _);have bb:Sat w0 w [Ab aa 3 os (L2++oR t t.vars.length k++pV t t.vars.length k (k+1)),OS al 22 ov os,OS ah 4 gv G,Ab ah 4 ss M,OS al 140 out ss,Ad pt 26 [a,b,c,d]]:=by rw[qyx,append_nil];exact hw
  clear hw sT;refine mB [16,16,21,23,159,248] (G:=Nat) (H:=Value) (I:=List Value) (fun j ov _=>[(21,.int .i64 j),(16,ov)]) (fun j ov os w=>k+1<=j/\j<=t.vars.length/\Sat w0 w [Ab aa 3 os (L2++oR t t.vars.length k++pV t t.vars.length k j),OS al 22 ov os,OS ah 4 gv G,Ab ah 4 ss M,OS al 140 out ss,Ad pt 26 [a,b,c,d]]) (fun j _ _=>t.vars.length-j) (k+1) ov os (fun _ _ _=>rfl) ⟨rfl,rfl,trivial⟩ ⟨Nat.le_refl _,by omega,bb⟩ ?_;clear bb;rintro σ3 j ov1 os1 w ⟨qU,hj,hw⟩;refine ab ?_;refine ai ?_ ?_<;>intro h2
  ·have ky:j<t.vars.length:=by omega
   refine ab ?_;have qyy:sh t k j (j+1)=[]:=ry (Nat.le_refl _);have bb:Sat w0 w [Ab aa 3 os1 (L2++oR t t.vars.length k++pV t t.vars.length k j++sh t k j (j+1)),OS al 22 ov1 os1,OS ah 4 gv G,Ab ah 4 ss M,OS al 140 out ss,Ad pt 26 [a,b,c,d]]:=by rw[qyy,append_nil];exact hw
   clear hw;refine mB [16,16,22,23,166,248] (G:=Nat) (H:=Value) (I:=List Value) (fun l ov _=>[(22,.int .i64 l),(16,ov)]) (fun l ov os w=>j+1<=l/\l<=t.vars.length/\Sat w0 w [Ab aa 3 os (L2++oR t t.vars.length k++pV t t.vars.length k j++sh t k j l),OS al 22 ov os,OS ah 4 gv G,Ab ah 4 ss M,OS al 140 out ss,Ad pt 26 [a,b,c,d]]) (fun l _ _=>t.vars.length-l) (j+1) ov1 os1 (fun _ _ _=>rfl) ⟨rfl,rfl,trivial⟩ ⟨Nat.le_refl _,by omega,bb⟩ ?_;clear bb;rintro σ4 l ov2 os2 w ⟨hl0,hl,hw⟩;refine ab ?_;refine ai ?_ ?_<;>intro h3
   ·have l6:l<t.vars.length:=by omega
    have yN:=hV.at_ k fT;have yO:=hV.at_ j ky;have yP:=hV.at_ l l6;have qyz:=hN.at_ k j fT ky;have qyA:=hN.at_ j l ky l6;have qyB:=hN.at_ k l fT l6;have tu:=qwc hn fT qU ky hl;have l5:=hw.bw;rw[length_append,length_append,length_append]at l5;have vG:sh t k j (l+1)=sh t k j l++rM t [(k:Int),(j:Int),(l:Int)]:=by unfold sh;rw[np hl0]
    have qw0:=hw.tail.tail.tail.row (i:=k) om;have qyv:=hN.row k fT;have kF:=hw.tail.tail.tail.row (i:=j) om;have qyC:=hN.row j ky;have nC:(((M.getD k []).getD j ah.dflt && (M.getD j []).getD l ah.dflt || (M.getD k []).getD j ah.dflt && (M.getD k []).getD l ah.dflt || (M.getD k []).getD l ah.dflt && (M.getD j []).getD l ah.dflt) && (G.getD k ah.dflt || G.getD j ah.dflt || G.getD l ah.dflt))=true↔km t [(k:Int),(j:Int),(l:Int)]:=by
     rw[qpM,<-yN,<-yO,<-yP,<-qyz,<-qyA,<-qyB];simp only[Bool.and_eq_true,Bool.or_eq_true];exact⟨fun⟨h1,h2⟩=>⟨or_assoc.1 h2,or_assoc.1 h1⟩,fun⟨h1,h2⟩=>⟨or_assoc.2 h2,or_assoc.2 h1⟩⟩
    refine me ?_
    cases hb:(((M.getD k []).getD j ah.dflt && (M.getD j []).getD l ah.dflt || (M.getD k []).getD j ah.dflt && (M.getD k []).getD l ah.dflt || (M.getD k []).getD l ah.dflt && (M.getD j []).getD l ah.dflt) && (G.getD k ah.dflt || G.getD j ah.dflt || G.getD l ah.dflt)) with
    | false =>
     rw[hb]at nC;refine ab ?_
     exact⟨l+1,ov2,os2,⟨rfl,rfl,trivial⟩,aH,⟨by omega,by omega,by rw[vG,qlM (fun h=>by have:=nC.2 h;cases this),append_nil];exact hw⟩,by omega⟩
    | true =>
     rw[hb]at nC;clear qw0 kF;refine ab ?_;refine qa6 (T:=aa) [(k:Int),(j:Int),(l:Int)] [.int .i64 k,.int .i64 j,.int .i64 l] rfl rfl rfl rfl rfl (le_of_ble_eq_true rfl) (zero_lt_succ _) (le_of_ble_eq_true rfl) hw ?_;clear hw;intro sv w hw
     repeat (first|refine bV ?_|(refine cB ?_;clear hw;intro s w hw))
     exact⟨l+1,_,_,⟨rfl,rfl,trivial⟩,aH,⟨by omega,by omega,by rw[vG,qqG (nC.1 rfl),<-append_assoc];exact hw.tail.gH⟩,by omega⟩
   ·have hle:l=t.vars.length:=by omega
    subst hle;refine ab ?_;refine⟨j+1,ov2,os2,⟨rfl,rfl,trivial⟩,aH,⟨by omega,by omega,?_⟩,by omega⟩;rw[show pV t t.vars.length k (j+1)=pV t t.vars.length k j++sh t k j t.vars.length by unfold pV;rw[np qU],<-append_assoc];exact hw
  ·have iR:j=t.vars.length:=by omega
   subst iR;refine ab ?_;refine⟨k+1,ov1,os1,⟨rfl,rfl,trivial⟩,aH,⟨by omega,.inl om,?_⟩,by omega⟩;rw[show oR t t.vars.length (k+1)=oR t t.vars.length k++pV t t.vars.length k t.vars.length by unfold oR;rw[np (zero_le k)],<-append_assoc];exact hw
 rw[eN]at h1;have cZ:L2++oR t t.vars.length k=dT t κ:=by
  have:κ=1\/κ=2\/κ=3:=by omega
  rcases this with e|e|e
  ·rw[yQ,if_neg om,e,qtc,show k=0 by omega,yR,append_nil]
  ·rw[yQ,if_pos om,e,qnk,show k=0 by omega,yR,append_nil]
  ·rw[yQ,if_pos om,e,qoo,qe6,show k=t.vars.length by omega]
 have yS:(dT t κ).length<=298:=by rw[<-cZ,length_append];omega
 rw[cZ]at hw;have hof:os.length=(dT t κ).length:=hw.bw;refine ab ?_;refine ai ?_ ?_<;>intro h4
 ·exfalso;omega
 ·refine ab ?_
  exact dz (v:=ov) (v':=.nilIface) rfl rfl rfl ⟨ov,os,rfl,hw.aT⟩
end
section
open Go.Sl
theorem qvS {n m:Nat}(hn:n<=12) (hm:m<=3):(ni n m).length<=220:=by
 have h:=qqK n om;have:m=0\/m=1\/m=2\/m=3:=by omega
 rcases this with rfl|rfl|rfl|rfl
 ·simp[ni]
 ·omega
 ·omega
 ·omega
theorem qpk (t:Aa):dT t 0=[]:=ry om
theorem qpl (t:Aa) (m:Nat):dT t (m+1)=dT t m++fY t (m+1):=by
 unfold dT;rw[np om]
theorem qmA {t:Aa}(hn:t.vars.length<=12):∀ {m:Nat},m<=3->(dT t m).length<=m*220
 | 0,_=>by rw[qpk];exact Nat.le_refl _
 | m+1,h=>by
  have ih:=qmA hn (m:=m) om;have h1:=qdC (t:=t) (m+1);have h2:=qvS hn (m:=m+1) om;rw[qpl,length_append];omega
end
end Go.Proofs.YtmapkjoefdgjfaaGreatDoor
