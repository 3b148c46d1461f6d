/- Several texts. -/
import Derived.Test.YtmapkjoefdgjfaaGreatDoorMW9
set_option linter.unusedSimpArgs false
set_option linter.unusedVariables false
set_option maxRecDepth 8000
set_option maxHeartbeats 16000000
open List Nat
namespace Go.Proofs.YtmapkjoefdgjfaaGreatDoor
section
open Go.Sl Go
attribute [local irreducible] vc opsW opsD opV opW PureV ReadV Thn Blk
instance qwp:Ck Tryz.prog 89 "Value" 260 := ⟨kr⟩
def A0 (w:World) (h:Value) (t:Aa) (H:List Int->Int):Prop :=
 ∃ (T:Nat) (v u:Value) (f:Nat),h=.iface T v/\B7 Tryz.prog T v "Value" f u /\ Ae Tryz.prog f /\ ∀ (w1 : World) (Γ : List HP) (sv : Value) (s : List Int), Sat w w1 Γ -> RS aa w1 sv s -> Ac t.vars s ->
  Calls Tryz.prog f #[u,sv] w1 fun e w2=>e=.returned (.int .i64 (H s))/\Sat w1 w2 []
theorem A0.at {w0 w:World}{Γ:List HP}{h:Value}{t:Aa}{H:List Int->Int}(k:A0 w0 h t H) (hw:Sat w0 w Γ):A0 w h t H:=by
 obtain⟨T,v,u,f,h1,h2,h3,h4⟩:=k;exact⟨T,v,u,f,h1,h2,h3,fun w1 Δ sv s hs=>h4 w1 (Δ++Γ) sv s (hw.call hs)⟩
def Ay (w:World) (p:Addr) (t:Aa) (H:List Int->Int):Prop:=∃ a b c d h vs,AD w p [a,b,c,d,h]/\Am w a b c d vs t/\A0 w h t H
open Classical in
noncomputable def j4 (t:Aa) (H:List Int->Int) (s:List Int):Int:=if Ac t.vars s then H s else inf
theorem qd6 {w0:World}{p:Addr}{t:Aa}{H:List Int->Int}{sv:Value}{s:List Int}(he:Ay w0 p t H) (hs:RS aa w0 sv s) :
  Calls Tryz.prog 12 #[.pointer (some p),sv] w0 fun e w'=>e=.returned (.int .i64 (j4 t H s))/\Sat w0 w' []:=by
 obtain⟨a,b,c,d,h,vs,h1,h2,h3⟩:=he;have ha:=h2.vars;have hw:=Sat.start w0;refine bn (args:=[.pointer (some p),sv]) mixed Tryz.func12 ?_;refine ab ?_;refine aJ rfl (wB (ha.at hw) (hs.at hw)) ?_;rintro _ w' ⟨⟨r,rfl,hr⟩,aj⟩;refine aC ?_;clear aj hw;intro hw;cases r
 ·have hn:j4 t H s=inf:=if_neg fun h=>(by cases hr.2 h)
  refine ab ?_;exact aW (v:=.int .i64 1125899906842624) rfl rfl ⟨by rw[hn],hw⟩
 have br:=hr.1 rfl;have hn:j4 t H s=H s:=if_pos br;obtain⟨T,v,u,f,rfl,m1,m2,m3⟩:=h3.at hw;refine ab ?_;refine qoi m1 m2 rfl rfl (m3 _ [] sv s (Sat.start _) (hs.at hw) br) ?_;rintro _ w' ⟨rfl,aj⟩;refine aC ?_;clear aj hw;intro hw;refine ab ?_;exact aW (v:=.int .i64 (H s)) rfl rfl ⟨by rw[hn],hw⟩
def gC (t:Aa) (k:Nat):Int:=(t.ops.take k).foldl (fun m o=>min m o.cost) inf
def dR (t:Aa):Int:=gC t t.ops.length
def bO (t:Aa) (s:List Int):Int:=if Aq s t.goal then 0 else dR t
theorem ql1 {w0:World}{gv sv:Value}{g:List Fact}{n:Int}{s:List Int}(hg:RS aq w0 gv g) (hs:RS aa w0 sv s) :
  Calls Tryz.prog 260 #[.agg #[gv,.int .i64 n],sv] w0 fun e w'=>e=.returned (.int .i64 (if Aq s g then 0 else n))/\Sat w0 w' []:=by
 have hw:=Sat.start w0;refine bn (args:=[.agg #[gv,.int .i64 n],sv]) mixed Tryz.func260 ?_;refine db ?_;intro p w hw;refine aJ rfl (qhc (hg.at hw) (hs.at hw)) ?_;rintro _ w' ⟨⟨r,rfl,hr⟩,aj⟩;refine aC ?_;clear aj hw;intro hw;cases r
 ·have hn:¬Aq s g:=fun h=>by have:=hr.2 h;cases this
  rw[if_neg hn];refine ab ?_;exact aW (v:=.int .i64 n) rfl rfl ⟨rfl,hw.aT⟩
 ·rw[if_pos (hr.1 rfl)]
  refine ab ?_;exact aW (v:=.int .i64 0) rfl rfl ⟨rfl,hw.aT⟩
theorem wC {w0:World}{a b c d h:Value}{vs:List AK}{t:Aa}{H:List Int->Int}(ht:Am w0 a b c d vs t) (hg:Af t) (hh:∃ T v,h=.iface T v) :
  Calls Tryz.prog 37 #[.agg #[a,b,c,d],h,.nilIface] w0 fun e w'=>∃ p,e=.returned (.tuple #[.pointer (some p),.nilIface])/\Sat w0 w' [Aj fun w=>A0 w h t H->Ay w p t H]:=by
 obtain⟨T,v,rfl⟩:=hh;have hw:=Sat.start w0;refine bn (args:=[.agg #[a,b,c,d],.iface T v,.nilIface]) mixed Tryz.func37 ?_;refine db ?_;intro p w hw;refine aJ rfl (qg7 (ht.at hw) hg) ?_;rintro _ w' ⟨a2,b2,c2,d2,vs2,rfl,aj⟩;refine aA ?_;clear aj hw;intro hw;have wD:=hw.dM 0 rfl;have o1:=wD.vars.dc;have o2:=wD.init.dc;have o3:=wD.goal.dc;have o4:=wD.ops.rs.dc;refine ab ?_;refine qc4 (vs:=[(0,.agg #[a2,b2,c2,d2]),(1,.iface T v)]) (ls:=[(0,[a2,b2,c2,d2]),(1,[.iface T v])]) rfl rfl rfl ?_;refine xP (vs:=[a2,b2,c2,d2,.iface T v]) rfl hw ?_;clear hw;intro pe w hw;refine ab ?_;have bb:Sat w0 w [Aj fun w=>A0 w (.iface T v) t H->Ay w pe t H]:=by
  have ct:Sat w0 w [Ad pe 69 [a2,b2,c2,d2,.iface T v],Aj fun w=>Am w a2 b2 c2 d2 vs2 t,Ad p 26 (Value.agg #[a,b,c,d]).cells.toList]:=hw;exact(Sat.rd (Δ:=[Ad pe 69 [a2,b2,c2,d2,.iface T v],Aj fun w=>Am w a2 b2 c2 d2 vs2 t]) (φ:=fun w=>A0 w (.iface T v) t H->Ay w pe t H) (fun _ w h hh=>⟨a2,b2,c2,d2,.iface T v,vs2,h.mR 0 rfl,h.dM 1 rfl,hh⟩) ct).aT
 exact dz (v:=.pointer (some pe)) (v':=.nilIface) rfl rfl rfl ⟨pe,rfl,bb⟩
open Classical in
noncomputable def kQ (t:Aa) (M:Int) (s:List Int):Int:=(pF t M).getD (lh s (na t M)).toNat aa.dflt
theorem qsu {w:World}{t:Aa}{p:Addr}{M:Int}(h:CJ w p t (na t M) (pF t M)) (hA:Dc t (na t M) (pF t M)):A0 w (.iface 111 (.pointer (some p))) t (kQ t M) :=
 ⟨_,_,_,_,rfl,qfR _,inferInstance,fun _ _ _ s hw mH br=>qrP (h.at hw) hA.1 (hA.2 s br) mH br⟩
theorem qoJ {w0:World}{a b c d h v:Value}{T:Nat} :
  Calls Tryz.prog 37 #[.agg #[a,b,c,d],h,.iface T v] w0 fun e w'=>e=.returned (.tuple #[.pointer none,.iface T v])/\Sat w0 w' []:=by
 have hw:=Sat.start w0;refine bn (args:=[.agg #[a,b,c,d],h,.iface T v]) mixed Tryz.func37 ?_;refine db ?_;intro p w hw;exact dz (v:=.pointer none) (v':=.iface T v) rfl rfl rfl ⟨rfl,lB hw⟩
theorem ql8 {w0:World}{a b c d:Value}{vs:List AK}{t:Aa}{M:Int}(ht:Am w0 a b c d vs t) (hg:Af t) (hT:Bv w0) :
  Calls Tryz.prog 32 #[.agg #[a,b,c,d],.int .i64 M] w0 fun e w'=>(dh t M≠0/\e=.returned (.tuple #[.pointer none,bE (dh t M)])/\Sat w0 w' [])\/(dh t M=0/\∃ p,e=.returned (.tuple #[.pointer (some p),.nilIface])/\Sat w0 w' [Aj fun w=>Ay w p t (kQ t M)]):=by
 have sA:=hg.vars;have hw:=Sat.start w0;refine bn (args:=[.agg #[a,b,c,d],.int .i64 M]) mixed Tryz.func32 ?_;have iu:=ht.1;refine cK ?_;intro p w hw;obtain⟨pt,dO⟩:∃ q,q=p:=⟨p,rfl⟩
 subst dO;have hw:Sat w0 w [Ad pt 26 [a,b,c,d]]:=hw;refine dj [6,7,13,20] (G:=Nat) (H:=Value) (fun k ov=>[(13,.int .i64 k),(6,ov)]) (fun k ov w=>k<=t.vars.length/\Sat w0 w [OS aa 3 ov (bX k),Ad pt 26 [a,b,c,d]]) (fun k _=>t.vars.length-k) 0 (.slice none 0 0) (fun _ _=>rfl) ⟨rfl,rfl,trivial⟩ ⟨zero_le _,hw.nil⟩ ?_;clear hw;rintro _ k ov w ⟨hk,hw⟩;refine ab ?_;refine ai ?_ ?_<;>intro g1
 ·have fT:k<t.vars.length:=by omega
  have iL:(bX k).length<=64:=by rw[zP];omega
  repeat (first|refine bV ?_|(refine cB ?_;clear hw;intro s w hw))
  rw[<-qhP]at hw;exact⟨k+1,s,⟨rfl,rfl,trivial⟩,aH,⟨by omega,hw.aT⟩,by omega⟩
 have fT:k=t.vars.length:=by omega
 subst fT;refine ab ?_;refine aJ rfl (ql4 (M:=M) (hT.at hw) hg (ht.at hw) (aM (s:=ov) hw)) ?_;rintro _ w' sX;rcases sX with ⟨hE,rfl,aj⟩|⟨hE,hA,pm,rfl,aj⟩
 ·refine aC ?_;clear aj hw;intro hw
  rw[ep hE];refine ab ?_;refine aJ rfl qoJ ?_;refine mf ?_;clear hw;intro w' hw;refine ab ?_;exact dz (v:=.pointer none) (v':=.iface 57 (.int .i64 (dh t M))) rfl rfl rfl (.inl ⟨hE,rfl,hw.aT⟩)
 refine aA ?_;clear aj hw;intro hw;refine ab ?_;refine aJ rfl (wC (h:=.iface 111 (.pointer (some pm))) (H:=kQ t M) (ht.at hw) hg ⟨_,_,rfl⟩) ?_;rintro _ w' ⟨pe,rfl,aj⟩;refine aA ?_;clear aj hw;intro hw;refine ab ?_;have gX:=Sat.rd (Δ:=[_,_]) (φ:=fun w=>Ay w pe t (kQ t M)) (fun _ w h=>(h.dM 0 rfl) (qsu (h.dM 1 rfl) hA)) hw;exact dz (v:=.pointer (some pe)) (v':=.nilIface) rfl rfl rfl (.inr ⟨hE,pe,rfl,gX.aT⟩)
end
section
open Go.Sl
attribute [local irreducible] vc opsW opsD opV opW PureV ReadV Thn Blk
def gG (l:List (List Int)) (k:Int) (i:Nat):List (List Int):=fR (l.take i) k
def lC (s:List Int) (x:Nat):List (List Int):=(List.range x).map fun (x:Nat)=>s++[(x:Int)]
theorem qjF {l:List (List Int)}{k:Int}{i:Nat}(hi:i<l.length):gG l k (i+1)=gG l k i++lC (l.getD i []) k.toNat:=by
 unfold gG fR lC;rw[dJ [] hi];simp
theorem qld (l:List (List Int)) (k:Int):gG l k l.length=fR l k:=by unfold gG;rw[take_length]
theorem qnK (s:List Int) (x:Nat):lC s (x+1)=lC s x++[s++[(x:Int)]]:=by simp[lC,range_succ]
theorem qle {vars:List Int}{i:Nat}(hi:i<(aB vars).length):((aB vars).getD i []).length=vars.length:=(qcC.1 (bY [] hi)).1
theorem qpe {n k i:Nat}{p:Int}(h:i<n) (hp:((n:Int)*k)<=p):(i:Int)*k+k<=p:=by
 have h1:(i+1)*k<=n*k:=mul_le_mul_right k h;rw[succ_mul]at h1;have h2:((i*k+k:Nat):Int)<=((n*k:Nat):Int):=by exact_mod_cast h1
 simp only[Int.natCast_add,Int.natCast_mul]at h2;omega
theorem qg2 {w0:World}{a:Value}{vars:List Int}(ha:RS aa w0 a vars) (hp:∀ x∈vars,1<=x) (hn:vars.length<=64) (hB:bK vars<=65536) :
  Calls Tryz.prog 11 #[a] w0 fun e w'=>∃ s ss,e=.returned s/\Sat w0 w' [Ab aa 3 ss (aB vars),OS al 22 s ss]:=by
 have ir:=ha.bo;have hw:=Sat.start w0;refine bn (args:=[a]) mixed Tryz.func11 ?_;refine ab ?_;refine xO aa hw ?_;clear hw;intro s w hw;refine kq ?_;intro s w hw;replace hw:=(hw.swap.mF (T:=aa) (e:=3)).swap.gH;refine mB [3,3,5,6,8,9,14,40] (G:=Nat) (H:=Value) (I:=List Value) (fun k s _=>[(14,.int .i64 k),(3,s)]) (fun k s ss w=>k<=vars.length/\Sat w0 w [Ab aa 3 ss (aB (vars.take k)),OS al 22 s ss]) (fun k _ _=>vars.length-k) 0 _ _ (fun _ _ _=>rfl) ⟨rfl,rfl,trivial⟩ ⟨zero_le _,hw⟩ ?_;clear hw;rintro σ k s ss w ⟨hk,hw⟩;refine ab ?_;refine ai ?_ ?_<;>intro h1
 ·have aK:k<vars.length:=by omega
  have nf:∀ x∈vars.take k,1<=x:=fun x hx=>hp x (mem_of_mem_take hx);have hvk:=hp _ (bY aa.dflt aK);have hS:aB (vars.take (k+1))=fR (aB (vars.take k)) (vars.getD k aa.dflt):=by rw[dJ aa.dflt aK,qcY]
  have hN:((aB (vars.take k)).length:Int)*(vars.getD k aa.dflt).toNat<=65536:=by
   have h2:=qcs hp (k+1);rw[dJ aa.dflt aK,wu]at h2;have h3:=wq nf;rw[uc nf,Int.toNat_of_nonneg om,Int.toNat_of_nonneg om];omega
  have hN2:((aB (vars.take k)).length:Int)<=65536:=by
   have h2:=qcs hp k;rw[uc nf];omega
  have hV:vars.getD k aa.dflt<=65536:=by
   have h2:=qcs hp (k+1);rw[dJ aa.dflt aK,wu]at h2;have h3:=wq nf;have h4:1*vars.getD k aa.dflt<=bK (vars.take k)*vars.getD k aa.dflt:=Int.mul_le_mul_of_nonneg_right h3 om;omega
  obtain⟨V,hVe⟩:∃ V,V=vars.getD k aa.dflt:=⟨_,rfl⟩
  obtain⟨L,wN⟩:∃ L,L=aB (vars.take k):=⟨_,rfl⟩
  have dp:∀ i,i<L.length->(L.getD i []).length<=64:=fun i hi=>by
   subst wN;rw[qle hi,length_take];omega
  have jX:ss.length=(aB (vars.take k)).length:=hw.bw;rw[<-wN]at hS hN hN2 hw jX;rw[<-hVe]at hS hN hV hvk;refine ab ?_;have hb:=hw;have pK:RS al w s ss:=aM hb;have pE:=ha.at hw;obtain⟨w1,bb⟩:∃ w1,w1=w:=⟨_,rfl⟩
  rw[<-bb]at hb pK pE;replace hw:=Sat.start w;rw[<-bb]at hw;rw[<-hVe];refine mB [6,6,8,9,20,38] (G:=Nat) (H:=Value) (I:=List Value) (fun i s _=>[(20,.int .i64 i),(6,s)]) (fun i s' ss' w=>i<=L.length/\ss'.length=i*V.toNat/\Sat w1 w [Ab aa 3 ss' (gG L V i),OS al 22 s' ss']) (fun i _ _=>L.length-i) 0 _ [] (fun _ _ _=>rfl) ⟨rfl,rfl,trivial⟩ ⟨zero_le _,(by simp),bb ▸ hw.nil.mF⟩ ?_;clear hw bb;rintro σ1 i s' ss' w ⟨hi,yh,hw⟩;refine ab ?_;refine ai ?_ ?_<;>intro h2
  ·have cI:i<L.length:=by omega
   have hr:=hb.row cI;have iI:=dp i cI;have hmul:=qpe cI hN;have qwB:(ss'.length:Int)=(i:Int)*V.toNat:=by rw[yh];simp
   refine ab ?_;refine mB [6,6,9,9,25,37] (G:=Nat) (H:=Value) (I:=List Value) (fun x s _=>[(25,.int .i64 x),(6,s)]) (fun x s' ss' w=>x<=V.toNat/\ss'.length=i*V.toNat+x/\Sat w1 w [Ab aa 3 ss' (gG L V i++lC (L.getD i []) x),OS al 22 s' ss']) (fun x _ _=>V.toNat-x) 0 s' ss' (fun _ _ _=>rfl) ⟨rfl,rfl,trivial⟩ ⟨zero_le _,yh,by simpa [lC] using hw⟩ ?_;clear hw yh qwB;rintro σ2 x s2 ss2 w ⟨hx,dW,hw⟩;have ou:(ss2.length:Int)=(i:Int)*V.toNat+x:=by rw[dW];simp
   refine ab ?_;refine ai ?_ ?_<;>intro h3
   ·refine ab ?_
    refine xO aa hw ?_;clear hw;intro e1 w hw
    repeat (first|refine bV ?_|(refine cB ?_;clear hw;intro s w hw))
    replace hw:=hw.tail.tail.gH;rw[nil_append,append_assoc,<-qnK]at hw;exact⟨x+1,_,_,⟨rfl,rfl,trivial⟩,aH,⟨by omega,by simp;omega,hw⟩,by omega⟩
   ·have sK:x=V.toNat:=by omega
    subst sK;rw[<-qjF cI]at hw;refine ab ?_;exact⟨i+1,_,ss2,⟨rfl,rfl,trivial⟩,aH,⟨by omega,by rw[succ_mul];omega,hw⟩,by omega⟩
  ·have iJ:i=L.length:=by omega
   subst iJ;rw[qld,<-hS]at hw;refine ab ?_;exact⟨k+1,_,ss',⟨rfl,rfl,trivial⟩,aH,⟨by omega,(hb.call hw).comm.tail.tail⟩,by omega⟩
 ·rw[take_of_length_le om]at hw
  refine ab ?_;exact aW (v:=s) rfl rfl ⟨s,ss,rfl,hw⟩
theorem qoH {w0:World}{a b c d:Value}{vs:List AK}{t:Aa}(ht:Am w0 a b c d vs t) (hg:Af t) (hB:bK t.vars<=65536) :
  Calls Tryz.prog 13 #[.agg #[a,b,c,d]] w0 fun e w'=>∃ s,e=.returned s/\Sat w0 w' [OS ax 41 s (gF t)]:=by
 have eF:=ht;obtain⟨ha,hb,hc,hd⟩:=ht;have jx:=hd.rs;have jZ:=hd.len;have jv:=jx.bo;have l5:=hg.ops;have hlen:(aB t.vars).length<=65536:=by rw[uc hg.pos];omega
 have hw:=Sat.start w0;refine bn (args:=[.agg #[a,b,c,d]]) mixed Tryz.func13 ?_;refine db ?_;intro p w hw;obtain⟨pt,dO⟩:∃ pt,pt=p:=⟨p,rfl⟩
 subst dO;refine aJ rfl (qg2 (ha.at hw) hg.pos hg.vars hB) ?_;rintro _ w' ⟨sv,ss,rfl,aj⟩;replace hw:=hw.call2 aj;clear aj;have jX:=hw.bw;refine⟨_,rfl,?_⟩;refine ab ?_;refine dj [3,8,13,43] (G:=Nat) (H:=Value) (fun i s=>[(13,.int .i64 i),(3,s)]) (fun i s w=>i<=(aB t.vars).length/\Sat w0 w [OS ax 41 s (gI t i),Ab aa 3 ss (aB t.vars),OS al 22 sv ss,Ad pt 26 [a,b,c,d]]) (fun i _=>(aB t.vars).length-i) 0 _ (fun _ _=>rfl) ⟨rfl,rfl,trivial⟩ ⟨zero_le _,hw.nil⟩ ?_;clear hw;rintro σ i s w ⟨hi,hw⟩;refine ab ?_;refine ai ?_ ?_<;>intro h1
 ·have cI:i<(aB t.vars).length:=by omega
  have cu:=qdq hg.pos cI;have aK:=qnM t i;have uV:i*t.ops.length<=65536*4096:=Nat.mul_le_mul om l5;refine ab ?_;refine dj [3,3,6,8,21,42] (G:=Nat) (H:=Value) (fun j s=>[(21,.int .i64 j),(3,s)]) (fun j s w=>j<=t.ops.length/\Sat w0 w [OS ax 41 s (gI t i++fX t ((aB t.vars).getD i []) i j),Ab aa 3 ss (aB t.vars),OS al 22 sv ss,Ad pt 26 [a,b,c,d]]) (fun j _=>t.ops.length-j) 0 s (fun _ _=>rfl) ⟨rfl,rfl,trivial⟩ ⟨zero_le _,by rw[qlf,append_nil];exact hw⟩ ?_;clear hw;rintro σ1 j s1 w ⟨hj,hw⟩;refine ab ?_;refine ai ?_ ?_<;>intro h2
  ·have cJ:j<t.ops.length:=by omega
   have l6:=qht t ((aB t.vars).getD i []) i j;refine ab ?_;refine aJ rfl (qoL (eF.at hw) ((hw.focus 1 rfl).row cI) hg cu.1) ?_;rintro _ w' ⟨r,rv,rfl,hr,aj⟩;refine aA ?_;clear aj hw;intro hw;rw[Int.toNat_natCast]at hr hw
   cases r with
   | false =>
    refine ab ?_;refine⟨j+1,s1,⟨rfl,rfl,trivial⟩,aH,⟨by omega,?_⟩,by omega⟩;rw[qdQ,lD,if_neg (fun h=>by have:=hr.2 ⟨by omega,by omega,h⟩;cases this),append_nil]
    exact hw.tail
   | true =>
    have kb:=(hr.1 rfl).2.2;have hso:=qA hg cu.1 cJ;rw[if_pos rfl]at hw;refine ab ?_;refine aJ rfl (qrC (a:=a) (b:=rv) (ha.at hw) (aM hw) hso hg.pos om) ?_;rintro _ w' ⟨rfl,aj⟩;refine aC ?_;clear aj hw;intro hw;refine ab ?_;refine jh ax (x1:=⟨i,j,cN t.vars (bm t ((aB t.vars).getD i []) j)⟩) rfl rfl rfl (le_of_ble_eq_true rfl) (zero_lt_succ _) hw ?_;clear hw;intro s2 w hw;refine kq ?_;intro s w hw;refine⟨j+1,_,⟨rfl,rfl,trivial⟩,aH,⟨by omega,?_⟩,by omega⟩;rw[qdQ,lD,if_pos kb,<-append_assoc];exact hw.tail.tail
  ·have iR:j=t.ops.length:=by omega
   subst iR;rw[<-qf1]at hw;refine ab ?_;exact⟨i+1,_,⟨rfl,rfl,trivial⟩,aH,⟨by omega,hw⟩,by omega⟩
 ·have iJ:i=(aB t.vars).length:=by omega
  subst iJ;refine ab ?_;exact aW (v:=s) rfl rfl ⟨s,rfl,hw.only⟩
end
section
open Go.Sl Go
attribute [local irreducible] vc opsW opsD opV opW PureV ReadV Thn Blk

end
section
open Go.Sl Go
def AG (t:Aa) (L:List Int) (i:Int):Prop:=(cP t L (aL t.vars L).toNat).getD i.toNat ah.dflt=true
theorem qnJ {t:Aa}{L:List Int}{i:Int}(h0:0<=i) (h1:i<aL t.vars L):AG t L i↔CD t L i:=by
 unfold AG;rw[<-qgQ,show (cP t L (aL t.vars L).toNat).getD i.toNat ah.dflt=jJ t L (i.toNat:Int) from qkH om,Int.toNat_of_nonneg h0]
theorem qwA {t:Aa}{L cs:List Int}(h:cs.length=t.ops.length/\∀ x∈cs,0<=x/\x<=1099511627776):BO (aZ t L) cs (aL t.vars L).toNat:=by
 have key:∀ e∈aZ t L,(0<=e.src/\e.src<(aL t.vars L).toNat)/\(0<=e.dst/\e.dst<(aL t.vars L).toNat)/\0<=e.bI/\e.bI<cs.length:=by
  intro e he;obtain⟨x,op,y,hx,bW,hy,hT,rfl⟩:=qcy.1 he;exact⟨⟨by simp only;omega,by simp only;omega⟩,⟨by simp only;omega,by simp only;omega⟩,by simp only;omega,by simp only;omega⟩
 exact⟨fun e he=>(key e he).1,fun e he=>(key e he).2.1,fun e he=>(key e he).2.2,h.2⟩
theorem qjE {t:Aa}{L:List Int}(hg:Af t) (hL:A5 t.vars L) {s:List Int}{op:Nat}(hs:Ac t.vars s) (ho:op<t.ops.length) (ha:A6 t s op):(⟨bj t.vars L s,op,bj t.vars L (bm t s op)⟩:Au)∈aZ t L :=
 qcy.2 ⟨_,op,_,k9 hs hL.mem,ho,k9 (qA hg hs ho) hL.mem,⟨s,hs,rfl,ha,rfl⟩,rfl⟩
theorem qpd {t:Aa}{L:List Int}(hL:A5 t.vars L) {s:List Int}(hs:Ac t.vars s) (h:Aq s t.goal):AG t L (bj t.vars L s):=by
 have hb:=k9 hs hL.mem;rw[qnJ hb.1 hb.2];exact⟨s,hs,rfl,sN.2 fun x hx=>sN.1 h x (mem_filter.1 hx).1⟩
end
section
open Go.Sl Go
attribute [local irreducible] vc opsW opsD opV opW PureV ReadV Thn Blk
theorem qid {vars:List Int}(hd:∀ x∈vars,1<=x):∀ (m:Nat) (q:List Int),m<=vars.length->A5 vars q->(∀ v∈q,v<m)->aL vars q<=bK (vars.take m)
 | 0,q,_,hq,hm=>by
  cases q with
  | nil=>simp[aL,dV,bK]
  | cons v q=>have:=hm v (by simp);have:=(hq.mem v (by simp)).1;omega
 | m+1,q,hl,hq,hm=>by
  have eT:m<vars.length:=by omega
  have hx:1<=vars.getD m aa.dflt:=hd _ (bY _ eT);have hp:1<=bK (vars.take m):=wq fun x hx=>hd x (mem_of_mem_take hx);rw[dJ aa.dflt eT,wu];rcases eq_nil_or_concat q with rfl|⟨l,v,rfl⟩
  ·have:aL vars []=1:=rfl
   have:=Int.mul_le_mul hp hx om om;omega
  ·simp only[concat_eq_append]at hq hm ⊢
   obtain⟨rS,⟨sk,jA⟩,eW⟩:=hq.init;have bD:∀ u∈l,u<v:=fun u hu=>(pairwise_append.1 hq.asc).2.2 u hu v (by simp);have hvm:=hm v (by simp);by_cases e:v=m
   ·subst e
    have ih:=qid hd m l om rS fun u hu=>bD u hu;rw[qgh,qo];exact Int.mul_le_mul_of_nonneg_right ih om
   ·have ih:=qid hd m (l++[v]) om hq fun u hu=>by
     rcases mem_append.1 hu with h|h
     ·have:=bD u h;omega
     ·rw[mem_singleton.1 h];omega
    have h2:bK (vars.take m)*1<=bK (vars.take m)*vars.getD m aa.dflt:=Int.mul_le_mul_of_nonneg_left hx om;omega
theorem zC {vars q:List Int}(hd:∀ x∈vars,1<=x) (hq:A5 vars q):aL vars q<=bK vars:=by
 have:=qid hd vars.length q (Nat.le_refl _) hq fun v hv=>(hq.mem v hv).2
 rwa[take_length]at this
theorem qwo {t:Aa}{p:List Int}(hd:∀ x∈t.vars,1<=x) (h:bK t.vars<=4096):¬B6 t p:=fun⟨op,_,h2⟩=>by
 have:=zC hd (qda t.vars (gy t op) p);unfold gB at h2;omega
instance (vars s:List Int):Decidable (Ac vars s):=by unfold Ac;infer_instance
instance (vars:List Int) (x:Fact):Decidable (Ao vars x):=by unfold Ao;infer_instance
instance (vars:List Int) (f:List Fact):Decidable (Ax vars f):=by unfold Ax;infer_instance
end
end Go.Proofs.YtmapkjoefdgjfaaGreatDoor
