/-
  What the statements of layer 42 share: patterns whose databases are small, and what 'New' makes of them.
-/
import Derived.Test.YtmapkjoefdgjfaaGreatDoorWPat4
import Derived.Test.YtmapkjoefdgjfaaGreatDoorTInd
import Derived.Test.YtmapkjoefdgjfaaGreatDoorTCliR
import Derived.Test.YtmapkjoefdgjfaaGreatDoorWPdbAw
set_option linter.unusedSimpArgs false
set_option linter.unusedVariables false
set_option maxRecDepth 8000
set_option maxHeartbeats 16000000
open List Nat
namespace Go.Proofs.YtmapkjoefdgjfaaGreatDoor
open Go.Sl Go
attribute [local irreducible] vc opsW opsD opV opW PureV ReadV Thn Blk
structure AX (t:Aa) (Ls:List (List Int)):Prop where
 small:AB t
 len:Ls.length<=32
 inv:∀ i,i<Ls.length->A5 t.vars (Ls.getD i [])
 cnt:∀ i,i<Ls.length->aL t.vars (Ls.getD i [])<=512
 full:0<Ls.length->¬A7 Ls.length (nN Ls.length (eB t Ls Ls.length))
theorem qjW {n:Nat}{N:Nat->Nat}(h:n<=12):¬A7 n N:=by
 rintro⟨M,hd,eT,hm⟩;have h2:=qls hd (M:=List.range (2 ^ n)) fun C hC=>mem_range.2 (hm C hC).lt;rw[length_range]at h2;have:2 ^ n<=2 ^ 12:=Nat.pow_le_pow_right (by decide) h;omega
section
variable {t:Aa}{Ls Ds Cs:List (List Int)}
theorem AX.qyr (h:AX t Ls):eG t Ls=0:=by
 unfold eG;rw[if_neg (by rw[(nZ t).2 h.small.cr];decide),if_pos fun i hi=>(h.inv i hi).pat]
theorem AX.qwF (h:AX t Ls):cD t Ls=0:=by
 unfold cD;rw[if_neg (by simp[h.qyr]),if_neg (by have:=h.len;omega),if_neg (fun hh=>h.full hh.1 hh.2)]
theorem AX.qwY (h:AX t Ls):∀ i,i<Ls.length->bM t (Ls.getD i [])=0:=fun i hi=>(zD h.small (h.inv i hi)).1
theorem AX.yJ (h:AX t Ls) {i:Nat}(hi:i<Ls.length):fJ t (Ls.getD i []) []=0:=qro h.small.cr ⟨by simp,by simp⟩ (h.qwY i hi)
structure AZ (t:Aa) (Ls Ds Cs:List (List Int)):Prop where
 kV:AX t Ls
 dl:Ds.length=Ls.length
 cl:Cs.length<=4096
 zero:Ls=[]->Cs=[]
 o5:Ls≠[]->Bh Ls.length (nN Ls.length (eB t Ls Ls.length)) Cs
 bf:∀ i,i<Ls.length->As (aZ t (Ls.getD i [])) (ar t) (AG t (Ls.getD i [])) (aL t.vars (Ls.getD i [])).toNat (Ds.getD i [])
theorem AZ.ci (h:AZ t Ls Ds Cs):∀ l∈Cs,∀ i∈l,0<=i/\i<Ls.length:=fun l hl i hi=>by
 by_cases e:Ls=[]
 ·rw[h.zero e]at hl;simp at hl
 ·obtain⟨C,_,rfl⟩:=(h.o5 e l).1 hl
  obtain⟨v,hv,_,rfl⟩:=qdh.1 hi;omega
theorem AZ.can (h:AZ t Ls Ds Cs):∃ Cs',Br t Ls Ds (nN Ls.length (eB t Ls Ls.length)) Cs'/\∀ s,fc t Ls Ds Cs s=fc t Ls Ds Cs' s:=by
 have hA:=qys t Ls;by_cases e:Ls=[]
 ·refine⟨[[]],⟨h.kV.small.cr,h.kV.inv,h.kV.cnt,h.kV.len,h.bf,hA.gr,hA.add,?_⟩,fun s=>?_⟩
  ·have e0:Ls.length=0:=by rw[e];rfl
   rw[e0];intro l;constructor
   ·intro hl
    rw[mem_singleton]at hl;subst hl;exact⟨0,⟨fun v hv=>by simp[ib]at hv,fun u v hu=>by simp[ib]at hu,fun u hu=>absurd hu (not_lt_zero _)⟩,rfl⟩
   ·rintro⟨C,_,rfl⟩
    exact mem_singleton.2 rfl
  ·rw[h.zero e]
   unfold fc dY;rfl
 ·exact⟨Cs,⟨h.kV.small.cr,h.kV.inv,h.kV.cnt,h.kV.len,h.bf,hA.gr,hA.add,h.o5 e⟩,fun _=>rfl⟩
theorem AZ.cC (h:AZ t Ls Ds Cs) {s:List Int}(hs:Ac t.vars s):0<=fc t Ls Ds Cs s/\fc t Ls Ds Cs s<=inf:=by
 obtain⟨Cs',h1,h2⟩:=h.can;rw[h2];exact h1.qyt hs
theorem AZ.step (h:AZ t Ls Ds Cs) {s:List Int}{op:Nat}(hs:Ac t.vars s) (ho:op<t.ops.length) (ha:A6 t s op) (hf:fc t Ls Ds Cs (bm t s op)<inf):fc t Ls Ds Cs s<inf/\fc t Ls Ds Cs s<=(ar t).getD op aa.dflt+fc t Ls Ds Cs (bm t s op):=by
 obtain⟨Cs',h1,h2⟩:=h.can;rw[h2]at hf;rw[h2,h2];have:=h1.step hs ho ha hf;exact⟨by omega,by omega⟩
end
theorem qsv {w0:World}{a b c d s:Value}{vs:List AK}{t:Aa}{ss:List Value}{Ls:List (List Int)}(ht:Am w0 a b c d vs t) (hl:Co w0 s ss Ls) (hT:Bp w0) (hp:AX t Ls) :
  Calls Tryz.prog 56 #[.agg #[a,b,c,d],s] w0 fun e w'=>∃ p Ds Cs,e=.returned (.tuple #[.pointer (some p),.nilIface])/\AZ t Ls Ds Cs/\Sat w0 w' [Aj fun w=>BT w p t Ls Ds Cs]:=by
 refine(qh9 ht hl hT).mono fun e w' h=>?_;rcases h with ⟨h,_⟩|⟨_,⟨k,hk,_,hb,_⟩,_⟩|⟨_,_,_,_,p,Ds,Cs,he,h1,h2,h3,h4,h5,hk⟩
 ·exact absurd hp.qwF h
 ·exact absurd (hp.yJ hk) hb
 ·exact⟨p,Ds,Cs,he,⟨hp,h4,h3,h1,h2,h5⟩,hk⟩
end Go.Proofs.YtmapkjoefdgjfaaGreatDoor
