/-
  The laws of the walks and the plain laws of numbers and polynomials, part 2: SqMath, SqMath2, Det, Subres, EndMath, InvMath, QPoly, Gauss, CountMath, Norm, Bound, GcdMath, ValMath, GcdPreds, SqfMath, QuoMath, YunMath, FacPreds, PolysPreds, ZPreds, PZPreds, IntPreds, ListPreds, HenPreds, StepMath, MulIMath, ModMath2, ModDiv, ModGcd, LiftMath, ModPreds, ModApp, GenPreds, StructPreds, MapPreds, TreePreds, SparseMath, PointPreds, GatPreds, BldMath, TreeMath, CellPreds, QMath, PtLaws, PtIn, OvMath, QMath2, CubMath, CubGcd, CubPreds, CubQ, SqPreds, ModTab, ModWalk, LiftThy, LiftThy2, LiftThy3, LiftThy4, LiftThy5, FacThy, FacThy2, LiftThy6, FacThy3, FacWalk, BasisMath, CubNum, CubAlg, ResMath, CopyK.
-/
import Derived.Test.YtnkfdkhjaklolaaGreatDoorLibA
import Derived.ChangeKeysEq
import Derived.WideKeyRuns
import Derived.LoopN
open BitVec renaming ofInt→UL,ofNat→Ue,toNat_ofNat→WK
open Bool renaming and_eq_true→UH
open Int renaming emod_lt_of_pos→Qzh,emod_nonneg→Qza,eq_of_mul_eq_mul_left→Qyp,le_refl→QyQ,lt_or_gt_of_ne→WX,lt_or_le→QzF,mul_comm→WW,mul_ediv_add_emod→Qy2,mul_le_mul_of_nonneg_left→WZ,mul_ne_zero→UE,mul_nonneg→Qzk,mul_one→QzB,mul_pos→Wm,mul_tdiv_cancel'→Qy7,mul_zero→WH,natAbs_mul→UW,natAbs_natCast→Qyo,natCast_add→Qyt,natCast_mul→Wa,neg_eq_zero→Qzs,one_mul→Qyw,pos_of_mul_pos_right→QyS,sign_eq_neg_one_of_neg→UX,sign_eq_one_of_pos→Uq,sign_eq_zero_iff_zero→WV,sign_mul→QyT,sign_neg→Qzi,sign_sign→Qzn,tdiv_self→QzD,zero_mul→Qyi
open List renaming append_assoc→WI,append_nil→Wg,cons_append→Qye,drop_append_of_le_length→WF,drop_eq_getElem_cons→Ws,drop_of_length_le→Us,eq_nil_of_length_eq_zero→Ua,eq_of_mem_replicate→Uu,ext_getElem→Qyf,ext_getElem?→WS,getD→Uh,getElem?_append_left→UR,getElem?_append_right→UD,getElem?_drop→UU,getElem?_eq_getElem→Ud,getElem?_eq_none→Ul,getElem?_map→Un,getElem?_range→WT,getElem?_replicate→WL,getElem?_set→WU,getElem?_set_ne→Qy8,getElem?_set_self→Qyz,getElem?_take→WA,getElem_mem→Wr,getElem_of_mem→Qzd,getLast?_eq_getElem?→QyL,getLast?_map→Qzm,length→Wq,length_append→UO,length_cons→Um,length_map→UY,length_nil→Uv,length_set→UF,map→QzE,map_append→Uo,map_cons→Wk,map_set→UA,map_take→Wx,mem_cons→WN,mem_cons_self→Wu,mem_map_of_mem→Qyk,mem_of_getElem?→Ub,mem_of_mem_drop→Wl,mem_of_mem_take→UJ,mem_or_eq_of_mem_set→Wi,nil_append→WO,range→UV,range_succ→WP,replicate→Uc,replicate_succ→Qyl,set_append_right→US,set_cons_zero→WY,take_add_one→Wy,take_append_drop→Ux,take_append_of_le_length→UI,take_of_length_le→Ui,take_zero→QyM
open Nat renaming add_assoc→QyH,add_mul→UZ,add_sub_cancel→Wn,add_zero→WB,div_add_mod→Qym,dvd_mul_left→Qzq,eq_zero_or_pos→Uk,gcd→UK,le_of_eq→Qy4,le_refl→Ug,le_trans→Wj,lt_of_le_of_lt→QyC,lt_of_lt_of_le→UM,lt_or_ge→Up,mod_eq_of_lt→UQ,mod_lt→UG,mul_comm→UC,mul_le_mul_left→Uf,mul_le_mul_right→Uy,mul_one→Wt,one_mul→Qyy,pow_le_pow_right→UN,pow_succ→WC,sub_self→WD,zero_add→WJ,zero_le→Qyr
open Option renaming getD_some→Qyg,map_some→QyY
open Rat renaming intCast_add→QyZ,intCast_lt_intCast→WE,intCast_mul→Ur,intCast_neg→Qzw,intCast_sub→Qzx,le_of_lt→QzG,pow_succ→QyW
namespace Go.Gx
variable{F G H L:List Int}{a v:Int}{c g i k n u:Nat}
theorem Qm5(hk:0<k)(hl:k≤F.length):F.drop (k -1)=co F (k -1)::F.drop k:=by
 rw[Ws (show k -1<F.length by omega),show k -1+1=k by omega]
 simp [co,Uh,show k -1<F.length by omega]
def YW(l:List Int):Nat:=l.foldr (fun a g=>UK g a.natAbs) 0
theorem QdH(a:Int)(l:List Int):YW (a::l)=UK (YW l) a.natAbs:=rfl
theorem QgJ(hg:g=UK c (YW (F.drop k)))(hk:0<k)(hl:k≤F.length)(ha:a=co F (k -1))(hu:u=a.natAbs):UK g u=UK c (YW (F.drop (k -1))):=by
 rw[Qm5 hk hl,QdH,←ha,←hu,hg,Nat.gcd_assoc]
theorem Qh1(hk:F.length≤k):c=UK c (YW (F.drop k)):=by
 rw[Us hk];simp [YW]
theorem QiB{F:List Int}{c:Nat}: ∀(k:Nat),UK c (YW (F.drop k))=1→UK c (YW F)=1
 |0,h=>h
 |k+1,h=>by
  rcases Up k F.length with hk|hk
  ·refine QiB k ?_
   have e:=QgJ (F:=F) (k:=k+1) (c:=c) rfl (by omega) (by omega) rfl rfl
   rw[show k+1 -1=k from rfl,h] at e
   rw[←e];simp
  ·rw[Us (by omega)] at h
   have :c=1:=by simpa [YW] using h
   rw[this];simp
def cc2(F G:List Int):Nat→Nat
 |0=>0
 |1=>YW F
 |_=>UK (YW F) (YW G)
theorem Qgj(hi:i<2)(h0:i=0→H=F)(h1:i=1→H=G):UK (cc2 F G i) (YW H)=cc2 F G (i+1):=by
 rcases(show i=0∨i=1 by omega) with rfl|rfl
 ·rw[h0 rfl];simp [cc2]
 ·rw[h1 rfl];rfl
theorem Qoz(hi:i<2)(h:cc2 F G (i+1)=1):cc2 F G 2=1:=by
 rcases(show i=0∨i=1 by omega) with rfl|rfl
 ·have h:YW F=1:=h
  show UK (YW F) (YW G)=1
  rw[h];simp
 ·exact h
theorem Qh0: ∀{F:List Int},YW F=0→ ∀i,co F i=0
 | [],_,i=>by simp [co]
 |a::F,h,i=>by
  rw[QdH] at h
  have h1:=Nat.eq_zero_of_gcd_eq_zero_left h
  have h2:=Nat.eq_zero_of_gcd_eq_zero_right h
  cases i with
  |zero=>simp [co];omega
  |succ i=>have :=Qh0 h1 i;simpa [co] using this
def ldP(F:List Int):Int:=coI (Xi F) (((Xi F).length:Int) -1)
theorem QgX(h:ldP F=0):Xi F=[]:=by
 rcases Uk (Xi F).length with h0|h0
 ·exact Ua h0
 ·exfalso
  unfold ldP at h
  rw[show(((Xi F).length:Int) -1)=(((Xi F).length -1:Nat):Int) by omega,QgG] at h
  exact Qap (f:=Xi F) (XJ Qa6 F) (by omega) h
theorem Qgl(h:ldP F≠0):0<YW F:=by
 rcases Uk (YW F) with h0|h0
 ·exfalso;apply h
  have hz:=Qh0 h0
  unfold ldP
  by_cases hl:(((Xi F).length:Int) -1)<0
  ·simp [coI,hl]
  ·rw[←QvV (by omega),YP,hz]
 ·exact h0
def QeZ(F:List Int):Int:=if ldP F<0 then -(YW F:Int) else(YW F:Int)
def Zy(F:List Int):List Int:=(Xi F).map (fun x=>x.tdiv (QeZ F))
theorem Qh9(h:ldP F=0):[]=Zy F:=by unfold Zy;rw[QgX h];rfl
theorem QuK{c:Int}(h: ∀j,co L j=if j<k then(co G j).tdiv c else co G j)(hk:k<L.length)(hv:v=(co L k).tdiv c): ∀j,co (L.set k v) j=if j<k+1 then(co G j).tdiv c else co G j:=fun j=>by
 by_cases e:j=k
 ·subst e
  rw[if_pos (by omega),hv,h j,if_neg (by omega)]
  simp [co,Uh,Qyz hk]
 ·have e2:co (L.set k v) j=co L j:=by simp only[co,Uh];rw[Qy8 (Ne.symm e)]
  rw[e2,h j]
  by_cases h1:j<k
  ·rw[if_pos h1,if_pos (by omega)]
  ·rw[if_neg h1,if_neg (by omega)]
theorem Qwy{c:Int}(h: ∀j,co L j=if j<k then(co G j).tdiv c else co G j)(hl:L.length=G.length)(hk:G.length≤k):L=G.map (fun x=>x.tdiv c):=by
 apply Qyf
 ·simpa using hl
 ·intro i h1 h2
  have e:=h i
  rw[if_pos (by omega)] at e
  simp only[co,Uh] at e
  rw[Ud h1,Ud (by omega)] at e
  simpa using e
theorem Qk8(a:Int): ∀(n i:Nat),co (QdJ [a] n) i=if i=0 then a^n else 0
 |0,i=>by cases i<;>simp [QdJ,co]
 |n+1,i=>by
  show co (ZR (QdJ [a] n) [a]) i=_
  rw[YG]
  unfold conv Qbt
  cases i with
  |zero=>
   have e:=Qk8 a n 0
   simp [QaG,co,Int.pow_succ] at e⊢
   rw[e]
  |succ i=>
   rw[if_neg (by omega)]
   have :QaG (fun j=>co (QdJ [a] n) j*co [a] (i+1 -j)) (i+1+1)=QaG (fun _=>0) (i+1+1):=Zc fun j hj=>by
    rw[Qk8 a n]
    by_cases h0:j=0
    ·subst h0;simp [co]
    ·rw[if_neg h0,Qyi]
   rw[this]
   have z: ∀m,QaG (fun _=>(0:Int)) m=0:=by intro m;induction m with |zero=>rfl|succ m ih=>simp [QaG,ih]
   exact z _
theorem Quw(h:F=Xi (QdJ [a] n)):ldP F=a^n:=by
 have hF:Xi F=F:=by rw[h];exact XJ Qa6 _
 have hc: ∀i,co F i=if i=0 then a^n else 0:=fun i=>by rw[h,YP,Qk8]
 unfold ldP
 rw[hF]
 rcases Uk F.length with h0|h0
 ·rw[←Qk7 (.inl (by omega))]
  have :=hc 0
  rw[if_pos rfl,Ua h0] at this
  simpa [co] using this
 ·rw[show((F.length:Int) -1)=((F.length -1:Nat):Int) by omega,QgG]
  have h1:=Qap (f:=F) (by rw[h];exact XJ Qa6 _) (by omega)
  rw[hc] at h1⊢
  by_cases e:F.length -1=0
  ·rw[if_pos e]
  ·rw[if_neg e] at h1;exact absurd rfl h1
end Go.Gx

namespace Go.Gx
def cs(G:List Int)(low i:Nat):Int:=if low≤i then co G (i -low) else 0
variable{B E K M N d j k low m s t:Nat}{F G Q Q1 Q2 R R1:List Int}{L f v:Int}{x:Rat}
theorem QqN(G:List Int)(low i:Nat):co (Uc low 0++G) i=cs G low i:=by
 unfold cs co
 by_cases h:low≤i
 ·rw[if_pos h];simp only[Uh];rw[UD (by simpa using h)];simp
 ·rw[if_neg h];simp only[Uh];rw[UR (by simp;omega)]
  simp [WL,show i<low by omega]
theorem Qdk(q:Rat)(G:List Int): ∀low,evQ (Uc low 0++G) q=q^low*evQ G q
 |0=>by simp
 |low+1=>by
  rw[Qyl,Qye]
  simp only[evQ,Qdk q G low,QyW]
  have :((0:Int):Rat)=0:=rfl
  rw[this];grind
theorem Qgk(R:List Int)(t i:Nat):co (R.take t) i=if i<t then co R i else 0:=by
 simp only[co,Uh,WA]
 by_cases h:i<t
 ·rw[if_pos h,if_pos h]
 ·rw[if_neg h,if_neg h];rfl
theorem Qlx(hI: ∀x:Rat,evQ F x*(L:Rat)^m=evQ Q x*evQ G x+evQ (R.take t) x)(hQl:co Q low=0)(hQ2: ∀i,co Q2 i=if i=low then f else co Q i*L)(hR1: ∀i,i<t -1→co R1 i=co R i*L -f*cs G low i)(hf:f=co R (t -1))(hd:co G d=L)(hG: ∀i,d<i→co G i=0)(ht:t=low+d+1):
  ∀x:Rat,evQ F x*(L:Rat)^ (m+1)=evQ Q2 x*evQ G x+evQ (R1.take (t -1)) x:=fun x=>by
 have e1:evQ Q2 x=(L:Rat)*evQ Q x+(f:Rat)*x^low:=by
  have :evQ Q2 x=evQ (QrC (Zh Q L) (Zh (Uc low 0++[1]) f)) x:=Qag x fun i=>by
   rw[Qca,ZO,ZO,QqN,hQ2]
   by_cases h:i=low
   ·subst h;rw[if_pos rfl,hQl];simp [cs,co]
   ·rw[if_neg h]
    have :cs [1] low i=0:=by
     unfold cs
     by_cases h2:low≤i
     ·rw[if_pos h2];have :i -low≠0:=by omega
      cases hh:i -low with
      |zero=>omega
      |succ j=>simp [co]
     ·rw[if_neg h2]
    rw[this];omega
  rw[this,QbY,ZK,ZK,Qdk]
  simp only[evQ]
  have h1:((1:Int):Rat)=1:=rfl
  rw[h1];grind
 have e2:(L:Rat)*evQ (R.take t) x=(f:Rat)*(x^low*evQ G x)+evQ (R1.take (t -1)) x:=by
  rw[←Qdk,←ZK,←ZK,←QbY]
  refine Qag x fun i=> ?_
  rw[Qca,ZO,ZO,QqN,Qgk,Qgk]
  by_cases h1:i<t -1
  ·rw[if_pos (by omega),if_pos h1,hR1 i h1,WW (cs G low i)];omega
  ·rw[if_neg h1]
   by_cases h2:i<t
   ·have hi:i=t -1:=by omega
    rw[if_pos h2,hi,←hf]
    have :cs G low (t -1)=L:=by unfold cs;rw[if_pos (by omega),show t -1 -low=d by omega,hd]
    rw[this,WW];omega
   ·rw[if_neg h2]
    have :cs G low i=0:=by unfold cs;rw[if_pos (by omega),hG _ (by omega)]
    rw[this];simp
 have h:=hI x
 rw[e1,QyW]
 grind
theorem Qm9(hI: ∀x:Rat,evQ F x=evQ Q x*evQ G x+evQ R x)(hQl:co Q low=0)(hQ2: ∀i,co Q2 i=if i=low then f else co Q i)(hR1: ∀i,co R1 i=co R i -f*cs G low i): ∀x:Rat,evQ F x=evQ Q2 x*evQ G x+evQ R1 x:=fun x=>by
 have e1:evQ Q2 x=evQ Q x+(f:Rat)*x^low:=by
  have :evQ Q2 x=evQ (QrC Q (Zh (Uc low 0++[1]) f)) x:=Qag x fun i=>by
   rw[Qca,ZO,QqN,hQ2]
   by_cases h:i=low
   ·subst h;rw[if_pos rfl,hQl];simp [cs,co]
   ·rw[if_neg h]
    have :cs [1] low i=0:=by
     unfold cs
     by_cases h2:low≤i
     ·rw[if_pos h2]
      cases hh:i -low with
      |zero=>omega
      |succ j=>simp [co]
     ·rw[if_neg h2]
    rw[this];omega
  rw[this,QbY,ZK,Qdk]
  simp only[evQ]
  have h1:((1:Int):Rat)=1:=rfl
  rw[h1];grind
 have e2:evQ R x=(f:Rat)*(x^low*evQ G x)+evQ R1 x:=by
  rw[←Qdk,←ZK,←QbY]
  refine Qag x fun i=> ?_
  rw[Qca,ZO,QqN,hR1 i,WW (cs G low i)];omega
 have h:=hI x
 rw[e1]
 grind
theorem Qdg{L:List Int}(hk:k<L.length)(j:Nat):co (L.set k v) j=if j=k then v else co L j:=by
 by_cases e:j=k
 ·subst e;rw[if_pos rfl];simp [co,Uh,Qyz hk]
 ·rw[if_neg e];simp only[co,Uh];rw[Qy8 (Ne.symm e)]
theorem QpC(h: ∀i,co Q1 i=if i<j then co Q i*L else co Q i)(hj:j<Q1.length)(hv:v=co Q1 j*L): ∀i,co (Q1.set j v) i=if i<j+1 then co Q i*L else co Q i:=fun i=>by
 rw[Qdg hj]
 by_cases e:i=j
 ·subst e;rw[if_pos rfl,if_pos (by omega),hv,h i,if_neg (by omega)]
 ·rw[if_neg e,h i]
  by_cases h1:i<j
  ·rw[if_pos h1,if_pos (by omega)]
  ·rw[if_neg h1,if_neg (by omega)]
theorem Qnk(h0: ∀i,i<s→co Q i=0): ∀i,co Q i=if i<s then co Q i*L else co Q i:=fun i=>by
 by_cases h:i<s
 ·rw[if_pos h,h0 i h];simp
 ·rw[if_neg h]
theorem Qje(h: ∀i,co R1 i=if i<j then co R i*L -f*cs G low i else co R i)(hj:j<R1.length)(hv:v=co R1 j*L -f*cs G low j): ∀i,co (R1.set j v) i=if i<j+1 then co R i*L -f*cs G low i else co R i:=fun i=>by
 rw[Qdg hj]
 by_cases e:i=j
 ·subst e;rw[if_pos rfl,if_pos (by omega),hv,h i,if_neg (by omega)]
 ·rw[if_neg e,h i]
  by_cases h1:i<j
  ·rw[if_pos h1,if_pos (by omega)]
  ·rw[if_neg h1,if_neg (by omega)]
theorem QkL(h: ∀i,co R1 i=if i<low+j then co R i -f*cs G low i else co R i)(hj:low+j<R1.length)(hv:v=co R1 (low+j) -f*co G j): ∀i,co (R1.set (low+j) v) i=if i<low+(j+1) then co R i -f*cs G low i else co R i:=fun i=>by
 rw[Qdg hj]
 by_cases e:i=low+j
 ·subst e;rw[if_pos rfl,if_pos (by omega),hv,h _,if_neg (by omega)]
  have :cs G low (low+j)=co G j:=by unfold cs;rw[if_pos (by omega),show low+j -low=j by omega]
  rw[this]
 ·rw[if_neg e,h i]
  by_cases h1:i<low+j
  ·rw[if_pos h1,if_pos (by omega)]
  ·rw[if_neg h1,if_neg (by omega)]
theorem Qpo(hd:(Xi G).length=d+1):co G d=ldP G∧(∀i,d<i→co G i=0)∧ldP G≠0:=by
 have h1:ldP G=co (Xi G) d:=by unfold ldP;rw[hd,show(((d+1:Nat):Int) -1)=(d:Int) by omega,QgG]
 refine⟨by rw[h1,YP],fun i hi=> ?_,?_⟩
 ·rw[←YP];exact Qhv (n:=d+1) (by omega) i (by omega)
 ·rw[h1];have :=Qap (f:=Xi G) (XJ Qa6 G) (by omega);rwa [hd] at this
theorem QlU(h:B+E*s≤M+E*K)(hs:0<s):B+E+E*(s -1)≤M+E*K:=by
 obtain⟨t,rfl⟩: ∃t,s=t+1:=⟨s -1,by omega⟩
 rw[Nat.mul_succ] at h
 rw[Wn]
 omega
def psM(M G K:Nat):Nat:=M+(G+6)*K
theorem QwA{G:Nat}(h:B+(G+6)*t≤M+(G+6)*N)(hK:N≤K+t):B≤psM M G K:=by
 have h1:(G+6)*N≤(G+6)*(K+t):=Uf _ hK
 rw[Nat.mul_add] at h1
 unfold psM
 omega
def exM(M G K:Nat):Nat:=M+(G+14)*K+2
theorem Qv4{G:Nat}(h:B+(G+14)*t≤M+(G+14)*N)(hK:N≤K):B+2≤exM M G K:=by
 have h1:(G+14)*N≤(G+14)*K:=Uf _ hK
 unfold exM
 omega
def QsB(F G:List Int):Prop:= ∃(Q R:List Int)(s:Nat),(∀x:Rat,evQ F x=evQ Q x*evQ G x+evQ R x)∧(∀i,s+((Xi G).length -1)≤i→co R i=0)∧((0<s∧ ¬ldP G∣co R (s -1+((Xi G).length -1)))∨(s=0∧ ∃i,co R i≠0))
theorem pq2(h: ∀i,co Q1 i=if i<j then co Q i*L else co Q i)(hl:Q.length≤j)(hlow:low<Q1.length): ∀i,co (Q1.set low f) i=if i=low then f else co Q i*L:=fun i=>by
 rw[Qdg hlow]
 by_cases e:i=low
 ·rw[if_pos e,if_pos e]
 ·rw[if_neg e,if_neg e,h i]
  by_cases h1:i<j
  ·rw[if_pos h1]
  ·have hz:co Q i=0:=Qhv (n:=j) hl i (by omega)
   rw[if_neg h1,hz];simp
theorem QeP(h:ldP G≠0): ∃d,(Xi G).length=d+1:=by
 rcases Uk (Xi G).length with h0|h0
 ·exfalso;apply h;unfold ldP;rw[←Qk7 (.inl (by omega))]
 ·exact⟨(Xi G).length -1,by omega⟩
theorem Qiz(m i:Nat):co (zs (Uc m RI.zero)) i=0:=by
 simp only[co,Uh,Un,WL]
 by_cases h:i<m
 ·simp [h,RI.zero,RI.z,Xx,val]
 ·simp [h]
theorem Qj5(m:Nat)(x:Rat):evQ (zs (Uc m RI.zero)) x=0:=(Qag x (g:=[]) fun i=>by rw[Qiz];simp [co]).trans rfl
theorem QnE: ∀i,co R i=if i<low+0 then co R i -f*cs G low i else co R i:=fun i=>by
 by_cases h:i<low+0
 ·rw[if_pos h];unfold cs;rw[if_neg (by omega)];simp
 ·rw[if_neg h]
theorem QmT(h: ∀i,co R1 i=if i<low+j then co R i -f*cs G low i else co R i)(hj:j=d+1)(hG: ∀i,d<i→co G i=0): ∀i,co R1 i=co R i -f*cs G low i:=fun i=>by
 rw[h i]
 by_cases h1:i<low+j
 ·rw[if_pos h1]
 ·rw[if_neg h1]
  have :cs G low i=0:=by unfold cs;rw[if_pos (by omega),hG _ (by omega)]
  rw[this];simp
theorem Qr4(h: ∀i,co R1 i=co R i -f*cs G low i)(hs:s=low+1)(h0: ∀i,s+d≤i→co R i=0)(hd:co G d=L)(hG: ∀i,d<i→co G i=0)(hf:co R (low+d)=L*f): ∀i,s -1+d≤i→co R1 i=0:=fun i hi=>by
 rw[h i]
 by_cases e:i=low+d
 ·subst e
  have :cs G low (low+d)=L:=by unfold cs;rw[if_pos (by omega),show low+d -low=d by omega,hd]
  rw[this,hf,WW];omega
 ·have :cs G low i=0:=by unfold cs;rw[if_pos (by omega),hG _ (by omega)]
  rw[this,h0 i (by omega)];simp
theorem QqJ(h:0≤((Xi R).length:Int) -1): ∃i,co R i≠0:=by
 have :=Qap (f:=Xi R) (XJ Qa6 R) (by omega)
 rw[YP] at this
 exact⟨_,this⟩
theorem Qm7(h:((Xi R).length:Int) -1<0):evQ R x=0:=by
 rw[←Qat,Ua (by omega:(Xi R).length=0)];rfl
theorem Qma(g:List Int)(x:Rat): ∀k,evQ (QdJ g k) x=evQ g x^k
 |0=>by
  show evQ [1] x=_
  simp only[evQ]
  have e1:((1:Int):Rat)=1:=rfl
  rw[e1,Rat.pow_zero];grind
 |k+1=>by
  show evQ (ZR (QdJ g k) g) x=_
  rw[QcH,Qma g x k,QyW]
end Go.Gx

namespace Go.Gx
abbrev Row:=Nat→Int
def lap(D:List Row→Int)(c:Nat):List Row→List Row→Int
 |_,[]=>0
 |pre,r::rs=>r c*D (pre++rs) -lap D c (pre++[r]) rs
structure Qvp (D:List Row→Int):Prop where
 add: ∀(A:List Row)(u v:Row)(B:List Row),D (A++(fun c=>u c+v c)::B)=D (A++u::B)+D (A++v::B)
 smul: ∀(A:List Row)(k:Int)(u:Row)(B:List Row),D (A++(fun c=>k*u c)::B)=k*D (A++u::B)
 alt: ∀(A:List Row)(u:Row)(B:List Row),D (A++u::u::B)=0
section
variable{D:List Row→Int}(h:Qvp D)(c:Nat)
include h
end
section
variable{D:List Row→Int}(h:Qvp D)
include h
end
end Go.Gx

namespace Go.Gx
section
variable{a0 b0 a b q R r:List Int}{n0 m0 n m d nr:Nat}{l s D l' s':Int}
end
end Go.Gx

namespace Go.Gx
def evI:List Int→Int→Int
 | [],_=>0
 |a::l,x=>a+x*evI l x
theorem QiK(x:Int): ∀f:List Int,evQ f (x:Rat)=((evI f x:Int):Rat)
 | []=>rfl
 |a::l=>by simp only[evQ,evI,QiK x l,QyZ,Ur]
def Qbx(F:List Int)(m:Bool):Int:=if m=true∧((F.length:Int) -1).tmod 2≠0 then -(coI F ((F.length:Int) -1)).sign else(coI F ((F.length:Int) -1)).sign
theorem QlQ{x:Int}{H:Nat}(hx:(H:Int)+2≤x∨x≤ -((H:Int)+2)): ∀(F:List Int),F.length≠0→co F (F.length -1)≠0→hgt F≤H→evI F x≠0∧(0<x→(0<evI F x↔0<co F (F.length -1)))∧(x<0→(0<evI F x↔(if(F.length -1) % 2=0 then 0<co F (F.length -1) else co F (F.length -1)<0)))
 | [],h,_,_=>absurd rfl h
 | [a],_,h1,_=>by simp [evI,co] at h1⊢;exact h1
 |a::b::l,_,h1,h2=>by
  have e1:co (a::b::l) ((a::b::l).length -1)=co (b::l) ((b::l).length -1):=by simp [co]
  rw[e1] at h1⊢
  simp only[hgt] at h2
  have ih:=QlQ hx (b::l) (by simp) h1 (by simp only[hgt];omega)
  have ha:a.natAbs≤H:=by omega
  show a+x*evI (b::l) x≠0∧(0<x→(0<a+x*evI (b::l) x↔_))∧(x<0→(0<a+x*evI (b::l) x↔_))
  generalize evI (b::l) x=E at *
  generalize co (b::l) ((b::l).length -1)=c at *
  obtain⟨hE,hp,hn⟩:=ih
  have hl:(a::b::l).length -1=(b::l).length -1+1:=by simp
  rw[hl]
  generalize(b::l).length -1=k at *
  rcases hx with hx|hx
  ·rcases WX hE with h|h
   ·have h3:x*E≤x*(-1):=WZ (by omega) (by omega)
    refine⟨by omega,fun _=>⟨fun h4=>by omega,fun h4=> ?_⟩,fun h4=>by omega⟩
    have :=(hp (by omega)).2 h4;omega
   ·have h3:x*1≤x*E:=WZ (by omega) (by omega)
    refine⟨by omega,fun _=>⟨fun _=>(hp (by omega)).1 h,fun h4=>by omega⟩,fun h4=>by omega⟩
  ·have hn':=hn (by omega)
   rcases WX hE with h|h
   ·have h3:(-x)*1≤(-x)*(-E):=WZ (by omega) (by omega)
    rw[Int.neg_mul_neg] at h3
    have hpos:0<a+x*E:=by omega
    refine⟨by omega,fun h4=>by omega,fun _=>⟨fun _=> ?_,fun _=>hpos⟩⟩
    have hne: ¬(if k % 2=0 then 0<c else c<0):=fun h5=>by have :=hn'.2 h5;omega
    by_cases hk:k % 2=0
    ·rw[if_pos hk] at hne;rw[if_neg (by omega)];omega
    ·rw[if_neg hk] at hne;rw[if_pos (by omega)];omega
   ·have h3:(-x)*1≤(-x)*E:=WZ (by omega) (by omega)
    have e3:(-x)*E= -(x*E):=Int.neg_mul x E
    have hneg:a+x*E<0:=by omega
    refine⟨by omega,fun h4=>by omega,fun _=>⟨fun h4=>by omega,fun h5=> ?_⟩⟩
    exfalso
    have h6:=hn'.1 h
    by_cases hk:k % 2=0
    ·rw[if_pos hk] at h6;rw[if_neg (by omega)] at h5;omega
    ·rw[if_neg hk] at h6;rw[if_pos (by omega)] at h5;omega
end Go.Gx
namespace Go.Gx
end Go.Gx

namespace Go.Gx
theorem Qq1{f:List Int}(h: ∀x:Int,evI f x=0):Xi f=[]:=by
 by_cases h0:(Xi f).length=0
 ·exact Ua h0
 ·exfalso
  have hl:=Qap (XJ Qa6 f) h0
  have hb:=QlQ (x:=(hgt (Xi f):Int)+2) (H:=hgt (Xi f)) (.inl (QyQ _)) (Xi f) h0 hl (Ug _)
  apply hb.1
  have e:((evI (Xi f) ((hgt (Xi f):Int)+2):Int):Rat)=((evI f ((hgt (Xi f):Int)+2):Int):Rat):=by rw[←QiK,←QiK,Qat]
  rw[Rat.intCast_inj.1 e]
  exact h _
theorem QcI(q:Rat)(f g:List Int):evQ (Qfx f g) q=evQ f q -evQ g q:=by
 rw[Qag q (g:=QrC f (Zh g (-1))) (fun i=>by rw[Qk9,Qca,ZO];omega),QbY,ZK]
 show evQ f q+((-1:Int):Rat)*evQ g q=_
 have :((-1:Int):Rat)= -1:=rfl
 rw[this];grind
theorem Qfv{f g:List Int}(h: ∀x:Int,evQ f (x:Rat)=evQ g (x:Rat)):Xi f=Xi g:=by
 have h1:Xi (Qfx f g)=[]:=Qq1 fun x=>by
  have :=QcI (x:Rat) f g
  rw[h x,QiK] at this
  have e:evQ g (x:Rat) -evQ g (x:Rat)=((0:Int):Rat):=by
   have :((0:Int):Rat)=0:=rfl
   rw[this];grind
  rw[e] at this
  exact Rat.intCast_inj.1 this
 refine Qbz fun i=> ?_
 have h2:=YP (Qfx f g) i
 rw[h1,Qk9] at h2
 have :co [] i=0:=by simp [co]
 omega
end Go.Gx
namespace Go.Gx
end Go.Gx

namespace Go.Gx
structure QP where
 v:Rat→Rat
 p: ∃(c:Int)(l:List Int),c≠0∧ ∀x,(c:Rat)*v x=evQ l x
variable{f g l:List Int}{m n:Nat}
theorem QrA:((1:Int):Rat)=1:=rfl
def P(l:List Int):QP:=⟨evQ l,1,l,by decide,fun x=>by rw[QrA];grind⟩
instance:Add QP:=⟨fun f g=>⟨fun x=>f.v x+g.v x,by
 obtain⟨c,l,hc,h⟩:=f.p
 obtain⟨d,m,hd,k⟩:=g.p
 exact⟨c*d,QrC (Zh l d) (Zh m c),UE hc hd,fun x=>by rw[QbY,ZK,ZK,←h,←k,Ur];grind⟩⟩⟩
instance:Neg QP:=⟨fun f=>⟨fun x=> -f.v x,by
 obtain⟨c,l,hc,h⟩:=f.p
 exact⟨-c,l,by omega,fun x=>by rw[←h,Qzw];grind⟩⟩⟩
instance:Sub QP:=⟨fun f g=>⟨fun x=>f.v x -g.v x,by
 obtain⟨c,l,hc,h⟩:=f.p
 obtain⟨d,m,hd,k⟩:=g.p
 exact⟨c*d,Qfx (Zh l d) (Zh m c),UE hc hd,fun x=>by rw[QcI,ZK,ZK,←h,←k,Ur];grind⟩⟩⟩
instance:Mul QP:=⟨fun f g=>⟨fun x=>f.v x*g.v x,by
 obtain⟨c,l,hc,h⟩:=f.p
 obtain⟨d,m,hd,k⟩:=g.p
 exact⟨c*d,ZR l m,UE hc hd,fun x=>by rw[QcH,←h,←k,Ur];grind⟩⟩⟩
theorem QvY(r:Rat):((r.den:Int):Rat)≠0:=Qa2 (by have :=r.den_nz;omega)
theorem Qt8(r:Rat):((r.den:Int):Rat)*r=(r.num:Rat):=by
 have h:(r.num:Rat)/ ((r.den:Int):Rat)=r:=by
  rw[←Rat.divInt_eq_div];exact Rat.num_divInt_den r
 have :=QvY r
 grind
def K(r:Rat):QP:=⟨fun _=>r,r.den,[r.num],by have :=r.den_nz;omega,fun x=>by rw[Qt8];simp only[evQ];grind⟩
instance:OfNat QP 0:=⟨K 0⟩
instance:OfNat QP 1:=⟨K 1⟩
theorem Qhf(a b:Rat): ∀n:Nat,(a*b)^n=a^n*b^n
 |0=>by simp only[Rat.pow_zero];grind
 |n+1=>by simp only[QyW,Qhf a b n];grind
instance:HPow QP Nat QP:=⟨fun f n=>⟨fun x=>f.v x^n,by
 obtain⟨c,l,hc,h⟩:=f.p
 refine⟨c^n,QdJ l n,Int.pow_ne_zero hc,fun x=> ?_⟩
 rw[Qma,←h,Qhf,Qiu]⟩⟩
theorem Qdy(l:List Int):(∀i,(Xi l).length≤i→co l i=0)∧((Xi l).length=0∨co l ((Xi l).length -1)≠0):=by
 refine⟨fun i hi=> ?_,?_⟩
 ·rw[←YP];exact Qb9 hi
 ·rcases Uk (Xi l).length with h|h
  ·exact .inl h
  ·right;rw[←YP];exact Qap (f:=Xi l) (XJ Qa6 l) (by omega)
theorem Qu8(hz: ∀i,n≤i→co l i=0)(hn:n=0∨co l (n -1)≠0):(Xi l).length=n:=by
 have⟨a,b⟩:=Qdy l
 rcases Nat.lt_trichotomy (Xi l).length n with h|h|h
 ·exact absurd (a (n -1) (by omega)) (hn.resolve_left (by omega))
 ·exact h
 ·exact absurd (hz _ (by omega)) (b.resolve_left (by omega))
theorem QvX(hf: ∀i,m<i→co f i=0)(hg: ∀i,n<i→co g i=0):co (ZR f g) (m+n)=co f m*co g n∧ ∀i,m+n<i→co (ZR f g) i=0:=by
 constructor
 ·rw[YG]
  unfold conv Qbt
  rw[Qhj (n:=m+1) (by omega) (fun i h1 h2=>by rw[hf i (by omega),Qyi]),Qbe,QaC (fun i hi=>by rw[hg (m+n -i) (by omega),WH]),show m+n -m=n by omega,Int.zero_add]
 ·intro i hi
  rw[YG]
  refine QaC fun j hj=> ?_
  rcases Up m j with h|h
  ·rw[hf j h,Qyi]
  ·rw[hg (i -j) (by omega),WH]
theorem Qjp(hf:(Xi f).length≠0)(hg:(Xi g).length≠0):(Xi (ZR f g)).length+1=(Xi f).length+(Xi g).length:=by
 have⟨a,b⟩:=Qdy f
 have⟨c,d⟩:=Qdy g
 have⟨t1,t2⟩:=QvX (f:=f) (g:=g) (m:=(Xi f).length -1) (n:=(Xi g).length -1) (fun i hi=>a i (by omega)) (fun i hi=>c i (by omega))
 have :=Qu8 (l:=ZR f g) (n:=(Xi f).length+(Xi g).length -1) (fun i hi=>t2 i (by omega)) (.inr (by
  rw[show(Xi f).length+(Xi g).length -1 -1=(Xi f).length -1+((Xi g).length -1) by omega,t1]
  exact UE (b.resolve_left hf) (d.resolve_left hg)))
 omega
noncomputable def dg (f:QP):Nat:=(Xi (Classical.choose (Classical.choose_spec f.p))).length
instance:Dvd QP:=⟨fun g f=> ∃q,f=q*g⟩
def QxU(f g:QP)(k:Nat):Prop:= ∃r,f=r*g^k∧ ¬g∣r
end Go.Gx

namespace Go.Gx
theorem QiA{k:Nat}: ∀{F:List Int},(∀i,(k:Int)∣co F i)→k∣YW F
 | [],_=>by simp [YW]
 |a::F,h=>by
  rw[QdH]
  refine Nat.dvd_gcd (QiA fun i=> ?_) ?_
  ·have :=h (i+1);simpa [co] using this
  ·have :=h 0;exact Int.ofNat_dvd_left.1 (by simpa [co] using this)
theorem QcF: ∀(F:List Int)(i:Nat),(YW F:Int)∣co F i
 | [],i=>by simp [co]
 |a::F,i=>by
  rw[QdH]
  cases i with
  |zero=>
   have :co (a::F) 0=a:=by simp [co]
   rw[this];exact Int.ofNat_dvd_left.2 (Nat.gcd_dvd_right _ _)
  |succ i=>
   have :co (a::F) (i+1)=co F i:=by simp [co]
   rw[this]
   exact Int.dvd_trans (Int.ofNat_dvd.2 (Nat.gcd_dvd_left _ _)) (QcF F i)
theorem QpQ(F:List Int):(QeZ F).natAbs=YW F:=by unfold QeZ;split<;>omega
theorem QpR(F:List Int)(i:Nat):QeZ F∣co F i:=by rw[←Int.natAbs_dvd,QpQ];exact QcF F i
theorem Qt3(l:List Int)(p:Int)(i:Nat):co (l.map fun x=>x.tdiv p) i=(co l i).tdiv p:=by
 simp only[co,Uh,Un]
 cases l[i]? <;>simp
theorem Qt2(F:List Int)(i:Nat):QeZ F*co (Zy F) i=co F i:=by
 unfold Zy;rw[Qt3,YP];exact Qy7 (QpR F i)
theorem Qe0(F:List Int):(Zy F).length=(Xi F).length:=by unfold Zy;simp
theorem Qcq(F:List Int):Xi (Zy F)=Zy F:=by
 by_cases h:ldP F=0
 ·rw[←Qh9 h];rfl
 ·refine Qbs ?_
  by_cases h0:(Zy F).length=0
  ·exact .inl h0
  ·right
   intro e
   have h1:=Qt2 F ((Zy F).length -1)
   rw[e,WH,Qe0] at h1
   rw[Qe0] at h0
   exact(Qdy F).2.resolve_left h0 h1.symm
end Go.Gx

namespace Go.Gx
end Go.Gx

namespace Go.Gx
end Go.Gx

namespace Go.Gx
end Go.Gx

namespace Go.Gx
section
variable{a0 b0 a b q R r:List Int}{l s D:Int}
end
end Go.Gx

namespace Go.Gx
noncomputable def va (π f:QP):Nat:= @dite _ (∃k,QxU f π k) (Classical.propDecidable _) (fun h=>Classical.choose h) (fun _=>0)
end Go.Gx

namespace Go.Gx
theorem Xh.tightC{w:World}{S:Nat→Prop}{A:Option Addr}{n c M:Nat}{l:List RI}{K:Nat}(h:Xh w S A n c l M)(hc:ZB l)(hn: ∀i,(co (zs l) i).natAbs<BS^K):Xh w S A n c l K:=by
 refine⟨h.1,fun r hr=>⟨(h.2 r hr).1,?_⟩⟩
 have hN:=(h.2 r hr).1
 obtain⟨i,hi,e⟩:=Qzd hr
 have h1:=hn i
 have e1:co (zs l) i=r.z:=by simp [co,Uh,Ud hi,e]
 rw[e1] at h1
 have e2:r.z.natAbs=val r.d:=by unfold RI.z Xx;split<;>omega
 have h2:=YA (hc r hr).1 (k:=K) (by omega)
 have h3:r.d.length=r.n:=by have :=hN.1.1;simpa using this
 omega
end Go.Gx
namespace Go.Gx
end Go.Gx

namespace Go.Gx
end Go.Gx

namespace Go.Gx
end Go.Gx

namespace Go.Gx
section
variable{p rest other U g r1 o1:QP}{k:Nat}
end
end Go.Gx

namespace Go.Gx
open Go.RowKit
structure FE where
 A:Option Addr
 n:Nat
 c:Nat
 l:List RI
 k:Int
section
variable{w w':World}{S S' G:Nat→Prop}{A:Option Addr}{n c M:Nat}{l:List FE}
end
section
variable{w w':World}{B:Nat}{el:TypeId}{A:Option Addr}{n c M:Nat}{l:List FE}
end
section
variable{dfs:List Deferred}{P:Program}{n:Nat}{e:Nat→Value}{w:World}{K:Act→World→Prop}{Q:Exit→Act→World→Prop}{ty:TypeId}{pos:String}{af:Array Edge}{gd:Option (Nat×Bool)}
end
end Go.Gx
namespace Go.Gx
end Go.Gx

namespace Go.Gx
open Go.RowKit
structure PE where
 A:Option Addr
 n:Nat
 c:Nat
 l:List RI
section
variable{w w':World}{S S' G:Nat→Prop}{A:Option Addr}{n c M M':Nat}{l:List PE}
end
section
variable{P:Program}{n:Nat}{e:Nat→Value}{w:World}{ty:TypeId}{pos:String}{af:Array Edge}{gd:Option (Nat×Bool)}
theorem QcG{d:Option Nat}{t el:TypeId}{x ix:Operand}{b off len size:Nat}{k:IntKind}{z:Int}(i:Nat)(ht:P.underlying t=some (.array len el))(hs: ∀w,(sizeOf el).run P w= .ok size w)
  (hx:ev n e x= .pointer (some ⟨b,off,none⟩))(hi:ev n e ix= .int k z)(p:Nat)(hz:z=(i:Int):=by omega)(hlt:i<len:=by omega)(hp:off+i*size=p:=by omega):
  Ev P n e ⟨d,.indexAddr t x ix,ty,pos,af,gd⟩ w (.pointer (some ⟨b,p,none⟩)):=by
 subst hz hp
 have h1:(0:Int)≤(i:Int)∧(i:Int)<(len:Int):=⟨by omega,by omega⟩
 simp [Ev,execOp,hx,hi,Instr.indexAt,Instr.sureAddr,asIntOf,run_underlying ht,hs,hlt,addr_add]
end
end Go.Gx

namespace Go.Gx
open Go.RowKit
section
variable{w w':World}{S S' G:Nat→Prop}{s:Int}{A:Option Addr}{n c:Nat}{z:Int}
end
end Go.Gx

namespace Go.Gx
open Go.RowKit
variable{dfs:List Deferred}
section
variable{w w':World}{S S' G:Nat→Prop}{A:Option Addr}{n c M M':Nat}{f:List Int}
end
section
variable{T:Nat→Prop}{w w':World}{B:Nat}{el:TypeId}{S G:Nat→Prop}{A:Option Addr}{n c M:Nat}{f:List Int}
end
section
variable{P:Program}{n:Nat}{e:Nat→Value}{w:World}{K:Act→World→Prop}{Q:Exit→Act→World→Prop}{ty:TypeId}{pos:String}{af:Array Edge}{gd:Option (Nat×Bool)}
end
end Go.Gx
namespace Go.Gx
open Go.RowKit
variable{dfs:List Deferred}
section
variable{P:Program}{n:Nat}{e:Nat→Value}{w:World}{K:Act→World→Prop}{Q:Exit→Act→World→Prop}{ty:TypeId}{pos:String}{af:Array Edge}{gd:Option (Nat×Bool)}
end
end Go.Gx

namespace Go.Gx
open Go.RowKit
section
variable{w w':World}{S S' G:Nat→Prop}{A:Option Addr}{n c:Nat}{xs:List Int}
end
structure IE where
 A:Option Addr
 n:Nat
 c:Nat
 x:List Int
 k:Int
section
variable{w w':World}{S S' G:Nat→Prop}{A:Option Addr}{n c:Nat}{l:List IE}
end
section
variable{T:Nat→Prop}{w w':World}{B:Nat}{el:TypeId}{A:Option Addr}{n c:Nat}{l:List IE}
end
section
variable{dfs:List Deferred}{P:Program}{n:Nat}{e:Nat→Value}{w:World}{K:Act→World→Prop}{Q:Exit→Act→World→Prop}{ty:TypeId}{pos:String}{af:Array Edge}{gd:Option (Nat×Bool)}
end
end Go.Gx

namespace Go.Gx
open Go.RowKit
structure LK (α:Type) where
 v:α→Value
 R:World→(Nat→Prop)→α→Prop
 one: ∀a,(v a).oneCell'=true
 frmB: ∀{w w':World}{S G:Nat→Prop}{a:α},R w S a→Frm G w w'→(∀b,b<w.heap.size→S b→ ¬G b)→R w' S a
 ext: ∀{w w':World}{S:Nat→Prop}{a:α},R w S a→Ext w w'→R w' S a
 sub: ∀{w:World}{S S':Nat→Prop}{a:α},R w S a→(∀b,b<w.heap.size→S b→S' b)→R w S' a
section
variable{α:Type}{L:LK α}{w w':World}{S S' G:Nat→Prop}{A:Option Addr}{n c:Nat}{l:List α}
end
section
variable{α:Type}{L:LK α}{w w':World}{B:Nat}{el:TypeId}{A:Option Addr}{n c:Nat}{l:List α}
end
section
variable{dfs:List Deferred}{P:Program}{n:Nat}{e:Nat→Value}{w:World}{K:Act→World→Prop}{Q:Exit→Act→World→Prop}{ty:TypeId}{pos:String}{af:Array Edge}{gd:Option (Nat×Bool)}
end
section
variable{α β:Type}{L:LK α}{L':LK β}{w w':World}{B:Nat}{el el':TypeId}{A A':Option Addr}{n c n' c':Nat}{l:List α}{l':List β}
end
section
variable{dfs:List Deferred}{P:Program}{n:Nat}{e:Nat→Value}{w:World}{K:Act→World→Prop}{Q:Exit→Act→World→Prop}{ty:TypeId}{pos:String}{af:Array Edge}{gd:Option (Nat×Bool)}
end
end Go.Gx

namespace Go.Gx
open Go.RowKit
def Qun(p:List Int)(gs:List (List Int)):List Int:=gs.foldl (fun p g=>Xi (ZR p g)) p
end Go.Gx

namespace Go.Gx
end Go.Gx

namespace Go.Gx
def Qjy(f g:List Int)(i k j:Nat):Int:=co (ZR (f.take i) g) j+(if i≤j∧j -i<k then co f i*co g (j -i) else 0)
variable{f g:List Int}{i:Nat}
theorem Qnj(f g:List Int)(j:Nat):Qjy f g 0 0 j=0:=by
 unfold Qjy
 rw[if_neg (by omega),YG,QyM,show conv [] g j=0 from QaC fun i _=>by simp]
 rfl
theorem Qrp(j:Nat):Qjy f g i g.length j=Qjy f g (i+1) 0 j:=by
 unfold Qjy
 rw[if_neg (c:=i+1≤j∧j -(i+1)<0) (by omega),YG,YG,Int.add_zero]
 have h1:conv (f.take (i+1)) g j=QaG (fun a=>co (f.take i) a*co g (j -a)+(if a=i then co f i*co g (j -i) else 0)) (j+1):=by
  refine Zc fun a ha=> ?_
  show co (f.take (i+1)) a*co g (j -a)=co (f.take i) a*co g (j -a)+_
  rw[Qgk,Qgk]
  by_cases h:a=i
  ·subst h;rw[if_pos (by omega),if_neg (by omega),if_pos rfl];omega
  ·rw[if_neg h]
   by_cases h2:a<i
   ·rw[if_pos (by omega),if_pos h2];omega
   ·rw[if_neg (by omega),if_neg h2];omega
 rw[h1,QmH]
 congr 1
 by_cases hij:i≤j
 ·rw[Qhk (j:=i) (by omega) fun a _ hne=>if_neg hne,if_pos rfl]
  split
  ·rfl
  ·rename_i h
   rw[Qb9 (f:=g) (i:=j -i) (by omega),WH]
 ·rw[if_neg (by omega),QaC fun a ha=>if_neg (by omega)]
end Go.Gx

namespace Go.Gx
variable{a b i k p v:Nat}{f g:List Int}{o:List Nat}
theorem QiS(l:List Nat)(v j:Nat)(hi:i<l.length):(l.set i v).getD j 0=if j=i then v else l.getD j 0:=by
 simp only[Uh,WU]
 by_cases h:i=j
 ·subst h;simp [hi]
 ·rw[if_neg h,if_neg (Ne.symm h)]
theorem QpB(m j:Nat):(Uc m 0).getD j 0=md p (Qjy f g 0 0 j):=by
 rw[Qnj]
 have :md p 0=0:=by simp [md]
 rw[this]
 simp only[Uh,WL]
 split<;>rfl
theorem Qpz(hp:0<p)(h: ∀j,o.getD j 0=md p (Qjy f g i k j))(hk:i+k<o.length)(hv:v=(o.getD (i+k) 0+a*b % p) % p)(ha:co f i=a)(hb:co g k=b): ∀j,(o.set (i+k) v).getD j 0=md p (Qjy f g i (k+1) j):=fun j=>by
 rw[QiS _ _ _ hk]
 by_cases hj:j=i+k
 ·subst hj
  rw[if_pos rfl,hv,h]
  refine Qlm (UG _ hp) ((QaJ _).trans ?_)
  rw[Qyt]
  have e:Qjy f g i (k+1) (i+k)=Qjy f g i k (i+k)+(a:Int)*b:=by
   unfold Qjy
   rw[if_pos (by omega),if_neg (by omega),show i+k -i=k by omega,ha,hb];omega
  rw[e]
  refine(QqG hp _).add ((QaJ _).trans ?_)
  rw[Wa];exact Cg.refl p _
 ·rw[if_neg hj,h]
  congr 1
  unfold Qjy
  by_cases h1:i≤j∧j -i<k
  ·rw[if_pos h1,if_pos (by omega)]
  ·rw[if_neg h1,if_neg (by omega)]
theorem QpA(h: ∀j,o.getD j 0=md p (Qjy f g i g.length j)): ∀j,o.getD j 0=md p (Qjy f g (i+1) 0 j):=fun j=>by rw[h,Qrp]
theorem QgY{a b:List Nat}(hl:a.length=b.length)(h: ∀i,a.getD i 0=b.getD i 0):a=b:=by
 apply Qyf hl
 intro i h1 h2
 have :=h i
 simpa [Uh,Ud h1,Ud h2] using this
theorem QeN(l:List Int)(i:Nat)(h0:md p 0=0):(l.map (md p)).getD i 0=md p (co l i):=by
 simp only[co,Uh,Un]
 cases l[i]? with
 |none=>exact h0.symm
 |some x=>rfl
theorem Qdr(p:Nat):md p 0=0:=by simp [md]
theorem Qrq(h: ∀j,o.getD j 0=md p (Qjy f g i 0 j))(hi:f.length≤i)(hl:o.length=f.length+g.length -1)(hf:f.length≠0)(hg:g.length≠0):Zw o=QnK p (ZR f g):=by
 unfold QnK
 congr 1
 refine QgY ?_ fun j=> ?_
 ·rw[UY,hl];unfold ZR;rw[if_neg (by omega)];simp
 ·rw[h,QeN _ _ (Qdr p)]
  unfold Qjy
  rw[if_neg (by omega),Ui hi,Int.add_zero]
def Qqy(p:Nat)(f:List Nat):List Nat:=Zw (f.map (· % p))
end Go.Gx

namespace Go.Gx
def QeG(p:Nat):Prop:=2≤p∧ ∀a,0<a→a<p→UK a p=1
def Qbb(p:Nat)(g:List Nat)(n c k:Nat)(r:List Nat):List Nat:=(UV r.length).map fun i=>if n≤i∧i -n<k then(r.getD i 0+c*g.getD (i -n) 0 % p) % p else r.getD i 0
variable{a c k n p v:Nat}{f g r:List Nat}
theorem Qad:(Qbb p g n c k r).length=r.length:=by simp [Qbb]
theorem Qa0(i:Nat)(hi:i<r.length):(Qbb p g n c k r).getD i 0=if n≤i∧i -n<k then(r.getD i 0+c*g.getD (i -n) 0 % p) % p else r.getD i 0:=by
 simp only[Qbb]
 rw[Uh,Un,WT hi]
 rfl
theorem QmW:Qbb p g n c 0 r=r:=by
 refine QgY Qad fun i=> ?_
 rcases Up i r.length with h|h
 ·rw[Qa0 i h,if_neg (by omega)]
 ·simp [Uh,Ul,Qad,h]
theorem QmV(hk:n+k<r.length)(hv:v=((Qbb p g n c k r).getD (n+k) 0+c*g.getD k 0 % p) % p):(Qbb p g n c k r).set (n+k) v=Qbb p g n c (k+1) r:=by
 refine QgY (by simp [Qad]) fun i=> ?_
 rw[QiS _ _ _ (by rw[Qad];exact hk)]
 rcases Up i r.length with h|h
 ·by_cases hi:i=n+k
  ·subst hi
   rw[if_pos rfl,hv,Qa0 (k:=k) _ hk,if_neg (by omega),Qa0 (k:=k+1) _ hk,if_pos (by omega),show n+k -n=k by omega]
  ·rw[if_neg hi,Qa0 (k:=k) i h,Qa0 (k:=k+1) i h]
   by_cases h1:n≤i∧i -n<k
   ·rw[if_pos h1,if_pos (by omega)]
   ·rw[if_neg h1,if_neg (by omega)]
 ·rw[if_neg (by omega)]
  simp [Uh,Ul,Qad,h]
theorem Qgi(hr: ∀d∈r,d<p)(hp:0<p): ∀d∈Qbb p g n c k r,d<p:=fun d hd=>by
 obtain⟨i,hi,rfl⟩:=Qzd hd
 have hi2:i<r.length:=by rw[←Qad (p:=p) (n:=n) (c:=c) (k:=k) (g:=g)];exact hi
 have h:=Qa0 (p:=p) (n:=n) (c:=c) (k:=k) (g:=g) i hi2
 rw[Uh,Ud hi,Qyg] at h
 rw[h]
 split
 ·exact UG _ hp
 ·rw[Uh,Ud hi2,Qyg];exact hr _ (Wr hi2)
def QaL(p inv:Nat)(g:List Nat):Nat→List Nat×List Nat→List Nat×List Nat
 |0,s=>s
 |n+1,(q,r)=>let c:=r.getD (n+(g.length -1)) 0*inv % p;QaL p inv g n (q.set n c,if c=0 then r else Qbb p g n (p -c) g.length r)
def QgM(p:Nat)(f g:List Nat):List Nat×List Nat:=
 if f.length≤g.length -1 then([],f)
 else let s:=QaL p (QfQ p (g.getD (g.length -1) 0)) g (f.length -(g.length -1)) (Uc (f.length -(g.length -1)) 0,f);(Zw s.1,Zw s.2)
theorem QjW{p inv:Nat}{g:List Nat}: ∀(n:Nat)(q r:List Nat),(QaL p inv g n (q,r)).1.length=q.length∧(QaL p inv g n (q,r)).2.length=r.length
 |0,q,r=>⟨rfl,rfl⟩
 |n+1,q,r=>by
  rw[QaL]
  have⟨h1,h2⟩:=QjW (p:=p) (inv:=inv) (g:=g) n (q.set n (r.getD (n+(g.length -1)) 0*inv % p)) (if r.getD (n+(g.length -1)) 0*inv % p=0 then r else Qbb p g n (p -r.getD (n+(g.length -1)) 0*inv % p) g.length r)
  refine⟨h1.trans (by simp),h2.trans ?_⟩
  split
  ·rfl
  ·exact Qad
theorem QiE{p inv:Nat}{g:List Nat}(hp:0<p): ∀(n:Nat)(q r:List Nat),(∀d∈q,d<p)→(∀d∈r,d<p)→(∀d∈(QaL p inv g n (q,r)).1,d<p)∧ ∀d∈(QaL p inv g n (q,r)).2,d<p
 |0,q,r,h1,h2=>⟨h1,h2⟩
 |n+1,q,r,h1,h2=>by
  rw[QaL]
  refine QiE hp n _ _ (fun d hd=> ?_) fun d hd=> ?_
  ·rcases Wi hd with h|h
   ·exact h1 d h
   ·rw[h];exact UG _ hp
  ·split at hd
   ·exact h2 d hd
   ·exact Qgi h2 hp d hd
theorem bez(a b:Nat): ∃u v:Int,u*a+v*b=(UK a b:Nat):=by
 induction a using Nat.strongRecOn generalizing b with
 |ind a ih=>
  rcases Uk a with h|h
  ·subst h;exact⟨0,1,by simp⟩
  ·obtain⟨u,v,e⟩:=ih (b % a) (UG _ h) a
   rw[←Nat.gcd_rec] at e
   refine⟨v -u*(b/a:Nat),u,?_⟩
   have hm:((a*(b/a)+b % a:Nat):Int)=b:=by rw[Qym]
   simp only[Qyt,Wa] at hm
   rw[←e]
   grind
theorem Qkf(hp:QeG p)(ha:0<a)(hap:a<p):QfQ p a<p∧a*QfQ p a % p=1:=by
 have hg:=hp.2 a ha hap
 have h2:=hp.1
 obtain⟨u,v,e⟩:=bez a p
 rw[hg] at e
 have h1:a*md p u % p=1 % p:=by
  rw[Qpv (by omega),UQ (by omega:1<p)]
  have c:Cg p ((a:Int)*(md p u:Nat)) 1:=(Cg.mul (Cg.refl p _) (QqG (by omega) u)).trans ⟨-v,by grind⟩
  rw[Qll (by omega) c]
  exact Qft (r:=1) (by omega)
 have h3:=Qph (by omega) (Qln (by omega) u) h1
 rw[h3]
 exact⟨Qln (by omega) u,by rw[h1,UQ (by omega)]⟩
theorem QjX{p:Nat}{g:List Nat}(hp:QeG p)(hg:0<g.length)(hl:0<g.getD (g.length -1) 0)(hlt: ∀d∈g,d<p): ∀(n:Nat)(q r:List Nat),(∀d∈r,d<p)→r.length=n+(g.length -1)∨n+(g.length -1)≤r.length→(∀i,n+(g.length -1)≤i→r.getD i 0=0)→
  ∀i,g.length -1≤i→(QaL p (QfQ p (g.getD (g.length -1) 0)) g n (q,r)).2.getD i 0=0
 |0,q,r,_,_,h=>fun i hi=>h i (by omega)
 |n+1,q,r,hr,hrl,h=>by
  rw[QaL]
  have hp2:=hp.1
  have hgl:g.getD (g.length -1) 0<p:=by
   rw[Uh,Ud (by omega),Qyg];exact hlt _ (Wr _)
  have⟨hi1,hi2⟩:=Qkf hp hl hgl
  have hrlen:n+(g.length -1)<r.length:=by omega
  refine QjX hp hg hl hlt n _ _ ?_ ?_ ?_
  ·split
   ·exact hr
   ·exact Qgi hr (by omega)
  ·right
   split
   ·omega
   ·rw[Qad];omega
  ·intro i hi
   have hrn:r.getD (n+(g.length -1)) 0<p:=by
    rw[Uh,Ud hrlen,Qyg];exact hr _ (Wr _)
   split
   ·rename_i hc
    rcases Up (n+(g.length -1)) i with h1|h1
    ·exact h i (by omega)
    ·obtain rfl:i=n+(g.length -1):=by omega
     have c1:Cg p ((r.getD (n+(g.length -1)) 0:Nat):Int) 0:=by
      have a1:Cg p (((r.getD (n+(g.length -1)) 0:Nat):Int)*(QfQ p (g.getD (g.length -1) 0):Nat)) 0:=by
       have :=(QaJ (p:=p) (r.getD (n+(g.length -1)) 0*QfQ p (g.getD (g.length -1) 0))).symm
       rw[hc] at this
       simpa using this
      have a2:Cg p (((g.getD (g.length -1) 0:Nat):Int)*(QfQ p (g.getD (g.length -1) 0):Nat)) 1:=by
       have :=(QaJ (p:=p) (g.getD (g.length -1) 0*QfQ p (g.getD (g.length -1) 0))).symm
       rw[hi2] at this
       simpa using this
      have a3:=Cg.mul (Cg.refl p ((r.getD (n+(g.length -1)) 0:Nat):Int)) a2
      have a4:=Cg.mul a1 (Cg.refl p ((g.getD (g.length -1) 0:Nat):Int))
      rw[QzB] at a3
      refine a3.symm.trans ?_
      rw[Qyi] at a4
      rw[show ∀x y z:Int,x*(y*z)=x*z*y by intros;grind]
      exact a4
     have :=(Qft hrn).symm.trans (Qll (by omega) c1)
     rw[this,Qdr]
   ·rcases Up i r.length with h0|h0
    ·rw[Qa0 i h0]
     rcases Up (n+(g.length -1)) i with h1|h1
     ·rw[if_neg (by omega)];exact h i (by omega)
     ·obtain rfl:i=n+(g.length -1):=by omega
      rw[if_pos (by omega),show n+(g.length -1) -n=g.length -1 by omega]
      generalize hcc:r.getD (n+(g.length -1)) 0*QfQ p (g.getD (g.length -1) 0) % p=c
      have hcp:c<p:=by rw[←hcc];exact UG _ (by omega)
      have a1:Cg p ((c:Nat):Int) (((r.getD (n+(g.length -1)) 0:Nat):Int)*(QfQ p (g.getD (g.length -1) 0):Nat)):=by
       rw[←hcc];refine(QaJ _).trans ?_;rw[Wa];exact Cg.refl p _
      have a2:Cg p (((g.getD (g.length -1) 0:Nat):Int)*(QfQ p (g.getD (g.length -1) 0):Nat)) 1:=by
       have :=(QaJ (p:=p) (g.getD (g.length -1) 0*QfQ p (g.getD (g.length -1) 0))).symm
       rw[hi2] at this
       simpa using this
      have a3:Cg p (((r.getD (n+(g.length -1)) 0+(p -c)*g.getD (g.length -1) 0 % p:Nat)):Int) 0:=by
       rw[Qyt]
       have b1:Cg p (((p -c)*g.getD (g.length -1) 0 % p:Nat):Int) (-(c:Int)*(g.getD (g.length -1) 0:Nat)):=by
        refine(QaJ _).trans ?_
        rw[Wa]
        exact(QhX (Nat.le_of_lt hcp)).mul (Cg.refl p _)
       refine((Cg.refl p _).add b1).trans ?_
       have b2:Cg p (-(c:Int)*(g.getD (g.length -1) 0:Nat)) (-((r.getD (n+(g.length -1)) 0:Nat):Int)):=by
        refine(a1.neg.mul (Cg.refl p _)).trans ?_
        have b3:=((Cg.refl p ((r.getD (n+(g.length -1)) 0:Nat):Int)).mul a2).neg
        rw[QzB] at b3
        rw[show ∀x y z:Int,-(x*y)*z= -(x*(z*y)) by intros;grind]
        exact b3
       have b4:=(Cg.refl p ((r.getD (n+(g.length -1)) 0:Nat):Int)).add b2
       rw[show ∀x:Int,x+ -x=0 by intros;omega] at b4
       exact b4
      have a4:=Qll (by omega) ((QaJ (p:=p) (r.getD (n+(g.length -1)) 0+(p -c)*g.getD (g.length -1) 0 % p)).trans a3)
      rw[Qdr,Qft (UG _ (by omega))] at a4
      exact a4
    ·rw[Uh,Ul (by rw[Qad];omega)];rfl
theorem QiG(hp:QeG p)(hg:0<g.length)(hl:0<g.getD (g.length -1) 0)(hlt: ∀d∈g,d<p)(hf: ∀d∈f,d<p):(QgM p f g).2.length<g.length:=by
 unfold QgM
 split
 ·dsimp only;omega
 ·rename_i h
  dsimp only
  have h1:=QjX hp hg hl hlt (f.length -(g.length -1)) (Uc (f.length -(g.length -1)) 0) f hf (.inr (by omega)) (fun i hi=>by rw[Uh,Ul (by omega)];rfl)
  have h2:(Zw (QaL p (QfQ p (g.getD (g.length -1) 0)) g (f.length -(g.length -1)) (Uc (f.length -(g.length -1)) 0,f)).2).length≤g.length -1:=by
   apply Nat.le_of_not_lt
   intro hn
   generalize hX:(QaL p (QfQ p (g.getD (g.length -1) 0)) g (f.length -(g.length -1)) (Uc (f.length -(g.length -1)) 0,f)).2=X at *
   have e:Zw X=X.take (Zw X).length:=QnD isZ X
   rcases Yx (Zw X) with h0| ⟨k,x,h0⟩
   ·rw[h0] at hn;simp at hn
   ·have h3:=Qcv isZ X h0
    have h4:k.length+1=(Zw X).length:=by rw[h0];simp
    have h5:X.getD k.length 0=x:=by
     have h6:(Zw X).getD k.length 0=x:=by rw[h0];simp [Uh]
     rw[e] at h6
     rw[←h6]
     simp only[Uh]
     rw[List.getElem?_take_of_lt (by omega)]
    rw[h1 k.length (by omega)] at h5
    subst h5
    simp [isZ] at h3
  omega
theorem Quc(hp:0<p)(hf: ∀d∈f,d<p):(∀d∈(QgM p f g).1,d<p)∧ ∀d∈(QgM p f g).2,d<p:=by
 unfold QgM
 split
 ·exact⟨fun d hd=>(by cases hd),hf⟩
 ·have h:=QiE (inv:=QfQ p (g.getD (g.length -1) 0)) (g:=g) hp (f.length -(g.length -1)) (Uc (f.length -(g.length -1)) 0) f (fun d hd=>by rw[Uu hd];exact hp) hf
  exact⟨fun d hd=>h.1 d (Qfb _ _ hd),fun d hd=>h.2 d (Qfb _ _ hd)⟩
end Go.Gx

namespace Go.Gx
def Qbg(p:Nat)(l:List Nat):Prop:=(∀d∈l,d<p)∧(l.length≠0→0<l.getD (l.length -1) 0)
theorem Qbg.nil{p:Nat}:Qbg p []:=⟨fun d hd=>(by cases hd),fun h=>absurd rfl h⟩
theorem QbH{p:Nat}{l:List Nat}(h: ∀d∈l,d<p):Qbg p (Zw l):=by
 refine⟨fun d hd=>h d (Qfb _ _ hd),fun hn=> ?_⟩
 rcases Yx (Zw l) with h0| ⟨k,x,h0⟩
 ·rw[h0] at hn;exact absurd rfl hn
 ·have h3:=Qcv isZ l h0
  rw[h0]
  simp [Uh]
  simp [isZ] at h3
  omega
theorem Qbg.last{p:Nat}{l:List Nat}(h:Qbg p l)(hl:0<l.length):0<l.getD (l.length -1) 0∧l.getD (l.length -1) 0<p:=by
 refine⟨h.2 (by omega),?_⟩
 rw[Uh,Ud (by omega),Qyg]
 exact h.1 _ (Wr _)
theorem QiF{p:Nat}{f g:List Nat}(hp:0<p)(hf:Qbg p f):Qbg p (QgM p f g).1∧Qbg p (QgM p f g).2:=by
 have h:=Quc (g:=g) hp hf.1
 unfold QgM at h⊢
 split
 ·exact⟨Qbg.nil,hf⟩
 ·rename_i hh
  rw[if_neg hh] at h
  have h2:=QiE (inv:=QfQ p (g.getD (g.length -1) 0)) (g:=g) hp (f.length -(g.length -1)) (Uc (f.length -(g.length -1)) 0) f (fun d hd=>by rw[Uu hd];exact hp) hf.1
  exact⟨QbH h2.1,QbH h2.2⟩
def QwG(p:Nat)(f:List Nat)(c:Nat):List Nat:=Zw (f.map fun a=>a*c % p)
def Qwh(f:List Nat):Nat:=f.getD (f.length -1) 0
def Qg8(p:Nat)(f:List Nat):List Nat:=if f.length=0 then [] else QwG p f (QfQ p (Qwh f))
def Qw1(p:Nat)(f g:List Nat):List Nat:=QnK p (ZR (zl (Qqy p f)) (zl (Qqy p g)))
def QxB(p:Nat)(f g:List Nat):List Nat:=QnK p (Qfx (zl f) (zl g))
def QiQ(p:Nat):Nat→List Nat→List Nat→List Nat
 |0,f,_=>Qg8 p f
 |n+1,f,g=>if g.length=0 then Qg8 p f else QiQ p n g (QgM p f g).2
def Qpb(p:Nat)(f g:List Nat):List Nat:=QiQ p g.length f g
theorem QgR{p:Nat}{f g:List Nat}(hg:g.length=0)(n:Nat):QiQ p n f g=Qg8 p f:=by
 cases n with
 |zero=>rfl
 |succ n=>rw[QiQ,if_pos hg]
theorem Qh5{p:Nat}(hp:QeG p): ∀(n m:Nat)(f g:List Nat),Qbg p f→Qbg p g→g.length≤n→g.length≤m→QiQ p n f g=QiQ p m f g
 |n,m,f,g,hf,hg,hn,hm=>by
  rcases Uk g.length with h0|h0
  ·rw[QgR h0,QgR h0]
  ·match n,m,hn,hm with
   |0,_,hn,_=>omega
   |_,0,_,hm=>omega
   |n+1,m+1,hn,hm=>
    rw[QiQ,QiQ,if_neg (by omega),if_neg (by omega)]
    have hl:=hg.last h0
    have h1:=QiG hp h0 hl.1 hg.1 hf.1
    exact Qh5 hp n m g _ hg (QiF (by have :=hp.1;omega) hf).2 (by omega) (by omega)
theorem Qq8{p:Nat}(hp:QeG p){f g:List Nat}(hf:Qbg p f)(hg:Qbg p g)(h0:0<g.length):Qpb p f g=Qpb p g (QgM p f g).2:=by
 have hl:=hg.last h0
 have h1:=QiG hp h0 hl.1 hg.1 hf.1
 have h2:=(QiF (g:=g) (by have :=hp.1;omega) hf).2
 unfold Qpb
 obtain⟨n,hn⟩: ∃n,g.length=n+1:=⟨g.length -1,by omega⟩
 rw[hn,QiQ,if_neg (by omega)]
 exact Qh5 hp _ _ _ _ hg h2 (by omega) (Ug _)
theorem Quo{p:Nat}{f g:List Nat}(h0:g.length=0):Qpb p f g=Qg8 p f:=QgR h0 _
end Go.Gx
namespace Go.Gx
theorem Qff: ∀(l:List Nat),val l=0→ ∀n,l.getD n 0=0
 | [],_,n=>by simp [Uh]
 |d::l,h,0=>by simp only[val,BS] at h;simp [Uh];omega
 |d::l,h,n+1=>by
  have :=Qff l (by simp only[val,BS] at h;omega) n
  simpa [Uh] using this
theorem Qh3{p inv:Nat}{g:List Nat}: ∀(n:Nat)(q r:List Nat)(i:Nat),n≤i→(QaL p inv g n (q,r)).1.getD i 0=q.getD i 0
 |0,_,_,_,_=>rfl
 |n+1,q,r,i,hi=>by
  rw[QaL]
  rw[Qh3 n _ _ i (by omega)]
  simp only[Uh,WU]
  rw[if_neg (by omega)]
theorem QqV{p:Nat}{f g:List Nat}(hp:QeG p)(hf:Qbg p f)(hg:Qbg p g)(h0:0<g.length)(hl:g.length≤f.length):0<(QgM p f g).1.length:=by
 unfold QgM
 rw[if_neg (by omega)]
 dsimp only
 obtain⟨n,hn⟩: ∃n,f.length -(g.length -1)=n+1:=⟨f.length -g.length,by omega⟩
 rw[hn]
 have hgl:=hg.last h0
 have hfl:=hf.last (by omega)
 have hiv:=Qkf hp hgl.1 hgl.2
 generalize hI:QfQ p (g.getD (g.length -1) 0)=I at *
 have hp2:=hp.1
 have htop:(QaL p I g (n+1) (Uc (n+1) 0,f)).1.getD n 0≠0:=by
  rw[QaL]
  rw[Qh3 n _ _ n (Ug _),QiS _ _ _ (by simp),if_pos rfl,show n+(g.length -1)=f.length -1 by omega]
  intro h
  have c1:Cg p (((f.getD (f.length -1) 0:Nat):Int)*(I:Nat)) 0:=by
   have :=(QaJ (p:=p) (f.getD (f.length -1) 0*I)).symm
   rw[h] at this
   simpa using this
  have c2:Cg p (((g.getD (g.length -1) 0:Nat):Int)*(I:Nat)) 1:=by
   have :=(QaJ (p:=p) (g.getD (g.length -1) 0*I)).symm
   rw[hiv.2] at this
   simpa using this
  have c3:=(Cg.refl p ((f.getD (f.length -1) 0:Nat):Int)).mul c2
  rw[QzB] at c3
  have c4:=c1.mul (Cg.refl p ((g.getD (g.length -1) 0:Nat):Int))
  rw[Qyi] at c4
  have c5:Cg p ((f.getD (f.length -1) 0:Nat):Int) 0:=by
   refine c3.symm.trans ?_
   rw[show ∀x y z:Int,x*(y*z)=x*z*y by intros;grind]
   exact c4
  have :=(Qft hfl.2).symm.trans (Qll (by omega) c5)
  rw[Qdr] at this
  omega
 apply Nat.pos_of_ne_zero
 intro hz
 have h1:Zw (QaL p I g (n+1) (Uc (n+1) 0,f)).1=[]:=Ua hz
 have h2:=XX (QaL p I g (n+1) (Uc (n+1) 0,f)).1
 rw[h1] at h2
 exact htop (Qff _ h2.symm n)
theorem Qub{p:Nat}{f g:List Nat}:(QgM p f g).1.length≤f.length+1 -g.length∧(QgM p f g).2.length≤f.length:=by
 unfold QgM
 split
 ·exact⟨Qyr _,Ug _⟩
 ·rename_i h
  dsimp only
  have⟨h1,h2⟩:=QjW (p:=p) (inv:=QfQ p (g.getD (g.length -1) 0)) (g:=g) (f.length -(g.length -1)) (Uc (f.length -(g.length -1)) 0) f
  have h3:=Qdz isZ (QaL p (QfQ p (g.getD (g.length -1) 0)) g (f.length -(g.length -1)) (Uc (f.length -(g.length -1)) 0,f)).1
  have h4:=Qdz isZ (QaL p (QfQ p (g.getD (g.length -1) 0)) g (f.length -(g.length -1)) (Uc (f.length -(g.length -1)) 0,f)).2
  simp only[List.length_replicate] at h1
  refine⟨?_,?_⟩
  ·show(trimB isZ _).length≤_;omega
  ·show(trimB isZ _).length≤_;omega
theorem QjY{p:Nat}{f g q r:List Nat}(hp:QeG p)(hf:Qbg p f)(hg:Qbg p g)(h0:0<g.length)(h:QgM p f g=(q,r)):Qbg p q∧Qbg p r∧r.length<g.length∧q.length≤f.length+1 -g.length∧r.length≤f.length∧(g.length≤f.length→0<q.length):=by
 have h1:=QiF (g:=g) (by have :=hp.1;omega) hf
 have hl:=hg.last h0
 have h2:=QiG hp h0 hl.1 hg.1 hf.1
 have h3:=Qub (p:=p) (f:=f) (g:=g)
 have h4:=QqV hp hf hg h0
 rw[h] at h1 h2 h3 h4
 exact⟨h1.1,h1.2,h2,h3.1,h3.2,h4⟩
theorem QqW{p inv c low n:Nat}{g Q R:List Nat}{S:List Nat×List Nat}(h:QaL p inv g n (Q,R)=S)(hn:n=low+1)(hc:c=R.getD (low+(g.length -1)) 0*inv % p)(h0:c=0):QaL p inv g low (Q.set low c,R)=S:=by
 subst hn
 rw[QaL] at h
 rw[←hc,if_pos h0] at h
 exact h
theorem Qud{p inv c low n j:Nat}{g Q R:List Nat}{S:List Nat×List Nat}(h:QaL p inv g n (Q,R)=S)(hn:n=low+1)(hc:c=R.getD (low+(g.length -1)) 0*inv % p)(h0:c≠0)(hj:j=g.length):QaL p inv g low (Q.set low c,Qbb p g low (p -c) j R)=S:=by
 subst hn hj
 rw[QaL] at h
 rw[←hc,if_neg h0] at h
 exact h
theorem Que{p inv n m:Nat}{f g Q R q r:List Nat}(hn: ¬f.length≤g.length -1)(hi:inv=QfQ p (g.getD (g.length -1) 0))(h:QaL p inv g n (Q,R)=QaL p inv g m (Uc m 0,f))(h0:n=0)(hm:m=f.length -(g.length -1))(hq:q=Zw Q)(hr:r=Zw R):QgM p f g=(q,r):=by
 subst h0 hm hi
 unfold QgM
 rw[if_neg hn]
 dsimp only
 rw[←h,hq,hr]
 rfl
end Go.Gx
namespace Go.Gx
end Go.Gx

namespace Go.Gx
def Qwf(f:List Int)(L:List (List Int)):Prop:=Xi f=Xi (Qun [ldP f] L)
instance(f:List Int)(L:List (List Int)):Decidable (Qwf f L):=by unfold Qwf;infer_instance
end Go.Gx

namespace Go.Gx
open Go.RowKit
structure NE where
 A:Option Addr
 n:Nat
 c:Nat
 d:List Nat
section
variable{α:Type}{L:LK α}{w:World}{S:Nat→Prop}{A:Option Addr}{n c:Nat}{l:List α}
end
section
variable{w w':World}{S S' G:Nat→Prop}{M M':Nat}{l l':List NE}
end
end Go.Gx

namespace Go.Gx
open Go.RowKit
def lb:Option Addr→Nat
 |none=>0
 |some a=>a.block+1
theorem Qrx{A:Option Addr}{b:Nat}:Qrw A b↔b+1≠lb A:=by
 unfold Qrw lb
 cases A with
 |none=>simp
 |some a=>simp;omega
theorem Xn.both{w:World}{S T:Nat→Prop}{A:Option Addr}{n c:Nat}{ds:List Nat}(h:Xn w S A n c ds)(g:Xn w T A n c ds):Xn w (fun b=>S b∧T b) A n c ds:=by
 refine⟨⟨h.1.1,h.1.2.1,h.1.2.2.1,fun h0=> ?_⟩,h.2⟩
 obtain⟨b,o,e,hs,hb,hc⟩:=h.1.2.2.2 h0
 obtain⟨b',o',e',hs',_,_⟩:=g.1.2.2.2 h0
 rw[e] at e'
 injection e' with e'
 injection e' with e1 e2
 subst e1
 exact⟨b,o,e,⟨hs,hs'⟩,hb,hc⟩
section
variable{w w':World}{B:Nat}{el:TypeId}{gN:Nat}{A:Option Addr}{n c:Nat}{l:List NE}
end
section
variable{dfs:List Deferred}{P:Program}{n:Nat}{e:Nat→Value}{w:World}{K:Act→World→Prop}{Q:Exit→Act→World→Prop}{ty:TypeId}{pos:String}{af:Array Edge}{gd:Option (Nat×Bool)}
end
end Go.Gx
namespace Go.Gx
end Go.Gx

namespace Go.Gx
open Go.RowKit
structure SK (α:Type) where
 k:Nat
 pos:0<k
 cells:α→List Value
 len: ∀a,(cells a).length=k
 one: ∀a,(cells a).all Value.oneCell'=true
 R:World→(Nat→Prop)→α→Prop
 frmB: ∀{w w':World}{S G:Nat→Prop}{a:α},R w S a→Frm G w w'→(∀b,b<w.heap.size→S b→ ¬G b)→R w' S a
 ext: ∀{w w':World}{S:Nat→Prop}{a:α},R w S a→Ext w w'→R w' S a
 sub: ∀{w:World}{S S':Nat→Prop}{a:α},R w S a→(∀b,b<w.heap.size→S b→S' b)→R w S' a
 both: ∀{w:World}{S S':Nat→Prop}{a:α},R w S a→R w S' a→R w (fun b=>S b∧S' b) a
section
variable{α:Type}(L:SK α)
def SK.flat(l:List α):List Value:=l.flatMap L.cells
theorem SK.flat_len(l:List α):(L.flat l).length=l.length*L.k:=by
 induction l with
 |nil=>simp [SK.flat]
 |cons a l ih=>
  have e:L.flat (a::l)=L.cells a++L.flat l:=by simp [SK.flat]
  rw[e,UO,ih,L.len,Um,UZ];omega
theorem SK.flat_append(a b:List α):L.flat (a++b)=L.flat a++L.flat b:=by simp [SK.flat]
theorem SK.flat_one(a:α):L.flat [a]=L.cells a:=by simp [SK.flat]
theorem SK.flat_get: ∀{l:List α}{i:Nat}{a:α},l[i]? =some a→ ∀{j:Nat}{v:Value},(L.cells a)[j]? =some v→(L.flat l)[i*L.k+j]? =some v
 | [],i,a,h,j,v,_=>by simp at h
 |x::l,0,a,h,j,v,hv=>by
  have e:L.flat (x::l)=L.cells x++L.flat l:=by simp [SK.flat]
  simp at h;subst h
  rw[e,Nat.zero_mul,WJ,UR (List.getElem?_eq_some_iff.1 hv).1];exact hv
 |x::l,i+1,a,h,j,v,hv=>by
  have e:L.flat (x::l)=L.cells x++L.flat l:=by simp [SK.flat]
  have h1:l[i]? =some a:=by simpa using h
  rw[e,UD (by rw[L.len,UZ];omega),L.len,show(i+1)*L.k+j -L.k=i*L.k+j by rw[UZ];omega]
  exact SK.flat_get h1 hv
theorem SK.flat_all(l:List α): ∀u∈L.flat l,u.oneCell'=true:=fun u hu=>by
 obtain⟨a,_,hu⟩:=List.mem_flatMap.1 hu
 exact List.all_eq_true.1 (L.one a) u hu
end
def Xu{α:Type}(L:SK α)(w:World)(S:Nat→Prop)(A:Option Addr)(n c:Nat)(l:List α):Prop:=Rd w S A n c L.k (L.flat l)∧ ∀f∈l,L.R w S f
section
variable{α:Type}{L:SK α}{w w':World}{S S' G:Nat→Prop}{A:Option Addr}{n c:Nat}{l:List α}
theorem Xu.frmB(h:Xu L w S A n c l)(f:Frm G w w')(hd: ∀b,b<w.heap.size→S b→ ¬G b):Xu L w' S A n c l:=⟨h.1.frmB f hd,fun x hx=>L.frmB (h.2 x hx) f hd⟩
theorem Xu.ext(h:Xu L w S A n c l)(f:Ext w w'):Xu L w' S A n c l:=⟨h.1.ext f,fun x hx=>L.ext (h.2 x hx) f⟩
theorem Xu.sub(h:Xu L w S A n c l)(hs: ∀b,b<w.heap.size→S b→S' b):Xu L w S' A n c l:=⟨h.1.sub hs,fun x hx=>L.sub (h.2 x hx) hs⟩
theorem Xu.low(h:Xu L w S A n c l):Xu L w (· <w.heap.size) A n c l:=h.sub fun _ hb _=>hb
theorem Xu.nil:Xu L w S none 0 0 []:=⟨Rd.nil,fun f hf=>by cases hf⟩
theorem Xu.len(h:Xu L w S A n c l):l.length=n:=by
 have h1:=h.1.1
 rw[L.flat_len] at h1
 exact Nat.eq_of_mul_eq_mul_right L.pos h1
theorem Xu.lkm(h:Xu L w S A n c l):l.length=n∧n≤c∧c≤9223372036854775807:=⟨h.len,h.1.2.1,h.1.2.2.1⟩
theorem Xu.base(h:Xu L w S A n c l)(hn:0<n): ∃b off,A=some ⟨b,off,none⟩:=h.1.base hn
theorem Xu.at_{b off i:Nat}(h:Xu L w S (some ⟨b,off,none⟩) n c l)(hi:i<n):
  ∃f,l[i]? =some f∧(∀(j:Nat) v,(L.cells f)[j]? =some v→w.cell? ⟨b,off+(i*L.k+j),none⟩=some v)∧L.R w S f∧S b∧b<w.heap.size:=by
 have hl:i<l.length:=by rw[h.len];exact hi
 obtain⟨b',off',e,hS,hb,_⟩:=h.1.2.2.2 (by omega)
 injection e with e
 injection e with e1 e2
 subst e1 e2
 obtain⟨r,hr⟩: ∃r,l[i]? =some r:=⟨_,Ud hl⟩
 exact⟨r,hr,fun j v hv=>h.1.cell (L.flat_get hr hv),h.2 _ (Ub hr),hS,hb⟩
theorem Xu.of_blk{g:Nat}{t:TypeId}(h:Blk w g t (L.flat l))(ha: ∀f∈l,L.R w S f)(hS:S g)(hl:l.length=n)(hc:n≤c)(hm:c≤Yc):Xu L w S (some ⟨g,0,none⟩) n c l:=
 ⟨Rd.of_blk h hS (by rw[L.flat_len,hl]) hc hm,ha⟩
end
structure Qgu {α:Type} (L:SK α) (w:World) (B:Nat) (el:TypeId) (gN:Nat) (A:Option Addr) (n c:Nat) (l:List α):Prop where
 own:Own w B el L.k A n c (L.flat l)
 el: ∀f∈l,L.R w (fun b=>b+1≠gN) f
 no:lb A=gN
section
variable{α:Type}{L:SK α}{w w':World}{B:Nat}{el:TypeId}{gN:Nat}{A:Option Addr}{n c:Nat}{l:List α}
theorem Qgu.nil:Qgu L w B el 0 none 0 0 []:=⟨Own.nil,fun f hf=>(by cases hf),rfl⟩
theorem Qgu.ext(h:Qgu L w B el gN A n c l)(k:Ext w w'):Qgu L w' B el gN A n c l:=⟨h.own.ext k,fun f hf=>L.ext (h.el f hf) k,h.no⟩
theorem Qgu.len(h:Qgu L w B el gN A n c l):l.length=n:=by
 have h1:=h.own.1
 rw[L.flat_len] at h1
 exact Nat.eq_of_mul_eq_mul_right L.pos h1
theorem Qgu.lkm(h:Qgu L w B el gN A n c l):l.length=n∧n≤c∧c≤9223372036854775807:=⟨h.len,h.own.cap,h.own.max⟩
theorem Qgu.lt(h:Qgu L w B el gN A n c l):gN=0∨B<gN∧gN≤w.heap.size:=by
 cases A with
 |none=>left;rw[←h.no];rfl
 |some a=>right;have h1:=h.own.lt a rfl;rw[←h.no];simp only[lb];omega
theorem Qgu.list{S:Nat→Prop}(h:Qgu L w B el gN A n c l)(hs: ∀x∈l,L.R w S x)(hB: ∀b,B≤b→b<w.heap.size→S b):Xu L w S A n c l:=⟨h.own.rd.sub fun b hb hs=>hB b hs hb,hs⟩
theorem Qgu.wide{B':Nat}(h:Qgu L w B el gN A n c l)(hB:B'≤B):Qgu L w B' el gN A n c l:=⟨h.own.low hB,h.el,h.no⟩
theorem Own.frmG'{B:Nat}{e:TypeId}{k:Nat}{cs:List Value}{G:Nat→Prop}(h:Own w B e k A n c cs)(f:Frm G w w')(hd: ∀b,b<w.heap.size→B≤b→b+1=lb A→ ¬G b):Own w' B e k A n c cs:=by
 refine⟨h.1,?_⟩
 rcases h.2 with h1| ⟨g,cap,cur,hv,hb,hg,rest⟩
 ·exact .inl h1
 ·have hlt:=(Array.getElem?_eq_some_iff.1 hg).1
  have hA:A=some ⟨g,0,none⟩:=by injection hv
  exact .inr ⟨g,cap,cur,hv,hb,(f.block g hlt (hd g hlt hb (by rw[hA];rfl))).trans hg,rest⟩
theorem Qgu.frmB{G:Nat→Prop}{S:Nat→Prop}(h:Qgu L w B el gN A n c l)(f:Frm G w w')(hg: ∀b,b<w.heap.size→B≤b→b+1=gN→ ¬G b)(hs: ∀x∈l,L.R w S x)(hd: ∀b,b<w.heap.size→S b→ ¬G b):Qgu L w' B el gN A n c l:=
 ⟨h.own.frmG' f (by rw[h.no];exact hg),fun x hx=>(L.sub (L.frmB (L.both (h.el x hx) (hs x hx)) f fun b hb hh=>hd b hb hh.2) fun b _ hh=>hh.1),h.no⟩
end
section
variable{dfs:List Deferred}{P:Program}{n:Nat}{e:Nat→Value}{w:World}{K:Act→World→Prop}{Q:Exit→Act→World→Prop}{ty:TypeId}{pos:String}{af:Array Edge}{gd:Option (Nat×Bool)}
theorem Qxm{α:Type}{L:SK α}{d:Nat}{s x:Operand}{t el bt:TypeId}{zv:Value}{bytes B gN m c g:Nat}{A:Option Addr}{l:List α}{f:α}{S S2:Nat→Prop}(ht:P.underlying t=some (.slice el))
  (hi:(P.info? el).map (fun i=>(i.zero,i.size,i.bytes))=some (some zv,L.k,bytes))(hzv:zv.cells.size=L.k)(hs:ev n e s= .slice A m c)(hx:ev n e x= .slice (some ⟨g,0,none⟩) 1 1)(hO:Qgu L w B el gN A m c l)(h1: ∀x∈l,L.R w S x)(hb:Blk w g bt (L.cells f))(hf:L.R w S2 f)
  (hS: ∀b,b<w.heap.size→S2 b→b+1≠gN)(hm:(m+1)*bytes≤140737488355328)(hm2:m+1≤9223372036854775807)(hB:B≤w.heap.size)
  (kk: ∀A3 c3 g3 w',Qgu L w' B el g3 A3 (m+1) c3 (l++[f])→(g3=gN∨w.heap.size<g3∧g3≤w'.heap.size)→Frm (fun b=>b+1=gN) w w'→(∀x∈l++[f],L.R w' (fun b=>(S b∨S2 b)∧b<w.heap.size) x)→K (mkA dfs n (upd e d (.slice A3 (m+1) c3))) w'):
  OpW P ⟨some d,.call {callee:= .builtin .append,args:= #[s,x],argTypes:= #[t,t]},ty,pos,af,gd⟩ (mkA dfs n e) w K Q:=by
 refine QxX ht hi hzv L.pos hs hx hO.own hb (L.len f) (L.one f) hm hm2 hB fun A2 c2 w' hO' hF hF2 hnew=> ?_
 have hk:Frm (fun b=>b+1=gN) w w':=(hF2 (Qrw A) fun _ h=>h).mono fun b _ hb=>by
  rcases Nat.decEq (b+1) gN with h|h
  ·exact absurd (Qrx.2 (by rw[hO.no];exact h)) hb
  ·exact h
 have key: ∀{T:Nat→Prop}{x:α},(∀b,b<w.heap.size→T b→b+1≠gN)→L.R w T x→L.R w' (fun b=>T b∧b<w.heap.size) x:=fun hT h=>
  L.frmB (L.sub (S':=fun b=>_∧b<w.heap.size) h fun b hb hs=>⟨hs,hb⟩) hk fun b hb hs he=>hT b hb hs.1 he
 have e1: ∀x∈l,L.R w' (fun b=>(b+1≠gN∧S b)∧b<w.heap.size) x:=fun x hx=>key (fun b _ hs=>hs.1) (L.both (hO.el x hx) (h1 x hx))
 have e2:L.R w' (fun b=>S2 b∧b<w.heap.size) f:=key hS hf
 have hg3:lb A2=gN∨w.heap.size<lb A2:=by
  cases A2 with
  |none=>
   exfalso
   have :=hO'.1
   rcases hO'.2 with⟨_,h0⟩| ⟨g',cap,cur,hv,_⟩
   ·omega
   ·cases hv
  |some a=>
   rcases hnew a rfl with h5|h5
   ·left;rw[←hO.no,h5]
   ·right;simp only[lb];omega
 have hle:lb A2≤w'.heap.size:=by
  cases A2 with
  |none=>exact Qyr _
  |some a=>have :=(hO'.lt a rfl).2;simp only[lb];omega
 refine kk A2 c2 (lb A2) w' ⟨by rw[L.flat_append,L.flat_one];exact hO',fun x hx=> ?_,rfl⟩ (hg3.imp id fun h=>⟨h,hle⟩) hk fun x hx=> ?_
 ·rcases List.mem_append.1 hx with h5|h5
  ·exact L.sub (e1 x h5) fun b _ hs=>by rcases hg3 with h|h<;>omega
  ·rw[List.mem_singleton.1 h5]
   exact L.sub e2 fun b hb hs=>by
    have :=hS b hs.2 hs.1
    rcases hg3 with h|h<;>omega
 ·rcases List.mem_append.1 hx with h5|h5
  ·exact L.sub (e1 x h5) fun b _ hs=>⟨.inl hs.1.2,hs.2⟩
  ·rw[List.mem_singleton.1 h5];exact L.sub e2 fun b _ hs=>⟨.inr hs.1,hs.2⟩
end
end Go.Gx

namespace Go.Gx
open Go.RowKit
section
variable{α:Type}(L:SK α)
theorem SK.flat_cons(a:α)(l:List α):L.flat (a::l)=L.cells a++L.flat l:=by simp [SK.flat]
theorem Qpt{z:Value}{a:α}(m:Nat)(h:z.cells=(L.cells a).toArray):(madeCells z.cells (m*L.k)).toList=L.flat (Uc m a):=by
 have hk:=L.len a
 have hp:=L.pos
 apply WS
 intro j
 rcases Up j (m*L.k) with hj|hj
 ·have hi:j/L.k<m:=(Nat.div_lt_iff_lt_mul hp).2 hj
  have hm:j % L.k<L.k:=UG _ hp
  have h1:(Uc m a)[j/L.k]? =some a:=by simp [hi]
  have h2:(L.cells a)[j % L.k]? =some ((L.cells a)[j % L.k]'(by omega)):=Ud _
  have h3:=L.flat_get h1 h2
  rw[UC,Qym] at h3
  rw[h3]
  simp [madeCells,h,hj,hk,WT,getElem!_pos,hm]
 ·rw[Ul (by simp [madeCells,hj]),Ul (by rw[L.flat_len];simp [hj])]
theorem SK.flat_part{o:Nat}{vs:List Value}: ∀{l:List α}{i:Nat}{a a':α},l[i]? =some a→L.cells a'=(L.cells a).take o++vs++(L.cells a).drop (o+vs.length)→o+vs.length≤L.k→
  (L.flat l).take (i*L.k+o)++vs++(L.flat l).drop (i*L.k+o+vs.length)=L.flat (l.set i a')
 | [],i,a,a',h,_,_=>by simp at h
 |x::l,0,a,a',h,he,ho=>by
  simp at h;subst h
  have hl:=L.len x
  rw[L.flat_cons,WY,L.flat_cons,he,Nat.zero_mul,WJ,UI (by omega),WF (by omega)]
  simp
 |x::l,i+1,a,a',h,he,ho=>by
  have h1:l[i]? =some a:=by simpa using h
  have hl:=L.len x
  have e1:(i+1)*L.k+o=L.k+(i*L.k+o):=by rw[UZ];omega
  have t1:(L.cells x++L.flat l).take (L.k+(i*L.k+o))=L.cells x++(L.flat l).take (i*L.k+o):=by
   rw[List.take_append,Ui (by omega),hl];congr 2;omega
  have t2:(L.cells x++L.flat l).drop (L.k+(i*L.k+o+vs.length))=(L.flat l).drop (i*L.k+o+vs.length):=by
   rw[List.drop_append,Us (by omega),hl,WO];congr 1;omega
  rw[L.flat_cons,List.set_cons_succ,L.flat_cons,←SK.flat_part h1 he ho,e1,t1,show L.k+(i*L.k+o)+vs.length=L.k+(i*L.k+o+vs.length) by omega,t2]
  simp
end
def QeF{α:Type}(L:SK α)(w:World)(g:Nat)(t:TypeId)(S:Nat→Prop)(l:List α):Prop:=Blk w g t (L.flat l)∧ ∀f∈l,L.R w S f
section
variable{α:Type}{L:SK α}{w w':World}{g:Nat}{t:TypeId}{S S' G:Nat→Prop}{l:List α}
theorem QeF.list{n:Nat}(h:QeF L w g t S l)(hs: ∀b,b<w.heap.size→S b→S' b)(hg:S' g)(hl:l.length=n)(hm:n≤Yc):Xu L w S' (some ⟨g,0,none⟩) n n l:=
 Xu.of_blk h.1 (fun x hx=>L.sub (h.2 x hx) hs) hg hl (Ug _) hm
end
section
variable{dfs:List Deferred}{P:Program}{n:Nat}{e:Nat→Value}{w:World}{K:Act→World→Prop}{Q:Exit→Act→World→Prop}{ty:TypeId}{pos:String}{af:Array Edge}{gd:Option (Nat×Bool)}
theorem Qeb{α:Type}{L:SK α}{d:Nat}{t el:TypeId}{l c:Operand}{k1 k2:IntKind}{z:Value}{bytes:Nat}(a:α)(m:Nat)(ht:P.underlying t=some (.slice el))
  (hi:(P.info? el).map (fun i=>(i.zero,i.size,i.bytes))=some (some z,L.k,bytes))(hz:z.cells=(L.cells a).toArray)(hl:ev n e l= .int k1 (m:Int))(hc:ev n e c= .int k2 (m:Int))
  (hb:bytes*m≤281474976710656)(hm:m≤9223372036854775807)
  (k: ∀g w',g=w.heap.size→Ext w w'→w'.heap.size=g+1→Blk w' g el (L.flat (Uc m a))→K (mkA dfs n (upd e d (.slice (some ⟨g,0,none⟩) m m))) w'):
  OpW P ⟨some d,.makeSlice t l c,ty,pos,af,gd⟩ (mkA dfs n e) w K Q:=by
 refine QuG m ht hi hl hc hb hm fun g w' h1 h2 h3 h4=>k g w' h1 h2 h3 ?_
 rw[Qpt L m hz] at h4
 exact h4
theorem QbU{α:Type}{L:SK α}{t t':TypeId}{a x:Operand}{g i off:Nat}{v:Value}{l:List α}(f:α)(ha:ev n e a= .pointer (some ⟨g,off,none⟩))(ho:off=i*L.k)(hx:ev n e x=v)
  (hv:v.cells=(L.cells f).toArray)(hs: ∀w,(sizeOf t).run P w= .ok L.k w)(hb:Blk w g t' (L.flat l))(hi:i<l.length)
  (k: ∀w',Frm (fun b=>b=g) w w'→w'.heap.size=w.heap.size→Blk w' g t' (L.flat (l.set i f))→K (mkA dfs n e) w'):
  OpW P ⟨none,.store t a x,ty,pos,af,gd⟩ (mkA dfs n e) w K Q:=by
 subst ho
 have hf:=L.len f
 have hle:i*L.k+L.k≤l.length*L.k:=by have :=Uy L.k (show i+1≤l.length from hi);rw[UZ] at this;omega
 refine YK (L.cells f) ha hx hv (by rw[hf];exact hs) (L.one f) hb (by rw[L.flat_len,hf];exact hle) fun w' h2 h3 h4=>k w' h2 h3 ?_
 have h5:=L.flat_part (o:=0) (vs:=L.cells f) (Ud hi) (a':=f) (by rw[QyM,WO,WJ,hf,Us (by rw[L.len];exact Ug _),Wg]) (by omega)
 rw[WB] at h5
 rw[h5] at h4
 exact h4
end
structure ZX {α:Type} (L:SK α) (w:World) (B:Nat) (el:TypeId) (gN:Nat) (A:Option Addr) (n c:Nat) (l:List α) (S:Nat→Prop):Prop where
 k:Qgu L w B el gN A n c l
 s: ∀x∈l,L.R w S x
section
variable{α:Type}{L:SK α}{w w':World}{B:Nat}{el:TypeId}{gN:Nat}{A:Option Addr}{n c:Nat}{l:List α}{S S':Nat→Prop}
theorem ZX.nil:ZX L w B el 0 none 0 0 [] S:=⟨Qgu.nil,fun f hf=>by cases hf⟩
theorem ZX.ext(h:ZX L w B el gN A n c l S)(k:Ext w w'):ZX L w' B el gN A n c l S:=⟨h.k.ext k,fun f hf=>L.ext (h.s f hf) k⟩
theorem ZX.lkm(h:ZX L w B el gN A n c l S):l.length=n∧n≤c∧c≤9223372036854775807:=h.k.lkm
theorem ZX.lt(h:ZX L w B el gN A n c l S):gN=0∨B<gN∧gN≤w.heap.size:=h.k.lt
theorem ZX.list(h:ZX L w B el gN A n c l S)(hB: ∀b,b<w.heap.size→S b∨B≤b→S' b):Xu L w S' A n c l:=h.k.list (S:=S') (fun x hx=>L.sub (h.s x hx) fun b hb hs=>hB b hb (.inl hs)) fun b h1 h2=>hB b h2 (.inr h1)
theorem ZX.low(h:ZX L w B el gN A n c l S):Xu L w (fun b=>b<w.heap.size) A n c l:=h.list fun _ hb _=>hb
theorem ZX.wide{B':Nat}(h:ZX L w B el gN A n c l S)(hB:B'≤B):ZX L w B' el gN A n c l S:=⟨h.k.wide hB,h.s⟩
theorem ZX.sub(h:ZX L w B el gN A n c l S)(hs: ∀b,b<w.heap.size→S b→S' b):ZX L w B el gN A n c l S':=⟨h.k,fun x hx=>L.sub (h.s x hx) hs⟩
theorem ZX.frmB{G:Nat→Prop}(h:ZX L w B el gN A n c l S)(f:Frm G w w')(hd: ∀b,b<w.heap.size→S b∨B≤b→ ¬G b):ZX L w' B el gN A n c l S:=
 ⟨h.k.frmB f (fun b h1 h2 _=>hd b h1 (.inr h2)) h.s fun b h1 h2=>hd b h1 (.inl h2),fun x hx=>L.frmB (h.s x hx) f fun b h1 h2=>hd b h1 (.inl h2)⟩
theorem ZX.elt(h:ZX L w B el gN A n c l S){x:α}(hx:x∈l):L.R w (fun b=>S b∧b+1≠gN) x:=L.sub (L.both (h.s x hx) (h.k.el x hx)) fun _ _ hb=>hb
end
section
variable{dfs:List Deferred}{P:Program}{n:Nat}{e:Nat→Value}{w:World}{K:Act→World→Prop}{Q:Exit→Act→World→Prop}{ty:TypeId}{pos:String}{af:Array Edge}{gd:Option (Nat×Bool)}
theorem QeX{α:Type}{L:SK α}{d:Nat}{s x:Operand}{t el bt:TypeId}{zv:Value}{bytes B gN m c g:Nat}{A:Option Addr}{l:List α}{f:α}{S:Nat→Prop}(ht:P.underlying t=some (.slice el))
  (hi:(P.info? el).map (fun i=>(i.zero,i.size,i.bytes))=some (some zv,L.k,bytes))(hzv:zv.cells.size=L.k)(hs:ev n e s= .slice A m c)(hx:ev n e x= .slice (some ⟨g,0,none⟩) 1 1)(hO:ZX L w B el gN A m c l S)(hb:Blk w g bt (L.cells f))(hf:L.R w (fun b=>S b∧b+1≠gN) f)
  (hm:(m+1)*bytes≤140737488355328)(hm2:m+1≤9223372036854775807)(hB:B≤w.heap.size)
  (kk: ∀A3 c3 g3 w',ZX L w' B el g3 A3 (m+1) c3 (l++[f]) S→(g3=gN∨w.heap.size<g3∧g3≤w'.heap.size)→Frm (fun b=>b+1=gN) w w'→K (mkA dfs n (upd e d (.slice A3 (m+1) c3))) w'):
  OpW P ⟨some d,.call {callee:= .builtin .append,args:= #[s,x],argTypes:= #[t,t]},ty,pos,af,gd⟩ (mkA dfs n e) w K Q:=by
 refine Qxm ht hi hzv hs hx hO.k hO.s hb hf (fun b _ h=>h.2) hm hm2 hB fun A3 c3 g3 w' h1 h2 h3 h4=>kk A3 c3 g3 w' ⟨h1,fun x hx=>L.sub (h4 x hx) fun b _ hb=> ?_⟩ h2 h3
 rcases hb.1 with h|h
 ·exact h
 ·exact h.1
end
end Go.Gx

namespace Go.Gx
open Go.RowKit
structure M4 where
 a:Int
 b:Int
 c:Int
 d:Int
 deriving DecidableEq
def M4.v(m:M4):Value:= .agg #[.int .i64 m.a,.int .i64 m.b,.int .i64 m.c,.int .i64 m.d]
def Yz:Nat→List M4→List MapEntry
 |_,[]=>[]
 |i,m::ms=>{key:=m.v,val:= .int .i64 (i:Int),born:=i}::Yz (i+1) ms
theorem QfN: ∀(i:Nat)(ms:List M4)(m:M4),Yz i (ms++[m])=Yz i ms++[{key:=m.v,val:= .int .i64 ((i+ms.length:Nat):Int),born:=i+ms.length}]
 |i,[],m=>by simp [Yz]
 |i,x::ms,m=>by
  simp only[Qye,Yz,QfN (i+1) ms m,Um]
  rw[show i+1+ms.length=i+(ms.length+1) by omega]
def Qgh(w:World)(b:Nat)(ms:List M4):Prop:=w.heap[b]? =some (.map (Yz 0 ms).toArray ms.length)
theorem Qgh.frm{w w':World}{G:Nat→Prop}{b:Nat}{ms:List M4}(h:Qgh w b ms)(f:Frm G w w')(hg: ¬G b):Qgh w' b ms:=by
 have hb:b<w.heap.size:=(Array.getElem?_eq_some_iff.1 h).1
 exact(f.block b hb hg).trans h
theorem Qgh.lt{w:World}{b:Nat}{ms:List M4}(h:Qgh w b ms):b<w.heap.size:=(Array.getElem?_eq_some_iff.1 h).1
def QiV(m:M4):List M4→Nat→Option Nat
 | [],_=>none
 |x::ms,i=>if m=x then some i else QiV m ms (i+1)
section
variable{P:Program}{w:World}{k e:TypeId}
structure QjA(P:Program)(k e:TypeId):Prop where
 arr:P.underlying k=some (.array 4 e)
 int:P.underlying e=some (.int .i64)
 info: ∃i,P.info? e=some i
 one:P.cellsOf e=1
theorem QjA.part(h:QjA P k e){xs:Array Value}{off:Nat}{v:Value}(hx:xs[off]? =some v):(part e xs off).run P w= .ok v w:=
 run_part_plain w (by unfold Program.plainKey;rw[h.int]) hx
theorem QjA.step(h:QjA P k e){n j:Nat}{xs ys:Array Value}{is:List Nat}{a b:Int}(hx:xs[j]? =some (.int .i64 a))(hy:ys[j]? =some (.int .i64 b)):
  (Op.eqItems (n+1) e 1 xs ys (j::is)).run P w=if a=b then(Op.eqItems (n+1) e 1 xs ys is).run P w else .ok false w:=by
 have eqI:(Op.equalIn (n+1) e (.int .i64 a) (.int .i64 b)).run P w= .ok (a==b) w:=by simp [Op.equalIn,run_underlying h.int]
 have p1:(Go.part e xs (j*1)).run P w= .ok (.int .i64 a) w:=h.part (by rw[Wt];exact hx)
 have p2:(Go.part e ys (j*1)).run P w= .ok (.int .i64 b) w:=h.part (by rw[Wt];exact hy)
 rw[Op.eqItems]
 simp only[Sem.run_bind,p1,p2,eqI,Result.andThen_ok]
 by_cases hab:a=b
 ·simp [hab]
 ·have hbf:(a==b)=false:=by simp [hab]
  simp [hbf,hab]
theorem QjA.equal(h:QjA P k e)(x y:M4):(Op.equal k x.v y.v).run P w= .ok (decide (x=y)) w:=by
 obtain⟨i,hi⟩:=h.info
 have h1:=run_equalIn_array (P:=P) w 9999 #[.int .i64 x.a,.int .i64 x.b,.int .i64 x.c,.int .i64 x.d] #[.int .i64 y.a,.int .i64 y.b,.int .i64 y.c,.int .i64 y.d] h.arr hi
 have h0:Op.equal k x.v y.v=Op.equalIn (9999+1) k x.v y.v:=rfl
 rw[h0]
 refine h1.trans ?_
 rw[h.one,show UV 4=[0,1,2,3] from rfl]
 obtain⟨a,b,c,d⟩:=x
 obtain⟨a',b',c',d'⟩:=y
 dsimp only
 suffices hs: ∀n,(Op.eqItems (n+1) e 1 #[.int .i64 a,.int .i64 b,.int .i64 c,.int .i64 d] #[.int .i64 a',.int .i64 b',.int .i64 c',.int .i64 d'] [0,1,2,3]).run P w= .ok (decide ((⟨a,b,c,d⟩:M4)=⟨a',b',c',d'⟩)) w from hs 9998
 intro n
 rw[h.step (a:=a) (b:=a') rfl rfl,h.step (a:=b) (b:=b') rfl rfl,h.step (a:=c) (b:=c') rfl rfl,h.step (a:=d) (b:=d') rfl rfl]
 simp only[Op.eqItems,Sem.run_pure]
 by_cases h1:a=a'
 ·by_cases h2:b=b'
  ·by_cases h3:c=c'
   ·by_cases h4:d=d'<;>simp [h1,h2,h3,h4,M4.mk.injEq]
   ·simp [h1,h2,h3,M4.mk.injEq]
  ·simp [h1,h2,M4.mk.injEq]
 ·simp [h1,M4.mk.injEq]
theorem QjA.check(h:QjA P k e)(em:Bool)(m:M4):(Instr.checkKey em 10000 k m.v).run P w= .ok () w:=by
 obtain⟨i,hi⟩:=h.info
 have hs:(sizeOf e).run P w= .ok 1 w:=by rw[run_sizeOf w hi,h.one]
 have cg: ∀(n:Nat)(a:Int),(Instr.checkKey em (n+1) e (.int .i64 a)).run P w= .ok () w:=fun n a=>by simp [Instr.checkKey,run_underlying h.int]
 have p: ∀(j:Nat)(v:Value),(#[.int .i64 m.a,.int .i64 m.b,.int .i64 m.c,.int .i64 m.d]:Array Value)[j]? =some v→(Go.part e #[.int .i64 m.a,.int .i64 m.b,.int .i64 m.c,.int .i64 m.d] j).run P w= .ok v w:=fun j v hv=>h.part hv
 suffices ca: ∀(n:Nat),(Instr.checkKey em (n+1+1) k m.v).run P w= .ok () w from ca 9998
 intro n
 have ck:=cg n
 unfold M4.v
 rw[Instr.checkKey.eq_def]
 simp only[Sem.run_bind,run_underlying h.arr,Result.andThen_ok,Std.Legacy.Range.forIn_eq_forIn_range',Std.Legacy.Range.size,Nat.sub_zero,Nat.add_one_sub_one,Nat.div_one]
 rw[show List.range' 0 4=[0,1,2,3] from rfl]
 simp only[List.forIn_cons,List.forIn_nil,Sem.run_bind,hs,Result.andThen_ok,Wt,p 0 (.int .i64 m.a) rfl,p 1 (.int .i64 m.b) rfl,p 2 (.int .i64 m.c) rfl,p 3 (.int .i64 m.d) rfl,ck,Sem.run_pure]
theorem QjA.asking(h:QjA P k e)(m:M4): ∀(ms:List M4)(i:Nat),(Instr.findAsking k m.v (Yz i ms) i).run P w= .ok ((QiV m ms i).map fun j=>(j,Value.int .i64 (j:Int))) w
 | [],i=>by simp [Yz,Instr.findAsking,QiV]
 |x::ms,i=>by
  simp only[Yz,Instr.findAsking,Sem.run_bind,h.equal m x,Result.andThen_ok,QiV]
  by_cases hx:m=x
  ·simp [hx]
  ·simp only[hx,decide_false,if_false,Bool.false_eq_true];exact h.asking m ms (i+1)
theorem QjA.find(h:QjA P k e)(m:M4)(ms:List M4):(Instr.findKey k m.v (Yz 0 ms)).run P w= .ok ((QiV m ms 0).map fun j=>(j,Value.int .i64 (j:Int))) w:=by
 rw[run_findKey_eq w (by rw[h.arr]) m.v (Yz 0 ms)]
 exact h.asking m ms 0
end
section
variable{dfs:List Deferred}{P:Program}{n:Nat}{e:Nat→Value}{w:World}{K:Act→World→Prop}{Q:Exit→Act→World→Prop}{ty:TypeId}{pos:String}{af:Array Edge}{gd:Option (Nat×Bool)}
theorem Qsy{d:Option Nat}{t kt et:TypeId}{x i:Operand}{b:Nat}{ms:List M4}{m:M4}(hm:P.underlying t=some (.map kt et))(hk:QjA P kt et)(hx:ev n e x= .map (some b))(hi:ev n e i=m.v)(hB:Qgh w b ms)(hz:(zeroValue et).run P w= .ok (.int .i64 0) w):
  Ev P n e ⟨d,.lookup t x i true,ty,pos,af,gd⟩ w (.tuple #[.int .i64 (((QiV m ms 0).getD 0:Nat):Int),.bool (QiV m ms 0).isSome]):=by
 have hg:(getObj b).run P w= .ok (.map (Yz 0 ms).toArray ms.length) w:=by
  have hB':w.heap[b]? =some (.map (Yz 0 ms).toArray ms.length):=hB
  simp [getObj,Sem.run,hB']
 simp only[Ev,execOp,hx,hi,Instr.lookup,Sem.run_bind,run_underlying hm,Result.andThen_ok,hg,Sem.run_pure,hk.check,hk.find]
 cases h:QiV m ms 0 with
 |none=>simp [h,hz]
 |some j=>simp [h]
theorem Qry{d:Nat}{t:TypeId}(k: ∀g w',g=w.heap.size→Ext w w'→w'.heap.size=g+1→Qgh w' g []→K (mkA dfs n (upd e d (.map (some g)))) w'):
  OpW P ⟨some d,.makeMap t none,ty,pos,af,gd⟩ (mkA dfs n e) w K Q:=by
 unfold OpW Oper.wp
 rw[Yk]
 have :=k w.heap.size (w.alloc (.map #[] 0)) rfl (QbE _ _) (by simp) (by show(w.heap.push _)[w.heap.size]? =_;simp [Yz])
 simp only[execOp,Instr.makeMap,newObj,Sem.run_bind,Sem.run_pure,Result.andThen_ok,Sem.run,Oper.upon,YM]
 exact this
theorem QuH{t kt et:TypeId}{x i v:Operand}{b:Nat}{ms:List M4}{m:M4}(hm:P.underlying t=some (.map kt et))(hk:QjA P kt et)(hx:ev n e x= .map (some b))(hi:ev n e i=m.v)(hv:ev n e v= .int .i64 ((ms.length:Nat):Int))(hB:Qgh w b ms)(hn:QiV m ms 0=none)
  (k: ∀w',Frm (fun g=>g=b) w w'→w'.heap.size=w.heap.size→Qgh w' b (ms++[m])→K (mkA dfs n e) w'):
  OpW P ⟨none,.mapUpdate t x i v,ty,pos,af,gd⟩ (mkA dfs n e) w K Q:=by
 have hB':w.heap[b]? =some (.map (Yz 0 ms).toArray ms.length):=hB
 have hlt:=Qgh.lt hB
 have hg:(getObj b).run P w= .ok (.map (Yz 0 ms).toArray ms.length) w:=by simp [getObj,Sem.run,hB']
 unfold OpW Oper.wp
 rw[Yk]
 simp only[execOp,hx,hi,hv,Instr.mapUpdate,Sem.run_bind,run_underlying hm,Result.andThen_ok,hg,hk.check,hk.find,hn,Option.map_none]
 have hs:(setObj b (.map ((Yz 0 ms).toArray.push {key:=m.v,val:= .int .i64 ((ms.length:Nat):Int),born:=ms.length}) (ms.length+1))).run P w= .ok () {w with heap:=w.heap.set! b (.map ((Yz 0 ms).toArray.push {key:=m.v,val:= .int .i64 ((ms.length:Nat):Int),born:=ms.length}) (ms.length+1))}:=by
  simp [setObj,Sem.run,hB']
 rw[hs]
 simp only[Result.andThen_ok,Oper.upon,Qgq]
 refine k _ ⟨rfl,rfl,rfl,by simp,Ug _,fun j _ hj=> ?_⟩ (by simp) ?_
 ·simp only[Array.set!_eq_setIfInBounds,Array.getElem?_setIfInBounds]
  rw[if_neg fun h=>hj h.symm]
 ·simp only[Qgh,Array.set!_eq_setIfInBounds,Array.getElem?_setIfInBounds,if_true,hlt]
  rw[QfN,UO]
  simp
end
end Go.Gx

namespace Go.Gx
open Go.RowKit
inductive TT where
 |mk (lev:Int) (g:Bool) (A:Option Addr) (n c:Nat) (d:List Nat) (Ac:Option Addr) (nc cc:Nat) (kids:List TT)
def TT.cells:TT→List Value
 | .mk lev g A n c _ Ac nc cc _=>[.int .i64 lev,.bool g,.slice A n c,.slice Ac nc cc]
def TT.lev:TT→Int
 | .mk lev _ _ _ _ _ _ _ _ _=>lev
def TT.kids:TT→List TT
 | .mk _ _ _ _ _ _ _ _ _ kids=>kids
inductive TreeR (w:World) (S:Nat→Prop):TT→Prop
 |mk {lev:Int} {g:Bool} {A:Option Addr} {n c:Nat} {d:List Nat} {Ac:Option Addr} {nc cc:Nat} {kids:List TT} (hn:Xn w S A n c d) (hr:Rd w S Ac nc cc 4 (kids.flatMap TT.cells)) (hk: ∀t∈kids,TreeR w S t):
   TreeR w S (.mk lev g A n c d Ac nc cc kids)
theorem TreeR.frmB{w w':World}{S G:Nat→Prop}{t:TT}(h:TreeR w S t)(f:Frm G w w')(hd: ∀b,b<w.heap.size→S b→ ¬G b):TreeR w' S t:=by
 induction h with
 |mk hn hr _ ih=>exact .mk (hn.frmB f hd) (hr.frmB f hd) ih
theorem TreeR.ext{w w':World}{S:Nat→Prop}{t:TT}(h:TreeR w S t)(f:Ext w w'):TreeR w' S t:=by
 induction h with
 |mk hn hr _ ih=>exact .mk (hn.ext f) (hr.ext f) ih
theorem TreeR.sub{w:World}{S S':Nat→Prop}{t:TT}(h:TreeR w S t)(hs: ∀b,b<w.heap.size→S b→S' b):TreeR w S' t:=by
 induction h with
 |mk hn hr _ ih=>exact .mk (hn.sub hs) (hr.sub hs) ih
theorem Rd.both{w:World}{S T:Nat→Prop}{A:Option Addr}{n c k:Nat}{cs:List Value}(h:Rd w S A n c k cs)(g:Rd w T A n c k cs):Rd w (fun b=>S b∧T b) A n c k cs:=by
 refine⟨h.1,h.2.1,h.2.2.1,fun h0=> ?_⟩
 obtain⟨b,o,e,hs,hb,hc⟩:=h.2.2.2 h0
 obtain⟨b',o',e',hs',_,_⟩:=g.2.2.2 h0
 rw[e] at e'
 injection e' with e'
 injection e' with e1 e2
 subst e1
 exact⟨b,o,e,⟨hs,hs'⟩,hb,hc⟩
theorem TreeR.both{w:World}{S S':Nat→Prop}{t:TT}(h:TreeR w S t)(g:TreeR w S' t):TreeR w (fun b=>S b∧S' b) t:=by
 induction h with
 |mk hn hr _ ih=>
  cases g with
  |mk hn' hr' hk'=>exact .mk (hn.both hn') (hr.both hr') fun t ht=>ih t ht (hk' t ht)
def TK:SK TT where
 k:=4
 pos:=by decide
 cells:=TT.cells
 len t:=by cases t;rfl
 one t:=by cases t;rfl
 R:=TreeR
 frmB h f hd:=h.frmB f hd
 ext h f:=h.ext f
 sub h hs:=h.sub hs
 both h g:=h.both g
theorem TreeR.nat{w:World}{S:Nat→Prop}{lev:Int}{g:Bool}{A:Option Addr}{n c:Nat}{d:List Nat}{Ac:Option Addr}{nc cc:Nat}{kids:List TT}(h:TreeR w S (.mk lev g A n c d Ac nc cc kids)):Xn w S A n c d:=by cases h with |mk hn _ _=>exact hn
theorem TreeR.list{w:World}{S:Nat→Prop}{lev:Int}{g:Bool}{A:Option Addr}{n c:Nat}{d:List Nat}{Ac:Option Addr}{nc cc:Nat}{kids:List TT}(h:TreeR w S (.mk lev g A n c d Ac nc cc kids)):Xu TK w S Ac nc cc kids:=by cases h with |mk _ hr hk=>exact⟨hr,hk⟩
theorem TreeR.make{w:World}{S:Nat→Prop}{lev:Int}{g:Bool}{A:Option Addr}{n c:Nat}{d:List Nat}{Ac:Option Addr}{nc cc:Nat}{kids:List TT}(hn:Xn w S A n c d)(hl:Xu TK w S Ac nc cc kids):TreeR w S (.mk lev g A n c d Ac nc cc kids):= .mk hn hl.1 hl.2
inductive RT where
 |mk (lev:Int) (c:Int) (kids:List RT)
mutual
def TT.val:TT→RT
 | .mk lev g _ _ _ d _ _ _ kids=> .mk lev (Xx g d) (TT.vals kids)
def TT.vals:List TT→List RT
 | []=>[]
 |t::l=>TT.val t::TT.vals l
end
theorem TT.vals_map(l:List TT):TT.vals l=l.map TT.val:=by
 induction l with
 |nil=>simp [TT.vals]
 |cons t l ih=>simp [TT.vals,ih]
mutual
def TT.depth:TT→Nat
 | .mk _ _ _ _ _ _ _ _ _ kids=>1+TT.depths kids
def TT.depths:List TT→Nat
 | []=>0
 |t::l=>max (TT.depth t) (TT.depths l)
end
theorem TT.depth_kid{t:TT}{k:TT}(h:k∈t.kids):k.depth<t.depth:=by
 obtain⟨lev,g,A,n,c,d,Ac,nc,cc,kids⟩:=t
 have key: ∀l:List TT,k∈l→k.depth≤TT.depths l:=by
  intro l
  induction l with
  |nil=>intro h;cases h
  |cons x l ih=>
   intro h
   rw[TT.depths]
   rcases List.mem_cons.1 h with h|h
   ·subst h;omega
   ·have :=ih h;omega
 have :=key kids h
 rw[TT.depth];omega
inductive Yi:TT→Prop
 |const {g:Bool} {A:Option Addr} {n c:Nat} {d:List Nat} {Ac:Option Addr} {cc:Nat} (h:Qay g d∧val d<2^63):Yi (.mk 0 g A n c d Ac 0 cc [])
 |node {lev:Int} {A:Option Addr} {c:Nat} {Ac:Option Addr} {nc cc:Nat} {kids:List TT} (h1:1≤lev∧lev≤4) (h2:2≤kids.length∧kids.length≤256) (hl: ∀k∈kids,k.lev<lev) (hk: ∀k∈kids,Yi k) (hz: ∀k,kids.getLast?=some k→k.val≠ .mk 0 0 []):Yi (.mk lev false A 0 c [] Ac nc cc kids)
end Go.Gx

namespace Go.Gx
structure TM where
 c:Int
 m:M4
def M4.get(m:M4):Nat→Int
 |1=>m.a
 |2=>m.b
 |3=>m.c
 |4=>m.d
 |_=>0
def Qiw(x y:M4):Int:=if x.d≠y.d then Qb8 x.d y.d else if x.c≠y.c then Qb8 x.c y.c else if x.b≠y.b then Qb8 x.b y.b else Qb8 x.a y.a
def M4.lt(x y:M4):Prop:=x.d<y.d∨x.d=y.d∧(x.c<y.c∨x.c=y.c∧(x.b<y.b∨x.b=y.b∧x.a<y.a))
variable{a b l:List TM}{m x y z:M4}{t:TM}
theorem Qix:Qiw x y<0↔x.lt y:=by
 unfold Qiw M4.lt Qb8
 repeat' split
 all_goals omega
theorem M4.ext_(h1:x.a=y.a)(h2:x.b=y.b)(h3:x.c=y.c)(h4:x.d=y.d):x=y:=by
 cases x;cases y;simp_all
theorem QoD:Qiw x y=0↔x=y:=by
 constructor
 ·intro h
  have h2:x.d=y.d∧x.c=y.c∧x.b=y.b∧x.a=y.a:=by
   unfold Qiw Qb8 at h
   repeat' split at h
   all_goals omega
  exact M4.ext_ h2.2.2.2 h2.2.2.1 h2.2.1 h2.1
 ·rintro rfl;unfold Qiw Qb8;simp
theorem M4.lt_irrefl(x:M4): ¬x.lt x:=by unfold M4.lt;omega
theorem M4.lt_trans(h:x.lt y)(g:y.lt z):x.lt z:=by unfold M4.lt at *;omega
theorem M4.lt_tri(x y:M4):x.lt y∨x=y∨y.lt x:=by
 by_cases h:x=y
 ·exact .inr (.inl h)
 ·have h2: ¬(x.a=y.a∧x.b=y.b∧x.c=y.c∧x.d=y.d):=fun h3=>h (M4.ext_ h3.1 h3.2.1 h3.2.2.1 h3.2.2.2)
  unfold M4.lt;omega
def QbB:List TM→M4→Int
 | [],_=>0
 |t::l,m=>(if t.m=m then t.c else 0)+QbB l m
theorem QoL(h:a.Perm b)(m:M4):QbB a m=QbB b m:=by
 induction h with
 |nil=>rfl
 |cons t _ ih=>simp only[QbB,ih]
 |swap t u l=>simp only[QbB];omega
 |trans _ _ h1 h2=>rw[h1,h2]
def QdU(l:List TM):Prop:=l.Pairwise (fun x y=>y.m.lt x.m)∧ ∀t∈l,t.c≠0
theorem QgH(h: ∀t∈l,t.m≠m):QbB l m=0:=by
 induction l with
 |nil=>rfl
 |cons t l ih=>
  rw[QbB,if_neg (h t (Wu ..)),ih fun u hu=>h u (List.mem_cons_of_mem _ hu)];rfl
theorem QdU.head(h:QdU (t::l)):QbB (t::l) t.m=t.c∧ ∀u∈l,u.m.lt t.m:=by
 have h1:=(List.pairwise_cons.1 h.1).1
 refine⟨?_,h1⟩
 rw[QbB,if_pos rfl,QgH fun u hu e=> ?_]
 ·omega
 ·have :=h1 u hu;rw[e] at this;exact M4.lt_irrefl _ this
theorem QdU.tail(h:QdU (t::l)):QdU l:=⟨(List.pairwise_cons.1 h.1).2,fun u hu=>h.2 u (List.mem_cons_of_mem _ hu)⟩
theorem QdU.uniq: ∀{a b:List TM},QdU a→QdU b→(∀m,QbB a m=QbB b m)→a=b
 | [],[],_,_,_=>rfl
 | [],t::b,_,hb,h=>by
  exfalso
  have h1:=h t.m
  rw[hb.head.1] at h1
  exact hb.2 t (Wu ..) h1.symm
 |t::a,[],ha,_,h=>by
  exfalso
  have h1:=h t.m
  rw[ha.head.1] at h1
  exact ha.2 t (Wu ..) h1
 |t::a,u::b,ha,hb,h=>by
  have key:t.m=u.m:=by
   rcases M4.lt_tri t.m u.m with h1|h1|h1
   ·exfalso
    have h2:=h u.m
    rw[hb.head.1,QgH fun x hx e=> ?_] at h2
    ·exact hb.2 u (Wu ..) h2.symm
    ·rcases List.mem_cons.1 hx with rfl|hx
     ·rw[e] at h1;exact M4.lt_irrefl _ h1
     ·have h3:=ha.head.2 x hx
      rw[e] at h3;exact M4.lt_irrefl _ (M4.lt_trans h3 h1)
   ·exact h1
   ·exfalso
    have h2:=h t.m
    rw[ha.head.1,QgH fun x hx e=> ?_] at h2
    ·exact ha.2 t (Wu ..) h2
    ·rcases List.mem_cons.1 hx with rfl|hx
     ·rw[e] at h1;exact M4.lt_irrefl _ h1
     ·have h3:=hb.head.2 x hx
      rw[e] at h3;exact M4.lt_irrefl _ (M4.lt_trans h3 h1)
  have hc:t.c=u.c:=by
   have h2:=h t.m
   rw[ha.head.1,key,hb.head.1] at h2;exact h2
  have htu:t=u:=by cases t;cases u;simp_all
  subst htu
  rw[QdU.uniq ha.tail hb.tail fun m=>by have h2:=h m;simp only[QbB] at h2;omega]
def QbA:RT:= .mk 0 0 []
def QdF:Nat→List TM→RT
 |0,ts=>match ts with
  | []=>QbA
  |t::_=> .mk 0 t.c []
 |L+1,ts=>match ts with
  | []=>QbA
  |t::r=>if t.m.get (L+1)=0 then QdF L (t::r) else .mk ((L+1:Nat):Int) 0 ((UV (t.m.get (L+1)+1).toNat).map fun e:Nat=>QdF L ((t::r).filter fun u=>u.m.get (L+1)=(e:Int)))
theorem QlR: ∀L,QdF L []=QbA
 |0=>rfl
 |_+1=>rfl
def Qhw(l:List TM)(c:Int)(m:M4):List TM:=match l with
 | []=>[⟨c,m⟩]
 |t::l=>if t.m=m then⟨t.c+c,m⟩::l else t::Qhw l c m
theorem QoI(l:List TM)(c:Int)(m x:M4):QbB (Qhw l c m) x=QbB l x+ if m=x then c else 0:=by
 induction l with
 |nil=>simp only[Qhw,QbB];omega
 |cons t l ih=>
  unfold Qhw
  split
  ·rename_i h
   simp only[QbB,h]
   by_cases hx:m=x<;>simp [hx]<;>omega
  ·simp only[QbB,ih];omega
theorem QmX(l:List TM)(c:Int)(m:M4):(Qhw l c m).map TM.m=if m∈l.map TM.m then l.map TM.m else l.map TM.m++[m]:=by
 induction l with
 |nil=>simp [Qhw]
 |cons t l ih=>
  unfold Qhw
  by_cases h:t.m=m
  ·rw[if_pos h];simp [h]
  ·rw[if_neg h]
   simp only[Wk,ih,WN]
   by_cases h2:m∈l.map TM.m
   ·rw[if_pos h2,if_pos (.inr h2)]
   ·rw[if_neg h2,if_neg fun h3=>h3.elim (fun e=>h e.symm) h2];rfl
end Go.Gx

namespace Go.Gx
open Go.RowKit
structure QE where
 g:Bool
 A:Option Addr
 n:Nat
 c:Nat
 d:List Nat
 Av:Option Addr
 nv:Nat
 cv:Nat
 dv:List Nat
def QE.cells(q:QE):List Value:=[.bool q.g,.slice q.A q.n q.c,.slice q.Av q.nv q.cv]
def QE.red(q:QE):Prop:=Qay q.g q.d∧Canon isZ q.dv∧0<val q.dv∧UK (val q.d) (val q.dv)=1
def QE.ok(M:Nat)(q:QE):Prop:=q.red∧val q.d<2^M∧val q.dv<2^M
def QE.num(q:QE):Int:=Xx q.g q.d
def QE.den(q:QE):Nat:=val q.dv
def QE.v(q:QE):Rat:=rv q.num q.den
def QR(M:Nat)(w:World)(S:Nat→Prop)(q:QE):Prop:=(Xn w S q.A q.n q.c q.d∧Xn w S q.Av q.nv q.cv q.dv)∧q.ok M
section
variable{M M':Nat}{w w':World}{S S' G:Nat→Prop}{q:QE}
theorem QR.frmB(h:QR M w S q)(f:Frm G w w')(hd: ∀b,b<w.heap.size→S b→ ¬G b):QR M w' S q:=⟨⟨h.1.1.frmB f hd,h.1.2.frmB f hd⟩,h.2⟩
theorem QR.ext(h:QR M w S q)(f:Ext w w'):QR M w' S q:=⟨⟨h.1.1.ext f,h.1.2.ext f⟩,h.2⟩
theorem QR.sub(h:QR M w S q)(hs: ∀b,b<w.heap.size→S b→S' b):QR M w S' q:=⟨⟨h.1.1.sub hs,h.1.2.sub hs⟩,h.2⟩
theorem QR.both(h:QR M w S q)(g:QR M' w S' q):QR M w (fun b=>S b∧S' b) q:=⟨⟨h.1.1.both g.1.1,h.1.2.both g.1.2⟩,h.2⟩
theorem QsO(M:Nat):2^M≤BS^ (M/32+1):=by
 have h:BS=2^32:=by decide
 rw[h,←Nat.pow_mul]
 exact UN (by decide) (by omega)
theorem QR.lkm(h:QR M w S q):q.n≤M/32+1∧q.nv≤M/32+1:=by
 obtain⟨⟨h1,h2⟩,⟨h3,h4,_,_⟩,h5,h6⟩:=h
 have a:=YA h3.1 (UM h5 (QsO M))
 have b:=YA h4 (UM h6 (QsO M))
 rw[h1.len] at a;rw[h2.len] at b
 exact⟨a,b⟩
end
def QK(M:Nat):SK QE where
 k:=3
 pos:=by decide
 cells:=QE.cells
 len _:=rfl
 one _:=rfl
 R:=QR M
 frmB h f hd:=h.frmB f hd
 ext h f:=h.ext f
 sub h hs:=h.sub hs
 both h g:=h.both g
theorem QE.v_def{q:QE}(h:q.red):q.v=(q.num:Rat)/ ((q.den:Int):Rat):=by
 have h1:0<q.den:=h.2.2.1
 unfold QE.v rv;rw[ZN h1,ZZ h1]
theorem QE.den_pos{q:QE}(h:q.red):(0:Rat)<((q.den:Int):Rat):=by
 have h1:0<q.den:=h.2.2.1
 rw[show(0:Rat)=((0:Int):Rat) from rfl,WE];omega
theorem div_lt{a b c d:Rat}(hb:0<b)(hd:0<d):a/b<c/d↔a*d<c*b:=by
 rw[Rat.div_lt_iff hb,show c/d*b=c*b/d by grind,Rat.lt_div_iff hd]
theorem Qsv{a b c d:Rat}(hb:0<b)(hd:0<d):a/b=c/d↔a*d=c*b:=by
 constructor
 ·intro h;grind
 ·intro h;grind
def Qm2(a b:Rat):Int:=if a<b then -1 else if a=b then 0 else 1
theorem Qt1{a b c d:Int}(hb:0<b)(hd:0<d):Qb8 (a*d) (c*b)=Qm2 ((a:Rat)/ (b:Rat)) ((c:Rat)/ (d:Rat)):=by
 have hb':(0:Rat)<(b:Rat):=by rw[show(0:Rat)=((0:Int):Rat) from rfl,WE];omega
 have hd':(0:Rat)<(d:Rat):=by rw[show(0:Rat)=((0:Int):Rat) from rfl,WE];omega
 unfold Qm2 Qb8
 simp only[div_lt hb' hd',Qsv hb' hd',←Ur,WE,Rat.intCast_inj]
 repeat' split
 all_goals omega
theorem QE.cmp{p q:QE}(hp:p.red)(hq:q.red):Qb8 (Qct p.num p.den*(QaY q.den:Int)) (Qct q.num q.den*(QaY p.den:Int))=Qm2 p.v q.v:=by
 have h1:0<p.den:=hp.2.2.1
 have h2:0<q.den:=hq.2.2.1
 rw[QE.v_def hp,QE.v_def hq,←Qt1 (by omega) (by omega),ZN h1,ZN h2,ZZ h1,ZZ h2]
theorem Qwk{n N D:Int}{v:Nat}(hv:0<v)(hg:UK n.natAbs v=1)(hD:0<D)(h:n*D=N*(v:Int)):n.natAbs≤N.natAbs∧v≤D.natAbs:=by
 have h1:n.natAbs*D.natAbs=N.natAbs*v:=by have :=congrArg Int.natAbs h;simpa [UW] using this
 have h2:v∣D.natAbs:=by
  have h3:v∣n.natAbs*D.natAbs:=by rw[h1];exact Qzq _ _
  exact Nat.Coprime.dvd_of_dvd_mul_left (Nat.Coprime.symm hg) h3
 have h3:v≤D.natAbs:=Nat.le_of_dvd (by omega) h2
 refine⟨?_,h3⟩
 obtain⟨k,hk⟩:=h2
 have hk0:0<k:=by rcases Uk k with h0|h0;(subst h0;omega);exact h0
 rw[hk,Nat.mul_left_comm,UC N.natAbs] at h1
 have h4:n.natAbs*k=N.natAbs:=Nat.eq_of_mul_eq_mul_left hv h1
 rw[←h4];exact Nat.le_mul_of_pos_right _ hk0
structure TD where
 g:Bool
 A:Option Addr
 n:Nat
 c:Nat
 d:List Nat
 m:M4
def TD.cells(t:TD):List Value:=[.bool t.g,.slice t.A t.n t.c,.int .i64 t.m.a,.int .i64 t.m.b,.int .i64 t.m.c,.int .i64 t.m.d]
def TD.t(x:TD):TM:=⟨Xx x.g x.d,x.m⟩
def TD.ok(x:TD):Prop:=Qay x.g x.d∧val x.d<2^63∧(0≤x.m.a∧x.m.a≤255)∧(0≤x.m.b∧x.m.b≤255)∧(0≤x.m.c∧x.m.c≤255)∧(0≤x.m.d∧x.m.d≤255)
def TMR(w:World)(S:Nat→Prop)(x:TD):Prop:=Xn w S x.A x.n x.c x.d∧x.ok
def TMK:SK TD where
 k:=6
 pos:=by decide
 cells:=TD.cells
 len _:=rfl
 one _:=rfl
 R:=TMR
 frmB h f hd:=⟨h.1.frmB f hd,h.2⟩
 ext h f:=⟨h.1.ext f,h.2⟩
 sub h hs:=⟨h.1.sub hs,h.2⟩
 both h g:=⟨h.1.both g.1,h.2⟩
theorem TMR.frmB{w w':World}{S G:Nat→Prop}{x:TD}(h:TMR w S x)(f:Frm G w w')(hd: ∀b,b<w.heap.size→S b→ ¬G b):TMR w' S x:=TMK.frmB h f hd
def tms(l:List TD):List TM:=l.map TD.t
structure IV where
 lo:QE
 hi:QE
def IV.cells(x:IV):List Value:=x.lo.cells++x.hi.cells
def IVR(M:Nat)(w:World)(S:Nat→Prop)(x:IV):Prop:=QR M w S x.lo∧QR M w S x.hi
def IVK(M:Nat):SK IV where
 k:=6
 pos:=by decide
 cells:=IV.cells
 len _:=rfl
 one _:=rfl
 R:=IVR M
 frmB h f hd:=⟨h.1.frmB f hd,h.2.frmB f hd⟩
 ext h f:=⟨h.1.ext f,h.2.ext f⟩
 sub h hs:=⟨h.1.sub hs,h.2.sub hs⟩
 both h g:=⟨h.1.both g.1,h.2.both g.2⟩
theorem IVR.frmB{M:Nat}{w w':World}{S G:Nat→Prop}{x:IV}(h:IVR M w S x)(f:Frm G w w')(hd: ∀b,b<w.heap.size→S b→ ¬G b):IVR M w' S x:=(IVK M).frmB h f hd
theorem IVR.ext{M:Nat}{w w':World}{S:Nat→Prop}{x:IV}(h:IVR M w S x)(f:Ext w w'):IVR M w' S x:=(IVK M).ext h f
theorem IVR.sub{M:Nat}{w:World}{S S':Nat→Prop}{x:IV}(h:IVR M w S x)(hs: ∀b,b<w.heap.size→S b→S' b):IVR M w S' x:=(IVK M).sub h hs
end Go.Gx

namespace Go.Gx
open Go.RowKit
theorem QnN{c:Int}{m:M4}: ∀{l:List TM}{i j:Nat},QiV m (l.map TM.m) i=some j→ ∃k t,j=i+k∧l[k]? =some t∧t.m=m∧Qhw l c m=l.set k ⟨t.c+c,m⟩
 | [],_,_,h=>by simp [QiV] at h
 |t::l,i,j,h=>by
  simp only[Wk,QiV] at h
  split at h
  ·rename_i hm
   injection h with h
   exact⟨0,t,by omega,rfl,hm.symm,by simp [Qhw,hm]⟩
  ·rename_i hm
   obtain⟨k,u,h1,h2,h3,h4⟩:=QnN (c:=c) h
   refine⟨k+1,u,by omega,by simpa using h2,h3,?_⟩
   rw[Qhw,if_neg fun e=>hm e.symm,h4,List.set_cons_succ]
theorem QlO{c:Int}{m:M4}: ∀{l:List TM}{i:Nat},QiV m (l.map TM.m) i=none→Qhw l c m=l++[⟨c,m⟩]
 | [],_,_=>rfl
 |t::l,i,h=>by
  simp only[Wk,QiV] at h
  split at h
  ·cases h
  ·rename_i hm
   rw[Qhw,if_neg fun e=>hm e.symm,QlO h];rfl
theorem QkH(l:List TD):(tms l).map TM.m=l.map TD.m:=by simp [tms,TD.t]
theorem Qva(l:List TD)(i:Nat)(x:TD):tms (l.set i x)=(tms l).set i x.t:=by simp [tms,UA]
theorem QbD(a b:List TD):tms (a++b)=tms a++tms b:=by simp [tms]
theorem Qqh{l:List TD}{c:Int}{m:M4}{j:Nat}(h:QiV m (l.map TD.m) 0=some j): ∃t,l[j]? =some t∧t.m=m∧j<l.length∧ ∀x:TD,x.m=m→Xx x.g x.d=Xx t.g t.d+c→tms (l.set j x)=Qhw (tms l) c m∧(l.set j x).map TD.m=l.map TD.m:=by
 rw[←QkH] at h
 obtain⟨k,u,h1,h2,h3,h4⟩:=QnN (c:=c) h
 rw[WJ] at h1
 subst h1
 simp only[tms,Un,Option.map_eq_some_iff] at h2
 obtain⟨t,ht,hu⟩:=h2
 subst hu
 have hj:j<l.length:=(List.getElem?_eq_some_iff.1 ht).1
 refine⟨t,ht,h3,hj,fun x hx hv=> ?_⟩
 constructor
 ·rw[Qva,h4]
  congr 1
  show TM.mk _ _=TM.mk _ _
  rw[hx,hv];rfl
 ·rw[UA,hx]
  apply WS
  intro i
  rw[WU]
  split
  ·rename_i e;subst e
   rw[Un,ht]
   have h3':t.m=m:=h3
   simp [h3',hj]
  ·rfl
theorem QlJ{l:List TD}{m:M4}(h:QiV m (l.map TD.m) 0=none)(x:TD)(hx:x.m=m):tms (l++[x])=Qhw (tms l) (Xx x.g x.d) m∧(l++[x]).map TD.m=l.map TD.m++[m]:=by
 rw[←QkH] at h
 refine⟨?_,by simp [hx]⟩
 rw[QlO h,QbD]
 subst hx;rfl
def QiP(p:List TM):List TM:=p.foldl (fun l t=>Qhw l t.c t.m) []
theorem Qnb(p:List TM)(t:TM):QiP (p++[t])=Qhw (QiP p) t.c t.m:=by simp [QiP]
theorem QoJ(p:List TM)(l:List TM)(x:M4):QbB (p.foldl (fun l t=>Qhw l t.c t.m) l) x=QbB l x+QbB p x:=by
 induction p generalizing l with
 |nil=>simp [QbB]
 |cons t p ih=>
  rw[List.foldl_cons,ih,QoI,QbB];omega
theorem QoK(p:List TM)(x:M4):QbB (QiP p) x=QbB p x:=by rw[QiP,QoJ,QbB];omega
theorem QmY{l:List TM}{c:Int}{m:M4}(h:(l.map TM.m).Nodup):((Qhw l c m).map TM.m).Nodup:=by
 rw[QmX]
 split
 ·exact h
 ·rename_i hm
  rw[List.nodup_append]
  exact⟨h,by simp,fun a ha b hb=>by rw[List.mem_singleton.1 hb];exact fun e=>hm (e▸ha)⟩
theorem Qnc(p:List TM):((QiP p).map TM.m).Nodup:=by
 have key: ∀(p l:List TM),(l.map TM.m).Nodup→((p.foldl (fun l t=>Qhw l t.c t.m) l).map TM.m).Nodup:=by
  intro p
  induction p with
  |nil=>intro l h;exact h
  |cons t p ih=>intro l h;exact ih _ (QmY h)
 exact key p [] (by simp)
def nzT(l:List TM):List TM:=l.filter fun t=>t.c≠0
theorem Qt4(l:List TM)(x:M4):QbB (nzT l) x=QbB l x:=by
 induction l with
 |nil=>rfl
 |cons t l ih=>
  unfold nzT at ih⊢
  by_cases h:t.c=0
  ·rw[List.filter_cons_of_neg (by simp [h]),ih,QbB,h];simp
  ·rw[List.filter_cons_of_pos (by simp [h]),QbB,QbB,ih]
theorem Qru{l:List TM}(h:(l.map TM.m).Nodup):((nzT l).map TM.m).Nodup:=h.sublist (List.filter_sublist.map _)
theorem QpL(l:List TM)(t:TM):nzT (l++[t])=if t.c=0 then nzT l else nzT l++[t]:=by
 unfold nzT
 rw[List.filter_append]
 by_cases h:t.c=0<;>simp [h]
theorem Qk4{a l:List TM}(hp:l.Perm (nzT a))(hn:(a.map TM.m).Nodup)(hs:l.Pairwise fun x y=> ¬x.m.lt y.m):QdU l∧ ∀m,QbB l m=QbB a m:=by
 have h1:(l.map TM.m).Nodup:=(hp.map TM.m).nodup_iff.2 (Qru hn)
 refine⟨⟨?_,fun t ht=> ?_⟩,fun m=>by rw[QoL hp,Qt4]⟩
 ·rw[List.Nodup,List.pairwise_map] at h1
  refine(hs.and h1).imp fun h=> ?_
  rcases M4.lt_tri _ _ with h2|h2|h2
  ·exact absurd h2 h.1
  ·exact absurd h2 h.2
  ·exact h2
 ·have :=hp.mem_iff.1 ht
  simpa [nzT] using(List.mem_filter.1 this).2
theorem Qaq{a b:Int}:Qb8 a b=0↔a=b:=by unfold Qb8;repeat' split;all_goals omega
theorem Qw9{a b c d a' b' c' d':Int}(h4:Qb8 d d'=0)(h3:Qb8 c c'=0)(h2:Qb8 b b'=0)(h1:Qb8 a a'=0):(0:Int)=Qiw ⟨a,b,c,d⟩ ⟨a',b',c',d'⟩:=by
 rw[Qaq.1 h4,Qaq.1 h3,Qaq.1 h2,Qaq.1 h1]
 exact(QoD.2 rfl).symm
theorem Qxa{a b c d a' b' c' d' r:Int}(h0:r≠0)(h4:r=Qb8 d d'):r=Qiw ⟨a,b,c,d⟩ ⟨a',b',c',d'⟩:=by
 unfold Qiw;dsimp only
 rw[if_pos fun e=>h0 (by rw[h4,e];exact Qaq.2 rfl),h4]
theorem Qxb{a b c d a' b' c' d' r:Int}(h4:Qb8 d d'=0)(h0:r≠0)(h3:r=Qb8 c c'):r=Qiw ⟨a,b,c,d⟩ ⟨a',b',c',d'⟩:=by
 unfold Qiw;dsimp only
 rw[if_neg fun h=>h (Qaq.1 h4),if_pos fun e=>h0 (by rw[h3,e];exact Qaq.2 rfl),h3]
theorem Qxc{a b c d a' b' c' d' r:Int}(h4:Qb8 d d'=0)(h3:Qb8 c c'=0)(h0:r≠0)(h2:r=Qb8 b b'):r=Qiw ⟨a,b,c,d⟩ ⟨a',b',c',d'⟩:=by
 unfold Qiw;dsimp only
 rw[if_neg fun h=>h (Qaq.1 h4),if_neg fun h=>h (Qaq.1 h3),if_pos fun e=>h0 (by rw[h2,e];exact Qaq.2 rfl),h2]
theorem Qxd{a b c d a' b' c' d' r:Int}(h4:Qb8 d d'=0)(h3:Qb8 c c'=0)(h2:Qb8 b b'=0)(_:r≠0)(h1:r=Qb8 a a'):r=Qiw ⟨a,b,c,d⟩ ⟨a',b',c',d'⟩:=by
 unfold Qiw;dsimp only
 rw[if_neg fun h=>h (Qaq.1 h4),if_neg fun h=>h (Qaq.1 h3),if_neg fun h=>h (Qaq.1 h2),h1]
section
variable{P:Program}{n:Nat}{e:Nat→Value}{w:World}{ty:TypeId}{pos:String}{af:Array Edge}{gd:Option (Nat×Bool)}
theorem Qui{d:Option Nat}{t kt et:TypeId}{x i:Operand}{b:Nat}{ms:List M4}{m:M4}(hm:P.underlying t=some (.map kt et))(hk:QjA P kt et)(hx:ev n e x= .map (some b))(hi:ev n e i=m.v)(hB:Qgh w b ms)(hz:(zeroValue et).run P w= .ok (.int .i64 0) w)(h:QiV m ms 0=none):
  Ev P n e ⟨d,.lookup t x i true,ty,pos,af,gd⟩ w (.tuple #[.int .i64 0,.bool false]):=by
 have :=Qsy (d:=d) (ty:=ty) (pos:=pos) (af:=af) (gd:=gd) hm hk hx hi hB hz
 rw[h] at this;exact this
theorem Quj{d:Option Nat}{t kt et:TypeId}{x i:Operand}{b j:Nat}{ms:List M4}{m:M4}(hm:P.underlying t=some (.map kt et))(hk:QjA P kt et)(hx:ev n e x= .map (some b))(hi:ev n e i=m.v)(hB:Qgh w b ms)(hz:(zeroValue et).run P w= .ok (.int .i64 0) w)(h:QiV m ms 0=some j):
  Ev P n e ⟨d,.lookup t x i true,ty,pos,af,gd⟩ w (.tuple #[.int .i64 ((j:Nat):Int),.bool true]):=by
 have :=Qsy (d:=d) (ty:=ty) (pos:=pos) (af:=af) (gd:=gd) hm hk hx hi hB hz
 rw[h] at this;exact this
end
theorem QpK{l lo:List TD}{i:Nat}{x:TD}(hx:l[i]? =some x)(h:tms lo=nzT (tms (l.take i)))(h0:x.t.c=0):tms lo=nzT (tms (l.take (i+1))):=by
 rw[Wy,hx,QbD,show tms (some x).toList=[x.t] from rfl,QpL,if_pos h0,h]
theorem QpJ{l lo:List TD}{i:Nat}{x:TD}(hx:l[i]? =some x)(h:tms lo=nzT (tms (l.take i)))(h0:x.t.c≠0):tms (lo++[x])=nzT (tms (l.take (i+1))):=by
 rw[Wy,hx,QbD,QbD,show tms (some x).toList=[x.t] from rfl,QpL,if_neg h0,h];rfl
theorem Qpa{p l l2:List TD}{i:Nat}{x:TD}(hx:p[i]? =some x)(h:tms l=QiP (tms (p.take i)))(e:tms l2=Qhw (tms l) x.t.c x.t.m):tms l2=QiP (tms (p.take (i+1))):=by
 rw[Wy,hx,QbD,show tms (some x).toList=[x.t] from rfl,Qnb,←h,e]
theorem Qgh.ext{w w':World}{b:Nat}{ms:List M4}(h:Qgh w b ms)(f:Ext w w'):Qgh w' b ms:=h.frm f fun h=>h
theorem Qgh.frmB{w w':World}{G:Nat→Prop}{b:Nat}{ms:List M4}(h:Qgh w b ms)(f:Frm G w w')(hd: ∀x,x<w.heap.size→x=b→ ¬G x):Qgh w' b ms:=h.frm f (hd b h.lt rfl)
def Qr6(tG el:TypeId)(w:World)(Lo B pg:Nat)(l:List TD):Prop:= ∃mb gN A n c,Blk w pg tG [.map (some mb),.slice A n c]∧Qgh w mb (l.map TD.m)∧ZX TMK w B el gN A n c l (fun b=>B≤b)∧Lo≤pg∧Lo≤mb∧pg<B∧mb<B∧pg≠mb∧B≤w.heap.size
theorem Qr6.frmB{tG el:TypeId}{w w':World}{Lo B pg:Nat}{l:List TD}{G:Nat→Prop}(h:Qr6 tG el w Lo B pg l)(f:Frm G w w')(hd: ∀b,b<w.heap.size→Lo≤b→ ¬G b):Qr6 tG el w' Lo B pg l:=by
 obtain⟨mb,gN,A,n,c,h1,h2,h3,h4,h5,h6,h7,h8,h9⟩:=h
 exact⟨mb,gN,A,n,c,h1.frm f (hd pg h1.lt h4),h2.frm f (hd mb h2.lt h5),h3.frmB f fun b hb hs=>hd b hb (by rcases hs with hs|hs<;>omega),h4,h5,h6,h7,h8,Wj h9 f.size⟩
section
variable{α:Type}{L:SK α}{w w':World}{B:Nat}{el:TypeId}{gN:Nat}{A:Option Addr}{n c:Nat}{l:List α}{S S':Nat→Prop}
theorem ZX.base(h:ZX L w B el gN A n c l S)(hn:0<n): ∃g,A=some ⟨g,0,none⟩∧gN=g+1:=by
 rcases h.k.own.2 with⟨_,h0⟩| ⟨g,cap,cur,hv,_⟩
 ·omega
 ·injection hv with h1 h2 h3
  subst h1
  exact⟨g,rfl,h.k.no.symm⟩
end
section
variable{dfs:List Deferred}{P:Program}{n:Nat}{e:Nat→Value}{w:World}{K:Act→World→Prop}{Q:Exit→Act→World→Prop}{ty:TypeId}{pos:String}{af:Array Edge}{gd:Option (Nat×Bool)}
theorem Qxn{α:Type}{L:SK α}{t el:TypeId}{a x:Operand}{B gN g m c i o:Nat}{v:Value}{l:List α}{S:Nat→Prop}{f f':α}(vs:List Value)(ha:ev n e a= .pointer (some ⟨g,i*L.k+o,none⟩))(hx:ev n e x=v)(hv:v.cells=vs.toArray)(hs: ∀w,(sizeOf t).run P w= .ok vs.length w)(h1:vs.all Value.oneCell'=true)
  (hO:ZX L w B el gN (some ⟨g,0,none⟩) m c l S)(hf:l[i]? =some f)(he:L.cells f'=(L.cells f).take o++vs++(L.cells f).drop (o+vs.length))(ho:o+vs.length≤L.k)(hR:L.R w (fun b=>S b∧b+1≠gN) f')
  (k: ∀w',Frm (fun b=>b+1=gN) w w'→w'.heap.size=w.heap.size→ZX L w' B el gN (some ⟨g,0,none⟩) m c (l.set i f') S→K (mkA dfs n e) w'):
  OpW P ⟨none,.store t a x,ty,pos,af,gd⟩ (mkA dfs n e) w K Q:=by
 have hg:gN=g+1:=hO.k.no.symm
 rcases hO.k.own.2 with⟨hv',h0⟩| ⟨g',cap,cur,hv',hb,hcur,hnc,hcm,hsz,htake⟩
 ·cases hv'
 ·injection hv' with e1 e2 e3
  injection e1 with e1
  injection e1 with e1
  subst e1 e3
  have hi:i<l.length:=(List.getElem?_eq_some_iff.1 hf).1
  have hle:i*L.k+L.k≤l.length*L.k:=by have :=Uy L.k (show i+1≤l.length from hi);rw[UZ] at this;omega
  have hfl:=L.flat_len l
  have hlen:=hO.k.own.1
  have ecur:cur.toList=L.flat l++cur.toList.drop (m*L.k):=by rw[←htake,Ux]
  have hB:Blk w g el (L.flat l++cur.toList.drop (m*L.k)):=by unfold Blk;rw[←ecur];exact hcur
  refine YK vs ha hx hv hs h1 hB (by rw[UO];omega) fun w' h2 h3 h4=> ?_
  have hF:Frm (fun b=>b+1=gN) w w':=h2.mono fun b _ h=>by rw[h,hg]
  have h5:=L.flat_part hf he ho
  have e2:(L.flat l++cur.toList.drop (m*L.k)).take (i*L.k+o)++vs++(L.flat l++cur.toList.drop (m*L.k)).drop (i*L.k+o+vs.length)=L.flat (l.set i f')++cur.toList.drop (m*L.k):=by
   rw[UI (by omega),WF (by omega),←WI,h5]
  rw[e2] at h4
  have hR2: ∀y:α,L.R w (fun b=>S b∧b+1≠gN) y→L.R w' (fun b=>S b∧b+1≠gN) y:=fun y h=>L.frmB h hF fun b _ hb=>hb.2
  have hall: ∀y∈l.set i f',L.R w' (fun b=>S b∧b+1≠gN) y:=fun y hy=>by
   rcases Wi hy with h|h
   ·exact hR2 y (hO.elt h)
   ·subst h;exact hR2 y hR
  refine k w' hF h3 ⟨⟨⟨?_,.inr ⟨g,c,(L.flat (l.set i f')++cur.toList.drop (m*L.k)).toArray,rfl,hb,h4,hnc,hcm,?_,?_⟩⟩,fun y hy=>L.sub (hall y hy) fun b _ hb=>hb.2,hO.k.no⟩,fun y hy=>L.sub (hall y hy) fun b _ hb=>hb.1⟩
  ·rw[L.flat_len,UF,←hfl,hlen]
  ·have h6:=congrArg Wq ecur
   simp only[UO,Array.length_toList] at h6
   simp only[List.size_toArray,UO]
   rw[L.flat_len,UF,←hfl,←h6,hsz]
  ·have h7:(L.flat (l.set i f')).length=m*L.k:=by rw[L.flat_len,UF,←hfl,hlen]
   simp [UI (Qy4 h7.symm),Ui (Qy4 h7)]
end
end Go.Gx

namespace Go.Gx
def Qgt(L:Nat)(ts:List TM):Prop:= ∀t∈ts,∀u∈ts,∀j,L<j→t.m.get j=u.m.get j
def NnE(ts:List TM):Prop:= ∀t∈ts,∀j,0≤t.m.get j
variable{L N i j s:Nat}{e:Int}{r ts us:List TM}{t v:TM}{x y:M4}
theorem M4.get_big(m:M4)(h:4<j):m.get j=0:=by
 unfold M4.get
 split<;>first |omega|rfl
theorem Qgt.top(ts:List TM):Qgt 4 ts:=fun t _ u _ j hj=>by rw[t.m.get_big hj,u.m.get_big hj]
theorem Qgt.sub(h:Qgt L ts)(hs: ∀t∈us,t∈ts):Qgt L us:=fun t ht u hu=>h t (hs t ht) u (hs u hu)
theorem Qgt.down(h:Qgt (L+1) ts)(he: ∀t∈ts,t.m.get (L+1)=e):Qgt L ts:=fun t ht u hu j hj=>by
 rcases Up (L+1) j with h1|h1
 ·exact h t ht u hu j h1
 ·rw[show j=L+1 by omega,he t ht,he u hu]
theorem Qwl(h:y.lt x)(h1:1≤L)(h4:L≤4)(he: ∀j,L<j→x.get j=y.get j):y.get L≤x.get L:=by
 unfold M4.lt at h
 have e2:=he 2
 have e3:=he 3
 have e4:=he 4
 rcases(show L=1∨L=2∨L=3∨L=4 by omega) with rfl|rfl|rfl|rfl<;>simp only[M4.get] at * <;>omega
theorem desc(hc:QdU ts)(h:Qgt L ts)(h1:1≤L)(h4:L≤4):ts.Pairwise fun x y=>y.m.get L≤x.m.get L:=by
 have h2:=hc.1
 rw[List.pairwise_iff_getElem] at h2⊢
 intro i j hi hj hij
 exact Qwl (h2 i j hi hj hij) h1 h4 fun k hk=>h _ (Wr hi) _ (Wr hj) k hk
theorem QdU.subl(h:QdU ts)(hs:us.Sublist ts):QdU us:=⟨h.1.sublist hs,fun t ht=>h.2 t (hs.subset ht)⟩
theorem QqD(hc:QdU (t::r))(h:Qgt (L+1) (t::r))(h4:L+1≤4)(hn:NnE (t::r))(h0:t.m.get (L+1)=0):Qgt L (t::r)∧QdF (L+1) (t::r)=QdF L (t::r):=by
 refine⟨h.down (e:=0) fun u hu=> ?_,by rw[QdF,if_pos h0]⟩
 rcases List.mem_cons.1 hu with rfl|hu'
 ·exact h0
 ·have h1:=(List.pairwise_cons.1 (desc hc h (by omega) h4)).1 u hu'
  have h2:=hn u hu (L+1)
  omega
theorem QlS(L:Nat)(h:L=0):QdF L (t::r)= .mk 0 t.c []:=by subst h;rfl
theorem QqC(h0:t.m.get (L+1)≠0):QdF (L+1) (t::r)= .mk ((L+1:Nat):Int) 0 ((UV (t.m.get (L+1)+1).toNat).map fun e:Nat=>QdF L ((t::r).filter fun u=>u.m.get (L+1)=(e:Int))):=by
 rw[QdF,if_neg h0]
def RT.lev:RT→Int
 | .mk l _ _=>l
theorem QnS: ∀(L:Nat)(ts:List TM),0≤(QdF L ts).lev∧(QdF L ts).lev≤L
 |0,[]=>by simp [QdF,QbA,RT.lev]
 |0,_::_=>by simp [QdF,RT.lev]
 |L+1,[]=>by simp [QdF,QbA,RT.lev];omega
 |L+1,t::r=>by
  rw[QdF]
  split
  ·have :=QnS L (t::r);omega
  ·simp only[RT.lev];omega
theorem Qr9: ∀{L:Nat}{ts:List TM},QdU ts→ts≠ []→QdF L ts≠QbA
 |_,[],_,h=>absurd rfl h
 |0,t::r,hc,_=>by
  intro h
  simp only[QdF,QbA] at h
  injection h with _ h2
  exact hc.2 t (Wu ..) h2
 |L+1,t::r,hc,_=>by
  rw[QdF]
  split
  ·exact Qr9 hc (by simp)
  ·intro h
   unfold QbA at h
   injection h with h1
   omega
def AtB(L:Nat)(ts:List TM)(s:Nat):Prop:= ∀v,ts[s]? =some v→ ∀u∈ts.take s,v.m.get L<u.m.get L
def Qb5(L:Nat)(ts:List TM)(s N:Nat):List RT:=(UV N).map fun e:Nat=>QdF L ((ts.take s).filter fun u=>u.m.get (L+1)=(e:Int))
theorem Qb5.start(L:Nat)(ts:List TM)(N:Nat):Qb5 L ts 0 N=Uc N QbA:=by
 unfold Qb5
 apply WS
 intro i
 simp only[Un,WL,QyM,List.filter_nil,QlR]
 by_cases h:i<N
 ·simp [h]
 ·simp [h]
theorem AtB.start(L:Nat)(ts:List TM):AtB L ts 0:=fun v _ u hu=>by simp at hu
structure Qbn (L:Nat) (ts:List TM) (s t:Nat) (e:Int):Prop where
 le:s≤t
 hi:t≤ts.length
 all: ∀u∈(ts.take t).drop s,u.m.get L=e
theorem Qbn.start(h:s≤ts.length):Qbn L ts s s e:=⟨Ug _,h,fun u hu=>by rw[Us (by simp;omega)] at hu;cases hu⟩
theorem Qbn.next{t:Nat}(h:Qbn L ts s t e)(hv:ts[t]? =some v)(he:v.m.get L=e):Qbn L ts s (t+1) e:=by
 have ht:t<ts.length:=(List.getElem?_eq_some_iff.1 hv).1
 have h1:=h.le
 refine⟨by omega,by omega,fun u hu=> ?_⟩
 rw[Wy,hv,WF (by simp;omega)] at hu
 rcases List.mem_append.1 hu with h2|h2
 ·exact h.all u h2
 ·have h3:u=v:=by simpa using h2
  rw[h3,he]
theorem Qpx{α:Type}{l:List α}{t:Nat}{v:α}(hv:l[i]? =some v)(h1:s≤i)(h2:i<t):v∈(l.take t).drop s:=by
 have :((l.take t).drop s)[i -s]? =some v:=by rw[UU,show s+(i -s)=i by omega,WA,if_pos h2,hv]
 exact Ub this
theorem Qno{t:Nat}(hd:ts.Pairwise fun x y=>y.m.get L≤x.m.get L)(ha:AtB L ts s)(hp:Qbn L ts s t e)(hv:ts[s]? =some v)(he:v.m.get L=e)(hend: ∀u,ts[t]? =some u→u.m.get L≠e):AtB L ts t:=fun u hu x hx=>by
 have hle:=hp.le
 have key: ∀{i j:Nat}{a b:TM},ts[i]? =some a→ts[j]? =some b→i≤j→b.m.get L≤a.m.get L:=fun {i j a b} h1 h2 hij=>by
  obtain⟨hi,rfl⟩:=List.getElem?_eq_some_iff.1 h1
  obtain⟨hj,rfl⟩:=List.getElem?_eq_some_iff.1 h2
  rcases Up i j with h3|h3
  ·exact List.pairwise_iff_getElem.1 hd i j hi hj h3
  ·have :i=j:=by omega
   subst this;exact QyQ _
 have h1:u.m.get L≤e:=by rw[←he];exact key hv hu hle
 have h2:=hend u hu
 obtain⟨i,hi⟩:=List.mem_iff_getElem?.1 hx
 rw[WA] at hi
 split at hi
 ·rename_i hit
  rcases Up i s with h3|h3
  ·have :=ha v hv x (Ub (i:=i) (by rw[WA,if_pos h3,hi]))
   omega
  ·have :=hp.all x (Qpx hi h3 hit)
   omega
 ·cases hi
theorem QpN{t:Nat}{e:Nat}(ha:AtB (L+1) ts s)(hp:Qbn (L+1) ts s t (e:Int))(hv:ts[s]? =some v)(he:v.m.get (L+1)=(e:Int))(hN:e<N):(Qb5 L ts s N).set e (QdF L ((ts.take t).drop s))=Qb5 L ts t N:=by
 have hle:=hp.le
 have e1:ts.take t=ts.take s++(ts.take t).drop s:=by
  conv=>lhs;rw[←Ux s (ts.take t)]
  rw[List.take_take,Nat.min_eq_left hle]
 have hf: ∀k:Int,(ts.take t).filter (fun u=>u.m.get (L+1)=k)=if k=e then(ts.take t).drop s else(ts.take s).filter (fun u=>u.m.get (L+1)=k):=fun k=>by
  rw[e1,List.filter_append,←e1]
  split
  ·rename_i hk;subst hk
   rw[List.filter_eq_nil_iff.2 fun u hu=> ?_,WO,List.filter_eq_self.2 fun u hu=> ?_]
   ·simpa using hp.all u hu
   ·have :=ha v hv u hu
    simp;omega
  ·rename_i hk
   have h9:((ts.take t).drop s).filter (fun u=>u.m.get (L+1)=k)=[]:=List.filter_eq_nil_iff.2 fun u hu=>by
    have :=hp.all u hu
    simp;omega
   rw[h9,Wg]
 unfold Qb5
 apply WS
 intro i
 rw[WU]
 by_cases hi:e=i
 ·subst hi
  simp [hN,hf]
 ·rw[if_neg hi]
  by_cases hiN:i<N
  ·simp only[Un,WT hiN,QyY,hf]
   rw[if_neg (by omega)]
  ·simp [hiN]
theorem Qb5.all(hs:s=(t::r).length)(hN:N=(t.m.get (L+1)+1).toNat)(h0:t.m.get (L+1)≠0):RT.mk ((L+1:Nat):Int) 0 (Qb5 L (t::r) s N)=QdF (L+1) (t::r):=by
 rw[QqC h0,Qb5,hs,hN,List.take_length]
end Go.Gx

namespace Go.Gx
open Go.RowKit
theorem TT.lev_val(t:TT):t.val.lev=t.lev:=by cases t;rfl
theorem TT.val_mk{lev:Int}{g:Bool}{A:Option Addr}{n c:Nat}{d:List Nat}{Ac:Option Addr}{nc cc:Nat}{kids:List TT}:(TT.mk lev g A n c d Ac nc cc kids).val= .mk lev (Xx g d) (kids.map TT.val):=by
 rw[TT.val,TT.vals_map]
def TT.zero:TT:= .mk 0 false none 0 0 [] none 0 0 []
theorem TT.zero_val:TT.zero.val=QbA:=by rw[TT.zero,TT.val_mk];rfl
theorem Yi.zero:Yi TT.zero:= .const ⟨Qay.zero,by simp [val]⟩
theorem TreeR.zero{w:World}{S:Nat→Prop}:TreeR w S TT.zero:= .mk Xn.nil Rd.nil fun t ht=>by cases ht
section
variable{lev:Int}{g:Bool}{A:Option Addr}{n c:Nat}{d:List Nat}{Ac:Option Addr}{nc cc:Nat}{kids:List TT}
theorem Yi.const_inv(h:Yi (.mk lev g A n c d Ac nc cc kids))(h0:lev=0):(Qay g d∧val d<2^63)∧nc=0∧kids=[]:=by
 cases h with
 |const h=>exact⟨h,rfl,rfl⟩
 |node h1=>omega
theorem Yi.node_inv(h:Yi (.mk lev g A n c d Ac nc cc kids))(h0:lev≠0):(1≤lev∧lev≤4)∧g=false∧n=0∧d=[]∧(2≤kids.length∧kids.length≤256)∧(∀k∈kids,k.lev<lev)∧(∀k∈kids,Yi k)∧ ∀k,kids.getLast?=some k→k.val≠QbA:=by
 cases h with
 |const h=>exact absurd rfl h0
 |node h1 h2 hl hk hz=>exact⟨h1,rfl,rfl,rfl,h2,hl,hk,hz⟩
theorem Yi.copy(h:Yi (.mk lev g A n c d Ac nc cc kids))(h0:lev≠0){A' Ac':Option Addr}{c' nc' cc':Nat}{K:List TT}(hv:K.map TT.val=kids.map TT.val)(hK: ∀k∈K,Yi k):
  Yi (.mk lev false A' 0 c' [] Ac' nc' cc' K)∧(TT.mk lev false A' 0 c' [] Ac' nc' cc' K).val=(TT.mk lev g A n c d Ac nc cc kids).val:=by
 obtain⟨h1,hg,hn,hd,h2,hl,hk,hz⟩:=h.node_inv h0
 have hlen:K.length=kids.length:=by have :=congrArg Wq hv;simpa using this
 subst hg hd
 refine⟨.node h1 (by omega) (fun k hk=> ?_) hK fun k hk=> ?_,by rw[TT.val_mk,TT.val_mk,hv]⟩
 ·obtain⟨x,hx,he⟩:=List.mem_map.1 (hv▸Qyk (f:=TT.val) hk)
  rw[←TT.lev_val,←he,TT.lev_val];exact hl x hx
 ·have h3:(kids.map TT.val).getLast?=some k.val:=by rw[←hv,Qzm,hk];rfl
  rw[Qzm,Option.map_eq_some_iff] at h3
  obtain⟨x,hx,he⟩:=h3
  rw[←he];exact hz x hx
theorem Yi.isZero(h:Yi (.mk lev g A n c d Ac nc cc kids))(hl:d.length=n):(TT.mk lev g A n c d Ac nc cc kids).val=QbA↔lev=0∧n=0:=by
 rw[TT.val_mk]
 constructor
 ·intro h1
  unfold QbA at h1
  injection h1 with h1 h2 h3
  obtain⟨hc,_,_⟩:=h.const_inv h1
  refine⟨h1,?_⟩
  rcases Uk n with h4|h4
  ·exact h4
  ·exfalso
   have h5:=Qqm hc.1.1 (by intro e;subst e;simp at hl;omega)
   unfold Xx at h2
   split at h2<;>omega
 ·rintro⟨h1,h2⟩
  obtain⟨hc,_,hk⟩:=h.const_inv h1
  have hd:d=[]:=Ua (by omega)
  subst h1 hd hk
  cases g<;>rfl
end
theorem Yi.built{L:Nat}{t:TM}{r:List TM}{A' Ac':Option Addr}{c' nc' cc':Nat}{K:List TT}(h4:L+1≤4)(hc:QdU (t::r))(hn:NnE (t::r))(hb:t.m.get (L+1)≤255)(h0:t.m.get (L+1)≠0)(hv:K.map TT.val=Qb5 L (t::r) (t::r).length (t.m.get (L+1)+1).toNat)(hK: ∀k∈K,Yi k):
  Yi (.mk ((L+1:Nat):Int) false A' 0 c' [] Ac' nc' cc' K)∧(TT.mk ((L+1:Nat):Int) false A' 0 c' [] Ac' nc' cc' K).val=QdF (L+1) (t::r):=by
 have hpos:=hn t (Wu ..) (L+1)
 have hN:(t.m.get (L+1)+1).toNat=(t.m.get (L+1)).toNat+1:=by omega
 have hlen:K.length=(t.m.get (L+1)).toNat+1:=by have :=congrArg Wq hv;simpa [Qb5,hN] using this
 refine⟨.node (by omega) (by omega) (fun k hk=> ?_) hK fun k hk=> ?_,?_⟩
 ·have h1:k.val∈Qb5 L (t::r) (t::r).length (t.m.get (L+1)+1).toNat:=hv▸Qyk (f:=TT.val) hk
  obtain⟨e,_,he⟩:=List.mem_map.1 h1
  rw[←TT.lev_val,←he]
  have :=QnS L (((t::r).take (t::r).length).filter fun u=>u.m.get (L+1)=(e:Int))
  omega
 ·have h3:(Qb5 L (t::r) (t::r).length (t.m.get (L+1)+1).toNat).getLast?=some k.val:=by rw[←hv,Qzm,hk];rfl
  rw[Qb5,hN,WP,Uo,List.map_singleton,List.getLast?_append,List.getLast?_singleton] at h3
  simp only[Option.some_or] at h3
  injection h3 with h3
  rw[←h3,List.take_length]
  have hmem:t∈(t::r).filter fun u=>u.m.get (L+1)=((t.m.get (L+1)).toNat:Int):=List.mem_filter.2 ⟨Wu ..,by simp;omega⟩
  exact Qr9 (hc.subl List.filter_sublist) fun e=>by rw[e] at hmem;cases hmem
 ·rw[TT.val_mk,hv];exact Qb5.all rfl rfl h0
theorem Qvf{l1 l2:Int}{g1 g2:Bool}{A1 A2 B1 B2:Option Addr}{n1 c1 n2 c2 m1 e1 m2 e2:Nat}{d1 d2:List Nat}{k1 k2:List TT}:
  (TT.mk l1 g1 A1 n1 c1 d1 B1 m1 e1 k1).val=(TT.mk l2 g2 A2 n2 c2 d2 B2 m2 e2 k2).val↔l1=l2∧Xx g1 d1=Xx g2 d2∧k1.map TT.val=k2.map TT.val:=by
 rw[TT.val_mk,TT.val_mk]
 constructor
 ·intro h;injection h with a b c;exact⟨a,b,c⟩
 ·rintro⟨rfl,h,h2⟩;rw[h,h2]
theorem Qjr(l:List TD)(s t:Nat):tms ((l.take t).drop s)=((tms l).take t).drop s:=by simp [tms,Wx,List.map_drop]
theorem M4.get_range{x:TD}(h:x.ok)(j:Nat):0≤x.m.get j∧x.m.get j≤255:=by
 obtain⟨_,_,h1,h2,h3,h4⟩:=h
 unfold M4.get
 split<;>omega
theorem QpI{l:List TD}(h: ∀x∈l,x.ok):NnE (tms l):=fun t ht j=>by
 obtain⟨x,hx,rfl⟩:=List.mem_map.1 ht
 exact(M4.get_range (h x hx) j).1
theorem Qjq{l:List TD}{i:Nat}{x:TD}(h:l[i]? =some x):(tms l)[i]? =some x.t:=by simp [tms,h]
theorem Qey(l:List TD):(tms l).length=l.length:=by simp [tms]
theorem Qkb{f:TD}{r:List TD}{L:Nat}(hc:QdU (tms (f::r)))(hh:Qgt L (tms (f::r)))(h4:L≤4)(hok: ∀x∈f::r,x.ok)(hL:0<L)(h0:f.m.get L=0):Qgt (L -1) (tms (f::r))∧QdF L (tms (f::r))=QdF (L -1) (tms (f::r)):=by
 obtain⟨M,rfl⟩: ∃M,L=M+1:=⟨L -1,by omega⟩
 exact QqD (t:=f.t) (r:=tms r) hc hh h4 (QpI hok) h0
theorem Qgp{l:List TD}{s t:Nat}(h:QdU (tms l)):QdU (tms ((l.take t).drop s)):=by
 rw[Qjr];exact h.subl ((List.drop_sublist _ _).trans (List.take_sublist _ _))
theorem Qi2{l:List TD}{s t L:Nat}{e:Int}(h:Qgt (L+1) (tms l))(hp:Qbn (L+1) (tms l) s t e):Qgt L (tms ((l.take t).drop s)):=by
 rw[Qjr]
 exact(h.sub fun u hu=>UJ (Wl hu)).down hp.all
theorem Qh8{l:List TD}{s t L:Nat}{x y:TD}(hp:Qbn L (tms l) s t (x.m.get L))(hy:l[t]? =some y)(he:y.m.get L=x.m.get L):Qbn L (tms l) s (t+1) (x.m.get L):=hp.next (Qjq hy) he
theorem Qmx{l:List TD}{s t L:Nat}{x y:TD}(hst:s≤t)(hx:l[s]? =some x)(hy:l[t]? =some y)(he: ¬y.m.get L=x.m.get L):s<t:=by
 rcases Up s t with h|h
 ·exact h
 ·exfalso
  have e:s=t:=by omega
  subst e
  rw[hx] at hy;injection hy with hy;subst hy;exact he rfl
theorem Qkr{l:List TD}{t L:Nat}{x y:TD}(hy:l[t]? =some y)(he: ¬y.m.get L=x.m.get L): ∀u,(tms l)[t]? =some u→u.m.get L≠x.m.get L:=fun u hu=>by
 rw[Qjq hy] at hu;injection hu with hu;subst hu;exact he
theorem Qh7{l:List TD}{t L:Nat}{x:TD}(h:l.length≤t): ∀u,(tms l)[t]? =some u→u.m.get L≠x.m.get L:=fun u hu=>by
 rw[Ul (by rw[Qey];exact h)] at hu;cases hu
theorem Qgm{l:List TD}{K:List TT}{s t N M:Nat}{x:TD}{k:TT}(hv:K.map TT.val=Qb5 M (tms l) s N)(ha:AtB (M+1) (tms l) s)(hp:Qbn (M+1) (tms l) s t (x.m.get (M+1)))(hx:l[s]? =some x)(h0:0≤x.m.get (M+1))(hN:(x.m.get (M+1)).toNat<N)(hk:k.val=QdF M (tms ((l.take t).drop s))):
  (K.set (x.m.get (M+1)).toNat k).map TT.val=Qb5 M (tms l) t N:=by
 rw[UA,hv,hk,Qjr]
 have e:(((x.m.get (M+1)).toNat:Nat):Int)=x.m.get (M+1):=Int.toNat_of_nonneg h0
 exact QpN ha (by rw[e];exact hp) (Qjq hx) (by rw[e];rfl) hN
theorem Qdc{K:List TT}{i:Nat}{k:TT}(h: ∀x∈K,Yi x)(hk:Yi k): ∀x∈K.set i k,Yi x:=fun x hx=>by
 rcases Wi hx with h1|h1
 ·exact h x h1
 ·rw[h1];exact hk
theorem Qik{l:List TD}{s t M:Nat}{x:TD}(hc:QdU (tms l))(hh:Qgt (M+1) (tms l))(h4:M+1≤4)(ha:AtB (M+1) (tms l) s)(hp:Qbn (M+1) (tms l) s t (x.m.get (M+1)))(hx:l[s]? =some x)(he: ∀u,(tms l)[t]? =some u→u.m.get (M+1)≠x.m.get (M+1)):AtB (M+1) (tms l) t:=
 Qno (desc hc hh (by omega) h4) ha hp (Qjq hx) rfl he
theorem QsF{f x:TD}{r:List TD}{s M:Nat}(hc:QdU (tms (f::r)))(hh:Qgt (M+1) (tms (f::r)))(h4:M+1≤4)(hx:(f::r)[s]? =some x):x.m.get (M+1)≤f.m.get (M+1):=by
 have hd:=desc hc hh (by omega) h4
 cases s with
 |zero=>simp at hx;subst hx;exact QyQ _
 |succ s=>
  have h1:=(List.pairwise_cons.1 hd).1 x.t (by
   have :=Ub (l:=r) (i:=s) (by simpa using hx)
   exact Qyk (f:=TD.t) this)
  exact h1
end Go.Gx

namespace Go.Gx
open Go.RowKit
def XP(w:World)(b p:Nat)(cs:List Value):Prop:= ∀(j:Nat) v,cs[j]? =some v→w.cell? ((⟨b,p,none⟩:Addr).add j)=some v
section
variable{w w':World}{b p q:Nat}{cs vs:List Value}{G:Nat→Prop}
theorem XP.frm(h:XP w b p cs)(f:Frm G w w')(hb:b<w.heap.size)(hg: ¬G b):XP w' b p cs:=fun j v hj=>by
 rw[addr_add]
 have h1:=h j v hj
 rw[addr_add] at h1
 exact(f.cell (p:=⟨b,p+j,none⟩) hb hg).trans h1
theorem XP.one(h:XP w b p cs){j:Nat}{v:Value}(hj:cs[j]? =some v)(hq:q=p+j):w.cell? ⟨b,q,none⟩=some v:=by
 have h1:=h j v hj
 rw[addr_add] at h1
 rw[hq];exact h1
theorem XP.part(h:XP w b p cs){o:Nat}(hv:(cs.drop o).take vs.length=vs)(hq:q=p+o):XP w b q vs:=fun j v hj=>by
 rw[addr_add,hq,QyH]
 have hlt:=(List.getElem?_eq_some_iff.1 hj).1
 have h1:cs[o+j]? =some v:=by
  rw[←UU]
  rw[←hv,WA,if_pos hlt] at hj
  exact hj
 have h2:=h (o+j) v h1
 rw[addr_add] at h2
 exact h2
end
section
variable{α:Type}{L:SK α}{w w':World}{S S' G:Nat→Prop}{A:Option Addr}{n c:Nat}{l:List α}
theorem Xu.get{b off i k p:Nat}(h:Xu L w S (some ⟨b,off,none⟩) n c l)(hi:i<n)(hk:L.k=k)(hp:off+i*k=p):
  ∃f,l[i]? =some f∧XP w b p (L.cells f)∧L.R w S f∧S b∧b<w.heap.size:=by
 obtain⟨f,h1,h2,h3,h4,h5⟩:=h.at_ hi
 subst hk hp
 refine⟨f,h1,fun j v hj=> ?_,h3,h4,h5⟩
 rw[addr_add,QyH];exact h2 j v hj
theorem SK.flat_take(m:Nat):(L.flat l).take (m*L.k)=L.flat (l.take m):=by
 induction l generalizing m with
 |nil=>simp [SK.flat]
 |cons a l ih=>
  cases m with
  |zero=>simp [SK.flat]
  |succ m=>
   have hl:=L.len a
   rw[L.flat_cons,List.take_succ_cons,L.flat_cons,UZ,Qyy,List.take_append,Ui (by omega),hl,show m*L.k+L.k -L.k=m*L.k by omega,ih]
theorem SK.flat_drop(m:Nat):(L.flat l).drop (m*L.k)=L.flat (l.drop m):=by
 induction l generalizing m with
 |nil=>simp [SK.flat]
 |cons a l ih=>
  cases m with
  |zero=>simp
  |succ m=>
   have hl:=L.len a
   rw[L.flat_cons,List.drop_succ_cons,UZ,Qyy,List.drop_append,Us (by omega),WO,hl,show m*L.k+L.k -L.k=m*L.k by omega,ih]
theorem Xu.take{m:Nat}(h:Xu L w S A n c l)(hm:m≤n):Xu L w S A m c (l.take m):=by
 refine⟨?_,fun f hf=>h.2 f (UJ hf)⟩
 have :=h.1.take hm
 rw[SK.flat_take] at this
 exact this
theorem Xu.part{b off k p lo hi:Nat}(h:Xu L w S (some ⟨b,off,none⟩) n c l)(h1:lo≤hi)(h2:hi≤n)(h3:lo<n)(hk:L.k=k)(hp:off+lo*k=p):Xu L w S (some ⟨b,p,none⟩) (hi -lo) (c -lo) ((l.take hi).drop lo):=by
 have h4:=h.1.2.1
 have h5:=h.take h2
 subst hk hp
 rcases Up lo hi with h6|h6
 ·have h7:=h5.1.drop (m:=lo) h1
  rw[if_neg (by omega),SK.flat_drop] at h7
  simp only[QyY,addr_add] at h7
  exact⟨h7,fun f hf=>h5.2 f (Wl hf)⟩
 ·have e:lo=hi:=by omega
  subst e
  have e2:(l.take lo).drop lo=[]:=Us (by simp;omega)
  rw[e2,WD]
  exact⟨⟨by simp [SK.flat],Qyr _,by have :=h.1.2.2.1;omega,fun h0=>absurd h0 (by omega)⟩,fun f hf=>by cases hf⟩
end
theorem TD.len{w:World}{S:Nat→Prop}{x:TD}(h:TMR w S x):x.n≤2:=by
 have a:=YA (k:=2) h.2.1.1 (Nat.lt_trans h.2.2.1 (by decide))
 rw[h.1.len] at a;exact a
def YO{α:Type}(L:SK α)(w:World)(S:Nat→Prop)(l:List α):Prop:= ∀f∈l,L.R w S f
section
variable{α:Type}{L:SK α}{w w':World}{S S' G:Nat→Prop}{l:List α}
theorem YO.frmB(h:YO L w S l)(f:Frm G w w')(hd: ∀b,b<w.heap.size→S b→ ¬G b):YO L w' S l:=fun x hx=>L.frmB (h x hx) f hd
theorem YO.ext(h:YO L w S l)(f:Ext w w'):YO L w' S l:=fun x hx=>L.ext (h x hx) f
theorem YO.sub(h:YO L w S l)(hs: ∀b,b<w.heap.size→S b→S' b):YO L w S' l:=fun x hx=>L.sub (h x hx) hs
theorem YO.nil:YO L w S []:=fun x hx=>by cases hx
theorem YO.snoc{x:α}(h:YO L w S l)(hx:L.R w S x):YO L w S (l++[x]):=fun y hy=>by
 rcases List.mem_append.1 hy with h1|h1
 ·exact h y h1
 ·rw[List.mem_singleton.1 h1];exact hx
theorem YO.set{x:α}{i:Nat}(h:YO L w S l)(hx:L.R w S x):YO L w S (l.set i x):=fun y hy=>by
 rcases Wi hy with h1|h1
 ·exact h y h1
 ·rw[h1];exact hx
theorem YO.reps{x:α}{n:Nat}(hx:L.R w S x):YO L w S (Uc n x):=fun y hy=>by rw[Uu hy];exact hx
theorem YO.list{g n:Nat}{t:TypeId}(h:YO L w S l)(hB:Blk w g t (L.flat l))(hs: ∀b,b<w.heap.size→S b→S' b)(hg:S' g)(hl:l.length=n)(hm:n≤Yc):Xu L w S' (some ⟨g,0,none⟩) n n l:=QeF.list ⟨hB,h⟩ hs hg hl hm
end
theorem TD.exp{x:TD}{j k:Nat}(h:k=j+1)(hj:j<4):x.cells[2+j]? =some (.int .i64 (x.m.get k)):=by
 subst h
 rcases(show j=0∨j=1∨j=2∨j=3 by omega) with rfl|rfl|rfl|rfl<;>rfl
theorem Qjj{α:Type}{D:List α}{z x:α}{i n:Nat}(hi:D.length=i)(hn:i<n):(D++Uc (n -i) z).set i x=(D++[x])++Uc (n -(i+1)) z:=by
 subst hi
 rw[US _ _ (Ug _),WD]
 have e:n -D.length=(n -(D.length+1))+1:=by omega
 rw[e,Qyl,WY,WI];rfl
theorem Qji{α:Type}{D:List α}{z:α}{i n:Nat}(h: ¬i<n):D++Uc (n -i) z=D:=by
 rw[show n -i=0 by omega];simp
end Go.Gx

namespace Go.Gx
variable{D N:Int}{M:Nat}{q r:QE}
theorem QE.abs(q:QE):q.num.natAbs=val q.d:=(XI q.g q.d).symm
theorem QE.cross(hr:r.red)(hD:0<D)(x:r.num*D=N*(r.den:Int)):r.v=(N:Rat)/ (D:Rat):=by
 have h1:=QE.den_pos hr
 have h2:(0:Rat)<(D:Rat):=by rw[show(0:Rat)=((0:Int):Rat) from rfl,WE];exact hD
 rw[QE.v_def hr,Qsv h1 h2,←Ur,←Ur,x]
theorem QE.ok_of(hr:r.red)(hD:0<D)(x:r.num*D=N*(r.den:Int))(hN:N.natAbs<2^M)(hM:D.natAbs<2^M):r.ok M:=by
 have h:=Qwk (n:=r.num) (v:=r.den) hr.2.2.1 (by rw[QE.abs];exact hr.2.2.2) hD x
 rw[QE.abs] at h
 exact⟨hr,QyC h.1 hN,QyC h.2 hM⟩
theorem QE.cross_v(hr:r.red)(hq:q.red)(x:r.num*(QaY q.den:Int)=Qct q.num q.den*(r.den:Int)):r.v=q.v:=by
 have h2:0<q.den:=hq.2.2.1
 rw[ZN h2,ZZ h2] at x
 rw[QE.cross hr (by omega) x,QE.v_def hq]
theorem QE.norm_ok(hr:r.red)(hq:q.ok M)(x:r.num*(QaY q.den:Int)=Qct q.num q.den*(r.den:Int)):r.ok M:=by
 have h2:0<q.den:=hq.1.2.2.1
 rw[ZN h2,ZZ h2] at x
 exact QE.ok_of hr (by omega) x (by rw[QE.abs];exact hq.2.1) (by rw[Qyo];exact hq.2.2)
end Go.Gx

namespace Go.Gx
variable{P:Program}{Q:Exit→Act→World→Prop}{a:Act}{c:Code}{w:World}
theorem XN(n:Nat)(h: ∀K:Act→World→Prop,(∀a w,Code.rounds P c Q n a w→K a w)→c.wp P (Exit.then K Q) a w):Code.rounds P c Q (n+1) a w:=by
 rw[rounds_succ];exact h _ fun _ _ h=>h
end Go.Gx

namespace Go.Gx
open Go.RowKit
noncomputable def QuN (p:List TM):RT:=open Classical in if h: ∃l,QdU l∧ ∀m,QbB l m=QbB p m then QdF 4 h.choose else QbA
theorem Qb2{l p:List TM}(h1:QdU l)(h2: ∀m,QbB l m=QbB p m):QdF 4 l=QuN p:=by
 have h: ∃l,QdU l∧ ∀m,QbB l m=QbB p m:=⟨l,h1,h2⟩
 unfold QuN
 rw[dif_pos h,QdU.uniq h1 h.choose_spec.1 fun m=>(h2 m).trans (h.choose_spec.2 m).symm]
theorem Qij{α:Type}{Q:α→Prop}{D:List α}{x:α}(h: ∀t∈D,Q t)(hx:Q x): ∀t∈D++[x],Q t:=fun t ht=>by
 rcases List.mem_append.1 ht with h9|h9
 ·exact h t h9
 ·rw[List.mem_singleton.1 h9];exact hx
section
variable{α:Type}{L:SK α}{w:World}{S:Nat→Prop}{g:Nat}{t:TypeId}{a b:α}
theorem Xu.one(h:Blk w g t (L.cells a))(ha:L.R w S a)(hg:S g):Xu L w S (some ⟨g,0,none⟩) 1 1 [a]:=
 Xu.of_blk (by rw[L.flat_one];exact h) (fun f hf=>by rw[List.mem_singleton.1 hf];exact ha) hg rfl (Ug _) (by decide)
theorem Xu.two(h:Blk w g t (L.cells a++L.cells b))(ha:L.R w S a)(hb:L.R w S b)(hg:S g):Xu L w S (some ⟨g,0,none⟩) 2 2 [a,b]:=
 Xu.of_blk (by rw[L.flat_cons,L.flat_one];exact h) (fun f hf=>by
  rcases List.mem_cons.1 hf with h1|h1
  ·rw[h1];exact ha
  ·rw[List.mem_singleton.1 h1];exact hb) hg rfl (Ug _) (by decide)
end
section
variable{α:Type}{L:SK α}{w:World}{S:Nat→Prop}{g:Nat}{t:TypeId}{a b c d:α}
end
def Qgs(w:World)(S:Nat→Prop)(b p:Nat)(cs:List Value):Prop:=XP w b p cs∧S b∧b<w.heap.size
theorem Qgs.frmB{w w':World}{S G:Nat→Prop}{b p:Nat}{cs:List Value}(h:Qgs w S b p cs)(f:Frm G w w')(hd: ∀b,b<w.heap.size→S b→ ¬G b):Qgs w' S b p cs:=⟨h.1.frm f h.2.2 (hd b h.2.2 h.2.1),h.2.1,UM h.2.2 f.size⟩
end Go.Gx

namespace Go.Gx
variable{a b:Rat}
theorem Qiy:Qm2 a b≤0↔a≤b:=by
 unfold Qm2
 constructor
 ·intro h
  split at h
  ·next h1=>exact QzG h1
  ·split at h
   ·next h1=>rw[h1];exact Rat.le_refl
   ·omega
 ·intro h
  split
  ·omega
  ·split
   ·omega
   ·next h1 h2=>exact absurd (Rat.lt_of_le_of_ne h h2) h1
theorem QtZ:0≤Qm2 a b↔b≤a:=by
 unfold Qm2
 constructor
 ·intro h
  split at h
  ·omega
  ·next h1=>exact Rat.not_lt.1 h1
 ·intro h
  rw[if_neg (Rat.not_lt.2 h)]
  split<;>omega
end Go.Gx

namespace Go.Gx
section
variable{a b r:QE}{M M':Nat}
theorem Qvb(M M':Nat):2^M*2^M'=2^ (M+M'):=(Nat.pow_add ..).symm
theorem Qmo{x y M M':Nat}(hx:x<2^M)(hy:y<2^M'):x*y<2^ (M+M'):=by
 rw[←Qvb];exact Nat.mul_lt_mul'' hx hy
theorem QE.nm(a:QE):a.num.natAbs=val a.d:=(XI a.g a.d).symm
theorem Ql0{d:Int}(h:0<d):(0:Rat)<(d:Rat):=by rw[show(0:Rat)=((0:Int):Rat) from rfl,WE];exact h
theorem QE.dpos(h:a.red):0<(a.den:Int):=by have h1:0<a.den:=h.2.2.1;omega
theorem sum_lt{n m:Int}{d f:Nat}(hn:n.natAbs<2^M)(hd:d<2^M)(hm:m.natAbs<2^M')(hf:f<2^M'):(n*(f:Int)+m*(d:Int)).natAbs<2^ (M+M'+1):=by
 have h1:=Int.natAbs_add_le (n*(f:Int)) (m*(d:Int))
 rw[UW,UW,Qyo,Qyo] at h1
 have h2:=Qmo hn hf
 have h3:=Qmo hm hd
 rw[Nat.add_comm M' M] at h3
 rw[WC];omega
theorem Ql2{d f:Nat}(hd:d<2^M)(hf:f<2^M'):(((d:Int)*(f:Int))).natAbs<2^ (M+M'):=by
 rw[UW,Qyo,Qyo];exact Qmo hd hf
theorem QE.sum(hr:r.red)(ha:a.ok M)(hb:b.ok M')(x:r.num*((QaY a.den:Int)*(QaY b.den:Int))=(Qct a.num a.den*(QaY b.den:Int)+Qct b.num b.den*(QaY a.den:Int))*(r.den:Int)):r.v=a.v+b.v∧r.ok (M+M'+1):=by
 have h1:0<a.den:=ha.1.2.2.1
 have h2:0<b.den:=hb.1.2.2.1
 rw[ZN h1,ZN h2,ZZ h1,ZZ h2] at x
 have da:=QE.dpos ha.1
 have db:=QE.dpos hb.1
 have hp:=Wm da db
 refine⟨?_,QE.ok_of hr hp x (sum_lt (by rw[QE.nm];exact ha.2.1) ha.2.2 (by rw[QE.nm];exact hb.2.1) hb.2.2) (UM (Ql2 ha.2.2 hb.2.2) (UN (by decide) (by omega)))⟩
 rw[QE.cross hr hp x,QE.v_def ha.1,QE.v_def hb.1,QyZ,Ur,Ur,Ur]
 have e1:=Qa2 (d:=(a.den:Int)) (by omega)
 have e2:=Qa2 (d:=(b.den:Int)) (by omega)
 grind
theorem QE.dif(hr:r.red)(ha:a.ok M)(hb:b.ok M')(x:r.num*((QaY a.den:Int)*(QaY b.den:Int))=(Qct a.num a.den*(QaY b.den:Int) -Qct b.num b.den*(QaY a.den:Int))*(r.den:Int)):r.v=a.v -b.v∧r.ok (M+M'+1):=by
 have h1:0<a.den:=ha.1.2.2.1
 have h2:0<b.den:=hb.1.2.2.1
 rw[ZN h1,ZN h2,ZZ h1,ZZ h2] at x
 have da:=QE.dpos ha.1
 have db:=QE.dpos hb.1
 have hp:=Wm da db
 have hs:=sum_lt (n:=a.num) (m:= -b.num) (d:=a.den) (f:=b.den) (by rw[QE.nm];exact ha.2.1) ha.2.2 (by rw[Int.natAbs_neg,QE.nm];exact hb.2.1) hb.2.2
 rw[Int.neg_mul,←Int.sub_eq_add_neg] at hs
 refine⟨?_,QE.ok_of hr hp x hs (UM (Ql2 ha.2.2 hb.2.2) (UN (by decide) (by omega)))⟩
 rw[QE.cross hr hp x,QE.v_def ha.1,QE.v_def hb.1,Qzx,Ur,Ur,Ur]
 have e1:=Qa2 (d:=(a.den:Int)) (by omega)
 have e2:=Qa2 (d:=(b.den:Int)) (by omega)
 grind
theorem QE.prod(hr:r.red)(ha:a.ok M)(hb:b.ok M')(x:r.num*((QaY a.den:Int)*(QaY b.den:Int))=(Qct a.num a.den*Qct b.num b.den)*(r.den:Int)):r.v=a.v*b.v∧r.ok (M+M'):=by
 have h1:0<a.den:=ha.1.2.2.1
 have h2:0<b.den:=hb.1.2.2.1
 rw[ZN h1,ZN h2,ZZ h1,ZZ h2] at x
 have da:=QE.dpos ha.1
 have db:=QE.dpos hb.1
 have hp:=Wm da db
 refine⟨?_,QE.ok_of hr hp x (by rw[UW,QE.nm,QE.nm];exact Qmo ha.2.1 hb.2.1) (Ql2 ha.2.2 hb.2.2)⟩
 rw[QE.cross hr hp x,QE.v_def ha.1,QE.v_def hb.1,Ur,Ur]
 have e1:=Qa2 (d:=(a.den:Int)) (by omega)
 have e2:=Qa2 (d:=(b.den:Int)) (by omega)
 grind
theorem QE.mid(hr:r.red)(ha:a.ok M)(hb:b.ok M')(x:r.num*(((QaY a.den:Int)*(QaY b.den:Int))*2)=(Qct a.num a.den*(QaY b.den:Int)+Qct b.num b.den*(QaY a.den:Int))*(r.den:Int)):r.v=(a.v+b.v)/2∧r.ok (M+M'+1):=by
 have h1:0<a.den:=ha.1.2.2.1
 have h2:0<b.den:=hb.1.2.2.1
 rw[ZN h1,ZN h2,ZZ h1,ZZ h2] at x
 have da:=QE.dpos ha.1
 have db:=QE.dpos hb.1
 have hp:0<((a.den:Int)*(b.den:Int))*2:=Wm (Wm da db) (by decide)
 refine⟨?_,QE.ok_of hr hp x (sum_lt (by rw[QE.nm];exact ha.2.1) ha.2.2 (by rw[QE.nm];exact hb.2.1) hb.2.2) (by have :=Ql2 ha.2.2 hb.2.2;rw[UW,WC];exact Nat.mul_lt_mul_of_pos_right this (by decide))⟩
 rw[QE.cross hr hp x,QE.v_def ha.1,QE.v_def hb.1,QyZ,Ur,Ur,Ur,Ur]
 have e1:=Qa2 (d:=(a.den:Int)) (by omega)
 have e2:=Qa2 (d:=(b.den:Int)) (by omega)
 have e3:((2:Int):Rat)=2:=rfl
 rw[e3]
 grind
end
section
variable{lev:Int}{g:Bool}{A:Option Addr}{n c:Nat}{d:List Nat}{Ac:Option Addr}{nc cc:Nat}{kids:List TT}
end
end Go.Gx

namespace Go.Gx
theorem Yg(l:List Int){a:Int}(h:a≠0):Xi (l++[a])=l++[a]:=Zs.2 (by simp [Qa6,h])
theorem Qdq(l:List Int){a:Int}(h:a≠0):ldP (l++[a])=a:=by
 unfold ldP;rw[Yg l h,show(((l++[a]).length:Int) -1)=((l.length:Nat):Int) by simp,QgG];simp [co]
theorem QkE{b q R q0 R0:List Int}{f:Rat→Rat}(h: ∀x:Rat,f x=evQ q x*evQ b x+evQ R x)(h0: ∀x,f x=evQ q0 x*evQ b x+evQ R0 x)
  (hl:R.length+1≤(Xi b).length)(hl0:R0.length+1≤(Xi b).length):Xi R=Xi R0:=by
 have e: ∀x:Rat,evQ (Qfx R R0) x=evQ (ZR (Qfx q0 q) b) x:=fun x=>by
  have h1:=h x;have h2:=h0 x
  rw[QcH,QcI,QcI];grind
 have e1:Xi (Qfx R R0)=Xi (ZR (Qfx q0 q) b):=Qfv fun x=>e x
 have hz:Xi (Qfx q0 q)=[]:=by
  rcases Uk (Xi (Qfx q0 q)).length with h3|h3
  ·exact Ua h3
  ·have h4:=Qjp (f:=Qfx q0 q) (g:=b) (by omega) (by omega)
   rw[←e1] at h4
   have h5:=Qbf (Qfx R R0)
   have h6:(Qfx R R0).length=max R.length R0.length:=by simp [Qfx]
   omega
 refine Qfv fun x=> ?_
 have h1:=e x
 rw[QcH,←Qat (Qfx q0 q),hz,QcI] at h1
 simp only[evQ] at h1;grind
def PsR(a b R:List Int):Prop:=(∃q:List Int,∀x:Rat,evQ a x*((ldP b:Int):Rat)^ ((Xi a).length -((Xi b).length -1))=evQ q x*evQ b x+evQ R x)∧R.length+1≤(Xi b).length∧Xi R=R
theorem PsR.eq{a b R q0 R0:List Int}(h:PsR a b R)(h0: ∀x:Rat,evQ a x*((ldP b:Int):Rat)^ ((Xi a).length -((Xi b).length -1))=evQ q0 x*evQ b x+evQ R0 x)(hl:R0.length+1≤(Xi b).length):R=Xi R0:=by
 obtain⟨⟨q,hq⟩,h1,h2⟩:=h
 rw[←h2];exact QkE hq h0 h1 hl
def rdP(F:List Int):List Int:=(Xi F).map fun x=>x.tdiv (YW F:Int)
theorem QmD{F:List Int}(h:ldP F<0):Xi (Zh (Zy F) (-1))=rdP F:=by
 rw[←Qi1,Qcq,←Qkm]
 unfold rdP Zy QeZ
 rw[if_pos h,List.map_map]
 exact List.map_congr_left fun x _=>by simp [Int.tdiv_neg]
theorem QpX{F:List Int}(h: ¬ldP F<0):Zy F=rdP F:=by unfold rdP Zy QeZ;rw[if_neg h]
theorem QuR{F:List Int}(h:Xi F=[]):rdP F=[]:=by unfold rdP;rw[h];rfl
theorem Qe5{F:List Int}(h:Xi F≠ []): ∃k:Int,0<k∧(∀i,co F i=k*co (rdP F) i)∧(rdP F).length=(Xi F).length∧Xi (rdP F)=rdP F:=by
 have h0:ldP F≠0:=fun e=>h (QgX e)
 refine⟨YW F,by have :=Qgl h0;omega,fun i=> ?_,by simp [rdP],?_⟩
 ·have e:co (rdP F) i=(co F i).tdiv (YW F:Int):=by
   rw[←YP F];unfold rdP co
   rw[List.getD_eq_getElem?_getD,Un,List.getD_eq_getElem?_getD]
   cases(Xi F)[i]? <;>simp
  rw[e,Qy7 (QcF F i)]
 ·rcases QzF (ldP F) 0 with h1|h1
  ·rw[←QmD h1];exact XJ Qa6 _
  ·rw[←QpX (by omega)];exact Qcq F
def Qnm(a b R:List Int):List Int:=if(a.length -b.length+1) % 2=1∧ldP b<0 then rdP R else Xi (Zh (rdP R) (-1))
inductive StC:List Int→List Int→List (List Int)→Prop
 |done (a:List Int):StC a [] []
 |more {a b R:List Int} {L:List (List Int)}:b≠ []→PsR a b R→StC b (Qnm a b R) L→StC a b (b::L)
theorem StC.nil{a:List Int}{L:List (List Int)}(h:StC a [] L):L=[]:=by
 cases h with
 |done=>rfl
 |more h _ _=>exact absurd rfl h
theorem QpU{a R:List Int}{c:Int}(h:PsR a [c] R):R=[]:=by
 have h1:=h.2.1;have h2:=Qbf [c]
 exact Ua (by simp at h2;omega)
theorem StC.const{a:List Int}{c:Int}{L:List (List Int)}(h:StC a [c] L):L=[[c]]:=by
 cases h with
 |more h0 hp hc=>
  have h1:=QpU hp;subst h1
  have h2:Qnm a [c] []=[]:=by unfold Qnm;split<;>rfl
  rw[h2] at hc;rw[hc.nil]
end Go.Gx
namespace Go.Gx
def QjN:List Int→Int×Int→Int×Int
 | [],s=>s
 |x::l,(c,last)=>QjN l (if x=0 then(c,last) else(if x= -last then c+1 else c,x))
def chg(l:List Int):Int:=(QjN l (0,0)).1
def ends(L:List (List Int))(m:Bool):Int:=chg (L.map fun F=>Qbx (Xi F) m)
def lost(L:List (List Int)):Int:=ends L true -ends L false
theorem Qib{a:Int}(h:a≠0)(m:Bool):Qbx (Xi [a]) m=a.sign:=by
 rw[show [a]=[]++[a] from rfl,Yg [] h];cases m<;>simp [Qbx,coI,co]
theorem QmJ{a b:Int}(h:b≠0)(m:Bool):Qbx (Xi [a,b]) m=if m then -b.sign else b.sign:=by
 rw[show [a,b]=[a]++[b] from rfl,Yg [a] h];cases m<;>simp [Qbx,coI,co]
theorem Qic{a b c:Int}(h:c≠0)(m:Bool):Qbx (Xi [a,b,c]) m=c.sign:=by
 rw[show [a,b,c]=[a,b]++[c] from rfl,Yg [a,b] h];cases m<;>simp [Qbx,coI,co]
theorem QmK{a b c d:Int}(h:d≠0)(m:Bool):Qbx (Xi [a,b,c,d]) m=if m then -d.sign else d.sign:=by
 rw[show [a,b,c,d]=[a,b,c]++[d] from rfl,Yg [a,b,c] h];cases m<;>simp [Qbx,coI,co]
theorem Qjb(l:List Int):rdP (l++[1])=l++[1]:=by
 have h1:YW (l++[1])=1:=by
  have :=QcF (l++[1]) l.length
  have e:co (l++[1]) l.length=1:=by simp [co]
  rw[e] at this
  have :=Int.le_of_dvd (by decide) this
  have h0:=Qgl (F:=l++[1]) (by rw[Qdq l (by decide)];decide)
  omega
 unfold rdP;rw[h1,Yg l (by decide)];simp
theorem QpZ{a:Int}(h:a≠0):rdP [a]=[a.sign]:=by
 obtain⟨k,h1,h2,h3,h4⟩:=Qe5 (F:=[a]) (by rw[show [a]=[]++[a] from rfl,Yg [] h];simp)
 unfold rdP
 rw[show [a]=[]++[a] from rfl,Yg [] h]
 have :YW ([]++[a])=a.natAbs:=by simp [YW]
 rw[this]
 show [a.tdiv (a.natAbs:Int)]=[a.sign]
 congr 1
 rcases WX h with h5|h5
 ·rw[UX h5,show(a.natAbs:Int)= -a by omega,Int.tdiv_neg,QzD (by omega)]
 ·rw[Uq h5,show(a.natAbs:Int)=a by omega,QzD (by omega)]
theorem QwC{a b:Int}(h:b≠0): ∃k u v:Int,0<k∧rdP [a,b]=[u,v]∧a=k*u∧b=k*v:=by
 have h5:Xi [a,b]=[a,b]:=by rw[show [a,b]=[a]++[b] from rfl,Yg [a] h]
 obtain⟨k,h1,h2,h3,h4⟩:=Qe5 (F:=[a,b]) (by rw[h5];simp)
 rw[h5] at h3
 obtain⟨u,v,e⟩: ∃u v,rdP [a,b]=[u,v]:=by
  match hr:rdP [a,b],h3 with
  | [u,v],_=>exact⟨u,v,rfl⟩
 refine⟨k,u,v,h1,e,?_,?_⟩
 ·have :=h2 0;rw[e] at this;simpa [co] using this
 ·have :=h2 1;rw[e] at this;simpa [co] using this
theorem QwD{a b c:Int}(h:c≠0): ∃k u v t:Int,0<k∧rdP [a,b,c]=[u,v,t]∧a=k*u∧b=k*v∧c=k*t:=by
 have h5:Xi [a,b,c]=[a,b,c]:=by rw[show [a,b,c]=[a,b]++[c] from rfl,Yg [a,b] h]
 obtain⟨k,h1,h2,h3,h4⟩:=Qe5 (F:=[a,b,c]) (by rw[h5];simp)
 rw[h5] at h3
 obtain⟨u,v,t,e⟩: ∃u v t,rdP [a,b,c]=[u,v,t]:=by
  match hr:rdP [a,b,c],h3 with
  | [u,v,t],_=>exact⟨u,v,t,rfl⟩
 refine⟨k,u,v,t,h1,e,?_,?_,?_⟩
 ·have :=h2 0;rw[e] at this;simpa [co] using this
 ·have :=h2 1;rw[e] at this;simpa [co] using this
 ·have :=h2 2;rw[e] at this;simpa [co] using this
theorem Qha{a b R:List Int}(h:(a.length -b.length+1) % 2=0):Qnm a b R=Xi (Zh (rdP R) (-1)):=by unfold Qnm;rw[if_neg (by omega)]
theorem Qws{a:Int}(h:a≠0):Xi (Zh [a] (-1))=[-a]:=by
 show Xi [a* -1]=[-a]
 rw[show [a* -1]=[]++[-a] by simp,Yg [] (by omega)];rfl
theorem Qxl{a b:Int}(h:b≠0):Xi (Zh [a,b] (-1))=[-a,-b]:=by
 show Xi [a* -1,b* -1]=[-a,-b]
 rw[show [a* -1,b* -1]=[-a]++[-b] by simp,Yg [-a] (by omega)];rfl
theorem Qnq{k x y:Int}(hk:0<k)(e:x=k*y):x.sign=y.sign:=by rw[e,QyT,Uq hk,Qyw]
theorem QpE{k x y:Int}(e:x=k*y)(h:x≠0):y≠0:=fun h'=>h (by rw[e,h',WH])
end Go.Gx
namespace Go.Gx
theorem Qwi{a:Int}(h:a≠0):(Xi [a]).length=1:=by rw[show [a]=[]++[a] from rfl,Yg [] h];rfl
theorem QsH{a b:Int}(h:b≠0):(Xi [a,b]).length=2:=by rw[show [a,b]=[a]++[b] from rfl,Yg [a] h];rfl
theorem Qkh{a b c:Int}(h:c≠0):(Xi [a,b,c]).length=3:=by rw[show [a,b,c]=[a,b]++[c] from rfl,Yg [a,b] h];rfl
theorem Qwj{a b c d:Int}(h:d≠0):(Xi [a,b,c,d]).length=4:=by rw[show [a,b,c,d]=[a,b,c]++[d] from rfl,Yg [a,b,c] h];rfl
theorem Qxi{a b:Int}(h:b≠0):ldP [a,b]=b:=Qdq [a] h
theorem Qxj{a b c:Int}(h:c≠0):ldP [a,b,c]=c:=Qdq [a,b] h
theorem QlF{m a e c0 c1:Int}{R:List Int}(he:e≠0)(h1:c1≠0)(h:PsR [m,a,e] [c0,c1] R):R=Xi [c1*c1*m -c0*(c1*a -c0*e)]:=by
 refine h.eq (q0:=[c1*a -c0*e,c1*e]) (fun x=> ?_) (by rw[QsH h1];simp)
 rw[Qkh he,QsH h1,Qxi h1]
 simp only[evQ,Ur,Qzx,Nat.reduceSub]
 grind
theorem Qp0{p q b0 b2:Int}{R:List Int}(h2:b2≠0)(h:PsR [q,p,0,1] [b0,0,b2] R):R=Xi [b2*b2*q,b2*(b2*p -b0)]:=by
 refine h.eq (q0:=[0,b2]) (fun x=> ?_) (by rw[Qkh h2];simp)
 rw[Qwj (by decide),Qkh h2,Qxj h2]
 simp only[evQ,Ur,Qzx,Nat.reduceSub]
 grind
theorem QgZ{L:List (List Int)}{s t:List Int}{n:Int}(h1:(L.map fun F=>Qbx (Xi F) true)=s)(h2:(L.map fun F=>Qbx (Xi F) false)=t)(h:chg s -chg t=n):lost L=n:=by unfold lost ends;rw[h1,h2,h]
theorem QhY{m a:Int}{L:List (List Int)}(hd:4*m<a*a)(h:StC [m,a,1] (rdP [a,2]) L): ∃c0 c1:Int,0<c1∧rdP [a,2]=[c0,c1]∧L=[[c0,c1],[1]]:=by
 obtain⟨k,c0,c1,hk,e,e0,e1⟩:=QwC (a:=a) (b:=2) (by decide)
 have hc:0<c1:=QyS (by omega) hk
 refine⟨c0,c1,hc,e,?_⟩
 rw[e] at h
 cases h with
 |more h0 hp hc'=>
  have hR:=QlF (by decide) (by omega) hp
  have hr:c1*c1*m -c0*(c1*a -c0*1)<0:=by
   have h3:k*k*(c1*c1*m -c0*(c1*a -c0*1))=4*m -a*a:=by
    rw[show(4:Int)=2*2 from rfl,e1,e0];grind
   have h4:0<k*k:=Wm hk hk
   rcases QzF (c1*c1*m -c0*(c1*a -c0*1)) 0 with h5|h5
   ·exact h5
   ·have :=Qzk (Int.le_of_lt h4) h5;omega
  generalize c1*c1*m -c0*(c1*a -c0*1)=r at hR hr
  have hn:Qnm [m,a,1] [c0,c1] (Xi [r])=[1]:=by
   rw[Qha (by simp),show Xi [r]=[r] from Yg [] (by omega),QpZ (by omega),UX hr];decide
  rw[hR,hn] at hc'
  rw[hc'.const]
theorem QrX(q:Int):0≤q*q:=by rcases Int.le_total 0 q with h|h;exact Qzk h h;exact Int.mul_nonneg_of_nonpos_of_nonpos h h
def Qeq(p q:Int):Int:=4*(p*p*p)+27*(q*q)
theorem QoB{p q:Int}{L:List (List Int)}(hs:(p=0∧q≠0)∨(p≠0∧Qeq p q≠0))(h:StC [q,p,0,1] (rdP [p,0,3]) L):lost ([q,p,0,1]::L)=if Qeq p q<0 then 3 else 1:=by
 obtain⟨k,b0,b1,b2,hk,e,e0,e1,e2⟩:=QwD (a:=p) (b:=0) (c:=3) (by decide)
 have hb:0<b2:=QyS (by omega) hk
 have hb1:b1=0:=(Int.mul_eq_zero.1 e1.symm).resolve_left (by omega)
 subst hb1
 rw[e] at h
 cases h with
 |more h0 hp hc'=>
  have hR:=Qp0 (by omega) hp
  rw[hR] at hc'
  have hv:k*(b2*(b2*p -b0))=b2*(2*p):=by
   have :k*(b2*(b2*p -b0))=b2*((k*b2)*p -k*b0):=by grind
   rw[this,←e0,←e2];grind
  rw[Qha (by simp)] at hc'
  rcases hs with⟨rfl,hq⟩| ⟨hp0,hN⟩
  ·have hb0:b0=0:=(Int.mul_eq_zero.1 e0.symm).resolve_left (by omega)
   subst hb0
   have hR2:rdP (Xi [b2*b2*q,b2*(b2*0 -0)])=[q.sign]:=by
    have :Xi [b2*b2*q,b2*(b2*0 -0)]=[b2*b2*q]:=by
     rw[show [b2*b2*q,b2*(b2*0 -0)]=[b2*b2*q]++[0] by simp]
     show trimB Qa6 _=_
     rw[show trimB Qa6 ([b2*b2*q]++[0])=trimB Qa6 [b2*b2*q] by simp [trimB,Qa6]]
     exact Yg [] (UE (by have :=Wm hb hb;omega) hq)
    rw[this,QpZ (UE (by have :=Wm hb hb;omega) hq),QyT,Uq (Wm hb hb),Qyw]
   rw[hR2,Qws (by rw[Ne,WV];exact hq)] at hc'
   rw[hc'.const]
   have hN: ¬Qeq 0 q<0:=by unfold Qeq;have :=QrX q;omega
   rw[if_neg hN]
   refine QgZ (s:=[-1,1,-q.sign]) (t:=[1,1,-q.sign]) ?_ ?_ ?_
   ·simp only[QzE,QmK (show(1:Int)≠0 by decide),Qic (show b2≠0 by omega),Qib (show -q.sign≠0 by rw[Ne,Qzs,WV];exact hq),Uq hb,Qzi,Qzn];rfl
   ·simp only[QzE,QmK (show(1:Int)≠0 by decide),Qic (show b2≠0 by omega),Qib (show -q.sign≠0 by rw[Ne,Qzs,WV];exact hq),Uq hb,Qzi,Qzn];rfl
   ·rcases WX hq with h5|h5
    ·rw[UX h5];rfl
    ·rw[Uq h5];rfl
  ·have hv0:b2*(b2*p -b0)≠0:=fun h9=>by
    rw[h9,WH] at hv
    have :=UE (show b2≠0 by omega) (show 2*p≠0 by omega);omega
   have hvs:(b2*(b2*p -b0)).sign=p.sign:=by
    have h9:=congrArg Int.sign hv
    rw[QyT,Uq hk,Qyw] at h9
    rw[h9,QyT,QyT 2,Uq hb,Qyw];show 1*p.sign=_;omega
   obtain⟨k2,u,v,hk2,f,f0,f1⟩:=QwC (a:=b2*b2*q) hv0
   have hvn:=QpE f1 hv0
   have hvs2:v.sign=p.sign:=by rw[←hvs];exact(Qnq hk2 f1).symm
   have hR2:rdP (Xi [b2*b2*q,b2*(b2*p -b0)])=[u,v]:=by rw[show Xi [b2*b2*q,b2*(b2*p -b0)]=[b2*b2*q,b2*(b2*p -b0)] from Yg [_] hv0];exact f
   rw[hR2,Qxl hvn] at hc'
   cases hc' with
   |more _ hp2 hc2=>
    have hT:=QlF (by omega) (by omega) hp2
    rw[Qha (by simp)] at hc2
    have hd:(k*k*k*(k2*k2))*(-v* -v*b0 - -u*(-v*0 - -u*b2))=b2*b2*Qeq p q:=by
     have g1:k2*u=b2*b2*q:=f0.symm
     have g2:k*(k2*v)=b2*(2*p):=by rw[←f1];exact hv
     have g3:k*b0=p:=e0.symm
     have g4:k*b2=3:=e2.symm
     have g5:(k*k*k*(k2*k2))*(-v* -v*b0 - -u*(-v*0 - -u*b2))=(k*(k2*v))*(k*(k2*v))*(k*b0)+(k2*u)*(k2*u)*((k*k)*(k*b2)):=by grind
     rw[g5,g1,g2,g3,g4]
     have g6:b2*b2*q*(b2*b2*q)*(k*k*3)=b2*b2*(q*q*3)*((k*b2)*(k*b2)):=by grind
     rw[g6,g4];unfold Qeq;grind
    have hkk:0<k*k*k*(k2*k2):=Wm (Wm (Wm hk hk) hk) (Wm hk2 hk2)
    generalize -v* -v*b0 - -u*(-v*0 - -u*b2)=E at hT hd
    have hEs:E.sign=(Qeq p q).sign:=by
     have h9:=congrArg Int.sign hd
     rw[QyT,Uq hkk,QyT,Uq (Wm hb hb),Qyw,Qyw] at h9;exact h9
    have hE:E≠0:=fun h9=>hN (Int.sign_eq_zero_iff_zero.1 (by rw[←hEs,h9];rfl))
    have hns:(-(Qeq p q).sign)≠0:=by rw[Ne,Qzs,WV];exact hN
    rw[hT,show Xi [E]=[E] from Yg [] hE,QpZ hE,Qws (by rw[Ne,WV];exact hE),hEs] at hc2
    rw[hc2.const]
    have s1:(-v).sign= -p.sign:=by rw[Qzi,hvs2]
    refine QgZ (s:=[-1,1,p.sign,-(Qeq p q).sign]) (t:=[1,1,-p.sign,-(Qeq p q).sign]) ?_ ?_ ?_
    ·simp only[QzE,QmK (show(1:Int)≠0 by decide),Qic (show b2≠0 by omega),QmJ (show -v≠0 by omega),Qib hns,Uq hb,s1,Qzi,Qzn,Int.neg_neg];rfl
    ·simp only[QzE,QmK (show(1:Int)≠0 by decide),Qic (show b2≠0 by omega),QmJ (show -v≠0 by omega),Qib hns,Uq hb,s1,Qzi,Qzn];rfl
    ·rcases WX hp0 with h5|h5
     ·rw[UX h5]
      rcases WX hN with h6|h6
      ·rw[UX h6,if_pos h6];rfl
      ·rw[Uq h6,if_neg (by omega)];rfl
     ·have h6:0<Qeq p q:=by
       unfold Qeq
       have :=Wm (Wm h5 h5) h5
       have :=QrX q
       omega
      rw[Uq h5,Uq h6,if_neg (by omega)];rfl
end Go.Gx
namespace Go.Gx
theorem QmA{M G K L:Nat}(h:K≤L):psM M G K≤psM M G L:=by unfold psM;have :=Uf (G+6) h;omega
theorem QpY(F:List Int):Xi (rdP F)=rdP F:=by
 by_cases h:Xi F=[]
 ·rw[QuR h];rfl
 ·obtain⟨_,_,_,_,h4⟩:=Qe5 h;exact h4
theorem QpF(a b R:List Int):Xi (Qnm a b R)=Qnm a b R:=by
 unfold Qnm;split
 ·exact QpY R
 ·exact XJ Qa6 _
theorem QiX{F:List Int}(h:Xi F=F)(hl:1≤F.length):ldP F≠0:=fun e=>by
 have :=QgX e
 rw[h] at this;rw[this] at hl;simp at hl
end Go.Gx
namespace Go.Gx
theorem QsQ(F:List Int):(rdP F).length=(Xi F).length:=by simp [rdP]
theorem Qcg(F:List Int):Xi (Xi F)=Xi F:=XJ Qa6 F
end Go.Gx

namespace Go.Gx
def QpV(a b R0:List Int):Prop:= ∀R,PsR a b R→R=R0
inductive Tr:List Int→List Int→Int→List Int→Prop
 |stop {a b:List Int} {D:Int}:QpV a b []→Tr a b D b
 |last {a b R:List Int} {D c:Int}:QpV a b R→R.map (fun x=>x.tdiv D)=[c]→c≠0→Tr a b D [c]
 |next {a b R l:List Int} {D u v:Int}:QpV a b R→R.map (fun x=>x.tdiv D)=[u,v]→v≠0→b.length=3→Tr b [u,v] (ldP b*ldP b) l→Tr a b D l
structure GP (f G Q:List Int):Prop where
 pf:Zy f=f
 cf:YW f=1
 lf:2≤f.length∧f.length≤4
 tr: ∃l,Tr f (Zy (YI f)) 1 l∧Zy l=G∧l.length≤3
 tf:Xi f=f
 ld:(Xi (YI f)).length+1=f.length
 l2:2≤(Xi (YI f)).length
 gl:ldP G=1∧Xi G=G
 q: ∀x:Rat,evQ f x=evQ Q x*evQ G x
 ql:Xi Q=Q
theorem Qi3{F:List Int}(h: ¬ldP F<0):Zy F=rdP F:=QpX h
theorem QrJ(l:List Int):Zy (l++[1])=l++[1]:=by rw[Qi3 (by rw[Qdq l (by decide)];decide),Qjb]
theorem QqK(l:List Int):YW (l++[1])=1:=by
 have :=QcF (l++[1]) l.length
 have e:co (l++[1]) l.length=1:=by simp [co]
 rw[e] at this
 have :=Int.le_of_dvd (by decide) this
 have h0:=Qgl (F:=l++[1]) (by rw[Qdq l (by decide)];decide)
 omega
theorem QsP{a:Int}(h:a≠0):Zy [a]=[1]:=by
 have h1:ldP [a]=a:=Qdq [] h
 rcases QzF a 0 with h2|h2
 ·have h3:=QmD (F:=[a]) (by omega)
  have h4:=QpZ h
  rw[UX h2] at h4
  rw[h4,←Qi1,Qcq] at h3
  have h5:=Qe0 [a]
  rw[Qwi h] at h5
  match hp:Zy [a],h5,h3 with
  | [b],_,h3=>simp [Zh] at h3;rw[h3]
 ·rw[Qi3 (by omega),QpZ h,Uq (by omega)]
theorem QrI{c v:Int}(h:v≠0):Zy [c*v,v]=[c,1]:=by
 have h1:YW [c*v,v]=v.natAbs:=by
  show UK (UK 0 v.natAbs) (c*v).natAbs=_
  rw[Nat.gcd_zero_left,UW];exact Nat.gcd_eq_left (Qzq _ _)
 have h2:QeZ [c*v,v]=v:=by unfold QeZ;rw[Qxi h,h1];split<;>omega
 unfold Zy
 rw[h2,show Xi [c*v,v]=[c*v,v] from Yg [c*v] h]
 show [(c*v).tdiv v,v.tdiv v]=_
 rw[Int.mul_tdiv_cancel _ h,QzD h]
theorem QwB{f G Q q:List Int}(h: ∀x:Rat,evQ f x=evQ q x*evQ G x)(h0: ∀x:Rat,evQ f x=evQ Q x*evQ G x)(hG:1≤(Xi G).length):Xi q=Xi Q:=by
 have e:Xi (ZR (Qfx q Q) G)=Xi []:=Qfv fun x=>by
  have h1:=h x;have h2:=h0 x
  rw[QcH,QcI];simp only[evQ];grind
 have hz:Xi (Qfx q Q)=[]:=by
  rcases Uk (Xi (Qfx q Q)).length with h3|h3
  ·exact Ua h3
  ·have h4:=Qjp (f:=Qfx q Q) (g:=G) (by omega) (by omega)
   rw[e] at h4
   have :(Xi ([]:List Int)).length=0:=rfl
   omega
 refine Qfv fun x=> ?_
 have h1:evQ (Qfx q Q) (x:Rat)=0:=by rw[←Qat,hz];rfl
 rw[QcI] at h1;grind
theorem r32{m a e c0 c1:Int}(he:e≠0)(h1:c1≠0):QpV [m,a,e] [c0,c1] (Xi [c1*c1*m -c0*(c1*a -c0*e)]):=fun _ h=>QlF he h1 h
theorem r43{p q b0 b2:Int}(h2:b2≠0):QpV [q,p,0,1] [b0,0,b2] (Xi [b2*b2*q,b2*(b2*p -b0)]):=fun _ h=>Qp0 h2 h
theorem Qpc:GP [-2,0,1] [1] [-2,0,1]:=
 ⟨by decide,by decide,by decide,⟨[-2],by
  rw[show Zy (YI [-2,0,1])=[0,1] by decide]
  exact .last (R:=[-2]) (r32 (by decide) (by decide)) (by decide) (by decide),by decide,by decide⟩,by decide,by decide,by decide,by decide,fun x=>by simp only[evQ];grind,by decide⟩
theorem QqO(p q:Int):YI [q,p,0,1]=[p,0,3]:=by
 show [co [q,p,0,1] 1*1,co [q,p,0,1] 2*2,co [q,p,0,1] 3*3]=_
 simp [co]
theorem Qwz(p:Int): ∃k b0 b2:Int,0<k∧0<b2∧Zy [p,0,3]=[b0,0,b2]∧rdP [p,0,3]=[b0,0,b2]∧p=k*b0∧3=k*b2:=by
 obtain⟨k,b0,b1,b2,hk,e,e0,e1,e2⟩:=QwD (a:=p) (b:=0) (c:=3) (by decide)
 have hb:0<b2:=QyS (by omega) hk
 have hb1:b1=0:=(Int.mul_eq_zero.1 e1.symm).resolve_left (by omega)
 subst hb1
 exact⟨k,b0,b2,hk,hb,by rw[Qi3 (by rw[Qxj (by decide)];decide),e],e,e0,e2⟩
theorem QoO{p q:Int}{G Q l:List Int}(ht:Tr [q,p,0,1] (Zy [p,0,3]) 1 l)(hg:Zy l=G)(hl:l.length≤3)(gl:ldP G=1∧Xi G=G)(h: ∀x:Rat,evQ [q,p,0,1] x=evQ Q x*evQ G x)(ql:Xi Q=Q):GP [q,p,0,1] G Q:=
 ⟨QrJ [q,p,0],QqK [q,p,0],by simp,⟨l,by rw[QqO];exact ht,hg,hl⟩,Yg [q,p,0] (by decide),by rw[QqO,Qkh (by decide)];rfl,by rw[QqO,Qkh (by decide)];decide,gl,h,ql⟩
theorem QsK(l:List Int):l.map (fun x=>x.tdiv 1)=l:=by simp
theorem Qxe{p q:Int}(hp:p≠0)(h:Qeq p q=0): ∃a:Int,a≠0∧p= -3*(a*a)∧q=2*(a*a*a):=by
 unfold Qeq at h
 obtain⟨m,rfl⟩: ∃m,p=3*m:=by
  refine⟨p/3,?_⟩
  have h1:=Qy2 p 3
  have h2:=Qza p (show(3:Int)≠0 by decide)
  have h3:=Qzh p (show(0:Int)<3 by decide)
  generalize p/3=t at *
  generalize p % 3=r at *
  subst h1
  rcases(show r=0∨r=1∨r=2 by omega) with rfl|rfl|rfl
  ·omega
  ·exfalso
   have :4*((3*t+1)*(3*t+1)*(3*t+1))=108*(t*t*t)+108*(t*t)+36*t+4:=by grind
   omega
  ·exfalso
   have :4*((3*t+2)*(3*t+2)*(3*t+2))=108*(t*t*t)+216*(t*t)+144*t+32:=by grind
   omega
 have h1:q*q= -4*(m*m*m):=by
  have :4*(3*m*(3*m)*(3*m))=108*(m*m*m):=by grind
  omega
 obtain⟨n,rfl⟩: ∃n,q=2*n:=by
  refine⟨q/2,?_⟩
  have h2:=Qy2 q 2
  have h3:=Qza q (show(2:Int)≠0 by decide)
  have h4:=Qzh q (show(0:Int)<2 by decide)
  generalize q/2=t at *
  generalize q % 2=r at *
  subst h2
  rcases(show r=0∨r=1 by omega) with rfl|rfl
  ·omega
  ·exfalso
   have :(2*t+1)*(2*t+1)=4*(t*t)+4*t+1:=by grind
   omega
 have h2:n*n= -m*(m*m):=by
  have :2*n*(2*n)=4*(n*n):=by grind
  have : -m*(m*m)= -(m*m*m):=by grind
  omega
 have h3:m∣n:=by
  have h4:m.natAbs^2∣n.natAbs^2:=by
   have :=congrArg Int.natAbs h2
   rw[UW,UW,UW] at this
   rw[Nat.pow_two,Nat.pow_two,this]
   exact Qzq _ _
  exact Int.natAbs_dvd_natAbs.1 ((Nat.pow_dvd_pow_iff (by decide)).1 h4)
 obtain⟨k,rfl⟩:=h3
 have hm:m≠0:=fun e=>hp (by rw[e];rfl)
 have h4:k*k= -m:=by
  have h5:(m*m)*(k*k)=(m*m)* -m:=by
   have :m*k*(m*k)=(m*m)*(k*k):=by grind
   have : -m*(m*m)=(m*m)* -m:=by grind
   omega
  exact Qyp (UE hm hm) h5
 refine⟨-k,fun e=>hm ?_,?_,?_⟩
 ·have :k=0:=by omega
  rw[this] at h4;omega
 ·have : -k* -k=k*k:=by grind
  omega
 ·have : -k* -k* -k= -(k*k)*k:=by grind
  rw[this,h4];grind
def QOf(p q:Int)(Q:List Int):Prop:=(p=0∧q=0∧Q=[0,1])∨(((p=0∧q≠0)∨(p≠0∧Qeq p q≠0))∧Q=[q,p,0,1])∨(Qeq p q=0∧p≠0∧ ∃a:Int,a≠0∧p= -3*(a*a)∧Q=[-2*(a*a),a,1])
theorem QqQ(p q:Int): ∃G Q:List Int,GP [q,p,0,1] G Q∧QOf p q Q:=by
 obtain⟨k,b0,b2,hk,hb,e,_,e0,e2⟩:=Qwz p
 have whole: ∀{l:List Int},Tr [q,p,0,1] (Zy [p,0,3]) 1 l→Zy l=[1]→l.length≤3→GP [q,p,0,1] [1] [q,p,0,1]:=fun ht hg hl=>
  QoO ht hg hl (by decide) (fun x=>by simp only[evQ];grind) (Yg [q,p,0] (by decide))
 have hb2:b2≠0:=by omega
 have R1:=r43 (p:=p) (q:=q) (b0:=b0) hb2
 by_cases hp:p=0
 ·have hb0:b0=0:=(Int.mul_eq_zero.1 (hp▸e0).symm).resolve_left (by omega)
  subst hb0 hp
  have hz:Xi [b2*b2*q,b2*(b2*0 -0)]=Xi [b2*b2*q]:=Qbz fun i=>by
   rcases i with _|_|i<;>simp [co]
  rw[hz] at R1
  have hb1:b2=1:=by
   have h1:YW [0,0,3]=3:=by decide
   have h2:Zy [0,0,3]=[0,0,1]:=by decide
   rw[h2] at e;simp at e;omega
  subst hb1
  by_cases hq:q=0
  ·subst hq
   refine⟨[0,0,1],[0,1],QoO (l:=[0,0,1]) (by rw[e];exact .stop R1) (by decide) (by decide) (by decide) (fun x=>by simp only[evQ];grind) (by decide),.inl ⟨rfl,rfl,rfl⟩⟩
  ·refine⟨[1],_,whole (l:=[q]) (by rw[e];exact .last R1 (by rw[show(1:Int)*1*q=q by omega,show Xi [q]=[q] from Yg [] hq];simp) hq) (QsP hq) (by simp),.inr (.inl ⟨.inl ⟨rfl,hq⟩,rfl⟩)⟩
 ·have hv:k*(b2*(b2*p -b0))=b2*(2*p):=by
   have :k*(b2*(b2*p -b0))=b2*((k*b2)*p -k*b0):=by grind
   rw[this,←e0,←e2];grind
  have hv0:b2*(b2*p -b0)≠0:=fun h9=>by
   rw[h9,WH] at hv
   have :=UE hb2 (show 2*p≠0 by omega);omega
  rw[show Xi [b2*b2*q,b2*(b2*p -b0)]=[b2*b2*q,b2*(b2*p -b0)] from Yg [_] hv0] at R1
  have R2:=r32 (m:=b0) (a:=0) (e:=b2) (c0:=b2*b2*q) (c1:=b2*(b2*p -b0)) hb2 hv0
  have hE:(k*k*k)*(b2*(b2*p -b0)*(b2*(b2*p -b0))*b0 -b2*b2*q*(b2*(b2*p -b0)*0 -b2*b2*q*b2))=(b2*b2)*Qeq p q:=by
   have g5:(k*k*k)*(b2*(b2*p -b0)*(b2*(b2*p -b0))*b0 -b2*b2*q*(b2*(b2*p -b0)*0 -b2*b2*q*b2))=(k*(b2*(b2*p -b0)))*(k*(b2*(b2*p -b0)))*(k*b0)+(b2*b2)*(q*q)*((k*b2)*(k*b2)*(k*b2)):=by grind
   rw[g5,hv,←e0,←e2];unfold Qeq;grind
  have hld:ldP [b0,0,b2]=b2:=Qxj hb2
  have hkk:k*k*k≠0:=UE (UE (by omega) (by omega)) (by omega)
  by_cases hN:Qeq p q=0
  ·obtain⟨a,ha,rfl,rfl⟩:=Qxe hp hN
   rw[hN] at hE
   rw[(Int.mul_eq_zero.1 (hE.trans (WH _))).resolve_left hkk,show Xi [(0:Int)]=[] by decide] at R2
   refine⟨[-a,1],[-2*(a*a),a,1],QoO (l:=[b2*b2*(2*(a*a*a)),b2*(b2*(-3*(a*a)) -b0)]) (by rw[e];exact .next R1 (QsK _) hv0 rfl (.stop R2)) ?_ (by simp) ⟨Qxi (by decide),Yg [-a] (by decide)⟩ (fun x=>by simp only[evQ,Ur,Qzw];grind) (Yg [_,_] (by decide)),.inr (.inr ⟨hN,hp,a,ha,rfl,rfl⟩)⟩
   have hl:b2*b2*(2*(a*a*a))= -a*(b2*(b2*(-3*(a*a)) -b0)):=by
    refine Qyp (show k≠0 by omega) ?_
    rw[show k*(-a*(b2*(b2*(-3*(a*a)) -b0)))= -a*(k*(b2*(b2*(-3*(a*a)) -b0))) by grind,hv,show k*(b2*b2*(2*(a*a*a)))=(k*b2)*b2*(2*(a*a*a)) by grind,←e2];grind
   rw[hl];exact QrI hv0
  ·have hW:b2*(b2*p -b0)*(b2*(b2*p -b0))*b0 -b2*b2*q*(b2*(b2*p -b0)*0 -b2*b2*q*b2)=(b2*b2)*((b2*p -b0)*(b2*p -b0)*b0+q*(b2*b2*q*b2)):=by grind
   rw[hW] at R2 hE
   generalize(b2*p -b0)*(b2*p -b0)*b0+q*(b2*b2*q*b2)=W at R2 hE
   have hW0:W≠0:=fun h9=>by
    rw[h9,WH,WH] at hE
    exact UE (UE hb2 hb2) hN hE.symm
   have hbb:=UE hb2 hb2
   rw[show Xi [b2*b2*W]=[b2*b2*W] from Yg [] (UE hbb hW0)] at R2
   refine⟨[1],_,whole (l:=[W]) (by rw[e];exact .next R1 (QsK _) hv0 rfl (.last R2 (by rw[hld];simp [Int.mul_tdiv_cancel_left _ hbb]) hW0)) (QsP hW0) (by simp),.inr (.inl ⟨.inr ⟨hp,hN⟩,rfl⟩)⟩
theorem QqP{p q:Int}{Q:List Int}{C:List (List Int)}(hQ:QOf p q Q)(h:StC (rdP Q) (rdP (YI Q)) C):lost (rdP Q::C)=if Qeq p q<0 then 3 else if 0<Qeq p q then 1 else if p=0∧q=0 then 1 else 2:=by
 rcases hQ with⟨rfl,rfl,rfl⟩| ⟨hs,rfl⟩| ⟨hN,hp,a,ha,_,rfl⟩
 ·rw[show rdP (YI [0,1])=[1] by decide] at h
  rw[h.const];decide
 ·rw[QqO,show rdP [q,p,0,1]=[q,p,0,1] from Qjb [q,p,0]] at h
  rw[show rdP [q,p,0,1]=[q,p,0,1] from Qjb [q,p,0],QoB hs h]
  have :0<Qeq p q∨Qeq p q<0:=by
   rcases hs with⟨rfl,hq⟩| ⟨_,hN⟩
   ·left;unfold Qeq;have :=QrX q;have :=UE hq hq;omega
   ·omega
  rcases this with h1|h1
  ·rw[if_neg (by omega),if_neg (by omega),if_pos h1]
  ·rw[if_pos h1,if_pos h1]
 ·have e:rdP [-2*(a*a),a,1]=[-2*(a*a),a,1]:=Qjb [-2*(a*a),a]
  have e1:YI [-2*(a*a),a,1]=[a,2]:=by
   show [co [-2*(a*a),a,1] 1*1,co [-2*(a*a),a,1] 2*2]=_
   simp [co]
  rw[e,e1] at h
  have h0:=UE ha ha
  have h1:=QrX a
  obtain⟨c0,c1,hc,_,rfl⟩:=QhY (by omega) h
  rw[e,if_neg (by omega),if_neg (by omega),if_neg (by omega)]
  refine QgZ (s:=[1,-1,1]) (t:=[1,1,1]) ?_ ?_ rfl
  ·simp only[QzE,Qic (show(1:Int)≠0 by decide),QmJ (show c1≠0 by omega),Qib (show(1:Int)≠0 by decide),Uq hc];rfl
  ·simp only[QzE,Qic (show(1:Int)≠0 by decide),QmJ (show c1≠0 by omega),Qib (show(1:Int)≠0 by decide),Uq hc];rfl
theorem QqH{C:List (List Int)}(h:StC (rdP [-2,0,1]) (rdP (YI [-2,0,1])) C):C=[[0,1],[1]]:=by
 rw[show rdP [-2,0,1]=[-2,0,1] by decide,show YI [-2,0,1]=[0,2] by decide] at h
 obtain⟨c0,c1,_,e,rfl⟩:=QhY (by decide) h
 rw[show rdP [0,2]=[0,1] by decide] at e
 rw[←e]
end Go.Gx
namespace Go.Gx
theorem QuP{F G Q q:List Int}(h0: ∀x:Rat,evQ F x=evQ q x*evQ G x)(h: ∀x:Rat,evQ F x=evQ Q x*evQ G x)(hG:ldP G=1)(hQ:Xi Q=Q)(hl:q.length=(Xi F).length -((Xi G).length -1)):q=Q:=by
 obtain⟨d,hd⟩:=QeP (G:=G) (by rw[hG];decide)
 have e:=QwB h0 h (by omega)
 have eF:Xi F=Xi (ZR Q G):=Qfv fun x=>by rw[QcH];exact h x
 rcases Uk Q.length with h1|h1
 ·have hq:Q=[]:=Ua h1
  subst hq
  have :Xi F=Xi []:=Qfv fun x=>by rw[h x];simp only[evQ];grind
  rw[this] at hl
  exact Ua (by rw[hl];exact Nat.zero_sub _)
 ·have h2:=Qjp (f:=Q) (g:=G) (by rw[hQ];omega) (by omega)
  rw[←eF,hQ] at h2
  rw[hQ] at e
  have h3:q.length=Q.length:=by omega
  rw[←e];refine(Qbs (.inr ?_)).symm
  have h4:=Qap (f:=Xi q) (XJ Qa6 q) (by rw[e];omega)
  rw[YP,e,←h3] at h4;exact h4
theorem Qm8{F G Q:List Int}(h: ∀x:Rat,evQ F x=evQ Q x*evQ G x)(hG:ldP G=1): ¬QsB F G:=by
 rintro⟨Q',R,s,h1,h2,h3⟩
 obtain⟨d,hd⟩:=QeP (G:=G) (by rw[hG];decide)
 rcases h3 with⟨_,h4⟩| ⟨rfl,i,h4⟩
 ·exact h4 (by rw[hG];exact Int.one_dvd _)
 ·have h5:(Xi R).length≤(Xi G).length -1:=by
   rcases(Qdy R).2 with h6|h6
   ·omega
   ·rcases Up ((Xi R).length -1) ((Xi G).length -1) with h7|h7
    ·omega
    ·exact absurd (h2 _ (by omega)) h6
  have h6:=QkE (f:=evQ F) (b:=G) (q:=Q') (R:=Xi R) (q0:=Q) (R0:=[]) (fun x=>by rw[Qat];exact h1 x) (fun x=>by rw[h x];simp only[evQ];grind) (by omega) (by rw[hd];simp)
  rw[Qcg] at h6
  apply h4;rw[←YP,h6];rfl
theorem Tr.inv0{a b R l:List Int}{D:Int}(h:Tr a b D l)(hp:PsR a b R)(hR:R=[]):l=b:=by
 subst hR
 cases h with
 |stop _=>rfl
 |last h1 h2 _=>rw[←h1 _ hp] at h2;simp at h2
 |next h1 h2 _ _=>rw[←h1 _ hp] at h2;simp at h2
theorem Tr.inv1{a b R r l:List Int}{D:Int}(h:Tr a b D l)(hp:PsR a b R)(hR:R≠ [])(hr:r=R.map fun x=>x.tdiv D):(Xi r=r∧1≤r.length∧r.length≤2)∧(r.length=1→r=l)∧(r.length≠1→b.length=3∧r.length=2∧Tr b r (ldP b*ldP b) l):=by
 cases h with
 |stop h1=>exact absurd (h1 _ hp) hR
 |last h1 h2 h3=>rw[←h1 _ hp,←hr] at h2;subst h2;exact⟨⟨Yg [] h3,by simp,by simp⟩,fun _=>rfl,fun h=>absurd rfl h⟩
 |next h1 h2 h3 h4 h5=>rw[←h1 _ hp,←hr] at h2;subst h2;exact⟨⟨Yg [_] h3,by simp,by simp⟩,fun h=>by simp at h,fun _=>⟨h4,rfl,h5⟩⟩
theorem Qpg{g g':Bool}{d d':List Nat}{n n':Nat}(hc:Qay g d)(hl:d.length=n)(hd: ∀x∈d',x<BS)(hl':d'.length=n')(h:(Xx g d).natAbs=(Xx g' d').natAbs):n≤n':=by
 rw[←XI,←XI] at h
 have :=YA hc.1 (k:=n') (by rw[h,←hl'];exact QaU _ hd)
 omega
end Go.Gx
namespace Go.Gx
theorem Qnh{F:List Int}{x:Int}(h:x=((Xi F).length:Int) -1)(hx: ¬x<0):ldP F≠0:=fun e=>by rw[QgX e] at h;simp at h;omega
theorem Qpp{F:List Int}(h:1≤(Xi F).length):ldP F≠0:=fun e=>by rw[QgX e] at h;simp at h
theorem QuV(F:List Int):Xi (Zh F 1)=Xi F:=by unfold Zh;simp
theorem Qq4{M G K L:Nat}(h:K≤L):exM M G K≤exM M G L:=by unfold exM;have :=Uf (G+14) h;omega
theorem Qrj(F:List Int):ldP (Xi F)=ldP F:=by unfold ldP;rw[Qcg]
theorem QgI(F:List Int):YW (Xi F)=YW F:=
 Nat.dvd_antisymm (QiA fun i=>by rw[←YP];exact QcF (Xi F) i) (QiA fun i=>by rw[YP];exact QcF F i)
theorem Qnr(F:List Int):Zy (Xi F)=Zy F:=by unfold Zy QeZ;rw[Qcg,Qrj,QgI]
theorem QpS{F:List Int}(h:Zy F=F)(h0:ldP F≠0):0<ldP F:=by
 rcases WX h0 with h1|h1
 ·exfalso
  have h2:=QmD h1
  rw[h] at h2
  obtain⟨k,hk,hc,hl,ht⟩:=Qe5 (F:=F) (fun e=>h0 (by unfold ldP;rw[e];rfl))
  rw[←h2] at hc
  obtain⟨d,hd⟩:=QeP h0
  have⟨hL,_,_⟩:=Qpo hd
  have h3:=hc d
  rw[YP,ZO,hL] at h3
  have h4:k*(ldP F* -1)= -(k*ldP F):=by rw[Int.mul_neg_one,Int.mul_neg]
  have h5:=Int.mul_neg_of_pos_of_neg hk h1
  omega
 ·exact h1
end Go.Gx

namespace Go.Gx
open Go.RowKit
structure PL where
 A:Option Addr
 n:Nat
 c:Nat
 l:List RI
theorem Xh.both{w:World}{S T:Nat→Prop}{A:Option Addr}{n c M:Nat}{l:List RI}(h:Xh w S A n c l M)(g:Xh w T A n c l M):Xh w (fun b=>S b∧T b) A n c l M:=
 ⟨h.1.both g.1,fun r hr=>⟨(h.2 r hr).1.both (g.2 r hr).1,(h.2 r hr).2⟩⟩
def PL.z(x:PL):List Int:=zs x.l
def PL.R(M:Nat)(w:World)(S:Nat→Prop)(x:PL):Prop:=Xh w S x.A x.n x.c x.l M
def PK(M:Nat):SK PL where
 k:=1
 pos:=by decide
 cells x:=[.slice x.A x.n x.c]
 len _:=rfl
 one _:=rfl
 R:=PL.R M
 frmB h f hd:=Xh.frmB h f hd
 ext h f:=Xh.ext h f
 sub h hs:=Xh.sub h hs
 both h g:=Xh.both h g
structure FQ where
 p:PL
 m:Int
def FQ.R(M:Nat)(w:World)(S:Nat→Prop)(x:FQ):Prop:=x.p.R M w S
def FQK(M:Nat):SK FQ where
 k:=2
 pos:=by decide
 cells x:=[.slice x.p.A x.p.n x.p.c,.int .i64 x.m]
 len _:=rfl
 one _:=rfl
 R:=FQ.R M
 frmB h f hd:=Xh.frmB h f hd
 ext h f:=Xh.ext h f
 sub h hs:=Xh.sub h hs
 both h g:=Xh.both h g
structure NQ where
 p:PL
 lo:QE
 hi:QE
def NQ.R(M:Nat)(w:World)(S:Nat→Prop)(x:NQ):Prop:=x.p.R M w S∧QR 64 w S x.lo∧QR 64 w S x.hi
def NQK(M:Nat):SK NQ where
 k:=7
 pos:=by decide
 cells x:=[.slice x.p.A x.p.n x.p.c]++x.lo.cells++x.hi.cells
 len _:=rfl
 one _:=rfl
 R:=NQ.R M
 frmB h f hd:=⟨Xh.frmB h.1 f hd,h.2.1.frmB f hd,h.2.2.frmB f hd⟩
 ext h f:=⟨Xh.ext h.1 f,h.2.1.ext f,h.2.2.ext f⟩
 sub h hs:=⟨Xh.sub h.1 hs,h.2.1.sub hs,h.2.2.sub hs⟩
 both h g:=⟨Xh.both h.1 g.1,h.2.1.both g.2.1,h.2.2.both g.2.2⟩
theorem ZX.lit{α:Type}{L:SK α}{w:World}{B g:Nat}{el:TypeId}{f:α}{S:Nat→Prop}(hB:B≤g)(h:Blk w g el (L.cells f))(hf:L.R w (fun b=>S b∧b≠g) f):ZX L w B el (g+1) (some ⟨g,0,none⟩) 1 1 [f] S:=by
 have hl:=L.len f
 refine⟨⟨⟨by rw[L.flat_one,hl,Qyy],.inr ⟨g,1,(L.cells f).toArray,rfl,hB,h,Ug _,by decide,by simp [hl],by simp [L.flat_one,Ui (Qy4 hl)]⟩⟩,fun x hx=> ?_,rfl⟩,fun x hx=> ?_⟩
 ·rw[List.mem_singleton.1 hx];exact L.sub hf fun b _ hb h9=>hb.2 (by omega)
 ·rw[List.mem_singleton.1 hx];exact L.sub hf fun b _ hb=>hb.1
def zsP(l:List PL):List (List Int):=l.map PL.z
end Go.Gx
namespace Go.Gx
theorem QvW{Q:List Int}{N:Nat}(h: ∀x∈Q,x.natAbs<N)(h0:0<N)(i:Nat):(co Q i).natAbs<N:=by
 rcases Up i Q.length with hi|hi
 ·have e:co Q i=Q[i]:=by simp [co,Uh,Ud hi]
  rw[e];exact h _ (Wr hi)
 ·rw[Qb9 hi];exact h0
end Go.Gx
namespace Go.Gx
def NEK:SK NE where
 k:=1
 pos:=by decide
 cells x:=[.slice x.A x.n x.c]
 len _:=rfl
 one _:=rfl
 R w S x:=Xn w S x.A x.n x.c x.d
 frmB h f hd:=h.frmB f hd
 ext h f:=h.ext f
 sub h hs:=h.sub hs
 both h g:=h.both g
end Go.Gx

namespace Go.Gx
def QE.val(q:QE):Value:= .agg #[.bool q.g,.slice q.A q.n q.c,.slice q.Av q.nv q.cv]
def IV.val(x:IV):Value:= .agg #[.bool x.lo.g,.slice x.lo.A x.lo.n x.lo.c,.slice x.lo.Av x.lo.nv x.lo.cv,.bool x.hi.g,.slice x.hi.A x.hi.n x.hi.c,.slice x.hi.Av x.hi.nv x.hi.cv]
def NQ.val(x:NQ):Value:= .agg #[.slice x.p.A x.p.n x.p.c,.bool x.lo.g,.slice x.lo.A x.lo.n x.lo.c,.slice x.lo.Av x.lo.nv x.lo.cv,.bool x.hi.g,.slice x.hi.A x.hi.n x.hi.c,.slice x.hi.Av x.hi.nv x.hi.cv]
def small(r:Rat):Prop:=r.num.natAbs<2^64∧r.den<2^64
instance(r:Rat):Decidable (small r):=inferInstanceAs (Decidable (_∧_))
theorem QE.parts{q:QE}(h:q.red):q.v.num=q.num∧q.v.den=q.den:=by
 have hp:q.den≠0:=by have h1:0<q.den:=h.2.2.1;omega
 have hg:Nat.Coprime q.num.natAbs q.den:=by rw[QE.abs];exact h.2.2.2
 have e:q.v=⟨q.num,q.den,hp,hg⟩:=by
  rw[QE.v_def h,←Rat.divInt_eq_div]
  exact(Rat.num_divInt_den ⟨q.num,q.den,hp,hg⟩)
 rw[e];exact⟨rfl,rfl⟩
theorem QE.ok_v{q:QE}(h:q.red)(hs:small q.v):q.ok 64:=by
 obtain⟨h1,h2⟩:=QE.parts h
 obtain⟨h3,h4⟩:=hs
 rw[h1,QE.abs] at h3;rw[h2] at h4
 exact⟨h,h3,h4⟩
theorem QE.made{w:World}{S:Nat→Prop}{q:QE}{x:Rat}(h1:Xn w S q.A q.n q.c q.d)(h2:Xn w S q.Av q.nv q.cv q.dv)(hr:q.red)(hv:q.v=x)(hs:small x):QR 64 w S q:=⟨⟨h1,h2⟩,QE.ok_v hr (by rw[hv];exact hs)⟩
def sgQ(x:Rat):Int:=if 0<x then 1 else if x<0 then -1 else 0
theorem QwH{z p:Int}{x:Rat}(h:(z:Rat)=x*(p:Rat))(hp:0<p):z.sign=sgQ x:=by
 have h0:(0:Rat)<(p:Rat):=Ql0 hp
 unfold sgQ
 rcases Int.lt_trichotomy z 0 with h1|h1|h1
 ·have h2:(z:Rat)<0:=by rw[show(0:Rat)=((0:Int):Rat) from rfl,WE];exact h1
  have h3:x<0:=by
   by_cases h4:x<0
   ·exact h4
   ·have :=Rat.mul_nonneg (Rat.not_lt.1 h4) (QzG h0);rw[←h] at this;grind
  rw[if_neg (by grind),if_pos h3,UX h1]
 ·subst h1
  have h3:x=0:=(Rat.mul_eq_zero.1 h.symm).resolve_right (by grind)
  rw[h3,if_neg (by decide),if_neg (by decide)];rfl
 ·have h2:(0:Rat)<(z:Rat):=Ql0 h1
  have h3:0<x:=by
   by_cases h4:0<x
   ·exact h4
   ·have h4:=Rat.not_lt.1 h4
    have :x*(p:Rat)≤0:=by have :=Rat.mul_nonneg (show 0≤ -x by grind) (QzG h0);grind
    rw[←h] at this;grind
  rw[if_pos h3,Uq h1]
theorem QE.quo{r a b:QE}(hr:r.red)(ha:a.red)(hb:b.red)(hb0:b.v≠0)(x:r.num*((QaY a.den:Int)*Qct b.num b.den)=(Qct a.num a.den*(QaY b.den:Int))*(r.den:Int)):r.v=a.v/b.v:=by
 have h1:0<a.den:=ha.2.2.1
 have h2:0<b.den:=hb.2.2.1
 rw[ZN h1,ZZ h1,ZN h2,ZZ h2] at x
 have x2:(r.num:Rat)*(((a.den:Int):Rat)*(b.num:Rat))=(a.num:Rat)*((b.den:Int):Rat)*((r.den:Int):Rat):=by
  rw[←Ur,←Ur,x];simp only[Ur]
 have d1:=QE.den_pos hr;have d2:=QE.den_pos ha;have d3:=QE.den_pos hb
 rw[QE.v_def hb] at hb0
 rw[QE.v_def hr,QE.v_def ha,QE.v_def hb]
 grind
theorem QE.negv{r a:QE}(hr:r.red)(ha:a.red)(x:r.num*(QaY a.den:Int)= -Qct a.num a.den*(r.den:Int)):r.v= -a.v:=by
 have h1:0<a.den:=ha.2.2.1
 rw[ZN h1,ZZ h1] at x
 rw[QE.cross hr (by omega) x,QE.v_def ha,Qzw];grind
theorem QE.nz{b:QE}(hb:b.red)(h:b.v≠0):Qct b.num b.den≠0:=by
 have h2:0<b.den:=hb.2.2.1
 rw[ZN h2]
 intro e;apply h;rw[QE.v_def hb,e];have :((0:Int):Rat)=0:=rfl;rw[this];grind
theorem QcJ{a b q r:Int}(hb:0<b)(h:q*b+r=a)(hr:r=a % b):q=a/b:=by
 have h1:=Qy2 a b
 rw[←hr] at h1
 have :b*q=b*(a/b):=by rw[WW b q];omega
 exact Qyp (by omega) this
theorem QpW{a:QE}(ha:a.red){q:Int}(h:q=Qct a.num a.den/ (QaY a.den:Int)):q=a.v.floor:=by
 have h2:0<a.den:=ha.2.2.1
 rw[ZN h2,ZZ h2] at h
 obtain⟨e1,e2⟩:=QE.parts ha
 rw[Rat.floor_def,e1,e2,h]
end Go.Gx
namespace Go.Gx
theorem QjO: ∀(l:List Int)(x:Int)(s:Int×Int),QjN (l++[x]) s=(if x=0 then QjN l s else(if x= -(QjN l s).2 then(QjN l s).1+1 else(QjN l s).1,x))
 | [],x,(c,t)=>rfl
 |y::l,x,(c,t)=>by rw[Qye];exact QjO l x _
theorem QeJ: ∀(l:List Int)(s:Int×Int),0≤s.1→0≤(QjN l s).1∧(QjN l s).1≤s.1+l.length
 | [],(c,t),h=>by simp only[QjN,Uv];omega
 |y::l,(c,t),h=>by
  have h2:0≤c:=h
  have h1:=QeJ l (if y=0 then(c,t) else(if y= -t then c+1 else c,y)) (by split<;>(try split)<;>(simp only;omega))
  simp only[QjN,Um]
  refine⟨h1.1,Int.le_trans h1.2 ?_⟩
  split<;>(try split)<;>(simp only;omega)
theorem Qr5{l:List PL}{i:Nat}{f:PL}(h:l[i]? =some f){F:List Int→Int}:((zsP (l.take (i+1))).map F)=((zsP (l.take i)).map F)++[F (zs f.l)]:=by
 unfold zsP;rw[Wy,h];simp [PL.z]
theorem Qp5(x:Rat): -1≤sgQ x∧sgQ x≤1:=by unfold sgQ;split<;>(try split)<;>omega
theorem QmL(F:List Int)(m:Bool): -1≤Qbx F m∧Qbx F m≤1:=by
 unfold Qbx
 have h:=fun x:Int=>Yr x
 split
 ·rcases h (coI F ((F.length:Int) -1)) with h1|h1|h1<;>omega
 ·rcases h (coI F ((F.length:Int) -1)) with h1|h1|h1<;>omega
theorem QjP(l:List PL)(F:List Int→Int):QjN ((zsP (l.take 0)).map F) (0,0)=(0,0):=by rw[QyM];rfl
theorem QdG{l:List PL}{i:Nat}{f:PL}{F:List Int→Int}{c t c2 t2 s:Int}(hI:QjN ((zsP (l.take i)).map F) (0,0)=(c,t))(h:l[i]? =some f)(hs:s=F (zs f.l))(h2:(c2,t2)=if s=0 then(c,t) else(if s= -t then c+1 else c,s)):QjN ((zsP (l.take (i+1))).map F) (0,0)=(c2,t2):=by
 rw[Qr5 h,QjO,hI,←hs,h2]
theorem QoC{l:List PL}{i:Nat}{F:List Int→Int}{c t:Int}(hI:QjN ((zsP (l.take i)).map F) (0,0)=(c,t))(h:l.length≤i):c=chg ((zsP l).map F):=by
 rw[Ui h] at hI;unfold chg;rw[hI]
end Go.Gx
namespace Go.Gx
theorem Ql6(L:List (List Int))(m:Bool):0≤ends L m∧ends L m≤L.length:=by
 have h:=QeJ (L.map fun F=>Qbx (Xi F) m) (0,0) (QyQ 0)
 rw[UY] at h
 unfold ends chg
 exact⟨h.1,by omega⟩
end Go.Gx

namespace Go.Gx
open Go.RowKit
section
variable{w w':World}{S S' G:Nat→Prop}{A:Option Addr}{n c:Nat}{xs:List Int}
end
theorem Qqj{w:World}{g:Nat}{t:TypeId}{S:Nat→Prop}{Af Ag:Option Addr}{nf cf ng cg Mf Mg k:Nat}{lf lg:List RI}(h:Blk w g t [.slice Af nf cf,.slice Ag ng cg])(hf:Xh w S Af nf cf lf Mf)(hg:Xh w S Ag ng cg lg Mg)(hk:k<2):
  ∃A n c l,w.cell? ⟨g,k,none⟩=some (.slice A n c)∧Xh w S A n c l (max Mf Mg)∧(k=0→zs l=zs lf∧n=nf)∧(k=1→zs l=zs lg∧n=ng):=by
 rcases(show k=0∨k=1 by omega) with rfl|rfl
 ·exact⟨Af,nf,cf,lf,h.at_ rfl,hf.le (by omega),fun _=>⟨rfl,rfl⟩,fun h=>by omega⟩
 ·exact⟨Ag,ng,cg,lg,h.at_ rfl,hg.le (by omega),fun h=>by omega,fun _=>⟨rfl,rfl⟩⟩
theorem QrB{w:World}{g:Nat}{t:TypeId}{S:Nat→Prop}{Af:Option Addr}{nf cf Mf k:Nat}{lf:List RI}(h:Blk w g t [.slice Af nf cf])(hf:Xh w S Af nf cf lf Mf)(hk:k<1):
  ∃A n c l,w.cell? ⟨g,k,none⟩=some (.slice A n c)∧Xh w S A n c l Mf∧zs l=zs lf∧n=nf:=by
 obtain rfl:k=0:=by omega
 exact⟨Af,nf,cf,lf,h.at_ rfl,hf,rfl,rfl⟩
end Go.Gx

namespace Go.Gx
open Go.RowKit
section
variable{w w':World}{G:Nat→Prop}
end
section
variable{P:Program}{n:Nat}{e:Nat→Value}{w:World}{ty:TypeId}{pos:String}{af:Array Edge}{gd:Option (Nat×Bool)}
theorem Qj4{d:Option Nat}{t t':TypeId}{x y:Operand}{a:Nat}(hx:ev n e x= .int .u64 (a:Int))(hy:ev n e y= .int .u64 1)(ha:a<18446744073709551616):
  Ev P n e ⟨d,.binOp .and t x y t',ty,pos,af,gd⟩ w (.int .u64 ((a % 2:Nat):Int)):=by
 have e1:(Op.intBits .and .u64 (a:Int) 1)=pure (.int .u64 (IntKind.u64.wrap ((UL 64 (a:Int)&&&UL 64 1).toNat:Int))):=rfl
 have e2:(UL 64 (a:Int)&&&UL 64 1).toNat=a % 2:=by
  have h1:UL 64 (a:Int)=Ue 64 a:=by simp
  have h2:UL 64 1=Ue 64 1:=by decide
  rw[h1,h2,BitVec.toNat_and,WK,WK,UQ (by omega)]
  exact Nat.and_one_is_mod a
 rw[e2,Qbm (z:=((a % 2:Nat):Int)) ⟨rfl,by omega,by omega⟩] at e1
 simp only[Ev,execOp,hx,hy,eqGuard,binOp,e1]
 simp
end
end Go.Gx

namespace Go.Gx
variable{F:Nat→Nat}{G L X d f g l:List Nat}{N i k m n p v x:Nat}
theorem Qlw(h:p=2∨p=3∨p=5∨p=7∨p=11∨p=13):QeG p:=by
 have key: ∀q,q=2∨q=3∨q=5∨q=7∨q=11∨q=13→ ∀a,a<q→0<a→UK a q=1:=by
  intro q hq
  rcases hq with rfl|rfl|rfl|rfl|rfl|rfl<;>decide
 exact⟨by omega,fun a h0 h1=>key p h a h1 h0⟩
theorem Qkk(h:L=(d.take k).map F)(hk:k<d.length)(hx:x=F (d.getD k 0)):L++[x]=(d.take (k+1)).map F:=by
 rw[h,hx,Wy,Ud hk,Uo]
 simp [Uh,Ud hk]
theorem Qkj(h:L=(d.take k).map F)(hk:d.length≤k):L=d.map F:=by rw[h,Ui hk]
theorem Qhe(h:L=(UV k).map F)(hx:x=F k):L++[x]=(UV (k+1)).map F:=by
 rw[h,hx,WP,Uo];rfl
theorem QmC{l:List Int}(hn:l.length=n):(UV n).map (fun i=>md p (co l i))=l.map (md p):=by
 refine QgY (by simp [hn]) fun i=> ?_
 rcases Up i n with h|h
 ·rw[Uh,Un,WT h,QeN _ _ (Qdr p)];rfl
 ·rw[Uh,Ul (by simpa using h),QeN _ _ (Qdr p),Qb9 (by omega),Qdr];rfl
theorem Qdp(d:List Nat)(m i:Nat):(d.map (· % m)).getD i 0=d.getD i 0 % m:=by
 simp only[Uh,Un]
 cases d[i]? <;>simp
theorem QqS(h: ∀j,k≤j→(d.map (· % m)).getD j 0=0)(h1:d.getD (k -1) 0 % m=0): ∀j,k -1≤j→(d.map (· % m)).getD j 0=0:=
 QfI h (by rw[Qdp];exact h1)
theorem QoV(hk:k≤d.length)(h: ∀j,k≤j→(d.map (· % m)).getD j 0=0)(hl:k=0∨d.getD (k -1) 0 % m≠0):(Qqy m d).length=k:=by
 have h1:=Qfc (ds:=d.map (· % m)) (k:=k) (by simpa using hk) h (hl.imp id fun hh=>by rw[Qdp];exact hh)
 unfold Qqy
 rw[←h1]
 simp;omega
theorem Qrn(hL:L.length=k)(hk:k<X.length):(L++X.drop k).set k v=(L++[v])++X.drop (k+1):=by
 rw[US _ _ (by omega),hL,WD,Ws hk,WY,WI]
 rfl
theorem Qrm(hL:L.length=k):(L++X.drop k).getD k 0=X.getD k 0:=by
 simp only[Uh]
 rw[UD (by omega),hL,WD,UU]
 simp
theorem QuL(d:List Nat)(n i:Nat):(d++Uc n 0).getD i 0=d.getD i 0:=by
 simp only[Uh]
 rcases Up i d.length with h|h
 ·rw[UR h]
 ·rw[UD h,Ul h,WL]
  split<;>rfl
theorem QrY{n:Nat}(hp:0<p)(hX: ∀i,X.getD i 0=f.getD i 0)(hXl:X.length=N)(hN:N=max f.length g.length)(hL:L.length=g.length)(h: ∀i,i<g.length→L.getD i 0=md p (((f.getD i 0:Nat):Int) -(g.getD i 0:Nat))):Qqy p (L++X.drop g.length)=QxB p f g:=by
 unfold Qqy QxB QnK
 congr 1
 refine QgY ?_ fun i=> ?_
 ·simp [Qfx,Qfg,hL,hXl];omega
 ·rw[Qdp,QeN _ _ (Qdr p),Qk9,QoH,QoH]
  rcases Up i g.length with h1|h1
  ·have e:(L++X.drop g.length).getD i 0=L.getD i 0:=by simp only[Uh];rw[UR (by omega)]
   rw[e,h i h1,UQ (Qln hp _)]
  ·have e:(L++X.drop g.length).getD i 0=f.getD i 0:=by
    rw[←hX]
    simp only[Uh]
    rw[UD (by omega),UU,hL,show g.length+(i -g.length)=i by omega]
   have e2:g.getD i 0=0:=by rw[Uh,Ul h1];rfl
   rw[e,e2,show((f.getD i 0:Nat):Int) -((0:Nat):Int)=(f.getD i 0:Nat) by omega,Qpw hp]
theorem Qo7(hL:L.length=k)(h: ∀i,i<k→L.getD i 0=F i)(hx:x=F k): ∀i,i<k+1→(L++[x]).getD i 0=F i:=fun i hi=>by
 simp only[Uh]
 rcases Up i k with h1|h1
 ·rw[UR (by omega)];exact h i h1
 ·obtain rfl:i=k:=by omega
  rw[UD (by omega),hL,WD];exact hx
theorem Qmr{F:List Nat}(hF:F=Qqy p f)(hG:G=Qqy p g)(h:F.length=0∨G.length=0):[]=Qw1 p f g:=by
 unfold Qw1
 rw[←hF,←hG]
 have :ZR (zl F) (zl G)=[]:=by unfold ZR;rw[if_pos (by simpa [Qfg] using h)]
 rw[this];rfl
theorem Qmq(hp:QeG p)(hc:Qbg p d)(hn:0<d.length):UK (d.getD (d.length -1) 0) p=1:=hp.2 _ (hc.last hn).1 (hc.last hn).2
theorem Qf4(hp:p<4294967296)(h: ∀d∈l,d<p): ∀d∈l,d<BS:=fun d hd=>by have :=h d hd;simp only[BS];omega
theorem QeR(h: ∀d∈l,d<p)(hv:v<p): ∀d∈l++[v],d<p:=fun d hd=>by
 rcases List.mem_append.1 hd with h1|h1
 ·exact h d h1
 ·simp at h1;omega
theorem Qpr(h: ∀d∈L,d<BS)(hX: ∀d∈X,d<BS): ∀d∈L++X.drop k,d<BS:=fun d hd=>by
 rcases List.mem_append.1 hd with h1|h1
 ·exact h d h1
 ·exact hX d (Wl h1)
theorem Qgn(h: ∀d∈L,d<p)(hp:0<p): ∀d∈L++Uc m 0,d<p:=fun d hd=>by
 rcases List.mem_append.1 hd with h1|h1
 ·exact h d h1
 ·rw[Uu h1];exact hp
theorem Qps(h: ∀d∈l,d<p)(hv:v<p): ∀d∈l.set i v,d<p:=fun d hd=>by
 rcases Wi hd with h1|h1
 ·exact h d h1
 ·omega
end Go.Gx

namespace Go.Gx
end Go.Gx

namespace Go.Gx
end Go.Gx

namespace Go.Gx
end Go.Gx

namespace Go.Gx
end Go.Gx

namespace Go.Gx
end Go.Gx

namespace Go.Gx
end Go.Gx

namespace Go.Gx
end Go.Gx

namespace Go.Gx
end Go.Gx

namespace Go.Gx
end Go.Gx

namespace Go.Gx
theorem QqT{p k x:Nat}{df:List Nat}(hp:0<p)(hx:x=df.getD (k+1) 0*((k+1) % p) % p):x=md p (co (YI (zl df)) k):=by
 subst hx
 rw[QeK,QoH,Qpv hp]
 exact Qll hp ((Cg.refl p _).mul (QaJ (k+1)))
theorem Qt9{p n:Nat}{df:List Nat}(h:df.length=n)(h0:n=0):[]=QnK p (YI (zl df)):=by
 rw[Ua (h.trans h0)];rfl
end Go.Gx
namespace Go.Gx
end Go.Gx
namespace Go.Gx
end Go.Gx

namespace Go.Gx
section
variable{κ:Type}
end
section
variable{κ:Type}[DecidableEq κ]
section
variable(key:QP→κ)(v:QP→Nat)(z:κ)(ks:List κ)(js:List Nat)
end
variable{key:QP→κ}{v:QP→Nat}{z k:κ}{ks:List κ}{js:List Nat}{e i j:Nat}{x y g x' y' d:List Int}
def D2(ks:List κ)(js:List Nat)(z:κ)(i:Nat)(l:κ×Nat):Prop:=l.1∈ks∨(l.1=z∧l.2∈js.take i)
variable{os:List (List Int)}{ls:List (κ×Nat)}
end
end Go.Gx

namespace Go.Gx
def sq2:List Int:=[-2,0,1]
def sqC:List (List Int):=[[-2,0,1],[0,1],[1]]
def sgV(x:Rat):Int:=sgQ (evQ sq2 x)
def sqv(x:Rat):Int:=chg (sqC.map fun F=>sgQ (evQ F x))
def okV(lo hi:Rat):Bool:=decide (lo<hi∧sgV lo≠0∧sgV hi≠0∧sqv lo -sqv hi=1)
def QgS(lo hi:Rat):Rat×Rat:=if sgV ((lo+hi)/2)=sgV lo then((lo+hi)/2,hi) else(lo,(lo+hi)/2)
def Qpd(lo hi:Rat):Bool:=decide (lo<hi∧small ((lo+hi)/2)∧sgV ((lo+hi)/2)≠0)
def plV(lo hi:Rat):Rat:=evQ sq2 lo/ (evQ sq2 lo -evQ sq2 hi)
def stV(lo hi:Rat):Rat:=(hi -lo)/4
def ixV(lo hi:Rat):Rat:=(((plV lo hi*4).floor:Int):Rat)
def clV(lo hi:Rat):Rat:=lo+ixV lo hi*stV lo hi
def chV(lo hi:Rat):Rat:=clV lo hi+stV lo hi
def QfO(lo hi:Rat):Bool:=decide (sgV (clV lo hi)≠sgV (chV lo hi))
def QoA(lo hi:Rat):Bool:=decide ((small (evQ sq2 lo)∧small (evQ sq2 hi)∧small (evQ sq2 lo -evQ sq2 hi)∧evQ sq2 lo -evQ sq2 hi≠0∧small (plV lo hi)∧small (plV lo hi*4))∧small (ixV lo hi)∧small (hi -lo)∧small (stV lo hi)∧small (ixV lo hi*stV lo hi)∧small (clV lo hi)∧small (chV lo hi)∧sgV (clV lo hi)≠0∧sgV (chV lo hi)≠0)
def Qmt:Nat→Rat→Rat→Rat→Bool
 |0,w,lo,hi=>decide (small (hi -lo)∧ ¬w<hi -lo)
 |K+1,w,lo,hi=>decide (small (hi -lo)∧w<hi -lo)&&QoA lo hi&& (if QfO lo hi then decide (K=0)&&Qmt K w (clV lo hi) (chV lo hi) else Qpd lo hi&&Qmt K w (QgS lo hi).1 (QgS lo hi).2)
def QhF:Nat→Rat→Rat→Rat×Rat
 |0,lo,hi=>(lo,hi)
 |K+1,lo,hi=>if QfO lo hi then QhF K (clV lo hi) (chV lo hi) else QhF K (QgS lo hi).1 (QgS lo hi).2
theorem Qnl{K:Nat}{w lo hi:Rat}(h:Qmt K w lo hi=true):small (hi -lo):=by
 cases K with
 |zero=>exact(of_decide_eq_true h).1
 |succ K=>simp only[Qmt,UH,decide_eq_true_eq] at h;exact h.1.1.1
theorem QpD{K:Nat}{w lo hi:Rat}(h:Qmt K w lo hi=true)(hw: ¬w<hi -lo):K=0:=by
 cases K with
 |zero=>rfl
 |succ K=>simp only[Qmt,UH,decide_eq_true_eq] at h;exact absurd h.1.1.2 hw
theorem QuF{K:Nat}{w lo hi:Rat}(h:Qmt K w lo hi=true)(hw:w<hi -lo): ∃J,K=J+1∧QoA lo hi=true∧(QfO lo hi=true→J=0∧Qmt J w (clV lo hi) (chV lo hi)=true∧QhF K lo hi=QhF J (clV lo hi) (chV lo hi))∧(QfO lo hi=false→Qpd lo hi=true∧Qmt J w (QgS lo hi).1 (QgS lo hi).2=true∧QhF K lo hi=QhF J (QgS lo hi).1 (QgS lo hi).2):=by
 cases K with
 |zero=>exact absurd hw (of_decide_eq_true h).2
 |succ J=>
  simp only[Qmt,UH,decide_eq_true_eq] at h
  refine⟨J,rfl,h.1.2,fun hf=> ?_,fun hf=> ?_⟩
  ·have h2:=h.2
   rw[hf,if_pos rfl] at h2
   simp only[UH,decide_eq_true_eq] at h2
   exact⟨h2.1,h2.2,by simp only[QhF];rw[hf,if_pos rfl]⟩
  ·have h2:=h.2
   rw[hf,if_neg (by decide)] at h2
   simp only[UH] at h2
   exact⟨h2.1,h2.2,by simp only[QhF];rw[hf,if_neg (by decide)]⟩
def flV(K:Nat)(lo hi:Rat):Int:=(QhF K lo hi).2.floor
def flB(K:Nat)(lo hi:Rat):Bool:=okV lo hi&&Qmt K (1/2) lo hi&&decide ((QhF K lo hi).1<(QhF K lo hi).2∧small (QhF K lo hi).2∧small (flV K lo hi:Rat)∧(flV K lo hi:Rat)≤(QhF K lo hi).1)
def ivB(K:Nat)(lo hi:Rat):Bool:=flB K lo hi&&decide (small ((flV K lo hi+1:Int):Rat)∧sqv (flV K lo hi:Rat) -sqv ((flV K lo hi+1:Int):Rat)=1∧ -1000<flV K lo hi∧flV K lo hi<1000)
theorem Qpj:ivB 2 (-3) 0=true∧flV 2 (-3) 0= -2:=by decide+kernel
theorem Qpk:ivB 2 0 3=true∧flV 2 0 3=1:=by decide+kernel
theorem Qxf:ivB 1 1 2=true∧flV 1 1 2=1:=by decide+kernel
end Go.Gx
namespace Go.Gx
theorem Qco{l:List RI}{n:Nat}(h:zs l=sq2)(hk:l.length=n):n=3:=by
 have :=congrArg Wq h
 rw[Za] at this
 exact hk▸this
theorem Qdf{a b:Rat}(h:a<b):Qm2 a b= -1:=by unfold Qm2;rw[if_pos h]
theorem Qqc(x:Rat):0≤sqv x∧sqv x≤3:=by
 have h:=QeJ (sqC.map fun F=>sgQ (evQ F x)) (0,0) (QyQ 0)
 rw[UY] at h
 have h3:sqC.length=3:=rfl
 unfold sqv chg
 rw[h3] at h
 exact⟨h.1,by have :=h.2;omega⟩
end Go.Gx
namespace Go.Gx
theorem Qt0{a b:Rat}(h:Qm2 a b>0):b<a:=Rat.not_le.1 fun h1=>by have :=Qiy.2 h1;omega
theorem QqI{a b:Rat}(h:b<a):Qm2 a b>0:=by
 have : ¬Qm2 a b≤0:=fun h1=>absurd (Qiy.1 h1) (Rat.not_le.2 h)
 omega
theorem Ql3(x:Rat):x/ ((1:Int):Rat)=x:=by have h9:((1:Int):Rat)=1:=rfl;rw[h9];grind
theorem QiO{K:Nat}{lo hi:Rat}(h:flB K lo hi=true):okV lo hi=true∧Qmt K (1/2) lo hi=true∧(QhF K lo hi).1<(QhF K lo hi).2∧small (QhF K lo hi).2∧small (flV K lo hi:Rat)∧(flV K lo hi:Rat)≤(QhF K lo hi).1:=by
 simp only[flB,UH,decide_eq_true_eq] at h
 exact⟨h.1.1,h.1.2,h.2⟩
theorem Qrh{K:Nat}{lo hi:Rat}(h:ivB K lo hi=true):flB K lo hi=true∧small (flV K lo hi:Rat)∧small ((flV K lo hi+1:Int):Rat)∧sqv (flV K lo hi:Rat) -sqv ((flV K lo hi+1:Int):Rat)=1∧ -1000<flV K lo hi∧flV K lo hi<1000:=by
 simp only[ivB,UH,decide_eq_true_eq] at h
 exact⟨h.1,(QiO h.1).2.2.2.2.1,h.2⟩
end Go.Gx
namespace Go.Gx
theorem Qvl(l:List RI)(k:Nat):zs (l.take k)=(zs l).take k:=by unfold zs;exact Wx
end Go.Gx
namespace Go.Gx
def psV(i:Nat):List Bool:=[true,decide (i<2),true]
def ssV(i:Nat):Bool:=decide (i≠1)
theorem QpT{i:Nat}(h:i<3):((psV i).map Value.bool)[i]? =some (.bool true):=by
 rcases(show i=0∨i=1∨i=2 by omega) with rfl|rfl|rfl<;>rfl
theorem QmN{i:Nat}(h:i<3):[Value.bool true,.bool false,.bool true][i]? =some (.bool (ssV i)):=by
 rcases(show i=0∨i=1∨i=2 by omega) with rfl|rfl|rfl<;>rfl
theorem QmB{i:Nat}(h:i<3):((psV i).map Value.bool).take i++[.bool (ssV i)]++((psV i).map Value.bool).drop (i+1)=(psV (i+1)).map Value.bool:=by
 rcases(show i=0∨i=1∨i=2 by omega) with rfl|rfl|rfl<;>rfl
end Go.Gx
namespace Go.Gx
theorem QvZ{l:List NE}{x:NE}{D:List Nat}{i:Nat}(h:l.map NE.d=[D])(he:l[i]? =some x):x.d=D:=by
 have h1:(l.map NE.d)[i]? =some x.d:=by rw[Un,he];rfl
 rw[h] at h1
 rcases i with _|i
 ·exact(Option.some.inj h1).symm
 ·simp at h1
end Go.Gx

namespace Go.Gx
open Go.RowKit
variable{A:Option Addr}{D:List Nat}{G S:Nat→Prop}{M c i n:Nat}{w w':World}{x:NQ}
theorem QiY{α β:Type}{l:List α}{f:α→β}{b:β}{x:α}(h:l.map f=[b])(he:l[i]? =some x):f x=b:=by
 have h1:f x∈l.map f:=Qyk (Ub he)
 rw[h] at h1
 exact List.mem_singleton.1 h1
theorem Qwr{l:List NE}(h:Xu NEK w S A n c l)(e:l.map NE.d=[D]): ∀x∈l,x.n≤D.length:=fun x hx=>by
 obtain⟨i,hi,he⟩:=Qzd hx
 have h1:=QiY e (i:=i) (x:=x) (by rw[Ud hi,he])
 have h2:Xn w S x.A x.n x.c x.d:=h.2 x hx
 have h3:=h2.len
 rw[h1] at h3
 omega
theorem NQ.R.ext(h:NQ.R M w S x)(f:Ext w w'):NQ.R M w' S x:=(NQK M).ext h f
theorem NQ.R.frmB(h:NQ.R M w S x)(f:Frm G w w')(hd: ∀b,b<w.heap.size→S b→ ¬G b):NQ.R M w' S x:=(NQK M).frmB h f hd
def FQ.zm(x:FQ):List Int×Int:=(x.p.z,x.m)
theorem QxH: ∃lz:List Int,Tr (Zy sq2) (Zy [0,2]) 1 lz∧Zy lz=[1]∧lz.length≤3:=by
 obtain⟨lz,h1,h2,h3⟩:=Qpc.tr
 exact⟨lz,by rw[show Zy sq2=sq2 from Qpc.pf];exact h1,h2,h3⟩
theorem Qxq(x:Rat):evQ sq2 x=evQ sq2 x*evQ [1] x:=Qpc.q x
theorem Qxr(x:Rat):evQ [0,2] x=evQ [0,2] x*evQ [1] x:=by simp only[evQ];grind
theorem Qxs(x:Rat):evQ sq2 x=evQ [1] x*evQ sq2 x:=by simp only[sq2,evQ];grind
theorem Qxt(x:Rat):evQ [] x=evQ [] x*evQ sq2 x:=by simp only[evQ];grind
end Go.Gx

namespace Go.Gx
open Go.RowKit
def kT(z:Int):RT:= .mk 0 z []
def uT:List Int→RT
 | []=>kT 0
 | [a]=>kT a
 |a::b::l=> .mk 1 0 ((a::b::l).map kT)
theorem Qqk{F:List Int}(h:F.length≤1):uT F=kT (F.getD 0 0):=by
 match F,h with
 | [],_=>rfl
 | [a],_=>rfl
theorem Qql{F:List Int}(h:2≤F.length):uT F= .mk 1 0 (F.map kT):=by
 match F,h with
 |a::b::l,_=>rfl
theorem Qvk:QbA=kT 0:=rfl
theorem QfR{a b:Int}(h:kT a=kT b):a=b:=(RT.mk.inj h).2.1
section
variable{x:Int}{g:Bool}{A Ak:Option Addr}{n c nk ck:Nat}{d:List Nat}{kd:List TT}{F:List Int}{z:Int}
theorem QcV(h:(TT.mk x g A n c d Ak nk ck kd).val=kT z):x=0∧Xx g d=z∧kd=[]:=by
 rw[TT.val_mk] at h
 have⟨h1,h2,h3⟩:=RT.mk.inj h
 exact⟨h1,h2,List.map_eq_nil_iff.1 h3⟩
theorem Qng(h1:x=0)(h2:Xx g d=z)(h3:kd=[]):(TT.mk x g A n c d Ak nk ck kd).val=kT z:=by
 rw[TT.val_mk,h1,h2,h3];rfl
theorem QlK(h:(TT.mk x g A n c d Ak nk ck kd).val=uT F)(hF:F.length≤1):x=0∧Xx g d=F.getD 0 0∧kd=[]:=QcV (h.trans (Qqk hF))
theorem Qhp(h:(TT.mk x g A n c d Ak nk ck kd).val=uT F)(hF:2≤F.length):x=1∧Xx g d=0∧kd.map TT.val=F.map kT:=by
 rw[TT.val_mk,Qql hF] at h
 exact RT.mk.inj h
theorem QwP(h:(TT.mk x g A n c d Ak nk ck kd).val=uT F):(x=0∧F.length≤1)∨(x=1∧2≤F.length):=by
 rcases Up F.length 2 with h1|h1
 ·exact .inl ⟨(QlK h (by omega)).1,by omega⟩
 ·exact .inr ⟨(Qhp h h1).1,h1⟩
end
theorem QdO{kd:List TT}{F:List Int}{i:Nat}{t:TT}(h:kd.map TT.val=F.map kT)(he:kd[i]? =some t):t.val=kT (F.getD i 0)∧i<F.length:=by
 have h1:(kd.map TT.val)[i]? =some t.val:=by simp [he]
 rw[h,Un] at h1
 cases hF:F[i]? with
 |none=>rw[hF] at h1;cases h1
 |some a=>
  rw[hF] at h1
  refine⟨(Option.some.inj h1).symm.trans (by simp [Uh,hF]),(List.getElem?_eq_some_iff.1 hF).1⟩
theorem Qa9{kd:List TT}{F:List Int}(h:kd.map TT.val=F.map kT):kd.length=F.length:=by simpa using congrArg Wq h
theorem QfF{F:List Int}(h:Xi F=F):uT F=QbA↔F=[]:=by
 constructor
 ·intro e
  rcases Up F.length 2 with h1|h1
  ·match F,h1 with
   | [],_=>rfl
   | [a],_=>
    have :a=0:=QfR e
    subst this
    exact absurd h (by decide)
  ·rw[Qql h1] at e
   have :=(RT.mk.inj e).1
   omega
 ·rintro rfl;rfl
end Go.Gx
namespace Go.Gx
open Go.RowKit
theorem Qpn{F:List Int}(h:Xi F=F)(hn:F≠ []):F.getD (F.length -1) 0≠0:=by
 have h1:=List.dropLast_concat_getLast hn
 rw[←h1] at h
 have h2:=Zs.1 h
 have h3:F.getD (F.length -1) 0=F.getLast hn:=by
  rw[List.getLast_eq_getElem,Uh,Ud (by have :=List.length_pos_iff.2 hn;omega)];rfl
 rw[h3]
 intro h4
 rw[h4] at h2
 exact absurd h2 (by decide)
theorem YL{F:List Int}(h:F.getD (F.length -1) 0≠0):Xi F=F:=by
 rcases List.eq_nil_or_concat F with rfl| ⟨l,a,h9⟩
 ·rfl
 ·rw[List.concat_eq_append] at h9
  subst h9
  refine Zs.2 ?_
  have h1:(l++[a]).getD ((l++[a]).length -1) 0=a:=by simp [Uh]
  rw[h1] at h
  simp [Qa6,h]
section
variable{x:Int}{A Ak:Option Addr}{c nk ck:Nat}{kd:List TT}{F:List Int}
theorem QwZ(hx:x=1)(hv:kd.map TT.val=F.map kT)(hc: ∀t∈kd,Yi t)(h2:2≤F.length∧F.length≤256)(ht:F.getD (F.length -1) 0≠0):Yi (.mk x false A 0 c [] Ak nk ck kd):=by
 subst hx
 have hl:=Qa9 hv
 refine .node ⟨by omega,by omega⟩ ⟨by omega,by omega⟩ (fun k hk=> ?_) hc (fun k hk=> ?_)
 ·obtain⟨i,hi⟩:=List.mem_iff_getElem?.1 hk
  have h1:=(QdO hv hi).1
  rw[←TT.lev_val,h1]
  show(0:Int)<1
  omega
 ·rw[QyL] at hk
  have h1:=(QdO hv hk).1
  rw[hl] at h1
  rw[h1]
  intro h3
  exact ht (QfR h3)
theorem QxI(hx:x=1)(hv:kd.map TT.val=F.map kT)(h2:2≤F.length):(TT.mk x false A 0 c [] Ak nk ck kd).val=uT F:=by
 rw[TT.val_mk,hx,Qql h2,hv];rfl
end
theorem Qvc{F:List Int}{z:Int}(h:F.length≤1):uT (F.map (· *z))=kT (F.getD 0 0*z):=by
 match F,h with
 | [],_=>simp [uT]
 | [a],_=>rfl
theorem Qvd{F:List Int}{z:Int}{K:List TT}{nk ck:Nat}{Ak:Option Addr}{c:Nat}{A:Option Addr}{x:Int}(hx:x=1)(h:2≤F.length)(hK:K.map TT.val=(F.map (· *z)).map kT):(TT.mk x false A 0 c [] Ak nk ck K).val=uT (F.map (· *z)):=
 QxI hx hK (by rw[UY];exact h)
theorem Qml{F:List Int}{z:Int}(hz:z≠0)(hl:F.getD (F.length -1) 0≠0):(F.map (· *z)).getD ((F.map (· *z)).length -1) 0≠0:=by
 have hn:0<F.length:=by
  cases F with
  |nil=>exact absurd rfl hl
  |cons a l=>simp
 have h1:(F.map (· *z)).getD ((F.map (· *z)).length -1) 0=F.getD (F.length -1) 0*z:=by
  rw[UY,Uh,Uh,Un,Ud (by omega)];rfl
 rw[h1]
 exact UE hl hz
theorem QqF{x:Int}{g:Bool}{A Ak:Option Addr}{n c nk ck:Nat}{d:List Nat}{kd:List TT}{F:List Int}(h:Yi (.mk x g A n c d Ak nk ck kd))(hv:(TT.mk x g A n c d Ak nk ck kd).val=uT F)(h2:2≤F.length):F.getD (F.length -1) 0≠0:=by
 obtain⟨hx,_,hk⟩:=Qhp hv h2
 obtain⟨_,_,_,_,_,_,_,hz⟩:=h.node_inv (by omega)
 have hl:=Qa9 hk
 intro h0
 have h1:kd[kd.length -1]? =some (kd[kd.length -1]'(by omega)):=Ud _
 have h3:=hz _ (by rw[QyL];exact h1)
 have h4:=(QdO hk h1).1
 have h5:F.getD (kd.length -1) 0=0:=by rw[hl];exact h0
 exact h3 (h4.trans (by rw[h5];rfl))
def tF(F:List Int):List TM:=(UV F.length).map fun i:Nat=>⟨F.getD i 0,⟨(i:Int),0,0,0⟩⟩
theorem Qxp{F:List Int}(h:F.length≤2):QuN (tF F)=uT (Xi F):=by
 match F,h with
 | [],_=>exact(Qb2 (l:=[]) ⟨.nil,fun t ht=>by cases ht⟩ fun m=>rfl).symm
 | [a],_=>
  by_cases ha:a=0
  ·subst ha
   refine(Qb2 (l:=[]) ⟨.nil,fun t ht=>by cases ht⟩ fun m=> ?_).symm
   simp [tF,QbB]
  ·have e:Xi [a]=[a]:=YL (by simpa using ha)
   rw[e]
   refine(Qb2 (l:=[⟨a,⟨0,0,0,0⟩⟩]) ⟨by simp,fun t ht=>by rw[List.mem_singleton.1 ht];exact ha⟩ fun m=> ?_).symm.trans ?_
   ·simp [tF,QbB]
   ·rfl
 | [a,b],_=>
  by_cases hb:b=0
  ·subst hb
   by_cases ha:a=0
   ·subst ha
    refine(Qb2 (l:=[]) ⟨.nil,fun t ht=>by cases ht⟩ fun m=> ?_).symm.trans (by rw[show Xi [(0:Int),0]=[] by decide];rfl)
    simp [tF,QbB,WP]
   ·have e:Xi [a,0]=[a]:=by
     have h1:Xi ([a]++[0])=Xi [a]:=YV Qa6 [a] 0 rfl
     exact h1.trans (YL (by simpa using ha))
    rw[e]
    refine(Qb2 (l:=[⟨a,⟨0,0,0,0⟩⟩]) ⟨by simp,fun t ht=>by rw[List.mem_singleton.1 ht];exact ha⟩ fun m=> ?_).symm.trans ?_
    ·simp [tF,QbB,WP]
    ·rfl
  ·have e:Xi [a,b]=[a,b]:=YL (by simpa using hb)
   rw[e]
   by_cases ha:a=0
   ·subst ha
    refine(Qb2 (l:=[⟨b,⟨1,0,0,0⟩⟩]) ⟨by simp,fun t ht=>by rw[List.mem_singleton.1 ht];exact hb⟩ fun m=> ?_).symm.trans ?_
    ·simp [tF,QbB,WP]
    ·rfl
   ·refine(Qb2 (l:=[⟨b,⟨1,0,0,0⟩⟩,⟨a,⟨0,0,0,0⟩⟩]) ⟨by simp [M4.lt],fun t ht=>by simp at ht;rcases ht with rfl|rfl;exact hb;exact ha⟩ fun m=> ?_).symm.trans ?_
    ·simp only[tF,QbB,WP,List.range_zero,Um,Uv,WO,Uo,Wk,List.map_nil,Qye]
     simp [Int.add_comm]
    ·rfl
end Go.Gx
namespace Go.Gx
open Go.RowKit
theorem Qpm{K:List TT}{F:List Int}{i:Nat}{t:TT}{z:Int}(h:K.map TT.val=(F.take i).map kT)(hz:z=co F i)(e:t.val=kT z)(hi:i<F.length:=by rw[Za];omega):(K++[t]).map TT.val=(F.take (i+1)).map kT:=by
 have h1:F[i]? =some (co F i):=by simp [co,Uh,Ud hi]
 rw[Uo,h,Wy,h1,Uo]
 simp [e,hz]
theorem Qst{F:List Int}{i:Nat}(hi:i<F.length):co F i∈F:=by
 have e:co F i=F[i]:=by simp [co,Uh,Ud hi]
 rw[e];exact Wr hi
end Go.Gx
namespace Go.Gx
open Go.RowKit
theorem bd0{F:List Int}{z:Int}(h: ∀x∈F,(x*z).natAbs<9223372036854775808):(F.getD 0 0*z).natAbs<9223372036854775808:=by
 cases F with
 |nil=>simp
 |cons a l=>exact h a (Wu ..)
theorem Qdd{a b:TT}(ha:Yi a)(hb:Yi b): ∀t∈[a,b],Yi t:=fun t ht=>by
 simp only[WN,List.not_mem_nil,or_false] at ht
 rcases ht with rfl|rfl
 ·exact ha
 ·exact hb
theorem Qwg{K:List TT}{F:List Int}{i:Nat}{t:TT}{z a:Int}(h:K.map TT.val=((F.map (· *z)).take i).map kT)(hi:i<F.length)(ha:a=F.getD i 0)(e:t.val=kT (a*z)):(K++[t]).map TT.val=((F.map (· *z)).take (i+1)).map kT:=by
 refine Qpm h (z:=a*z) ?_ e (by rw[UY];exact hi)
 rw[ha,co,Uh,Uh,Un,Ud hi];rfl
theorem get_mem{F:List Int}{i:Nat}(hi:i<F.length):F.getD i 0∈F:=Qst hi
end Go.Gx
namespace Go.Gx
open Go.RowKit
theorem QwK(F:List Int):(tF F).length=F.length:=by simp [tF]
theorem Qu6{l:List TD}{F:List Int}{i:Nat}{x:TD}(h:tms l=(tF F).take i)(hi:i<F.length)(hc:Xx x.g x.d=F.getD i 0)(hm:x.m=⟨(i:Int),0,0,0⟩):tms (l++[x])=(tF F).take (i+1):=by
 have h1:(tF F)[i]? =some ⟨F.getD i 0,⟨(i:Int),0,0,0⟩⟩:=by simp [tF,hi]
 rw[QbD,h,Wy,h1]
 simp [tms,TD.t,hc,hm]
theorem QrZ{l:List TD}{F:List Int}{N:Nat}(h:tms l=tF F)(hF: ∀x∈F,x.natAbs≤N): ∀t∈l,val t.d≤N:=fun t ht=>by
 have h1:t.t∈tms l:=Qyk ht
 rw[h] at h1
 obtain⟨i,hi,e⟩:=List.mem_map.1 h1
 have h2:Xx t.g t.d=F.getD i 0:=(congrArg TM.c e).symm
 have h3:=XI t.g t.d
 rw[h2] at h3
 have h4:=hF _ (get_mem (List.mem_range.1 hi))
 omega
end Go.Gx
namespace Go.Gx
open Go.RowKit
theorem Qp4{D:List TT}{i:Nat}{t r:TT}(he:D[i]? =some t)(e:r.val=t.val):(D.set i r).map TT.val=D.map TT.val:=by
 apply WS
 intro j
 simp only[Un,WU]
 split
 ·rename_i h
  subst h
  split
  ·rw[he];simp [e]
  ·rename_i h2
   rw[Ul (by omega)]
 ·rfl
def drF(F:List Int):List Int:=(UV (F.length -1)).map fun i:Nat=>F.getD (i+1) 0*((i+1:Nat):Int)
theorem QgN(F:List Int):(drF F).length=F.length -1:=by simp [drF]
theorem QoX{F:List Int}{i:Nat}(hi:i+1<F.length):(drF F)[i]? =some (F.getD (i+1) 0*((i+1:Nat):Int)):=by
 rw[drF,Un,WT (by omega)];rfl
theorem Ql4{F:List Int}(h2:2≤F.length)(hl:F.getD (F.length -1) 0≠0):(drF F).getD ((drF F).length -1) 0≠0:=by
 rw[QgN,Uh,QoX (by omega)]
 show F.getD (F.length -1 -1+1) 0*_≠0
 rw[show F.length -1 -1+1=F.length -1 by omega]
 exact UE hl (by omega)
theorem QqX{K:List TT}{F:List Int}{i:Nat}{r:TT}{c:Int}(h:K.map TT.val=((drF F).take (i -1)).map kT)(hi:1≤i∧i<F.length)(hc:c=(i:Int))(e:r.val=kT (F.getD i 0*c)):(K++[r]).map TT.val=((drF F).take i).map kT:=by
 obtain⟨j,rfl⟩: ∃j,i=j+1:=⟨i -1,by omega⟩
 rw[Wn] at h
 rw[Uo,h,Wy,QoX (by omega),Uo]
 simp [e,hc]
section
variable{α:Type}{K l:List α}{i:Nat}{r t:α}
theorem QoT(hK:K.length=i -1)(hi:1≤i)(he:(K++l.drop (i -1))[i]? =some t):l[i]? =some t:=by
 rw[UD (by omega),UU] at he
 rw[←he];congr 1;omega
theorem QoU(hK:K.length=i -1)(hi:1≤i∧i≤l.length):(K++l.drop (i -1)).set (i -1) r=(K++[r])++l.drop i:=by
 obtain⟨j,rfl⟩: ∃j,i=j+1:=⟨i -1,by omega⟩
 rw[Wn] at hK⊢
 rw[US _ _ (by omega),hK,WD,Ws (i:=j) (by omega),WY]
 simp
theorem Qt7(hK:K.length=i -1)(hi:1≤i∧i≤l.length):(K++l.drop (i -1)).length=l.length:=by
 rw[UO,List.length_drop];omega
end
theorem YO.app{α:Type}{L:SK α}{w:World}{S:Nat→Prop}{a b:List α}(ha:YO L w S a)(hb:YO L w S b):YO L w S (a++b):=fun x hx=>by
 rcases List.mem_append.1 hx with h|h
 ·exact ha x h
 ·exact hb x h
theorem YO.dropN{α:Type}{L:SK α}{w:World}{S:Nat→Prop}{a:List α}(n:Nat)(ha:YO L w S a):YO L w S (a.drop n):=fun x hx=>ha x (Wl hx)
theorem Qoy{K l:List TT}{n:Nat}(hK: ∀t∈K,Yi t)(hl: ∀t∈l,Yi t): ∀t∈K++l.drop n,Yi t:=fun t ht=>by
 rcases List.mem_append.1 ht with h|h
 ·exact hK t h
 ·exact hl t (Wl h)
end Go.Gx
namespace Go.Gx
theorem QuI{F:List Int}(h:F.length=1):[kT (F.getD 0 0)]=F.map kT:=by
 match F,h with
 | [a],_=>rfl
end Go.Gx

namespace Go.Gx
open Go.RowKit
section
variable{dfs:List Deferred}{P:Program}{n:Nat}{e:Nat→Value}{w:World}{K:Act→World→Prop}{Q:Exit→Act→World→Prop}{ty:TypeId}{pos:String}{af:Array Edge}{gd:Option (Nat×Bool)}
theorem Qwt{α:Type}{L:SK α}{d:Option Nat}{x y:Operand}{t t' el bt:TypeId}{S:Nat→Prop}{A:Option Addr}{g m c:Nat}{l l0:List α}(ht:P.underlying t=some (.slice el))(hs: ∀w,(sizeOf el).run P w= .ok L.k w)
  (hx:ev n e x= .slice (some ⟨g,0,none⟩) m m)(hy:ev n e y= .slice A m c)(hr:Xu L w S A m c l)(hb:Blk w g bt (L.flat l0))(hl:l0.length=m)
  (k: ∀w',Frm (fun b=>b=g) w w'→w'.heap.size=w.heap.size→Blk w' g bt (L.flat l)→K ((mkA dfs n e).put d (.int .i64 (m:Int))) w'):
  OpW P ⟨d,.call {callee:= .builtin .copy,args:= #[x,y],argTypes:= #[t,t']},ty,pos,af,gd⟩ (mkA dfs n e) w K Q:=by
 have hcl:(L.flat l).length=m*L.k:=hr.1.1
 have hdl:(L.flat l0).length=m*L.k:=by rw[L.flat_len,hl]
 have hf:(Builtin.firstCells L.k m (.slice A m c)).run P w= .ok (L.flat l).toArray w:=by
  cases A with
  |none=>
   have h0:m=0:=by
    rcases Uk m with h|h
    ·exact h
    ·obtain⟨b,o,e,_⟩:=hr.1.2.2.2 h;cases e
   subst h0
   have h1:L.flat l=[]:=Ua (by omega)
   simp [Builtin.firstCells,h1]
  |some a=>
   have :=run_loadCells_list (P:=P) w a (L.flat l) (fun j v hj=>by
    have hpos:0<m:=by
     rcases Uk m with h|h
     ·subst h;have h1:L.flat l=[]:=Ua (by omega)
      rw[h1] at hj;cases hj
     ·exact h
    obtain⟨b,o,e,_,_,hc⟩:=hr.1.2.2.2 hpos
    injection e with e
    subst e
    rw[addr_add]
    exact hc j v hj)
   rw[hcl] at this
   simp [Builtin.firstCells,this]
 have hst:=run_storeCells_at P g 0 bt (L.flat l) 0 (L.flat l0).toArray w hb (by simp [hcl,hdl]) (L.flat_all l)
 have hrun:(Builtin.copy_ #[t,t'] ty #[.slice (some ⟨g,0,none⟩) m m,.slice A m c]).run P w= .ok (goInt m) (w.setRow g (L.flat l).toArray):=by
  rw[hcl] at hst
  simp only[WB,WJ,QyM,WO,Us (Qy4 hdl),Wg] at hst
  simp [Builtin.copy_,run_underlying ht,Builtin.lenOf,hs,hf,hst]
 unfold OpW Oper.wp
 rw[Yk]
 simp only[execOp,resolve,invoke,builtin,Sem.run_bind,Sem.run_pure,Result.andThen_ok,List.map_toArray,Wk,List.map_nil,hx,hy,hrun,Oper.upon]
 refine k _ ⟨rfl,rfl,rfl,by simp [World.setRow],Ug _,fun j _ hj=> ?_⟩ (by simp [World.setRow]) ?_
 ·simp only[World.setRow,Array.getElem?_modify]
  rw[if_neg fun h=>hj h.symm]
 ·exact setRow_heap w g (L.flat l0).toArray (L.flat l).toArray bt (0,0) hb
end
section
variable{P:Program}{n:Nat}{e:Nat→Value}{w:World}{ty:TypeId}{pos:String}{af:Array Edge}{gd:Option (Nat×Bool)}
theorem Qo3{d:Option Nat}{t el:TypeId}{x y y2:Operand}{A:Option Addr}{len cap size:Nat}{k k2:IntKind}{z z2:Int}(h m:Nat)(ht:P.underlying t=some (.slice el))(hs: ∀w,(sizeOf el).run P w= .ok size w)
  (hx:ev n e x= .slice A len cap)(hy:ev n e y= .int k z)(hy2:ev n e y2= .int k2 z2)(hz:z=(h:Int))(hz2:z2=(m:Int))(h1:h≤m)(h2:m≤cap):
  Ev P n e ⟨d,.slice t x none (some y) (some y2),ty,pos,af,gd⟩ w (.slice A h m):=by
 subst hz hz2
 cases A<;>simp [Ev,execOp,hx,hy,hy2,Instr.sliceAt,Instr.slice,Instr.sliceBounds,Instr.sliceBound,asIntOf,run_underlying ht,hs,h1,h2,Addr.add]
end
end Go.Gx
namespace Go.Gx
open Go.RowKit
section
variable{α:Type}{L:SK α}{w w':World}{S:Nat→Prop}{A:Option Addr}{n c g:Nat}{t:TypeId}{l:List α}
theorem Xu.clip(h:Xu L w S A n c l):Xu L w S A n n l:=⟨⟨h.1.1,Ug _,Wj h.1.2.1 h.1.2.2.1,h.1.2.2.2⟩,h.2⟩
theorem QeF.get{i k p:Nat}(hB:Blk w g t (L.flat l))(ha:YO L w S l)(hi:i<l.length)(hk:L.k=k)(hp:i*k=p): ∃f,l[i]? =some f∧XP w g p (L.cells f)∧L.R w S f:=by
 subst hk hp
 have hg:l[i]? =some l[i]:=Ud hi
 refine⟨l[i],hg,fun j v hj=> ?_,ha _ (Wr hi)⟩
 rw[addr_add]
 exact hB.at_ (L.flat_get hg hj)
end
end Go.Gx

namespace Go.Gx
theorem TreeR.low{w:World}{S:Nat→Prop}{t:TT}(h:TreeR w S t):TreeR w (fun b=>b<w.heap.size) t:=TreeR.sub h (fun _ hb _=>hb)
end Go.Gx
