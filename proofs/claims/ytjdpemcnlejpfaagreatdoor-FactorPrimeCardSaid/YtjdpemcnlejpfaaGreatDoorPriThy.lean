/-
  PriThy
-/
import Derived.Test.YtjdpemcnlejpfaaGreatDoorModTab
import Derived.Test.YtjdpemcnlejpfaaGreatDoorKnown2
set_option linter.all false
namespace Go.Gx
theorem QBi{S:Nat→Bool}: ∀{n:Nat},1≤QeU S n→ ∃q,q<n∧ZN q=true∧S q=true
  |0,h=>absurd h (by simp [QeU])
  |n+1,h=>by
    rw[QeU] at h
    by_cases hb:(ZN n&&S n)=true
    · rw[Bool.and_eq_true] at hb
      exact⟨n,by omega,hb⟩
    · rw[if_neg hb] at h
      obtain⟨q,h1,h2⟩:=QBi h
      exact⟨q,by omega,h2⟩
theorem QAP{F:List Int}{p:Nat}(hp:Xk p)(h1:(Xa F).length=1)(hl: ¬(p:Int)∣ldP F):Qbx p F:=by
  have hp0:0<p:=by have :=hp.1;omega
  have hmd:=Qqt hp0 hl
  have hg:Int.gcd (ldP F) (p:Int)=1:=by
    have :=QaZ (N:=1) hp hmd
    rwa [Nat.pow_one] at this
  obtain⟨v,k,hv⟩:=Qvh hg
  refine Qj1 hp hl ⟨[v],[],[k],fun x=> ?_⟩
  have e:evI F x=ldP F:=by
    rw[←QaD]
    obtain⟨a,ha⟩: ∃a,Xa F=[a]:=by
      match Xa F,h1 with
      | [a],_=>exact⟨a,rfl⟩
    have hd:=(Zj (d:=0) h1).1
    have :co F 0=a:=by rw[←Xo,ha];rfl
    rw[ha,←hd,this];simp [evI]
  simp only[Xd,Xc,Xj,evI,e,Int.mul_zero,Int.add_zero,Int.zero_mul]
  omega
theorem QBm{F:List Int}(hs:Qem (P F) (der (P F)))(hl:(Xa F).length≤10)(ha: ∀i,(co F i).natAbs≤2^100): ∃q,Xk q∧q<4096∧Qbx q F:=by
  have key:5≤QeU (fun p=>decide (Qbx p F)) 4096:=by
    rcases Nat.lt_or_ge (Xa F).length 2 with h|h
    · have h1:(Xa F).length=1:=by
        rcases Qo3.1 hs with h1|h1
        · exact h1
        · omega
      have hld:=(Zj (d:=0) h1).1
      have hl0:ldP F≠0:=(Xz F).2 (QaA (by omega))
      have hle:(ldP F).natAbs≤2^100:=by rw[←hld];exact ha 0
      refine QpI (E:=(ldP F).natAbs) (by decide) (by decide) (by omega) (fun q hq _ hS=> ?_) ?_
      · have : ¬Qbx q F:=of_decide_eq_false hS
        exact Classical.byContradiction fun hnd=>this (QAP hq h1 fun hd=>hnd (by have h9:=Int.natAbs_dvd_natAbs.2 hd;rwa [Int.natAbs_natCast] at h9))
      · refine Nat.lt_of_le_of_lt (Nat.mul_le_mul_right _ hle) (Nat.lt_of_le_of_lt ?_ Qtv)
        decide+kernel
    · exact Qu5 h hl hs fun i=>Nat.le_trans (ha i) (by decide+kernel)
  obtain⟨q,h1,h2,h3⟩:=QBi (n:=4096) (S:=fun p=>decide (Qbx p F)) (by omega)
  exact⟨q,(ZZ h1).1 h2,h1,of_decide_eq_true h3⟩
end Go.Gx
