/-
  ModIrr
-/
import Derived.Test.YtjdpemcnlejpfaaGreatDoorAscThy
import Derived.Test.YtjdpemcnlejpfaaGreatDoorKnown2
import Derived.Test.YtjdpemcnlejpfaaGreatDoorLiftThy6
set_option linter.all false
namespace Go.Gx
def QBj(p:Nat)(f:List Nat):Prop:= ∀k,1≤k→k≤(f.length -1)/2→Cop (p:Int) (XD (cj p [0,1] k) [0,1]) (zl f)
theorem QzD{p:Nat}(hp:Xk p){f:List Nat}{F X Y:List Int}(hc:CgV (p:Int) (zl f) F)(hn:QBj p f)(e:P F=P X*P Y)(hl:md p (ldP X)≠0)(h2:2≤(Xa X).length)(hd:(Xa X).length -1≤(f.length -1)/2):False:=by
  have hp2:=hp.1
  have h0:ldP X≠0:=fun h=>hl (by rw[h];rfl)
  have hg1:Int.gcd (ldP X) (p:Int)=1:=by
    have :=QaZ (N:=1) hp hl
    rwa [Nat.pow_one] at this
  obtain⟨M,d,hM,hMl,hMc⟩:=Qgp hg1 h0
  obtain⟨g,hg,hgc⟩:=Qvz hp2 hM
  have hgl:g.length -1=d:=QnW hp2 hg.mz hM hgc
  have hgN:=hg.monN (by have :=hg.pos;omega)
  obtain⟨H,hH,hw,hHd⟩:=ZE hp g.length g (Nat.le_refl _) hgN
  have hHl:=Qa1 hp2 hH.mz hg.mz hHd
  have hpos:=hH.pos
  have hfix:=(Qi1 hp hH hw).dvs
  have hcop:=hn (H.length -1) (by omega) (by omega)
  have hXY:=Qe8 e
  have hHF:Dv (p:Int) (zl H) (zl f):=by
    obtain⟨w,a,hw1⟩:=hHd
    obtain⟨b,hb⟩:=hgc
    obtain⟨c,hc1⟩:=hMc
    obtain⟨k,hk⟩:=hc
    refine⟨Xf (Xg w Y) (ldP X),Xx (XD (Xf (Xg (XD a b) Y) (ldP X)) (Xg c Y)) k,fun x=> ?_⟩
    have h1:=hw1 x;have h3:=hb x;have h4:=hc1 x;have h5:=hk x;have h6:=hXY x
    simp only[Xd,Xh,Xc,Xm] at *
    grind
  obtain⟨u,v,k,hk⟩:=hcop
  obtain⟨a,s,ha⟩:=hfix
  obtain⟨b,t,hb⟩:=hHF
  refine YJ hp2 hH ⟨Xx (Xg u a) (Xg v b),XD (Xx (Xg u s) (Xg v t)) k,fun x=> ?_⟩
  have h1:=hk x;have h3:=ha x;have h4:=hb x
  simp only[Xd,Xh,Xc] at *
  grind
theorem QBk{p:Nat}(hp:Xk p){F:List Int}(hl:md p (ldP F)≠0)(h2:2≤(XR p F).length)(hn:QBj p (XR p F)):Irr (P F):=by
  have hp0:0<p:=by have :=hp.1;omega
  have⟨hlen,_⟩:=QkB hp0 hl
  have hF:P F≠0:=QaA (by omega)
  apply Classical.byContradiction
  intro hni
  obtain⟨A,B,hA,hB,e⟩:=Qtn hF (by omega) hni
  have hld:=QcH e
  rw[hld] at hl
  have⟨lA,lB⟩:=Qbn hp0 hl
  have hd:=Zd (QaA (F:=A) (by omega)) (QaA (F:=B) (by omega))
  rw[←e,Yj,Yj,Yj] at hd
  have hc:=YW hp0 F
  rcases Nat.lt_or_ge (((XR p F).length -1)/2) ((Xa A).length -1) with h|h
  · exact QzD hp hc hn (e.trans (XT _ _)) lB hB (by omega)
  · exact QzD hp hc hn e lA hA h
theorem QAk{F G:List Int}(hF:2≤(Xa F).length)(hG:2≤(Xa G).length): ¬Irr (P (Xa (Xg F G))):=fun h=>by
  have e:P (Xa (Xg F G))=P F*P G:=by rw[Yf,Zb]
  rcases h.2 _ _ e with h1|h1
  · rw[Yj] at h1;omega
  · rw[Yj] at h1;omega
theorem QAF{p k:Nat}(hp:Xk p){f w w2 u:List Nat}(hf:XE p f)(hpos:0<f.length)(hw:EqF p (zl f) (zl w) (cj p [0,1] k))(h2:EqF p (zl f) (zl w2) (Yx (zl w) p))(hu0:XE p u)(hu:CgV (p:Int) (zl u) (XD (zl w2) [0,1]))(hg:(XN p u f).length≤1):
    EqF p (zl f) (zl w2) (cj p [0,1] (k+1))∧Cop (p:Int) (XD (cj p [0,1] (k+1)) [0,1]) (zl f):=by
  have h3:EqF p (zl f) (zl w2) (cj p [0,1] (k+1)):=h2.trans (hw.pow p)
  exact⟨h3,QmY (ZC hp hu0 hf (by omega) hg) ((EqF.cg hu).trans (h3.sub (EqF.refl _)))⟩
end Go.Gx
