/-
  RT
-/
import Derived.Test.YtjdpemcnlejpfaaGreatDoorModTab
import Derived.Test.YtjdpemcnlejpfaaGreatDoorRows
import Derived.ProofKit
import Derived.OpenShut
import Derived.LaidMore
import Derived.Stop.Joined
set_option linter.all false
namespace Go.Proofs.YtjdpemcnlejpfaaGreatDoor
open Go.ChangeShapes Go.WideShapes Go.ChangeAt Go.RowKit Go.Gx
theorem Qj3{W:World}(h:laidMetH Tryz.prog [("math/bits.deBruijn32tab",Rows.laid_math_bits_deBruijn32tab)] W):Qi4 W:=by
  rw[MakeChecks.laidMetH_plain _ _ _ (by kernel_rfl)] at h
  obtain⟨ps,⟨g,t,cs,fuel,p,q,hg,ht,hv,hd,_,_⟩,_,_⟩:=h
  obtain rfl:=Option.some.inj ((show Tryz.prog.globalNamed "math/bits.deBruijn32tab" =some 0 by kernel_rfl).symm.trans hg)
  obtain rfl:=Option.some.inj ((show(Tryz.prog.globals[0]?).map (·.type)=some 196 by kernel_rfl).symm.trans ht)
  obtain⟨xs,m,_,ex,_,hl,hel⟩:=DataW.trod_array Tryz.underlying196 hd
  have c5:Tryz.prog.cellsOf 5=1:=by kernel_rfl
  have hlen:QyY.length=32:=rfl
  have e3:(xs.map (·.1))=QyY.map fun n=> .lit (.int .u8 ((n:Nat):Int)):=(DataW.agg.inj (Prod.mk.inj ex).1).symm
  have key: ∀r,r<32→W.cell? ⟨0,r,none⟩=some (u8v (QyY.getD r 0)):=by
    intro r hr
    have hE:=hel r hr
    rw[c5,Nat.mul_one,List.getElem?_eq_getElem (by omega)] at hE
    obtain⟨z,e1,e2,_⟩:=DataW.trod_int Tryz.underlying5 hE
    have e4:(xs.map (·.1))[r]? =(QyY.map fun n=>(DataW.lit (.int .u8 ((n:Nat):Int)):DataW _))[r]? :=by rw[e3]
    rw[List.getElem?_map,List.getElem?_map,List.getElem?_eq_getElem (by omega:r<xs.length),List.getElem?_eq_getElem (by omega:r<QyY.length),Option.map_some,Option.map_some,e2] at e4
    have hz:z=((QyY.getD r 0:Nat):Int):=by
      have h5:=Option.some.inj e4
      rw[List.getD,List.getElem?_eq_getElem (by omega:r<QyY.length)]
      simpa using h5
    have hc:=World.var?_cell hg hv r
    have h6:cs.toList[r]? =some (.int .u8 z):=by
      have h7:=congrArg (fun l=>l[0]?) e1
      simpa [List.getElem?_take,List.getElem?_drop] using h7
    rw[hc,←Array.getElem?_toList,h6,hz]
    rfl
  refine⟨rfl,Nat.le_refl _,by decide,fun _=>⟨0,0,rfl,rfl,?_,fun j v hj=> ?_⟩⟩
  · have h0:=key 0 (by omega)
    rcases Nat.lt_or_ge 0 W.heap.size with h1|h1
    · exact h1
    · unfold World.cell? at h0
      rw[Array.getElem?_eq_none h1] at h0
      cases h0
  · have hj':j<32:=by
      have :=(List.getElem?_eq_some_iff.1 hj).1
      rw[List.length_map,hlen] at this
      exact this
    rw[Nat.zero_add,key j hj']
    rw[List.getElem?_map,List.getElem?_eq_getElem (by omega:j<QyY.length)] at hj
    rw[List.getD,List.getElem?_eq_getElem (by omega:j<QyY.length)]
    exact hj
end Go.Proofs.YtjdpemcnlejpfaaGreatDoor
