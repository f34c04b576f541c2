/-
  Open16
-/
import Derived.Test.YtjdpemcnlejpfaaGreatDoorOpen
import Derived.Test.YtjdpemcnlejpfaaGreatDoorSqPreds
import Derived.OpenShut
set_option linter.all false
namespace Go.Gx
open Go.RowKit Go.ChangeShapes Go.WideShapes Go.Deep
section
variable{H:Type}{enc:TypeId×Value→H}{P:Program}{w:World}{base:Nat}{spare:Nat→Bool}{held:Bool}
theorem Qve{n:Int}(h:(Lit.int .i16 n).wf=true): -32768≤n∧n≤32767:=by
  have h1:IntKind.i16.min≤n∧n≤IntKind.i16.max:=by simpa [Lit.wf] using h
  have e1:IntKind.i16.min= -32768:=by decide
  have e2:IntKind.i16.max=32767:=by decide
  omega
theorem QqG{t e:TypeId}{fuel:Nat}{v:Value}{x:DataW H×List MemPlace}(ht:P.underlying t=some (.slice e))(he:P.underlying e=some (.int .i16))(hc:P.cellsOf e=1)
    (h:DataW.trod enc P w base spare held fuel t [v]=some x): ∃A n c xs,v= .slice A n c∧QfK w (fun _=>True) A n c xs:=by
  rcases open_ints ht he hc h with⟨hcs,_⟩| ⟨a,len,cap,zs,hcs,hb,hl,hm,hz,_,hcell,hwf⟩
  · simp at hcs;subst hcs;exact⟨none,0,0,[],rfl,Rd.nil,by simp⟩
  · simp at hcs
    subst hcs
    have hlen:len≤zs.length:=by rw[hz];split<;>omega
    refine⟨some a,len,cap,zs.take len,rfl,⟨⟨by simp;omega,hl,by simp [Qax,maxLen] at hm⊢;omega,fun h0=> ?_⟩,fun d hd=>Qve (hwf d (List.mem_of_mem_take hd))⟩⟩
    have hc0:=hcell 0 (by omega)
    have hs:(a.add 0).spot=none:=World.cell?_spot hc0
    obtain⟨b,off,spot⟩:=a
    have hsp:spot=none:=by simpa [Addr.add] using hs
    subst hsp
    refine⟨b,off,rfl,trivial,?_,fun j u hj=> ?_⟩
    · have :=World.block_lt_of_cell? w _ hc0
      simpa [addr_add] using this
    · have hjl:j<len:=by
        rcases Nat.lt_or_ge j len with h1|h1
        · exact h1
        · rw[List.getElem?_eq_none (by simp;omega)] at hj;cases hj
      have h2:=hcell j (by omega)
      rw[addr_add] at h2
      rw[h2]
      simp only[List.getElem?_map,List.getElem?_take_of_lt hjl] at hj
      rw[List.getElem?_eq_getElem (by omega)] at hj
      simp at hj
      rw[←hj]
      simp [List.getD,List.getElem?_eq_getElem (show j<zs.length by omega)]
theorem QBc{t:TypeId}{fuel:Nat}{n:Int}{x:DataW H×List MemPlace}(ht:P.underlying t=some (.int .i16))(h:DataW.trod enc P w base spare held fuel t [.int .i16 n]=some x): -32768≤n∧n≤32767:=by
  obtain⟨m,e,_,hw⟩:=DataW.trod_int ht h
  simp at e
  subst e
  exact Qve hw
theorem Quh{t:TypeId}{fuel:Nat}{n:Int}{x:DataW H×List MemPlace}(ht:P.underlying t=some (.int .u8))(h:DataW.trod enc P w base spare held fuel t [.int .u8 n]=some x): ∃y:Nat,n=(y:Int)∧y<256:=by
  obtain⟨m,e,_,hw⟩:=DataW.trod_int ht h
  simp at e
  subst e
  have h1:IntKind.u8.min≤n∧n≤IntKind.u8.max:=by simpa [Lit.wf] using hw
  have e1:IntKind.u8.min=0:=by decide
  have e2:IntKind.u8.max=255:=by decide
  exact⟨n.toNat,by omega,by omega⟩
end
end Go.Gx
