/-
  OpenU8, AmRow3
-/
import Derived.Test.YtjdpemcnlejpfaaGreatDoorOpen16
import Derived.Test.YtjdpemcnlejpfaaGreatDoorAmRow
set_option linter.all false
namespace Go.Gx
open Go.RowKit Go.ChangeShapes Go.WideShapes Go.Deep
def U8R(w:World)(S:Nat→Prop)(A:Option Addr)(n c:Nat)(xs:List Nat):Prop:=Rd w S A n c 1 (xs.map fun x:Nat=>Value.int .u8 (x:Int))∧ ∀x∈xs,x<256
section
variable{H:Type}{enc:TypeId×Value→H}{P:Program}{w:World}{base:Nat}{spare:Nat→Bool}{held:Bool}
theorem QCm{n:Int}(h:(Lit.int .u8 n).wf=true):0≤n∧n<256:=by
  have h1:IntKind.u8.min≤n∧n≤IntKind.u8.max:=by simpa [Lit.wf] using h
  have e1:IntKind.u8.min=0:=by decide
  have e2:IntKind.u8.max=255:=by decide
  omega
theorem QB8{t e:TypeId}{fuel:Nat}{A:Option Addr}{n c:Nat}{x:DataW H×List MemPlace}(ht:P.underlying t=some (.slice e))(he:P.underlying e=some (.int .u8))(hc:P.cellsOf e=1)
    (h:DataW.trod enc P w base spare held fuel t [.slice A n c]=some x): ∃xs,U8R w (fun _=>True) A n c xs:=by
  rcases open_ints ht he hc h with⟨hcs,_⟩| ⟨a,len,cap,zs,hcs,hb,hl,hm,hz,_,hcell,hwf⟩
  · simp at hcs
    obtain⟨rfl,rfl,rfl⟩:=hcs
    exact⟨[],Rd.nil,by simp⟩
  · simp at hcs
    obtain⟨rfl,rfl,rfl⟩:=hcs
    have hlen:n≤zs.length:=by rw[hz];split<;>omega
    have hw: ∀z∈zs.take n,0≤z∧z<256:=fun d hd=>QCm (hwf d (List.mem_of_mem_take hd))
    refine⟨(zs.take n).map Int.toNat,⟨⟨by simp;omega,hl,by simp [Qax,maxLen] at hm⊢;omega,fun h0=> ?_⟩,fun d hd=> ?_⟩⟩
    · have hc0:=hcell 0 (by omega)
      have hs:(a.add 0).spot=none:=World.cell?_spot hc0
      obtain⟨b,off,spot⟩:=a
      have hsp:spot=none:=by simpa [Addr.add] using hs
      subst hsp
      refine⟨b,off,rfl,trivial,?_,fun j u hj=> ?_⟩
      · have :=World.block_lt_of_cell? w _ hc0
        simpa [addr_add] using this
      · have hjl:j<n:=by
          rcases Nat.lt_or_ge j n with h1|h1
          · exact h1
          · rw[List.getElem?_eq_none (by simp;omega)] at hj;cases hj
        have h2:=hcell j (by omega)
        rw[addr_add] at h2
        rw[h2]
        have h3:=hw (zs[j]'(by omega)) (List.mem_take_iff_getElem.2 ⟨j,by omega,rfl⟩)
        simp only[List.getElem?_map,List.getElem?_take_of_lt hjl] at hj
        rw[List.getElem?_eq_getElem (by omega)] at hj
        simp at hj
        rw[←hj]
        simp [List.getD,List.getElem?_eq_getElem (show j<zs.length by omega)]
        omega
    · obtain⟨z,hz1,rfl⟩:=List.mem_map.1 hd
      have :=hw z hz1
      omega
end
end Go.Gx
namespace Go.Am
open Go.RowKit Go.Gx
theorem int_rep{w:World}{S:Nat→Prop}{A:Option Addr}{n c:Nat}{ds:List Nat}{g:Bool}(h:Qay w S A n c ds):(rx (g,ds)).rep w (· <w.heap.size) (.agg #[.bool g,.slice A n c]):=by
  have hr:=nat_rep h
  show(agg [Bo g,raw ds]).rep w _ _
  unfold agg
  exact⟨[.bool g,.slice A n c],rfl,⟨by unfold Bo lit;rfl,hr,trivial⟩,by intro c hc;simp at hc;rcases hc with rfl|rfl<;>rfl⟩
theorem u8s_rep{w:World}{S:Nat→Prop}{A:Option Addr}{n c:Nat}{xs:List Nat}(h:U8R w S A n c xs):(sl 1 (xs.map fun x:Nat=>I .u8 (x:Int))).rep w (· <w.heap.size) (.slice A n c):=by
  have e:(xs.map fun x:Nat=>I .u8 (x:Int))=(xs.map fun x:Nat=>Value.int .u8 (x:Int)).map lit:=by rw[List.map_map];exact List.map_congr_left fun x _=>by unfold I;rfl
  rw[e]
  refine rd_sl h.1 (fun v hv=> ?_) fun a ha=> ?_
  · obtain⟨x,_,rfl⟩:=List.mem_map.1 hv;rfl
  · obtain⟨v,hv,rfl⟩:=List.mem_map.1 ha
    obtain⟨x,_,rfl⟩:=List.mem_map.1 hv
    have e:=I_sh (k:= .u8) (x:=(x:Int))
    unfold I at e
    exact⟨by rw[e];rfl,by rw[e];simp⟩
end Go.Am
