/-
  AmRow2
-/
import Derived.Test.YtjdpemcnlejpfaaGreatDoorAmRow
import Derived.Test.YtjdpemcnlejpfaaGreatDoorAmI
import Derived.Test.YtjdpemcnlejpfaaGreatDoorNatMath
set_option linter.all false
namespace Go.Am
open Go.RowKit Go.Gx
theorem nat_rep{w:World}{S:Nat→Prop}{A:Option Addr}{n c:Nat}{ds:List Nat}(h:Qay w S A n c ds):(raw ds).rep w (· <w.heap.size) (.slice A n c):=by
  have e:ds.map U=(ds.map u32).map lit:=by rw[List.map_map];exact List.map_congr_left fun x _=>by unfold U I u32;rfl
  unfold raw
  rw[e]
  refine rd_sl h.1 (fun v hv=> ?_) fun a ha=> ?_
  · obtain⟨x,_,rfl⟩:=List.mem_map.1 hv;rfl
  · obtain⟨v,hv,rfl⟩:=List.mem_map.1 ha
    obtain⟨x,_,rfl⟩:=List.mem_map.1 hv
    have e:=I_sh (k:= .u32) (x:=(x:Int))
    unfold I at e
    unfold u32
    exact⟨by rw[e];rfl,by rw[e];simp⟩
def rawD(l:List RI):List RawI:=l.map fun r=>(r.neg,r.d)
theorem lay_rx{w:World}{S:Nat→Prop}{M:Nat}: ∀{l:List RI},Qbt w S M l→lay w (· <w.heap.size) ((rawD l).map rx) (ZT l)
  | [],_=>rfl
  |r::l,h=>by
    have hr:=nat_rep (h r (by simp)).1
    refine⟨.agg #[.bool r.neg,.slice r.A r.n r.c],ZT l,?_,rfl,lay_rx fun x hx=>h x (by simp [hx])⟩
    show(agg [Bo r.neg,raw r.d]).rep w _ _
    unfold agg
    exact⟨[.bool r.neg,.slice r.A r.n r.c],rfl,⟨by unfold Bo lit;rfl,hr,trivial⟩,by intro c hc;simp at hc;rcases hc with rfl|rfl<;>rfl⟩
theorem rx_el{x:RawI}:(rx x).el 2:=elB_el (by kernel_rfl)
theorem poly_rep{w:World}{S:Nat→Prop}{A:Option Addr}{n c M:Nat}{l:List RI}(h:Yk w S A n c l M):(rwp (rawD l)).rep w (· <w.heap.size) (.slice A n c):=by
  obtain⟨⟨hl,hn,hc,hA⟩,hN⟩:=h
  rw[Qcc] at hl
  obtain rfl:n=l.length:=by omega
  have hlen:((rawD l).map rx).length=l.length:=by simp [rawD]
  suffices goal: ∃A' c',Value.slice A l.length c= .slice A' ((rawD l).map rx).length c'∧((rawD l).map rx).length≤c'∧c'≤maxC∧els 2 ((rawD l).map rx)∧((rawD l).map rx≠ []→ ∃b o cs t f,A'=some ⟨b,o,none⟩∧b<w.heap.size∧w.heap[b]? =some (.cells cs t f)∧lay w (· <w.heap.size) ((rawD l).map rx) ((cs.toList.drop o).take (((rawD l).map rx).length*2))) from by unfold rwp sl;exact goal
  refine⟨A,c,by rw[hlen],by rw[hlen];exact hn,by simpa [Qax,maxLen,maxC] using hc,els_map (fun _=>rx_el) _,fun hne=> ?_⟩
  have hpos:0<l.length:=by
    cases l with
    |nil=>exact absurd rfl hne
    |cons v vs=>simp
  obtain⟨b,o,rfl,_,hb,hcell⟩:=hA hpos
  have hcl:=Qcc l
  obtain⟨cs,t,f,hB,hj⟩:=cell_block (hcell 0 _ (List.getElem?_eq_getElem (by omega)))
  refine⟨b,o,cs,t,f,rfl,hb,hB,?_⟩
  have e:(cs.toList.drop o).take (((rawD l).map rx).length*2)=ZT l:=by
    rw[hlen]
    apply List.ext_getElem?
    intro j
    rcases Nat.lt_or_ge j (ZT l).length with h|h
    · rw[List.getElem?_take_of_lt (by omega),List.getElem?_drop,Array.getElem?_toList,←hj,List.getElem?_eq_getElem h]
      exact hcell j _ (List.getElem?_eq_getElem h)
    · rw[List.getElem?_eq_none (by rw[List.length_take];omega),List.getElem?_eq_none h]
  rw[e]
  exact lay_rx hN
theorem poly_dig{w:World}{S:Nat→Prop}{A:Option Addr}{n c M:Nat}{l:List RI}(h:Yk w S A n c l M): ∀x∈rawD l,∀d∈x.2,d<BS:=fun x hx d hd=>by
  obtain⟨r,hr,rfl⟩:=List.mem_map.1 hx
  exact(h.2 r hr).1.2 d hd
end Go.Am
