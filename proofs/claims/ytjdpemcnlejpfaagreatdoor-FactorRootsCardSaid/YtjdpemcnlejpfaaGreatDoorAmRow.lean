/-
  AmRow
-/
import Derived.Test.YtjdpemcnlejpfaaGreatDoorAm
import Derived.Test.YtjdpemcnlejpfaaGreatDoorOpen16
import Derived.Test.YtjdpemcnlejpfaaGreatDoorModTab
set_option linter.all false
namespace Go.Am
open Go.RowKit Go.Gx
theorem am_row{P:Program}{f:FuncId}{args:List AV}{Φ:(Hp→List AV→Prop)→Prop}{w:World}{vs:List Value}(h:AC P f [] args Φ)(hr:reps w (· <w.heap.size) args vs)(ht:gT.rep w (· <w.heap.size) undef)(k:Φ fun H l=>H=[]∧l=[Bo true]):
    Calls P f vs.toArray w (Ret fun v w'=> ∃g:Bool,v= .bool g∧Ext w w'∧g=true):=by
  unfold AC at h
  refine Ret.mono (h _ w (· <w.heap.size) vs (fun _ h=>h) ⟨fun _ h=>(List.not_mem_nil h).elim,fun _ h=>(List.not_mem_nil h).elim,List.Pairwise.nil⟩ hr ht k) ?_
  rintro v w' ⟨H,r,S',us,⟨rfl,rfl⟩,rfl,hu,hf,_⟩
  match us,hu with
  | [u],hu=>
    have e:u= .bool true:=by have h1:=hu.1;unfold Bo lit at h1;exact h1
    subst e
    exact⟨true,rfl,hf.mono fun b _ ⟨x,hx,_⟩=>(List.not_mem_nil hx).elim,rfl⟩
theorem lay_lits{w:World}{S:Nat→Prop}: ∀{vs:List Value},(∀v∈vs,v.cells.toList=[v])→lay w S (vs.map lit) vs
  | [],_=>rfl
  |v::vs,h=>⟨v,vs,by unfold lit;rfl,by rw[h v (by simp)];rfl,lay_lits fun u hu=>h u (by simp [hu])⟩
theorem cell_block{w:World}{b k:Nat}{v:Value}(h:w.cell? ⟨b,k,none⟩=some v): ∃cs t f,w.heap[b]? =some (.cells cs t f)∧ ∀j,w.cell? ⟨b,j,none⟩=cs[j]? :=by
  unfold World.cell? at h⊢
  cases hb:w.heap[b]? with
  |none=>simp [hb] at h
  |some B=>
    cases B with
    |cells cs t f=>exact⟨cs,t,f,rfl,fun j=>by show(match w.heap[b]? with |some (Obj.cells c _ _)=>if(none:Option Nat).isSome=true then none else c[j]? |_=>none)=_;rw[hb];rfl⟩
    |_=>simp [hb] at h
theorem rd_sl{w:World}{S:Nat→Prop}{A:Option Addr}{n c:Nat}{vs:List Value}(h:Rd w S A n c 1 vs)(h1: ∀v∈vs,v.cells.toList=[v])(he:els 1 (vs.map lit)):(sl 1 (vs.map lit)).rep w (· <w.heap.size) (.slice A n c):=by
  obtain⟨hl,hn,hc,hA⟩:=h
  rw[Nat.mul_one] at hl
  subst hl
  suffices goal: ∃A' c',Value.slice A vs.length c= .slice A' (vs.map lit).length c'∧(vs.map lit).length≤c'∧c'≤maxC∧els 1 (vs.map lit)∧(vs.map lit≠ []→ ∃b o cs t f,A'=some ⟨b,o,none⟩∧b<w.heap.size∧w.heap[b]? =some (.cells cs t f)∧lay w (· <w.heap.size) (vs.map lit) ((cs.toList.drop o).take ((vs.map lit).length*1))) from by unfold sl;exact goal
  refine⟨A,c,by rw[List.length_map],by rw[List.length_map];exact hn,by simpa [Qax,maxLen,maxC] using hc,he,fun hne=> ?_⟩
  have hpos:0<vs.length:=by
    cases vs with
    |nil=>exact absurd rfl hne
    |cons v vs=>simp
  obtain⟨b,o,rfl,_,hb,hcell⟩:=hA hpos
  obtain⟨cs,t,f,hB,hj⟩:=cell_block (hcell 0 _ (List.getElem?_eq_getElem hpos))
  refine⟨b,o,cs,t,f,rfl,hb,hB,?_⟩
  have e:(cs.toList.drop o).take ((vs.map lit).length*1)=vs:=by
    rw[List.length_map,Nat.mul_one]
    apply List.ext_getElem?
    intro j
    rcases Nat.lt_or_ge j vs.length with h|h
    · rw[List.getElem?_take_of_lt h,List.getElem?_drop,Array.getElem?_toList,←hj,List.getElem?_eq_getElem h]
      exact hcell j _ (List.getElem?_eq_getElem h)
    · rw[List.getElem?_eq_none (by rw[List.length_take];omega),List.getElem?_eq_none h]
  rw[e]
  exact lay_lits h1
theorem tab_rep{w:World}(h:Qi4 w):gT.rep w (· <w.heap.size) undef:=by
  obtain⟨_,_,_,hA⟩:=h
  obtain⟨b,o,e,h0,hb,hcell⟩:=hA (by decide)
  cases e
  have h32:(QyY.map u8v).length=32:=rfl
  obtain⟨cs,t,f,hB,hj⟩:=cell_block (hcell 0 _ (List.getElem?_eq_getElem (by rw[h32];decide)))
  refine⟨hb,cs,t,f,hB,?_⟩
  have e2:((deBr:List Nat).map fun x:Nat=>Value.int .u8 (x:Int))=QyY.map u8v:=rfl
  rw[e2]
  apply List.ext_getElem?
  intro j
  rcases Nat.lt_or_ge j 32 with h|h
  · rw[List.getElem?_take_of_lt h,Array.getElem?_toList,←hj,List.getElem?_eq_getElem (by rw[h32];exact h)]
    have :=hcell j _ (List.getElem?_eq_getElem (by rw[h32];exact h))
    rwa [Nat.zero_add] at this
  · rw[List.getElem?_eq_none (by rw[List.length_take];omega),List.getElem?_eq_none (by rw[h32];exact h)]
end Go.Am
