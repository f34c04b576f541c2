/-
  AmRow4
-/
import Derived.Test.YtjdpemcnlejpfaaGreatDoorAmRow2
import Derived.Test.YtjdpemcnlejpfaaGreatDoorModTab
set_option linter.all false
namespace Go.Am
open Go.RowKit Go.Gx
abbrev i8p(x:Int×Int):AV:=agg [I .i8 x.1,I .i8 x.2]
theorem i8p_el{x:Int×Int}:(i8p x).el 2:=elB_el (by kernel_rfl)
theorem lay_i8p{w:World}{S:Nat→Prop}: ∀{l:List (Int×Int)},lay w S (l.map i8p) (QDW l)
  | []=>rfl
  |r::l=>by
    refine⟨.agg #[.int .i8 r.1,.int .i8 r.2],QDW l,?_,rfl,lay_i8p⟩
    show(agg [I .i8 r.1,I .i8 r.2]).rep w _ _
    unfold agg
    exact⟨[.int .i8 r.1,.int .i8 r.2],rfl,⟨by unfold I lit;rfl,by unfold I lit;rfl,trivial⟩,by intro c hc;simp at hc;rcases hc with rfl|rfl<;>rfl⟩
theorem pairs_rep{w:World}{S:Nat→Prop}{A:Option Addr}{n c:Nat}{l:List (Int×Int)}(h:QEZ w S A n c l):(sl 2 (l.map i8p)).rep w (· <w.heap.size) (.slice A n c):=by
  obtain⟨⟨hl,hn,hc,hA⟩,_⟩:=h
  rw[QDY] at hl
  obtain rfl:n=l.length:=by omega
  have hlen:(l.map i8p).length=l.length:=by simp
  suffices goal: ∃A' c',Value.slice A l.length c= .slice A' (l.map i8p).length c'∧(l.map i8p).length≤c'∧c'≤maxC∧els 2 (l.map i8p)∧(l.map i8p≠ []→ ∃b o cs t f,A'=some ⟨b,o,none⟩∧b<w.heap.size∧w.heap[b]? =some (.cells cs t f)∧lay w (· <w.heap.size) (l.map i8p) ((cs.toList.drop o).take ((l.map i8p).length*2))) from by unfold sl;exact goal
  refine⟨A,c,by rw[hlen],by rw[hlen];exact hn,by simpa [Qax,maxLen,maxC] using hc,els_map (fun _=>i8p_el) _,fun hne=> ?_⟩
  have hpos:0<l.length:=by
    cases l with
    |nil=>exact absurd rfl hne
    |cons v vs=>simp
  obtain⟨b,o,rfl,_,hb,hcell⟩:=hA hpos
  have hcl:=QDY l
  obtain⟨cs,t,f,hB,hj⟩:=cell_block (hcell 0 _ (List.getElem?_eq_getElem (by omega)))
  refine⟨b,o,cs,t,f,rfl,hb,hB,?_⟩
  have e:(cs.toList.drop o).take ((l.map i8p).length*2)=QDW l:=by
    rw[hlen]
    apply List.ext_getElem?
    intro j
    rcases Nat.lt_or_ge j (QDW l).length with h|h
    · rw[List.getElem?_take_of_lt (by omega),List.getElem?_drop,Array.getElem?_toList,←hj,List.getElem?_eq_getElem h]
      exact hcell j _ (List.getElem?_eq_getElem h)
    · rw[List.getElem?_eq_none (by rw[List.length_take];omega),List.getElem?_eq_none h]
  rw[e]
  exact lay_i8p
end Go.Am
