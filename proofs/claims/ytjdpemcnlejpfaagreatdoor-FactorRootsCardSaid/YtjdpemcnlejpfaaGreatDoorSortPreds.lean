/-
  SortPreds
-/
import Derived.Test.YtjdpemcnlejpfaaGreatDoorSepMath
import Derived.Test.YtjdpemcnlejpfaaGreatDoorGcdMath
import Derived.Shelf.SlSortCmp.NoneTotal
set_option linter.all false
namespace Go.Gx
open Go.RowKit Go.Sort Go.Proofs Go.Shelf
theorem Qks{w w':World}(h:Ext w w'): ∃q os,w'=grow (w.drewN q) os:=by
  refine⟨w'.drawn -w.drawn,w'.heap.extract w.heap.size w'.heap.size,?_⟩
  have hd:=h.drawn
  have hh:w'.heap=w.heap++w'.heap.extract w.heap.size w'.heap.size:=by
    apply Array.ext
    · have :=h.size;simp;omega
    · intro i h1 h2
      rw[Array.getElem_append]
      split
      · rename_i hi
        have :=h.block i hi (fun f=>f)
        rw[Array.getElem?_eq_getElem h1,Array.getElem?_eq_getElem hi] at this
        injection this
      · simp
        congr 1
        omega
  obtain⟨hp,tp,dr,os,out⟩:=w'
  obtain⟨hp0,tp0,dr0,os0,out0⟩:=w
  have e1:=h.os
  have e2:=h.tape
  have e3:=h.output
  dsimp only at *
  subst e1 e2 e3
  unfold grow World.drewN
  dsimp only
  rw[←hh,show dr0+(dr -dr0)=dr by omega]
section
variable{α:Type}[Inhabited α]{enc:α→Value}{w:World}{blk:Nat}{el:TypeId}{cs:List Value}
theorem QeG(d:Array α)(n:Nat)(os:Array Obj):Frm (fun b=>b=blk) w (sortWorld enc w blk 0 n d os):=by
  refine⟨rfl,rfl,rfl,by simp [sortWorld,grow],by simp [sortWorld,grow,Sort.ahead,putRow,mapBlock],fun k hk hne=> ?_⟩
  unfold sortWorld
  have h1:(grow (putRow enc (Sort.ahead w n) blk 0 d) os).heap[k]? =(putRow enc (Sort.ahead w n) blk 0 d).heap[k]? :=by
    unfold grow
    dsimp only
    rw[Array.getElem?_append_left (by simpa [Sort.ahead] using hk)]
  rw[h1]
  have hne': ¬blk=k:=fun e=>hne e.symm
  simp [putRow,mapBlock,Sort.ahead,Array.getElem?_modify,hne']
theorem Qlc(d:Array α)(n:Nat)(os:Array Obj)(h:Blk w blk el cs):Blk (sortWorld enc w blk 0 n d os) blk el (putCells enc 0 d cs.toArray).toList:=by
  have hlt:=h.lt
  unfold Blk at h⊢
  unfold sortWorld grow
  dsimp only
  rw[Array.getElem?_append_left (by simpa [Sort.ahead] using hlt)]
  simp [putRow,mapBlock,Sort.ahead,Array.getElem?_modify,h,onCells]
theorem Qdk(d:Array α)(ps sp:List Value)(h:ps.length=d.size):(putCells enc 0 d (ps++sp).toArray).toList=d.toList.map enc++sp:=by
  apply List.ext_getElem
  · simp [putCells];omega
  · intro i h1 h2
    simp only[putCells,Array.toList_mapIdx,List.getElem_mapIdx]
    by_cases hi:i<d.size
    · rw[if_pos ⟨Nat.zero_le _,by omega⟩,List.getElem_append_left (by simpa using hi)]
      simp [hi]
    · rw[if_neg (by omega)]
      have h3:(d.toList.map enc).length≤i:=by rw[List.length_map,Array.length_toList];omega
      rw[List.getElem_append_right h3]
      refine(List.getElem_append_right (show ps.length≤i by omega)).trans ?_
      have h4:(d.toList.map enc).length=ps.length:=by rw[List.length_map,Array.length_toList,h]
      congr 1
      show i -ps.length=i -(d.toList.map enc).length
      rw[h4]
theorem Qii(d:Array α)(ps sp:List Value)(h:Blk w blk el (d.toList.map enc++sp)):Holds enc w blk 0 d:=fun j hj=>by
  have hb:=h
  unfold Blk at hb
  refine⟨?_,by unfold World.frozen?;dsimp only;rw[hb];rfl⟩
  rw[Nat.zero_add]
  refine h.at_ ?_
  rw[List.getElem?_append_left (by rw[List.length_map,Array.length_toList];exact hj),List.getElem?_map,Array.getElem?_toList,Array.getElem?_eq_getElem hj,getElem!_pos d j hj]
  rfl
end
theorem QhB{α:Type}(f:α→List Int):SWO (ltOf fun x y:α=>Qbv (f x) (f y)) where
  irrefl x:=by simp [ltOf,QbL]
  trans x y z h1 h2:=by simp only[ltOf,decide_eq_true_eq] at *;exact Qf7 h1 h2
  ntrans x y z h1 h2:=by
    simp only[ltOf,decide_eq_false_iff_not] at *
    intro h3
    have a1:=Qbe (f x) (f y)
    have a2:=Qbe (f y) (f z)
    by_cases e1:Qbv (f x) (f y)=0
    · rw[Qag.1 e1] at h3;exact h2 h3
    · by_cases e2:Qbv (f y) (f z)=0
      · rw[←Qag.1 e2] at h3;exact h1 h3
      · have t:=Qf7 (f:=f z) (g:=f y) (h:=f x) (by omega) (by omega)
        have a3:=Qbe (f z) (f x)
        omega
end Go.Gx
