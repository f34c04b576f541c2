/-
  The laws of the walks and the plain laws of numbers and polynomials, part 4: SortPreds.
-/
import Derived.Test.YtnkfdkhjaklolaaGreatDoorLibC
import Derived.Shelf.SlSortCmp.NoneTotal
open Array renaming getElem?_eq_getElem→QyJ,getElem?_modify→WG,length_toList→WR
open List renaming length_map→UY
namespace Go.Gx
open Go.RowKit Go.Sort Go.Proofs Go.Shelf
theorem Qq5{w w':World}(h:Ext w w'): ∃q os,w'=grow (w.drewN q) os:=by
 refine⟨w'.drawn -w.drawn,w'.heap.extract w.heap.size w'.heap.size,?_⟩
 have hd:=h.drawn
 have hh:w'.heap=w.heap++w'.heap.extract w.heap.size w'.heap.size:=by
  apply Array.ext
  ·have :=h.size;simp;omega
  ·intro i h1 h2
   rw[Array.getElem_append]
   split
   ·rename_i hi
    have :=h.block i hi (fun f=>f)
    rw[QyJ h1,QyJ hi] at this
    injection this
   ·simp
    congr 1
    omega
 obtain⟨hp,tp,dr,os,out⟩:=w'
 obtain⟨hp0,tp0,dr0,os0,out0⟩:=w
 have e1:=h.os
 have e2:=h.tape
 have e3:=h.output
 dsimp only at *
 subst e1 e2 e3
 unfold grow World.drewN
 dsimp only
 rw[←hh,show dr0+(dr -dr0)=dr by omega]
section
variable{α:Type}[Inhabited α]{enc:α→Value}{w:World}{blk:Nat}{el:TypeId}{cs:List Value}
theorem QrW(d:Array α)(n:Nat)(os:Array Obj):Frm (fun b=>b=blk) w (sortWorld enc w blk 0 n d os):=by
 refine⟨rfl,rfl,rfl,by simp [sortWorld,grow],by simp [sortWorld,grow,Sort.ahead,putRow,mapBlock],fun k hk hne=> ?_⟩
 unfold sortWorld
 have h1:(grow (putRow enc (Sort.ahead w n) blk 0 d) os).heap[k]? =(putRow enc (Sort.ahead w n) blk 0 d).heap[k]? :=by
  unfold grow
  dsimp only
  rw[Array.getElem?_append_left (by simpa [Sort.ahead] using hk)]
 rw[h1]
 have hne': ¬blk=k:=fun e=>hne e.symm
 simp [putRow,mapBlock,Sort.ahead,WG,hne']
theorem QrV(d:Array α)(n:Nat)(os:Array Obj)(h:Blk w blk el cs):Blk (sortWorld enc w blk 0 n d os) blk el (putCells enc 0 d cs.toArray).toList:=by
 have hlt:=h.lt
 unfold Blk at h⊢
 unfold sortWorld grow
 dsimp only
 rw[Array.getElem?_append_left (by simpa [Sort.ahead] using hlt)]
 simp [putRow,mapBlock,Sort.ahead,WG,h,onCells]
theorem Qi5(d:Array α)(ps sp:List Value)(h:ps.length=d.size):(putCells enc 0 d (ps++sp).toArray).toList=d.toList.map enc++sp:=by
 apply List.ext_getElem
 ·simp [putCells];omega
 ·intro i h1 h2
  simp only[putCells,Array.toList_mapIdx,List.getElem_mapIdx]
  by_cases hi:i<d.size
  ·rw[if_pos ⟨Nat.zero_le _,by omega⟩,List.getElem_append_left (by simpa using hi)]
   simp [hi]
  ·rw[if_neg (by omega)]
   have h3:(d.toList.map enc).length≤i:=by rw[UY,WR];omega
   rw[List.getElem_append_right h3]
   refine(List.getElem_append_right (show ps.length≤i by omega)).trans ?_
   have h4:(d.toList.map enc).length=ps.length:=by rw[UY,WR,h]
   congr 1
   show i -ps.length=i -(d.toList.map enc).length
   rw[h4]
theorem Qpe(d:Array α)(ps sp:List Value)(h:Blk w blk el (d.toList.map enc++sp)):Holds enc w blk 0 d:=fun j hj=>by
 have hb:=h
 unfold Blk at hb
 refine⟨?_,by unfold World.frozen?;dsimp only;rw[hb];rfl⟩
 rw[Nat.zero_add]
 refine h.at_ ?_
 rw[List.getElem?_append_left (by rw[UY,WR];exact hj),List.getElem?_map,Array.getElem?_toList,QyJ hj,getElem!_pos d j hj]
 rfl
end
def QwY(w:World)(blk M:Nat)(f:PE):Prop:=Xh w (fun b=>b≠blk) f.A f.n f.c f.l M∧f.n≤11
end Go.Gx
