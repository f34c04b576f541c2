/-
  SqPreds
-/
import Derived.Test.YtjdpemcnlejpfaaGreatDoorGcdMath
import Derived.Test.YtjdpemcnlejpfaaGreatDoorDivMath2
set_option linter.all false
namespace Go.Gx
open Go.RowKit
def QfK(w:World)(S:Nat→Prop)(A:Option Addr)(n c:Nat)(xs:List Int):Prop:=Rd w S A n c 1 (xs.map (Value.int .i16))∧ ∀x∈xs,-32768≤x∧x≤32767
section
variable{w w':World}{S S' G:Nat→Prop}{A:Option Addr}{n c:Nat}{xs:List Int}
theorem QfK.frmB(h:QfK w S A n c xs)(f:Frm G w w')(hd: ∀b,b<w.heap.size→S b→ ¬G b):QfK w' S A n c xs:=⟨h.1.frmB f hd,h.2⟩
theorem QfK.t(h:QfK w S A n c xs)(f:Frm G w w':=by exact zrd)(hd: ∀b,b<w.heap.size→S b→ ¬G b:=by exact zq6):QfK w' S A n c xs:=h.frmB f hd
theorem QfK.ext(h:QfK w S A n c xs)(f:Ext w w'):QfK w' S A n c xs:=⟨h.1.ext f,h.2⟩
theorem QfK.low(h:QfK w S A n c xs):QfK w (· <w.heap.size) A n c xs:=⟨h.1.low,h.2⟩
theorem QfK.len(h:QfK w S A n c xs):xs.length=n:=by have :=h.1.1;simpa using this
theorem QfK.base(h:QfK w S A n c xs)(hn:0<n): ∃b off,A=some ⟨b,off,none⟩:=h.1.base hn
theorem QfK.cell{b off:Nat}(h:QfK w S (some ⟨b,off,none⟩) n c xs){i:Nat}(hi:i<n):w.cell? ⟨b,off+i,none⟩=some (.int .i16 (xs.getD i 0)):=by
  refine h.1.cell ?_
  have hl:i<xs.length:=by rw[h.len];exact hi
  simp [List.getElem?_map,List.getElem?_eq_getElem hl]
end
end Go.Gx
