/-
  ModTab
-/
import Derived.Test.YtjdpemcnlejpfaaGreatDoorModGcd
import Derived.Test.YtjdpemcnlejpfaaGreatDoorModWalk
set_option linter.all false
namespace Go.Gx
open Go.RowKit
def u8v(x:Nat):Value:= .int .u8 (x:Int)
def Qi4(w:World):Prop:=Rd w (fun b=>b=0) (some ⟨0,0,none⟩) 32 32 1 (QyY.map u8v)
section
variable{w w':World}{G:Nat→Prop}
theorem Qi4.frmB(h:Qi4 w)(f:Frm G w w')(hd: ∀b,b<w.heap.size→b=0→ ¬G b):Qi4 w':=Rd.frmB h f hd
theorem Qi4.t(h:Qi4 w)(f:Frm G w w':=by exact zrd)(hd: ∀b,b<w.heap.size→b=0→ ¬G b:=by exact zq6):Qi4 w':=h.frmB f hd
theorem Qi4.ext(h:Qi4 w)(f:Ext w w'):Qi4 w':=Rd.ext h f
theorem Qi4.lt0(h:Qi4 w):0<w.heap.size:=by
  obtain⟨b,off,_,hb,hl,_⟩:=h.2.2.2 (by omega)
  omega
theorem Qi4.cell{i x:Nat}(h:Qi4 w)(hi:QyY[i]? =some x):w.cell? ⟨0,i,none⟩=some (.int .u8 (x:Int)):=by
  have h1:=Rd.cell h (j:=i) (v:=u8v x) (by simp [hi])
  rw[Nat.zero_add] at h1
  exact h1
end
section
variable{P:Program}{n:Nat}{e:Nat→Value}{w:World}{ty:TypeId}{pos:String}{af:Array Edge}{gd:Option (Nat×Bool)}
end
end Go.Gx
