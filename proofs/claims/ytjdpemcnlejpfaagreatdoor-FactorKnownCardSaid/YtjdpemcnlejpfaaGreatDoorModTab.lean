/-
  ModTab, UniThy, UniThy2
-/
import Derived.Test.YtjdpemcnlejpfaaGreatDoorPrimeTab
import Derived.Test.YtjdpemcnlejpfaaGreatDoorModWalk
import Derived.Test.YtjdpemcnlejpfaaGreatDoorAscThy
set_option linter.all false
namespace Go.Gx
open Go.RowKit
def u8v(x:Nat):Value:= .int .u8 (x:Int)
def Qi4(w:World):Prop:=Rd w (fun b=>b=0) (some ⟨0,0,none⟩) 32 32 1 (QyY.map u8v)
section
variable{w w':World}{G:Nat→Prop}
theorem Qi4.frmB(h:Qi4 w)(f:Frm G w w')(hd: ∀b,b<w.heap.size→b=0→ ¬G b):Qi4 w':=Rd.frmB h f hd
theorem Qi4.t(h:Qi4 w)(f:Frm G w w':=by exact zrd)(hd: ∀b,b<w.heap.size→b=0→ ¬G b:=by exact zq6):Qi4 w':=h.frmB f hd
theorem Qi4.ext(h:Qi4 w)(f:Ext w w'):Qi4 w':=Rd.ext h f
theorem Qi4.lt0(h:Qi4 w):0<w.heap.size:=by
  obtain⟨b,off,_,hb,hl,_⟩:=h.2.2.2 (by omega)
  omega
theorem Qi4.cell{i x:Nat}(h:Qi4 w)(hi:QyY[i]? =some x):w.cell? ⟨0,i,none⟩=some (.int .u8 (x:Int)):=by
  have h1:=Rd.cell h (j:=i) (v:=u8v x) (by simp [hi])
  rw[Nat.zero_add] at h1
  exact h1
end
section
variable{P:Program}{n:Nat}{e:Nat→Value}{w:World}{ty:TypeId}{pos:String}{af:Array Edge}{gd:Option (Nat×Bool)}
end
end Go.Gx
namespace Go.Gx
theorem QqR{F b:List Int}{u:Int}(e:P F=K (u:Rat)*P b)(hb:Nrm b)(hu:u≠0):Yc F=u:=by
  have e1:P F=P (Xf b u):=by rw[e,YF]
  have h1:=Qcd e1
  rw[Qbz,hb.c,Nat.mul_one] at h1
  have h2:=Qcg e1
  rw[Qda] at h2
  have h3:=hb.s
  unfold Yc
  rw[h1]
  by_cases hs:ldP F<0
  · rw[if_pos hs]
    have :u<0:=by
      apply Classical.byContradiction
      intro hx
      have :=Int.mul_nonneg (show 0≤u by omega) (show 0≤ldP b by omega)
      omega
    omega
  · rw[if_neg hs]
    have :0<u:=by
      apply Classical.byContradiction
      intro hx
      have h5:u*ldP b<0:=Int.mul_neg_of_neg_of_pos (by omega) h3
      omega
    omega
theorem Qbb.pw{F:List Int}{fs:List (List Int×Nat)}(h:Qbb F fs):fs.Pairwise fun u v=>Xa u.1≠Xa v.1:=
  List.Pairwise.imp_of_mem (fun {a b} ha hb hab=>by rw[(h.n a ha).t,(h.n b hb).t];exact hab) h.diff
theorem Qbb.le{F:List Int}{fs:List (List Int×Nat)}(h:Qbb F fs): ∀x∈fs,x.2+1≤(Xa F).length∧x.1.length≤(Xa F).length∧2≤x.1.length:=fun x hx=>by
  have h1:=QfZ (h.irr x hx) h.ne
  have hv:=h.v x hx
  have hk:=h.k1 x hx
  have h2:=Qaj ((XM (h.irr x hx) h.ne).2 (by omega)) h.ne
  rw[Yj] at h1
  rw[Yj,Yj,(h.n x hx).t] at h2
  exact⟨by omega,h2,Qjy (h.n x hx) (h.irr x hx)⟩
end Go.Gx
namespace Go.Gx
theorem QkZ: ∀{l:List (List Int×Nat)},(∀x∈l,Nrm x.1∧Irr (P x.1)∧1≤x.2)→l.length+1≤dg (ZO l)
  | [],_=>by
    have :(1:QP)≠0:=QkP
    have :=XF.1 this
    show 0+1≤dg (1:QP);omega
  |x::l,h=>by
    have ih:=QkZ fun y hy=>h y (List.mem_cons_of_mem x hy)
    have⟨hn,hi,hk⟩:=h x (by simp)
    obtain⟨b,hb,e⟩:=QbZ fun y hy=>(h y (List.mem_cons_of_mem x hy)).1
    have hb0:ZO l≠0:=by rw[←e];exact hb.ne
    have hp0:P x.1^x.2≠0:=ZP hn.ne _
    have h1:=Zd hp0 hb0
    have h2:dg (P x.1)≤dg (P x.1^x.2):=Qaj ((XM hi hp0).2 (by rw[QgC hi hn.ne,QdP hi hi (XL _)];omega)) hp0
    have h3:=hi.1
    show(x::l).length+1≤dg (P x.1^x.2*ZO l)
    simp only[List.length_cons]
    omega
theorem Qbb.len{F:List Int}{fs:List (List Int×Nat)}(h:Qbb F fs):fs.length+1≤(Xa F).length:=by
  have h1:=QkZ fun x hx=>⟨h.n x hx,h.irr x hx,h.k1 x hx⟩
  rw[h.prod,Yj,QaS,Yz] at h1
  exact h1
theorem Qbb.whole{F X:List Int}{fs:List (List Int×Nat)}(h:Qbb F fs)(e:P X=K (Yc F:Rat)*ZO fs):Xa X=Xa F:=QfO (by rw[e,h.prod];exact(QbJ F).symm)
end Go.Gx
