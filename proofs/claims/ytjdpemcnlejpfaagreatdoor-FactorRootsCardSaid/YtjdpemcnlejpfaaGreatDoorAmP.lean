/-
  AmP
-/
import Derived.Test.YtjdpemcnlejpfaaGreatDoorNatMath
set_option linter.all false
namespace Go.Gx
theorem QfT{α:Type}{P:List α}{x0 s:α}{m m' k:Nat}(hk:P.length=k)(hm:m=m'+1):(P++List.replicate m x0).set k s=(P++[s])++List.replicate m' x0:=by
  subst hk hm;rw[List.set_append_right _ _ (Nat.le_refl _),Nat.sub_self,List.replicate_succ];simp
theorem Qdq{α β:Type}{l:List α}{k:Nat}{x0:α}{f:α→β}(hk:k<l.length):(l.take k).map f++[f (l.getD k x0)]=(l.take (k+1)).map f:=by
  rw[List.take_succ_eq_append_getElem hk,List.map_append];simp only[List.getD,List.getElem?_eq_getElem hk,Option.getD_some,List.map_cons,List.map_nil]
theorem QdW{β:Type}{k:Nat}{F:Nat→β}:(List.range k).map F++[F k]=(List.range (k+1)).map F:=by rw[List.range_succ];simp
def QmQ(s:Int)(f g:List Int):List Int:=(List.range (max f.length g.length)).map fun i=>f.getD i 0+s*g.getD i 0
theorem QpN(f g:List Int):QmQ 1 f g=Xx f g:=by unfold QmQ Xx;refine List.map_congr_left fun i _=> ?_;rw[Int.one_mul]
theorem QpO(f g:List Int):QmQ (-1) f g=XD f g:=by unfold QmQ XD;refine List.map_congr_left fun i _=> ?_;show _+ -1*_=_;rw[Int.neg_mul,Int.one_mul];rfl
theorem QoN(f:List Int):Xf f 1=f:=by simp [Xf]
theorem QiO(f:List Int)(c:Int):(Xf f c).length=f.length:=by simp [Xf]
end Go.Gx
