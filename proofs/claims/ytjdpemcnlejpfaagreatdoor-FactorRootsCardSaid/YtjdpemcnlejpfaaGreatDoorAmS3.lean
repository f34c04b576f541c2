/-
  AmS3
-/
import Derived.Test.YtjdpemcnlejpfaaGreatDoorAmS2
import Derived.Test.YtjdpemcnlejpfaaGreatDoorDivMath2
set_option linter.all false
namespace Go.Gx
open Go.Sort Go.Shelf Go.Proofs
theorem QFb:SWO (ltOf cmQ) where
  irrefl:=fun x=>by unfold ltOf;rw[decide_eq_false (mt QD5.1 Rat.lt_irrefl)]
  trans:=fun x y z h1 h2=>by
    unfold ltOf at h1 h2⊢
    simp only[decide_eq_true_eq,QD5] at h1 h2⊢
    grind
  ntrans:=fun x y z h1 h2=>by
    unfold ltOf at h1 h2⊢
    simp only[decide_eq_false_iff_not,QD5] at h1 h2⊢
    grind
end Go.Gx
