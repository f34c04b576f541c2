/-
  AmQ
-/
import Derived.Test.YtjdpemcnlejpfaaGreatDoorAmI
import Derived.Test.YtjdpemcnlejpfaaGreatDoorDivMath2
set_option linter.all false
namespace Go.Am
open Go.RowKit Go.Gx
abbrev qt(M:Nat)(r:Rat):AV:=agg [Bo (decide (r.num<0)),cnum M r.num.natAbs,cnum M r.den]
def qv(M:Nat)(r:Rat):AV:=exs (.ag 3) (fun x:Bool×Nat×Nat=>x.2.2=0∧r=0∨x.2.2≠0∧((sg x.1 x.2.1:Int):Rat)=r*((x.2.2:Int):Rat)) (fun x=>agg [Bo x.1,num M x.2.1,num M x.2.2]) fun _=>agg_sh
theorem le_qtt{M M':Nat}{r:Rat}(h:M≤M'):(qt M r).le (qt M' r):=le_agg (.cons (le_refl _) (.cons (le_cc h) (.cons (le_cc h) .nil)))
theorem le_qt{M M':Nat}{r:Rat}(h:M≤M'):(qt M r).le (qv M' r):=exs_intro (decide (r.num<0),r.num.natAbs,r.den) (.inr ⟨r.den_nz,by rw[sg_self];exact QDe r⟩) (le_agg (.cons (le_refl _) (.cons (le_cn h) (.cons (le_cn h) .nil))))
theorem le_qvv{M M':Nat}{r:Rat}(h:M≤M'):(qv M r).le (qv M' r):=fun _ _ _ ⟨x,hp,r⟩=>⟨x,hp,le_agg (.cons (le_refl _) (.cons (le_num h) (.cons (le_num h) .nil))) _ _ _ r⟩
theorem le_q0{M:Nat}:(agg [Bo false,nilS,nilS]).le (qv M 0):=exs_intro (false,0,0) (.inl ⟨rfl,rfl⟩) (le_agg (.cons (le_refl _) (.cons nil_num (.cons nil_num .nil))))
section
variable{P:Program}{n:Nat}{D:List Deferred}{C:Ctx}{Q:Exit→Act→World→Prop}{env:Nat→AV}{H:Hp}{ops:Array Oper}{G:Nat→Nat→Prop}{done todo:List Nat}{l:List Oper}{c:Code}
end
attribute [irreducible] qv
end Go.Am
