/-
  AmQ
-/
import Derived.Test.YtjdpemcnlejpfaaGreatDoorAmI
import Derived.Test.YtjdpemcnlejpfaaGreatDoorDivMath2
set_option linter.all false
namespace Go.Am
open Go.RowKit Go.Gx
abbrev qt(M:Nat)(r:Rat):AV:=agg [Bo (decide (r.num<0)),cnum M r.num.natAbs,cnum M r.den]
def qv(M:Nat)(r:Rat):AV:=exs (.ag 3) (fun x:Bool×Nat×Nat=>x.2.2=0∧r=0∨x.2.2≠0∧((sg x.1 x.2.1:Int):Rat)=r*((x.2.2:Int):Rat)) (fun x=>agg [Bo x.1,num M x.2.1,num M x.2.2]) fun _=>agg_sh
theorem le_qtt{M M':Nat}{r:Rat}(h:M≤M'):(qt M r).le (qt M' r):=le_agg (.cons (le_refl _) (.cons (le_cc h) (.cons (le_cc h) .nil)))
theorem le_qt{M M':Nat}{r:Rat}(h:M≤M'):(qt M r).le (qv M' r):=exs_intro (decide (r.num<0),r.num.natAbs,r.den) (.inr ⟨r.den_nz,by rw[sg_self];exact QDe r⟩) (le_agg (.cons (le_refl _) (.cons (le_cn h) (.cons (le_cn h) .nil))))
theorem le_qvv{M M':Nat}{r:Rat}(h:M≤M'):(qv M r).le (qv M' r):=fun _ _ _ ⟨x,hp,r⟩=>⟨x,hp,le_agg (.cons (le_refl _) (.cons (le_num h) (.cons (le_num h) .nil))) _ _ _ r⟩
theorem le_qb{M1 M2 M:Nat}{n d:Int}{r:Rat}(hn:n=r.num)(hd:d=(r.den:Int))(h1:M1≤M)(h2:M2≤M):(agg [Bo (decide (n<0)),cnum M1 n.natAbs,cnum M2 d.natAbs]).le (qt M r):=by
  subst hn hd;rw[Int.natAbs_natCast]
  exact le_agg (.cons (le_refl _) (.cons (le_cc h1) (.cons (le_cc h2) .nil)))
theorem le_q0{M:Nat}:(agg [Bo false,nilS,nilS]).le (qv M 0):=exs_intro (false,0,0) (.inl ⟨rfl,rfl⟩) (le_agg (.cons (le_refl _) (.cons nil_num (.cons nil_num .nil))))
theorem qv_neg{b:Bool}{x y:Nat}{r:Rat}(h:y=0∧r=0∨y≠0∧((sg b x:Int):Rat)=r*((y:Int):Rat))(hy:y≠0):((sg b x:Int):Rat)=r*((y:Int):Rat):=(h.resolve_left fun h=>hy h.1).2
section
variable{P:Program}{n:Nat}{D:List Deferred}{C:Ctx}{Q:Exit→Act→World→Prop}{env:Nat→AV}{H:Hp}{ops:Array Oper}{G:Nat→Nat→Prop}{done todo:List Nat}{l:List Oper}{c:Code}
theorem opQ{M:Nat}{r:Rat}(t:Nat)(he:env t=qv M r)(k: ∀(b:Bool)(x y:Nat),(y=0∧r=0∨y≠0∧((sg b x:Int):Rat)=r*((y:Int):Rat))→AW P n D C c Q (updA env t (agg [Bo b,num M x,num M y])) H):AW P n D C c Q env H:=awOpen t he fun x hx=>k x.1 x.2.1 x.2.2 hx
end
attribute [irreducible] qv
end Go.Am
