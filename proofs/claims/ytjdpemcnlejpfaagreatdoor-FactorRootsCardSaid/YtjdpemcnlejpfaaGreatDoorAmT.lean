/-
  AmT
-/
import Derived.Test.YtjdpemcnlejpfaaGreatDoorAm
import Derived.Test.YtjdpemcnlejpfaaGreatDoorNatMath
set_option linter.all false
namespace Go.Am
open Go.RowKit Go.Gx
def exs{α:Type}(s:Sh)(p:α→Prop)(f:α→AV)(h: ∀x,(f x).sh=s):AV:=⟨s,fun w S v=> ∃x,p x∧(f x).rep w S v,fun⟨x,_,hx⟩=>h x▸ (f x).ok hx,fun k ⟨x,hp,hx⟩=>⟨x,hp,(f x).mono k hx⟩⟩
theorem exs_intro{α:Type}{s:Sh}{p:α→Prop}{f:α→AV}{h: ∀x,(f x).sh=s}(x:α)(hx:p x){a:AV}(ha:a.le (f x)):a.le (exs s p f h):=fun _ _ _ r=>⟨x,hx,ha _ _ _ r⟩
theorem exs_le{α:Type}{s:Sh}{p q:α→Prop}{f:α→AV}{h: ∀x,(f x).sh=s}(k: ∀x,p x→q x):(exs s p f h).le (exs s q f h):=fun _ _ _ ⟨x,hp,r⟩=>⟨x,k x hp,r⟩
theorem awOpen{P:Program}{n:Nat}{D:List Deferred}{C:Ctx}{c:Code}{Q:Exit→Act→World→Prop}{env:Nat→AV}{H:Hp}{α:Type}{s:Sh}{p:α→Prop}{f:α→AV}{h: ∀x,(f x).sh=s}(t:Nat)(he:env t=exs s p f h)(k: ∀x,p x→AW P n D C c Q (updA env t (f x)) H):AW P n D C c Q env H:=by
  unfold AW at k⊢
  exact aOpen f t (fun w S v hr=>by rw[he] at hr;exact hr) k
abbrev raw(ds:List Nat):AV:=sl 1 (ds.map U)
def num(M x:Nat):AV:=exs .one (fun ds:List Nat=>ds.length≤M∧(∀d∈ds,d<BS)∧val ds=x) raw fun _=>sl_sh
def cnum(M x:Nat):AV:=exs .one (fun ds:List Nat=>ds.length≤M∧(∀d∈ds,d<BS)∧val ds=x∧Canon isZ ds) raw fun _=>sl_sh
theorem le_num{M M' x:Nat}(h:M≤M'):(num M x).le (num M' x):=exs_le fun _ ⟨h1,h2⟩=>⟨Nat.le_trans h1 h,h2⟩
theorem le_cn{M M' x:Nat}(h:M≤M'):(cnum M x).le (num M' x):=exs_le fun _ ⟨h1,h2,h3,_⟩=>⟨Nat.le_trans h1 h,h2,h3⟩
theorem le_cc{M M' x:Nat}(h:M≤M'):(cnum M x).le (cnum M' x):=exs_le fun _ ⟨h1,h2⟩=>⟨Nat.le_trans h1 h,h2⟩
theorem le_cn0{M x:Nat}:(cnum M x).le (num M x):=le_cn (Nat.le_refl _)
theorem raw_num{M x:Nat}{ds:List Nat}(h1:ds.length≤M)(h2: ∀d∈ds,d<BS)(h3:val ds=x):(raw ds).le (num M x):=exs_intro ds ⟨h1,h2,h3⟩ (le_refl _)
theorem raw_cn{M x:Nat}{ds:List Nat}(h1:ds.length≤M)(h2: ∀d∈ds,d<BS)(h3:val ds=x)(h4:Canon isZ ds):(raw ds).le (cnum M x):=exs_intro ds ⟨h1,h2,h3,h4⟩ (le_refl _)
theorem nil_raw:nilS.le (raw []):=le_nil
theorem nil_num{M:Nat}:nilS.le (num M 0):=nil_raw.trans (raw_num (Nat.zero_le _) (by simp) rfl)
theorem nil_cn{M:Nat}:nilS.le (cnum M 0):=nil_raw.trans (raw_cn (Nat.zero_le _) (by simp) rfl (QcX _))
theorem opN{P:Program}{n:Nat}{D:List Deferred}{C:Ctx}{c:Code}{Q:Exit→Act→World→Prop}{env:Nat→AV}{H:Hp}{M x:Nat}(t:Nat)(he:env t=num M x)(k: ∀ds:List Nat,ds.length≤M→(∀d∈ds,d<BS)→val ds=x→AW P n D C c Q (updA env t (raw ds)) H):AW P n D C c Q env H:=awOpen t he fun ds ⟨h1,h2,h3⟩=>k ds h1 h2 h3
theorem opC{P:Program}{n:Nat}{D:List Deferred}{C:Ctx}{c:Code}{Q:Exit→Act→World→Prop}{env:Nat→AV}{H:Hp}{M x:Nat}(t:Nat)(he:env t=cnum M x)(k: ∀ds:List Nat,ds.length≤M→(∀d∈ds,d<BS)→val ds=x→Canon isZ ds→AW P n D C c Q (updA env t (raw ds)) H):AW P n D C c Q env H:=awOpen t he fun ds ⟨h1,h2,h3,h4⟩=>k ds h1 h2 h3 h4
section
variable{P:Program}{n:Nat}{D:List Deferred}{C:Ctx}{Q:Exit→Act→World→Prop}{env:Nat→AV}{H:Hp}{ops:Array Oper}{G:Nat→Nat→Prop}{done todo:List Nat}{l:List Oper}{α:Type}{s:Sh}{p:α→Prop}{f:α→AV}{h: ∀x,(f x).sh=s}
theorem adOpen(t:Nat)(he:env t=exs s p f h)(k: ∀x,p x→AD P n D C ops G done todo Q (updA env t (f x)) H):AD P n D C ops G done todo Q env H:=by
  unfold AD at k⊢
  exact aOpen f t (fun w S v hr=>by rw[he] at hr;exact hr) k
theorem alOpen(t:Nat)(he:env t=exs s p f h)(k: ∀x,p x→AL P n D C ops l Q (updA env t (f x)) H):AL P n D C ops l Q env H:=by
  unfold AL at k⊢
  exact aOpen f t (fun w S v hr=>by rw[he] at hr;exact hr) k
theorem axOpen{x:Exit}(t:Nat)(he:env t=exs s p f h)(k: ∀x',p x'→AX n D C Q x (updA env t (f x')) H):AX n D C Q x env H:=by
  unfold AX at k⊢
  exact aOpen f t (fun w S v hr=>by rw[he] at hr;exact hr) k
theorem axC{M x:Nat}{e:Exit}(t:Nat)(he:env t=cnum M x)(k: ∀ds:List Nat,ds.length≤M→(∀d∈ds,d<BS)→val ds=x→Canon isZ ds→AX n D C Q e (updA env t (raw ds)) H):AX n D C Q e env H:=axOpen t he fun ds ⟨h1,h2,h3,h4⟩=>k ds h1 h2 h3 h4
theorem adC{M x:Nat}(t:Nat)(he:env t=cnum M x)(k: ∀ds:List Nat,ds.length≤M→(∀d∈ds,d<BS)→val ds=x→Canon isZ ds→AD P n D C ops G done todo Q (updA env t (raw ds)) H):AD P n D C ops G done todo Q env H:=adOpen t he fun ds ⟨h1,h2,h3,h4⟩=>k ds h1 h2 h3 h4
theorem alC{M x:Nat}(t:Nat)(he:env t=cnum M x)(k: ∀ds:List Nat,ds.length≤M→(∀d∈ds,d<BS)→val ds=x→Canon isZ ds→AL P n D C ops l Q (updA env t (raw ds)) H):AL P n D C ops l Q env H:=alOpen t he fun ds ⟨h1,h2,h3,h4⟩=>k ds h1 h2 h3 h4
end
theorem cn_lt{M M' x:Nat}(h:x<BS^M'):(cnum M x).le (cnum M' x):=exs_le fun _ ⟨_,h2,h3,h4⟩=>⟨Qbm h4 (by rw[h3];exact h),h2,h3,h4⟩
theorem num_bd{M x:Nat}{w:World}{S:Nat→Prop}{v:Value}(h:(num M x).rep w S v):x<BS^M:=by
  obtain⟨ds,⟨h1,h2,h3⟩,_⟩:=h
  rw[←h3];exact Nat.lt_of_lt_of_le (Za ds h2) (Nat.pow_le_pow_right (by decide) h1)
theorem bdN{P:Program}{n:Nat}{D:List Deferred}{C:Ctx}{c:Code}{Q:Exit→Act→World→Prop}{env:Nat→AV}{H:Hp}{M x:Nat}(t:Nat)(he:env t=num M x)(k:x<BS^M→AW P n D C c Q env H):AW P n D C c Q env H:=by
  unfold AW at k⊢
  exact aGet t (fun w S v hr=>by rw[he] at hr;exact num_bd hr) k
theorem raw_nm{ds:List Nat}(h2: ∀d∈ds,d<BS):(raw ds).le (num ds.length (val ds)):=raw_num (Nat.le_refl _) h2 rfl
theorem leB{p q:Prop}[Decidable p][Decidable q](h:p↔q):(Bo (decide p)).le (Bo (decide q)):= .of_eq (congrArg Bo (decide_eq_decide.2 h))
theorem trf{ds:List Nat}{M x:Nat}(h1:ds.length≤M)(h2: ∀d∈ds,d<BS)(h3:val ds=x):(YK ds).length≤M∧(∀d∈YK ds,d<BS)∧val (YK ds)=x∧Canon isZ (YK ds):=
  ⟨Nat.le_trans (QaV _ _) h1,fun d hd=>h2 d (Qb7 _ _ hd),by rw[QhL];exact h3,Xs _ _⟩
theorem canon_zero{ds:List Nat}(h:Canon isZ ds):ds.length=0↔val ds=0:=by
  constructor
  · intro h0;rw[List.eq_nil_of_length_eq_zero h0];rfl
  · intro h0
    rcases Xw ds with e| ⟨k,x,e⟩
    · rw[e];rfl
    · subst e
      have h1:=Yp.1 h
      rw[val_append] at h0
      have :x≠0:=by simpa [isZ] using h1
      have hp:0<BS^k.length:=Nat.pow_pos (by decide)
      simp only[val,Nat.mul_zero,Nat.add_zero] at h0
      have :=Nat.mul_pos hp (Nat.pos_of_ne_zero this)
      omega
theorem ob_raw{t:TypeId}{ds es:List Nat}(h:ds=es):(Ob.arr t 1 (ds.map U)).le (.arr t 1 (es.map U)):=h▸ob_refl _
attribute [irreducible] num cnum
end Go.Am
