/-
  AmI
-/
import Derived.Test.YtjdpemcnlejpfaaGreatDoorAmT
import Derived.Test.YtjdpemcnlejpfaaGreatDoorNatMath
set_option linter.all false
namespace Go.Am
open Go.RowKit Go.Gx
def sg(b:Bool)(x:Nat):Int:=if b then -(x:Int) else x
theorem sg_abs(b:Bool)(x:Nat):(sg b x).natAbs=x:=by cases b<;>simp [sg]
theorem sg_self(z:Int):sg (decide (z<0)) z.natAbs=z:=by unfold sg;by_cases h:z<0<;>simp [h]<;>omega
theorem sg_not(b:Bool)(x:Nat):sg (!b) x= -sg b x:=by cases b<;>simp [sg]
theorem sg_neg{b:Bool}{x:Nat}:decide (sg b x<0)=(b&&decide (0<x)):=by
  cases b
  · have : ¬((x:Int)<0):=by omega
    simp [sg]
  · have :(-(x:Int)<0)↔0<x:=by omega
    simp [sg]
theorem sg_mul(b b':Bool)(x y:Nat):sg b x*sg b' y=sg (b !=b') (x*y):=by cases b<;>cases b'<;>simp [sg,Int.neg_mul,Int.mul_neg]
theorem sg_tdiv(b b':Bool)(x y:Nat):(sg b x).tdiv (sg b' y)=sg (b !=b') (x/y):=by cases b<;>cases b'<;>simp [sg,Int.neg_tdiv,Int.tdiv_neg,Int.ofNat_tdiv]
theorem sg_tmod(b b':Bool)(x y:Nat):(sg b x).tmod (sg b' y)=sg b (x % y):=by cases b<;>cases b'<;>simp [sg,Int.neg_tmod,Int.tmod_neg]<;>exact Int.tmod_eq_emod_of_nonneg (by omega)
theorem sg_zero(b:Bool)(x:Nat):sg b x=0↔x=0:=by cases b<;>simp [sg]<;>omega
theorem sg_t(x:Nat):sg true x= -(x:Int):=rfl
theorem sg_f(x:Nat):sg false x=(x:Int):=rfl
abbrev it(M:Nat)(z:Int):AV:=agg [Bo (decide (z<0)),cnum M z.natAbs]
abbrev itl(M:Nat)(z:Int):List AV:=[Bo (decide (z<0)),cnum M z.natAbs]
def iv(M:Nat)(z:Int):AV:=exs (.ag 2) (fun x:Bool×Nat=>sg x.1 x.2=z) (fun x=>agg [Bo x.1,num M x.2]) fun _=>agg_sh
theorem it_el{M:Nat}{z:Int}:(it M z).el 2:=elB_el (by kernel_rfl)
theorem iv_el{M:Nat}{z:Int}:(iv M z).el 2:=elB_el (by kernel_rfl)
theorem le_itt{M M':Nat}{z:Int}(h:M≤M'):(it M z).le (it M' z):=le_agg (.cons (le_refl _) (.cons (le_cc h) .nil))
theorem le_it{M M':Nat}{z:Int}(h:M≤M'):(it M z).le (iv M' z):=exs_intro (decide (z<0),z.natAbs) (sg_self z) (le_agg (.cons (le_refl _) (.cons (le_cn h) .nil)))
theorem le_sv{M M':Nat}{b:Bool}{x:Nat}{z:Int}(h:M≤M')(hz:sg b x=z):(agg [Bo b,num M x]).le (iv M' z):=exs_intro (b,x) hz (le_agg (.cons (le_refl _) (.cons (le_num h) .nil)))
theorem le_sc{M M':Nat}{b:Bool}{x:Nat}{z:Int}(h:M≤M')(hz:sg b x=z):(agg [Bo b,cnum M x]).le (iv M' z):=exs_intro (b,x) hz (le_agg (.cons (le_refl _) (.cons (le_cn h) .nil)))
theorem le_ivv{M M':Nat}{z:Int}(h:M≤M'):(iv M z).le (iv M' z):=fun _ _ _ ⟨x,hp,r⟩=>⟨x,hp,le_agg (.cons (le_refl _) (.cons (le_num h) .nil)) _ _ _ r⟩
theorem le_sv0{M:Nat}{b:Bool}{x:Nat}{z:Int}(hz:sg b x=z):(agg [Bo b,num M x]).le (iv M z):=le_sv (Nat.le_refl _) hz
theorem le_sc0{M:Nat}{b:Bool}{x:Nat}{z:Int}(hz:sg b x=z):(agg [Bo b,cnum M x]).le (iv M z):=le_sc (Nat.le_refl _) hz
theorem le_it0{M:Nat}{z:Int}:(it M z).le (iv M z):=le_it (Nat.le_refl _)
theorem it_lt{M M':Nat}{z:Int}(h:z.natAbs<BS^M'):(it M z).le (it M' z):=le_agg (.cons (le_refl _) (.cons (cn_lt h) .nil))
theorem le_bz{M M' x:Nat}{b:Bool}{z:Int}(hb:b=decide (z<0))(hx:x=z.natAbs)(h:M≤M'):(agg [Bo b,cnum M x]).le (it M' z):=by subst hb hx;exact le_itt h
theorem le_ie{M M':Nat}{z z':Int}(hz:z=z')(h:M≤M'):(it M z).le (it M' z'):=hz▸le_itt h
theorem le_br{M:Nat}{ds:List Nat}{b:Bool}{z:Int}(h1:ds.length≤M)(h2: ∀d∈ds,d<BS)(h3:val ds=z.natAbs)(h4:Canon isZ ds)(hb:b=decide (z<0)):(agg [Bo b,raw ds]).le (it M z):=by subst hb;exact le_agg (.cons (le_refl _) (.cons (raw_cn h1 h2 h3 h4) .nil))
theorem le_i0{M:Nat}:(agg [Bo false,nilS]).le (it M 0):=le_agg (.cons (le_refl _) (.cons nil_cn .nil))
theorem le_i0v{M:Nat}:(agg [Bo false,nilS]).le (iv M 0):=le_i0.trans (le_it (Nat.le_refl _))
section
variable{P:Program}{n:Nat}{C:Ctx}{env:Nat→AV}{H:Hp}
theorem arW0{t g m:Nat}{ty t':TypeId}[c:TL P ty (.ag m)]{rs:List ResultVar}{a:AV}{l l':List AV}(h:av n env (.tmp t)=lpt 1 g 0)(j:Nat)(hj:H[j]? =some (some g,.arr t' 1 l'))(hm:l'.length=m)(h1:l'.all isOne=true)(hb:(agg l').le a)(k:ARs P n C env H rs l):ARs P n C env H (.cell t ty::rs) (a::l):=
  arW h j hj (l2:=l') (by rw[List.drop_zero,List.take_of_length_le (by omega)]) hm h1 hb k
end
section
variable{P:Program}{n:Nat}{D:List Deferred}{C:Ctx}{Q:Exit→Act→World→Prop}{env:Nat→AV}{H:Hp}{ops:Array Oper}{G:Nat→Nat→Prop}{done todo:List Nat}{l:List Oper}{c:Code}
theorem opI{M:Nat}{z:Int}(t:Nat)(he:env t=iv M z)(k: ∀b x,sg b x=z→AW P n D C c Q (updA env t (agg [Bo b,num M x])) H):AW P n D C c Q env H:=awOpen t he fun x hx=>k x.1 x.2 hx
end
theorem iv_bd{M:Nat}{z:Int}{w:World}{S:Nat→Prop}{v:Value}(h:(iv M z).rep w S v):z.natAbs<BS^M:=by
  obtain⟨⟨b,x⟩,hz,h1⟩:=h
  obtain⟨v,hv⟩:=agg_get h1 (i:=1) rfl
  have :=num_bd hv
  simp only at hz
  rw[←hz,sg_abs];exact this
theorem bdI{P:Program}{n:Nat}{D:List Deferred}{C:Ctx}{c:Code}{Q:Exit→Act→World→Prop}{env:Nat→AV}{H:Hp}{M:Nat}{z:Int}(t:Nat)(he:env t=iv M z)(k:z.natAbs<BS^M→AW P n D C c Q env H):AW P n D C c Q env H:=by
  unfold AW at k⊢
  exact aGet t (fun w S v hr=>by rw[he] at hr;exact iv_bd hr) k
theorem ob_i{t:TypeId}{M M':Nat}{z z':Int}(hz:z=z')(h:M≤M'):(Ob.arr t 1 (itl M z)).le (.arr t 1 (itl M' z')):=by
  subst hz;exact ob_arr (.cons (le_refl _) (.cons (le_cc h) .nil)) (by intro a ha;simp only[List.mem_cons,List.not_mem_nil,or_false] at ha;rcases ha with rfl|rfl<;>exact elB_el (by kernel_rfl))
theorem ob_i0{t:TypeId}{M:Nat}{z:Int}(hz:z=0):(Ob.arr t 1 [Bo false,nilS]).le (.arr t 1 (itl M z)):=by
  subst hz;exact ob_arr (.cons (le_refl _) (.cons nil_cn .nil)) (by intro a ha;simp only[List.mem_cons,List.not_mem_nil,or_false] at ha;rcases ha with rfl|rfl<;>exact elB_el (by kernel_rfl))
theorem ob_il{t:TypeId}{M M':Nat}{z:Int}(h:z.natAbs<BS^M'):(Ob.arr t 1 (itl M z)).le (.arr t 1 (itl M' z)):=
  ob_arr (.cons (le_refl _) (.cons (cn_lt h) .nil)) (by intro a ha;simp only[List.mem_cons,List.not_mem_nil,or_false] at ha;rcases ha with rfl|rfl<;>exact elB_el (by kernel_rfl))
theorem obI{C:Ctx}{env:Nat→AV}{H:Hp}{G:(Nat→Value)→World→Prop}{t:TypeId}{g M:Nat}{z:Int}(j:Nat)(hj:H[j]? =some (some g,.arr t 2 [iv M z]))(k: ∀b x,sg b x=z→A C G env (H.set j (some g,.arr t 1 [Bo b,num M x]))):A C G env H:=by
  unfold A at k⊢
  intro e w S r
  obtain⟨he,cs,hb,u,cs',hu,h1,h2⟩:=r.own.arr hj
  have h2:cs'=[]:=h2
  subst h2
  rw[List.append_nil] at h1
  obtain⟨⟨b,x⟩,hz,hagg⟩:=hu
  have h1':[Bo b,num M x].all isOne=true:=by kernel_rfl
  exact k b x hz e w S ⟨r.frm,r.lt,r.sb,r.sl,r.own.set hj r.lt (Frm.refl _ _) ⟨els_one h1',cs,hb,h1▸agg_lay hagg h1'⟩⟩
theorem alB{P:Program}{n:Nat}{D:List Deferred}{C:Ctx}{env:Nat→AV}{H:Hp}{ops:Array Oper}{l:List Oper}{Q:Exit→Act→World→Prop}{t:TypeId}{g M:Nat}{z:Int}(j:Nat)(hj:H[j]? =some (some g,.arr t 2 [iv M z]))(k: ∀b x,sg b x=z→AL P n D C ops l Q env (H.set j (some g,.arr t 1 [Bo b,num M x]))):AL P n D C ops l Q env H:=by
  unfold AL at k⊢;exact obI j hj k
abbrev pc(M:Nat)(l:List Int):AV:=sl 2 (l.map (it M))
abbrev pv(M:Nat)(l:List Int):AV:=sl 2 (l.map (iv M))
theorem els_map{α:Type}{z:Nat}{f:α→AV}(h: ∀x,(f x).el z)(l:List α):els z (l.map f):=fun a ha=>by
  obtain⟨x,_,rfl⟩:=List.mem_map.1 ha;exact h x
theorem le_map{α:Type}{z:Nat}{f g:α→AV}(l:List α)(h: ∀x,(f x).le (g x))(he: ∀x,(g x).el z):(sl z (l.map f)).le (sl z (l.map g)):=le_sl (Les.map l fun x _=>h x) (els_map he l)
theorem le_pcc{M M':Nat}{l:List Int}(h:M≤M'):(pc M l).le (pc M' l):=le_map l (fun _=>le_itt h) fun _=>it_el
theorem le_pcv{M M':Nat}{l:List Int}(h:M≤M'):(pc M l).le (pv M' l):=le_map l (fun _=>le_it h) fun _=>iv_el
theorem le_pvv{M M':Nat}{l:List Int}(h:M≤M'):(pv M l).le (pv M' l):=le_map l (fun _=>le_ivv h) fun _=>iv_el
theorem le_pe{M M':Nat}{l l':List Int}(e:l=l')(h:M≤M'):(pc M l).le (pc M' l'):=e▸le_pcc h
theorem le_pcv0{M:Nat}{l:List Int}:(pc M l).le (pv M l):=le_pcv (Nat.le_refl _)
theorem le_l1{α:Type}{z:Nat}{f:α→AV}{x0:α}:(sl z [f x0]).le (sl z ([x0].map f)):=le_refl _
theorem le_l2{α:Type}{z:Nat}{f:α→AV}{x0 x1:α}:(sl z [f x0,f x1]).le (sl z ([x0,x1].map f)):=le_refl _
theorem le_l3{α:Type}{z:Nat}{f:α→AV}{x0 x1 x2:α}:(sl z [f x0,f x1,f x2]).le (sl z ([x0,x1,x2].map f)):=le_refl _
theorem le_l4{α:Type}{z:Nat}{f:α→AV}{x0 x1 x2 x3:α}:(sl z [f x0,f x1,f x2,f x3]).le (sl z ([x0,x1,x2,x3].map f)):=le_refl _
theorem le_l5{α:Type}{z:Nat}{f:α→AV}{x0 x1 x2 x3 x4:α}:(sl z [f x0,f x1,f x2,f x3,f x4]).le (sl z ([x0,x1,x2,x3,x4].map f)):=le_refl _
theorem els_pv{M:Nat}(l:List (List Int)):els 1 (l.map (pv M)):=els_map (fun _=>⟨by rw[sl_sh];rfl,by rw[sl_sh];simp⟩) l
theorem le_p1{M M0:Nat}{f:List Int}(h:M≤M0):(sl 1 [pv M f]).le (sl 1 ([f].map (pv M0))):=le_sl (.cons (le_pvv h) .nil) (els_pv [f])
theorem le_p1c{M M0:Nat}{f:List Int}(h:M≤M0):(sl 1 [pc M f]).le (sl 1 ([f].map (pv M0))):=le_sl (.cons (le_pcv h) .nil) (els_pv [f])
theorem le_p2{M M':Nat}{f g:List Int}:(sl 1 [pv M f,pv M' g]).le (sl 1 ([f,g].map (pv (max M M')))):=le_sl (.cons (le_pvv (Nat.le_max_left ..)) (.cons (le_pvv (Nat.le_max_right ..)) .nil)) (els_pv [f,g])
theorem le_p2c{M M':Nat}{f g:List Int}:(sl 1 [pc M f,pc M' g]).le (sl 1 ([f,g].map (pv (max M M')))):=le_sl (.cons (le_pcv (Nat.le_max_left ..)) (.cons (le_pcv (Nat.le_max_right ..)) .nil)) (els_pv [f,g])
theorem le_p0{M:Nat}:nilS.le (pc M []):=le_nil
theorem ob_map{α:Type}{t:TypeId}{z:Nat}{f g:α→AV}{l l':List α}(e:l=l')(h: ∀x,(f x).le (g x))(he: ∀x,(g x).el z):(Ob.arr t z (l.map f)).le (.arr t z (l'.map g)):=e▸ob_arr (Les.map l fun x _=>h x) (els_map he l)
theorem ob_it{t:TypeId}{M M':Nat}{l l':List Int}(e:l=l')(h:M≤M'):(Ob.arr t 2 (l.map (it M))).le (.arr t 2 (l'.map (it M'))):=ob_map e (fun _=>le_itt h) fun _=>it_el
theorem cst_i0:cst (.agg #[.bool false,.slice none 0 0])=agg [Bo false,nilS]:=by kernel_rfl
theorem aoStI{P:Program}{n:Nat}{D:List Deferred}{C:Ctx}{env:Nat→AV}{H:Hp}{ty:TypeId}{pos:String}{af:Array Edge}{gd:Option (Nat×Bool)}{x y:Operand}{t t':TypeId}{g i M M1:Nat}{z:Int}[c:TS P t 2]{l:List Int}(hx:av n env x=lpt 2 g i)(hy:av n env y=it M1 z)(j:Nat)(hj:H[j]? =some (some g,.arr t' 2 (l.map (it M))))(hi:i<l.length):
    AO P n D C env H (· =g) ⟨none,.store t x y,ty,pos,af,gd⟩ (fun K=>K env ((H.set j (some g,.arr t' 2 (l.map (it (max M M1))))).set j (some g,.arr t' 2 ((l.set i z).map (it (max M M1)))))):=
  AO.entH (HLe.set1 (ob_it rfl (Nat.le_max_left _ _)) hj) (aoStM z hx hy j (by have :=(List.getElem?_eq_some_iff.1 hj).1;rw[List.getElem?_set_self this]) (le_itt (Nat.le_max_right _ _)) hi (by kernel_rfl) rfl)
instance:ZV (.agg #[.bool false,.slice none 0 0]) 2 (it 0) 0:=⟨fun w S=>le_i0 w S _ (cst_i0▸cst_rep _),by kernel_rfl⟩
abbrev RawI:=Bool×List Nat
abbrev dvI(x:RawI):Int:=sg x.1 (val x.2)
abbrev rx(x:RawI):AV:=agg [Bo x.1,raw x.2]
abbrev rwp(D:List RawI):AV:=sl 2 (D.map rx)
instance:Zr RawI (false,[]):=⟨⟩
theorem rx_iv{M:Nat}{x:RawI}(h:x.2.length≤M)(hb: ∀d∈x.2,d<BS):(rx x).le (iv M (dvI x)):=(le_agg (.cons (le_refl _) (.cons (raw_num h hb rfl) .nil))).trans (le_sv (b:=x.1) (x:=val x.2) (Nat.le_refl M) rfl)
theorem rwp_pv{M:Nat}{D:List RawI}(h: ∀x∈D,x.2.length≤M)(hb: ∀x∈D,∀d∈x.2,d<BS):(rwp D).le (pv M (D.map dvI)):=by
  have e:(D.map dvI).map (iv M)=D.map fun x=>iv M (dvI x):=by rw[List.map_map];rfl
  unfold pv
  rw[e]
  exact le_sl (Les.map D fun x hx=>rx_iv (h x hx) (hb x hx)) (els_map (fun _=>iv_el) D)
attribute [irreducible] iv
end Go.Am
