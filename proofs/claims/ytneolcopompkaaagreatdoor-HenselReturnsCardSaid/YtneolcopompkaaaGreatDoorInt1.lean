/-
  Walks of package integer.
-/
import Derived.Test.YtneolcopompkaaaGreatDoorNat4
import Derived.Test.YtneolcopompkaaaGreatDoorLibA
namespace Go.Proofs.YtneolcopompkaaaGreatDoor
open Go.RowKit Go.Gx Tryz
theorem integer_signed {w : World} {gn : Bool} {Sa : Nat → Prop} {Aa : Option Addr} {na ca : Nat} {da : List Nat} (ha : NatR w Sa Aa na ca da)  : Calls Tryz.prog 45 #[(.bool gn), (.slice Aa na ca)] w (Ret fun v w' => ∃ (gr : Bool) (Ar : Option Addr) (nr : Nat) (cr : Nat) (dr : List Nat), v = (.agg #[(.bool gr), (.slice Ar nr cr)]) ∧ Ext w w' ∧ NatR w' (Sa) Ar nr cr dr ∧ (gr = (gn && decide (0 < na))) ∧ (dr = da) ∧ (nr = na)) := by
 have ⟨la, ka, ma⟩ := ha.lkm
 refine enter func45 rfl ntmps45 rfl (rS fun C o => sO (oAlloc [(.bool false), (.slice none 0 0)] zero25 rfl (fun k D A d B e => sK o (rS fun E f => sMb rfl (sMb rfl ?_)))))
 cases gn
 ·refine sSkip rfl rfl (sSkip rfl rfl (sSkip rfl rfl (sV (v := (.bool false)) (rfl) (sMs rfl (sV (v := (.agg #[(.bool false), (.slice Aa na ca)])) (evK (by kernel_rfl)) (sO (oStore [(.bool false), (.slice Aa na ca)] rfl rfl rfl sz25 rfl e Qn (fun u l x a => ?_))))))))
  replace a : Blk u k 25 [(.bool false), (.slice Aa na ca)] := a
  refine sK f (wp_ret (ret1 (.agg #[(.bool false), (.slice Aa na ca)]) results45 (resB [(.bool false), (.slice Aa na ca)] agg25 sz25 rfl a) ?_))
  have g := d.rx l
  have p := (ha.frmB g q3)
  exact ⟨false, Aa, na, ca, da, rfl, (Frm.mono g q4), p, (by simp), rfl, (by omega)⟩
 ·refine sEv (v := (.slice Aa na ca)) (rfl) rfl rfl (sEv (v := (.int .i64 na)) (evLen underlying23 rfl) rfl rfl ?_)
  by_cases h : ((na : Int)) > 0
  ·refine sEv (v := (.bool true)) (evGtr true rfl rfl (dT h)) rfl rfl (sV (v := (.bool true)) (rfl) (sMs rfl (sV (v := (.agg #[(.bool true), (.slice Aa na ca)])) (evK (by kernel_rfl)) (sO (oStore [(.bool true), (.slice Aa na ca)] rfl rfl rfl sz25 rfl e Qn (fun q m y b => ?_))))))
   replace b : Blk q k 25 [(.bool true), (.slice Aa na ca)] := b
   refine sK f (wp_ret (ret1 (.agg #[(.bool true), (.slice Aa na ca)]) results45 (resB [(.bool true), (.slice Aa na ca)] agg25 sz25 rfl b) ?_))
   have i := d.rx m
   have r := (ha.frmB i q3)
   exact ⟨true, Aa, na, ca, da, rfl, (Frm.mono i q4), r, (by simp; omega), rfl, (by omega)⟩
  ·refine sEv (v := (.bool false)) (evGtr false rfl rfl (dF h)) rfl rfl (sV (v := (.bool false)) (rfl) (sMs rfl (sV (v := (.agg #[(.bool false), (.slice Aa na ca)])) (evK (by kernel_rfl)) (sO (oStore [(.bool false), (.slice Aa na ca)] rfl rfl rfl sz25 rfl e Qn (fun s n z c => ?_))))))
   replace c : Blk s k 25 [(.bool false), (.slice Aa na ca)] := c
   refine sK f (wp_ret (ret1 (.agg #[(.bool false), (.slice Aa na ca)]) results45 (resB [(.bool false), (.slice Aa na ca)] agg25 sz25 rfl c) ?_))
   have j := d.rx n
   have t := (ha.frmB j q3)
   exact ⟨false, Aa, na, ca, da, rfl, (Frm.mono j q4), t, (by simp; omega), rfl, (by omega)⟩
theorem integer_From {w : World} {gn : Bool} {Sa : Nat → Prop} {Aa : Option Addr} {na ca : Nat} {da : List Nat} (ha : NatR w Sa Aa na ca da) (hna : na ≤ 1099511627776) : Calls Tryz.prog 44 #[(.bool gn), (.slice Aa na ca)] w (Ret fun v w' => ∃ (gr : Bool) (Ar : Option Addr) (nr : Nat) (cr : Nat) (dr : List Nat), v = (.agg #[(.bool gr), (.slice Ar nr cr)]) ∧ Ext w w' ∧ NatR w' (fun b => w.heap.size ≤ b) Ar nr cr dr ∧ (zval gr dr = zval gn da) ∧ (ICan gr dr) ∧ (nr ≤ na)) := by
 have ⟨la, ka, ma⟩ := ha.lkm
 replace ha := ha.low
 refine enter func44 rfl ntmps44 rfl (rS fun V u => sO (oAlloc [(.bool false), (.slice none 0 0)] zero25 rfl (fun M W R q S x => sK u (rS fun X y => sMb rfl (sMs rfl ?_)))))
 have N := (ha.ext q)
 refine sO (oCall rfl call86 (natural_Normal N Qo) rfl ?_)
 rintro _ T ⟨B, C, D, E, rfl, f, i, l, F⟩
 have O := f.size
 have ⟨j, G, H⟩ := i.lkm
 refine sO (oCall rfl call45 (integer_signed i) rfl ?_)
 rintro _ U ⟨a, c, d, e, p, rfl, g, k, m, n, I⟩
 have P := g.size
 have ⟨J, K, L⟩ := k.lkm
 have r := f.trans g
 have s := (x.ext r)
 refine sO (oStore [(.bool a), (.slice c d e)] rfl rfl rfl sz25 rfl s Qn (fun z o Q h => ?_))
 replace h : Blk z M 25 [(.bool a), (.slice c d e)] := h
 refine sK y (wp_ret (ret1 (.agg #[(.bool a), (.slice c d e)]) results44 (resB [(.bool a), (.slice c d e)] agg25 sz25 rfl h) ?_))
 have A := (k.frmB o q3)
 have t := ((q.trans f).trans g).rx o
 exact ⟨a, c, d, e, p, rfl, (Frm.mono t q4), (NatR.sub A q5), (by rw [signed_val m n j, l, zval_trim]), (signed_can m n j (by rw [l]; exact canon_trim _ _)), (by omega)⟩
theorem integer_Of {w : World} {x1 : Int}  (hx : -9223372036854775808 ≤ x1 ∧ x1 ≤ 9223372036854775807) : Calls Tryz.prog 35 #[(.int .i64 (x1))] w (Ret fun v w' => ∃ (gr : Bool) (Ar : Option Addr) (nr : Nat) (cr : Nat) (dr : List Nat), v = (.agg #[(.bool gr), (.slice Ar nr cr)]) ∧ Ext w w' ∧ NatR w' (fun b => w.heap.size ≤ b) Ar nr cr dr ∧ (zval gr dr = x1) ∧ (ICan gr dr) ∧ (nr ≤ 2)) := by
 refine enter func35 rfl ntmps35 rfl (rS fun K1 H => sO (oAlloc [(.bool false), (.slice none 0 0)] zero25 rfl (fun I w3 a0 x a1 y => sK H (wp_seq_k fun K8 J => rS fun K9 z => sMi rfl ?_))))
 by_cases n : x1 < 0
 ·refine sV (evLss true rfl rfl (dT n)) (sK z (cT rfl (rS fun a2 A => sMi rfl (sV (evConv ((((x1 + 18446744073709551616).toNat : Nat) : Int)) underlying2 underlying100 rfl (wU64m Qo)) (sV (evNeg ((((-x1).toNat : Nat) : Int)) rfl (wU64m Qo)) (sO (oCall rfl call75 (natural_Of (x1 := (-x1).toNat) Qo) rfl ?_)))))))
  rintro _ a3 ⟨a, c, d, r, rfl, h, l, o, s, O⟩
  have W := h.size
  have ⟨P, Q, R⟩ := l.lkm
  refine sV (v := (.agg #[(.bool true), (.slice a c d)])) (evK (by kernel_rfl)) ?_
  have B := (y.ext h)
  refine sO (oStore [(.bool true), (.slice a c d)] rfl rfl rfl sz25 rfl B Qn (fun K p X i => ?_))
  replace i : Blk K I 25 [(.bool true), (.slice a c d)] := i
  refine sK A (wp_ret (xR (ret1 (.agg #[(.bool true), (.slice a c d)]) results35 (resB [(.bool true), (.slice a c d)] agg25 sz25 rfl i) ?_)))
  have L := (l.frmB p q3)
  have C := (x.trans h).rx p
  exact ⟨true, a, c, d, r, rfl, (Frm.mono C q4), (NatR.sub L q5), (of_neg o Qo), (can_neg o Qo s), Qo⟩
 ·refine sV (evLss false rfl rfl (dF n)) (sK z (cF rfl (wp_skip (xN (J _ _ (rS fun a4 D => sMi rfl (sV (evConv (((x1.toNat : Nat) : Int)) underlying2 underlying100 rfl (wU64 Qo)) (sO (oCall rfl call75 (natural_Of (x1 := x1.toNat) Qo) rfl ?_)))))))))
  rintro _ a5 ⟨e, f, g, t, rfl, j, m, E, u, S⟩
  have Y := j.size
  have ⟨T, U, V⟩ := m.lkm
  refine sV (v := (.agg #[(.bool false), (.slice e f g)])) (evK (by kernel_rfl)) ?_
  have F := (y.ext j)
  refine sO (oStore [(.bool false), (.slice e f g)] rfl rfl rfl sz25 rfl F Qn (fun M q Z k => ?_))
  replace k : Blk M I 25 [(.bool false), (.slice e f g)] := k
  refine sK D (wp_ret (ret1 (.agg #[(.bool false), (.slice e f g)]) results35 (resB [(.bool false), (.slice e f g)] agg25 sz25 rfl k) ?_))
  have N := (m.frmB q q3)
  have G := (x.trans j).rx q
  exact ⟨false, e, f, g, t, rfl, (Frm.mono G q4), (NatR.sub N q5), (of_pos E Qo), (can_pos u), Qo⟩
theorem integer_Normal {w : World} {ga : Bool} {Sa : Nat → Prop} {Aa : Option Addr} {na ca : Nat} {da : List Nat} (ha : NatR w Sa Aa na ca da) (hna : na ≤ 1099511627776) : Calls Tryz.prog 85 #[(.agg #[(.bool ga), (.slice Aa na ca)])] w (Ret fun v w' => ∃ (gr : Bool) (Ar : Option Addr) (nr : Nat) (cr : Nat) (dr : List Nat), v = (.agg #[(.bool gr), (.slice Ar nr cr)]) ∧ Ext w w' ∧ NatR w' (fun b => w.heap.size ≤ b) Ar nr cr dr ∧ (zval gr dr = zval ga da) ∧ (ICan gr dr) ∧ (nr ≤ na)) := by
 have ⟨la, ka, ma⟩ := ha.lkm
 replace ha := ha.low
 refine enter func85 rfl ntmps85 rfl (rS fun O t => sO (oBox [(.bool ga), (.slice Aa na ca)] rfl rfl (fun P Q K u L x => sO (oAlloc [(.bool false), (.slice none 0 0)] zero25 rfl (fun F R G i H o => sK t (rS fun M p => sV (evFA 0 fa25_0 rfl rfl) ?_))))))
 have j := (x.ext i)
 refine sV (evLoadB one4 rfl j rfl) (sV (evFA 1 fa25_1 rfl rfl) (sV (evLoadB one23 rfl j rfl) ?_))
 have k := u.trans i
 have y := (ha.ext k)
 refine sO (oCall rfl call44 (integer_From y Qo) rfl ?_)
 rintro _ N ⟨a, c, d, e, m, rfl, f, h, q, n, B⟩
 have I := f.size
 have ⟨C, D, E⟩ := h.lkm
 have r := (o.ext f)
 refine sO (oStore [(.bool a), (.slice c d e)] rfl rfl rfl sz25 rfl r Qn (fun z l J g => ?_))
 replace g : Blk z F 25 [(.bool a), (.slice c d e)] := g
 refine sK p (wp_ret (ret1 (.agg #[(.bool a), (.slice c d e)]) results85 (resB [(.bool a), (.slice c d e)] agg25 sz25 rfl g) ?_))
 have A := (h.frmB l q3)
 have s := (k.trans f).rx l
 exact ⟨a, c, d, e, m, rfl, (Frm.mono s q4), (NatR.sub A q5), q, n, Qo⟩
theorem integer_Neg {w : World} {ga : Bool} {Sa : Nat → Prop} {Aa : Option Addr} {na ca : Nat} {da : List Nat} (ha : NatR w Sa Aa na ca da) (hna : na ≤ 1099511627776) : Calls Tryz.prog 123 #[(.agg #[(.bool ga), (.slice Aa na ca)])] w (Ret fun v w' => ∃ (gr : Bool) (Ar : Option Addr) (nr : Nat) (cr : Nat) (dr : List Nat), v = (.agg #[(.bool gr), (.slice Ar nr cr)]) ∧ Ext w w' ∧ NatR w' (fun b => w.heap.size ≤ b) Ar nr cr dr ∧ (zval gr dr = -zval ga da) ∧ (ICan gr dr) ∧ (nr ≤ na)) := by
 have ⟨la, ka, ma⟩ := ha.lkm
 replace ha := ha.low
 refine enter func123 rfl ntmps123 rfl (rS fun O t => sO (oBox [(.bool ga), (.slice Aa na ca)] rfl rfl (fun P Q K u L x => sO (oAlloc [(.bool false), (.slice none 0 0)] zero25 rfl (fun F R G i H o => sK t (rS fun M p => sV (evFA 0 fa25_0 rfl rfl) ?_))))))
 have j := (x.ext i)
 refine sV (evLoadB one4 rfl j rfl) (sV (evNot _ rfl rfl) (sV (evFA 1 fa25_1 rfl rfl) (sV (evLoadB one23 rfl j rfl) ?_)))
 have k := u.trans i
 have y := (ha.ext k)
 refine sO (oCall rfl call44 (integer_From y Qo) rfl ?_)
 rintro _ N ⟨a, c, d, e, m, rfl, f, h, q, n, B⟩
 have I := f.size
 have ⟨C, D, E⟩ := h.lkm
 have r := (o.ext f)
 refine sO (oStore [(.bool a), (.slice c d e)] rfl rfl rfl sz25 rfl r Qn (fun z l J g => ?_))
 replace g : Blk z F 25 [(.bool a), (.slice c d e)] := g
 refine sK p (wp_ret (ret1 (.agg #[(.bool a), (.slice c d e)]) results123 (resB [(.bool a), (.slice c d e)] agg25 sz25 rfl g) ?_))
 have A := (h.frmB l q3)
 have s := (k.trans f).rx l
 exact ⟨a, c, d, e, m, rfl, (Frm.mono s q4), (NatR.sub A q5), (by rw [q, zval_not]), n, (by omega)⟩
theorem integer_Abs {w : World} {ga : Bool} {Sa : Nat → Prop} {Aa : Option Addr} {na ca : Nat} {da : List Nat} (ha : NatR w Sa Aa na ca da) (hna : na ≤ 1099511627776) : Calls Tryz.prog 11 #[(.agg #[(.bool ga), (.slice Aa na ca)])] w (Ret fun v w' => ∃ (gr : Bool) (Ar : Option Addr) (nr : Nat) (cr : Nat) (dr : List Nat), v = (.agg #[(.bool gr), (.slice Ar nr cr)]) ∧ Ext w w' ∧ NatR w' (fun b => w.heap.size ≤ b) Ar nr cr dr ∧ (zval gr dr = (val da : Int)) ∧ (ICan gr dr) ∧ (nr ≤ na)) := by
 have ⟨la, ka, ma⟩ := ha.lkm
 replace ha := ha.low
 refine enter func11 rfl ntmps11 rfl (rS fun O t => sO (oBox [(.bool ga), (.slice Aa na ca)] rfl rfl (fun P Q K u L x => sO (oAlloc [(.bool false), (.slice none 0 0)] zero25 rfl (fun F R G i H n => sK t (rS fun M o => sV (evFA 1 fa25_1 rfl rfl) ?_))))))
 have p := (x.ext i)
 refine sV (evLoadB one23 rfl p rfl) ?_
 have j := u.trans i
 have y := (ha.ext j)
 refine sO (oCall rfl call44 (integer_From y Qo) rfl ?_)
 rintro _ N ⟨a, c, d, e, l, rfl, f, h, q, m, B⟩
 have I := f.size
 have ⟨C, D, E⟩ := h.lkm
 have r := (n.ext f)
 refine sO (oStore [(.bool a), (.slice c d e)] rfl rfl rfl sz25 rfl r Qn (fun z k J g => ?_))
 replace g : Blk z F 25 [(.bool a), (.slice c d e)] := g
 refine sK o (wp_ret (ret1 (.agg #[(.bool a), (.slice c d e)]) results11 (resB [(.bool a), (.slice c d e)] agg25 sz25 rfl g) ?_))
 have A := (h.frmB k q3)
 have s := (j.trans f).rx k
 exact ⟨a, c, d, e, l, rfl, (Frm.mono s q4), (NatR.sub A q5), (by rw [q, zval_false]), m, (by omega)⟩
theorem integer_Sign {w : World} {ga : Bool} {Sa : Nat → Prop} {Aa : Option Addr} {na ca : Nat} {da : List Nat} (ha : NatR w Sa Aa na ca da)  : Calls Tryz.prog 29 #[(.agg #[(.bool ga), (.slice Aa na ca)])] w (Ret fun v w' => ∃ (xr : Int), v = (.int .i64 (xr)) ∧ Ext w w' ∧ (xr = (zval ga da).sign)) := by
 have ⟨la, ka, ma⟩ := ha.lkm
 replace ha := ha.low
 refine enter func29 rfl ntmps29 rfl (rS fun D p => sO (oBox [(.bool ga), (.slice Aa na ca)] rfl rfl (fun E F u e x g => sAi rfl (sK p (wp_seq_k fun G q => wp_block (rS fun H r => sV (evFA 1 fa25_1 rfl rfl) (sV (evLoadB one23 rfl g rfl) ?_)))))))
 have s := (ha.ext e)
 refine sO (oCall rfl call69 (natural_IsZero s) rfl ?_)
 rintro _ y ⟨f, rfl, a, b⟩
 have t := a.size
 refine sAb rfl (sK r (cB f rfl ?_ ?_))
 ·intro c
  subst c
  refine rS fun z h => sAi rfl (sK h (wp_ret (bR (xR (ret1 (.int .i64 (0)) results29 (resT rfl) ?_)))))
  have i := e.trans a
  exact ⟨(0), rfl, i, (sign_zero b)⟩
 ·intro c
  subst c
  refine rS fun A j => sV (evFA 0 fa25_0 rfl rfl) ?_
  have k := (g.ext a)
  refine sV (evLoadB one4 rfl k rfl) (sAb rfl (sK j (cB ga rfl ?_ ?_)))
  ·intro d
   subst d
   refine rS fun B l => sAi rfl (sK l (wp_ret (bR (xR (ret1 (.int .i64 ((-1))) results29 (resT rfl) ?_)))))
   have m := e.trans a
   exact ⟨((-1)), rfl, m, (sign_neg b)⟩
  ·intro d
   subst d
   refine wp_skip (bN (xN (q _ _ (rS fun C n => sAi rfl (sK n (wp_ret (ret1 (.int .i64 (1)) results29 (resT rfl) ?_)))))))
   have o := e.trans a
   exact ⟨(1), rfl, o, (sign_pos b)⟩
theorem integer_Cmp {w : World} {ga : Bool} {Sa : Nat → Prop} {Aa : Option Addr} {na ca : Nat} {da : List Nat} {gb : Bool} {Sb : Nat → Prop} {Ab : Option Addr} {nb cb : Nat} {db : List Nat} (ha : NatR w Sa Aa na ca da) (hb : NatR w Sb Ab nb cb db)  : Calls Tryz.prog 13 #[(.agg #[(.bool ga), (.slice Aa na ca)]), (.agg #[(.bool gb), (.slice Ab nb cb)])] w (Ret fun v w' => ∃ (xr : Int), v = (.int .i64 (xr)) ∧ Ext w w' ∧ (xr = cmpZ (zval ga da) (zval gb db))) := by
 have ⟨la, ka, ma⟩ := ha.lkm
 replace ha := ha.low
 have ⟨lb, kb, mb⟩ := hb.lkm
 replace hb := hb.low
 refine enter func13 rfl ntmps13 rfl (rS fun K1 U => sO (oBox [(.bool ga), (.slice Aa na ca)] rfl rfl (fun g2 w3 a8 V a9 W => sO (oBox [(.bool gb), (.slice Ab nb cb)] rfl rfl (fun g8 w9 a1 r a2 C => sAi rfl (sK U (wp_seq_k fun b0 D => dBegin (fun _ => False) mixed (fun b1 j a3 => ?_))))))))
 have E := r.trans j
 have k := (W.ext E)
 refine dV 0 rfl (fun _ hf => evLoadAB [(.bool ga), (.slice Aa na ca)] agg25 sz25 rfl (k.ext hf) rfl) ?_
 have l := (C.ext j)
 refine dV 2 rfl (fun _ hf => evLoadAB [(.bool gb), (.slice Ab nb cb)] agg25 sz25 rfl (l.ext hf) rfl) ?_
 have s := (V.trans r).trans j
 have t := (ha.ext s)
 refine dOp 1 rfl rfl (by kernel_rfl) (oCall rfl call29 (integer_Sign t) rfl ?_)
 rintro _ b2 ⟨f, rfl, b, g⟩
 refine ⟨(Frm.of_ext b), ?_⟩
 have a4 := b.size
 have c := s.trans b
 have u := (hb.ext c)
 refine dOp 3 rfl rfl (by kernel_rfl) (oCall rfl call29 (integer_Sign u) rfl ?_)
 rintro _ b3 ⟨o, rfl, a, h⟩
 refine ⟨(Frm.of_ext a), ?_⟩
 have a5 := a.size
 refine dAi 4 rfl rfl (dAi 5 rfl rfl (dDone (by kernel_rfl) (xN (D _ _ (wp_seq_k fun b4 F => wp_block (rS fun b5 x => sMi rfl (sMi rfl ?_)))))))
 by_cases d : f < o
 ·refine sV (evLss true rfl rfl (dT d)) (sAb rfl (sK x (cT rfl (rS fun b6 G => sAi rfl (sK G (wp_ret (bR (xR (ret1 (.int .i64 ((-1))) results13 (resT rfl) ?_)))))))))
  have H := c.trans a
  exact ⟨((-1)), rfl, H, (icmp_lt g h d)⟩
 ·refine sV (evLss false rfl rfl (dF d)) (sAb rfl (sK x (cF rfl (rS fun b7 y => sMi rfl (sMi rfl ?_)))))
  by_cases e : f > o
  ·refine sV (evGtr true rfl rfl (dT e)) (sAb rfl (sK y (cT rfl (rS fun b8 I => sAi rfl (sK I (wp_ret (bR (xR (ret1 (.int .i64 (1)) results13 (resT rfl) ?_)))))))))
   have J := c.trans a
   exact ⟨(1), rfl, J, (icmp_gt g h e)⟩
  ·refine sV (evGtr false rfl rfl (dF e)) (sAb rfl (sK y (cF rfl (rS fun b9 z => sMi rfl ?_))))
   by_cases i : f < 0
   ·refine sV (evLss true rfl rfl (dT i)) (sAb rfl (sK z (cT rfl (rS fun c0 K => sV (evFA 1 fa25_1 rfl rfl) ?_))))
    have m := b.trans a
    have L := (l.ext m)
    refine sV (evLoadB one23 rfl L rfl) (sV (evFA 1 fa25_1 rfl rfl) ?_)
    have M := (k.ext m)
    refine sV (evLoadB one23 rfl M rfl) ?_
    have X := (u.ext a)
    have Y := (t.ext m)
    refine sO (oCall rfl call47 (natural_Cmp X Y) rfl ?_)
    rintro _ c1 ⟨p, rfl, A, N⟩
    have a6 := A.size
    refine sAi rfl (sK K (wp_ret (bR (xR (ret1 (.int .i64 (p)) results13 (resT rfl) ?_)))))
    have O := (c.trans a).trans A
    exact ⟨(p), rfl, O, (icmp_neg g h d e i N)⟩
   ·refine sV (evLss false rfl rfl (dF i)) (sAb rfl (sK z (cF rfl (wp_skip (bN (xN (F _ _ (rS fun c2 P => sV (evFA 1 fa25_1 rfl rfl) ?_))))))))
    have n := b.trans a
    have Q := (k.ext n)
    refine sV (evLoadB one23 rfl Q rfl) (sV (evFA 1 fa25_1 rfl rfl) ?_)
    have R := (l.ext n)
    refine sV (evLoadB one23 rfl R rfl) ?_
    have Z := (t.ext n)
    have a0 := (u.ext a)
    refine sO (oCall rfl call47 (natural_Cmp Z a0) rfl ?_)
    rintro _ c3 ⟨q, rfl, B, S⟩
    have a7 := B.size
    refine sAi rfl (sK P (wp_ret (ret1 (.int .i64 (q)) results13 (resT rfl) ?_)))
    have T := (c.trans a).trans B
    exact ⟨(q), rfl, T, (icmp_pos g h d e i S)⟩
theorem integer_Same {w : World} {ga : Bool} {Sa : Nat → Prop} {Aa : Option Addr} {na ca : Nat} {da : List Nat} {gb : Bool} {Sb : Nat → Prop} {Ab : Option Addr} {nb cb : Nat} {db : List Nat} (ha : NatR w Sa Aa na ca da) (hb : NatR w Sb Ab nb cb db)  : Calls Tryz.prog 37 #[(.agg #[(.bool ga), (.slice Aa na ca)]), (.agg #[(.bool gb), (.slice Ab nb cb)])] w (Ret fun v w' => ∃ (gr : Bool), v = (.bool gr) ∧ Ext w w' ∧ (gr = decide (zval ga da = zval gb db))) := by
 have ⟨la, ka, ma⟩ := ha.lkm
 replace ha := ha.low
 have ⟨lb, kb, mb⟩ := hb.lkm
 replace hb := hb.low
 refine enter func37 rfl ntmps37 rfl (rS fun x i => sO (oBox [(.bool ga), (.slice Aa na ca)] rfl rfl (fun y z r j s k => sO (oBox [(.bool gb), (.slice Ab nb cb)] rfl rfl (fun A B o b p d => sAb rfl (sK i (rS fun t e => ?_)))))))
 have f := (k.ext b)
 refine sV (evLoadAB [(.bool ga), (.slice Aa na ca)] agg25 sz25 rfl f rfl) (sV (evLoadAB [(.bool gb), (.slice Ab nb cb)] agg25 sz25 rfl d rfl) ?_)
 have a := j.trans b
 have l := (ha.ext a)
 have m := (hb.ext a)
 refine sO (oCall rfl call13 (integer_Cmp l m) rfl ?_)
 rintro _ u ⟨n, rfl, c, g⟩
 have q := c.size
 refine sV (evEql (decide (zval ga da = zval gb db)) rfl rfl (cmpZ_zero g)) (sAb rfl (sK e (wp_ret (ret1 (.bool (decide (zval ga da = zval gb db))) results37 (resT rfl) ?_))))
 have h := a.trans c
 exact ⟨(decide (zval ga da = zval gb db)), rfl, h, rfl⟩
theorem integer_Add {w : World} {ga : Bool} {Sa : Nat → Prop} {Aa : Option Addr} {na ca : Nat} {da : List Nat} {gb : Bool} {Sb : Nat → Prop} {Ab : Option Addr} {nb cb : Nat} {db : List Nat} (ha : NatR w Sa Aa na ca da) (hb : NatR w Sb Ab nb cb db) (hna : na ≤ 1099511627776) (hnb : nb ≤ 1099511627776) : Calls Tryz.prog 12 #[(.agg #[(.bool ga), (.slice Aa na ca)]), (.agg #[(.bool gb), (.slice Ab nb cb)])] w (Ret fun v w' => ∃ (gr : Bool) (Ar : Option Addr) (nr : Nat) (cr : Nat) (dr : List Nat), v = (.agg #[(.bool gr), (.slice Ar nr cr)]) ∧ Ext w w' ∧ NatR w' (fun b => w.heap.size ≤ b) Ar nr cr dr ∧ (zval gr dr = zval ga da + zval gb db) ∧ (ICan gr dr) ∧ (nr ≤ na + 1 ∨ nr ≤ nb + 1)) := by
 have ⟨la, ka, ma⟩ := ha.lkm
 replace ha := ha.low
 have ⟨lb, kb, mb⟩ := hb.lkm
 replace hb := hb.low
 refine enter func12 rfl ntmps12 rfl (rS fun K1 f3 => sO (oBox [(.bool ga), (.slice Aa na ca)] rfl rfl (fun g2 w3 l2 c7 l3 f4 => sO (oBox [(.bool gb), (.slice Ab nb cb)] rfl rfl (fun g8 w9 j6 D j7 c8 => sO (oAlloc [(.bool false), (.slice none 0 0)] zero25 rfl (fun K l4 j8 q j9 E => sK f3 (wp_seq_k fun l5 c9 => wp_block (rS fun l6 d0 => sV (evFA 0 fa25_0 rfl rfl) ?_)))))))))
 have d1 := D.trans q
 have o := (f4.ext d1)
 refine sV (evLoadB one4 rfl o rfl) (sV (evFA 0 fa25_0 rfl rfl) ?_)
 have p := (c8.ext q)
 refine sV (evLoadB one4 rfl p rfl) (sV (evEqlB _ underlying4 rfl rfl rfl) (sAb rfl (sK d0 (cB (ga == gb) rfl ?_ ?_))))
 ·intro r
  refine wp_seq_k fun l7 d2 => dBegin (fun b => b = K) mixed (fun l8 s k0 => dV 0 rfl (fun _ _ => evFA 0 fa25_0 rfl rfl) ?_)
  have a3 := (o.ext s)
  refine dV 1 rfl (fun _ hf => evLoadB one4 rfl (a3.frm hf q1) rfl) (dV 2 rfl (fun _ _ => evFA 1 fa25_1 rfl rfl) (dV 3 rfl (fun _ hf => evLoadB one23 rfl (a3.frm hf q1) rfl) (dV 4 rfl (fun _ _ => evFA 1 fa25_1 rfl rfl) ?_)))
  have d3 := (p.ext s)
  refine dV 5 rfl (fun _ hf => evLoadB one23 rfl (d3.frm hf q1) rfl) ?_
  have F := ((c7.trans D).trans q).trans s
  have f5 := (ha.ext F)
  have f6 := (hb.ext F)
  refine dOp 6 rfl rfl (by kernel_rfl) (oCall rfl call46 (natural_Add f5 f6 Qo Qo) rfl ?_)
  rintro _ l9 ⟨g6, g7, g9, h0, rfl, t, L, d4, b7, h1⟩
  refine ⟨(Frm.of_ext t), ?_⟩
  have k1 := t.size
  have ⟨M, h2, h3⟩ := L.lkm
  refine dOp 7 rfl rfl (by kernel_rfl) (oCall rfl call45 (integer_signed L) rfl ?_)
  rintro _ m0 ⟨c, d, e, f, b8, rfl, u, N, a4, a5, h4⟩
  refine ⟨(Frm.of_ext u), ?_⟩
  have k2 := u.size
  have ⟨h5, h6, h7⟩ := N.lkm
  have d5 := (s.trans t).trans u
  have d6 := (E.ext d5)
  refine dOp 8 rfl rfl (by kernel_rfl) (oStore [(.bool c), (.slice d e f)] rfl rfl rfl sz25 rfl d6 Qn (fun f7 G k3 H => ?_))
  replace H : Blk f7 K 25 [(.bool c), (.slice d e f)] := H
  refine ⟨G, dDone (by kernel_rfl) (xN (d2 _ _ (wp_ret (bR (xR (ret1 (.agg #[(.bool c), (.slice d e f)]) results12 (resB [(.bool c), (.slice d e f)] agg25 sz25 rfl H) ?_))))))⟩
  have f8 := (N.frmB G q3)
  have d7 := ((F.trans t).trans u).rx G
  exact ⟨c, d, e, f, b8, rfl, (Frm.mono d7 q4), (NatR.sub f8 q5), (by rw [signed_val a4 a5 M]; exact iadd_same r d4), (signed_can a4 a5 M b7), (by omega)⟩
 ·intro r
  refine rS fun m1 a6 => sV (evFA 1 fa25_1 rfl rfl) (sV (evLoadB one23 rfl o rfl) (sV (evFA 1 fa25_1 rfl rfl) (sV (evLoadB one23 rfl p rfl) ?_)))
  have x := (c7.trans D).trans q
  have a7 := (ha.ext x)
  have a8 := (hb.ext x)
  refine sO (oCall rfl call47 (natural_Cmp a7 a8) rfl ?_)
  rintro _ m2 ⟨b9, rfl, a, a9⟩
  have k4 := a.size
  by_cases y : b9 ≥ 0
  ·refine sV (evGeq true rfl rfl (dT y)) (sAb rfl (sK a6 (cT rfl (rS fun m3 d8 => sV (evFA 1 fa25_1 rfl rfl) ?_))))
   have b0 := (o.ext a)
   refine sV (evLoadB one23 rfl b0 rfl) (sV (evFA 1 fa25_1 rfl rfl) ?_)
   have d9 := (p.ext a)
   refine sV (evLoadB one23 rfl d9 rfl) ?_
   have f9 := (a7.ext a)
   have g0 := (a8.ext a)
   refine sO (oCall rfl call48 (natural_Sub f9 g0 Qo Qo) rfl ?_)
   rintro _ m4 ⟨O, P, Q, h8, R, rfl, z, S, k5, e0, c0, h9⟩
   have k6 := z.size
   have ⟨T, i0, i1⟩ := S.lkm
   refine sV (v := (.tuple #[(.slice O P Q), (.bool R)])) (rfl) (sV (v := (.slice O P Q)) (rfl) (sV (v := (.bool R)) (rfl) (sAs rfl (sAb rfl (sK d8 (rS fun m5 e1 => sV (evFA 0 fa25_0 rfl rfl) ?_))))))
   have e2 := (b0.ext z)
   refine sV (evLoadB one4 rfl e2 rfl) (sMs rfl (sO (oCall rfl call45 (integer_signed S) rfl ?_)))
   rintro _ m6 ⟨g, h, i, j, c1, rfl, I, U, b1, b2, i2⟩
   have k7 := I.size
   have ⟨i3, i4, i5⟩ := U.lkm
   have e3 := (a.trans z).trans I
   have e4 := (E.ext e3)
   refine sO (oStore [(.bool g), (.slice h i j)] rfl rfl rfl sz25 rfl e4 Qn (fun g1 b3 k8 J => ?_))
   replace J : Blk g1 K 25 [(.bool g), (.slice h i j)] := J
   refine sK e1 (wp_ret (bR (xR (ret1 (.agg #[(.bool g), (.slice h i j)]) results12 (resB [(.bool g), (.slice h i j)] agg25 sz25 rfl J) ?_))))
   have g3 := (U.frmB b3 q3)
   have e5 := (((x.trans a).trans z).trans I).rx b3
   exact ⟨g, h, i, j, c1, rfl, (Frm.mono e5 q4), (NatR.sub g3 q5), (by rw [signed_val b1 b2 T]; exact iadd_ge r a9 y e0), (signed_can b1 b2 T c0), (by omega)⟩
  ·refine sV (evGeq false rfl rfl (dF y)) (sAb rfl (sK a6 (cF rfl (wp_skip (bN (xN (c9 _ _ (rS fun m7 e6 => sV (evFA 1 fa25_1 rfl rfl) ?_))))))))
   have b4 := (p.ext a)
   refine sV (evLoadB one23 rfl b4 rfl) (sV (evFA 1 fa25_1 rfl rfl) ?_)
   have e7 := (o.ext a)
   refine sV (evLoadB one23 rfl e7 rfl) ?_
   have g4 := (a8.ext a)
   have g5 := (a7.ext a)
   refine sO (oCall rfl call48 (natural_Sub g4 g5 Qo Qo) rfl ?_)
   rintro _ m8 ⟨V, W, X, i6, Y, rfl, A, Z, k9, e8, c2, i7⟩
   have l0 := A.size
   have ⟨a0, i8, i9⟩ := Z.lkm
   refine sV (v := (.tuple #[(.slice V W X), (.bool Y)])) (rfl) (sV (v := (.slice V W X)) (rfl) (sV (v := (.bool Y)) (rfl) (sAs rfl (sAb rfl (sK e6 (rS fun m9 e9 => sV (evFA 0 fa25_0 rfl rfl) ?_))))))
   have f0 := (b4.ext A)
   refine sV (evLoadB one4 rfl f0 rfl) (sMs rfl (sO (oCall rfl call45 (integer_signed Z) rfl ?_)))
   rintro _ l1 ⟨k, l, m, n, c3, rfl, B, a1, b5, b6, j0⟩
   have j1 := B.size
   have ⟨j2, j3, j4⟩ := a1.lkm
   have c4 := (a.trans A).trans B
   have c5 := (E.ext c4)
   refine sO (oStore [(.bool k), (.slice l m n)] rfl rfl rfl sz25 rfl c5 Qn (fun f1 a2 j5 C => ?_))
   replace C : Blk f1 K 25 [(.bool k), (.slice l m n)] := C
   refine sK e9 (wp_ret (ret1 (.agg #[(.bool k), (.slice l m n)]) results12 (resB [(.bool k), (.slice l m n)] agg25 sz25 rfl C) ?_))
   have f2 := (a1.frmB a2 q3)
   have c6 := (((x.trans a).trans A).trans B).rx a2
   exact ⟨k, l, m, n, c3, rfl, (Frm.mono c6 q4), (NatR.sub f2 q5), (by rw [signed_val b5 b6 a0]; exact iadd_lt r a9 y e8), (signed_can b5 b6 a0 c2), (by omega)⟩
theorem integer_Sub {w : World} {ga : Bool} {Sa : Nat → Prop} {Aa : Option Addr} {na ca : Nat} {da : List Nat} {gb : Bool} {Sb : Nat → Prop} {Ab : Option Addr} {nb cb : Nat} {db : List Nat} (ha : NatR w Sa Aa na ca da) (hb : NatR w Sb Ab nb cb db) (hna : na ≤ 1099511627776) (hnb : nb ≤ 1099511627776) : Calls Tryz.prog 106 #[(.agg #[(.bool ga), (.slice Aa na ca)]), (.agg #[(.bool gb), (.slice Ab nb cb)])] w (Ret fun v w' => ∃ (gr : Bool) (Ar : Option Addr) (nr : Nat) (cr : Nat) (dr : List Nat), v = (.agg #[(.bool gr), (.slice Ar nr cr)]) ∧ Ext w w' ∧ NatR w' (fun b => w.heap.size ≤ b) Ar nr cr dr ∧ (zval gr dr = zval ga da - zval gb db) ∧ (ICan gr dr) ∧ (nr ≤ na + 1 ∨ nr ≤ nb + 1)) := by
 have ⟨la, ka, ma⟩ := ha.lkm
 replace ha := ha.low
 have ⟨lb, kb, mb⟩ := hb.lkm
 replace hb := hb.low
 refine enter func106 rfl ntmps106 rfl (rS fun W z => sO (oBox [(.bool ga), (.slice Aa na ca)] rfl rfl (fun X Y R A S B => sO (oBox [(.bool gb), (.slice Ab nb cb)] rfl rfl (fun Z w9 L k M p => sO (oAlloc [(.bool false), (.slice none 0 0)] zero25 rfl (fun C T N f O q => sK z (rS fun U r => ?_))))))))
 have s := k.trans f
 have t := (B.ext s)
 refine sV (evLoadAB [(.bool ga), (.slice Aa na ca)] agg25 sz25 rfl t rfl) (sV (evFA 0 fa25_0 rfl rfl) ?_)
 have l := (p.ext f)
 refine sV (evLoadB one4 rfl l rfl) (sV (evNot _ rfl rfl) (sV (evFA 1 fa25_1 rfl rfl) (sV (evLoadB one23 rfl l rfl) (sV (v := (.agg #[(.bool (!gb)), (.slice Ab nb cb)])) (evK (by kernel_rfl)) ?_))))
 have g := (A.trans k).trans f
 have D := (ha.ext g)
 have E := (hb.ext g)
 refine sO (oCall rfl call12 (integer_Add D E Qo Qo) rfl ?_)
 rintro _ V ⟨a, c, d, e, n, rfl, h, j, u, o, H⟩
 have P := h.size
 have ⟨I, J, K⟩ := j.lkm
 have x := (q.ext h)
 refine sO (oStore [(.bool a), (.slice c d e)] rfl rfl rfl sz25 rfl x Qn (fun F m Q i => ?_))
 replace i : Blk F C 25 [(.bool a), (.slice c d e)] := i
 refine sK r (wp_ret (ret1 (.agg #[(.bool a), (.slice c d e)]) results106 (resB [(.bool a), (.slice c d e)] agg25 sz25 rfl i) ?_))
 have G := (j.frmB m q3)
 have y := (g.trans h).rx m
 exact ⟨a, c, d, e, n, rfl, (Frm.mono y q4), (NatR.sub G q5), (by rw [u, zval_not]; omega), o, (by omega)⟩
theorem integer_Mul {w : World} {ga : Bool} {Sa : Nat → Prop} {Aa : Option Addr} {na ca : Nat} {da : List Nat} {gb : Bool} {Sb : Nat → Prop} {Ab : Option Addr} {nb cb : Nat} {db : List Nat} (ha : NatR w Sa Aa na ca da) (hb : NatR w Sb Ab nb cb db) (hna : na + nb ≤ 1099511627776) : Calls Tryz.prog 33 #[(.agg #[(.bool ga), (.slice Aa na ca)]), (.agg #[(.bool gb), (.slice Ab nb cb)])] w (Ret fun v w' => ∃ (gr : Bool) (Ar : Option Addr) (nr : Nat) (cr : Nat) (dr : List Nat), v = (.agg #[(.bool gr), (.slice Ar nr cr)]) ∧ Ext w w' ∧ NatR w' (fun b => w.heap.size ≤ b) Ar nr cr dr ∧ (zval gr dr = zval ga da * zval gb db) ∧ (ICan gr dr) ∧ (nr ≤ na + nb)) := by
 have ⟨la, ka, ma⟩ := ha.lkm
 replace ha := ha.low
 have ⟨lb, kb, mb⟩ := hb.lkm
 replace hb := hb.low
 refine enter func33 rfl ntmps33 rfl (rS fun K1 I => sO (oBox [(.bool ga), (.slice Aa na ca)] rfl rfl (fun g2 w3 a8 J a9 K => sO (oBox [(.bool gb), (.slice Ab nb cb)] rfl rfl (fun g8 w9 a0 p a1 z => sO (oAlloc [(.bool false), (.slice none 0 0)] zero25 rfl (fun y b0 a2 i a3 A => sK I (wp_seq_k fun b1 B => dBegin (fun b => b = y) mixed (fun b2 f a4 => dV 0 rfl (fun _ _ => evFA 0 fa25_0 rfl rfl) ?_)))))))))
 have C := (p.trans i).trans f
 have q := (K.ext C)
 refine dV 1 rfl (fun _ hf => evLoadB one4 rfl (q.frm hf q1) rfl) (dV 2 rfl (fun _ _ => evFA 0 fa25_0 rfl rfl) ?_)
 have D := i.trans f
 have r := (z.ext D)
 refine dV 3 rfl (fun _ hf => evLoadB one4 rfl (r.frm hf q1) rfl) (dV 4 rfl (fun _ _ => evNeqB _ underlying4 rfl rfl rfl) (dV 5 rfl (fun _ _ => evFA 1 fa25_1 rfl rfl) (dV 6 rfl (fun _ hf => evLoadB one23 rfl (q.frm hf q1) rfl) (dV 7 rfl (fun _ _ => evFA 1 fa25_1 rfl rfl) (dV 8 rfl (fun _ hf => evLoadB one23 rfl (r.frm hf q1) rfl) ?_)))))
 have j := ((J.trans p).trans i).trans f
 have L := (ha.ext j)
 have M := (hb.ext j)
 refine dOp 9 rfl rfl (by kernel_rfl) (oCall rfl call73 (natural_Mul L M Qo) rfl ?_)
 rintro _ b3 ⟨P, Q, R, S, rfl, g, m, E, u, T⟩
 refine ⟨(Frm.of_ext g), ?_⟩
 have a5 := g.size
 have ⟨n, U, V⟩ := m.lkm
 refine dOp 10 rfl rfl (by kernel_rfl) (oCall rfl call45 (integer_signed m) rfl ?_)
 rintro _ b4 ⟨a, c, d, e, x, rfl, h, o, s, t, W⟩
 refine ⟨(Frm.of_ext h), ?_⟩
 have a6 := h.size
 have ⟨X, Y, Z⟩ := o.lkm
 have F := (f.trans g).trans h
 have G := (A.ext F)
 refine dOp 11 rfl rfl (by kernel_rfl) (oStore [(.bool a), (.slice c d e)] rfl rfl rfl sz25 rfl G Qn (fun N k a7 l => ?_))
 replace l : Blk N y 25 [(.bool a), (.slice c d e)] := l
 refine ⟨k, dDone (by kernel_rfl) (xN (B _ _ (wp_ret (ret1 (.agg #[(.bool a), (.slice c d e)]) results33 (resB [(.bool a), (.slice c d e)] agg25 sz25 rfl l) ?_))))⟩
 have O := (o.frmB k q3)
 have H := ((j.trans g).trans h).rx k
 exact ⟨a, c, d, e, x, rfl, (Frm.mono H q4), (NatR.sub O q5), (by rw [signed_val s t n]; exact imul_val E), (signed_can s t n u), (by omega)⟩
end Go.Proofs.YtneolcopompkaaaGreatDoor
