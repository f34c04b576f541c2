/-
  Walks of the roots of small numbers and of the bound.
-/
import Derived.Test.YtneolcopompkaaaGreatDoorHen1
import Derived.Test.YtneolcopompkaaaGreatDoorUni6
import Derived.Test.YtneolcopompkaaaGreatDoorLibB
namespace Go.Proofs.YtneolcopompkaaaGreatDoor
open Go.RowKit Go.Gx Tryz
theorem bits_Len64 {w : World} {x1 : Nat} (b1 : x1 < 18446744073709551616) (h8 : x1 < 256) : Calls Tryz.prog 141 #[(.int .u64 x1)] w (Ret fun v w' => ∃ (xr : Nat), v = (.int .i64 xr) ∧ Ext w w' ∧ xr ≤ 9223372036854775807 ∧ (x1 < 2 ^ xr) ∧ (x1 = 0 ∨ 2 ^ (xr - 1) ≤ x1) ∧ (xr ≤ 8)) := by
 refine enter func141 rfl ntmps141 rfl (rS fun j a => sAi rfl (sK a (wp_seq_k fun k b => rS fun l c => sMi rfl (sV (evGeq false rfl rfl (dF Qo)) (sK c (cF rfl (wp_skip (xN (b _ _ (wp_seq_k fun m d => rS fun o e => sMi rfl (sV (evGeq false rfl rfl (dF Qo)) (sK e (cF rfl (wp_skip (xN (d _ _ (wp_seq_k fun p f => rS fun q g => sMi rfl (sV (evGeq false rfl rfl (dF Qo)) (sK g (cF rfl (wp_skip (xN (f _ _ (rS fun r h => sMi rfl (sMi rfl (sV (evConv ((x1 : Int)) underlying100 underlying5 rfl (wU8 Qo)) (sV (v := (.int .u8 (((bl8 x1 : Nat) : Int)))) (evTab x1 underlying9 rfl (by kernel_rfl) rfl Qo Qo) ?_)))))))))))))))))))))))))))
 have i := (bl8_spec (x := x1) Qo).2.2.1
 refine sV (evConv (((bl8 x1 : Nat) : Int)) underlying5 underlying3 rfl (wI64 Qo)) (sV (evAdd (0 + (((bl8 x1 : Nat) : Int))) rfl rfl wI) (sAi rfl (sK h (wp_ret (ret1 (.int .i64 (((0 + (bl8 x1) : Nat) : Int))) results141 (resT cI) ?_)))))
 have hls := len_sh (x := x1) (s := 0) (y := x1) (n := 0 + (bl8 x1)) (by simp) (by omega) (by omega) (by omega)
 exact ⟨(0 + (bl8 x1)), rfl, (Frm.refl _ _), Qo, hls.1, hls.2.1, Qo⟩
theorem bits_Len {w : World} {x1 : Nat} (b1 : x1 < 18446744073709551616) (h8 : x1 < 256) : Calls Tryz.prog 120 #[(.int .u64 x1)] w (Ret fun v w' => ∃ (xr : Nat), v = (.int .i64 xr) ∧ Ext w w' ∧ xr ≤ 9223372036854775807 ∧ (x1 < 2 ^ xr) ∧ (x1 = 0 ∨ 2 ^ (xr - 1) ≤ x1) ∧ (xr ≤ 8)) := by
 refine enter func120 rfl ntmps120 rfl (rS fun k e => sAi rfl (sK e (wp_seq_k fun l f => cF rfl (wp_skip (xN (f _ _ (rS fun m g => sMi rfl (sO (oCall rfl call141 (bits_Len64 (x1 := x1) Qo Qo) rfl ?_)))))))))
 rintro _ n ⟨a, rfl, b, h, c, d, i⟩
 have j := b.size
 refine sAi rfl (sK g (wp_ret (ret1 (.int .i64 a) results120 (resT rfl) ?_)))
 exact ⟨(a), rfl, b, Qo, c, d, Qo⟩
theorem natural_BitLen {w : World} {Sa : Nat → Prop} {Aa : Option Addr} {na ca : Nat} {da : List Nat} (ha : NatR w Sa Aa na ca da) (hva : val da < 4294967296) : Calls Tryz.prog 148 #[(.slice Aa na ca)] w (Ret fun v w' => ∃ (xr : Nat), v = (.int .i64 xr) ∧ Ext w w' ∧ xr ≤ 9223372036854775807 ∧ (val da < 2 ^ xr) ∧ (val da = 0 ∨ 2 ^ (xr - 1) ≤ val da) ∧ (xr ≤ 32)) := by
 have ⟨la, ka, ma⟩ := ha.lkm
 replace ha := ha.low
 refine enter func148 rfl ntmps148 rfl (rS fun N s => sAi rfl (sK s (rS fun O t => sMs rfl (sO (oCall rfl call87 (natural_trim ha) rfl ?_)))))
 rintro _ P ⟨A, a, B, n, rfl, d, c, e, C⟩
 have H := d.size
 have ⟨f, D, E⟩ := c.lkm
 have I := trim_one1 e hva
 refine sAs rfl (sK t (wp_seq_k fun Q u => rS fun R k => sMs rfl (sV (evLen underlying23 rfl) ?_)))
 by_cases g : ((a : Int)) = 0
 ·refine sV (evEql true rfl rfl (dT g)) (sK k (cT rfl (rS fun J o => sAi rfl (sK o (wp_ret (xR (ret1 (.int .i64 (0)) results148 (resT rfl) ?_)))))))
  have l := val_trim0 e f Qo
  exact ⟨(0), rfl, d, (by omega), (by rw [l]; decide), (.inl l), (by omega)⟩
 ·refine sV (evEql false rfl rfl (dF g)) (sK k (cF rfl (wp_skip (xN (u _ _ (rS fun K p => sMs rfl (sV (evLen underlying23 rfl) (sV (evSub (((a : Int)) - 1) rfl rfl wI) (sV (evMul (32 * (((a : Int)) - 1)) rfl rfl wI) (sMs rfl (sMs rfl (sV (evLen underlying23 rfl) (sV (evSub (((a : Int)) - 1) rfl rfl wI) ?_)))))))))))))
  obtain ⟨L, x, rfl⟩ := c.base Qo
  refine sV (evIx (a - 1) underlying23 sz26 rfl rfl (x + (a - 1))) ?_
  have F := c.lt (a - 1)
  refine sV (evLoad one26 rfl (c.cell Qo)) (sO (oCall rfl call140 (bits_Len32 (x1 := n.getD (a - 1) 0) Qo) rfl ?_))
  rintro _ M ⟨b, rfl, h, y, i, j, z⟩
  have G := h.size
  refine sV (evAdd ((32 * (((a : Int)) - 1)) + ((b : Int))) rfl rfl wI) (sAi rfl (sK p (wp_ret (ret1 (.int .i64 ((((32 * (a - 1)) + b : Nat) : Int))) results148 (resT cI) ?_))))
  have m := val_trim1 e f Qo; have hxr : (32 * (a - 1)) + b = b := by omega
  have q := d.trans h
  exact ⟨((32 * (a - 1)) + b), rfl, q, (by omega), (by rw [hxr, m]; have r := i; simpa [show a - 1 = 0 by omega] using r), (by rw [hxr, m]; have r := j; simpa [show a - 1 = 0 by omega] using r), (by omega)⟩
theorem division_power {w : World} {Sa : Nat → Prop} {Aa : Option Addr} {na ca : Nat} {da : List Nat} {xn : Nat} (ha : NatR w Sa Aa na ca da) (bn : xn ≤ 9223372036854775807) (hna : na ≤ 16) (hn2 : xn = 2) : Calls Tryz.prog 152 #[(.slice Aa na ca), (.int .i64 xn)] w (Ret fun v w' => ∃ (Ar : Option Addr) (nr : Nat) (cr : Nat) (dr : List Nat), v = (.slice Ar nr cr) ∧ Ext w w' ∧ NatR w' (fun b => w.heap.size ≤ b) Ar nr cr dr ∧ (val dr = val da * val da) ∧ (Canon isZ dr) ∧ (nr ≤ 64)) := by
 have ⟨la, ka, ma⟩ := ha.lkm
 replace ha := ha.low
 refine enter func152 rfl ntmps152 rfl (rS fun K1 a0 => sAs rfl (sK a0 (rS fun K2 a1 => sO (oCall rfl call75 (natural_Of (x1 := 1) Qo) rfl ?_))))
 rintro _ w4 ⟨K, L, M, N, rfl, i, j, a2, O, c1⟩
 have d1 := i.size
 have ⟨c2, c3, c4⟩ := j.lkm
 refine sAs rfl (sK a1 (wp_seq_k fun K8 a3 => rS fun K9 a4 => sMi rfl (sV (evConv ((xn : Int)) underlying3 underlying139 rfl (wU64 Qo)) (sO (oCall rfl call120 (bits_Len (x1 := xn) Qo Qo) rfl ?_)))))
 rintro _ a5 ⟨u, rfl, c, b1, y, z, b2⟩
 have c5 := c.size
 have hlen := len_two hn2 y z
 refine sV (evSub (((u : Int)) - 1) rfl rfl wI) (sAi rfl (sK a4 (wp_block ?_)))
 have a6 := (j.ext c)
 refine lLoop (fun m e w_ => ∃ (k : Nat) (Ar : Option Addr) (nR : Nat) (cr : Nat) (dR : List Nat), m = k ∧ e 0 = (.slice Aa na ca) ∧ e 1 = (.int .i64 xn) ∧ e 5 = (.slice Ar nR cr) ∧ e 6 = (.int .i64 ((k : Int) - 1)) ∧ Frm (fun b => False) a5 w_ ∧ (k ≤ 2) ∧ (NatR w_ (fun b => w.heap.size ≤ b) Ar nR cr dR) ∧ (k = 2 → val dR = 1 ∧ nR ≤ 2) ∧ (k = 1 → val dR = val da ∧ nR ≤ 20) ∧ (k = 0 → val dR = val da * val da ∧ nR ≤ 64) ∧ (Canon isZ dR)) ((2)) ?_ ?_
 ·refine ⟨(2), (K), (L), (M), (N), rfl, rfl, rfl, rfl, cI, (Frm.refl _ _), ?_, ?_, ?_, ?_, ?_, ?_⟩
  ·omega
  ·exact NatR.sub a6 q5
  ·exact fun _ => ⟨a2, by omega⟩
  ·intro h; exfalso; omega
  ·intro h; exfalso; omega
  ·exact O
 ·rintro d2 d3 d4 ⟨k, Ar, nR, cr, dR, c6, P, Q, R, S, a, hk, hR, h2, h1, h0, hcR⟩
  obtain ⟨d5, rfl⟩ := sq4 P Q R S
  have c7 := a.size
  have ⟨lR, kR, mR⟩ := hR.lkm; have hnR : nR ≤ 64 := Qo; have hdv : 2 / 2 ^ (k - 1) ≤ 2 := Nat.div_le_self _ _
  refine wp_seq_k fun d6 T => rS fun d7 l => sMi rfl ?_
  by_cases n : ((k : Int) - 1) ≥ 0
  ·refine sV (evGeq true rfl rfl (dT n)) (sK l (cT rfl (wp_skip (xN (T _ _ (wp_seq_k fun d8 o => wp_block (rS fun d9 U => sMs rfl (sMs rfl (sO (oCall rfl call73 (natural_Mul hR hR Qo) rfl ?_))))))))))
   rintro _ e0 ⟨A, B, C, D, rfl, d, f, p, E, b3⟩
   have c8 := d.size
   have ⟨b4, b5, b6⟩ := f.lkm
   refine sAs rfl (sK U (rS fun e1 q => sMi rfl (sMi rfl (sV (evConv ((k : Int) - 1) underlying3 underlying139 rfl (wU64 Qo)) (sV (evShr (((2 / 2 ^ (k - 1) : Nat) : Int)) rfl rfl Qo (by subst hn2; exact shrE (x := 2) (s := k - 1) Qo Qo (by show _ ≤ 64; omega))) (sV (v := (.int .i64 ((((2 / 2 ^ (k - 1)) % 2 : Nat) : Int)))) (evAndOne rfl rfl Qo) ?_))))))
   by_cases r : ((((2 / 2 ^ (k - 1)) % 2 : Nat) : Int)) ≠ 0
   ·refine sV (evNeq true rfl rfl (dT r)) ?_
    subst hn2; have hkk := pw2_first Qo hk Qo
    refine sK q (cT rfl (wp_region_lit (sMs rfl (sMs rfl ?_))))
    have V := ((i.trans c).trans a).trans d
    have b0 := (ha.ext V)
    refine sO (oCall rfl call73 (natural_Mul f b0 Qo) rfl ?_)
    rintro _ e2 ⟨F, G, H, I, rfl, t, g, W, J, b7⟩
    have c9 := t.size
    have ⟨b8, b9, c0⟩ := g.lkm
    refine sAs rfl (sDone (bN (xN (o _ _ (wp_region_lit (sMi rfl (sV (evSub (((k : Int) - 1) - 1) rfl rfl wI) (sAi rfl (sDone ?_)))))))))
    have X := d.trans t
    refine again ((k - 1)) Qo ⟨(k - 1), (F), (G), (H), (I), rfl, rfl, rfl, rfl, cI, (a.trans X), ?_, ?_, ?_, ?_, ?_, ?_⟩
    ·omega
    ·exact NatR.sub g q5
    ·intro h; exfalso; omega
    ·exact fun _ => ⟨by rw [W, p, (h2 hkk).1]; omega, by have h9 := (h2 hkk).2; omega⟩
    ·intro h; exfalso; omega
    ·exact J
   ·refine sV (evNeq false rfl rfl (dF r)) ?_
    subst hn2; have hkk := pw2_last Qo hk Qo
    refine sK q (cF rfl (wp_skip (bN (xN (o _ _ (wp_region_lit (sMi rfl (sV (evSub (((k : Int) - 1) - 1) rfl rfl wI) (sAi rfl (sDone (again ((k - 1)) Qo ⟨(k - 1), (A), (B), (C), (D), rfl, rfl, rfl, rfl, cI, (a.trans d), ?_, ?_, ?_, ?_, ?_, ?_⟩)))))))))))
    ·omega
    ·exact NatR.sub f q5
    ·intro h; exfalso; omega
    ·intro h; exfalso; omega
    ·exact fun _ => ⟨by rw [p, (h1 hkk).1], by have h9 := (h1 hkk).2; omega⟩
    ·exact E
  ·refine sV (evGeq false rfl rfl (dF n)) (sK l (cF rfl (wp_exit (xE (xE (bE (xN (a3 _ _ (rS fun e3 Y => sMs rfl (sAs rfl (sK Y (wp_ret (ret1 (.slice Ar nR cr) results152 (resT rfl) ?_)))))))))))))
   have Z := (i.trans c).trans a
   exact ⟨Ar, nR, cr, dR, rfl, Z, (NatR.sub hR q5), (h0 Qo).1, hcR, (h0 Qo).2⟩
theorem division_smallRoot {w : World} {Sa : Nat → Prop} {Aa : Option Addr} {na ca : Nat} {da : List Nat} {xk : Nat} {xs : Nat} (ha : NatR w Sa Aa na ca da) (bk : xk ≤ 9223372036854775807) (bs : xs ≤ 9223372036854775807) (hna : na ≤ 1024) (hk2 : xk = 2) (hs8 : xs ≤ 8) (hva : val da < 2 ^ xs * 2 ^ xs) : Calls Tryz.prog 149 #[(.slice Aa na ca), (.int .i64 xk), (.int .i64 xs)] w (Ret fun v w' => ∃ (Ar : Option Addr) (nr : Nat) (cr : Nat) (dr : List Nat), v = (.slice Ar nr cr) ∧ Ext w w' ∧ NatR w' (fun b => w.heap.size ≤ b) Ar nr cr dr ∧ (val dr * val dr ≤ val da ∧ val da < (val dr + 1) * (val dr + 1)) ∧ (Canon isZ dr) ∧ (nr ≤ 2)) := by
 have ⟨la, ka, ma⟩ := ha.lkm
 replace ha := ha.low
 refine enter func149 rfl ntmps149 rfl (rS fun K1 O => sAs rfl (sK O (rS fun K2 P => sAi rfl (sK P (wp_seq_k fun K3 Q => rS fun K4 R => sMi rfl (sV (evSub (((xs : Int)) - 1) rfl rfl wI) (sAi rfl (sK R (wp_block ?_)))))))))
 refine lLoop (fun m e w_ => ∃ (k : Nat) (s : Nat), m = k ∧ e 0 = (.slice Aa na ca) ∧ e 1 = (.int .i64 xk) ∧ e 7 = (.int .u64 s) ∧ e 8 = (.int .i64 ((k : Int) - 1)) ∧ Frm (fun b => False) w w_ ∧ (k ≤ 8) ∧ (RtI (val da) s k) ∧ (s + 2 ^ k ≤ 256 ∧ s < 256)) ((xs)) ?_ ?_
 ·refine ⟨(xs), (0), rfl, rfl, rfl, cI, cI, (Frm.refl _ _), ?_, ?_, ?_⟩
  ·omega
  ·exact RtI.start hva
  ·have S : 2 ^ xs ≤ 2 ^ 8 := Nat.pow_le_pow_right Qo hs8; omega
 ·rintro m5 c3 w6 ⟨k, s, b7, T, hs8, U, E, a, hk, hI, hs⟩
  obtain ⟨c4, rfl⟩ := sq4 T hs8 U E
  have b8 := a.size
  have ⟨c5, c6⟩ := hs
  refine wp_seq_k fun c7 F => rS fun c8 p => sMi rfl ?_
  by_cases q : ((k : Int) - 1) ≥ 0
  ·refine sV (evGeq true rfl rfl (dT q)) (sK p (cT rfl (wp_skip (xN (F _ _ (wp_seq_k fun c9 r => wp_block (rS fun d0 G => sMi rfl (sMi rfl (sV (evConv ((k : Int) - 1) underlying3 underlying139 rfl (wU64 Qo)) ?_)))))))))
   have hpp := pow_pred (k := k) Qo; have d1 : 0 < 2 ^ (k - 1) := Nat.two_pow_pos _
   refine sV (evShl (((2 ^ (k - 1) : Nat) : Int)) rfl rfl (by omega) (by rw [← Nat.one_mul (2 ^ (k - 1))]; exact shlE64u (x := 1) (s := k - 1) (by omega) (by omega) (by omega) (by omega))) (sV (v := (.int .u64 (((s + 2 ^ (k - 1) : Nat) : Int)))) (evOr64 rfl rfl (by omega) (by omega) (hI.or (by omega))) (sAi rfl (sK G (rS fun d2 t => sMi rfl (sO (oCall rfl call75 (natural_Of (x1 := s + 2 ^ (k - 1)) (by omega)) rfl ?_))))))
   rintro _ d3 ⟨W, X, Y, Z, rfl, c, h, H, a0, a1⟩
   have b9 := c.size
   have ⟨a2, a3, a4⟩ := h.lkm
   refine sMi rfl (sO (oCall rfl call152 (division_power h (xn := xk) Qo Qo Qo) rfl ?_))
   rintro _ d4 ⟨a5, a6, a7, A, rfl, d, i, f, a8, a9⟩
   have c0 := d.size
   have ⟨b0, b1, b2⟩ := i.lkm
   replace f : val A = (s + 2 ^ (k - 1)) * (s + 2 ^ (k - 1)) := (by rw [f, H])
   refine sMs rfl ?_
   have I := (a.trans c).trans d
   have V := (ha.ext I)
   refine sO (oCall rfl call47 (natural_Cmp i V) rfl ?_)
   rintro _ d5 ⟨B, rfl, g, u⟩
   have c1 := g.size
   by_cases y : B ≤ 0
   ·refine sV (evLeq true rfl rfl (dT y)) (sK t (cT rfl (wp_region_lit (sMi rfl (sAi rfl (sDone (bN (xN (r _ _ (wp_region_lit (sMi rfl (sV (evSub (((k : Int) - 1) - 1) rfl rfl wI) (sAi rfl (sDone ?_))))))))))))))
    have J := (c.trans d).trans g
    refine again ((k - 1)) Qo ⟨(k - 1), (s + 2 ^ (k - 1)), rfl, rfl, rfl, cI, cI, (a.trans J), ?_, ?_, ?_⟩
    ·omega
    ·exact hI.yes Qo rfl f ((cmpN_le u).1 Qo)
    ·omega
   ·refine sV (evLeq false rfl rfl (dF y)) (sK t (cF rfl (wp_skip (bN (xN (r _ _ (wp_region_lit (sMi rfl (sV (evSub (((k : Int) - 1) - 1) rfl rfl wI) (sAi rfl (sDone ?_)))))))))))
    have K := (c.trans d).trans g
    refine again ((k - 1)) Qo ⟨(k - 1), (s), rfl, rfl, rfl, cI, cI, (a.trans K), ?_, ?_, ?_⟩
    ·omega
    ·exact hI.no Qo rfl f (Nat.lt_of_not_le fun S => absurd ((cmpN_le u).2 S) Qo)
    ·omega
  ·refine sV (evGeq false rfl rfl (dF q)) (sK p (cF rfl (wp_exit (xE (xE (bE (xN (Q _ _ (rS fun d6 L => sMi rfl (sO (oCall rfl call75 (natural_Of (x1 := s) Qo) rfl ?_)))))))))))
   rintro _ d7 ⟨j, l, n, C, rfl, z, o, M, D, b3⟩
   have c2 := z.size
   have ⟨b4, b5, b6⟩ := o.lkm
   refine sAs rfl (sK L (wp_ret (ret1 (.slice j l n) results149 (resT rfl) ?_)))
   have N := a.trans z
   exact ⟨j, l, n, C, rfl, N, (NatR.sub o q5), (by rw [M]; exact hI.done (by omega)), D, (by omega)⟩
theorem division_root {w : World} {Sa : Nat → Prop} {Aa : Option Addr} {na ca : Nat} {da : List Nat} {xk : Nat} (ha : NatR w Sa Aa na ca da) (bk : xk ≤ 9223372036854775807) (hna : na ≤ 1024) (hk2 : xk = 2) (hva : 1 ≤ val da ∧ val da < 65536) : Calls Tryz.prog 128 #[(.slice Aa na ca), (.int .i64 xk)] w (Ret fun v w' => ∃ (Ar : Option Addr) (nr : Nat) (cr : Nat) (dr : List Nat), v = (.slice Ar nr cr) ∧ Ext w w' ∧ NatR w' (fun b => w.heap.size ≤ b) Ar nr cr dr ∧ (val dr * val dr ≤ val da ∧ val da < (val dr + 1) * (val dr + 1)) ∧ (Canon isZ dr) ∧ (nr ≤ 2)) := by
 have ⟨la, ka, ma⟩ := ha.lkm
 replace ha := ha.low
 refine enter func128 rfl ntmps128 rfl (rS fun K1 F => sAs rfl (sK F (rS fun K2 G => sMs rfl (sO (oCall rfl call148 (natural_BitLen ha Qo) rfl ?_)))))
 rintro _ w4 ⟨a, rfl, c, R, l, u, S⟩
 have X := c.size
 have T := len_16 u hva.2 Qo
 refine sAi rfl (sK G (wp_seq_k fun K7 H => rS fun K8 s => sMi rfl (sMi rfl ?_)))
 by_cases t : ((a : Int)) ≤ ((xk : Int))
 ·refine sV (evLeq true rfl rfl (dT t)) (sK s (cT rfl (rS fun Y x => sO (oCall rfl call75 (natural_Of (x1 := 1) Qo) rfl ?_))))
  rintro _ Z ⟨d, e, f, o, rfl, m, g, y, p, J⟩
  have U := m.size
  have ⟨K, L, M⟩ := g.lkm
  refine sAs rfl (sK x (wp_ret (xR (ret1 (.slice d e f) results128 (resT rfl) ?_))))
  have z := c.trans m
  exact ⟨d, e, f, o, rfl, z, (NatR.sub g q5), (by rw [y]; exact root_little l (by omega) hva.1), p, (by omega)⟩
 ·refine sV (evLeq false rfl rfl (dF t)) (sK s (cF rfl (wp_skip (xN (H _ _ (rS fun a0 A => sMi rfl (sV (evSub (((a : Int)) - 1) rfl rfl wI) (sMi rfl (sV (evQuo ((((a - 1) / 2 : Nat) : Int)) rfl rfl Qo (by subst hk2; exact quoEi64 Qo Qo Qo)) (sV (evAdd (((((a - 1) / 2 : Nat) : Int)) + 1) rfl rfl wI) (sAi rfl (sK A (wp_seq_k fun a1 V => rS fun a2 B => sMi rfl (sV (evLeq true rfl rfl (dT Qo)) (sK B (cT rfl (rS fun a3 C => sMs rfl (sMi rfl (sMi rfl ?_)))))))))))))))))))
  have I := (ha.ext c)
  refine sO (oCall rfl call149 (division_smallRoot I (xk := xk) (by omega) (xs := ((a - 1) / 2) + 1) (by omega) (by omega) (by omega) (by omega) (root_size l)) (by rw [show (((((a - 1) / 2 : Nat) : Int)) + 1 : Int) = ((((a - 1) / 2) + 1 : Nat) : Int) by omega]; rfl) ?_)
  rintro _ a4 ⟨h, i, j, q, rfl, n, k, D, r, N⟩
  have W := n.size
  have ⟨O, P, Q⟩ := k.lkm
  refine sAs rfl (sK C (wp_ret (xR (ret1 (.slice h i j) results128 (resT rfl) ?_))))
  have E := c.trans n
  exact ⟨h, i, j, q, rfl, E, (NatR.sub k q5), D, r, Qo⟩
theorem division_Root {w : World} {ga : Bool} {Sa : Nat → Prop} {Aa : Option Addr} {na ca : Nat} {da : List Nat} {xk : Nat} (ha : NatR w Sa Aa na ca da) (bk : xk ≤ 9223372036854775807) (hna : na ≤ 1024) (hk2 : xk = 2) (hva : 0 ≤ zval ga da ∧ zval ga da < 65536) : Calls Tryz.prog 111 #[(.agg #[(.bool ga), (.slice Aa na ca)]), (.int .i64 xk)] w (Ret fun v w' => ∃ (gr : Bool) (Ar : Option Addr) (nr : Nat) (cr : Nat) (dr : List Nat) (xo : Int), v = (.tuple #[(.agg #[(.bool gr), (.slice Ar nr cr)]), (.int .i64 (xo))]) ∧ Ext w w' ∧ NatR w' (fun b => w.heap.size ≤ b) Ar nr cr dr ∧ (xo = 0) ∧ (0 ≤ zval gr dr ∧ zval gr dr * zval gr dr ≤ zval ga da ∧ zval ga da < (zval gr dr + 1) * (zval gr dr + 1)) ∧ (ICan gr dr) ∧ (nr ≤ na + 2)) := by
 have ⟨la, ka, ma⟩ := ha.lkm
 replace ha := ha.low
 refine enter func111 rfl ntmps111 rfl (rS fun K1 a6 => sO (oBox [(.bool ga), (.slice Aa na ca)] rfl rfl (fun g2 w3 f2 a7 f3 a8 => sO (oAlloc [(.bool false), (.slice none 0 0)] zero25 rfl (fun g8 w9 e2 z e3 A => sAi rfl (sK a6 (wp_seq_k fun f4 O => rS fun f5 P => ?_)))))))
 have B := (a8.ext z)
 refine sV (evLoadAB [(.bool ga), (.slice Aa na ca)] agg25 sz25 rfl B rfl) ?_
 have l := a7.trans z
 have N := (ha.ext l)
 refine sO (oCall rfl call29 (integer_Sign N) rfl ?_)
 rintro _ f6 ⟨b7, rfl, c, Q⟩
 have e4 := c.size
 have hsg := sgn_rng Q
 refine sV (evLss false rfl rfl (dF Qo)) (sMb rfl (sEv (v := (.int .i64 xk)) (rfl) rfl rfl (sEv (v := (.bool false)) (evLss false rfl rfl (dF Qo)) rfl rfl (sV (v := (.bool false)) (rfl) (sK P (cF rfl (wp_skip (xN (O _ _ (wp_seq_k fun f7 R => rS fun f8 C => ?_))))))))))
 have m := (B.ext c)
 refine sV (evLoadAB [(.bool ga), (.slice Aa na ca)] agg25 sz25 rfl m rfl) ?_
 have D := (N.ext c)
 refine sO (oCall rfl call108 (division_isZero D) rfl ?_)
 rintro _ f9 ⟨H, rfl, a, E⟩
 have e5 := a.size
 refine sMb rfl ?_
 cases H
 ·refine sEv (v := (.int .i64 xk)) (rfl) rfl rfl (sEv (v := (.bool false)) (evEql false rfl rfl (dF Qo)) rfl rfl (sV (v := (.bool false)) (rfl) (sK C (cF rfl (wp_skip (xN (R _ _ (wp_seq_k fun g0 S => ?_))))))))
  have g1 := of_decide_eq_false E.symm
  refine wp_region_lit (sV (evFA 1 fa25_1 rfl rfl) ?_)
  have T := (m.ext a)
  refine sV (evLoadB one23 rfl T rfl) ?_
  have b0 := (D.ext a)
  refine sO (oCall rfl call86 (natural_Normal b0 Qo) rfl ?_)
  rintro _ g3 ⟨b8, b9, c0, I, rfl, n, t, U, c1⟩
  have e6 := n.size
  have ⟨c2, c3, c4⟩ := t.lkm
  have hvn : val I = val da := (by rw [U, val_trim]); have hab := natAbs_val ga da
  refine sMi rfl (sO (oCall rfl call128 (division_root t (xk := xk) Qo Qo Qo Qo) rfl ?_))
  rintro _ g4 ⟨c5, c6, c7, c8, rfl, o, u, V, c9, d0⟩
  have e7 := o.size
  have ⟨d1, d2, d3⟩ := u.lkm
  refine sO (oCall rfl call44 (integer_From u Qo) rfl ?_)
  rintro _ g5 ⟨d, e, f, g, J, rfl, p, x, W, K, d4⟩
  have e8 := p.size
  have ⟨d5, d6, d7⟩ := x.lkm
  have X := (((c.trans a).trans n).trans o).trans p
  have Y := (A.ext X)
  refine sO (oStore [(.bool d), (.slice e f g)] rfl rfl rfl sz25 rfl Y Qn (fun b1 F e9 q => ?_))
  replace q : Blk b1 g8 25 [(.bool d), (.slice e f g)] := q
  refine sAi rfl (sK S (wp_ret (ret2 (.agg #[(.bool d), (.slice e f g)]) (.int .i64 (0)) results111 (resB [(.bool d), (.slice e f g)] agg25 sz25 rfl q) (resT rfl) ?_)))
  have b2 := (x.frmB F q3)
  have Z := (((((l.trans c).trans a).trans n).trans o).trans p).rx F
  exact ⟨d, e, f, g, J, (0), rfl, (Frm.mono Z q4), (NatR.sub b2 q5), rfl, (by rw [W, zval_false]; exact sq_cast V hvn hab hva.1), K, (by omega)⟩
 ·refine sSkip rfl rfl (sSkip rfl rfl (sV (v := (.bool true)) (rfl) (sK C (cT rfl (wp_seq_k fun g6 a0 => ?_)))))
  have b3 := of_decide_eq_true E.symm
  refine wp_region_lit ?_
  have a1 := (m.ext a)
  refine sV (evLoadAB [(.bool ga), (.slice Aa na ca)] agg25 sz25 rfl a1 rfl) ?_
  have b4 := (D.ext a)
  refine sO (oCall rfl call85 (integer_Normal b4 Qo) rfl ?_)
  rintro _ g7 ⟨h, i, j, k, L, rfl, r, y, a2, M, d8⟩
  have f0 := r.size
  have ⟨d9, e0, e1⟩ := y.lkm
  have a3 := (c.trans a).trans r
  have a4 := (A.ext a3)
  refine sO (oStore [(.bool h), (.slice i j k)] rfl rfl rfl sz25 rfl a4 Qn (fun b5 G f1 s => ?_))
  replace s : Blk b5 g8 25 [(.bool h), (.slice i j k)] := s
  refine sAi rfl (sK a0 (wp_ret (xR (ret2 (.agg #[(.bool h), (.slice i j k)]) (.int .i64 (0)) results111 (resB [(.bool h), (.slice i j k)] agg25 sz25 rfl s) (resT rfl) ?_))))
  have b6 := (y.frmB G q3)
  have a5 := (((l.trans c).trans a).trans r).rx G
  exact ⟨h, i, j, k, L, (0), rfl, (Frm.mono a5 q4), (NatR.sub b6 q5), rfl, (by rw [a2, b3]; decide), M, (by omega)⟩
theorem division_Sqrt {w : World} {ga : Bool} {Sa : Nat → Prop} {Aa : Option Addr} {na ca : Nat} {da : List Nat} (ha : NatR w Sa Aa na ca da) (hna : na ≤ 1024) (hva : 0 ≤ zval ga da ∧ zval ga da < 65536) : Calls Tryz.prog 76 #[(.agg #[(.bool ga), (.slice Aa na ca)])] w (Ret fun v w' => ∃ (gr : Bool) (Ar : Option Addr) (nr : Nat) (cr : Nat) (dr : List Nat) (gq : Bool) (Aq : Option Addr) (nq : Nat) (cq : Nat) (dq : List Nat) (xo : Int), v = (.tuple #[(.agg #[(.bool gr), (.slice Ar nr cr)]), (.agg #[(.bool gq), (.slice Aq nq cq)]), (.int .i64 (xo))]) ∧ Ext w w' ∧ NatR w' (fun b => w.heap.size ≤ b) Ar nr cr dr ∧ NatR w' (fun b => w.heap.size ≤ b) Aq nq cq dq ∧ (xo = 0) ∧ (0 ≤ zval gr dr ∧ zval gr dr * zval gr dr ≤ zval ga da ∧ zval ga da < (zval gr dr + 1) * (zval gr dr + 1)) ∧ (ICan gr dr) ∧ (nr ≤ na + 2)) := by
 have ⟨la, ka, ma⟩ := ha.lkm
 replace ha := ha.low
 refine enter func76 rfl ntmps76 rfl (rS fun K1 A8 => sO (oBox [(.bool ga), (.slice Aa na ca)] rfl rfl (fun g2 w3 X3 A9 X4 B0 => sO (oAlloc [(.bool false), (.slice none 0 0)] zero25 rfl (fun g8 w9 U1 l8 U2 u4 => sO (oAlloc [(.bool false), (.slice none 0 0)] zero25 rfl (fun x X5 U3 i7 U4 s => sAi rfl (sK A8 (rS fun X6 u5 => ?_)))))))))
 have u6 := l8.trans i7
 have l9 := (B0.ext u6)
 refine sV (evLoadAB [(.bool ga), (.slice Aa na ca)] agg25 sz25 rfl l9 rfl) ?_
 have q := (A9.trans l8).trans i7
 have y := (ha.ext q)
 refine sO (oCall rfl call111 (division_Root y (xk := 2) Qo Qo Qo Qo) rfl ?_)
 rintro _ X7 ⟨a, c, d, e, j, j5, rfl, h, l, M1, t, k, M2⟩
 have U5 := h.size
 have ⟨M3, M4, M5⟩ := l.lkm
 refine sV (v := (.tuple #[(.agg #[(.bool a), (.slice c d e)]), (.int .i64 (j5))])) (rfl) (sV (v := (.agg #[(.bool a), (.slice c d e)])) (rfl) (sV (v := (.int .i64 (j5))) (rfl) ?_))
 have u7 := i7.trans h
 have u8 := (u4.ext u7)
 refine sO (oStore [(.bool a), (.slice c d e)] rfl rfl rfl sz25 rfl u8 Qn (fun B1 g U6 e4 => ?_))
 replace e4 : Blk B1 g8 25 [(.bool a), (.slice c d e)] := e4
 refine sAi rfl (sK u5 (wp_seq_k fun X8 u9 => rS fun X9 v0 => sMi rfl (sV (evNeq false rfl rfl (dF Qo)) (sK v0 (cF rfl (wp_skip (xN (u9 _ _ (wp_seq_k fun Y0 u => dBegin (fun b => b = x ∨ b = g8) mixed (fun Y1 f U7 => ?_))))))))))
 have r := (h.rx g).xr f
 have v1 := (l9.frm r q1)
 refine dV 1 rfl (fun _ hf => evLoadAB [(.bool ga), (.slice Aa na ca)] agg25 sz25 rfl (v1.frm hf q1) rfl) (dThree 0 2 3 (by kernel_rfl) ?_ ?_ ?_)
 ·have a7 := (e4.ext f)
  refine dWp (i := 0) rfl rfl (oEv (v := (.agg #[(.bool a), (.slice c d e)])) (evLoadAB [(.bool a), (.slice c d e)] agg25 sz25 rfl a7 rfl) rfl ⟨Frm.refl _ _, dTwo 2 3 (by kernel_rfl) ?_ ?_⟩)
  ·refine dWp (i := 2) rfl rfl (oEv (v := (.agg #[(.bool a), (.slice c d e)])) (evLoadAB [(.bool a), (.slice c d e)] agg25 sz25 rfl a7 rfl) rfl ⟨Frm.refl _ _, dOp 3 rfl rfl (by kernel_rfl) (oEv (v := (.agg #[(.bool a), (.slice c d e)])) (evLoadAB [(.bool a), (.slice c d e)] agg25 sz25 rfl a7 rfl) rfl ⟨Frm.refl _ _, ?_⟩)⟩)
   have v2 := g.xr f
   have m0 := (l.frmB v2 q3)
   refine dOp 4 rfl rfl (by kernel_rfl) (oCall rfl call33 (integer_Mul m0 m0 Qo) rfl ?_)
   rintro _ Y2 ⟨M6, M7, M8, M9, N0, rfl, e5, j6, U8, N1, N2⟩
   refine ⟨(Frm.of_ext e5), ?_⟩
   have U9 := e5.size
   have ⟨N3, N4, N5⟩ := j6.lkm
   have m1 := r.xr e5
   have B2 := (y.frmB m1 q3)
   refine dOp 5 rfl rfl (by kernel_rfl) (oCall rfl call106 (integer_Sub B2 j6 Qo Qo) rfl ?_)
   rintro _ Y3 ⟨a8, a9, b0, b1, n4, rfl, e6, j7, V0, N6, N7⟩
   refine ⟨(Frm.of_ext e6), ?_⟩
   have V1 := e6.size
   have ⟨N8, N9, O0⟩ := j7.lkm
   have m2 := e5.trans e6
   have v3 := (a7.ext m2)
   refine dOp 6 rfl rfl (by kernel_rfl) (oStore [(.bool a), (.slice c d e)] rfl rfl rfl sz25 rfl v3 Qn (fun B3 e7 V2 i8 => ?_))
   replace i8 : Blk B3 g8 25 [(.bool a), (.slice c d e)] := i8
   refine ⟨(e7.mono q4), ?_⟩
   have v4 := (m1.xr e6).trans e7
   have v5 := (s.frm v4 q1)
   refine dOp 7 rfl rfl (by kernel_rfl) (oStore [(.bool a8), (.slice a9 b0 b1)] rfl rfl rfl sz25 rfl v5 Qn (fun B4 e8 V3 i9 => ?_))
   replace i9 : Blk B4 x 25 [(.bool a8), (.slice a9 b0 b1)] := i9
   refine ⟨(e8.mono q4), dAi 8 rfl rfl (dDone (by kernel_rfl) (xN (u _ _ (wp_ret ?_))))⟩
   have v6 := (i8.frm e8 q1)
   refine ret3 (.agg #[(.bool a), (.slice c d e)]) (.agg #[(.bool a8), (.slice a9 b0 b1)]) (.int .i64 (0)) results76 (resB [(.bool a), (.slice c d e)] agg25 sz25 rfl v6) (resB [(.bool a8), (.slice a9 b0 b1)] agg25 sz25 rfl i9) (resT rfl) ?_
   have v7 := (m2.rx e7).tr e8
   have B5 := (m0.frmB v7 q3)
   have v8 := e7.tr e8
   have B6 := (j7.frmB v8 q3)
   have v9 := ((((((q.trans h).rx g).xr f).xr e5).xr e6).trans e7).tr e8
   exact ⟨a, c, d, e, j, a8, a9, b0, b1, n4, (0), rfl, (Frm.mono v9 q4), (NatR.sub B5 q5), (NatR.sub B6 q5), rfl, t, k, Qo⟩
  ·refine dWp (i := 3) rfl rfl (oEv (v := (.agg #[(.bool a), (.slice c d e)])) (evLoadAB [(.bool a), (.slice c d e)] agg25 sz25 rfl a7 rfl) rfl ⟨Frm.refl _ _, dOp 2 rfl rfl (by kernel_rfl) (oEv (v := (.agg #[(.bool a), (.slice c d e)])) (evLoadAB [(.bool a), (.slice c d e)] agg25 sz25 rfl a7 rfl) rfl ⟨Frm.refl _ _, ?_⟩)⟩)
   have w0 := g.xr f
   have m3 := (l.frmB w0 q3)
   refine dOp 4 rfl rfl (by kernel_rfl) (oCall rfl call33 (integer_Mul m3 m3 Qo) rfl ?_)
   rintro _ Y4 ⟨O1, O2, O3, O4, O5, rfl, e9, j8, V4, O6, O7⟩
   refine ⟨(Frm.of_ext e9), ?_⟩
   have V5 := e9.size
   have ⟨O8, O9, P0⟩ := j8.lkm
   have m4 := r.xr e9
   have B7 := (y.frmB m4 q3)
   refine dOp 5 rfl rfl (by kernel_rfl) (oCall rfl call106 (integer_Sub B7 j8 Qo Qo) rfl ?_)
   rintro _ Y5 ⟨b2, b3, b4, b5, n5, rfl, f0, j9, V6, P1, P2⟩
   refine ⟨(Frm.of_ext f0), ?_⟩
   have V7 := f0.size
   have ⟨P3, P4, P5⟩ := j9.lkm
   have m5 := e9.trans f0
   have w1 := (a7.ext m5)
   refine dOp 6 rfl rfl (by kernel_rfl) (oStore [(.bool a), (.slice c d e)] rfl rfl rfl sz25 rfl w1 Qn (fun B8 f1 V8 j0 => ?_))
   replace j0 : Blk B8 g8 25 [(.bool a), (.slice c d e)] := j0
   refine ⟨(f1.mono q4), ?_⟩
   have w2 := (m4.xr f0).trans f1
   have w4 := (s.frm w2 q1)
   refine dOp 7 rfl rfl (by kernel_rfl) (oStore [(.bool b2), (.slice b3 b4 b5)] rfl rfl rfl sz25 rfl w4 Qn (fun B9 b6 P6 f4 => ?_))
   replace f4 : Blk B9 x 25 [(.bool b2), (.slice b3 b4 b5)] := f4
   refine ⟨(b6.mono q4), dAi 8 rfl rfl (dDone (by kernel_rfl) (xN (u _ _ (wp_ret ?_))))⟩
   have n6 := (j0.frm b6 q1)
   refine ret3 (.agg #[(.bool a), (.slice c d e)]) (.agg #[(.bool b2), (.slice b3 b4 b5)]) (.int .i64 (0)) results76 (resB [(.bool a), (.slice c d e)] agg25 sz25 rfl n6) (resB [(.bool b2), (.slice b3 b4 b5)] agg25 sz25 rfl f4) (resT rfl) ?_
   have n7 := (m5.rx f1).tr b6
   have w5 := (m3.frmB n7 q3)
   have n8 := f1.tr b6
   have w6 := (j9.frmB n8 q3)
   have n9 := ((((((q.trans h).rx g).xr f).xr e9).xr f0).trans f1).tr b6
   exact ⟨a, c, d, e, j, b2, b3, b4, b5, n5, (0), rfl, (Frm.mono n9 q4), (NatR.sub w5 q5), (NatR.sub w6 q5), rfl, t, k, Qo⟩
 ·have m := (e4.ext f)
  refine dWp (i := 2) rfl rfl (oEv (v := (.agg #[(.bool a), (.slice c d e)])) (evLoadAB [(.bool a), (.slice c d e)] agg25 sz25 rfl m rfl) rfl ⟨Frm.refl _ _, dTwo 0 3 (by kernel_rfl) ?_ ?_⟩)
  ·refine dWp (i := 0) rfl rfl (oEv (v := (.agg #[(.bool a), (.slice c d e)])) (evLoadAB [(.bool a), (.slice c d e)] agg25 sz25 rfl m rfl) rfl ⟨Frm.refl _ _, dOp 3 rfl rfl (by kernel_rfl) (oEv (v := (.agg #[(.bool a), (.slice c d e)])) (evLoadAB [(.bool a), (.slice c d e)] agg25 sz25 rfl m rfl) rfl ⟨Frm.refl _ _, ?_⟩)⟩)
   have o0 := g.xr f
   have j1 := (l.frmB o0 q3)
   refine dOp 4 rfl rfl (by kernel_rfl) (oCall rfl call33 (integer_Mul j1 j1 Qo) rfl ?_)
   rintro _ V9 ⟨C0, C1, C2, C3, C4, rfl, b7, h5, P7, C5, C6⟩
   refine ⟨(Frm.of_ext b7), ?_⟩
   have P8 := b7.size
   have ⟨C7, C8, C9⟩ := h5.lkm
   have k0 := r.xr b7
   have w7 := (y.frmB k0 q3)
   refine dOp 5 rfl rfl (by kernel_rfl) (oCall rfl call106 (integer_Sub w7 h5 Qo Qo) rfl ?_)
   rintro _ W0 ⟨z, A, B, C, m6, rfl, b8, h6, P9, D0, D1⟩
   refine ⟨(Frm.of_ext b8), ?_⟩
   have Q0 := b8.size
   have ⟨D2, D3, D4⟩ := h6.lkm
   have k1 := b7.trans b8
   have o1 := (m.ext k1)
   refine dOp 6 rfl rfl (by kernel_rfl) (oStore [(.bool a), (.slice c d e)] rfl rfl rfl sz25 rfl o1 Qn (fun w8 b9 Q1 f5 => ?_))
   replace f5 : Blk w8 g8 25 [(.bool a), (.slice c d e)] := f5
   refine ⟨(b9.mono q4), ?_⟩
   have o2 := (k0.xr b8).trans b9
   have o3 := (s.frm o2 q1)
   refine dOp 7 rfl rfl (by kernel_rfl) (oStore [(.bool z), (.slice A B C)] rfl rfl rfl sz25 rfl o3 Qn (fun x0 c0 Q2 f6 => ?_))
   replace f6 : Blk x0 x 25 [(.bool z), (.slice A B C)] := f6
   refine ⟨(c0.mono q4), dAi 8 rfl rfl (dDone (by kernel_rfl) (xN (u _ _ (wp_ret ?_))))⟩
   have o4 := (f5.frm c0 q1)
   refine ret3 (.agg #[(.bool a), (.slice c d e)]) (.agg #[(.bool z), (.slice A B C)]) (.int .i64 (0)) results76 (resB [(.bool a), (.slice c d e)] agg25 sz25 rfl o4) (resB [(.bool z), (.slice A B C)] agg25 sz25 rfl f6) (resT rfl) ?_
   have o5 := (k1.rx b9).tr c0
   have x1 := (j1.frmB o5 q3)
   have o6 := b9.tr c0
   have x2 := (h6.frmB o6 q3)
   have o7 := ((((((q.trans h).rx g).xr f).xr b7).xr b8).trans b9).tr c0
   exact ⟨a, c, d, e, j, z, A, B, C, m6, (0), rfl, (Frm.mono o7 q4), (NatR.sub x1 q5), (NatR.sub x2 q5), rfl, t, k, Qo⟩
  ·refine dWp (i := 3) rfl rfl (oEv (v := (.agg #[(.bool a), (.slice c d e)])) (evLoadAB [(.bool a), (.slice c d e)] agg25 sz25 rfl m rfl) rfl ⟨Frm.refl _ _, dTwo 0 4 (by kernel_rfl) ?_ ?_⟩)
   ·refine dWp (i := 0) rfl rfl (oEv (v := (.agg #[(.bool a), (.slice c d e)])) (evLoadAB [(.bool a), (.slice c d e)] agg25 sz25 rfl m rfl) rfl ⟨Frm.refl _ _, ?_⟩)
    have o8 := g.xr f
    have j2 := (l.frmB o8 q3)
    refine dOp 4 rfl rfl (by kernel_rfl) (oCall rfl call33 (integer_Mul j2 j2 Qo) rfl ?_)
    rintro _ W1 ⟨D5, D6, D7, D8, D9, rfl, c1, h7, Q3, E0, E1⟩
    refine ⟨(Frm.of_ext c1), ?_⟩
    have Q4 := c1.size
    have ⟨E2, E3, E4⟩ := h7.lkm
    have k2 := r.xr c1
    have x3 := (y.frmB k2 q3)
    refine dOp 5 rfl rfl (by kernel_rfl) (oCall rfl call106 (integer_Sub x3 h7 Qo Qo) rfl ?_)
    rintro _ W2 ⟨D, E, F, G, m7, rfl, c2, h8, Q5, E5, E6⟩
    refine ⟨(Frm.of_ext c2), ?_⟩
    have Q6 := c2.size
    have ⟨E7, E8, E9⟩ := h8.lkm
    have k3 := c1.trans c2
    have o9 := (m.ext k3)
    refine dOp 6 rfl rfl (by kernel_rfl) (oStore [(.bool a), (.slice c d e)] rfl rfl rfl sz25 rfl o9 Qn (fun x4 c3 Q7 f7 => ?_))
    replace f7 : Blk x4 g8 25 [(.bool a), (.slice c d e)] := f7
    refine ⟨(c3.mono q4), ?_⟩
    have p0 := (k2.xr c2).trans c3
    have p1 := (s.frm p0 q1)
    refine dOp 7 rfl rfl (by kernel_rfl) (oStore [(.bool D), (.slice E F G)] rfl rfl rfl sz25 rfl p1 Qn (fun x5 c4 Q8 f8 => ?_))
    replace f8 : Blk x5 x 25 [(.bool D), (.slice E F G)] := f8
    refine ⟨(c4.mono q4), dAi 8 rfl rfl (dDone (by kernel_rfl) (xN (u _ _ (wp_ret ?_))))⟩
    have p2 := (f7.frm c4 q1)
    refine ret3 (.agg #[(.bool a), (.slice c d e)]) (.agg #[(.bool D), (.slice E F G)]) (.int .i64 (0)) results76 (resB [(.bool a), (.slice c d e)] agg25 sz25 rfl p2) (resB [(.bool D), (.slice E F G)] agg25 sz25 rfl f8) (resT rfl) ?_
    have p3 := (k3.rx c3).tr c4
    have x6 := (j2.frmB p3 q3)
    have p4 := c3.tr c4
    have x7 := (h8.frmB p4 q3)
    have p5 := ((((((q.trans h).rx g).xr f).xr c1).xr c2).trans c3).tr c4
    exact ⟨a, c, d, e, j, D, E, F, G, m7, (0), rfl, (Frm.mono p5 q4), (NatR.sub x6 q5), (NatR.sub x7 q5), rfl, t, k, Qo⟩
   ·have p6 := g.xr f
    have f9 := (l.frmB p6 q3)
    refine dWp (i := 4) rfl rfl (oCall rfl call33 (integer_Mul f9 f9 Qo) rfl ?_)
    rintro _ W3 ⟨F0, F1, F2, F3, F4, rfl, n, f2, Q9, F5, F6⟩
    refine ⟨(Frm.of_ext n), ?_⟩
    have R0 := n.size
    have ⟨F7, F8, F9⟩ := f2.lkm
    refine dTwo 0 5 (by kernel_rfl) ?_ ?_
    ·have k4 := (m.ext n)
     refine dWp (i := 0) rfl rfl (oEv (v := (.agg #[(.bool a), (.slice c d e)])) (evLoadAB [(.bool a), (.slice c d e)] agg25 sz25 rfl k4 rfl) rfl ⟨Frm.refl _ _, ?_⟩)
     have k5 := r.xr n
     have x8 := (y.frmB k5 q3)
     refine dOp 5 rfl rfl (by kernel_rfl) (oCall rfl call106 (integer_Sub x8 f2 Qo Qo) rfl ?_)
     rintro _ W4 ⟨H, I, J, K, m8, rfl, a5, h9, R1, G0, G1⟩
     refine ⟨(Frm.of_ext a5), ?_⟩
     have R2 := a5.size
     have ⟨G2, G3, G4⟩ := h9.lkm
     have p7 := (k4.ext a5)
     refine dOp 6 rfl rfl (by kernel_rfl) (oStore [(.bool a), (.slice c d e)] rfl rfl rfl sz25 rfl p7 Qn (fun x9 c5 R3 g0 => ?_))
     replace g0 : Blk x9 g8 25 [(.bool a), (.slice c d e)] := g0
     refine ⟨(c5.mono q4), ?_⟩
     have p8 := (k5.xr a5).trans c5
     have p9 := (s.frm p8 q1)
     refine dOp 7 rfl rfl (by kernel_rfl) (oStore [(.bool H), (.slice I J K)] rfl rfl rfl sz25 rfl p9 Qn (fun y0 c6 R4 g1 => ?_))
     replace g1 : Blk y0 x 25 [(.bool H), (.slice I J K)] := g1
     refine ⟨(c6.mono q4), dAi 8 rfl rfl (dDone (by kernel_rfl) (xN (u _ _ (wp_ret ?_))))⟩
     have q0 := (g0.frm c6 q1)
     refine ret3 (.agg #[(.bool a), (.slice c d e)]) (.agg #[(.bool H), (.slice I J K)]) (.int .i64 (0)) results76 (resB [(.bool a), (.slice c d e)] agg25 sz25 rfl q0) (resB [(.bool H), (.slice I J K)] agg25 sz25 rfl g1) (resT rfl) ?_
     have q2 := ((n.trans a5).rx c5).tr c6
     have y1 := (f9.frmB q2 q3)
     have q6 := c5.tr c6
     have y2 := (h9.frmB q6 q3)
     have q7 := ((((((q.trans h).rx g).xr f).xr n).xr a5).trans c5).tr c6
     exact ⟨a, c, d, e, j, H, I, J, K, m8, (0), rfl, (Frm.mono q7 q4), (NatR.sub y1 q5), (NatR.sub y2 q5), rfl, t, k, Qo⟩
    ·have k6 := r.xr n
     have y3 := (y.frmB k6 q3)
     refine dWp (i := 5) rfl rfl (oCall rfl call106 (integer_Sub y3 f2 Qo Qo) rfl ?_)
     rintro _ W5 ⟨L, M, N, O, m9, rfl, c7, i0, R5, G5, G6⟩
     refine ⟨(Frm.of_ext c7), ?_⟩
     have R6 := c7.size
     have ⟨G7, G8, G9⟩ := i0.lkm
     have k7 := n.trans c7
     have k8 := (m.ext k7)
     refine dOp 0 rfl rfl (by kernel_rfl) (oEv (v := (.agg #[(.bool a), (.slice c d e)])) (evLoadAB [(.bool a), (.slice c d e)] agg25 sz25 rfl k8 rfl) rfl ⟨Frm.refl _ _, dOp 6 rfl rfl (by kernel_rfl) (oStore [(.bool a), (.slice c d e)] rfl rfl rfl sz25 rfl k8 Qn (fun y4 c8 R7 g3 => ?_))⟩)
     replace g3 : Blk y4 g8 25 [(.bool a), (.slice c d e)] := g3
     refine ⟨(c8.mono q4), ?_⟩
     have q8 := (k6.xr c7).trans c8
     have q9 := (s.frm q8 q1)
     refine dOp 7 rfl rfl (by kernel_rfl) (oStore [(.bool L), (.slice M N O)] rfl rfl rfl sz25 rfl q9 Qn (fun y5 c9 R8 g4 => ?_))
     replace g4 : Blk y5 x 25 [(.bool L), (.slice M N O)] := g4
     refine ⟨(c9.mono q4), dAi 8 rfl rfl (dDone (by kernel_rfl) (xN (u _ _ (wp_ret ?_))))⟩
     have r0 := (g3.frm c9 q1)
     refine ret3 (.agg #[(.bool a), (.slice c d e)]) (.agg #[(.bool L), (.slice M N O)]) (.int .i64 (0)) results76 (resB [(.bool a), (.slice c d e)] agg25 sz25 rfl r0) (resB [(.bool L), (.slice M N O)] agg25 sz25 rfl g4) (resT rfl) ?_
     have r1 := (k7.rx c8).tr c9
     have y6 := (f9.frmB r1 q3)
     have r2 := c8.tr c9
     have y7 := (i0.frmB r2 q3)
     have r3 := ((((((q.trans h).rx g).xr f).xr n).xr c7).trans c8).tr c9
     exact ⟨a, c, d, e, j, L, M, N, O, m9, (0), rfl, (Frm.mono r3 q4), (NatR.sub y6 q5), (NatR.sub y7 q5), rfl, t, k, Qo⟩
 ·have o := (e4.ext f)
  refine dWp (i := 3) rfl rfl (oEv (v := (.agg #[(.bool a), (.slice c d e)])) (evLoadAB [(.bool a), (.slice c d e)] agg25 sz25 rfl o rfl) rfl ⟨Frm.refl _ _, dTwo 0 2 (by kernel_rfl) ?_ ?_⟩)
  ·refine dWp (i := 0) rfl rfl (oEv (v := (.agg #[(.bool a), (.slice c d e)])) (evLoadAB [(.bool a), (.slice c d e)] agg25 sz25 rfl o rfl) rfl ⟨Frm.refl _ _, dOp 2 rfl rfl (by kernel_rfl) (oEv (v := (.agg #[(.bool a), (.slice c d e)])) (evLoadAB [(.bool a), (.slice c d e)] agg25 sz25 rfl o rfl) rfl ⟨Frm.refl _ _, ?_⟩)⟩)
   have r4 := g.xr f
   have j3 := (l.frmB r4 q3)
   refine dOp 4 rfl rfl (by kernel_rfl) (oCall rfl call33 (integer_Mul j3 j3 Qo) rfl ?_)
   rintro _ W6 ⟨H0, H1, H2, H3, H4, rfl, d0, i1, R9, H5, H6⟩
   refine ⟨(Frm.of_ext d0), ?_⟩
   have S0 := d0.size
   have ⟨H7, H8, H9⟩ := i1.lkm
   have k9 := r.xr d0
   have y8 := (y.frmB k9 q3)
   refine dOp 5 rfl rfl (by kernel_rfl) (oCall rfl call106 (integer_Sub y8 i1 Qo Qo) rfl ?_)
   rintro _ W7 ⟨P, Q, R, S, n0, rfl, d1, i2, S1, I0, I1⟩
   refine ⟨(Frm.of_ext d1), ?_⟩
   have S2 := d1.size
   have ⟨I2, I3, I4⟩ := i2.lkm
   have l0 := d0.trans d1
   have r5 := (o.ext l0)
   refine dOp 6 rfl rfl (by kernel_rfl) (oStore [(.bool a), (.slice c d e)] rfl rfl rfl sz25 rfl r5 Qn (fun y9 d2 S3 g5 => ?_))
   replace g5 : Blk y9 g8 25 [(.bool a), (.slice c d e)] := g5
   refine ⟨(d2.mono q4), ?_⟩
   have r6 := (k9.xr d1).trans d2
   have r7 := (s.frm r6 q1)
   refine dOp 7 rfl rfl (by kernel_rfl) (oStore [(.bool P), (.slice Q R S)] rfl rfl rfl sz25 rfl r7 Qn (fun z0 d3 S4 g6 => ?_))
   replace g6 : Blk z0 x 25 [(.bool P), (.slice Q R S)] := g6
   refine ⟨(d3.mono q4), dAi 8 rfl rfl (dDone (by kernel_rfl) (xN (u _ _ (wp_ret ?_))))⟩
   have r8 := (g5.frm d3 q1)
   refine ret3 (.agg #[(.bool a), (.slice c d e)]) (.agg #[(.bool P), (.slice Q R S)]) (.int .i64 (0)) results76 (resB [(.bool a), (.slice c d e)] agg25 sz25 rfl r8) (resB [(.bool P), (.slice Q R S)] agg25 sz25 rfl g6) (resT rfl) ?_
   have r9 := (l0.rx d2).tr d3
   have z1 := (j3.frmB r9 q3)
   have s0 := d2.tr d3
   have z2 := (i2.frmB s0 q3)
   have s1 := ((((((q.trans h).rx g).xr f).xr d0).xr d1).trans d2).tr d3
   exact ⟨a, c, d, e, j, P, Q, R, S, n0, (0), rfl, (Frm.mono s1 q4), (NatR.sub z1 q5), (NatR.sub z2 q5), rfl, t, k, Qo⟩
  ·refine dWp (i := 2) rfl rfl (oEv (v := (.agg #[(.bool a), (.slice c d e)])) (evLoadAB [(.bool a), (.slice c d e)] agg25 sz25 rfl o rfl) rfl ⟨Frm.refl _ _, dTwo 0 4 (by kernel_rfl) ?_ ?_⟩)
   ·refine dWp (i := 0) rfl rfl (oEv (v := (.agg #[(.bool a), (.slice c d e)])) (evLoadAB [(.bool a), (.slice c d e)] agg25 sz25 rfl o rfl) rfl ⟨Frm.refl _ _, ?_⟩)
    have s2 := g.xr f
    have j4 := (l.frmB s2 q3)
    refine dOp 4 rfl rfl (by kernel_rfl) (oCall rfl call33 (integer_Mul j4 j4 Qo) rfl ?_)
    rintro _ W8 ⟨I5, I6, I7, I8, I9, rfl, d4, i3, S5, J0, J1⟩
    refine ⟨(Frm.of_ext d4), ?_⟩
    have S6 := d4.size
    have ⟨J2, J3, J4⟩ := i3.lkm
    have l1 := r.xr d4
    have z3 := (y.frmB l1 q3)
    refine dOp 5 rfl rfl (by kernel_rfl) (oCall rfl call106 (integer_Sub z3 i3 Qo Qo) rfl ?_)
    rintro _ W9 ⟨T, U, V, W, n1, rfl, d5, i4, S7, J5, J6⟩
    refine ⟨(Frm.of_ext d5), ?_⟩
    have S8 := d5.size
    have ⟨J7, J8, J9⟩ := i4.lkm
    have l2 := d4.trans d5
    have s3 := (o.ext l2)
    refine dOp 6 rfl rfl (by kernel_rfl) (oStore [(.bool a), (.slice c d e)] rfl rfl rfl sz25 rfl s3 Qn (fun z4 d6 S9 g7 => ?_))
    replace g7 : Blk z4 g8 25 [(.bool a), (.slice c d e)] := g7
    refine ⟨(d6.mono q4), ?_⟩
    have s4 := (l1.xr d5).trans d6
    have s5 := (s.frm s4 q1)
    refine dOp 7 rfl rfl (by kernel_rfl) (oStore [(.bool T), (.slice U V W)] rfl rfl rfl sz25 rfl s5 Qn (fun z5 d7 T0 g9 => ?_))
    replace g9 : Blk z5 x 25 [(.bool T), (.slice U V W)] := g9
    refine ⟨(d7.mono q4), dAi 8 rfl rfl (dDone (by kernel_rfl) (xN (u _ _ (wp_ret ?_))))⟩
    have s6 := (g7.frm d7 q1)
    refine ret3 (.agg #[(.bool a), (.slice c d e)]) (.agg #[(.bool T), (.slice U V W)]) (.int .i64 (0)) results76 (resB [(.bool a), (.slice c d e)] agg25 sz25 rfl s6) (resB [(.bool T), (.slice U V W)] agg25 sz25 rfl g9) (resT rfl) ?_
    have s7 := (l2.rx d6).tr d7
    have z6 := (j4.frmB s7 q3)
    have s8 := d6.tr d7
    have z7 := (i4.frmB s8 q3)
    have s9 := ((((((q.trans h).rx g).xr f).xr d4).xr d5).trans d6).tr d7
    exact ⟨a, c, d, e, j, T, U, V, W, n1, (0), rfl, (Frm.mono s9 q4), (NatR.sub z6 q5), (NatR.sub z7 q5), rfl, t, k, Qo⟩
   ·have t0 := g.xr f
    have h0 := (l.frmB t0 q3)
    refine dWp (i := 4) rfl rfl (oCall rfl call33 (integer_Mul h0 h0 Qo) rfl ?_)
    rintro _ X0 ⟨K0, K2, K3, K4, K5, rfl, p, f3, T1, K6, K7⟩
    refine ⟨(Frm.of_ext p), ?_⟩
    have T2 := p.size
    have ⟨K8, K9, L0⟩ := f3.lkm
    refine dTwo 0 5 (by kernel_rfl) ?_ ?_
    ·have l3 := (o.ext p)
     refine dWp (i := 0) rfl rfl (oEv (v := (.agg #[(.bool a), (.slice c d e)])) (evLoadAB [(.bool a), (.slice c d e)] agg25 sz25 rfl l3 rfl) rfl ⟨Frm.refl _ _, ?_⟩)
     have l4 := r.xr p
     have z8 := (y.frmB l4 q3)
     refine dOp 5 rfl rfl (by kernel_rfl) (oCall rfl call106 (integer_Sub z8 f3 Qo Qo) rfl ?_)
     rintro _ X1 ⟨X, Y, Z, a0, n2, rfl, a6, i5, T3, L1, L2⟩
     refine ⟨(Frm.of_ext a6), ?_⟩
     have T4 := a6.size
     have ⟨L3, L4, L5⟩ := i5.lkm
     have t1 := (l3.ext a6)
     refine dOp 6 rfl rfl (by kernel_rfl) (oStore [(.bool a), (.slice c d e)] rfl rfl rfl sz25 rfl t1 Qn (fun z9 d8 T5 h1 => ?_))
     replace h1 : Blk z9 g8 25 [(.bool a), (.slice c d e)] := h1
     refine ⟨(d8.mono q4), ?_⟩
     have t2 := (l4.xr a6).trans d8
     have t3 := (s.frm t2 q1)
     refine dOp 7 rfl rfl (by kernel_rfl) (oStore [(.bool X), (.slice Y Z a0)] rfl rfl rfl sz25 rfl t3 Qn (fun A0 d9 T6 h2 => ?_))
     replace h2 : Blk A0 x 25 [(.bool X), (.slice Y Z a0)] := h2
     refine ⟨(d9.mono q4), dAi 8 rfl rfl (dDone (by kernel_rfl) (xN (u _ _ (wp_ret ?_))))⟩
     have t4 := (h1.frm d9 q1)
     refine ret3 (.agg #[(.bool a), (.slice c d e)]) (.agg #[(.bool X), (.slice Y Z a0)]) (.int .i64 (0)) results76 (resB [(.bool a), (.slice c d e)] agg25 sz25 rfl t4) (resB [(.bool X), (.slice Y Z a0)] agg25 sz25 rfl h2) (resT rfl) ?_
     have t5 := ((p.trans a6).rx d8).tr d9
     have A1 := (h0.frmB t5 q3)
     have t6 := d8.tr d9
     have A2 := (i5.frmB t6 q3)
     have t7 := ((((((q.trans h).rx g).xr f).xr p).xr a6).trans d8).tr d9
     exact ⟨a, c, d, e, j, X, Y, Z, a0, n2, (0), rfl, (Frm.mono t7 q4), (NatR.sub A1 q5), (NatR.sub A2 q5), rfl, t, k, Qo⟩
    ·have l5 := r.xr p
     have A3 := (y.frmB l5 q3)
     refine dWp (i := 5) rfl rfl (oCall rfl call106 (integer_Sub A3 f3 Qo Qo) rfl ?_)
     rintro _ X2 ⟨a1, a2, a3, a4, n3, rfl, e0, i6, T7, L6, L7⟩
     refine ⟨(Frm.of_ext e0), ?_⟩
     have T8 := e0.size
     have ⟨L8, L9, M0⟩ := i6.lkm
     have l6 := p.trans e0
     have l7 := (o.ext l6)
     refine dOp 0 rfl rfl (by kernel_rfl) (oEv (v := (.agg #[(.bool a), (.slice c d e)])) (evLoadAB [(.bool a), (.slice c d e)] agg25 sz25 rfl l7 rfl) rfl ⟨Frm.refl _ _, dOp 6 rfl rfl (by kernel_rfl) (oStore [(.bool a), (.slice c d e)] rfl rfl rfl sz25 rfl l7 Qn (fun A4 e1 T9 h3 => ?_))⟩)
     replace h3 : Blk A4 g8 25 [(.bool a), (.slice c d e)] := h3
     refine ⟨(e1.mono q4), ?_⟩
     have t8 := (l5.xr e0).trans e1
     have t9 := (s.frm t8 q1)
     refine dOp 7 rfl rfl (by kernel_rfl) (oStore [(.bool a1), (.slice a2 a3 a4)] rfl rfl rfl sz25 rfl t9 Qn (fun A5 e2 U0 h4 => ?_))
     replace h4 : Blk A5 x 25 [(.bool a1), (.slice a2 a3 a4)] := h4
     refine ⟨(e2.mono q4), dAi 8 rfl rfl (dDone (by kernel_rfl) (xN (u _ _ (wp_ret ?_))))⟩
     have u0 := (h3.frm e2 q1)
     refine ret3 (.agg #[(.bool a), (.slice c d e)]) (.agg #[(.bool a1), (.slice a2 a3 a4)]) (.int .i64 (0)) results76 (resB [(.bool a), (.slice c d e)] agg25 sz25 rfl u0) (resB [(.bool a1), (.slice a2 a3 a4)] agg25 sz25 rfl h4) (resT rfl) ?_
     have u1 := (l6.rx e1).tr e2
     have A6 := (h0.frmB u1 q3)
     have u2 := e1.tr e2
     have A7 := (i6.frmB u2 q3)
     have u3 := ((((((q.trans h).rx g).xr f).xr p).xr e0).trans e1).tr e2
     exact ⟨a, c, d, e, j, a1, a2, a3, a4, n3, (0), rfl, (Frm.mono u3 q4), (NatR.sub A6 q5), (NatR.sub A7 q5), rfl, t, k, Qo⟩
theorem hensel_bound {w : World} {Sf : Nat → Prop} {Af : Option Addr} {nf cf Mf : Nat} {lf : List RI} (hf : PolyR w Sf Af nf cf lf Mf) (hnf : nf ≤ 64) (hMf : Mf ≤ 1024) (hd : (trimZ (zs lf)).length ≤ 19) : Calls Tryz.prog 38 #[(.slice Af nf cf)] w (Ret fun v w' => ∃ (gr : Bool) (Ar : Option Addr) (nr : Nat) (cr : Nat) (dr : List Nat), v = (.agg #[(.bool gr), (.slice Ar nr cr)]) ∧ Ext w w' ∧ NatR w' (fun b => w.heap.size ≤ b) Ar nr cr dr ∧ (zval gr dr = bndZ (zs lf)) ∧ (ICan gr dr) ∧ (nr ≤ 4096)) := by
 have ⟨kf, jf, mf⟩ := hf.lkm
 replace hf := hf.low
 refine enter func38 rfl ntmps38 rfl (rS fun K1 t6 => sO (oAlloc [(.bool false), (.slice none 0 0)] zero25 rfl (fun g2 w3 L9 f4 M0 h1 => sK t6 (rS fun K8 t7 => sMs rfl ?_))))
 have h9 := (hf.ext f4)
 refine sO (oCall rfl call32 (unipoly_Degree h9 Qo Qo) rfl ?_)
 rintro _ M1 ⟨a, rfl, y, b2⟩
 have G9 := y.size
 have hdg := b2
 refine sAi rfl (sK t7 (wp_seq_k fun M2 o2 => rS fun M3 h2 => sMi rfl ?_))
 by_cases h3 : a < 0
 ·refine sV (evLss true rfl rfl (dT h3)) (sK h2 (cT rfl (rS fun M4 o3 => sV (v := (.agg #[(.bool false), (.slice none 0 0)])) (evK (by kernel_rfl)) ?_)))
  have o4 := (h1.ext y)
  refine sO (oStore [(.bool false), (.slice none 0 0)] rfl rfl rfl sz25 rfl o4 Qn (fun t8 o5 H0 e5 => ?_))
  replace e5 : Blk t8 g2 25 [(.bool false), (.slice none 0 0)] := e5
  refine sK o3 (wp_ret (xR (ret1 (.agg #[(.bool false), (.slice none 0 0)]) results38 (resB [(.bool false), (.slice none 0 0)] agg25 sz25 rfl e5) ?_)))
  have o6 := (f4.trans y).rx o5
  exact ⟨false, none, 0, 0, ([]), rfl, (Frm.mono o6 q4), NatR.nil, (bnd_zero b2 Qo), ICan.zero, Qo⟩
 ·refine sV (evLss false rfl rfl (dF h3)) (sK h2 (cF rfl (wp_skip (xN (o2 _ _ (rS fun M5 o7 => sMi rfl (sO (oCall rfl call35 (integer_Of Qo) rfl ?_))))))))
  rintro _ M6 ⟨y8, y9, z0, z1, z2, rfl, V, f5, o8, z3, z4⟩
  have H1 := V.size
  have ⟨z5, z6, z7⟩ := f5.lkm
  refine sO (oCall rfl call76 (division_Sqrt f5 Qo Qo) rfl ?_)
  rintro _ M7 ⟨c, d, f, g, f6, H, I, J, K, z8, f7, rfl, W, b3, j1, z9, o9, A0, A1⟩
  have H2 := W.size
  have ⟨A2, A3, A4⟩ := b3.lkm
  have ⟨A5, A6, A7⟩ := j1.lkm
  have hsq := o9; rw [o8] at hsq
  refine sV (v := (.tuple #[(.agg #[(.bool c), (.slice d f g)]), (.agg #[(.bool H), (.slice I J K)]), (.int .i64 (f7))])) (rfl) (sV (v := (.agg #[(.bool c), (.slice d f g)])) (rfl) (sV (v := (.agg #[(.bool H), (.slice I J K)])) (rfl) (sV (v := (.int .i64 (f7))) (rfl) (sO (oAlloc [(.bool false), (.slice none 0 0)] zero25 rfl (fun f8 M8 H3 F H4 p0 => sO (oAlloc [(.bool false), (.slice none 0 0)] zero25 rfl (fun t9 M9 H5 z H6 p1 => ?_))))))))
  have p2 := (p0.ext z)
  refine sO (oStore [(.bool c), (.slice d f g)] rfl rfl rfl sz25 rfl p2 Qn (fun u0 A H7 b4 => ?_))
  replace b4 : Blk u0 f8 25 [(.bool c), (.slice d f g)] := b4
  have p3 := (p1.frm A q1)
  refine sO (oStore [(.bool H), (.slice I J K)] rfl rfl rfl sz25 rfl p3 Qn (fun u1 k H8 b5 => ?_))
  replace b5 : Blk u1 t9 25 [(.bool H), (.slice I J K)] := b5
  refine sAi rfl (sK o7 (wp_seq_k fun N0 h4 => dBegin (fun b => b = f8) mixed (fun N1 h H9 => dTwo 0 1 (by kernel_rfl) ?_ ?_)))
  ·have p4 := k.xr h
   have h5 := (b4.frm p4 q1)
   refine dWp (i := 0) rfl rfl (oEv (v := (.agg #[(.bool c), (.slice d f g)])) (evLoadAB [(.bool c), (.slice d f g)] agg25 sz25 rfl h5 rfl) rfl ⟨Frm.refl _ _, dOp 1 rfl rfl (by kernel_rfl) (oCall rfl call35 (integer_Of Qo) rfl ?_)⟩)
   rintro _ N2 ⟨A8, A9, B0, B1, B2, rfl, B, f9, p5, B3, B4⟩
   refine ⟨(Frm.of_ext B), ?_⟩
   have I0 := B.size
   have ⟨B5, B6, B7⟩ := f9.lkm
   have p6 := ((((F.trans z).rx A).tr k).xr h).xr B
   have u2 := (b3.frmB p6 q3)
   refine dOp 2 rfl rfl (by kernel_rfl) (oCall rfl call12 (integer_Add u2 f9 Qo Qo) rfl ?_)
   rintro _ N3 ⟨b6, b8, b9, c0, B8, rfl, G, g0, p7, B9, C0⟩
   refine ⟨(Frm.of_ext G), ?_⟩
   have I1 := G.size
   have ⟨C1, C2, C3⟩ := g0.lkm
   have p8 := B.trans G
   have p9 := (h5.ext p8)
   refine dOp 3 rfl rfl (by kernel_rfl) (oStore [(.bool b6), (.slice b8 b9 c0)] rfl rfl rfl sz25 rfl p9 Qn (fun d6 X I2 e6 => ?_))
   replace e6 : Blk d6 f8 25 [(.bool b6), (.slice b8 b9 c0)] := e6
   refine ⟨X, dDone (by kernel_rfl) (xN (h4 _ _ (wp_seq_k fun N4 q0 => ?_)))⟩
   have h6 := (((((((((y.trans V).trans W).trans F).trans z).rx A).tr k).xr h).xr B).xr G).tr X
   have q2 := (h1.frm h6 q1)
   have q6 := ((h.trans B).trans G).rx X
   have I3 := (b5.frm q6 q1)
   refine wpJoin (dfs := []) (n := 36) (fun e w_ => ∃ (Y : Nat) (gR : Bool) (AR : Option Addr) (nR : Nat) (cR : Nat) (dR : List Nat), e 2 = (.pointer (some ⟨g2, 0, none⟩)) ∧ e 3 = (.int .i64 (a)) ∧ e 7 = (.pointer (some ⟨Y, 0, none⟩)) ∧ Frm (fun _ => False) d6 w_ ∧ Blk w_ Y 25 ([.bool gR, .slice AR nR cR]) ∧ (d6.heap.size ≤ Y) ∧ (NatR w_ (fun b => d6.heap.size ≤ b) AR nR cR dR) ∧ (zval gR dR = (zval c f6 + 1) * (hgt (zs lf) : Int)) ∧ (ICan gR dR) ∧ (nR ≤ 2048)) ?_ ?_
   ·refine dBegin (fun b => d6.heap.size ≤ b) mixed (fun N5 c1 I4 => ?_)
    have q7 := (e6.ext c1)
    refine dV 0 rfl (fun _ hf => evLoadAB [(.bool b6), (.slice b8 b9 c0)] agg25 sz25 rfl (q7.frm hf q1) rfl) (dMs 1 rfl rfl (wAl1 (fun _ => (7, 25, [(.bool false), (.slice none 0 0)])) 4 (alOp rfl rfl zero25 rfl) fun h7 => wOp h7 2 (by kernel_rfl) fun I5 h8 c2 => ?_))
    have I6 := c2.size
    have q8 := (h6.xr c1).xr c2
    have u3 := (h9.frmB q8 q3)
    refine dWp (i := 2) rfl rfl (oCall rfl call21 (unipoly_Height u3 Qo Qo) rfl ?_)
    rintro _ i0 ⟨C4, C5, C6, C7, C8, rfl, L, g1, q9, C9, D0⟩
    refine ⟨L, wNext rfl ?_⟩
    have D1 := L.size
    have ⟨D2, D3, D4⟩ := g1.lkm
    have r0 := g1.sub (S' := fun b => h8.heap.size ≤ b ∧ b < i0.heap.size) fun _ hb hs => ⟨hs, hb⟩
    refine wOp h7 3 (by kernel_rfl) fun D5 e7 M => ?_
    have D6 := M.size
    have j2 := (((X.xr c1).xr c2).xr L).xr M
    have r1 := (g0.frmB j2 q3)
    have i1 := (r0.ext M)
    refine dWp (i := 3) rfl rfl (oCall rfl call33 (integer_Mul r1 i1 Qo) rfl ?_)
    rintro _ e8 ⟨Z, a0, a1, a2, i2, rfl, N, d7, j3, i3, u4⟩
    refine ⟨N, wNext rfl ?_⟩
    have D7 := N.size
    have ⟨u5, u6, u7⟩ := d7.lkm
    have r2 := d7.sub (S' := fun b => e7.heap.size ≤ b ∧ b < e8.heap.size) fun _ hb hs => ⟨hs, hb⟩
    refine wEnd1 h7 #[true, true, true, true, true, false] (by kernel_rfl) fun c3 I7 O D8 g3 g4 => ?_
    have D9 := O.size
    have E0 := g3.lt
    have j4 := N.trans O
    have r3 := (i1.ext j4)
    have I8 := r3.sub (S' := fun b => (h8.heap.size ≤ b ∧ b < i0.heap.size) ∧ b ≠ c3) fun b _ hs => ⟨hs, g4.ne h8.heap.size i0.heap.size (by simp) b hs.1 hs.2⟩
    have r4 := (r2.ext O)
    have r5 := r4.sub (S' := fun b => (e7.heap.size ≤ b ∧ b < e8.heap.size) ∧ b ≠ c3) fun b _ hs => ⟨hs, g4.ne e7.heap.size e8.heap.size (by simp) b hs.1 hs.2⟩
    refine dOp 5 rfl rfl (by kernel_rfl) (oStore [(.bool Z), (.slice a0 a1 a2)] rfl rfl rfl sz25 rfl g3 Qn (fun r6 c4 E1 c5 => ?_))
    replace c5 : Blk r6 c3 25 [(.bool Z), (.slice a0 a1 a2)] := c5
    refine ⟨(c4.mono q4), dDone (by kernel_rfl) ?_⟩
    have r7 := (r5.frmB c4 q3)
    have j5 := (((((c1.trans c2).trans L).trans M).trans N).trans O).rx c4
    exact ⟨rfl, _, rfl, (c3), (Z), (a0), (a1), (a2), (i2), rfl, rfl, rfl, (Frm.mono j5 q4), c5, (by omega), (NatR.sub r7 q5), (by rw [j3, p7, p5, q9]), (i3), (by omega)⟩
   ·rintro I9 r8 ⟨Y, gR, AR, nR, cR, dR, j6, j7, j8, c6, j9, u8, hR, hv, hcR, hl⟩
    obtain ⟨J0, rfl⟩ := sq3 j6 j7 j8
    have E2 := c6.size
    have ⟨lR, kR, mR⟩ := hR.lkm
    refine xN (q0 _ _ (wp_seq_k fun J1 k0 => wp_block ?_))
    refine lLoop (fun m e w_ => m = 0 ∧ e 2 = (.pointer (some ⟨g2, 0, none⟩)) ∧ e 3 = (.int .i64 (a)) ∧ e 7 = (.pointer (some ⟨Y, 0, none⟩)) ∧ Frm (fun b => False) r8 w_) (0) ?_ ?_
    ·refine ⟨rfl, rfl, rfl, rfl, (Frm.refl _ _)⟩
    ·rintro J2 J3 J4 ⟨E3, k1, k2, k3, C⟩
     obtain ⟨J5, rfl⟩ := sq3 k1 k2 k3
     have E4 := C.size
     refine wp_seq_k fun J6 E5 => rS fun J7 k4 => sMi rfl (sV (evGtr false rfl rfl (dF Qo)) (sK k4 (cF rfl (wp_exit (xE (xE (bE (xN (k0 _ _ (rS fun J8 k5 => ?_))))))))))
     have k6 := (j9.ext C)
     refine sV (evLoadAB [(.bool gR), (.slice AR nR cR)] agg25 sz25 rfl k6 rfl) (sV (v := (.int .i64 (((a.toNat : Nat) : Int)))) (by rw [show ((a.toNat : Nat) : Int) = a by omega]; rfl) ?_)
     have r9 := (hR.ext C)
     refine sO (oCall rfl call34 (integer_Shl r9 (xn := a.toNat) Qo Qo Qo) rfl ?_)
     rintro _ J9 ⟨l, o, p, q, i4, rfl, c7, d8, k7, i5, u9⟩
     have E6 := c7.size
     have ⟨v0, v1, v2⟩ := d8.lkm
     have k8 := (c6.trans C).trans c7
     have k9 := (q2.ext k8)
     refine sO (oStore [(.bool l), (.slice o p q)] rfl rfl rfl sz25 rfl k9 Qn (fun s0 g5 E7 c8 => ?_))
     replace c8 : Blk s0 g2 25 [(.bool l), (.slice o p q)] := c8
     refine sK k5 (wp_ret (ret1 (.agg #[(.bool l), (.slice o p q)]) results38 (resB [(.bool l), (.slice o p q)] agg25 sz25 rfl c8) ?_))
     have s1 := (d8.frmB g5 q3)
     have l0 := ((((((((((((((f4.trans y).trans V).trans W).trans F).trans z).rx A).tr k).xr h).xr B).xr G).tr X).xr c6).xr C).xr c7).tr g5
     exact ⟨l, o, p, q, i4, rfl, (Frm.mono l0 q4), (NatR.sub s1 q5), (by rw [k7, hv]; exact bnd_make b2 (by omega) hsq hd rfl), i5, (by omega)⟩
  ·refine dWp (i := 1) rfl rfl (oCall rfl call35 (integer_Of Qo) rfl ?_)
   rintro _ K0 ⟨v3, v4, v5, v6, v7, rfl, j, d9, l1, v8, v9⟩
   refine ⟨(Frm.of_ext j), ?_⟩
   have E8 := j.size
   have ⟨w0, w1, w2⟩ := d9.lkm
   have l2 := (k.xr h).xr j
   have g6 := (b4.frm l2 q1)
   refine dOp 0 rfl rfl (by kernel_rfl) (oEv (v := (.agg #[(.bool c), (.slice d f g)])) (evLoadAB [(.bool c), (.slice d f g)] agg25 sz25 rfl g6 rfl) rfl ⟨Frm.refl _ _, ?_⟩)
   have l3 := ((((F.trans z).rx A).tr k).xr h).xr j
   have s2 := (b3.frmB l3 q3)
   refine dOp 2 rfl rfl (by kernel_rfl) (oCall rfl call12 (integer_Add s2 d9 Qo Qo) rfl ?_)
   rintro _ K2 ⟨a3, a4, a5, a6, w4, rfl, x, e0, l4, w5, w6⟩
   refine ⟨(Frm.of_ext x), ?_⟩
   have E9 := x.size
   have ⟨w7, w8, w9⟩ := e0.lkm
   have l5 := (g6.ext x)
   refine dOp 3 rfl rfl (by kernel_rfl) (oStore [(.bool a3), (.slice a4 a5 a6)] rfl rfl rfl sz25 rfl l5 Qn (fun a7 D F0 c9 => ?_))
   replace c9 : Blk a7 f8 25 [(.bool a3), (.slice a4 a5 a6)] := c9
   refine ⟨D, dDone (by kernel_rfl) (xN (h4 _ _ (wp_seq_k fun K3 l6 => ?_)))⟩
   have g7 := (((((((((y.trans V).trans W).trans F).trans z).rx A).tr k).xr h).xr j).xr x).tr D
   have l7 := (h1.frm g7 q1)
   have l8 := ((h.trans j).trans x).rx D
   have F1 := (b5.frm l8 q1)
   refine wpJoin (dfs := []) (n := 36) (fun e w_ => ∃ (Y : Nat) (gR : Bool) (AR : Option Addr) (nR : Nat) (cR : Nat) (dR : List Nat), e 2 = (.pointer (some ⟨g2, 0, none⟩)) ∧ e 3 = (.int .i64 (a)) ∧ e 7 = (.pointer (some ⟨Y, 0, none⟩)) ∧ Frm (fun _ => False) a7 w_ ∧ Blk w_ Y 25 ([.bool gR, .slice AR nR cR]) ∧ (a7.heap.size ≤ Y) ∧ (NatR w_ (fun b => a7.heap.size ≤ b) AR nR cR dR) ∧ (zval gR dR = (zval c f6 + 1) * (hgt (zs lf) : Int)) ∧ (ICan gR dR) ∧ (nR ≤ 2048)) ?_ ?_
   ·refine dBegin (fun b => a7.heap.size ≤ b) mixed (fun K4 P F2 => ?_)
    have l9 := (c9.ext P)
    refine dV 0 rfl (fun _ hf => evLoadAB [(.bool a3), (.slice a4 a5 a6)] agg25 sz25 rfl (l9.frm hf q1) rfl) (dMs 1 rfl rfl (wAl1 (fun _ => (7, 25, [(.bool false), (.slice none 0 0)])) 4 (alOp rfl rfl zero25 rfl) fun e9 => wOp e9 2 (by kernel_rfl) fun F3 f0 Q => ?_))
    have F4 := Q.size
    have m0 := (g7.xr P).xr Q
    have s3 := (h9.frmB m0 q3)
    refine dWp (i := 2) rfl rfl (oCall rfl call21 (unipoly_Height s3 Qo Qo) rfl ?_)
    rintro _ f1 ⟨x0, x1, x2, x3, x4, rfl, R, e1, m1, x5, x6⟩
    refine ⟨R, wNext rfl ?_⟩
    have F5 := R.size
    have ⟨x7, x8, x9⟩ := e1.lkm
    have s4 := e1.sub (S' := fun b => f0.heap.size ≤ b ∧ b < f1.heap.size) fun _ hb hs => ⟨hs, hb⟩
    refine wOp e9 3 (by kernel_rfl) fun F6 f2 S => ?_
    have F7 := S.size
    have m2 := (((D.xr P).xr Q).xr R).xr S
    have s5 := (e0.frmB m2 q3)
    have i6 := (s4.ext S)
    refine dWp (i := 3) rfl rfl (oCall rfl call33 (integer_Mul s5 i6 Qo) rfl ?_)
    rintro _ f3 ⟨a8, a9, b0, b1, i7, rfl, T, e2, m3, i8, y0⟩
    refine ⟨T, wNext rfl ?_⟩
    have F8 := T.size
    have ⟨y1, y2, y3⟩ := e2.lkm
    have s6 := e2.sub (S' := fun b => f2.heap.size ≤ b ∧ b < f3.heap.size) fun _ hb hs => ⟨hs, hb⟩
    refine wEnd1 e9 #[true, true, true, true, true, false] (by kernel_rfl) fun d0 K5 U F9 g8 g9 => ?_
    have G0 := U.size
    have G1 := g8.lt
    have m4 := T.trans U
    have s7 := (i6.ext m4)
    have K6 := s7.sub (S' := fun b => (f0.heap.size ≤ b ∧ b < f1.heap.size) ∧ b ≠ d0) fun b _ hs => ⟨hs, g9.ne f0.heap.size f1.heap.size (by simp) b hs.1 hs.2⟩
    have s8 := (s6.ext U)
    have s9 := s8.sub (S' := fun b => (f2.heap.size ≤ b ∧ b < f3.heap.size) ∧ b ≠ d0) fun b _ hs => ⟨hs, g9.ne f2.heap.size f3.heap.size (by simp) b hs.1 hs.2⟩
    refine dOp 5 rfl rfl (by kernel_rfl) (oStore [(.bool a8), (.slice a9 b0 b1)] rfl rfl rfl sz25 rfl g8 Qn (fun t0 d1 G2 d2 => ?_))
    replace d2 : Blk t0 d0 25 [(.bool a8), (.slice a9 b0 b1)] := d2
    refine ⟨(d1.mono q4), dDone (by kernel_rfl) ?_⟩
    have t1 := (s9.frmB d1 q3)
    have m5 := (((((P.trans Q).trans R).trans S).trans T).trans U).rx d1
    exact ⟨rfl, _, rfl, (d0), (a8), (a9), (b0), (b1), (i7), rfl, rfl, rfl, (Frm.mono m5 q4), d2, (by omega), (NatR.sub t1 q5), (by rw [m3, l4, l1, m1]), (i8), (by omega)⟩
   ·rintro K7 t2 ⟨Y, gR, AR, nR, cR, dR, m6, m7, m8, d3, m9, u8, hR, hv, hcR, hl⟩
    obtain ⟨K9, rfl⟩ := sq3 m6 m7 m8
    have G3 := d3.size
    have ⟨lR, kR, mR⟩ := hR.lkm
    refine xN (l6 _ _ (wp_seq_k fun L0 n0 => wp_block ?_))
    refine lLoop (fun m e w_ => m = 0 ∧ e 2 = (.pointer (some ⟨g2, 0, none⟩)) ∧ e 3 = (.int .i64 (a)) ∧ e 7 = (.pointer (some ⟨Y, 0, none⟩)) ∧ Frm (fun b => False) t2 w_) (0) ?_ ?_
    ·refine ⟨rfl, rfl, rfl, rfl, (Frm.refl _ _)⟩
    ·rintro L1 L2 L3 ⟨G4, n1, n2, n3, E⟩
     obtain ⟨L4, rfl⟩ := sq3 n1 n2 n3
     have G5 := E.size
     refine wp_seq_k fun L5 G6 => rS fun L6 n4 => sMi rfl (sV (evGtr false rfl rfl (dF Qo)) (sK n4 (cF rfl (wp_exit (xE (xE (bE (xN (n0 _ _ (rS fun L7 n5 => ?_))))))))))
     have n6 := (m9.ext E)
     refine sV (evLoadAB [(.bool gR), (.slice AR nR cR)] agg25 sz25 rfl n6 rfl) (sV (v := (.int .i64 (((a.toNat : Nat) : Int)))) (by rw [show ((a.toNat : Nat) : Int) = a by omega]; rfl) ?_)
     have t3 := (hR.ext E)
     refine sO (oCall rfl call34 (integer_Shl t3 (xn := a.toNat) Qo Qo Qo) rfl ?_)
     rintro _ L8 ⟨r, s, t, u, i9, rfl, d4, e3, n7, j0, y4⟩
     have G7 := d4.size
     have ⟨y5, y6, y7⟩ := e3.lkm
     have n8 := (d3.trans E).trans d4
     have n9 := (l7.ext n8)
     refine sO (oStore [(.bool r), (.slice s t u)] rfl rfl rfl sz25 rfl n9 Qn (fun t4 h0 G8 d5 => ?_))
     replace d5 : Blk t4 g2 25 [(.bool r), (.slice s t u)] := d5
     refine sK n5 (wp_ret (ret1 (.agg #[(.bool r), (.slice s t u)]) results38 (resB [(.bool r), (.slice s t u)] agg25 sz25 rfl d5) ?_))
     have t5 := (e3.frmB h0 q3)
     have o0 := ((((((((((((((f4.trans y).trans V).trans W).trans F).trans z).rx A).tr k).xr h).xr j).xr x).tr D).xr d3).xr E).xr d4).tr h0
     exact ⟨r, s, t, u, i9, rfl, (Frm.mono o0 q4), (NatR.sub t5 q5), (by rw [n7, hv]; exact bnd_make b2 (by omega) hsq hd rfl), j0, (by omega)⟩
theorem ref12_root {w : World} {xn : Nat} (bn : xn ≤ 9223372036854775807) (hn19 : xn ≤ 19) : Calls Tryz.prog 36 #[(.int .i64 xn)] w (Ret fun v w' => ∃ (xr : Nat), v = (.int .i64 xr) ∧ Ext w w' ∧ xr ≤ 9223372036854775807 ∧ (xr = rtN xn) ∧ (xr ≤ 5)) := by
 refine enter func36 rfl ntmps36 rfl (rS fun y i => sAi rfl (sK i (rS fun z j => sAi rfl (sK j (wp_seq_k fun A k => wp_block ?_)))))
 refine lLoop (fun m e w_ => ∃ (s : Nat), m = 6 - s ∧ e 0 = (.int .i64 xn) ∧ e 3 = (.int .i64 s) ∧ Frm (fun b => False) w w_ ∧ (s = 0 ∨ (s - 1) * (s - 1) < xn)) (6 - (0)) ?_ ?_
 ·refine ⟨(0), rfl, rfl, cI, (Frm.refl _ _), ?_⟩
  ·exact .inl rfl
 ·rintro B p C ⟨s, q, l, n, a, hs⟩
  obtain ⟨r, rfl⟩ := sq2 l n
  have o := a.size
  have c := rt_le hs hn19; have hss : s * s ≤ 25 := Nat.mul_le_mul c c
  refine wp_seq_k fun t g => rS fun u d => sMi rfl (sMi rfl (sV (evMul (((s * s : Nat) : Int)) rfl rfl (wI64 ⟨by rw [Int.natCast_mul], by omega, by omega⟩)) (sMi rfl ?_)))
  by_cases f : (((s * s : Nat) : Int)) < ((xn : Int))
  ·refine sV (evLss true rfl rfl (dT f)) (sK d (cT rfl (wp_skip (xN (g _ _ (wp_block (wp_region_lit (sMi rfl (sV (evAdd (((s : Int)) + 1) rfl rfl wI) (sAi rfl (sDone (bN (again (6 - (s + 1)) Qo ⟨(s + 1), rfl, rfl, cI, a, ?_⟩)))))))))))))
   ·exact .inr (by rw [Nat.add_sub_cancel]; omega)
  ·refine sV (evLss false rfl rfl (dF f)) (sK d (cF rfl (wp_exit (xE (xE (bE (xN (k _ _ (rS fun x h => sMi rfl (sAi rfl (sK h (wp_ret (ret1 (.int .i64 s) results36 (resT rfl) ?_)))))))))))))
   exact ⟨(s), rfl, a, Qo, (rt_ref hs Qo hn19), c⟩
end Go.Proofs.YtneolcopompkaaaGreatDoor
