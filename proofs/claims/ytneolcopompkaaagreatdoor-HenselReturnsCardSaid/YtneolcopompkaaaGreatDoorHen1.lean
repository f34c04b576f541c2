/-
  Walks of packages integer and division: shifts, remainders.
-/
import Derived.Test.YtneolcopompkaaaGreatDoorDiv3
import Derived.Test.YtneolcopompkaaaGreatDoorNat6
import Derived.Test.YtneolcopompkaaaGreatDoorLibA
namespace Go.Proofs.YtneolcopompkaaaGreatDoor
open Go.RowKit Go.Gx Tryz
theorem integer_Shl {w : World} {ga : Bool} {Sa : Nat → Prop} {Aa : Option Addr} {na ca : Nat} {da : List Nat} {xn : Nat} (ha : NatR w Sa Aa na ca da) (bn : xn ≤ 9223372036854775807) (hna : na ≤ 268435456) (hxn : xn ≤ 16777216) : Calls Tryz.prog 34 #[(.agg #[(.bool ga), (.slice Aa na ca)]), (.int .i64 xn)] w (Ret fun v w' => ∃ (gr : Bool) (Ar : Option Addr) (nr : Nat) (cr : Nat) (dr : List Nat), v = (.agg #[(.bool gr), (.slice Ar nr cr)]) ∧ Ext w w' ∧ NatR w' (fun b => w.heap.size ≤ b) Ar nr cr dr ∧ (zval gr dr = zval ga da * (2 ^ xn : Nat)) ∧ (ICan gr dr) ∧ (nr ≤ na + xn / 32 + 1)) := by
 have ⟨la, ka, ma⟩ := ha.lkm
 replace ha := ha.low
 refine enter func34 rfl ntmps34 rfl (rS fun K1 D => sO (oBox [(.bool ga), (.slice Aa na ca)] rfl rfl (fun g2 w3 a1 E a2 F => sO (oAlloc [(.bool false), (.slice none 0 0)] zero25 rfl (fun G w9 V m W u => sK D (wp_seq_k fun a3 x => dBegin (fun b => b = G) mixed (fun a4 h X => dV 0 rfl (fun _ _ => evFA 0 fa25_0 rfl rfl) ?_)))))))
 have y := m.trans h
 have n := (F.ext y)
 refine dV 1 rfl (fun _ hf => evLoadB one4 rfl (n.frm hf q1) rfl) (dV 2 rfl (fun _ _ => evFA 1 fa25_1 rfl rfl) (dV 3 rfl (fun _ hf => evLoadB one23 rfl (n.frm hf q1) rfl) (dMi 4 rfl rfl ?_)))
 have o := (E.trans m).trans h
 have H := (ha.ext o)
 refine dOp 5 rfl rfl (by kernel_rfl) (oCall rfl call74 (natural_Shl H (xn := xn) Qo Qo Qo) rfl ?_)
 rintro _ a5 ⟨K, L, M, N, rfl, f, k, z, r, O⟩
 refine ⟨(Frm.of_ext f), ?_⟩
 have Y := f.size
 have ⟨s, P, Q⟩ := k.lkm
 refine dOp 6 rfl rfl (by kernel_rfl) (oCall rfl call45 (integer_signed k) rfl ?_)
 rintro _ a6 ⟨a, c, d, e, t, rfl, g, l, p, q, R⟩
 refine ⟨(Frm.of_ext g), ?_⟩
 have Z := g.size
 have ⟨S, T, U⟩ := l.lkm
 have A := (h.trans f).trans g
 have B := (u.ext A)
 refine dOp 7 rfl rfl (by kernel_rfl) (oStore [(.bool a), (.slice c d e)] rfl rfl rfl sz25 rfl B Qn (fun I i a0 j => ?_))
 replace j : Blk I G 25 [(.bool a), (.slice c d e)] := j
 refine ⟨i, dDone (by kernel_rfl) (xN (x _ _ (wp_ret (ret1 (.agg #[(.bool a), (.slice c d e)]) results34 (resB [(.bool a), (.slice c d e)] agg25 sz25 rfl j) ?_))))⟩
 have J := (l.frmB i q3)
 have C := ((o.trans f).trans g).rx i
 exact ⟨a, c, d, e, t, rfl, (Frm.mono C q4), (NatR.sub J q5), (zval_mulN p (by omega) (by rw [q]; exact z)), (signed_can p q s r), (by omega)⟩
set_option maxHeartbeats 1000000 in
theorem division_Floor {w : World} {ga : Bool} {Sa : Nat → Prop} {Aa : Option Addr} {na ca : Nat} {da : List Nat} {gb : Bool} {Sb : Nat → Prop} {Ab : Option Addr} {nb cb : Nat} {db : List Nat} (ha : NatR w Sa Aa na ca da) (hb : NatR w Sb Ab nb cb db) (hna : na ≤ 268435456) (hnb : nb ≤ 268435456) (hb0 : 0 < zval gb db) : Calls Tryz.prog 124 #[(.agg #[(.bool ga), (.slice Aa na ca)]), (.agg #[(.bool gb), (.slice Ab nb cb)])] w (Ret fun v w' => ∃ (gq : Bool) (Aq : Option Addr) (nq : Nat) (cq : Nat) (dq : List Nat) (gr : Bool) (Ar : Option Addr) (nr : Nat) (cr : Nat) (dr : List Nat) (xo : Int), v = (.tuple #[(.agg #[(.bool gq), (.slice Aq nq cq)]), (.agg #[(.bool gr), (.slice Ar nr cr)]), (.int .i64 (xo))]) ∧ Ext w w' ∧ NatR w' (fun b => w.heap.size ≤ b) Aq nq cq dq ∧ NatR w' (fun b => w.heap.size ≤ b) Ar nr cr dr ∧ (zval gr dr = zval ga da % zval gb db) ∧ (ICan gr dr) ∧ (xo = 0) ∧ (nr ≤ nb + 1)) := by
 have ⟨la, ka, ma⟩ := ha.lkm
 replace ha := ha.low
 have ⟨lb, kb, mb⟩ := hb.lkm
 replace hb := hb.low
 refine enter func124 rfl ntmps124 rfl (rS fun K1 x8 => sO (oBox [(.bool ga), (.slice Aa na ca)] rfl rfl (fun g2 w3 J4 x9 J5 y0 => sO (oBox [(.bool gb), (.slice Ab nb cb)] rfl rfl (fun g8 w9 G5 k1 G6 r4 => sO (oAlloc [(.bool false), (.slice none 0 0)] zero25 rfl (fun P J6 G7 h3 G8 r5 => sO (oAlloc [(.bool false), (.slice none 0 0)] zero25 rfl (fun S J7 G9 d8 H0 r6 => sAi rfl (sK x8 (rS fun J8 r7 => ?_)))))))))))
 have r8 := (k1.trans h3).trans d8
 have r9 := (y0.ext r8)
 refine sV (evLoadAB [(.bool ga), (.slice Aa na ca)] agg25 sz25 rfl r9 rfl) ?_
 have s0 := h3.trans d8
 have k2 := (r4.ext s0)
 refine sV (evLoadAB [(.bool gb), (.slice Ab nb cb)] agg25 sz25 rfl k2 rfl) ?_
 have T := ((x9.trans k1).trans h3).trans d8
 have y1 := (ha.ext T)
 have r3 := (hb.ext T)
 refine sO (oCall rfl call109 (division_Quo y1 r3 Qo Qo Qo) rfl ?_)
 rintro _ J9 ⟨o, p, q, r, d9, a, c, d, e, e0, h8, rfl, O, a2, i0, H1, Y, y2, d1, B3, y3, y4⟩
 have H2 := O.size
 have ⟨B4, B5, B6⟩ := a2.lkm
 have ⟨B7, B8, B9⟩ := i0.lkm
 refine sV (v := (.tuple #[(.agg #[(.bool o), (.slice p q r)]), (.agg #[(.bool a), (.slice c d e)]), (.int .i64 (h8))])) (rfl) (sV (v := (.agg #[(.bool o), (.slice p q r)])) (rfl) (sV (v := (.agg #[(.bool a), (.slice c d e)])) (rfl) (sV (v := (.int .i64 (h8))) (rfl) ?_)))
 have s1 := d8.trans O
 have s2 := (r5.ext s1)
 refine sO (oStore [(.bool o), (.slice p q r)] rfl rfl rfl sz25 rfl s2 Qn (fun y5 U H3 c5 => ?_))
 replace c5 : Blk y5 P 25 [(.bool o), (.slice p q r)] := c5
 have k3 := O.rx U
 have s3 := (r6.frm k3 q1)
 refine sO (oStore [(.bool a), (.slice c d e)] rfl rfl rfl sz25 rfl s3 Qn (fun y6 H H4 h4 => ?_))
 replace h4 : Blk y6 S 25 [(.bool a), (.slice c d e)] := h4
 refine sAi rfl (sK r7 (wp_seq_k fun K0 s4 => rS fun K2 s5 => sMi rfl (sV (evNeq false rfl rfl (dF Qo)) (sK s5 (cF rfl (wp_skip (xN (s4 _ _ (wp_seq_k fun K3 h5 => wp_seq_k fun K4 k4 => dBegin (fun _ => False) mixed (fun K5 G H5 => ?_))))))))))
 have c6 := (h4.ext G)
 refine dV 0 rfl (fun _ hf => evLoadAB [(.bool a), (.slice c d e)] agg25 sz25 rfl (c6.ext hf) rfl) ?_
 have k5 := (k3.tr H).xr G
 have h6 := (k2.frm k5 q1)
 refine dV 2 rfl (fun _ hf => evLoadAB [(.bool gb), (.slice Ab nb cb)] agg25 sz25 rfl (h6.ext hf) rfl) ?_
 have c7 := (U.tr H).xr G
 have d7 := (i0.frmB c7 q3)
 refine dOp 1 rfl rfl (by kernel_rfl) (oCall rfl call29 (integer_Sign d7) rfl ?_)
 rintro _ K6 ⟨i1, rfl, D, X⟩
 refine ⟨(Frm.of_ext D), ?_⟩
 have H6 := D.size
 have s6 := k5.xr D
 have k6 := (r3.frmB s6 q3)
 refine dOp 3 rfl rfl (by kernel_rfl) (oCall rfl call29 (integer_Sign k6) rfl ?_)
 rintro _ K7 ⟨k9, rfl, y, s7⟩
 refine ⟨(Frm.of_ext y), ?_⟩
 have H7 := y.size
 have y7 : k9 = 1 := (by have h9 := sgn_rng s7; omega); have K8 := sgn_rng X
 refine dV 4 rfl (fun _ _ => evMul i1 rfl rfl (wI64 ⟨by rw [y7]; omega, by omega, by omega⟩)) ?_
 by_cases V : i1 < 0
 ·refine dV 5 rfl (fun _ _ => evLss true rfl rfl (dT V)) (dDone (by kernel_rfl) (xN (k4 _ _ (cT rfl (wp_seq_k fun K9 k7 => dBegin (fun b => b = P) mixed (fun L0 I H8 => dTwo 0 1 (by kernel_rfl) ?_ ?_))))))
  ·have s8 := (((H.xr G).xr D).xr y).xr I
   have k8 := (c5.frm s8 q1)
   refine dWp (i := 0) rfl rfl (oEv (v := (.agg #[(.bool o), (.slice p q r)])) (evLoadAB [(.bool o), (.slice p q r)] agg25 sz25 rfl k8 rfl) rfl ⟨Frm.refl _ _, dOp 1 rfl rfl (by kernel_rfl) (oCall rfl call35 (integer_Of Qo) rfl ?_)⟩)
   rintro _ L1 ⟨C0, C1, C2, C3, C4, rfl, Z, i2, H9, C5, C6⟩
   refine ⟨(Frm.of_ext Z), ?_⟩
   have I0 := Z.size
   have ⟨C7, C8, C9⟩ := i2.lkm
   have s9 := (((c7.xr D).xr y).xr I).xr Z
   have y8 := (a2.frmB s9 q3)
   refine dOp 2 rfl rfl (by kernel_rfl) (oCall rfl call106 (integer_Sub y8 i2 Qo Qo) rfl ?_)
   rintro _ L2 ⟨z, A, B, C, e1, rfl, a1, c8, I1, D0, D1⟩
   refine ⟨(Frm.of_ext a1), ?_⟩
   have I2 := a1.size
   have ⟨D2, D3, D4⟩ := c8.lkm
   have t0 := Z.trans a1
   have t1 := (k8.ext t0)
   refine dOp 3 rfl rfl (by kernel_rfl) (oStore [(.bool z), (.slice A B C)] rfl rfl rfl sz25 rfl t1 Qn (fun y9 a0 I3 e2 => ?_))
   replace e2 : Blk y9 P 25 [(.bool z), (.slice A B C)] := e2
   refine ⟨a0, dDone (by kernel_rfl) (xN (k7 _ _ (wp_region_lit ?_)))⟩
   have h7 := ((((D.trans y).trans I).trans Z).trans a1).rx a0
   have i3 := (c6.frm h7 q1)
   refine sV (evLoadAB [(.bool a), (.slice c d e)] agg25 sz25 rfl i3 rfl) ?_
   have l0 := (h6.frm h7 q1)
   refine sV (evLoadAB [(.bool gb), (.slice Ab nb cb)] agg25 sz25 rfl l0 rfl) ?_
   have t2 := (d7.frmB h7 q3)
   have l1 := (((y.trans I).trans Z).trans a1).rx a0
   have t3 := (k6.frmB l1 q3)
   refine sO (oCall rfl call12 (integer_Add t2 t3 Qo Qo) rfl ?_)
   rintro _ I4 ⟨f, g, h, j, d2, rfl, M, a3, e3, d3, z0⟩
   have D5 := M.size
   have ⟨z1, z2, z3⟩ := a3.lkm
   have l2 := (i3.ext M)
   refine sO (oStore [(.bool f), (.slice g h j)] rfl rfl rfl sz25 rfl l2 Qn (fun t4 J D6 a4 => ?_))
   replace a4 : Blk t4 S 25 [(.bool f), (.slice g h j)] := a4
   refine sK h5 (wp_seq_k fun I5 e4 => dBegin (fun b => b = P ∨ b = S) mixed (fun I6 E D7 => dTwo 0 1 (by kernel_rfl) ?_ ?_))
   ·have l3 := (M.rx J).xr E
    have e5 := (e2.frm l3 q1)
    refine dWp (i := 0) rfl rfl (oEv (v := (.agg #[(.bool z), (.slice A B C)])) (evLoadAB [(.bool z), (.slice A B C)] agg25 sz25 rfl e5 rfl) rfl ⟨Frm.refl _ _, dTwo 1 2 (by kernel_rfl) ?_ ?_⟩)
    ·have i4 := (a4.ext E)
     refine dWp (i := 1) rfl rfl (oEv (v := (.agg #[(.bool f), (.slice g h j)])) (evLoadAB [(.bool f), (.slice g h j)] agg25 sz25 rfl i4 rfl) rfl ⟨Frm.refl _ _, dOp 2 rfl rfl (by kernel_rfl) (oStore [(.bool z), (.slice A B C)] rfl rfl rfl sz25 rfl e5 Qn (fun t5 a5 D8 e6 => ?_))⟩)
     replace e6 : Blk t5 P 25 [(.bool z), (.slice A B C)] := e6
     refine ⟨(a5.mono q4), ?_⟩
     have l4 := (i4.frm a5 q1)
     refine dOp 3 rfl rfl (by kernel_rfl) (oStore [(.bool f), (.slice g h j)] rfl rfl rfl sz25 rfl l4 Qn (fun t6 a6 D9 e7 => ?_))
     replace e7 : Blk t6 S 25 [(.bool f), (.slice g h j)] := e7
     refine ⟨(a6.mono q4), dAi 4 rfl rfl (dDone (by kernel_rfl) (xN (e4 _ _ (wp_ret ?_))))⟩
     have l5 := (e6.frm a6 q1)
     refine ret3 (.agg #[(.bool z), (.slice A B C)]) (.agg #[(.bool f), (.slice g h j)]) (.int .i64 (0)) results124 (resB [(.bool z), (.slice A B C)] agg25 sz25 rfl l5) (resB [(.bool f), (.slice g h j)] agg25 sz25 rfl e7) (resT rfl) ?_
     have l6 := ((((a0.xr M).tr J).xr E).tr a5).tr a6
     have t7 := (c8.frmB l6 q3)
     have l7 := ((J.xr E).tr a5).tr a6
     have t8 := (a3.frmB l7 q3)
     have l8 := ((((((((((((((T.trans O).rx U).tr H).xr G).xr D).xr y).xr I).xr Z).xr a1).tr a0).xr M).tr J).xr E).tr a5).tr a6
     exact ⟨z, A, B, C, e1, f, g, h, j, d2, (0), rfl, (Frm.mono l8 q4), (NatR.sub t7 q5), (NatR.sub t8 q5), (by rw [e3]; exact floor_neg hb0 Y X V), d3, rfl, (by omega)⟩
    ·refine dWp (i := 2) rfl rfl (oStore [(.bool z), (.slice A B C)] rfl rfl rfl sz25 rfl e5 Qn (fun t9 a7 E0 e8 => ?_))
     replace e8 : Blk t9 P 25 [(.bool z), (.slice A B C)] := e8
     refine ⟨(a7.mono q4), ?_⟩
     have l9 := E.rx a7
     have i5 := (a4.frm l9 q1)
     refine dOp 1 rfl rfl (by kernel_rfl) (oEv (v := (.agg #[(.bool f), (.slice g h j)])) (evLoadAB [(.bool f), (.slice g h j)] agg25 sz25 rfl i5 rfl) rfl ⟨Frm.refl _ _, dOp 3 rfl rfl (by kernel_rfl) (oStore [(.bool f), (.slice g h j)] rfl rfl rfl sz25 rfl i5 Qn (fun u0 a8 E1 e9 => ?_))⟩)
     replace e9 : Blk u0 S 25 [(.bool f), (.slice g h j)] := e9
     refine ⟨(a8.mono q4), dAi 4 rfl rfl (dDone (by kernel_rfl) (xN (e4 _ _ (wp_ret ?_))))⟩
     have m0 := (e8.frm a8 q1)
     refine ret3 (.agg #[(.bool z), (.slice A B C)]) (.agg #[(.bool f), (.slice g h j)]) (.int .i64 (0)) results124 (resB [(.bool z), (.slice A B C)] agg25 sz25 rfl m0) (resB [(.bool f), (.slice g h j)] agg25 sz25 rfl e9) (resT rfl) ?_
     have m1 := ((((a0.xr M).tr J).xr E).tr a7).tr a8
     have u1 := (c8.frmB m1 q3)
     have m2 := ((J.xr E).tr a7).tr a8
     have u2 := (a3.frmB m2 q3)
     have m3 := ((((((((((((((T.trans O).rx U).tr H).xr G).xr D).xr y).xr I).xr Z).xr a1).tr a0).xr M).tr J).xr E).tr a7).tr a8
     exact ⟨z, A, B, C, e1, f, g, h, j, d2, (0), rfl, (Frm.mono m3 q4), (NatR.sub u1 q5), (NatR.sub u2 q5), (by rw [e3]; exact floor_neg hb0 Y X V), d3, rfl, (by omega)⟩
   ·have i6 := (a4.ext E)
    refine dWp (i := 1) rfl rfl (oEv (v := (.agg #[(.bool f), (.slice g h j)])) (evLoadAB [(.bool f), (.slice g h j)] agg25 sz25 rfl i6 rfl) rfl ⟨Frm.refl _ _, ?_⟩)
    have m4 := (M.rx J).xr E
    have i7 := (e2.frm m4 q1)
    refine dOp 0 rfl rfl (by kernel_rfl) (oEv (v := (.agg #[(.bool z), (.slice A B C)])) (evLoadAB [(.bool z), (.slice A B C)] agg25 sz25 rfl i7 rfl) rfl ⟨Frm.refl _ _, dOp 2 rfl rfl (by kernel_rfl) (oStore [(.bool z), (.slice A B C)] rfl rfl rfl sz25 rfl i7 Qn (fun u3 a9 E2 f0 => ?_))⟩)
    replace f0 : Blk u3 P 25 [(.bool z), (.slice A B C)] := f0
    refine ⟨(a9.mono q4), ?_⟩
    have m5 := (i6.frm a9 q1)
    refine dOp 3 rfl rfl (by kernel_rfl) (oStore [(.bool f), (.slice g h j)] rfl rfl rfl sz25 rfl m5 Qn (fun u4 b0 E3 f1 => ?_))
    replace f1 : Blk u4 S 25 [(.bool f), (.slice g h j)] := f1
    refine ⟨(b0.mono q4), dAi 4 rfl rfl (dDone (by kernel_rfl) (xN (e4 _ _ (wp_ret ?_))))⟩
    have m6 := (f0.frm b0 q1)
    refine ret3 (.agg #[(.bool z), (.slice A B C)]) (.agg #[(.bool f), (.slice g h j)]) (.int .i64 (0)) results124 (resB [(.bool z), (.slice A B C)] agg25 sz25 rfl m6) (resB [(.bool f), (.slice g h j)] agg25 sz25 rfl f1) (resT rfl) ?_
    have m7 := ((((a0.xr M).tr J).xr E).tr a9).tr b0
    have u5 := (c8.frmB m7 q3)
    have m8 := ((J.xr E).tr a9).tr b0
    have u6 := (a3.frmB m8 q3)
    have m9 := ((((((((((((((T.trans O).rx U).tr H).xr G).xr D).xr y).xr I).xr Z).xr a1).tr a0).xr M).tr J).xr E).tr a9).tr b0
    exact ⟨z, A, B, C, e1, f, g, h, j, d2, (0), rfl, (Frm.mono m9 q4), (NatR.sub u5 q5), (NatR.sub u6 q5), (by rw [e3]; exact floor_neg hb0 Y X V), d3, rfl, (by omega)⟩
  ·refine dWp (i := 1) rfl rfl (oCall rfl call35 (integer_Of Qo) rfl ?_)
   rintro _ I7 ⟨z4, z5, z6, z7, z8, rfl, Q, h2, E4, z9, A0⟩
   refine ⟨(Frm.of_ext Q), ?_⟩
   have E5 := Q.size
   have ⟨A1, A2, A3⟩ := h2.lkm
   have n0 := ((((H.xr G).xr D).xr y).xr I).xr Q
   have i8 := (c5.frm n0 q1)
   refine dOp 0 rfl rfl (by kernel_rfl) (oEv (v := (.agg #[(.bool o), (.slice p q r)])) (evLoadAB [(.bool o), (.slice p q r)] agg25 sz25 rfl i8 rfl) rfl ⟨Frm.refl _ _, ?_⟩)
   have n1 := (((c7.xr D).xr y).xr I).xr Q
   have u7 := (a2.frmB n1 q3)
   refine dOp 2 rfl rfl (by kernel_rfl) (oCall rfl call106 (integer_Sub u7 h2 Qo Qo) rfl ?_)
   rintro _ I8 ⟨s, t, u, x, d4, rfl, W, b1, E6, A4, A5⟩
   refine ⟨(Frm.of_ext W), ?_⟩
   have E7 := W.size
   have ⟨A6, A7, A8⟩ := b1.lkm
   have n2 := (i8.ext W)
   refine dOp 3 rfl rfl (by kernel_rfl) (oStore [(.bool s), (.slice t u x)] rfl rfl rfl sz25 rfl n2 Qn (fun u8 R E8 c9 => ?_))
   replace c9 : Blk u8 P 25 [(.bool s), (.slice t u x)] := c9
   refine ⟨R, dDone (by kernel_rfl) (xN (k7 _ _ (wp_region_lit ?_)))⟩
   have f2 := ((((D.trans y).trans I).trans Q).trans W).rx R
   have i9 := (c6.frm f2 q1)
   refine sV (evLoadAB [(.bool a), (.slice c d e)] agg25 sz25 rfl i9 rfl) ?_
   have n3 := (h6.frm f2 q1)
   refine sV (evLoadAB [(.bool gb), (.slice Ab nb cb)] agg25 sz25 rfl n3 rfl) ?_
   have u9 := (d7.frmB f2 q3)
   have n4 := (((y.trans I).trans Q).trans W).rx R
   have v0 := (k6.frmB n4 q3)
   refine sO (oCall rfl call12 (integer_Add u9 v0 Qo Qo) rfl ?_)
   rintro _ I9 ⟨k, l, m, n, d5, rfl, N, b2, f3, d6, A9⟩
   have E9 := N.size
   have ⟨B0, B1, B2⟩ := b2.lkm
   have n5 := (i9.ext N)
   refine sO (oStore [(.bool k), (.slice l m n)] rfl rfl rfl sz25 rfl n5 Qn (fun v1 K F0 b3 => ?_))
   replace b3 : Blk v1 S 25 [(.bool k), (.slice l m n)] := b3
   refine sK h5 (wp_seq_k fun J0 f4 => dBegin (fun b => b = P ∨ b = S) mixed (fun J1 F F1 => dTwo 0 1 (by kernel_rfl) ?_ ?_))
   ·have n6 := (N.rx K).xr F
    have f5 := (c9.frm n6 q1)
    refine dWp (i := 0) rfl rfl (oEv (v := (.agg #[(.bool s), (.slice t u x)])) (evLoadAB [(.bool s), (.slice t u x)] agg25 sz25 rfl f5 rfl) rfl ⟨Frm.refl _ _, dTwo 1 2 (by kernel_rfl) ?_ ?_⟩)
    ·have j0 := (b3.ext F)
     refine dWp (i := 1) rfl rfl (oEv (v := (.agg #[(.bool k), (.slice l m n)])) (evLoadAB [(.bool k), (.slice l m n)] agg25 sz25 rfl j0 rfl) rfl ⟨Frm.refl _ _, dOp 2 rfl rfl (by kernel_rfl) (oStore [(.bool s), (.slice t u x)] rfl rfl rfl sz25 rfl f5 Qn (fun v2 b4 F2 f6 => ?_))⟩)
     replace f6 : Blk v2 P 25 [(.bool s), (.slice t u x)] := f6
     refine ⟨(b4.mono q4), ?_⟩
     have n7 := (j0.frm b4 q1)
     refine dOp 3 rfl rfl (by kernel_rfl) (oStore [(.bool k), (.slice l m n)] rfl rfl rfl sz25 rfl n7 Qn (fun v3 b5 F3 f7 => ?_))
     replace f7 : Blk v3 S 25 [(.bool k), (.slice l m n)] := f7
     refine ⟨(b5.mono q4), dAi 4 rfl rfl (dDone (by kernel_rfl) (xN (f4 _ _ (wp_ret ?_))))⟩
     have n8 := (f6.frm b5 q1)
     refine ret3 (.agg #[(.bool s), (.slice t u x)]) (.agg #[(.bool k), (.slice l m n)]) (.int .i64 (0)) results124 (resB [(.bool s), (.slice t u x)] agg25 sz25 rfl n8) (resB [(.bool k), (.slice l m n)] agg25 sz25 rfl f7) (resT rfl) ?_
     have n9 := ((((R.xr N).tr K).xr F).tr b4).tr b5
     have v4 := (b1.frmB n9 q3)
     have o0 := ((K.xr F).tr b4).tr b5
     have v5 := (b2.frmB o0 q3)
     have o1 := ((((((((((((((T.trans O).rx U).tr H).xr G).xr D).xr y).xr I).xr Q).xr W).tr R).xr N).tr K).xr F).tr b4).tr b5
     exact ⟨s, t, u, x, d4, k, l, m, n, d5, (0), rfl, (Frm.mono o1 q4), (NatR.sub v4 q5), (NatR.sub v5 q5), (by rw [f3]; exact floor_neg hb0 Y X V), d6, rfl, (by omega)⟩
    ·refine dWp (i := 2) rfl rfl (oStore [(.bool s), (.slice t u x)] rfl rfl rfl sz25 rfl f5 Qn (fun v6 b6 F4 f8 => ?_))
     replace f8 : Blk v6 P 25 [(.bool s), (.slice t u x)] := f8
     refine ⟨(b6.mono q4), ?_⟩
     have o2 := F.rx b6
     have j1 := (b3.frm o2 q1)
     refine dOp 1 rfl rfl (by kernel_rfl) (oEv (v := (.agg #[(.bool k), (.slice l m n)])) (evLoadAB [(.bool k), (.slice l m n)] agg25 sz25 rfl j1 rfl) rfl ⟨Frm.refl _ _, dOp 3 rfl rfl (by kernel_rfl) (oStore [(.bool k), (.slice l m n)] rfl rfl rfl sz25 rfl j1 Qn (fun v7 b7 F5 f9 => ?_))⟩)
     replace f9 : Blk v7 S 25 [(.bool k), (.slice l m n)] := f9
     refine ⟨(b7.mono q4), dAi 4 rfl rfl (dDone (by kernel_rfl) (xN (f4 _ _ (wp_ret ?_))))⟩
     have o3 := (f8.frm b7 q1)
     refine ret3 (.agg #[(.bool s), (.slice t u x)]) (.agg #[(.bool k), (.slice l m n)]) (.int .i64 (0)) results124 (resB [(.bool s), (.slice t u x)] agg25 sz25 rfl o3) (resB [(.bool k), (.slice l m n)] agg25 sz25 rfl f9) (resT rfl) ?_
     have o4 := ((((R.xr N).tr K).xr F).tr b6).tr b7
     have v8 := (b1.frmB o4 q3)
     have o5 := ((K.xr F).tr b6).tr b7
     have v9 := (b2.frmB o5 q3)
     have o6 := ((((((((((((((T.trans O).rx U).tr H).xr G).xr D).xr y).xr I).xr Q).xr W).tr R).xr N).tr K).xr F).tr b6).tr b7
     exact ⟨s, t, u, x, d4, k, l, m, n, d5, (0), rfl, (Frm.mono o6 q4), (NatR.sub v8 q5), (NatR.sub v9 q5), (by rw [f3]; exact floor_neg hb0 Y X V), d6, rfl, (by omega)⟩
   ·have j2 := (b3.ext F)
    refine dWp (i := 1) rfl rfl (oEv (v := (.agg #[(.bool k), (.slice l m n)])) (evLoadAB [(.bool k), (.slice l m n)] agg25 sz25 rfl j2 rfl) rfl ⟨Frm.refl _ _, ?_⟩)
    have o7 := (N.rx K).xr F
    have j3 := (c9.frm o7 q1)
    refine dOp 0 rfl rfl (by kernel_rfl) (oEv (v := (.agg #[(.bool s), (.slice t u x)])) (evLoadAB [(.bool s), (.slice t u x)] agg25 sz25 rfl j3 rfl) rfl ⟨Frm.refl _ _, dOp 2 rfl rfl (by kernel_rfl) (oStore [(.bool s), (.slice t u x)] rfl rfl rfl sz25 rfl j3 Qn (fun w0 b8 F6 g0 => ?_))⟩)
    replace g0 : Blk w0 P 25 [(.bool s), (.slice t u x)] := g0
    refine ⟨(b8.mono q4), ?_⟩
    have o8 := (j2.frm b8 q1)
    refine dOp 3 rfl rfl (by kernel_rfl) (oStore [(.bool k), (.slice l m n)] rfl rfl rfl sz25 rfl o8 Qn (fun w1 b9 F7 g1 => ?_))
    replace g1 : Blk w1 S 25 [(.bool k), (.slice l m n)] := g1
    refine ⟨(b9.mono q4), dAi 4 rfl rfl (dDone (by kernel_rfl) (xN (f4 _ _ (wp_ret ?_))))⟩
    have o9 := (g0.frm b9 q1)
    refine ret3 (.agg #[(.bool s), (.slice t u x)]) (.agg #[(.bool k), (.slice l m n)]) (.int .i64 (0)) results124 (resB [(.bool s), (.slice t u x)] agg25 sz25 rfl o9) (resB [(.bool k), (.slice l m n)] agg25 sz25 rfl g1) (resT rfl) ?_
    have p0 := ((((R.xr N).tr K).xr F).tr b8).tr b9
    have w2 := (b1.frmB p0 q3)
    have p1 := ((K.xr F).tr b8).tr b9
    have w4 := (b2.frmB p1 q3)
    have p2 := ((((((((((((((T.trans O).rx U).tr H).xr G).xr D).xr y).xr I).xr Q).xr W).tr R).xr N).tr K).xr F).tr b8).tr b9
    exact ⟨s, t, u, x, d4, k, l, m, n, d5, (0), rfl, (Frm.mono p2 q4), (NatR.sub w2 q5), (NatR.sub w4 q5), (by rw [f3]; exact floor_neg hb0 Y X V), d6, rfl, (by omega)⟩
 ·refine dV 5 rfl (fun _ _ => evLss false rfl rfl (dF V)) (dDone (by kernel_rfl) (xN (k4 _ _ (cF rfl (wp_skip (xN (h5 _ _ (wp_seq_k fun J2 g3 => dBegin (fun b => b = P ∨ b = S) mixed (fun J3 L F8 => dTwo 0 1 (by kernel_rfl) ?_ ?_)))))))))
  ·have p3 := (((H.xr G).xr D).xr y).xr L
   have g4 := (c5.frm p3 q1)
   refine dWp (i := 0) rfl rfl (oEv (v := (.agg #[(.bool o), (.slice p q r)])) (evLoadAB [(.bool o), (.slice p q r)] agg25 sz25 rfl g4 rfl) rfl ⟨Frm.refl _ _, dTwo 1 2 (by kernel_rfl) ?_ ?_⟩)
   ·have j4 := (D.trans y).trans L
    have j5 := (c6.ext j4)
    refine dWp (i := 1) rfl rfl (oEv (v := (.agg #[(.bool a), (.slice c d e)])) (evLoadAB [(.bool a), (.slice c d e)] agg25 sz25 rfl j5 rfl) rfl ⟨Frm.refl _ _, dOp 2 rfl rfl (by kernel_rfl) (oStore [(.bool o), (.slice p q r)] rfl rfl rfl sz25 rfl g4 Qn (fun w5 c0 F9 g5 => ?_))⟩)
    replace g5 : Blk w5 P 25 [(.bool o), (.slice p q r)] := g5
    refine ⟨(c0.mono q4), ?_⟩
    have p4 := (j5.frm c0 q1)
    refine dOp 3 rfl rfl (by kernel_rfl) (oStore [(.bool a), (.slice c d e)] rfl rfl rfl sz25 rfl p4 Qn (fun w6 c1 G0 g6 => ?_))
    replace g6 : Blk w6 S 25 [(.bool a), (.slice c d e)] := g6
    refine ⟨(c1.mono q4), dAi 4 rfl rfl (dDone (by kernel_rfl) (xN (g3 _ _ (wp_ret ?_))))⟩
    have p5 := (g5.frm c1 q1)
    refine ret3 (.agg #[(.bool o), (.slice p q r)]) (.agg #[(.bool a), (.slice c d e)]) (.int .i64 (0)) results124 (resB [(.bool o), (.slice p q r)] agg25 sz25 rfl p5) (resB [(.bool a), (.slice c d e)] agg25 sz25 rfl g6) (resT rfl) ?_
    have p6 := ((((c7.xr D).xr y).xr L).tr c0).tr c1
    have w7 := (a2.frmB p6 q3)
    have p7 := (j4.rx c0).tr c1
    have w8 := (d7.frmB p7 q3)
    have p8 := ((((((((T.trans O).rx U).tr H).xr G).xr D).xr y).xr L).tr c0).tr c1
    exact ⟨o, p, q, r, d9, a, c, d, e, e0, (0), rfl, (Frm.mono p8 q4), (NatR.sub w7 q5), (NatR.sub w8 q5), (floor_pos hb0 Y X V), d1, rfl, Qo⟩
   ·refine dWp (i := 2) rfl rfl (oStore [(.bool o), (.slice p q r)] rfl rfl rfl sz25 rfl g4 Qn (fun x0 d0 G1 g7 => ?_))
    replace g7 : Blk x0 P 25 [(.bool o), (.slice p q r)] := g7
    refine ⟨(d0.mono q4), ?_⟩
    have j6 := ((D.trans y).trans L).rx d0
    have j7 := (c6.frm j6 q1)
    refine dOp 1 rfl rfl (by kernel_rfl) (oEv (v := (.agg #[(.bool a), (.slice c d e)])) (evLoadAB [(.bool a), (.slice c d e)] agg25 sz25 rfl j7 rfl) rfl ⟨Frm.refl _ _, dOp 3 rfl rfl (by kernel_rfl) (oStore [(.bool a), (.slice c d e)] rfl rfl rfl sz25 rfl j7 Qn (fun x1 c2 G2 g9 => ?_))⟩)
    replace g9 : Blk x1 S 25 [(.bool a), (.slice c d e)] := g9
    refine ⟨(c2.mono q4), dAi 4 rfl rfl (dDone (by kernel_rfl) (xN (g3 _ _ (wp_ret ?_))))⟩
    have p9 := (g7.frm c2 q1)
    refine ret3 (.agg #[(.bool o), (.slice p q r)]) (.agg #[(.bool a), (.slice c d e)]) (.int .i64 (0)) results124 (resB [(.bool o), (.slice p q r)] agg25 sz25 rfl p9) (resB [(.bool a), (.slice c d e)] agg25 sz25 rfl g9) (resT rfl) ?_
    have q0 := ((((c7.xr D).xr y).xr L).tr d0).tr c2
    have x2 := (a2.frmB q0 q3)
    have q2 := j6.tr c2
    have x3 := (d7.frmB q2 q3)
    have q6 := ((((((((T.trans O).rx U).tr H).xr G).xr D).xr y).xr L).tr d0).tr c2
    exact ⟨o, p, q, r, d9, a, c, d, e, e0, (0), rfl, (Frm.mono q6 q4), (NatR.sub x2 q5), (NatR.sub x3 q5), (floor_pos hb0 Y X V), d1, rfl, Qo⟩
  ·have j8 := (D.trans y).trans L
   have j9 := (c6.ext j8)
   refine dWp (i := 1) rfl rfl (oEv (v := (.agg #[(.bool a), (.slice c d e)])) (evLoadAB [(.bool a), (.slice c d e)] agg25 sz25 rfl j9 rfl) rfl ⟨Frm.refl _ _, ?_⟩)
   have q7 := (((H.xr G).xr D).xr y).xr L
   have k0 := (c5.frm q7 q1)
   refine dOp 0 rfl rfl (by kernel_rfl) (oEv (v := (.agg #[(.bool o), (.slice p q r)])) (evLoadAB [(.bool o), (.slice p q r)] agg25 sz25 rfl k0 rfl) rfl ⟨Frm.refl _ _, dOp 2 rfl rfl (by kernel_rfl) (oStore [(.bool o), (.slice p q r)] rfl rfl rfl sz25 rfl k0 Qn (fun x4 c3 G3 h0 => ?_))⟩)
   replace h0 : Blk x4 P 25 [(.bool o), (.slice p q r)] := h0
   refine ⟨(c3.mono q4), ?_⟩
   have q8 := (j9.frm c3 q1)
   refine dOp 3 rfl rfl (by kernel_rfl) (oStore [(.bool a), (.slice c d e)] rfl rfl rfl sz25 rfl q8 Qn (fun x5 c4 G4 h1 => ?_))
   replace h1 : Blk x5 S 25 [(.bool a), (.slice c d e)] := h1
   refine ⟨(c4.mono q4), dAi 4 rfl rfl (dDone (by kernel_rfl) (xN (g3 _ _ (wp_ret ?_))))⟩
   have q9 := (h0.frm c4 q1)
   refine ret3 (.agg #[(.bool o), (.slice p q r)]) (.agg #[(.bool a), (.slice c d e)]) (.int .i64 (0)) results124 (resB [(.bool o), (.slice p q r)] agg25 sz25 rfl q9) (resB [(.bool a), (.slice c d e)] agg25 sz25 rfl h1) (resT rfl) ?_
   have r0 := ((((c7.xr D).xr y).xr L).tr c3).tr c4
   have x6 := (a2.frmB r0 q3)
   have r1 := (j8.rx c3).tr c4
   have x7 := (d7.frmB r1 q3)
   have r2 := ((((((((T.trans O).rx U).tr H).xr G).xr D).xr y).xr L).tr c3).tr c4
   exact ⟨o, p, q, r, d9, a, c, d, e, e0, (0), rfl, (Frm.mono r2 q4), (NatR.sub x6 q5), (NatR.sub x7 q5), (floor_pos hb0 Y X V), d1, rfl, Qo⟩
set_option maxHeartbeats 1000000 in
theorem division_Mod {w : World} {ga : Bool} {Sa : Nat → Prop} {Aa : Option Addr} {na ca : Nat} {da : List Nat} {gm : Bool} {Sm : Nat → Prop} {Am : Option Addr} {nm cm : Nat} {dm : List Nat} (ha : NatR w Sa Aa na ca da) (hm : NatR w Sm Am nm cm dm) (hna : na ≤ 268435456) (hnm : nm ≤ 268435456) (hm0 : zval gm dm ≠ 0) : Calls Tryz.prog 105 #[(.agg #[(.bool ga), (.slice Aa na ca)]), (.agg #[(.bool gm), (.slice Am nm cm)])] w (Ret fun v w' => ∃ (gr : Bool) (Ar : Option Addr) (nr : Nat) (cr : Nat) (dr : List Nat) (xo : Int), v = (.tuple #[(.agg #[(.bool gr), (.slice Ar nr cr)]), (.int .i64 (xo))]) ∧ Ext w w' ∧ NatR w' (fun b => w.heap.size ≤ b) Ar nr cr dr ∧ (zval gr dr = zval ga da % ((zval gm dm).natAbs : Int)) ∧ (ICan gr dr) ∧ (xo = 0) ∧ (nr ≤ nm + 1)) := by
 have ⟨la, ka, ma⟩ := ha.lkm
 replace ha := ha.low
 have ⟨lm, km, mm⟩ := hm.lkm
 replace hm := hm.low
 refine enter func105 rfl ntmps105 rfl (rS fun K1 d0 => sO (oBox [(.bool ga), (.slice Aa na ca)] rfl rfl (fun g2 w3 i4 a5 i5 d1 => sO (oBox [(.bool gm), (.slice Am nm cm)] rfl rfl (fun g8 w9 g4 B g5 a8 => sO (oAlloc [(.bool false), (.slice none 0 0)] zero25 rfl (fun a6 I g6 q g7 a9 => sAi rfl (sK d0 (wp_seq_k fun i6 b0 => ?_)))))))))
 have b1 := B.trans q
 have b2 := (d1.ext b1)
 have b3 := (a8.ext q)
 refine wpJoin (dfs := []) (n := 19) (fun e w_ => ∃ (W : Nat) (gR : Bool) (AR : Option Addr) (nR : Nat) (cR : Nat) (dR : List Nat) (xE : Int), e 4 = (.pointer (some ⟨a6, 0, none⟩)) ∧ e 7 = (.pointer (some ⟨W, 0, none⟩)) ∧ e 8 = (.int .i64 (xE)) ∧ Frm (fun _ => False) I w_ ∧ Blk w_ W 25 ([.bool gR, .slice AR nR cR]) ∧ (I.heap.size ≤ W) ∧ (NatR w_ (fun b => I.heap.size ≤ b) AR nR cR dR) ∧ (zval gR dR = zval ga da % ((zval gm dm).natAbs : Int)) ∧ (ICan gR dR) ∧ (xE = 0) ∧ (nR ≤ nm + 1)) ?_ ?_
 ·refine dBegin (fun b => I.heap.size ≤ b) mixed (fun i7 r g9 => ?_)
  have b4 := (b2.ext r)
  refine dV 0 rfl (fun _ hf => evLoadAB [(.bool ga), (.slice Aa na ca)] agg25 sz25 rfl (b4.frm hf q1) rfl) ?_
  have b5 := (b3.ext r)
  refine dV 1 rfl (fun _ hf => evLoadAB [(.bool gm), (.slice Am nm cm)] agg25 sz25 rfl (b5.frm hf q1) rfl) (wAl2 (fun k => bif Nat.beq k 8 then (6, 25, [(.bool false), (.slice none 0 0)]) else (7, 25, [(.bool false), (.slice none 0 0)])) 8 9 (alOp rfl rfl zero25 rfl) (alOp rfl rfl zero25 rfl) rfl fun Q => wOp Q 2 (by kernel_rfl) fun h0 J C => ?_)
  have h1 := C.size
  have R := (((a5.trans B).trans q).trans r).trans C
  have d2 := (hm.ext R)
  refine dWp (i := 2) rfl rfl (oCall rfl call11 (integer_Abs d2 Qo) rfl ?_)
  rintro _ K ⟨X, e4, e5, e6, Y, rfl, s, L, b6, e7, e8⟩
  refine ⟨s, wNext rfl ?_⟩
  have h2 := s.size
  have ⟨e9, f0, f1⟩ := L.lkm
  have d3 := L.sub (S' := fun b => J.heap.size ≤ b ∧ b < K.heap.size) fun _ hb hs => ⟨hs, hb⟩
  have S : zval X Y = ((zval gm dm).natAbs : Int) := by rw [b6, natAbs_val gm dm]
  refine wOp Q 3 (by kernel_rfl) fun h3 g t => ?_
  have h4 := t.size
  have b8 := (R.trans s).trans t
  have d4 := (ha.ext b8)
  have a7 := (d3.ext t)
  refine dWp (i := 3) rfl rfl (oCall rfl call124 (division_Floor d4 a7 Qo Qo Qo) rfl ?_)
  rintro _ h ⟨j, l, m, o, f2, a, c, d, f, Z, u, rfl, x, M, N, b9, a0, a1, f3⟩
  refine ⟨x, wNext rfl ?_⟩
  have h5 := x.size
  have ⟨f4, f5, f6⟩ := M.lkm
  have ⟨f7, f8, f9⟩ := N.lkm
  have d5 := M.sub (S' := fun b => g.heap.size ≤ b ∧ b < h.heap.size) fun _ hb hs => ⟨hs, hb⟩
  have d6 := N.sub (S' := fun b => g.heap.size ≤ b ∧ b < h.heap.size) fun _ hb hs => ⟨hs, hb⟩
  refine wEv 4 rfl (v := (.tuple #[(.agg #[(.bool j), (.slice l m o)]), (.agg #[(.bool a), (.slice c d f)]), (.int .i64 (u))])) (fun _ => (fun _ _ => rfl)) rfl (fun _ => rfl) (by kernel_rfl) (wEv 5 rfl (v := (.agg #[(.bool j), (.slice l m o)])) (fun _ => (fun _ _ => rfl)) rfl (fun _ => rfl) (by kernel_rfl) (wEv 6 rfl (v := (.agg #[(.bool a), (.slice c d f)])) (fun _ => (fun _ _ => rfl)) rfl (fun _ => rfl) (by kernel_rfl) (wEv 7 rfl (v := (.int .i64 (u))) (fun _ => (fun _ _ => rfl)) rfl (fun _ => rfl) (by kernel_rfl) (wEnd2 Q #[true, true, true, true, true, true, true, true, true, true, false, false, false] (by kernel_rfl) fun O A i8 p h6 h7 g0 T U D E => ?_))))
  have h8 := p.size
  have h9 := T.lt
  have i0 := U.lt
  have c0 := x.trans p
  have d7 := (a7.ext c0)
  have i9 := d7.sub (S' := fun b => (J.heap.size ≤ b ∧ b < K.heap.size) ∧ b ≠ O ∧ b ≠ A) fun b _ hs => ⟨hs, D.ne J.heap.size K.heap.size (by simp) b hs.1 hs.2, E.ne J.heap.size K.heap.size (by simp) b hs.1 hs.2⟩
  have d8 := (d5.ext p)
  have j0 := d8.sub (S' := fun b => (g.heap.size ≤ b ∧ b < h.heap.size) ∧ b ≠ O ∧ b ≠ A) fun b _ hs => ⟨hs, D.ne g.heap.size h.heap.size (by simp) b hs.1 hs.2, E.ne g.heap.size h.heap.size (by simp) b hs.1 hs.2⟩
  have d9 := (d6.ext p)
  have e0 := d9.sub (S' := fun b => (g.heap.size ≤ b ∧ b < h.heap.size) ∧ b ≠ O ∧ b ≠ A) fun b _ hs => ⟨hs, D.ne g.heap.size h.heap.size (by simp) b hs.1 hs.2, E.ne g.heap.size h.heap.size (by simp) b hs.1 hs.2⟩
  refine dOp 10 rfl rfl (by kernel_rfl) (oStore [(.bool j), (.slice l m o)] rfl rfl rfl sz25 rfl T Qn (fun e1 y i1 V => ?_))
  replace V : Blk e1 O 25 [(.bool j), (.slice l m o)] := V
  refine ⟨(y.mono q4), ?_⟩
  have c1 := (U.frm y q1)
  refine dOp 11 rfl rfl (by kernel_rfl) (oStore [(.bool a), (.slice c d f)] rfl rfl rfl sz25 rfl c1 Qn (fun e2 F i2 G => ?_))
  replace G : Blk e2 A 25 [(.bool a), (.slice c d f)] := G
  refine ⟨(F.mono q4), dAi 12 rfl rfl (dDone (by kernel_rfl) ?_)⟩
  have c2 := y.tr F
  have e3 := (e0.frmB c2 q3)
  have c3 := ((((((r.trans C).trans s).trans t).trans x).trans p).rx y).tr F
  exact ⟨rfl, _, rfl, (A), (a), (c), (d), (f), (Z), (u), rfl, rfl, rfl, (Frm.mono c3 q4), G, (by omega), (NatR.sub e3 q5), (by rw [b9, S]), (a0), (a1), (by omega)⟩
 ·rintro j1 j2 ⟨W, gR, AR, nR, cR, dR, xE, c4, c5, c6, H, c7, j3, hR, hv, hcR, hE, hl⟩
  obtain ⟨j4, rfl⟩ := sq3 c4 c5 c6
  have g1 := H.size
  have ⟨lR, kR, mR⟩ := hR.lkm
  refine xN (b0 _ _ (rS fun i3 a2 => sV (evLoadAB [(.bool gR), (.slice AR nR cR)] agg25 sz25 rfl c7 rfl) (sMi rfl ?_)))
  have a3 := (a9.ext H)
  refine sO (oStore [(.bool gR), (.slice AR nR cR)] rfl rfl rfl sz25 rfl a3 Qn (fun c8 P g3 z => ?_))
  replace z : Blk c8 a6 25 [(.bool gR), (.slice AR nR cR)] := z
  refine sAi rfl (sK a2 (wp_ret (ret2 (.agg #[(.bool gR), (.slice AR nR cR)]) (.int .i64 (xE)) results105 (resB [(.bool gR), (.slice AR nR cR)] agg25 sz25 rfl z) (resT rfl) ?_)))
  have c9 := (hR.frmB P q3)
  have a4 := (((a5.trans B).trans q).trans H).rx P
  exact ⟨gR, AR, nR, cR, dR, (xE), rfl, (Frm.mono a4 q4), (NatR.sub c9 q5), hv, hcR, hE, hl⟩
set_option maxHeartbeats 1000000 in
theorem division_Symmetric {w : World} {ga : Bool} {Sa : Nat → Prop} {Aa : Option Addr} {na ca : Nat} {da : List Nat} {gm : Bool} {Sm : Nat → Prop} {Am : Option Addr} {nm cm : Nat} {dm : List Nat} (ha : NatR w Sa Aa na ca da) (hm : NatR w Sm Am nm cm dm) (hna : na ≤ 268435456) (hnm : nm ≤ 134217728) (hm0 : zval gm dm ≠ 0) : Calls Tryz.prog 70 #[(.agg #[(.bool ga), (.slice Aa na ca)]), (.agg #[(.bool gm), (.slice Am nm cm)])] w (Ret fun v w' => ∃ (gr : Bool) (Ar : Option Addr) (nr : Nat) (cr : Nat) (dr : List Nat) (xo : Int), v = (.tuple #[(.agg #[(.bool gr), (.slice Ar nr cr)]), (.int .i64 (xo))]) ∧ Ext w w' ∧ NatR w' (fun b => w.heap.size ≤ b) Ar nr cr dr ∧ (zval gr dr = symZ (zval gm dm).natAbs (zval ga da)) ∧ (ICan gr dr) ∧ (xo = 0) ∧ (nr ≤ nm + 2)) := by
 have ⟨la, ka, ma⟩ := ha.lkm
 replace ha := ha.low
 have ⟨lm, km, mm⟩ := hm.lkm
 replace hm := hm.low
 refine enter func70 rfl ntmps70 rfl (rS fun K1 e7 => sO (oBox [(.bool ga), (.slice Aa na ca)] rfl rfl (fun g2 w3 k5 e8 k6 e9 => sO (oBox [(.bool gm), (.slice Am nm cm)] rfl rfl (fun g8 w9 i6 U i7 c3 => sO (oAlloc [(.bool false), (.slice none 0 0)] zero25 rfl (fun b9 k7 i8 F i9 V => sAi rfl (sK e7 (rS fun k8 c4 => ?_)))))))))
 have c5 := U.trans F
 have c6 := (e9.ext c5)
 refine sV (evLoadAB [(.bool ga), (.slice Aa na ca)] agg25 sz25 rfl c6 rfl) ?_
 have W := (c3.ext F)
 refine sV (evLoadAB [(.bool gm), (.slice Am nm cm)] agg25 sz25 rfl W rfl) ?_
 have t := (e8.trans U).trans F
 have f0 := (ha.ext t)
 have c0 := (hm.ext t)
 refine sO (oCall rfl call105 (division_Mod f0 c0 Qo Qo Qo) rfl ?_)
 rintro _ k9 ⟨a, c, d, e, a2, M, rfl, x, N, c7, a3, f8, f9⟩
 have j0 := x.size
 have ⟨g0, g1, g3⟩ := N.lkm
 refine sV (v := (.tuple #[(.agg #[(.bool a), (.slice c d e)]), (.int .i64 (M))])) (rfl) (sV (v := (.agg #[(.bool a), (.slice c d e)])) (rfl) (sV (v := (.int .i64 (M))) (rfl) (sO (oAlloc [(.bool false), (.slice none 0 0)] zero25 rfl (fun c1 l0 j1 y j2 c8 => sO (oStore [(.bool a), (.slice c d e)] rfl rfl rfl sz25 rfl c8 Qn (fun f1 z j3 G => ?_)))))))
 replace G : Blk f1 c1 25 [(.bool a), (.slice c d e)] := G
 refine sAi rfl (sK c4 (wp_seq_k fun l1 c9 => rS fun l2 d0 => sMi rfl (sV (evNeq false rfl rfl (dF Qo)) (sK d0 (cF rfl (wp_skip (xN (c9 _ _ (rS fun l3 d1 => ?_)))))))))
 have A := (x.trans y).rx z
 have d2 := (W.frm A q1)
 refine sV (evLoadAB [(.bool gm), (.slice Am nm cm)] agg25 sz25 rfl d2 rfl) ?_
 have f2 := (c0.frmB A q3)
 refine sO (oCall rfl call11 (integer_Abs f2 Qo) rfl ?_)
 rintro _ l4 ⟨p, q, r, s, a4, rfl, m, O, d3, g4, g5⟩
 have j4 := m.size
 have ⟨g6, g7, g9⟩ := O.lkm
 have hab : zval p a4 = ((zval gm dm).natAbs : Int) := by rw [d3, natAbs_val gm dm]
 refine sO (oAlloc [(.bool false), (.slice none 0 0)] zero25 rfl (fun f3 l5 j5 n j6 d4 => sO (oStore [(.bool p), (.slice q r s)] rfl rfl rfl sz25 rfl d4 Qn (fun f4 o j7 H => ?_))))
 replace H : Blk f4 f3 25 [(.bool p), (.slice q r s)] := H
 refine sK d1 (wp_seq_k fun l6 X => wp_seq_k fun l7 Y => dBegin (fun _ => False) mixed (fun l8 l j8 => ?_))
 have d5 := ((m.trans n).rx o).xr l
 have I := (G.frm d5 q1)
 refine dV 0 rfl (fun _ hf => evLoadAB [(.bool a), (.slice c d e)] agg25 sz25 rfl (I.ext hf) rfl) ?_
 have Z := (H.ext l)
 refine dV 2 rfl (fun _ hf => evLoadAB [(.bool p), (.slice q r s)] agg25 sz25 rfl (Z.ext hf) rfl) ?_
 have d6 := ((((y.rx z).xr m).xr n).tr o).xr l
 have a0 := (N.frmB d6 q3)
 refine dOp 1 rfl rfl (by kernel_rfl) (oCall rfl call34 (integer_Shl a0 (xn := 1) Qo Qo Qo) rfl ?_)
 rintro _ l9 ⟨h0, h1, h2, h3, h4, rfl, j, P, d7, h5, h6⟩
 refine ⟨(Frm.of_ext j), ?_⟩
 have j9 := j.size
 have ⟨h7, h8, h9⟩ := P.lkm
 have d8 := ((n.rx o).xr l).xr j
 have c2 := (O.frmB d8 q3)
 refine dOp 3 rfl rfl (by kernel_rfl) (oCall rfl call13 (integer_Cmp P c2) rfl ?_)
 rintro _ m0 ⟨a5, rfl, k, d9⟩
 refine ⟨(Frm.of_ext k), ?_⟩
 have k0 := k.size
 have ⟨hy, hn⟩ := symZ_val (u := 0) c7 d7 hab d9
 by_cases B : a5 > 0
 ·refine dV 4 rfl (fun _ _ => evGtr true rfl rfl (dT B)) (dDone (by kernel_rfl) (xN (Y _ _ (cT rfl (wp_region_lit ?_)))))
  have J := j.trans k
  have a1 := (I.ext J)
  refine sV (evLoadAB [(.bool a), (.slice c d e)] agg25 sz25 rfl a1 rfl) ?_
  have e0 := (Z.ext J)
  refine sV (evLoadAB [(.bool p), (.slice q r s)] agg25 sz25 rfl e0 rfl) ?_
  have f5 := (a0.ext J)
  have f6 := (c2.ext k)
  refine sO (oCall rfl call106 (integer_Sub f5 f6 Qo Qo) rfl ?_)
  rintro _ m1 ⟨f, g, h, i, a6, rfl, C, Q, e1, a7, i0⟩
  have k1 := C.size
  have ⟨i1, i2, i3⟩ := Q.lkm
  have e2 := (a1.ext C)
  refine sO (oStore [(.bool f), (.slice g h i)] rfl rfl rfl sz25 rfl e2 Qn (fun f7 K k2 L => ?_))
  replace L : Blk f7 c1 25 [(.bool f), (.slice g h i)] := L
  refine sK X (rS fun k3 a8 => sV (evLoadAB [(.bool f), (.slice g h i)] agg25 sz25 rfl L rfl) ?_)
  have a9 := (((((((A.xr m).xr n).tr o).xr l).xr j).xr k).xr C).tr K
  have b0 := (V.frm a9 q1)
  refine sO (oStore [(.bool f), (.slice g h i)] rfl rfl rfl sz25 rfl b0 Qn (fun e3 R i4 D => ?_))
  replace D : Blk e3 b9 25 [(.bool f), (.slice g h i)] := D
  refine sAi rfl (sK a8 (wp_ret (ret2 (.agg #[(.bool f), (.slice g h i)]) (.int .i64 (0)) results70 (resB [(.bool f), (.slice g h i)] agg25 sz25 rfl D) (resT rfl) ?_)))
  have b1 := K.tr R
  have e4 := (Q.frmB b1 q3)
  have b2 := (((((((((((t.trans x).trans y).rx z).xr m).xr n).tr o).xr l).xr j).xr k).xr C).tr K).tr R
  exact ⟨f, g, h, i, a6, (0), rfl, (Frm.mono b2 q4), (NatR.sub e4 q5), (by rw [e1]; exact hy B), a7, rfl, (by omega)⟩
 ·refine dV 4 rfl (fun _ _ => evGtr false rfl rfl (dF B)) (dDone (by kernel_rfl) (xN (Y _ _ (cF rfl (wp_skip (xN (X _ _ (rS fun k4 b3 => ?_))))))))
  have S := j.trans k
  have b4 := (I.ext S)
  refine sV (evLoadAB [(.bool a), (.slice c d e)] agg25 sz25 rfl b4 rfl) ?_
  have b5 := (((((A.xr m).xr n).tr o).xr l).xr j).xr k
  have b6 := (V.frm b5 q1)
  refine sO (oStore [(.bool a), (.slice c d e)] rfl rfl rfl sz25 rfl b6 Qn (fun e5 T i5 E => ?_))
  replace E : Blk e5 b9 25 [(.bool a), (.slice c d e)] := E
  refine sAi rfl (sK b3 (wp_ret (ret2 (.agg #[(.bool a), (.slice c d e)]) (.int .i64 (0)) results70 (resB [(.bool a), (.slice c d e)] agg25 sz25 rfl E) (resT rfl) ?_)))
  have b7 := S.rx T
  have e6 := (a0.frmB b7 q3)
  have b8 := (((((((((t.trans x).trans y).rx z).xr m).xr n).tr o).xr l).xr j).xr k).tr T
  exact ⟨a, c, d, e, a2, (0), rfl, (Frm.mono b8 q4), (NatR.sub e6 q5), (hn B), a3, rfl, Qo⟩
end Go.Proofs.YtneolcopompkaaaGreatDoor
