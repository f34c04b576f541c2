/-
  Walk of package hensel: the remainder by a monic polynomial.
-/
import Derived.Test.YtneolcopompkaaaGreatDoorHen4
namespace Go.Proofs.YtneolcopompkaaaGreatDoor
open Go.RowKit Go.Gx Tryz
set_option maxHeartbeats 4000000 in
theorem hensel_remainder {w : World} {Sf : Nat → Prop} {Af : Option Addr} {nf cf Mf : Nat} {lf : List RI} {Sg : Nat → Prop} {Ag : Option Addr} {ng cg Mg : Nat} {lg : List RI} {gm : Bool} {Sm : Nat → Prop} {Am : Option Addr} {nm cm : Nat} {dm : List Nat} (hf : PolyR w Sf Af nf cf lf Mf) (hg : PolyR w Sg Ag ng cg lg Mg) (hm : NatR w Sm Am nm cm dm) (hnf : nf ≤ 1024) (hMf : Mf ≤ 16777216) (hng : ng ≤ 128) (hMg : Mg ≤ 65536) (hnm : nm ≤ 65536) (hm0 : zval gm dm ≠ 0) (hgd : 0 < (trimZ (zs lg)).length) : Calls Tryz.prog 101 #[(.slice Af nf cf), (.slice Ag ng cg), (.agg #[(.bool gm), (.slice Am nm cm)])] w (Ret fun v w' => ∃ (Ar : Option Addr) (nr : Nat) (cr : Nat) (lr : List RI), v = (.slice Ar nr cr) ∧ Ext w w' ∧ PolyR w' (fun b => w.heap.size ≤ b) Ar nr cr lr (nm + 2) ∧ (zs lr = remZ (zval gm dm).natAbs (zs lf) (zs lg)) ∧ (nr < (trimZ (zs lg)).length) ∧ (nr ≤ nf) ∧ (AllC lr)) := by
 have ⟨kf, jf, mf⟩ := hf.lkm
 replace hf := hf.low
 have ⟨kg, jg, mg⟩ := hg.lkm
 replace hg := hg.low
 have ⟨lm, km, mm⟩ := hm.lkm
 replace hm := hm.low
 refine enter func101 rfl ntmps101 rfl (rS fun K1 s3 => sO (oBox [(.bool gm), (.slice Am nm cm)] rfl rfl (fun g2 w3 F5 f4 F6 f5 => sAs rfl (sK s3 (rS fun K8 s4 => sMs rfl (sV (evLoadAB [(.bool gm), (.slice Am nm cm)] agg25 sz25 rfl f5 rfl) ?_))))))
 have h9 := (hf.ext f4)
 have f6 := (hm.ext f4)
 refine sO (oCall rfl call68 (hensel_reduce_own h9 f6 Qo Qo Qo Qo) rfl ?_)
 rintro _ s5 ⟨f, a, c8, rfl, Y, f7, c9, f8, x9, y0, n5, y1, y2⟩
 have B7 := Y.size
 have s6 : w3.heap.size ≤ f := f7; have s7 := c9.lt
 have s8 := f8.sub (S' := fun b => (f < b) ∧ b < s5.heap.size) fun _ hb hs => ⟨hs, hb⟩
 refine sAs rfl (sK s4 (rS fun F7 n6 => sMs rfl ?_))
 have f9 := f4.trans Y
 have n1 := (hg.ext f9)
 refine sO (oCall rfl call32 (unipoly_Degree n1 Qo Qo) rfl ?_)
 rintro _ s9 ⟨j0, rfl, E, B8⟩
 have B9 := E.size
 obtain ⟨d, hd⟩ : ∃ d, (trimZ (zs lg)).length = d + 1 := ⟨(trimZ (zs lg)).length - 1, by omega⟩
 obtain rfl : j0 = (d : Int) := by omega
 have hdn : d + 1 ≤ ng := by have h := trimZ_len (zs lg); rw [zlen] at h; omega
 refine sAi rfl (sK n6 (wp_seq_k fun F8 n7 => rS fun F9 n8 => sMs rfl (sV (evLen underlying39 rfl) (sV (evSub (((a : Int)) - 1) rfl rfl wI) (sAi rfl (sK n8 (wp_block ?_)))))))
 have n9 := (c9.ext E)
 have t0 := (s8.ext E)
 refine lLoop (fun m e w_ => ∃ (u : Nat) (LR : List RI), m = u ∧ e 1 = (.slice Ag ng cg) ∧ e 5 = (.pointer (some ⟨g2, 0, none⟩)) ∧ e 7 = (.slice (some ⟨f, 0, none⟩) a a) ∧ e 8 = (.int .i64 d) ∧ e 9 = (.int .i64 ((u : Int) - 1)) ∧ Frm (fun b => b = f) s9 w_ ∧ Blk w_ f 25 (cellsI LR) ∧ (u ≤ a) ∧ (LR.length = a) ∧ (AllN w_ (fun b => w.heap.size ≤ b ∧ b ≠ f) (nm + Mg + 4 + (a - u)) LR) ∧ (remGo (zval gm dm).natAbs (zs lg) d (u - d) (zs LR) = remGo (zval gm dm).natAbs (zs lg) d (a - d) (zs c8))) ((a)) ?_ ?_
 ·refine ⟨(a), (c8), rfl, rfl, rfl, rfl, rfl, cI, (Frm.refl _ _), ?_, ?_, ?_, ?_, ?_⟩
  ·exact n9
  ·omega
  ·omega
  ·exact AllN.le (AllN.sub t0 q5) Qo
  ·rfl
 ·rintro G0 G1 d0 ⟨u, LR, C0, o0, o1, o2, o3, o4, F, Z, hu, hLR, hAR, hG⟩
  obtain ⟨G2, rfl⟩ := sq5 o0 o1 o2 o3 o4
  have C1 := F.size
  refine wp_seq_k fun G3 o5 => rS fun G4 g0 => sMi rfl (sMi rfl ?_)
  by_cases g1 : ((u : Int) - 1) ≥ ((d : Int))
  ·refine sV (evGeq true rfl rfl (dT g1)) (sK g0 (cT rfl (wp_skip (xN (o5 _ _ (wp_seq_k fun G5 g3 => wp_block (wp_seq_k fun G6 o6 => ?_)))))))
   have g4 := (Y.trans E).rx F
   have o7 := (f5.frm g4 q1)
   refine wpJoin (dfs := []) (n := 73) (fun e w_ => ∃ (X : Nat) (gC : Bool) (AC : Option Addr) (nC : Nat) (cC : Nat) (dC : List Nat), e 1 = (.slice Ag ng cg) ∧ e 5 = (.pointer (some ⟨g2, 0, none⟩)) ∧ e 7 = (.slice (some ⟨f, 0, none⟩) a a) ∧ e 8 = (.int .i64 d) ∧ e 9 = (.int .i64 ((u : Int) - 1)) ∧ e 10 = (.pointer (some ⟨X, 0, none⟩)) ∧ Frm (fun _ => False) d0 w_ ∧ Blk w_ X 25 ([.bool gC, .slice AC nC cC]) ∧ (d0.heap.size ≤ X) ∧ (NatR w_ (fun b => d0.heap.size ≤ b) AC nC cC dC) ∧ (zval gC dC = symZ (zval gm dm).natAbs (co (zs LR) (u - 1))) ∧ (nC ≤ nm + 2)) ?_ ?_
   ·refine dBegin (fun b => d0.heap.size ≤ b) mixed (fun G7 U C2 => dMs 0 rfl rfl (dMi 1 rfl rfl (dV 2 rfl (fun _ _ => evIx (u - 1) underlying39 sz25 rfl rfl ((u - 1) * 2)) ?_)))
    have g5 := (Z.ext U)
    have t1 := (hAR.ext U)
    obtain ⟨o8, o9, p0, p1, C3, j1, j2, j3, p2⟩ := g5.int (i := u - 1) (by exact lq)
    have a0 := t1 _ (List.mem_of_getElem? j1)
    dsimp only at a0
    have g6 := a0.1; have y3 := a0.2
    have ⟨C4, C5, C6⟩ := g6.lkm
    refine dV 3 rfl (fun _ hf => evLoadA [(.bool o8), (.slice o9 p0 p1)] agg25 sz25 rfl (cell2F j2 j3 hf g5.lt (by (try dsimp only); omega))) ?_
    have p3 := (o7.ext U)
    refine dV 4 rfl (fun _ hf => evLoadAB [(.bool gm), (.slice Am nm cm)] agg25 sz25 rfl (p3.frm hf q1) rfl) (wAl1 (fun _ => (10, 25, [(.bool false), (.slice none 0 0)])) 9 (alOp rfl rfl zero25 rfl) fun n2 => wOp n2 5 (by kernel_rfl) fun C7 g7 a1 => ?_)
    have C8 := a1.size
    have t2 := (g6.ext a1)
    have p4 := (g4.xr U).xr a1
    have t3 := (f6.frmB p4 q3)
    refine dWp (i := 5) rfl rfl (oCall rfl call70 (division_Symmetric t2 t3 Qo Qo Qo) rfl ?_)
    rintro _ g8 ⟨G, H, I, J, j4, d1, rfl, c3, d2, p5, y4, y5, y6⟩
    refine ⟨c3, wNext rfl ?_⟩
    have C9 := c3.size
    have ⟨y7, y8, y9⟩ := d2.lkm
    have t4 := d2.sub (S' := fun b => g7.heap.size ≤ b ∧ b < g8.heap.size) fun _ hb hs => ⟨hs, hb⟩
    refine wEv 6 rfl (v := (.tuple #[(.agg #[(.bool G), (.slice H I J)]), (.int .i64 (d1))])) (fun _ => (fun _ _ => rfl)) rfl (fun _ => rfl) (by kernel_rfl) (wEv 7 rfl (v := (.agg #[(.bool G), (.slice H I J)])) (fun _ => (fun _ _ => rfl)) rfl (fun _ => rfl) (by kernel_rfl) (wEv 8 rfl (v := (.int .i64 (d1))) (fun _ => (fun _ _ => rfl)) rfl (fun _ => rfl) (by kernel_rfl) (wEnd1 n2 #[true, true, true, true, true, true, true, true, true, true, false, false] (by kernel_rfl) fun g9 G8 c4 D0 h0 p6 => ?_)))
    have D1 := c4.size
    have D2 := h0.lt
    have t5 := (t4.ext c4)
    have t6 := t5.sub (S' := fun b => (g7.heap.size ≤ b ∧ b < g8.heap.size) ∧ b ≠ g9) fun b _ hs => ⟨hs, p6.ne g7.heap.size g8.heap.size (by simp) b hs.1 hs.2⟩
    refine dOp 10 rfl rfl (by kernel_rfl) (oStore [(.bool G), (.slice H I J)] rfl rfl rfl sz25 rfl h0 Qn (fun t7 c5 D3 c6 => ?_))
    replace c6 : Blk t7 g9 25 [(.bool G), (.slice H I J)] := c6
    refine ⟨(c5.mono q4), dAi 11 rfl rfl (dDone (by kernel_rfl) ?_)⟩
    have t8 := (t6.frmB c5 q3)
    have p7 := (((U.trans a1).trans c3).trans c4).rx c5
    exact ⟨rfl, _, rfl, (g9), (G), (H), (I), (J), (j4), rfl, rfl, rfl, rfl, rfl, rfl, (Frm.mono p7 q4), c6, (by omega), (NatR.sub t8 q5), (by rw [p5, p2]), (by omega)⟩
   ·rintro G9 t9 ⟨X, gC, AC, nC, cC, dC, p8, p9, q0, q2, q6, q7, a2, c7, D4, hC, n3, hnC⟩
    obtain ⟨D5, rfl⟩ := sq6 p8 p9 q0 q2 q6 q7
    have z0 := a2.size
    have ⟨lC, kC, mC⟩ := hC.lkm; have hbl : X < t9.heap.size := c7.lt
    refine xN (o6 _ _ (wp_seq_k fun D6 j5 => rS fun D7 d3 => sV (evLoadAB [(.bool gC), (.slice AC nC cC)] agg25 sz25 rfl c7 rfl) (sO (oCall rfl call29 (integer_Sign hC) rfl ?_))))
    rintro _ q8 ⟨h1, rfl, K, j6⟩
    have z1 := K.size
    have hsg := sgn_rng j6
    by_cases d4 : h1 = 0
    ·refine sV (evEql true rfl rfl (dT d4)) ?_
     have hcz : zval gC dC = 0 := by omega
     refine sK d3 (cT rfl (wp_exit (xE (bE (xN (g3 _ _ (wp_region_lit (sMi rfl (sV (evSub (((u : Int) - 1) - 1) rfl rfl wI) (sAi rfl (sDone ?_)))))))))))
     have a3 := a2.trans K
     have j7 := (Z.ext a3)
     have q9 := (hAR.ext a3)
     refine again ((u - 1)) Qo ⟨(u - 1), (LR), rfl, rfl, rfl, rfl, rfl, cI, (F.xr a3), ?_, ?_, ?_, ?_, ?_⟩
     ·exact j7
     ·omega
     ·exact hLR
     ·exact AllN.le (AllN.sub q9 q5) Qo
     ·exact remL_zero hG Qo Qo (n3 ▸ hcz)
    ·refine sV (evEql false rfl rfl (dF d4)) ?_
     have hcz : zval gC dC ≠ 0 := by omega
     refine sK d3 (cF rfl (wp_skip (xN (j5 _ _ (rS fun D8 j8 => sAi rfl (sK j8 (wp_block ?_)))))))
     have a4 := a2.trans K
     have j9 := (Z.ext a4)
     have h2 := (hAR.ext a4)
     refine lLoop (fun m e w_ => ∃ (j : Nat) (y : List RI), m = d - j ∧ e 1 = (.slice Ag ng cg) ∧ e 5 = (.pointer (some ⟨g2, 0, none⟩)) ∧ e 7 = (.slice (some ⟨f, 0, none⟩) a a) ∧ e 8 = (.int .i64 d) ∧ e 9 = (.int .i64 ((u : Int) - 1)) ∧ e 10 = (.pointer (some ⟨X, 0, none⟩)) ∧ e 12 = (.int .i64 j) ∧ Frm (fun b => b = f) q8 w_ ∧ Blk w_ f 25 (cellsI y) ∧ (j ≤ d) ∧ (y.length = a) ∧ (AllN w_ (fun b => (w.heap.size ≤ b ∧ b ≠ f)) (nm + Mg + 4 + (a - u) + 1) y) ∧ (∀ i r, (u - 1 - d) + j ≤ i → y[i]? = some r → r.n ≤ nm + Mg + 4 + (a - u)) ∧ (zs y = subAt (zs LR) (zs lg) (u - 1 - d) j (zval gC dC))) (d - (0)) ?_ ?_
     ·refine ⟨(0), (LR), rfl, rfl, rfl, rfl, rfl, rfl, rfl, cI, (Frm.refl _ _), ?_, ?_, ?_, ?_, ?_, ?_⟩
      ·exact j9
      ·omega
      ·exact hLR
      ·exact AllN.le (AllN.sub h2 q5) Qo
      ·exact fun i r _ hr => (h2 r (List.mem_of_getElem? hr)).2
      ·exact subAt_zero
     ·rintro D9 E0 E1 ⟨j, y, z2, k0, k1, k2, k3, k4, k5, k6, C, a5, H0, h3, h4, d5, h5⟩
      obtain ⟨E2, rfl⟩ := sq7 k0 k1 k2 k3 k4 k5 k6
      have z3 := C.size
      refine wp_seq_k fun E3 k7 => rS fun E4 d6 => sMi rfl (sMi rfl ?_)
      by_cases d7 : ((j : Int)) < ((d : Int))
      ·refine sV (evLss true rfl rfl (dT d7)) (sK d6 (cT rfl (wp_skip (xN (k7 _ _ (wp_seq_k fun E5 d8 => wp_block (dBegin (fun b => b = f) mixed (fun E6 D z4 => dMs 0 rfl rfl (dMi 1 rfl rfl (dMi 2 rfl rfl (dV 3 rfl (fun _ _ => evSub (((u : Int) - 1) - ((d : Int))) rfl rfl wI) (dMi 4 rfl rfl (dV 5 rfl (fun _ _ => evAdd ((((u : Int) - 1) - ((d : Int))) + ((j : Int))) rfl rfl wI) (dMs 6 rfl rfl (dMi 7 rfl rfl (dMi 8 rfl rfl (dV 9 rfl (fun _ _ => evSub (((u : Int) - 1) - ((d : Int))) rfl rfl wI) (dMi 10 rfl rfl (dV 11 rfl (fun _ _ => evAdd ((((u : Int) - 1) - ((d : Int))) + ((j : Int))) rfl rfl wI) (dV 12 rfl (fun _ _ => evIx (((u - 1) - d) + j) underlying39 sz25 rfl rfl ((((u - 1) - d) + j) * 2)) ?_))))))))))))))))))))
       have a6 := (K.rx C).xr D
       have k8 := (c7.frm a6 q1)
       refine dV 14 rfl (fun _ hf => evLoadAB [(.bool gC), (.slice AC nC cC)] agg25 sz25 rfl (k8.frm hf q1) rfl) (dMs 15 rfl rfl (dMi 16 rfl rfl ?_))
       have k9 := ((((E.rx F).xr a2).xr K).trans C).xr D
       have h6 := (n1.frmB k9 q3)
       obtain ⟨E7, r0, rfl⟩ := h6.base Qo
       refine dV 17 rfl (fun _ _ => evIx j underlying39 sz25 rfl rfl (r0 + (j * 2))) ?_
       obtain ⟨l0, l1, l2, l3, z5, u0, h7, h8, a7, u1, i0, i1, d9⟩ := h6.at_ (i := j) Qo
       have ⟨z6, z7, z8⟩ := a7.lkm
       refine dV 18 rfl (fun _ hf => evLoadA [(.bool l0), (.slice l1 l2 l3)] agg25 sz25 rfl (cell2F h7 h8 hf i1 (by (try dsimp only at i0 ⊢); omega))) (dTwo 13 19 (by kernel_rfl) ?_ ?_)
       ·have e0 := (a5.ext D)
        have i2 := (h4.ext D)
        obtain ⟨e1, e2, e3, e4, z9, b2, i3, i4, l4⟩ := e0.int (i := ((u - 1) - d) + j) (by exact lq)
        have V := i2 _ (List.mem_of_getElem? b2)
        dsimp only at V
        have e5 := V.1; have u2 := V.2
        have ⟨A0, A1, A2⟩ := e5.lkm
        refine dWp (i := 13) rfl rfl (oEv (v := (.agg #[(.bool e1), (.slice e2 e3 e4)])) (evLoadA [(.bool e1), (.slice e2 e3 e4)] agg25 sz25 rfl (cell2 i3 i4)) rfl ⟨Frm.refl _ _, ?_⟩)
        have i5 := d5 (u - 1 - d + j) _ (Nat.le_refl _) b2; dsimp only at i5
        have r1 := (hC.frmB a6 q3)
        refine dOp 19 rfl rfl (by kernel_rfl) (oCall rfl call33 (integer_Mul r1 a7 Qo) rfl ?_)
        rintro _ E8 ⟨u3, u4, u5, u6, u7, rfl, L, b3, l5, u8, u9⟩
        refine ⟨(Frm.of_ext L), ?_⟩
        have A3 := L.size
        have ⟨v0, v1, v2⟩ := b3.lkm
        have r2 := (e5.ext L)
        refine dOp 20 rfl rfl (by kernel_rfl) (oCall rfl call106 (integer_Sub r2 b3 Qo Qo) rfl ?_)
        rintro _ E9 ⟨g, k, o, p, A, rfl, Q, b4, l6, v3, v4⟩
        refine ⟨(Frm.of_ext Q), ?_⟩
        have A4 := Q.size
        have ⟨v5, v6, v7⟩ := b4.lkm
        refine dV 21 rfl (fun _ _ => evIx (((u - 1) - d) + j) underlying39 sz25 rfl rfl ((((u - 1) - d) + j) * 2)) ?_
        have e6 := L.trans Q
        have l7 := (e0.ext e6)
        refine dOp 22 rfl rfl (by kernel_rfl) (oStore [(.bool g), (.slice k o p)] rfl rfl rfl sz25 rfl l7 (by rw [cellsI_len]; simp only [List.length_cons, List.length_nil]; exact lq) (fun r3 R A5 M => ?_))
        replace M := (cellsI_set (l := y) (i := ((u - 1) - d) + j) ⟨g, k, o, p, A⟩ (by exact lq)) ▸ M
        replace M : Blk r3 f 25 (cellsI (y.set (u - 1 - d + j) ⟨g, k, o, p, A⟩)) := (rfl : (y).set (((u - 1) - d) + j) ⟨g, k, o, p, A⟩ = y.set (u - 1 - d + j) ⟨g, k, o, p, A⟩) ▸ M
        refine ⟨R, dDone (by kernel_rfl) (bN (xN (d8 _ _ (wp_region_lit (sMi rfl (sV (evAdd (((j : Int)) + 1) rfl rfl wI) (sAi rfl (sDone ?_))))))))⟩
        have l8 := ((D.trans L).trans Q).rx R
        have l9 := e6.rx R
        have r4 := (i2.frmB l9 q3)
        have r5 := (b4.frmB R q3)
        refine again (d - (j + 1)) Qo ⟨(j + 1), (y.set (u - 1 - d + j) ⟨g, k, o, p, A⟩), rfl, rfl, rfl, rfl, rfl, rfl, rfl, cI, (C.trans l8), ?_, ?_, ?_, ?_, ?_, ?_⟩
        ·exact M
        ·omega
        ·rw [List.length_set]; exact h3
        ·exact AllN.set r4 (NatR.sub r5 q5) (by (try dsimp only); omega)
        ·exact small_set d5
        ·rw [zs_set]; exact subAt_step h5 (by rw [zlen]; omega) (by show zval _ _ = _; rw [l6, l5, l4, d9])
       ·have r6 := (hC.frmB a6 q3)
        refine dWp (i := 19) rfl rfl (oCall rfl call33 (integer_Mul r6 a7 Qo) rfl ?_)
        rintro _ F0 ⟨v8, v9, w0, w1, w2, rfl, a8, b5, m0, w4, w5⟩
        refine ⟨(Frm.of_ext a8), ?_⟩
        have A6 := a8.size
        have ⟨w6, w7, w8⟩ := b5.lkm
        have a9 := D.trans a8
        have e7 := (a5.ext a9)
        have i6 := (h4.ext a9)
        obtain ⟨e8, e9, f0, f1, A7, b6, i7, i8, m1⟩ := e7.int (i := ((u - 1) - d) + j) (by exact lq)
        have W := i6 _ (List.mem_of_getElem? b6)
        dsimp only at W
        have f2 := W.1; have w9 := W.2
        have ⟨A8, A9, B0⟩ := f2.lkm
        refine dOp 13 rfl rfl (by kernel_rfl) (oEv (v := (.agg #[(.bool e8), (.slice e9 f0 f1)])) (evLoadA [(.bool e8), (.slice e9 f0 f1)] agg25 sz25 rfl (cell2 i7 i8)) rfl ⟨Frm.refl _ _, ?_⟩)
        have i5 := d5 (u - 1 - d + j) _ (Nat.le_refl _) b6; dsimp only at i5
        refine dOp 20 rfl rfl (by kernel_rfl) (oCall rfl call106 (integer_Sub f2 b5 Qo Qo) rfl ?_)
        rintro _ F1 ⟨q, s, t, x, B, rfl, O, b7, m2, x0, x1⟩
        refine ⟨(Frm.of_ext O), ?_⟩
        have B1 := O.size
        have ⟨x2, x3, x4⟩ := b7.lkm
        refine dV 21 rfl (fun _ _ => evIx (((u - 1) - d) + j) underlying39 sz25 rfl rfl ((((u - 1) - d) + j) * 2)) ?_
        have m3 := (e7.ext O)
        refine dOp 22 rfl rfl (by kernel_rfl) (oStore [(.bool q), (.slice s t x)] rfl rfl rfl sz25 rfl m3 (by rw [cellsI_len]; simp only [List.length_cons, List.length_nil]; exact lq) (fun r7 T B2 P => ?_))
        replace P := (cellsI_set (l := y) (i := ((u - 1) - d) + j) ⟨q, s, t, x, B⟩ (by exact lq)) ▸ P
        replace P : Blk r7 f 25 (cellsI (y.set (u - 1 - d + j) ⟨q, s, t, x, B⟩)) := (rfl : (y).set (((u - 1) - d) + j) ⟨q, s, t, x, B⟩ = y.set (u - 1 - d + j) ⟨q, s, t, x, B⟩) ▸ P
        refine ⟨T, dDone (by kernel_rfl) (bN (xN (d8 _ _ (wp_region_lit (sMi rfl (sV (evAdd (((j : Int)) + 1) rfl rfl wI) (sAi rfl (sDone ?_))))))))⟩
        have m4 := (a9.trans O).rx T
        have m5 := O.rx T
        have r8 := (i6.frmB m5 q3)
        have r9 := (b7.frmB T q3)
        refine again (d - (j + 1)) Qo ⟨(j + 1), (y.set (u - 1 - d + j) ⟨q, s, t, x, B⟩), rfl, rfl, rfl, rfl, rfl, rfl, rfl, cI, (C.trans m4), ?_, ?_, ?_, ?_, ?_, ?_⟩
        ·exact P
        ·omega
        ·rw [List.length_set]; exact h3
        ·exact AllN.set r8 (NatR.sub r9 q5) (by (try dsimp only); omega)
        ·exact small_set d5
        ·rw [zs_set]; exact subAt_step h5 (by rw [zlen]; omega) (by show zval _ _ = _; rw [m2, m0, m1, d9])
      ·refine sV (evLss false rfl rfl (dF d7)) (sK d6 (cF rfl (wp_exit (xE (xE (bE (bN (xN (g3 _ _ (wp_region_lit (sMi rfl (sV (evSub (((u : Int) - 1) - 1) rfl rfl wI) (sAi rfl (sDone ?_))))))))))))))
       have m6 := a4.rx C
       refine again ((u - 1)) Qo ⟨(u - 1), (y), rfl, rfl, rfl, rfl, rfl, cI, (F.trans m6), ?_, ?_, ?_, ?_, ?_⟩
       ·exact a5
       ·omega
       ·exact h3
       ·exact AllN.le (AllN.sub h4 q5) Qo
       ·rw [show u - 1 - d = u - 1 - d from rfl]; exact remL_sub hG (by omega) (by omega) n3 hcz h5 (by omega)
  ·refine sV (evGeq false rfl rfl (dF g1)) (sK g0 (cF rfl (wp_exit (xE (xE (bE (xN (n7 _ _ (wp_seq_k fun F2 m7 => ?_)))))))))
   have hRP := PolyR.of_blk (S := fun b => w.heap.size ≤ b) (n := a) (c := a) Z (AllN.sub hAR q5) (by (try dsimp only); omega) hLR (Nat.le_refl _) (by unfold CapMax; omega)
   refine dBegin (fun _ => False) mixed (fun F3 b0 B3 => dMs 0 rfl rfl (dMs 1 rfl rfl (dV 2 rfl (fun _ _ => evLen underlying39 rfl) (dMi 3 rfl rfl (dV 4 rfl (fun _ _ => evMin (((min a d : Nat) : Int)) rfl rfl (by split <;> omega)) ?_)))))
   have s0 := (hRP.ext b0)
   have s1 := s0.take (m := min a d) Qo
   refine dV 5 rfl (fun _ _ => evSliceHi (min a d) underlying39 sz25 rfl rfl Qo Qo) ?_
   have f3 := ((Y.trans E).rx F).xr b0
   have m8 := (f5.frm f3 q1)
   refine dV 6 rfl (fun _ hf => evLoadAB [(.bool gm), (.slice Am nm cm)] agg25 sz25 rfl (m8.ext hf) rfl) ?_
   have s2 := (f6.frmB f3 q3)
   refine dOp 7 rfl rfl (by kernel_rfl) (oCall rfl call68 (hensel_reduce s1 s2 Qo Qo Qo Qo) rfl ?_)
   rintro _ F4 ⟨b8, b9, c0, c1, rfl, b1, c2, m9, x5, i9⟩
   refine ⟨(Frm.of_ext b1), ?_⟩
   have B4 := b1.size
   have ⟨x6, x7, x8⟩ := c2.lkm
   refine dAs 8 rfl rfl (dDone (by kernel_rfl) (xN (m7 _ _ (wp_ret (ret1 (.slice b8 b9 c0) results101 (resT rfl) ?_)))))
   have heq : zs c1 = remZ (zval gm dm).natAbs (zs lf) (zs lg) := remL_fin (N := a) hd n5 (by rw [zlen]; omega) hG (by omega) (by rw [m9]; show redZ _ (List.map RI.z (List.take _ _)) = _; rw [List.map_take])
   have n0 := (((f9.trans E).rx F).xr b0).xr b1
   exact ⟨b8, b9, c0, c1, rfl, (Frm.mono n0 q4), (PolyR.le (PolyR.sub c2 q5) Qo), heq, Qo, Qo, i9⟩
end Go.Proofs.YtneolcopompkaaaGreatDoor
