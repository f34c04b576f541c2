/-
  Walks of package hensel: sums of products, remainders.
-/
import Derived.Test.YtneolcopompkaaaGreatDoorHen3
namespace Go.Proofs.YtneolcopompkaaaGreatDoor
open Go.RowKit Go.Gx Tryz
set_option maxHeartbeats 1000000 in
theorem hensel_sum {w : World} {Ss0 : Nat → Prop} {As0 : Option Addr} {ns0 cs0 Ms0 : Nat} {fs0 : List PE} {Ss1 : Nat → Prop} {As1 : Option Addr} {ns1 cs1 Ms1 : Nat} {fs1 : List PE} {gm : Bool} {Sm : Nat → Prop} {Am : Option Addr} {nm cm : Nat} {dm : List Nat} (hs0 : PolysR w Ss0 As0 ns0 cs0 fs0 Ms0) (hs1 : PolysR w Ss1 As1 ns1 cs1 fs1 Ms1) (hm : NatR w Sm Am nm cm dm) (hnl : ns0 ≤ 8 ∧ ns1 = ns0) (hMl : Ms0 ≤ 65536 ∧ Ms1 ≤ 65536) (hnm : nm ≤ 65536) (hm0 : zval gm dm ≠ 0) (hle : (∀ x ∈ fs0, x.n ≤ 64) ∧ ∀ x ∈ fs1, x.n ≤ 64) : Calls Tryz.prog 100 #[(.agg #[(.slice As0 ns0 cs0), (.slice As1 ns1 cs1)]), (.agg #[(.bool gm), (.slice Am nm cm)])] w (Ret fun v w' => ∃ (At : Option Addr) (nt : Nat) (ct : Nat) (lt : List RI) (Ar : Option Addr) (nr : Nat) (cr : Nat) (lr : List RI), v = (.tuple #[(.slice At nt ct), (.slice Ar nr cr)]) ∧ Ext w w' ∧ PolyR w' (fun b => w.heap.size ≤ b) At nt ct lt (nm + 2) ∧ PolyR w' (fun b => w.heap.size ≤ b) Ar nr cr lr (nm + 2) ∧ ((zs lt, zs lr) = sumZ (zval gm dm).natAbs (fs0.map fun f => zs f.l) (fs1.map fun f => zs f.l)) ∧ (nt ≤ 1 + 64 * ns0) ∧ (nr ≤ 1 + 64 * ns0) ∧ (AllC lt ∧ AllC lr)) := by
 have ⟨p3, p4, p5⟩ := hs0.lkm; replace hs0 := hs0.low
 have ⟨p6, p7, p8⟩ := hs1.lkm; replace hs1 := hs1.low
 have ⟨lm, km, mm⟩ := hm.lkm
 replace hm := hm.low
 refine enter func100 rfl ntmps100 rfl (rS fun K1 f9 => sO (oBox [(.slice As0 ns0 cs0), (.slice As1 ns1 cs1)] rfl rfl (fun g2 w3 p9 c2 q0 g0 => sO (oBox [(.bool gm), (.slice Am nm cm)] rfl rfl (fun g8 w9 m8 C m9 c9 => sAs rfl (sAs rfl (sK f9 (rS fun q1 d0 => sO (oBuildSlice [(.int .i64 (1))] [[(.int .i64 (1))]] underlying82 inf2 rfl rfl rfl rfl rfl (fun c3 g1 n0 u n1 D => ?_))))))))))
 replace D : Blk g1 c3 2 [(.int .i64 (1))] := D
 refine sO (oCall rfl call17 (unipoly_Of (IntsR.of_blk (S := fun b => b = c3) (n := 1) (c := 1) (xs := [1]) D rfl (by decide) rfl (Nat.le_refl _) (by decide)) Qo) rfl ?_)
 rintro _ g3 ⟨a1, a2, a3, a4, rfl, t, E, d1, i3, a5⟩
 have n2 := t.size
 have ⟨i4, i5, i6⟩ := E.lkm
 refine sAs rfl (sK d0 (wp_seq_k fun q2 d2 => rS fun q3 d3 => sV (evArr 0 underlying92 sz43 rfl rfl 0) ?_))
 have d4 := (C.trans u).trans t
 have O := (g0.ext d4)
 refine sV (evLoadB one43 rfl O rfl) (sV (evLen underlying43 rfl) (sMi rfl (sK d3 (wp_block ?_))))
 refine lLoop (fun m e w_ => ∃ (i : Nat) (At : Option Addr) (nt : Nat) (ct : Nat) (lt : List RI) (Ap : Option Addr) (np : Nat) (cp : Nat) (lp : List RI), m = ns0 - i ∧ e 2 = (.pointer (some ⟨g2, 0, none⟩)) ∧ e 3 = (.pointer (some ⟨g8, 0, none⟩)) ∧ e 4 = (.slice At nt ct) ∧ e 5 = (.slice Ap np cp) ∧ e 11 = (.slice As0 ns0 cs0) ∧ e 12 = (.int .i64 ns0) ∧ e 13 = (.int .i64 i) ∧ Frm (fun b => False) g3 w_ ∧ (i ≤ ns0) ∧ (PolyR w_ (fun b => w.heap.size ≤ b) At nt ct lt (nm + 2)) ∧ (PolyR w_ (fun b => w.heap.size ≤ b) Ap np cp lp (nm + 2)) ∧ (nt ≤ 1 + 64 * i ∧ np ≤ 1 + 64 * i) ∧ (AllC lt ∧ AllC lp) ∧ ((zs lt, zs lp) = sumZ (zval gm dm).natAbs ((fs0.take i).map fun f => zs f.l) ((fs1.take i).map fun f => zs f.l))) (ns0 - (0)) ?_ ?_
 ·refine ⟨(0), (none), (0), (0), ([]), (a1), (a2), (a3), (a4), rfl, rfl, rfl, rfl, rfl, rfl, rfl, cI, (Frm.refl _ _), ?_, ?_, ?_, ?_, ?_, ?_⟩
  ·omega
  ·exact PolyR.nil
  ·exact (PolyR.sub E q5).le Qo
  ·omega
  ·exact ⟨AllC.nil, a5⟩
  ·rw [d1]; rfl
 ·rintro q4 q6 q7 ⟨i, At, nt, ct, lt, Ap, np, cp, lp, n3, d5, d6, d7, d8, d9, e0, e1, q, hi, ht, hp, hnn, hC, hac⟩
  obtain ⟨q8, rfl⟩ := sq7 d5 d6 d7 d8 d9 e0 e1
  have n4 := q.size
  have ⟨kt, jt, mt⟩ := ht.lkm; have ⟨kp, jp, mp⟩ := hp.lkm
  refine rS fun q9 P => ?_
  by_cases Q : ((i : Int)) < ((ns0 : Int))
  ·refine sV (evLss true rfl rfl (dT Q)) (sK P (wp_seq_k fun r0 e2 => cT rfl (wp_skip (xN (e2 _ _ (wp_seq_k fun r1 e3 => wp_block (rS fun r2 e4 => sMi rfl ?_)))))))
   have R := (((c2.trans C).trans u).trans t).trans q
   have c4 := (hs0.ext R)
   obtain ⟨r3, g4, rfl⟩ := c4.base Qo
   refine sV (evIx i underlying43 sz39 rfl rfl (g4 + i)) ?_
   obtain ⟨⟨n5, n6, n7, n8⟩, F, G, y, i7, i8⟩ := c4.at_ (i := i) Qo
   dsimp only at G y; have ⟨q1_59, q2_59, q3_59⟩ := y.lkm
   have h64_59 := hle.1 _ (List.mem_of_getElem? F); dsimp only at h64_59
   refine sV (evLoad one39 rfl G) (sAi rfl (sAs rfl (sK e4 (wp_seq_k fun r4 e5 => dBegin (fun _ => False) mixed (fun r5 r n9 => dMs 0 rfl rfl (dMs 1 rfl rfl (dV 3 rfl (fun _ _ => evArr 1 underlying92 sz43 rfl rfl 1) ?_)))))))
   have e6 := q.trans r
   have e7 := (O.ext e6)
   refine dV 4 rfl (fun _ hf => evLoadB one43 rfl (e7.ext hf) rfl) (dMi 5 rfl rfl ?_)
   have T := R.trans r
   have c5 := (hs1.ext T)
   obtain ⟨r6, g5, rfl⟩ := c5.base Qo
   refine dV 6 rfl (fun _ _ => evIx i underlying43 sz39 rfl rfl (g5 + i)) ?_
   obtain ⟨⟨o0, o1, o2, o3⟩, H, I, z, i9, a6⟩ := c5.at_ (i := i) Qo
   dsimp only at I z; have ⟨q1_71, q2_71, q3_71⟩ := z.lkm
   have h64_71 := hle.2 _ (List.mem_of_getElem? H); dsimp only at h64_71
   refine dV 7 rfl (fun _ hf => evLoad one39 rfl ((hf.cell (p := ⟨_, _, none⟩) a6 (fun h => h)).trans I)) (dMs 8 rfl rfl ?_)
   have g6 := (ht.ext r)
   have c6 := (y.ext r)
   refine dOp 2 rfl rfl (by kernel_rfl) (oCall rfl call19 (unipoly_Mul g6 c6 Qo Qo Qo Qo) rfl ?_)
   rintro _ r7 ⟨j0, j1, j2, j3, rfl, d, J, e8, j4, j5⟩
   refine ⟨(Frm.of_ext d), ?_⟩
   have o4 := d.size
   have ⟨j6, j7, j8⟩ := J.lkm
   have g7 := (z.ext d)
   have U := r.trans d
   have c7 := (hp.ext U)
   refine dOp 9 rfl rfl (by kernel_rfl) (oCall rfl call19 (unipoly_Mul g7 c7 Qo Qo Qo Qo) rfl ?_)
   rintro _ r8 ⟨j9, k0, k1, k2, rfl, a, K, e9, k3, k4⟩
   refine ⟨(Frm.of_ext a), ?_⟩
   have o5 := a.size
   have ⟨k5, k6, k7⟩ := K.lkm
   have g9 := (J.ext a)
   refine dOp 10 rfl rfl (by kernel_rfl) (oCall rfl call102 (unipoly_Add g9 K Qo Qo Qo Qo) rfl ?_)
   rintro _ r9 ⟨k8, k9, l0, l1, rfl, g, L, f0, l2, l3⟩
   refine ⟨(Frm.of_ext g), ?_⟩
   have o6 := g.size
   have ⟨l4, l5, l6⟩ := L.lkm
   refine dAs 11 rfl rfl (dDone (by kernel_rfl) (xN (e5 _ _ (rS fun s0 f1 => sMs rfl ?_))))
   have f2 := (((((u.trans t).trans q).trans r).trans d).trans a).trans g
   have V := (c9.ext f2)
   refine sV (evLoadAB [(.bool gm), (.slice Am nm cm)] agg25 sz25 rfl V rfl) ?_
   have f3 := ((T.trans d).trans a).trans g
   have c8 := (hm.ext f3)
   refine sO (oCall rfl call68 (hensel_reduce L c8 Qo Qo Qo Qo) rfl ?_)
   rintro _ o7 ⟨a7, a8, a9, b0, rfl, j, M, f4, l7, b1⟩
   have l8 := j.size
   have ⟨l9, m0, m1⟩ := M.lkm
   refine sAs rfl (sK f1 (dBegin (fun _ => False) mixed (fun o8 k m2 => dMs 0 rfl rfl (dMs 1 rfl rfl ?_))))
   have N := j.trans k
   have b2 := (V.ext N)
   refine dV 3 rfl (fun _ hf => evLoadAB [(.bool gm), (.slice Am nm cm)] agg25 sz25 rfl (b2.ext hf) rfl) ?_
   have b3 := ((a.trans g).trans j).trans k
   have f5 := (c7.ext b3)
   have b4 := (((d.trans a).trans g).trans j).trans k
   have f6 := (c6.ext b4)
   refine dOp 2 rfl rfl (by kernel_rfl) (oCall rfl call19 (unipoly_Mul f5 f6 Qo Qo Qo Qo) rfl ?_)
   rintro _ o9 ⟨h0, h1, h2, h3, rfl, o, A, b5, h4, h5⟩
   refine ⟨(Frm.of_ext o), ?_⟩
   have m3 := o.size
   have ⟨h6, h7, h8⟩ := A.lkm
   have b6 := N.trans o
   have f7 := (c8.ext b6)
   refine dOp 4 rfl rfl (by kernel_rfl) (oCall rfl call68 (hensel_reduce A f7 Qo Qo Qo Qo) rfl ?_)
   rintro _ p0 ⟨W, X, Y, Z, rfl, s, B, b7, h9, a0⟩
   refine ⟨(Frm.of_ext s), ?_⟩
   have m4 := s.size
   have ⟨i0, i1, i2⟩ := B.lkm
   refine dAs 5 rfl rfl (dDone (by kernel_rfl) (bN (xN (e3 _ _ (wp_region_lit (sV (evAdd (((i : Int)) + 1) rfl rfl wI) (sMi rfl (sDone ?_))))))))
   have b8 := (((((U.trans a).trans g).trans j).trans k).trans o).trans s
   have b9 := (k.trans o).trans s
   have f8 := (M.ext b9)
   refine again (ns0 - (i + 1)) Qo ⟨(i + 1), (a7), (a8), (a9), (b0), (W), (X), (Y), (Z), rfl, rfl, rfl, rfl, rfl, rfl, rfl, cI, (q.trans b8), ?_, ?_, ?_, ?_, ?_, ?_⟩
   ·omega
   ·exact (PolyR.sub f8 q5).le Qo
   ·exact (PolyR.sub B q5).le Qo
   ·omega
   ·exact ⟨b1, a0⟩
   ·rw [sumZ_next F H, ← hac]; dsimp only [sumStep]; rw [f4, f0, e8, e9, b7, b5]
  ·refine sV (evLss false rfl rfl (dF Q)) (sK P (wp_seq_k fun p1 m5 => cF rfl (wp_exit (xE (xE (bE (xN (d2 _ _ (rS fun p2 c0 => sMs rfl (sMs rfl (sAs rfl (sAs rfl (sK c0 (wp_ret (ret2 (.slice At nt ct) (.slice Ap np cp) results100 (resT rfl) (resT rfl) ?_)))))))))))))))
   have c1 := (((c2.trans C).trans u).trans t).trans q
   exact ⟨At, nt, ct, lt, Ap, np, cp, lp, rfl, c1, (PolyR.le (PolyR.sub ht q5) (by omega)), (PolyR.le (PolyR.sub hp q5) (by omega)), (by rw [hac, List.take_of_length_le (by omega), List.take_of_length_le (by omega)]), (by omega), (by omega), hC⟩
end Go.Proofs.YtneolcopompkaaaGreatDoor
