/-
  Walks of package unipoly: products, sums, comparison.
-/
import Derived.Test.YtneolcopompkaaaGreatDoorUni1
namespace Go.Proofs.YtneolcopompkaaaGreatDoor
open Go.RowKit Go.Gx Tryz
set_option maxHeartbeats 1000000 in
theorem unipoly_convolve {w : World} {Sf : Nat → Prop} {Af : Option Addr} {nf cf Mf : Nat} {lf : List RI} {Sg : Nat → Prop} {Ag : Option Addr} {ng cg Mg : Nat} {lg : List RI}    (hf : PolyR w Sf Af nf cf lf Mf) (hg : PolyR w Sg Ag ng cg lg Mg) (hnf : nf ≤ 1048576) (hng : ng ≤ 1048576) (hMf : Mf ≤ 1073741824) (hMg : Mg ≤ 1073741824) : Calls Tryz.prog 52 #[(.slice Af nf cf), (.slice Ag ng cg), (.agg #[(.bool false), (.slice none 0 0)]), (.func (.func 12) #[] #[]), (.func (.func 33) #[] #[])] w (Ret fun v w' => ∃ (Ar : Option Addr) (nr : Nat) (cr : Nat) (lr : List RI), v = (.slice Ar nr cr) ∧ Ext w w' ∧ PolyR w' (fun b => w.heap.size ≤ b) Ar nr cr lr (Mf + Mg + nf + 1) ∧ (zs lr = pmul (zs lf) (zs lg)) ∧ (nr ≤ nf + ng) ∧ (AllC lr)) := by
 have ⟨kf, jf, mf⟩ := hf.lkm
 replace hf := hf.low
 have ⟨kg, jg, mg⟩ := hg.lkm
 replace hg := hg.low
 refine enter func52 rfl ntmps52 rfl (rS fun K1 j6 => sO (oBox [(.bool false), (.slice none 0 0)] rfl rfl (fun g2 w3 r2 Q r3 j8 => sAs rfl (sK j6 (wp_seq_k fun K8 j9 => rS fun K9 a0 => sMs rfl (sV (evLen underlying39 rfl) ?_))))))
 by_cases a1 : ((nf : Int)) = 0
 ·refine sV (evEql true rfl rfl (dT a1)) (sMb rfl (sSkip rfl rfl (sSkip rfl rfl (sSkip rfl rfl (sV (v := (.bool true)) (rfl) (sK a0 (cT rfl (rS fun r4 e7 => sAs rfl (sK e7 (wp_ret (xR (ret1 (.slice none 0 0) results52 (resT rfl) ?_))))))))))))
  exact ⟨none, 0, 0, [], rfl, Q, PolyR.nil, (by unfold pmul; rw [if_pos (by simp only [zlen]; omega)]; rfl), (by omega), AllC.nil⟩
 ·refine sV (evEql false rfl rfl (dF a1)) (sMb rfl (sEv (v := (.slice Ag ng cg)) (rfl) rfl rfl (sEv (v := (.int .i64 ng)) (evLen underlying39 rfl) rfl rfl ?_)))
  by_cases a2 : ((ng : Int)) = 0
  ·refine sEv (v := (.bool true)) (evEql true rfl rfl (dT a2)) rfl rfl (sV (v := (.bool true)) (rfl) (sK a0 (cT rfl (rS fun r5 e8 => sAs rfl (sK e8 (wp_ret (xR (ret1 (.slice none 0 0) results52 (resT rfl) ?_))))))))
   exact ⟨none, 0, 0, [], rfl, Q, PolyR.nil, (by unfold pmul; rw [if_pos (by simp only [zlen]; omega)]; rfl), (by omega), AllC.nil⟩
  ·refine sEv (v := (.bool false)) (evEql false rfl rfl (dF a2)) rfl rfl (sV (v := (.bool false)) (rfl) (sK a0 (cF rfl (wp_skip (xN (j9 _ _ (rS fun r6 e9 => sMs rfl (sV (evLen underlying39 rfl) (sMs rfl (sV (evLen underlying39 rfl) (sV (evAdd (((nf : Int)) + ((ng : Int))) rfl rfl wI) (sV (evSub ((((nf : Int)) + ((ng : Int))) - 1) rfl rfl wI) (sO (oMake2 (nf + ng - 1) underlying39 inf25 cI cI Qo Qo (fun a e5 p0 N p1 f0 => ?_)))))))))))))))
   have f1 : Blk e5 a 25 (cellsI (List.replicate (nf + ng - 1) RI.zero)) := f0
   refine sAs rfl (sK e9 (wp_seq_k fun r7 f2 => rS fun r8 f3 => sMs rfl (sV (evLen underlying39 rfl) (sMi rfl (sK f3 (wp_block ?_))))))
   refine lLoop (fun m e w_ => ∃ (k : Nat) (L : List RI), m = (nf + ng - 1) - k ∧ e 0 = (.slice Af nf cf) ∧ e 1 = (.slice Ag ng cg) ∧ e 3 = (.func (.func 12) #[] #[]) ∧ e 4 = (.func (.func 33) #[] #[]) ∧ e 7 = (.pointer (some ⟨g2, 0, none⟩)) ∧ e 11 = (.slice (some ⟨a, 0, none⟩) (nf + ng - 1) (nf + ng - 1)) ∧ e 31 = (.int .i64 (((nf + ng - 1 : Nat) : Int))) ∧ e 32 = (.int .i64 k) ∧ Frm (fun b => b = a) e5 w_ ∧ Blk w_ a 25 (cellsI (L ++ List.replicate ((nf + ng - 1) - k) RI.zero)) ∧ (k ≤ (nf + ng - 1)) ∧ (L.length = k) ∧ (AllN w_ (fun b => a < b) (Mf + Mg + nf + 1) L) ∧ (zs L = (List.range k).map (fun k => conv (zs lf) (zs lg) k)) ∧ (AllC L)) ((nf + ng - 1) - (0)) ?_ ?_
   ·refine ⟨(0), ([]), rfl, rfl, rfl, rfl, rfl, rfl, rfl, rfl, cI, (Frm.refl _ _), ?_, ?_, ?_, ?_, ?_, ?_⟩
    ·simpa using f1
    ·omega
    ·rfl
    ·exact AllN.nil
    ·rfl
    ·exact AllC.nil
   ·rintro r9 s0 k0 ⟨k, L, p2, f4, f5, f6, f7, f8, f9, g0, g1, j, a3, hk, hL, hA, hz, hC⟩
    obtain ⟨s1, rfl⟩ := sq8 f4 f5 f6 f7 f8 f9 g0 g1
    have p3 := j.size
    refine rS fun s2 a4 => ?_
    by_cases a5 : ((k : Int)) < (((nf + ng - 1 : Nat) : Int))
    ·refine sV (evLss true rfl rfl (dT a5)) (sK a4 (wp_seq_k fun s3 g3 => cT rfl (wp_skip (xN (g3 _ _ (wp_seq_k fun s4 g4 => wp_block (rS fun s5 g5 => sMi rfl (sAi rfl (sK g5 (rS fun s6 g6 => ?_))))))))))
     have g7 := N.rx j
     have g8 := (j8.frm g7 q1)
     refine sV (evLoadAB [(.bool false), (.slice none 0 0)] agg25 sz25 rfl g8 rfl) (sO (oAlloc [(.bool false), (.slice none 0 0)] zero25 rfl (fun n s7 p4 a6 p5 g9 => sO (oStore [(.bool false), (.slice none 0 0)] rfl rfl rfl sz25 rfl g9 Qn (fun e6 a7 p6 O => ?_)))))
     replace O : Blk e6 n 25 [(.bool false), (.slice none 0 0)] := O
     refine sK g6 (wp_seq_k fun s8 h0 => rS fun s9 h1 => sMi rfl (sMs rfl (sV (evLen underlying39 rfl) (sV (evSub (((k : Int)) - ((ng : Int))) rfl rfl wI) (sV (evAdd ((((k : Int)) - ((ng : Int))) + 1) rfl rfl wI) (sV (evMax (((k + 1 - ng : Nat) : Int)) rfl rfl (by split <;> omega)) (sAi rfl (sK h1 (wp_block ?_)))))))))
     refine lLoop (fun m e w_ => ∃ (i : Nat) (gs : Bool) (As : Option Addr) (ns : Nat) (cs : Nat) (ds : List Nat), m = k + 1 - i ∧ e 0 = (.slice Af nf cf) ∧ e 1 = (.slice Ag ng cg) ∧ e 3 = (.func (.func 12) #[] #[]) ∧ e 4 = (.func (.func 33) #[] #[]) ∧ e 7 = (.pointer (some ⟨g2, 0, none⟩)) ∧ e 11 = (.slice (some ⟨a, 0, none⟩) (nf + ng - 1) (nf + ng - 1)) ∧ e 12 = (.int .i64 k) ∧ e 13 = (.pointer (some ⟨n, 0, none⟩)) ∧ e 14 = (.int .i64 i) ∧ e 31 = (.int .i64 (((nf + ng - 1 : Nat) : Int))) ∧ e 32 = (.int .i64 k) ∧ Frm (fun b => b = n) e6 w_ ∧ Blk w_ n 25 ([.bool gs, .slice As ns cs]) ∧ (i ≤ k + 1) ∧ (ns ≤ Mf + Mg + i) ∧ (NatR w_ (fun b => a < b) As ns cs ds) ∧ (zval gs ds = rsum (fun t => co (zs lf) t * co (zs lg) (k - t)) i) ∧ (ICan gs ds) ∧ (i ≤ nf ∨ i = k + 1 - ng) ∧ (k + 1 - ng ≤ i)) (k + 1 - (k + 1 - ng)) ?_ ?_
     ·refine ⟨(k + 1 - ng), (false), (none), (0), (0), ([]), rfl, rfl, rfl, rfl, rfl, rfl, rfl, rfl, rfl, cI, rfl, rfl, (Frm.refl _ _), ?_, ?_, ?_, ?_, ?_, ?_, ?_, ?_⟩
      ·exact O
      ·omega
      ·omega
      ·exact NatR.nil
      ·rw [zval_nil]; exact conv_lo (by simp only [zlen]; omega)
      ·exact ICan.zero
      ·omega
      ·omega
     ·rintro t0 t1 t2 ⟨i, gs, As, ns, cs, ds, p7, h2, h3, h4, h5, h6, h7, h8, h9, i0, i1, i2, o, P, hi, hnn, hN, hs, hcs, hin, hlo⟩
      obtain ⟨t3, rfl⟩ := sq11 h2 h3 h4 h5 h6 h7 h8 h9 i0 i1 i2
      have p8 := o.size
      have ⟨lsN, lsC, lsM⟩ := hN.lkm
      refine wp_seq_k fun t4 i3 => rS fun t5 a8 => sMi rfl (sMi rfl (sMs rfl (sV (evLen underlying39 rfl) (sV (evSub (((nf : Int)) - 1) rfl rfl wI) (sV (evMin (((min k (nf - 1) : Nat) : Int)) rfl rfl (by split <;> omega)) ?_)))))
      by_cases a9 : ((i : Int)) ≤ (((min k (nf - 1) : Nat) : Int))
      ·refine sV (evLeq true rfl rfl (dT a9)) (sK a8 (cT rfl (wp_skip (xN (i3 _ _ (wp_seq_k fun t6 b0 => wp_block (dBegin (fun b => b = n) mixed (fun p9 d n3 => dV 0 rfl (v := (.func (.func 12) #[] #[])) (fun _ _ => rfl) (dV 2 rfl (v := (.func (.func 33) #[] #[])) (fun _ _ => rfl) (dMs 3 rfl rfl (dMi 4 rfl rfl ?_)))))))))))
       have R := (((((Q.trans N).rx j).xr a6).tr a7).tr o).xr d
       have b1 := (hf.frmB R q3)
       obtain ⟨q0, i4, rfl⟩ := b1.base Qo
       refine dV 5 rfl (fun _ _ => evIx i underlying39 sz25 rfl rfl (i4 + (i * 2))) ?_
       obtain ⟨c5, c6, c7, c8, n4, k1, b2, b3, A, k2, b4, b5, S⟩ := b1.at_ (i := i) Qo
       have ⟨n5, n6, n7⟩ := A.lkm
       refine dV 6 rfl (fun _ hf => evLoadA [(.bool c5), (.slice c6 c7 c8)] agg25 sz25 rfl (cell2F b2 b3 hf b5 (by (try dsimp only at b4 ⊢); omega))) (dMs 7 rfl rfl (dMi 8 rfl rfl (dMi 9 rfl rfl (dV 10 rfl (fun _ _ => evSub (((k : Int)) - ((i : Int))) rfl rfl wI) ?_))))
       have b6 := (hg.frmB R q3)
       obtain ⟨q2, i5, rfl⟩ := b6.base Qo
       refine dV 11 rfl (fun _ _ => evIx (k - i) underlying39 sz25 rfl rfl (i5 + ((k - i) * 2))) ?_
       obtain ⟨c9, d0, d1, d2, n8, k3, b7, b8, B, k4, b9, c0, T⟩ := b6.at_ (i := k - i) Qo
       have ⟨n9, o0, o1⟩ := B.lkm
       refine dV 12 rfl (fun _ hf => evLoadA [(.bool c9), (.slice d0 d1 d2)] agg25 sz25 rfl (cell2F b7 b8 hf c0 (by (try dsimp only at b9 ⊢); omega))) (dTwo 1 13 (by kernel_rfl) ?_ ?_)
       ·have U := (P.ext d)
        refine dWp (i := 1) rfl rfl (oEv (v := (.agg #[(.bool gs), (.slice As ns cs)])) (evLoadAB [(.bool gs), (.slice As ns cs)] agg25 sz25 rfl U rfl) rfl ⟨Frm.refl _ _, dOp 13 rfl rfl (by kernel_rfl) (oCall rfl call33 (integer_Mul A B Qo) rfl ?_)⟩)
        rintro _ q6 ⟨k5, k6, k7, k8, k9, rfl, f, I, d3, l0, l1⟩
        refine ⟨(Frm.of_ext f), ?_⟩
        have o2 := f.size
        have ⟨l2, l3, l4⟩ := I.lkm
        have V := d.trans f
        have i6 := (hN.ext V)
        refine dOp 14 rfl rfl (by kernel_rfl) (oCall rfl call12 (integer_Add i6 I Qo Qo) rfl ?_)
        rintro _ q7 ⟨p, q, r, s, c1, rfl, g, J, d4, c2, l5⟩
        refine ⟨(Frm.of_ext g), ?_⟩
        have o3 := g.size
        have ⟨l6, l7, l8⟩ := J.lkm
        have d5 := f.trans g
        have d6 := (U.ext d5)
        refine dOp 15 rfl rfl (by kernel_rfl) (oStore [(.bool p), (.slice q r s)] rfl rfl rfl sz25 rfl d6 Qn (fun i7 C o4 D => ?_))
        replace D : Blk i7 n 25 [(.bool p), (.slice q r s)] := D
        refine ⟨C, dDone (by kernel_rfl) (bN (xN (b0 _ _ (wp_region_lit (sMi rfl (sV (evAdd (((i : Int)) + 1) rfl rfl wI) (sAi rfl (sDone ?_))))))))⟩
        have d7 := (V.trans g).rx C
        have i8 := (J.frmB C q3)
        refine again (k + 1 - (i + 1)) Qo ⟨(i + 1), (p), (q), (r), (s), (c1), rfl, rfl, rfl, rfl, rfl, rfl, rfl, rfl, rfl, cI, rfl, rfl, (o.trans d7), ?_, ?_, ?_, ?_, ?_, ?_, ?_, ?_⟩
        ·exact D
        ·omega
        ·omega
        ·exact NatR.sub i8 q5
        ·rw [rsum_succ, d4, hs, d3]; exact cadd rfl (cmul S T)
        ·exact c2
        ·omega
        ·omega
       ·refine dWp (i := 13) rfl rfl (oCall rfl call33 (integer_Mul A B Qo) rfl ?_)
        rintro _ q8 ⟨l9, m0, m1, m2, m3, rfl, E, K, d8, m4, m5⟩
        refine ⟨(Frm.of_ext E), ?_⟩
        have o5 := E.size
        have ⟨m6, m7, m8⟩ := K.lkm
        have F := d.trans E
        have W := (P.ext F)
        refine dOp 1 rfl rfl (by kernel_rfl) (oEv (v := (.agg #[(.bool gs), (.slice As ns cs)])) (evLoadAB [(.bool gs), (.slice As ns cs)] agg25 sz25 rfl W rfl) rfl ⟨Frm.refl _ _, ?_⟩)
        have i9 := (hN.ext F)
        refine dOp 14 rfl rfl (by kernel_rfl) (oCall rfl call12 (integer_Add i9 K Qo Qo) rfl ?_)
        rintro _ q9 ⟨u, x, y, z, c3, rfl, h, M, d9, c4, m9⟩
        refine ⟨(Frm.of_ext h), ?_⟩
        have o6 := h.size
        have ⟨n0, n1, n2⟩ := M.lkm
        have e0 := (W.ext h)
        refine dOp 15 rfl rfl (by kernel_rfl) (oStore [(.bool u), (.slice x y z)] rfl rfl rfl sz25 rfl e0 Qn (fun j0 G o7 H => ?_))
        replace H : Blk j0 n 25 [(.bool u), (.slice x y z)] := H
        refine ⟨G, dDone (by kernel_rfl) (bN (xN (b0 _ _ (wp_region_lit (sMi rfl (sV (evAdd (((i : Int)) + 1) rfl rfl wI) (sAi rfl (sDone ?_))))))))⟩
        have e1 := (F.trans h).rx G
        have j1 := (M.frmB G q3)
        refine again (k + 1 - (i + 1)) Qo ⟨(i + 1), (u), (x), (y), (z), (c3), rfl, rfl, rfl, rfl, rfl, rfl, rfl, rfl, rfl, cI, rfl, rfl, (o.trans e1), ?_, ?_, ?_, ?_, ?_, ?_, ?_, ?_⟩
        ·exact H
        ·omega
        ·omega
        ·exact NatR.sub j1 q5
        ·rw [rsum_succ, d9, hs, d8]; exact cadd rfl (cmul S T)
        ·exact c4
        ·omega
        ·omega
      ·refine sV (evLeq false rfl rfl (dF a9)) (sK a8 (cF rfl (wp_exit (xE (xE (bE (xN (h0 _ _ (wp_region_lit (sMs rfl (sMi rfl (sV (evLoadAB [(.bool gs), (.slice As ns cs)] agg25 sz25 rfl P rfl) (sV (evIx k underlying39 sz25 rfl rfl (k * 2)) ?_)))))))))))))
       have X := (a6.rx a7).trans o
       have e2 := (a3.frm X q1)
       refine sO (oStore [(.bool gs), (.slice As ns cs)] rfl rfl rfl sz25 rfl e2 (by rw [cellsI_len]; simp only [List.length_cons, List.length_nil]; exact lq) (fun j2 Y o8 c => ?_))
       replace c := (cellsI_set (l := L ++ List.replicate ((nf + ng - 1) - k) RI.zero) (i := k) ⟨gs, As, ns, cs, ds⟩ (by exact lq)) ▸ c
       replace c : Blk j2 a 25 (cellsI ((L ++ [⟨gs, As, ns, cs, ds⟩]) ++ List.replicate ((nf + ng - 1) - (k + 1)) RI.zero)) := (fillI_set hL Qo : (L ++ List.replicate ((nf + ng - 1) - k) RI.zero).set k ⟨gs, As, ns, cs, ds⟩ = (L ++ [⟨gs, As, ns, cs, ds⟩]) ++ List.replicate ((nf + ng - 1) - (k + 1)) RI.zero) ▸ c
       refine sDone (bN (xN (g4 _ _ (wp_region_lit (sV (evAdd (((k : Int)) + 1) rfl rfl wI) (sMi rfl (sDone ?_)))))))
       have Z := X.tr Y
       have j3 := (hA.frmB Z q3)
       have j4 := (hN.frmB Y q3)
       refine again ((nf + ng - 1) - (k + 1)) Qo ⟨(k + 1), (L ++ [⟨gs, As, ns, cs, ds⟩]), rfl, rfl, rfl, rfl, rfl, rfl, rfl, rfl, cI, (Frm.mono (j.tr Z) q4), ?_, ?_, ?_, ?_, ?_, ?_⟩
       ·exact c
       ·omega
       ·simp [hL]
       ·exact AllN.snoc j3 (NatR.sub j4 q5) (by (try dsimp only); omega)
       ·exact zs_snoc hz (by show zval _ _ = _; exact conv_end hs (by omega) (by simp only [zlen]; omega))
       ·exact AllC.snoc hC hcs
    ·refine sV (evLss false rfl rfl (dF a5)) (sK a4 (wp_seq_k fun r0 o9 => cF rfl (wp_exit (xE (xE (bE (xN (f2 _ _ (rS fun r1 e3 => sMs rfl (sAs rfl (sK e3 (wp_ret (ret1 (.slice (some ⟨a, 0, none⟩) (nf + ng - 1) (nf + ng - 1)) results52 (resT rfl) ?_)))))))))))))
     have j5 : PolyR k0 (fun b => a ≤ b) (some ⟨a, 0, none⟩) (nf + ng - 1) (nf + ng - 1) (L ++ List.replicate ((nf + ng - 1) - k) RI.zero) (Mf + Mg + nf + 1) := PolyR.of_blk a3 (AllN.app (AllN.sub hA q5) (AllN.zeros _)) (by (try dsimp only); omega) (by exact lq) (by omega) (by unfold CapMax; omega)
     have e4 := (Q.trans N).rx j
     exact ⟨(some ⟨a, 0, none⟩), (nf + ng - 1), (nf + ng - 1), (L ++ List.replicate ((nf + ng - 1) - k) RI.zero), rfl, (Frm.mono e4 q4), (PolyR.le (PolyR.sub j5 q5) (by omega)), (by rw [show (nf + ng - 1) - k = 0 by omega, List.replicate_zero, List.append_nil, hz]; exact pmul_pos (by simp only [zlen]; omega) (by simp only [zlen]; omega) (by simp only [zlen]; omega)), (by omega), (AllC.app hC (AllC.zeros _))⟩
theorem unipoly_Mul {w : World} {Sf : Nat → Prop} {Af : Option Addr} {nf cf Mf : Nat} {lf : List RI} {Sg : Nat → Prop} {Ag : Option Addr} {ng cg Mg : Nat} {lg : List RI} (hf : PolyR w Sf Af nf cf lf Mf) (hg : PolyR w Sg Ag ng cg lg Mg) (hnf : nf ≤ 1048576) (hng : ng ≤ 1048576) (hMf : Mf ≤ 1073741824) (hMg : Mg ≤ 1073741824) : Calls Tryz.prog 19 #[(.slice Af nf cf), (.slice Ag ng cg)] w (Ret fun v w' => ∃ (Ar : Option Addr) (nr : Nat) (cr : Nat) (lr : List RI), v = (.slice Ar nr cr) ∧ Ext w w' ∧ PolyR w' (fun b => w.heap.size ≤ b) Ar nr cr lr (Mf + Mg + nf + 1) ∧ (zs lr = trimZ (pmul (zs lf) (zs lg))) ∧ (nr ≤ nf + ng) ∧ (AllC lr)) := by
 have ⟨kf, jf, mf⟩ := hf.lkm
 replace hf := hf.low
 have ⟨kg, jg, mg⟩ := hg.lkm
 replace hg := hg.low
 refine enter func19 rfl ntmps19 rfl (rS fun V o => sAs rfl (sK o (rS fun W p => sMs rfl (sO (oCall rfl call49 (unipoly_trim hf) rfl ?_)))))
 rintro _ X ⟨z, A, B, C, rfl, g, h, q, D⟩
 have S := g.size
 have ⟨E, F, G⟩ := h.lkm
 refine sMs rfl ?_
 have H := (hg.ext g)
 refine sO (oCall rfl call49 (unipoly_trim H) rfl ?_)
 rintro _ T ⟨I, J, K, L, rfl, a, i, r, M⟩
 have N := a.size
 have ⟨O, P, Q⟩ := i.lkm
 refine sV (v := (.agg #[(.bool false), (.slice none 0 0)])) (evK (by kernel_rfl)) ?_
 have s := (h.ext a)
 refine sO (oCall rfl call52 (unipoly_convolve s i Qo Qo Qo Qo) rfl ?_)
 rintro _ U ⟨c, d, e, k, rfl, j, f, m, t, l⟩
 have R := j.size
 have ⟨u, x, y⟩ := f.lkm
 refine sAs rfl (sK p (wp_ret (ret1 (.slice c d e) results19 (resT rfl) ?_)))
 have n := (g.trans a).trans j
 exact ⟨c, d, e, k, rfl, n, (PolyR.le (PolyR.sub f q5) (by omega)), (by rw [m, q, r, zs_trim, zs_trim, mul_trim]), (by omega), l⟩
theorem unipoly_Add {w : World} {Sf : Nat → Prop} {Af : Option Addr} {nf cf Mf : Nat} {lf : List RI} {Sg : Nat → Prop} {Ag : Option Addr} {ng cg Mg : Nat} {lg : List RI} (hf : PolyR w Sf Af nf cf lf Mf) (hg : PolyR w Sg Ag ng cg lg Mg) (hnf : nf ≤ 1048576) (hng : ng ≤ 1048576) (hMf : Mf ≤ 1073741824) (hMg : Mg ≤ 1073741824) : Calls Tryz.prog 102 #[(.slice Af nf cf), (.slice Ag ng cg)] w (Ret fun v w' => ∃ (Ar : Option Addr) (nr : Nat) (cr : Nat) (lr : List RI), v = (.slice Ar nr cr) ∧ Ext w w' ∧ PolyR w' (fun b => w.heap.size ≤ b) Ar nr cr lr (Mf + Mg + 1) ∧ (zs lr = trimZ (padd (zs lf) (zs lg))) ∧ (nr ≤ max nf ng) ∧ (AllC lr)) := by
 have ⟨kf, jf, mf⟩ := hf.lkm
 replace hf := hf.low
 have ⟨kg, jg, mg⟩ := hg.lkm
 replace hg := hg.low
 refine enter func102 rfl ntmps102 rfl (rS fun F m => sAs rfl (sK m (rS fun G n => sMs rfl (sMs rfl (sV (v := (.agg #[(.bool false), (.slice none 0 0)])) (evK (by kernel_rfl)) (sO (oCall rfl call107 (unipoly_combine_Add hf hg Qo Qo Qo Qo) rfl ?_)))))))
 rintro _ H ⟨p, q, r, s, rfl, h, a, o, t, j⟩
 have E := h.size
 have ⟨u, x, y⟩ := a.lkm
 refine sO (oCall rfl call49 (unipoly_trim a) rfl ?_)
 rintro _ I ⟨c, d, e, k, rfl, f, g, i, z⟩
 have A := f.size
 have ⟨B, C, D⟩ := g.lkm
 refine sAs rfl (sK n (wp_ret (ret1 (.slice c d e) results102 (resT rfl) ?_)))
 have l := h.trans f
 exact ⟨c, d, e, k, rfl, l, (PolyR.le (PolyR.sub g q5) (by omega)), (by rw [i, zs_trim, o]), (by omega), (by rw [i]; exact j.trim)⟩
theorem unipoly_Sub {w : World} {Sf : Nat → Prop} {Af : Option Addr} {nf cf Mf : Nat} {lf : List RI} {Sg : Nat → Prop} {Ag : Option Addr} {ng cg Mg : Nat} {lg : List RI} (hf : PolyR w Sf Af nf cf lf Mf) (hg : PolyR w Sg Ag ng cg lg Mg) (hnf : nf ≤ 1048576) (hng : ng ≤ 1048576) (hMf : Mf ≤ 1073741824) (hMg : Mg ≤ 1073741824) : Calls Tryz.prog 71 #[(.slice Af nf cf), (.slice Ag ng cg)] w (Ret fun v w' => ∃ (Ar : Option Addr) (nr : Nat) (cr : Nat) (lr : List RI), v = (.slice Ar nr cr) ∧ Ext w w' ∧ PolyR w' (fun b => w.heap.size ≤ b) Ar nr cr lr (Mf + Mg + 1) ∧ (zs lr = trimZ (psub (zs lf) (zs lg))) ∧ (nr ≤ max nf ng) ∧ (AllC lr)) := by
 have ⟨kf, jf, mf⟩ := hf.lkm
 replace hf := hf.low
 have ⟨kg, jg, mg⟩ := hg.lkm
 replace hg := hg.low
 refine enter func71 rfl ntmps71 rfl (rS fun F m => sAs rfl (sK m (rS fun G n => sMs rfl (sMs rfl (sV (v := (.agg #[(.bool false), (.slice none 0 0)])) (evK (by kernel_rfl)) (sO (oCall rfl call107 (unipoly_combine_Sub hf hg Qo Qo Qo Qo) rfl ?_)))))))
 rintro _ H ⟨p, q, r, s, rfl, h, a, o, t, j⟩
 have E := h.size
 have ⟨u, x, y⟩ := a.lkm
 refine sO (oCall rfl call49 (unipoly_trim a) rfl ?_)
 rintro _ I ⟨c, d, e, k, rfl, f, g, i, z⟩
 have A := f.size
 have ⟨B, C, D⟩ := g.lkm
 refine sAs rfl (sK n (wp_ret (ret1 (.slice c d e) results71 (resT rfl) ?_)))
 have l := h.trans f
 exact ⟨c, d, e, k, rfl, l, (PolyR.le (PolyR.sub g q5) (by omega)), (by rw [i, zs_trim, o]), (by omega), (by rw [i]; exact j.trim)⟩
end Go.Proofs.YtneolcopompkaaaGreatDoor
