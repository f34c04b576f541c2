/-
  Walks of package unipoly: trim, sums, products, comparison.
-/
import Derived.Test.YtneolcopompkaaaGreatDoorInt1
import Derived.Test.YtneolcopompkaaaGreatDoorLibA
namespace Go.Proofs.YtneolcopompkaaaGreatDoor
open Go.RowKit Go.Gx Tryz
theorem unipoly_trim {w : World} {Sa : Nat → Prop} {Aa : Option Addr} {na ca Ma : Nat} {la : List RI} (ha : PolyR w Sa Aa na ca la Ma)  : Calls Tryz.prog 49 #[(.slice Aa na ca)] w (Ret fun v w' => ∃ (Ar : Option Addr) (nr : Nat) (cr : Nat) (lr : List RI), v = (.slice Ar nr cr) ∧ Ext w w' ∧ PolyR w' (Sa) Ar nr cr lr (Ma) ∧ (lr = trimB RI.isZ la) ∧ (nr ≤ na)) := by
 have ⟨ka, ja, ma⟩ := ha.lkm
 refine enter func49 rfl ntmps49 rfl (rS fun K1 F => sAs rfl (sK F (rS fun K2 G => sMs rfl (sV (evLen underlying39 rfl) (sAi rfl (sK G (wp_seq_k fun K3 A => wp_block ?_)))))))
 refine lLoop (fun m e w_ => ∃ (k : Nat), m = k ∧ e 0 = (.slice Aa na ca) ∧ e 3 = (.int .i64 k) ∧ Frm (fun b => False) w w_ ∧ (k ≤ na) ∧ (∀ j, k ≤ j → (zs la).getD j 0 = 0)) ((na)) ?_ ?_
 ·refine ⟨(na), rfl, rfl, cI, (Frm.refl _ _), ?_, ?_⟩
  ·omega
  ·exact zget_ge (by simp; omega)
 ·rintro m4 X w5 ⟨k, Y, H, I, a, hk, hz⟩
  obtain ⟨Z, rfl⟩ := sq2 H I
  have R := a.size
  refine wp_seq_k fun a0 B => rS fun a1 f => sMi rfl ?_
  by_cases h : ((k : Int)) > 0
  ·refine sV (evGtr true rfl rfl (dT h)) (sMb rfl (sEv (v := (.slice Aa na ca)) (rfl) rfl rfl (sEv (v := (.int .i64 k)) (rfl) rfl rfl (sEv (v := (.int .i64 (((k : Int)) - 1))) (evSub (((k : Int)) - 1) rfl rfl wI) rfl rfl ?_))))
   have l := (ha.ext a)
   obtain ⟨n, g, rfl⟩ := l.base Qo
   refine sEv (v := (.pointer (some ⟨n, g + ((k - 1) * 2), none⟩))) (evIx (k - 1) underlying39 sz25 rfl rfl (g + ((k - 1) * 2))) rfl rfl ?_
   obtain ⟨o, p, q, r, S, N, x, y, s, O, P, Q, t⟩ := l.at_ (i := k - 1) Qo
   have ⟨T, U, V⟩ := s.lkm
   refine sEv (v := (.agg #[(.bool o), (.slice p q r)])) (evLoadA [(.bool o), (.slice p q r)] agg25 sz25 rfl (cell2 x y)) rfl rfl (sOp rfl (oCall rfl call29 (integer_Sign s) rfl ?_))
   rintro _ a2 ⟨z, rfl, c, u⟩
   have W := c.size
   by_cases d : z = 0
   ·refine sEv (v := (.bool true)) (evEql true rfl rfl (dT d)) rfl rfl ?_
    have hzz := (sign_zero_iff u t).1 d
    refine sV (v := (.bool true)) (rfl) (sK f (cT rfl (wp_skip (xN (B _ _ (wp_block (wp_region_lit (sMi rfl (sV (evSub (((k : Int)) - 1) rfl rfl wI) (sAi rfl (sDone (bN (again ((k - 1)) Qo ⟨(k - 1), rfl, rfl, cI, (a.trans c), ?_, ?_⟩)))))))))))))
    ·omega
    ·exact zeros_downZ hz hzz
   ·refine sEv (v := (.bool false)) (evEql false rfl rfl (dF d)) rfl rfl ?_
    have hzz := fun hh => d ((sign_zero_iff u t).2 hh)
    refine sV (v := (.bool false)) (rfl) (sK f (cF rfl (wp_exit (xE (xE (bE (xN (A _ _ (rS fun a3 C => sMs rfl (sMi rfl ?_))))))))))
    have J := (l.ext c)
    have K := J.take (m := k) Qo
    refine sV (evSliceHi k underlying39 sz25 rfl rfl Qo Qo) (sAs rfl (sK C (wp_ret (ret1 (.slice (some ⟨n, g, none⟩) k ca) results49 (resT rfl) ?_))))
    have D := a.trans c
    exact ⟨(some ⟨n, g, none⟩), k, ca, ((la).take k), rfl, D, (PolyR.le K Qo), (trimI_of Qo hz (by first | omega | exact .inr hzz)), Qo⟩
  ·refine sV (evGtr false rfl rfl (dF h)) (sMb rfl (sSkip rfl rfl (sSkip rfl rfl (sSkip rfl rfl (sSkip rfl rfl (sSkip rfl rfl (sSkip rfl rfl (sSkip rfl rfl (sV (v := (.bool false)) (rfl) (sK f (cF rfl (wp_exit (xE (xE (bE (xN (A _ _ (rS fun a4 E => sMs rfl (sMi rfl ?_)))))))))))))))))))
   have L := (ha.ext a)
   have M := L.take (m := k) Qo
   refine sV (evSliceHi k underlying39 sz25 rfl rfl Qo Qo) (sAs rfl (sK E (wp_ret (ret1 (.slice Aa k ca) results49 (resT rfl) ?_))))
   exact ⟨Aa, k, ca, ((la).take k), rfl, a, (PolyR.le M Qo), (trimI_of Qo hz (by first | omega | exact .inr hzz)), Qo⟩
theorem unipoly_combine_Add {w : World} {Sf : Nat → Prop} {Af : Option Addr} {nf cf Mf : Nat} {lf : List RI} {Sg : Nat → Prop} {Ag : Option Addr} {ng cg Mg : Nat} {lg : List RI}   (hf : PolyR w Sf Af nf cf lf Mf) (hg : PolyR w Sg Ag ng cg lg Mg) (hnf : nf ≤ 1048576) (hng : ng ≤ 1048576) (hMf : Mf ≤ 1073741824) (hMg : Mg ≤ 1073741824) : Calls Tryz.prog 107 #[(.slice Af nf cf), (.slice Ag ng cg), (.agg #[(.bool false), (.slice none 0 0)]), (.func (.func 12) #[] #[])] w (Ret fun v w' => ∃ (Ar : Option Addr) (nr : Nat) (cr : Nat) (lr : List RI), v = (.slice Ar nr cr) ∧ Ext w w' ∧ PolyR w' (fun b => w.heap.size ≤ b) Ar nr cr lr (Mf + Mg + 1) ∧ (zs lr = padd (zs lf) (zs lg)) ∧ (nr = max nf ng) ∧ (AllC lr)) := by
 have ⟨kf, jf, mf⟩ := hf.lkm
 replace hf := hf.low
 have ⟨kg, jg, mg⟩ := hg.lkm
 replace hg := hg.low
 refine enter func107 rfl ntmps107 rfl (rS fun K1 n0 => sO (oBox [(.bool false), (.slice none 0 0)] rfl rfl (fun g2 w3 w1 d7 w2 n1 => sAs rfl (sK n0 (rS fun K8 n2 => sMs rfl (sV (evLen underlying39 rfl) (sMs rfl (sV (evLen underlying39 rfl) (sV (evMax (((max nf ng : Nat) : Int)) rfl rfl (maxN)) (sO (oMake2 (max nf ng) underlying39 inf25 cI cI Qo Qo (fun N i6 s9 a0 t0 j1 => ?_))))))))))))
 have j2 : Blk i6 N 25 (cellsI (List.replicate (max nf ng) RI.zero)) := j1
 refine sAs rfl (sK n2 (wp_seq_k fun w4 j3 => rS fun w5 j4 => sMs rfl (sV (evLen underlying39 rfl) (sMi rfl (sK j4 (wp_block ?_))))))
 refine lLoop (fun m e w_ => ∃ (k : Nat) (L : List RI), m = max nf ng - k ∧ e 0 = (.slice Af nf cf) ∧ e 1 = (.slice Ag ng cg) ∧ e 3 = (.func (.func 12) #[] #[]) ∧ e 6 = (.pointer (some ⟨g2, 0, none⟩)) ∧ e 9 = (.slice (some ⟨N, 0, none⟩) (max nf ng) (max nf ng)) ∧ e 20 = (.int .i64 (((max nf ng : Nat) : Int))) ∧ e 21 = (.int .i64 k) ∧ Frm (fun b => b = N) i6 w_ ∧ Blk w_ N 25 (cellsI (L ++ List.replicate (max nf ng - k) RI.zero)) ∧ (k ≤ max nf ng) ∧ (L.length = k) ∧ (AllN w_ (fun b => N < b) (Mf + Mg + 1) L) ∧ (zs L = (List.range k).map (fun i => co (zs lf) i + co (zs lg) i)) ∧ (AllC L)) (max nf ng - (0)) ?_ ?_
 ·refine ⟨(0), ([]), rfl, rfl, rfl, rfl, rfl, rfl, rfl, cI, (Frm.refl _ _), ?_, ?_, ?_, ?_, ?_, ?_⟩
  ·simpa using j2
  ·omega
  ·rfl
  ·exact AllN.nil
  ·rfl
  ·exact AllC.nil
 ·rintro w6 w7 i7 ⟨k, L, t1, j5, j6, j7, j8, j9, k0, k1, z, U, hk, hL, hA, hz, hC⟩
  obtain ⟨w8, rfl⟩ := sq7 j5 j6 j7 j8 j9 k0 k1
  have t2 := z.size
  refine rS fun w9 d8 => ?_
  by_cases d9 : ((k : Int)) < (((max nf ng : Nat) : Int))
  ·refine sV (evLss true rfl rfl (dT d9)) (sK d8 (wp_seq_k fun x0 k2 => cT rfl (wp_skip (xN (k2 _ _ (wp_seq_k fun x1 a1 => wp_block (rS fun x2 k3 => sMi rfl (sAi rfl (sK k3 (wp_seq_k fun x3 k4 => dBegin (fun b => i7.heap.size ≤ b) mixed (fun x4 F t3 => ?_)))))))))))
   have k5 := (a0.rx z).xr F
   have e0 := (n1.frm k5 q1)
   refine dV 0 rfl (fun _ hf => evLoadAB [(.bool false), (.slice none 0 0)] agg25 sz25 rfl (e0.frm hf q1) rfl) (dV 1 rfl (fun _ hf => evLoadAB [(.bool false), (.slice none 0 0)] agg25 sz25 rfl (e0.frm hf q1) rfl) (wAl2 (fun k => bif Nat.beq k 2 then (11, 25, [(.bool false), (.slice none 0 0)]) else (12, 25, [(.bool false), (.slice none 0 0)])) 2 3 (alOp rfl rfl zero25 rfl) (alOp rfl rfl zero25 rfl) rfl fun n3 => wEnd2 n3 #[true, true, true, true, false, false] (by kernel_rfl) fun i8 e1 x5 G t4 t5 q0 e2 e3 t6 t7 => ?_))
   have t8 := G.size
   have t9 := e2.lt
   have u0 := e3.lt
   refine dOp 4 rfl rfl (by kernel_rfl) (oStore [(.bool false), (.slice none 0 0)] rfl rfl rfl sz25 rfl e2 Qn (fun n4 A u1 V => ?_))
   replace V : Blk n4 i8 25 [(.bool false), (.slice none 0 0)] := V
   refine ⟨(A.mono q4), ?_⟩
   have k6 := (e3.frm A q1)
   refine dOp 5 rfl rfl (by kernel_rfl) (oStore [(.bool false), (.slice none 0 0)] rfl rfl rfl sz25 rfl k6 Qn (fun n5 a u2 O => ?_))
   replace O : Blk n5 e1 25 [(.bool false), (.slice none 0 0)] := O
   refine ⟨(a.mono q4), dDone (by kernel_rfl) (xN (k4 _ _ (wp_seq_k fun x6 e4 => rS fun x7 e5 => sMi rfl (sMs rfl (sV (evLen underlying39 rfl) ?_)))))⟩
   by_cases e6 : ((k : Int)) < ((nf : Int))
   ·refine sV (evLss true rfl rfl (dT e6)) (sK e5 (cT rfl (wp_region_lit (sMs rfl (sMi rfl ?_)))))
    have e7 := (((((d7.trans a0).rx z).xr F).xr G).tr A).tr a
    have i9 := (hf.frmB e7 q3)
    obtain ⟨x8, n6, rfl⟩ := i9.base Qo
    refine sV (evIx k underlying39 sz25 rfl rfl (n6 + (k * 2))) ?_
    obtain ⟨W, X, Y, Z, u3, q2, g3, g4, b6, q6, q7, q8, e8⟩ := i9.at_ (i := k) Qo
    have ⟨u4, u5, u6⟩ := b6.lkm
    refine sV (evLoadA [(.bool W), (.slice X Y Z)] agg25 sz25 rfl (cell2 g3 g4)) ?_
    have k7 := (V.frm a q1)
    refine sO (oStore [(.bool W), (.slice X Y Z)] rfl rfl rfl sz25 rfl k7 Qn (fun n7 H u7 a2 => ?_))
    replace a2 : Blk n7 i8 25 [(.bool W), (.slice X Y Z)] := a2
    refine sK e4 (wp_seq_k fun x9 e9 => rS fun y0 f0 => sMi rfl (sMs rfl (sV (evLen underlying39 rfl) ?_)))
    by_cases f1 : ((k : Int)) < ((ng : Int))
    ·refine sV (evLss true rfl rfl (dT f1)) (sK f0 (cT rfl (wp_region_lit (sMs rfl (sMi rfl ?_)))))
     have k8 := e7.tr H
     have j0 := (hg.frmB k8 q3)
     obtain ⟨y1, n8, rfl⟩ := j0.base Qo
     refine sV (evIx k underlying39 sz25 rfl rfl (n8 + (k * 2))) ?_
     obtain ⟨a3, a4, a5, a6, u8, q9, g5, g6, f2, r0, r1, r2, k9⟩ := j0.at_ (i := k) Qo
     have ⟨u9, v0, v1⟩ := f2.lkm
     refine sV (evLoadA [(.bool a3), (.slice a4 a5 a6)] agg25 sz25 rfl (cell2 g5 g6)) ?_
     have l0 := (O.frm H q1)
     refine sO (oStore [(.bool a3), (.slice a4 a5 a6)] rfl rfl rfl sz25 rfl l0 Qn (fun n9 a7 r3 a8 => ?_))
     replace a8 : Blk n9 e1 25 [(.bool a3), (.slice a4 a5 a6)] := a8
     refine sK e9 (wp_region_lit (sMs rfl (sMi rfl (sV (v := (.func (.func 12) #[] #[])) (rfl) ?_))))
     have g7 := (a2.frm a7 q1)
     refine sV (evLoadAB [(.bool W), (.slice X Y Z)] agg25 sz25 rfl g7 rfl) (sV (evLoadAB [(.bool a3), (.slice a4 a5 a6)] agg25 sz25 rfl a8 rfl) ?_)
     have g8 := H.tr a7
     have l1 := (b6.frmB g8 q3)
     have l2 := (f2.frmB a7 q3)
     refine sO (oCall rfl call12 (integer_Add l1 l2 Qo Qo) rfl ?_)
     rintro _ v2 ⟨c, d, f, g, B, rfl, b7, b1, h0, f3, o0⟩
     have r4 := b7.size
     have ⟨o1, o2, o3⟩ := b1.lkm
     refine sV (evIx k underlying39 sz25 rfl rfl (k * 2)) ?_
     have b8 := (((((F.trans G).rx A).tr a).tr H).tr a7).xr b7
     have h1 := (U.frm b8 q1)
     refine sO (oStore [(.bool c), (.slice d f g)] rfl rfl rfl sz25 rfl h1 (by rw [cellsI_len]; simp only [List.length_cons, List.length_nil]; exact lq) (fun l3 b9 r5 I => ?_))
     replace I := (cellsI_set (l := L ++ List.replicate (max nf ng - k) RI.zero) (i := k) ⟨c, d, f, g, B⟩ (by exact lq)) ▸ I
     replace I : Blk l3 N 25 (cellsI ((L ++ [⟨c, d, f, g, B⟩]) ++ List.replicate (max nf ng - (k + 1)) RI.zero)) := (fillI_set hL Qo : (L ++ List.replicate (max nf ng - k) RI.zero).set k ⟨c, d, f, g, B⟩ = (L ++ [⟨c, d, f, g, B⟩]) ++ List.replicate (max nf ng - (k + 1)) RI.zero) ▸ I
     refine sDone (bN (xN (a1 _ _ (wp_region_lit (sV (evAdd (((k : Int)) + 1) rfl rfl wI) (sMi rfl (sDone ?_)))))))
     have c0 := b8.tr b9
     have l4 := (hA.frmB c0 q3)
     have l5 := (b1.frmB b9 q3)
     refine again (max nf ng - (k + 1)) Qo ⟨(k + 1), (L ++ [⟨c, d, f, g, B⟩]), rfl, rfl, rfl, rfl, rfl, rfl, rfl, cI, (Frm.mono (z.tr c0) q4), ?_, ?_, ?_, ?_, ?_, ?_⟩
     ·exact I
     ·omega
     ·simp [hL]
     ·exact AllN.snoc l4 (NatR.sub l5 q5) (by (try dsimp only); omega)
     ·exact zs_snoc hz (by show zval _ _ = _; rw [h0]; exact cadd e8 k9)
     ·exact AllC.snoc hC f3
    ·refine sV (evLss false rfl rfl (dF f1)) ?_
     have f4 : zval false [] = co (zs lg) k := by rw [zval_nil, co_ge (by simp; omega)]
     refine sK f0 (cF rfl (wp_skip (xN (e9 _ _ (wp_region_lit (sMs rfl (sMi rfl (sV (v := (.func (.func 12) #[] #[])) (rfl) (sV (evLoadAB [(.bool W), (.slice X Y Z)] agg25 sz25 rfl a2 rfl) ?_)))))))))
     have h2 := (O.frm H q1)
     refine sV (evLoadAB [(.bool false), (.slice none 0 0)] agg25 sz25 rfl h2 rfl) ?_
     have l6 := (b6.frmB H q3)
     refine sO (oCall rfl call12 (integer_Add l6 (NatR.nil (S := fun _ => True)) Qo Qo) rfl ?_)
     rintro _ v3 ⟨h, j, n, o, C, rfl, c1, b2, h3, f5, o4⟩
     have r6 := c1.size
     have ⟨o5, o6, o7⟩ := b2.lkm
     refine sV (evIx k underlying39 sz25 rfl rfl (k * 2)) ?_
     have c2 := ((((F.trans G).rx A).tr a).tr H).xr c1
     have h4 := (U.frm c2 q1)
     refine sO (oStore [(.bool h), (.slice j n o)] rfl rfl rfl sz25 rfl h4 (by rw [cellsI_len]; simp only [List.length_cons, List.length_nil]; exact lq) (fun l7 c3 r7 J => ?_))
     replace J := (cellsI_set (l := L ++ List.replicate (max nf ng - k) RI.zero) (i := k) ⟨h, j, n, o, C⟩ (by exact lq)) ▸ J
     replace J : Blk l7 N 25 (cellsI ((L ++ [⟨h, j, n, o, C⟩]) ++ List.replicate (max nf ng - (k + 1)) RI.zero)) := (fillI_set hL Qo : (L ++ List.replicate (max nf ng - k) RI.zero).set k ⟨h, j, n, o, C⟩ = (L ++ [⟨h, j, n, o, C⟩]) ++ List.replicate (max nf ng - (k + 1)) RI.zero) ▸ J
     refine sDone (bN (xN (a1 _ _ (wp_region_lit (sV (evAdd (((k : Int)) + 1) rfl rfl wI) (sMi rfl (sDone ?_)))))))
     have c4 := c2.tr c3
     have l8 := (hA.frmB c4 q3)
     have l9 := (b2.frmB c3 q3)
     refine again (max nf ng - (k + 1)) Qo ⟨(k + 1), (L ++ [⟨h, j, n, o, C⟩]), rfl, rfl, rfl, rfl, rfl, rfl, rfl, cI, (Frm.mono (z.tr c4) q4), ?_, ?_, ?_, ?_, ?_, ?_⟩
     ·exact J
     ·omega
     ·simp [hL]
     ·exact AllN.snoc l8 (NatR.sub l9 q5) (by (try dsimp only); omega)
     ·exact zs_snoc hz (by show zval _ _ = _; rw [h3]; exact cadd e8 f4)
     ·exact AllC.snoc hC f5
   ·refine sV (evLss false rfl rfl (dF e6)) ?_
    have b3 : zval false [] = co (zs lf) k := by rw [zval_nil, co_ge (by simp; omega)]
    refine sK e5 (cF rfl (wp_skip (xN (e4 _ _ (wp_seq_k fun v4 c5 => rS fun v5 c6 => sMi rfl (sMs rfl (sV (evLen underlying39 rfl) ?_)))))))
    by_cases c7 : ((k : Int)) < ((ng : Int))
    ·refine sV (evLss true rfl rfl (dT c7)) (sK c6 (cT rfl (wp_region_lit (sMs rfl (sMi rfl ?_)))))
     have h5 := (((((d7.trans a0).rx z).xr F).xr G).tr A).tr a
     have f6 := (hg.frmB h5 q3)
     obtain ⟨v6, m0, rfl⟩ := f6.base Qo
     refine sV (evIx k underlying39 sz25 rfl rfl (m0 + (k * 2))) ?_
     obtain ⟨P, Q, R, T, r8, o8, f7, f8, c8, o9, p0, p1, h6⟩ := f6.at_ (i := k) Qo
     have ⟨r9, s0, s1⟩ := c8.lkm
     refine sV (evLoadA [(.bool P), (.slice Q R T)] agg25 sz25 rfl (cell2 f7 f8)) (sO (oStore [(.bool P), (.slice Q R T)] rfl rfl rfl sz25 rfl O Qn (fun m1 a9 s2 b0 => ?_)))
     replace b0 : Blk m1 e1 25 [(.bool P), (.slice Q R T)] := b0
     refine sK c5 (wp_region_lit (sMs rfl (sMi rfl (sV (v := (.func (.func 12) #[] #[])) (rfl) ?_))))
     have h7 := a.trans a9
     have h8 := (V.frm h7 q1)
     refine sV (evLoadAB [(.bool false), (.slice none 0 0)] agg25 sz25 rfl h8 rfl) (sV (evLoadAB [(.bool P), (.slice Q R T)] agg25 sz25 rfl b0 rfl) ?_)
     have m2 := (c8.frmB a9 q3)
     refine sO (oCall rfl call12 (integer_Add (NatR.nil (S := fun _ => True)) m2 Qo Qo) rfl ?_)
     rintro _ v7 ⟨p, q, r, s, D, rfl, c9, b4, h9, f9, p2⟩
     have s3 := c9.size
     have ⟨p3, p4, p5⟩ := b4.lkm
     refine sV (evIx k underlying39 sz25 rfl rfl (k * 2)) ?_
     have d0 := ((((F.trans G).rx A).tr a).tr a9).xr c9
     have i0 := (U.frm d0 q1)
     refine sO (oStore [(.bool p), (.slice q r s)] rfl rfl rfl sz25 rfl i0 (by rw [cellsI_len]; simp only [List.length_cons, List.length_nil]; exact lq) (fun m3 d1 s4 K => ?_))
     replace K := (cellsI_set (l := L ++ List.replicate (max nf ng - k) RI.zero) (i := k) ⟨p, q, r, s, D⟩ (by exact lq)) ▸ K
     replace K : Blk m3 N 25 (cellsI ((L ++ [⟨p, q, r, s, D⟩]) ++ List.replicate (max nf ng - (k + 1)) RI.zero)) := (fillI_set hL Qo : (L ++ List.replicate (max nf ng - k) RI.zero).set k ⟨p, q, r, s, D⟩ = (L ++ [⟨p, q, r, s, D⟩]) ++ List.replicate (max nf ng - (k + 1)) RI.zero) ▸ K
     refine sDone (bN (xN (a1 _ _ (wp_region_lit (sV (evAdd (((k : Int)) + 1) rfl rfl wI) (sMi rfl (sDone ?_)))))))
     have d2 := d0.tr d1
     have m4 := (hA.frmB d2 q3)
     have m5 := (b4.frmB d1 q3)
     refine again (max nf ng - (k + 1)) Qo ⟨(k + 1), (L ++ [⟨p, q, r, s, D⟩]), rfl, rfl, rfl, rfl, rfl, rfl, rfl, cI, (Frm.mono (z.tr d2) q4), ?_, ?_, ?_, ?_, ?_, ?_⟩
     ·exact K
     ·omega
     ·simp [hL]
     ·exact AllN.snoc m4 (NatR.sub m5 q5) (by (try dsimp only); omega)
     ·exact zs_snoc hz (by show zval _ _ = _; rw [h9]; exact cadd b3 h6)
     ·exact AllC.snoc hC f9
    ·refine sV (evLss false rfl rfl (dF c7)) ?_
     have g0 : zval false [] = co (zs lg) k := by rw [zval_nil, co_ge (by simp; omega)]
     refine sK c6 (cF rfl (wp_skip (xN (c5 _ _ (wp_region_lit (sMs rfl (sMi rfl (sV (v := (.func (.func 12) #[] #[])) (rfl) ?_))))))))
     have i1 := (V.frm a q1)
     refine sV (evLoadAB [(.bool false), (.slice none 0 0)] agg25 sz25 rfl i1 rfl) (sV (evLoadAB [(.bool false), (.slice none 0 0)] agg25 sz25 rfl O rfl) (sO (oCall rfl call12 (integer_Add (NatR.nil (S := fun _ => True)) (NatR.nil (S := fun _ => True)) Qo Qo) rfl ?_)))
     rintro _ v8 ⟨t, u, x, y, E, rfl, d3, b5, i2, g1, p6⟩
     have s5 := d3.size
     have ⟨p7, p8, p9⟩ := b5.lkm
     refine sV (evIx k underlying39 sz25 rfl rfl (k * 2)) ?_
     have d4 := (((F.trans G).rx A).tr a).xr d3
     have i3 := (U.frm d4 q1)
     refine sO (oStore [(.bool t), (.slice u x y)] rfl rfl rfl sz25 rfl i3 (by rw [cellsI_len]; simp only [List.length_cons, List.length_nil]; exact lq) (fun m6 d5 s6 M => ?_))
     replace M := (cellsI_set (l := L ++ List.replicate (max nf ng - k) RI.zero) (i := k) ⟨t, u, x, y, E⟩ (by exact lq)) ▸ M
     replace M : Blk m6 N 25 (cellsI ((L ++ [⟨t, u, x, y, E⟩]) ++ List.replicate (max nf ng - (k + 1)) RI.zero)) := (fillI_set hL Qo : (L ++ List.replicate (max nf ng - k) RI.zero).set k ⟨t, u, x, y, E⟩ = (L ++ [⟨t, u, x, y, E⟩]) ++ List.replicate (max nf ng - (k + 1)) RI.zero) ▸ M
     refine sDone (bN (xN (a1 _ _ (wp_region_lit (sV (evAdd (((k : Int)) + 1) rfl rfl wI) (sMi rfl (sDone ?_)))))))
     have d6 := d4.tr d5
     have m7 := (hA.frmB d6 q3)
     have m8 := (b5.frmB d5 q3)
     refine again (max nf ng - (k + 1)) Qo ⟨(k + 1), (L ++ [⟨t, u, x, y, E⟩]), rfl, rfl, rfl, rfl, rfl, rfl, rfl, cI, (Frm.mono (z.tr d6) q4), ?_, ?_, ?_, ?_, ?_, ?_⟩
     ·exact M
     ·omega
     ·simp [hL]
     ·exact AllN.snoc m7 (NatR.sub m8 q5) (by (try dsimp only); omega)
     ·exact zs_snoc hz (by show zval _ _ = _; rw [i2]; exact cadd b3 g0)
     ·exact AllC.snoc hC g1
  ·refine sV (evLss false rfl rfl (dF d9)) (sK d8 (wp_seq_k fun v9 s7 => cF rfl (wp_exit (xE (xE (bE (xN (j3 _ _ (rS fun w0 i4 => sMs rfl (sAs rfl (sK i4 (wp_ret (ret1 (.slice (some ⟨N, 0, none⟩) (max nf ng) (max nf ng)) results107 (resT rfl) ?_)))))))))))))
   have m9 : PolyR i7 (fun b => N ≤ b) (some ⟨N, 0, none⟩) (max nf ng) (max nf ng) (L ++ List.replicate (max nf ng - k) RI.zero) (Mf + Mg + 1) := PolyR.of_blk U (AllN.app (AllN.sub hA q5) (AllN.zeros _)) (by (try dsimp only); omega) (by exact lq) (by omega) (by unfold CapMax; omega)
   have i5 := (d7.trans a0).rx z
   exact ⟨(some ⟨N, 0, none⟩), (max nf ng), (max nf ng), (L ++ List.replicate (max nf ng - k) RI.zero), rfl, (Frm.mono i5 q4), (PolyR.le (PolyR.sub m9 q5) (by omega)), (by rw [show max nf ng - k = 0 by omega, List.replicate_zero, List.append_nil, hz]; unfold padd; congr 2; simp; omega), rfl, (AllC.app hC (AllC.zeros _))⟩
theorem unipoly_combine_Sub {w : World} {Sf : Nat → Prop} {Af : Option Addr} {nf cf Mf : Nat} {lf : List RI} {Sg : Nat → Prop} {Ag : Option Addr} {ng cg Mg : Nat} {lg : List RI}   (hf : PolyR w Sf Af nf cf lf Mf) (hg : PolyR w Sg Ag ng cg lg Mg) (hnf : nf ≤ 1048576) (hng : ng ≤ 1048576) (hMf : Mf ≤ 1073741824) (hMg : Mg ≤ 1073741824) : Calls Tryz.prog 107 #[(.slice Af nf cf), (.slice Ag ng cg), (.agg #[(.bool false), (.slice none 0 0)]), (.func (.func 106) #[] #[])] w (Ret fun v w' => ∃ (Ar : Option Addr) (nr : Nat) (cr : Nat) (lr : List RI), v = (.slice Ar nr cr) ∧ Ext w w' ∧ PolyR w' (fun b => w.heap.size ≤ b) Ar nr cr lr (Mf + Mg + 1) ∧ (zs lr = psub (zs lf) (zs lg)) ∧ (nr = max nf ng) ∧ (AllC lr)) := by
 have ⟨kf, jf, mf⟩ := hf.lkm
 replace hf := hf.low
 have ⟨kg, jg, mg⟩ := hg.lkm
 replace hg := hg.low
 refine enter func107 rfl ntmps107 rfl (rS fun K1 n0 => sO (oBox [(.bool false), (.slice none 0 0)] rfl rfl (fun g2 w3 w1 d7 w2 n1 => sAs rfl (sK n0 (rS fun K8 n2 => sMs rfl (sV (evLen underlying39 rfl) (sMs rfl (sV (evLen underlying39 rfl) (sV (evMax (((max nf ng : Nat) : Int)) rfl rfl (maxN)) (sO (oMake2 (max nf ng) underlying39 inf25 cI cI Qo Qo (fun N i6 s9 a0 t0 j1 => ?_))))))))))))
 have j2 : Blk i6 N 25 (cellsI (List.replicate (max nf ng) RI.zero)) := j1
 refine sAs rfl (sK n2 (wp_seq_k fun w4 j3 => rS fun w5 j4 => sMs rfl (sV (evLen underlying39 rfl) (sMi rfl (sK j4 (wp_block ?_))))))
 refine lLoop (fun m e w_ => ∃ (k : Nat) (L : List RI), m = max nf ng - k ∧ e 0 = (.slice Af nf cf) ∧ e 1 = (.slice Ag ng cg) ∧ e 3 = (.func (.func 106) #[] #[]) ∧ e 6 = (.pointer (some ⟨g2, 0, none⟩)) ∧ e 9 = (.slice (some ⟨N, 0, none⟩) (max nf ng) (max nf ng)) ∧ e 20 = (.int .i64 (((max nf ng : Nat) : Int))) ∧ e 21 = (.int .i64 k) ∧ Frm (fun b => b = N) i6 w_ ∧ Blk w_ N 25 (cellsI (L ++ List.replicate (max nf ng - k) RI.zero)) ∧ (k ≤ max nf ng) ∧ (L.length = k) ∧ (AllN w_ (fun b => N < b) (Mf + Mg + 1) L) ∧ (zs L = (List.range k).map (fun i => co (zs lf) i - co (zs lg) i)) ∧ (AllC L)) (max nf ng - (0)) ?_ ?_
 ·refine ⟨(0), ([]), rfl, rfl, rfl, rfl, rfl, rfl, rfl, cI, (Frm.refl _ _), ?_, ?_, ?_, ?_, ?_, ?_⟩
  ·simpa using j2
  ·omega
  ·rfl
  ·exact AllN.nil
  ·rfl
  ·exact AllC.nil
 ·rintro w6 w7 i7 ⟨k, L, t1, j5, j6, j7, j8, j9, k0, k1, z, U, hk, hL, hA, hz, hC⟩
  obtain ⟨w8, rfl⟩ := sq7 j5 j6 j7 j8 j9 k0 k1
  have t2 := z.size
  refine rS fun w9 d8 => ?_
  by_cases d9 : ((k : Int)) < (((max nf ng : Nat) : Int))
  ·refine sV (evLss true rfl rfl (dT d9)) (sK d8 (wp_seq_k fun x0 k2 => cT rfl (wp_skip (xN (k2 _ _ (wp_seq_k fun x1 a1 => wp_block (rS fun x2 k3 => sMi rfl (sAi rfl (sK k3 (wp_seq_k fun x3 k4 => dBegin (fun b => i7.heap.size ≤ b) mixed (fun x4 F t3 => ?_)))))))))))
   have k5 := (a0.rx z).xr F
   have e0 := (n1.frm k5 q1)
   refine dV 0 rfl (fun _ hf => evLoadAB [(.bool false), (.slice none 0 0)] agg25 sz25 rfl (e0.frm hf q1) rfl) (dV 1 rfl (fun _ hf => evLoadAB [(.bool false), (.slice none 0 0)] agg25 sz25 rfl (e0.frm hf q1) rfl) (wAl2 (fun k => bif Nat.beq k 2 then (11, 25, [(.bool false), (.slice none 0 0)]) else (12, 25, [(.bool false), (.slice none 0 0)])) 2 3 (alOp rfl rfl zero25 rfl) (alOp rfl rfl zero25 rfl) rfl fun n3 => wEnd2 n3 #[true, true, true, true, false, false] (by kernel_rfl) fun i8 e1 x5 G t4 t5 q0 e2 e3 t6 t7 => ?_))
   have t8 := G.size
   have t9 := e2.lt
   have u0 := e3.lt
   refine dOp 4 rfl rfl (by kernel_rfl) (oStore [(.bool false), (.slice none 0 0)] rfl rfl rfl sz25 rfl e2 Qn (fun n4 A u1 V => ?_))
   replace V : Blk n4 i8 25 [(.bool false), (.slice none 0 0)] := V
   refine ⟨(A.mono q4), ?_⟩
   have k6 := (e3.frm A q1)
   refine dOp 5 rfl rfl (by kernel_rfl) (oStore [(.bool false), (.slice none 0 0)] rfl rfl rfl sz25 rfl k6 Qn (fun n5 a u2 O => ?_))
   replace O : Blk n5 e1 25 [(.bool false), (.slice none 0 0)] := O
   refine ⟨(a.mono q4), dDone (by kernel_rfl) (xN (k4 _ _ (wp_seq_k fun x6 e4 => rS fun x7 e5 => sMi rfl (sMs rfl (sV (evLen underlying39 rfl) ?_)))))⟩
   by_cases e6 : ((k : Int)) < ((nf : Int))
   ·refine sV (evLss true rfl rfl (dT e6)) (sK e5 (cT rfl (wp_region_lit (sMs rfl (sMi rfl ?_)))))
    have e7 := (((((d7.trans a0).rx z).xr F).xr G).tr A).tr a
    have i9 := (hf.frmB e7 q3)
    obtain ⟨x8, n6, rfl⟩ := i9.base Qo
    refine sV (evIx k underlying39 sz25 rfl rfl (n6 + (k * 2))) ?_
    obtain ⟨W, X, Y, Z, u3, q2, g3, g4, b6, q6, q7, q8, e8⟩ := i9.at_ (i := k) Qo
    have ⟨u4, u5, u6⟩ := b6.lkm
    refine sV (evLoadA [(.bool W), (.slice X Y Z)] agg25 sz25 rfl (cell2 g3 g4)) ?_
    have k7 := (V.frm a q1)
    refine sO (oStore [(.bool W), (.slice X Y Z)] rfl rfl rfl sz25 rfl k7 Qn (fun n7 H u7 a2 => ?_))
    replace a2 : Blk n7 i8 25 [(.bool W), (.slice X Y Z)] := a2
    refine sK e4 (wp_seq_k fun x9 e9 => rS fun y0 f0 => sMi rfl (sMs rfl (sV (evLen underlying39 rfl) ?_)))
    by_cases f1 : ((k : Int)) < ((ng : Int))
    ·refine sV (evLss true rfl rfl (dT f1)) (sK f0 (cT rfl (wp_region_lit (sMs rfl (sMi rfl ?_)))))
     have k8 := e7.tr H
     have j0 := (hg.frmB k8 q3)
     obtain ⟨y1, n8, rfl⟩ := j0.base Qo
     refine sV (evIx k underlying39 sz25 rfl rfl (n8 + (k * 2))) ?_
     obtain ⟨a3, a4, a5, a6, u8, q9, g5, g6, f2, r0, r1, r2, k9⟩ := j0.at_ (i := k) Qo
     have ⟨u9, v0, v1⟩ := f2.lkm
     refine sV (evLoadA [(.bool a3), (.slice a4 a5 a6)] agg25 sz25 rfl (cell2 g5 g6)) ?_
     have l0 := (O.frm H q1)
     refine sO (oStore [(.bool a3), (.slice a4 a5 a6)] rfl rfl rfl sz25 rfl l0 Qn (fun n9 a7 r3 a8 => ?_))
     replace a8 : Blk n9 e1 25 [(.bool a3), (.slice a4 a5 a6)] := a8
     refine sK e9 (wp_region_lit (sMs rfl (sMi rfl (sV (v := (.func (.func 106) #[] #[])) (rfl) ?_))))
     have g7 := (a2.frm a7 q1)
     refine sV (evLoadAB [(.bool W), (.slice X Y Z)] agg25 sz25 rfl g7 rfl) (sV (evLoadAB [(.bool a3), (.slice a4 a5 a6)] agg25 sz25 rfl a8 rfl) ?_)
     have g8 := H.tr a7
     have l1 := (b6.frmB g8 q3)
     have l2 := (f2.frmB a7 q3)
     refine sO (oCall rfl call106 (integer_Sub l1 l2 Qo Qo) rfl ?_)
     rintro _ v2 ⟨c, d, f, g, B, rfl, b7, b1, h0, f3, o0⟩
     have r4 := b7.size
     have ⟨o1, o2, o3⟩ := b1.lkm
     refine sV (evIx k underlying39 sz25 rfl rfl (k * 2)) ?_
     have b8 := (((((F.trans G).rx A).tr a).tr H).tr a7).xr b7
     have h1 := (U.frm b8 q1)
     refine sO (oStore [(.bool c), (.slice d f g)] rfl rfl rfl sz25 rfl h1 (by rw [cellsI_len]; simp only [List.length_cons, List.length_nil]; exact lq) (fun l3 b9 r5 I => ?_))
     replace I := (cellsI_set (l := L ++ List.replicate (max nf ng - k) RI.zero) (i := k) ⟨c, d, f, g, B⟩ (by exact lq)) ▸ I
     replace I : Blk l3 N 25 (cellsI ((L ++ [⟨c, d, f, g, B⟩]) ++ List.replicate (max nf ng - (k + 1)) RI.zero)) := (fillI_set hL Qo : (L ++ List.replicate (max nf ng - k) RI.zero).set k ⟨c, d, f, g, B⟩ = (L ++ [⟨c, d, f, g, B⟩]) ++ List.replicate (max nf ng - (k + 1)) RI.zero) ▸ I
     refine sDone (bN (xN (a1 _ _ (wp_region_lit (sV (evAdd (((k : Int)) + 1) rfl rfl wI) (sMi rfl (sDone ?_)))))))
     have c0 := b8.tr b9
     have l4 := (hA.frmB c0 q3)
     have l5 := (b1.frmB b9 q3)
     refine again (max nf ng - (k + 1)) Qo ⟨(k + 1), (L ++ [⟨c, d, f, g, B⟩]), rfl, rfl, rfl, rfl, rfl, rfl, rfl, cI, (Frm.mono (z.tr c0) q4), ?_, ?_, ?_, ?_, ?_, ?_⟩
     ·exact I
     ·omega
     ·simp [hL]
     ·exact AllN.snoc l4 (NatR.sub l5 q5) (by (try dsimp only); omega)
     ·exact zs_snoc hz (by show zval _ _ = _; rw [h0]; exact csub e8 k9)
     ·exact AllC.snoc hC f3
    ·refine sV (evLss false rfl rfl (dF f1)) ?_
     have f4 : zval false [] = co (zs lg) k := by rw [zval_nil, co_ge (by simp; omega)]
     refine sK f0 (cF rfl (wp_skip (xN (e9 _ _ (wp_region_lit (sMs rfl (sMi rfl (sV (v := (.func (.func 106) #[] #[])) (rfl) (sV (evLoadAB [(.bool W), (.slice X Y Z)] agg25 sz25 rfl a2 rfl) ?_)))))))))
     have h2 := (O.frm H q1)
     refine sV (evLoadAB [(.bool false), (.slice none 0 0)] agg25 sz25 rfl h2 rfl) ?_
     have l6 := (b6.frmB H q3)
     refine sO (oCall rfl call106 (integer_Sub l6 (NatR.nil (S := fun _ => True)) Qo Qo) rfl ?_)
     rintro _ v3 ⟨h, j, n, o, C, rfl, c1, b2, h3, f5, o4⟩
     have r6 := c1.size
     have ⟨o5, o6, o7⟩ := b2.lkm
     refine sV (evIx k underlying39 sz25 rfl rfl (k * 2)) ?_
     have c2 := ((((F.trans G).rx A).tr a).tr H).xr c1
     have h4 := (U.frm c2 q1)
     refine sO (oStore [(.bool h), (.slice j n o)] rfl rfl rfl sz25 rfl h4 (by rw [cellsI_len]; simp only [List.length_cons, List.length_nil]; exact lq) (fun l7 c3 r7 J => ?_))
     replace J := (cellsI_set (l := L ++ List.replicate (max nf ng - k) RI.zero) (i := k) ⟨h, j, n, o, C⟩ (by exact lq)) ▸ J
     replace J : Blk l7 N 25 (cellsI ((L ++ [⟨h, j, n, o, C⟩]) ++ List.replicate (max nf ng - (k + 1)) RI.zero)) := (fillI_set hL Qo : (L ++ List.replicate (max nf ng - k) RI.zero).set k ⟨h, j, n, o, C⟩ = (L ++ [⟨h, j, n, o, C⟩]) ++ List.replicate (max nf ng - (k + 1)) RI.zero) ▸ J
     refine sDone (bN (xN (a1 _ _ (wp_region_lit (sV (evAdd (((k : Int)) + 1) rfl rfl wI) (sMi rfl (sDone ?_)))))))
     have c4 := c2.tr c3
     have l8 := (hA.frmB c4 q3)
     have l9 := (b2.frmB c3 q3)
     refine again (max nf ng - (k + 1)) Qo ⟨(k + 1), (L ++ [⟨h, j, n, o, C⟩]), rfl, rfl, rfl, rfl, rfl, rfl, rfl, cI, (Frm.mono (z.tr c4) q4), ?_, ?_, ?_, ?_, ?_, ?_⟩
     ·exact J
     ·omega
     ·simp [hL]
     ·exact AllN.snoc l8 (NatR.sub l9 q5) (by (try dsimp only); omega)
     ·exact zs_snoc hz (by show zval _ _ = _; rw [h3]; exact csub e8 f4)
     ·exact AllC.snoc hC f5
   ·refine sV (evLss false rfl rfl (dF e6)) ?_
    have b3 : zval false [] = co (zs lf) k := by rw [zval_nil, co_ge (by simp; omega)]
    refine sK e5 (cF rfl (wp_skip (xN (e4 _ _ (wp_seq_k fun v4 c5 => rS fun v5 c6 => sMi rfl (sMs rfl (sV (evLen underlying39 rfl) ?_)))))))
    by_cases c7 : ((k : Int)) < ((ng : Int))
    ·refine sV (evLss true rfl rfl (dT c7)) (sK c6 (cT rfl (wp_region_lit (sMs rfl (sMi rfl ?_)))))
     have h5 := (((((d7.trans a0).rx z).xr F).xr G).tr A).tr a
     have f6 := (hg.frmB h5 q3)
     obtain ⟨v6, m0, rfl⟩ := f6.base Qo
     refine sV (evIx k underlying39 sz25 rfl rfl (m0 + (k * 2))) ?_
     obtain ⟨P, Q, R, T, r8, o8, f7, f8, c8, o9, p0, p1, h6⟩ := f6.at_ (i := k) Qo
     have ⟨r9, s0, s1⟩ := c8.lkm
     refine sV (evLoadA [(.bool P), (.slice Q R T)] agg25 sz25 rfl (cell2 f7 f8)) (sO (oStore [(.bool P), (.slice Q R T)] rfl rfl rfl sz25 rfl O Qn (fun m1 a9 s2 b0 => ?_)))
     replace b0 : Blk m1 e1 25 [(.bool P), (.slice Q R T)] := b0
     refine sK c5 (wp_region_lit (sMs rfl (sMi rfl (sV (v := (.func (.func 106) #[] #[])) (rfl) ?_))))
     have h7 := a.trans a9
     have h8 := (V.frm h7 q1)
     refine sV (evLoadAB [(.bool false), (.slice none 0 0)] agg25 sz25 rfl h8 rfl) (sV (evLoadAB [(.bool P), (.slice Q R T)] agg25 sz25 rfl b0 rfl) ?_)
     have m2 := (c8.frmB a9 q3)
     refine sO (oCall rfl call106 (integer_Sub (NatR.nil (S := fun _ => True)) m2 Qo Qo) rfl ?_)
     rintro _ v7 ⟨p, q, r, s, D, rfl, c9, b4, h9, f9, p2⟩
     have s3 := c9.size
     have ⟨p3, p4, p5⟩ := b4.lkm
     refine sV (evIx k underlying39 sz25 rfl rfl (k * 2)) ?_
     have d0 := ((((F.trans G).rx A).tr a).tr a9).xr c9
     have i0 := (U.frm d0 q1)
     refine sO (oStore [(.bool p), (.slice q r s)] rfl rfl rfl sz25 rfl i0 (by rw [cellsI_len]; simp only [List.length_cons, List.length_nil]; exact lq) (fun m3 d1 s4 K => ?_))
     replace K := (cellsI_set (l := L ++ List.replicate (max nf ng - k) RI.zero) (i := k) ⟨p, q, r, s, D⟩ (by exact lq)) ▸ K
     replace K : Blk m3 N 25 (cellsI ((L ++ [⟨p, q, r, s, D⟩]) ++ List.replicate (max nf ng - (k + 1)) RI.zero)) := (fillI_set hL Qo : (L ++ List.replicate (max nf ng - k) RI.zero).set k ⟨p, q, r, s, D⟩ = (L ++ [⟨p, q, r, s, D⟩]) ++ List.replicate (max nf ng - (k + 1)) RI.zero) ▸ K
     refine sDone (bN (xN (a1 _ _ (wp_region_lit (sV (evAdd (((k : Int)) + 1) rfl rfl wI) (sMi rfl (sDone ?_)))))))
     have d2 := d0.tr d1
     have m4 := (hA.frmB d2 q3)
     have m5 := (b4.frmB d1 q3)
     refine again (max nf ng - (k + 1)) Qo ⟨(k + 1), (L ++ [⟨p, q, r, s, D⟩]), rfl, rfl, rfl, rfl, rfl, rfl, rfl, cI, (Frm.mono (z.tr d2) q4), ?_, ?_, ?_, ?_, ?_, ?_⟩
     ·exact K
     ·omega
     ·simp [hL]
     ·exact AllN.snoc m4 (NatR.sub m5 q5) (by (try dsimp only); omega)
     ·exact zs_snoc hz (by show zval _ _ = _; rw [h9]; exact csub b3 h6)
     ·exact AllC.snoc hC f9
    ·refine sV (evLss false rfl rfl (dF c7)) ?_
     have g0 : zval false [] = co (zs lg) k := by rw [zval_nil, co_ge (by simp; omega)]
     refine sK c6 (cF rfl (wp_skip (xN (c5 _ _ (wp_region_lit (sMs rfl (sMi rfl (sV (v := (.func (.func 106) #[] #[])) (rfl) ?_))))))))
     have i1 := (V.frm a q1)
     refine sV (evLoadAB [(.bool false), (.slice none 0 0)] agg25 sz25 rfl i1 rfl) (sV (evLoadAB [(.bool false), (.slice none 0 0)] agg25 sz25 rfl O rfl) (sO (oCall rfl call106 (integer_Sub (NatR.nil (S := fun _ => True)) (NatR.nil (S := fun _ => True)) Qo Qo) rfl ?_)))
     rintro _ v8 ⟨t, u, x, y, E, rfl, d3, b5, i2, g1, p6⟩
     have s5 := d3.size
     have ⟨p7, p8, p9⟩ := b5.lkm
     refine sV (evIx k underlying39 sz25 rfl rfl (k * 2)) ?_
     have d4 := (((F.trans G).rx A).tr a).xr d3
     have i3 := (U.frm d4 q1)
     refine sO (oStore [(.bool t), (.slice u x y)] rfl rfl rfl sz25 rfl i3 (by rw [cellsI_len]; simp only [List.length_cons, List.length_nil]; exact lq) (fun m6 d5 s6 M => ?_))
     replace M := (cellsI_set (l := L ++ List.replicate (max nf ng - k) RI.zero) (i := k) ⟨t, u, x, y, E⟩ (by exact lq)) ▸ M
     replace M : Blk m6 N 25 (cellsI ((L ++ [⟨t, u, x, y, E⟩]) ++ List.replicate (max nf ng - (k + 1)) RI.zero)) := (fillI_set hL Qo : (L ++ List.replicate (max nf ng - k) RI.zero).set k ⟨t, u, x, y, E⟩ = (L ++ [⟨t, u, x, y, E⟩]) ++ List.replicate (max nf ng - (k + 1)) RI.zero) ▸ M
     refine sDone (bN (xN (a1 _ _ (wp_region_lit (sV (evAdd (((k : Int)) + 1) rfl rfl wI) (sMi rfl (sDone ?_)))))))
     have d6 := d4.tr d5
     have m7 := (hA.frmB d6 q3)
     have m8 := (b5.frmB d5 q3)
     refine again (max nf ng - (k + 1)) Qo ⟨(k + 1), (L ++ [⟨t, u, x, y, E⟩]), rfl, rfl, rfl, rfl, rfl, rfl, rfl, cI, (Frm.mono (z.tr d6) q4), ?_, ?_, ?_, ?_, ?_, ?_⟩
     ·exact M
     ·omega
     ·simp [hL]
     ·exact AllN.snoc m7 (NatR.sub m8 q5) (by (try dsimp only); omega)
     ·exact zs_snoc hz (by show zval _ _ = _; rw [i2]; exact csub b3 g0)
     ·exact AllC.snoc hC g1
  ·refine sV (evLss false rfl rfl (dF d9)) (sK d8 (wp_seq_k fun v9 s7 => cF rfl (wp_exit (xE (xE (bE (xN (j3 _ _ (rS fun w0 i4 => sMs rfl (sAs rfl (sK i4 (wp_ret (ret1 (.slice (some ⟨N, 0, none⟩) (max nf ng) (max nf ng)) results107 (resT rfl) ?_)))))))))))))
   have m9 : PolyR i7 (fun b => N ≤ b) (some ⟨N, 0, none⟩) (max nf ng) (max nf ng) (L ++ List.replicate (max nf ng - k) RI.zero) (Mf + Mg + 1) := PolyR.of_blk U (AllN.app (AllN.sub hA q5) (AllN.zeros _)) (by (try dsimp only); omega) (by exact lq) (by omega) (by unfold CapMax; omega)
   have i5 := (d7.trans a0).rx z
   exact ⟨(some ⟨N, 0, none⟩), (max nf ng), (max nf ng), (L ++ List.replicate (max nf ng - k) RI.zero), rfl, (Frm.mono i5 q4), (PolyR.le (PolyR.sub m9 q5) (by omega)), (by rw [show max nf ng - k = 0 by omega, List.replicate_zero, List.append_nil, hz]; unfold psub; congr 2; simp; omega), rfl, (AllC.app hC (AllC.zeros _))⟩
end Go.Proofs.YtneolcopompkaaaGreatDoor
