/-
  Walk of package hensel: cofactors.
-/
import Derived.Test.YtneolcopompkaaaGreatDoorMod4
import Derived.Test.YtneolcopompkaaaGreatDoorLibB
namespace Go.Proofs.YtneolcopompkaaaGreatDoor
open Go.RowKit Go.Gx Tryz
set_option maxHeartbeats 2000000 in
theorem hensel_Cofactors {w : World} {Sl : Nat → Prop} {Al : Option Addr} {nl cl : Nat} {fl : List NE} {xp : Nat} (hl : GListR LN w Sl Al nl cl fl) (bp : xp < 4294967296) (hT : TabR w) (hp : xp = 2 ∨ xp = 3 ∨ xp = 5 ∨ xp = 7 ∨ xp = 11 ∨ xp = 13) (hnl : nl ≤ 8) (hle : ∀ f ∈ fl, f.n ≤ 63) (hdeg : ∀ f ∈ fl, 2 ≤ (nrmP xp f.d).length) : Calls Tryz.prog 56 #[(.slice Al nl cl), (.int .u32 xp)] w (Ret fun v w' => ∃ (Ar : Option Addr) (nr : Nat) (cr : Nat) (fr : List NE) (xo : Int), v = (.tuple #[(.slice Ar nr cr), (.int .i64 (xo))]) ∧ Ext w w' ∧ GListR LN w' (fun b => w.heap.size ≤ b) Ar nr cr fr ∧ ((CoA xp (dsN fl) ∧ xo = 0 ∧ dsN fr = cofsG xp (dsN fl) ∧ nr = nl) ∨ (¬ CoA xp (dsN fl) ∧ xo = 5 ∧ nr = 0)) ∧ (∀ f ∈ fr, f.n ≤ 64)) := by
 have ltT := hT.lt0;have ⟨kl, jl, ml⟩ := hl.lkm; replace hl := hl.low;refine enter func56 rfl ntmps56 rfl (rS fun K1 t3 => sAs rfl (sAi rfl (sK t3 (wp_seq_k fun K2 t4 => rS fun K3 t5 => sMi rfl (sO (oCall rfl call54 (modular_IsPrime (xn := xp) Qo hT (by assumption)) rfl ?_))))));rintro _ w5 ⟨o6, rfl, b0, t6⟩;have G0 := b0.size;obtain rfl : o6 = true := t6;refine sV (evNot _ rfl rfl) (sK t5 (cF rfl (wp_skip (xN (t4 _ _ (wp_seq_k fun K8 t7 => rS fun K9 t8 => sMs rfl (sV (evLen underlying42 rfl) (sMi rfl (sK t8 (wp_block ?_))))))))));refine lLoop (fun m e w_ => ∃ (i : Nat), m = nl - i ∧ e 0 = (.slice Al nl cl) ∧ e 1 = (.int .u32 xp) ∧ e 23 = (.slice Al nl cl) ∧ e 24 = (.int .i64 nl) ∧ e 25 = (.int .i64 i) ∧ Frm (fun b => False) w5 w_ ∧ (i ≤ nl)) (nl - (0)) ?_ ?_
 ·refine ⟨(0), rfl, rfl, rfl, rfl, rfl, cI, (Frm.refl _ _), ?_⟩
  ·omega
 ·rintro G1 G2 t9 ⟨i, B0, o7, o8, o9, p0, p1, y, hi⟩
  obtain ⟨G3, rfl⟩ := sq5 o7 o8 o9 p0 p1;have B1 := y.size;refine rS fun G4 g5 => ?_
  by_cases g6 : ((i : Int)) < ((nl : Int))
  ·refine sV (evLss true rfl rfl (dT g6)) (sK g5 (wp_seq_k fun G5 p2 => cT rfl (wp_skip (xN (p2 _ _ (wp_seq_k fun G6 p3 => wp_block (rS fun G7 p4 => ?_)))))))
   have p5 := b0.trans y;have o3 := (hl.ext p5);obtain ⟨G8, u0, rfl⟩ := o3.base Qo;refine sV (evIx i underlying42 sz46 rfl rfl (u0 + i)) ?_;obtain ⟨⟨g7, g8, g9, p6⟩, d7, V, A, y2, y3⟩ := o3.at_ (i := i) Qo;replace V : World.cell? _ _ = some (.slice g7 g8 g9) := V; replace A : NatR _ _ g7 g8 g9 p6 := A; have ⟨q1_35, q2_35, q3_35⟩ := A.lkm;have hn64_35 := hle _ (List.mem_of_getElem? d7); have h0 := hdeg _ (List.mem_of_getElem? d7); dsimp only at hn64_35 h0;refine sV (evLoad one46 rfl V) (sAs rfl (sK p4 (rS fun G9 p7 => sMs rfl (sMi rfl (sO (oCall rfl call63 (modpoly_Degree A (xm := xp) Qo Qo) rfl ?_))))));rintro _ H0 ⟨y4, rfl, h3, B2, B3⟩;have B4 := h3.size;refine sV (evLss false rfl rfl (dF Qo)) (sK p7 (cF rfl (wp_skip (bN (xN (p3 _ _ (wp_region_lit (sV (evAdd (((i : Int)) + 1) rfl rfl wI) (sMi rfl (sDone (again (nl - (i + 1)) Qo ⟨(i + 1), rfl, rfl, rfl, rfl, rfl, cI, (y.trans h3), ?_⟩)))))))))))
   ·omega
  ·refine sV (evLss false rfl rfl (dF g6)) (sK g5 (wp_seq_k fun H1 B5 => cF rfl (wp_exit (xE (xE (bE (xN (t7 _ _ (wp_seq_k fun H2 p8 => rS fun H3 p9 => sMs rfl (sV (evLen underlying42 rfl) (sMi rfl (sK p9 (wp_block ?_)))))))))))))
   refine lLoop (fun m e w_ => ∃ (i : Nat), m = nl - i ∧ e 0 = (.slice Al nl cl) ∧ e 1 = (.int .u32 xp) ∧ e 34 = (.slice Al nl cl) ∧ e 35 = (.int .i64 nl) ∧ e 36 = (.int .i64 i) ∧ Frm (fun b => False) t9 w_ ∧ (i ≤ nl) ∧ (∀ (a b : Nat) (f g : NE), b < a → a < i → fl[a]? = some f → fl[b]? = some g → GC xp f.d g.d)) (nl - (0)) ?_ ?_
   ·refine ⟨(0), rfl, rfl, rfl, rfl, rfl, cI, (Frm.refl _ _), ?_, ?_⟩
    ·omega
    ·intro a b f g h1 h2; omega
   ·rintro H4 H5 u1 ⟨i, B7, q0, q1, q2, q6, q7, H, hi, o4⟩
    obtain ⟨H6, rfl⟩ := sq5 q0 q1 q2 q6 q7;have B8 := H.size;refine rS fun H7 h4 => ?_
    by_cases h5 : ((i : Int)) < ((nl : Int))
    ·refine sV (evLss true rfl rfl (dT h5)) (sK h4 (wp_seq_k fun H8 q8 => cT rfl (wp_skip (xN (q8 _ _ (wp_seq_k fun H9 q9 => wp_block (rS fun I0 r0 => sMi rfl ?_)))))))
     have h6 := (b0.trans y).trans H;have h7 := (hl.ext h6);obtain ⟨h8, b1, rfl⟩ := h7.base Qo;refine sV (evIx i underlying42 sz46 rfl rfl (b1 + i)) ?_;obtain ⟨⟨d1, d2, d3, W⟩, B, X, C, y5, y6⟩ := h7.at_ (i := i) Qo;replace X : World.cell? _ _ = some (.slice d1 d2 d3) := X; replace C : NatR _ _ d1 d2 d3 W := C; have ⟨q1_70, q2_70, q3_70⟩ := C.lkm;have hn64_70 := hle _ (List.mem_of_getElem? B); have i0 := hdeg _ (List.mem_of_getElem? B); dsimp only at hn64_70 i0;refine sV (evLoad one46 rfl X) (sAi rfl (sAs rfl (sK r0 (rS fun I1 r1 => sMs rfl (sMi rfl ?_)))));have u2 := h7.take (m := i) Qo;refine sV (evSliceHi i underlying42 sz46 rfl rfl Qo Qo) (sV (evLen underlying42 rfl) (sMi rfl (sK r1 (wp_block ?_))));refine lLoop (fun m e w_ => ∃ (j : Nat), m = i - j ∧ e 0 = (.slice (some ⟨h8, b1, none⟩) nl cl) ∧ e 1 = (.int .u32 xp) ∧ e 9 = (.slice d1 d2 d3) ∧ e 34 = (.slice (some ⟨h8, b1, none⟩) nl cl) ∧ e 35 = (.int .i64 nl) ∧ e 36 = (.int .i64 i) ∧ e 43 = (.slice (some ⟨h8, b1, none⟩) i cl) ∧ e 44 = (.int .i64 i) ∧ e 45 = (.int .i64 j) ∧ Frm (fun b => False) u1 w_ ∧ (j ≤ i) ∧ (∀ (b : Nat) (g : NE), b < j → fl[b]? = some g → GC xp W g.d)) (i - (0)) ?_ ?_
     ·refine ⟨(0), rfl, rfl, rfl, rfl, rfl, rfl, rfl, rfl, rfl, cI, (Frm.refl _ _), ?_, ?_⟩
      ·omega
      ·intro b g h1; omega
     ·rintro I2 I3 I4 ⟨j, B9, r2, r3, r4, r5, r6, r7, r8, r9, s0, z, hj, o5⟩
      obtain ⟨I5, rfl⟩ := sq9 r2 r3 r4 r5 r6 r7 r8 r9 s0;have C0 := z.size;refine rS fun I6 i1 => ?_
      by_cases d8 : ((j : Int)) < ((i : Int))
      ·refine sV (evLss true rfl rfl (dT d8)) (sK i1 (wp_seq_k fun C1 j3 => cT rfl (wp_skip (xN (j3 _ _ (wp_seq_k fun C2 j4 => wp_block (rS fun C3 j5 => sV (evIx j underlying42 sz46 rfl rfl (b1 + j)) ?_)))))))
       have s1 := (u2.ext z);obtain ⟨⟨Y, Z, a0, D⟩, h, I, u, u3, u4⟩ := s1.at_ (i := j) Qo;replace I : World.cell? _ _ = some (.slice Y Z a0) := I; replace u : NatR _ _ Y Z a0 D := u; have ⟨q1_105, q2_105, q3_105⟩ := u.lkm;replace h : fl[j]? = some ⟨Y, Z, a0, D⟩ := by rw [List.getElem?_take_of_lt (by omega)] at h; exact h
       have hn64_105 := hle _ (List.mem_of_getElem? h); have g3 := hdeg _ (List.mem_of_getElem? h); dsimp only at hn64_105 g3;refine sV (evLoad one46 rfl I) (sAs rfl (sK j5 (rS fun C4 j6 => sMs rfl (sMs rfl (sMi rfl ?_)))));have s2 := (C.ext z);have d9 := h6.trans z;have s3 := (hT.ext d9);refine sO (oCall rfl call62 (modpoly_Gcd s2 u (xp := xp) Qo s3 Qo Qo hp) rfl ?_);rintro _ C5 ⟨b2, b3, b4, u5, b5, rfl, a1, b6, y7, e0, i2, u6⟩;have y8 := a1.size;have ⟨u7, u8, u9⟩ := b6.lkm;refine sV (v := (.tuple #[(.slice b2 b3 b4), (.int .i64 (b5))])) (rfl) (sV (v := (.slice b2 b3 b4)) (rfl) (sV (v := (.int .i64 (b5))) (rfl) (sAs rfl (sAi rfl (sK j6 (rS fun C6 e1 => sMs rfl (sMi rfl (sO (oCall rfl call63 (modpoly_Degree b6 (xm := xp) Qo Qo) rfl ?_)))))))));rintro _ C7 ⟨i3, rfl, a2, j7, y9⟩;have z0 := a2.size;rw [CanP.nrm i2] at j7
       by_cases e2 : i3 > 0
       ·refine sV (evGtr true rfl rfl (dT e2)) ?_
        have hbad : ¬ GC xp W D := by unfold GC; rw [← e0]; omega
        refine sK e1 (cT rfl (rS fun C8 j8 => sAs rfl (sAi rfl (sK j8 (wp_ret (bR (xR (xR (bR (bR (xR (xR (bR (xR (ret2 (.slice none 0 0) (.int .i64 (5)) results56 (resT rfl) (resT rfl) ?_)))))))))))))));have j9 := (d9.trans a1).trans a2;exact ⟨none, 0, 0, [], (5), rfl, j9, GListR.nil, (.inr ⟨coa_not B h Qo hbad, rfl, rfl⟩), (fun f hf => by cases hf)⟩
       ·refine sV (evGtr false rfl rfl (dF e2)) ?_
        have hgood : GC xp W D := by unfold GC; rw [← e0]; omega
        refine sK e1 (cF rfl (wp_skip (bN (xN (j4 _ _ (wp_region_lit (sV (evAdd (((j : Int)) + 1) rfl rfl wI) (sMi rfl (sDone ?_)))))))));have k0 := a1.trans a2;refine again (i - (j + 1)) Qo ⟨(j + 1), rfl, rfl, rfl, rfl, rfl, rfl, rfl, rfl, rfl, cI, (z.trans k0), ?_, ?_⟩
        ·omega
        ·exact coa_in o5 h hgood
      ·refine sV (evLss false rfl rfl (dF d8)) (sK i1 (wp_seq_k fun C9 z1 => cF rfl (wp_exit (xE (xE (bE (bN (xN (q9 _ _ (wp_region_lit (sV (evAdd (((i : Int)) + 1) rfl rfl wI) (sMi rfl (sDone (again (nl - (i + 1)) Qo ⟨(i + 1), rfl, rfl, rfl, rfl, rfl, cI, (H.trans z), ?_, ?_⟩))))))))))))))
       ·omega
       ·exact coa_next o4 B o5 Qo
    ·refine sV (evLss false rfl rfl (dF h5)) (sK h4 (wp_seq_k fun D0 z2 => cF rfl (wp_exit (xE (xE (bE (xN (p8 _ _ (rS fun D1 k1 => sMs rfl (sV (evLen underlying42 rfl) (sO (oMake1 nl underlying42 inf46 rfl cI cI Qo Qo (fun p i4 z3 e3 z4 k2 => ?_)))))))))))))
     have k3 : Blk i4 p 46 (((List.replicate nl NE.zero)).map LN.v) := by rw [List.map_replicate]; exact k2
     refine sAs rfl (sK k1 (wp_seq_k fun D2 k4 => rS fun D3 k5 => sMs rfl (sV (evLen underlying42 rfl) (sMi rfl (sK k5 (wp_block ?_))))));have hCoA := coa_full o4 Qo;refine lLoop (fun m e w_ => ∃ (i : Nat) (L : List NE), m = nl - i ∧ e 0 = (.slice Al nl cl) ∧ e 1 = (.int .u32 xp) ∧ e 14 = (.slice (some ⟨p, 0, none⟩) nl nl) ∧ e 65 = (.slice Al nl cl) ∧ e 66 = (.int .i64 nl) ∧ e 67 = (.int .i64 i) ∧ Frm (fun b => b = p) i4 w_ ∧ Blk w_ p 46 ((L ++ List.replicate (nl - i) NE.zero).map LN.v) ∧ (i ≤ nl) ∧ (L.length = i) ∧ (AllM w_ (fun b => p < b) 64 L) ∧ (dsN L = (List.range i).map (cofG xp (dsN fl)))) (nl - (0)) ?_ ?_
     ·refine ⟨(0), ([]), rfl, rfl, rfl, rfl, rfl, rfl, cI, (Frm.refl _ _), ?_, ?_, ?_, ?_, ?_⟩
      ·simpa using k3
      ·omega
      ·rfl
      ·exact AllM.nil
      ·rfl
     ·rintro D4 D5 D6 ⟨i, L, z5, k6, k7, k8, k9, l0, l1, E, e4, hi, hL, hA, hz⟩
      obtain ⟨D7, rfl⟩ := sq6 k6 k7 k8 k9 l0 l1;have z6 := E.size;refine rS fun D8 e5 => ?_
      by_cases e6 : ((i : Int)) < ((nl : Int))
      ·refine sV (evLss true rfl rfl (dT e6)) (sK e5 (wp_seq_k fun D9 l2 => cT rfl (wp_skip (xN (l2 _ _ (wp_seq_k fun E0 l3 => wp_block (rS fun E1 l4 => sMi rfl ?_)))))))
       have a3 := (((b0.trans y).trans H).trans e3).rx E;have d4 := (hl.frmB a3 q3);obtain ⟨d5, J, rfl⟩ := d4.base Qo;refine sV (evIx i underlying42 sz46 rfl rfl (J + i)) ?_;obtain ⟨⟨a4, a5, a6, e7⟩, K, N, s, v0, v1⟩ := d4.at_ (i := i) Qo;replace N : World.cell? _ _ = some (.slice a4 a5 a6) := N; replace s : NatR _ _ a4 a5 a6 e7 := s; have ⟨q1_165, q2_165, q3_165⟩ := s.lkm;have hn64_165 := hle _ (List.mem_of_getElem? K); have U := hdeg _ (List.mem_of_getElem? K); dsimp only at hn64_165 U;refine sV (evLoad one46 rfl N) (sAi rfl (sAs rfl (sK l4 (rS fun E2 l5 => sO (oBuildSlice [(.int .u32 (1))] [[(.int .u32 (1))]] underlying46 inf26 rfl rfl rfl rfl rfl (fun a7 d6 z7 F z8 a8 => ?_))))));replace a8 : Blk d6 a7 26 [(.int .u32 (1))] := a8;refine sAs rfl (sK l5 (wp_seq_k fun E3 l6 => rS fun E4 l7 => sMs rfl (sV (evLen underlying42 rfl) (sMi rfl (sK l7 (wp_block ?_))))));have s4 : NatR d6 (fun b => b = a7) (some ⟨a7, 0, none⟩) 1 1 ([1]) := NatR.of_blk a8 rfl (by decide) (by exact lq) Qo (by unfold CapMax; omega);refine lLoop (fun m e w_ => ∃ (j : Nat) (Au : Option Addr) (nu : Nat) (cu : Nat) (du : List Nat), m = nl - j ∧ e 0 = (.slice (some ⟨d5, J, none⟩) nl cl) ∧ e 1 = (.int .u32 xp) ∧ e 14 = (.slice (some ⟨p, 0, none⟩) nl nl) ∧ e 15 = (.int .i64 i) ∧ e 16 = (.slice a4 a5 a6) ∧ e 17 = (.slice Au nu cu) ∧ e 65 = (.slice (some ⟨d5, J, none⟩) nl cl) ∧ e 66 = (.int .i64 nl) ∧ e 67 = (.int .i64 i) ∧ e 73 = (.slice (some ⟨d5, J, none⟩) nl cl) ∧ e 74 = (.int .i64 nl) ∧ e 75 = (.int .i64 j) ∧ Frm (fun b => False) d6 w_ ∧ (j ≤ nl) ∧ (NatR w_ (fun b => b < w_.heap.size) Au nu cu du) ∧ (nu ≤ 65) ∧ (du = othP xp e7 i (dsN fl) j)) (nl - (0)) ?_ ?_
       ·refine ⟨(0), ((some ⟨a7, 0, none⟩)), (1), (1), ([1]), rfl, rfl, rfl, rfl, rfl, rfl, rfl, rfl, rfl, rfl, rfl, rfl, cI, (Frm.refl _ _), ?_, ?_, ?_, ?_⟩
        ·omega
        ·exact NatR.low s4
        ·omega
        ·rfl
       ·rintro E5 E6 E7 ⟨j, Au, nu, cu, du, z9, l8, l9, m0, m1, m2, m3, m4, m5, m6, m7, m8, m9, q, hj, hu, hnu, hoth⟩
        obtain ⟨E8, rfl⟩ := sq12 l8 l9 m0 m1 m2 m3 m4 m5 m6 m7 m8 m9;have A0 := q.size;have ⟨lu, ku, mu⟩ := hu.lkm;refine rS fun E9 e8 => ?_
        by_cases e9 : ((j : Int)) < ((nl : Int))
        ·refine sV (evLss true rfl rfl (dT e9)) (sK e8 (wp_seq_k fun F0 n0 => cT rfl (wp_skip (xN (n0 _ _ (wp_seq_k fun F1 f0 => wp_block (rS fun F2 n1 => sMi rfl (sV (evIx j underlying42 sz46 rfl rfl (J + j)) ?_))))))))
         have f1 := F.trans q;have s5 := (d4.ext f1);obtain ⟨⟨f2, f3, f4, n2⟩, O, P, x, v2, v3⟩ := s5.at_ (i := j) Qo;replace P : World.cell? _ _ = some (.slice f2 f3 f4) := P; replace x : NatR _ _ f2 f3 f4 n2 := x; have ⟨q1_214, q2_214, q3_214⟩ := x.lkm;have hn64_214 := hle _ (List.mem_of_getElem? O); have g4 := hdeg _ (List.mem_of_getElem? O); dsimp only at hn64_214 g4;refine sV (evLoad one46 rfl P) (sAi rfl (sAs rfl (sK n1 (rS fun F3 f5 => sMi rfl (sMi rfl ?_)))))
         by_cases f6 : ((j : Int)) ≠ ((i : Int))
         ·refine sV (evNeq true rfl rfl (dT f6)) (sK f5 (cT rfl (wp_region_lit (sMs rfl (sMs rfl (sMi rfl (sO (oCall rfl call57 (modpoly_Mul hu x (xm := xp) Qo Qo Qo Qo) rfl ?_))))))))
          rintro _ F4 ⟨v4, v5, v6, v7, rfl, G, b7, n3, v8, v9⟩;have A1 := G.size;have ⟨w0, w1, w2⟩ := b7.lkm;refine sMs rfl (sMi rfl ?_);have n4 := f1.trans G;have s6 := (s.ext n4);have n5 := ((a3.xr F).xr q).xr G;have s7 := (hT.frmB n5 q3);refine sO (oCall rfl call94 (modpoly_Divide b7 s6 (xp := xp) Qo s7 Qo Qo hp (by have h9 := U; omega)) rfl ?_);rintro _ F5 ⟨b8, b9, c0, w3, Q, R, T, i5, c1, rfl, f7, i6, c2, A2, n6, w4, w6, w7, i7, i8⟩;have A3 := f7.size;have ⟨i7, w8, w9⟩ := i6.lkm;have ⟨i8, x0, x1⟩ := c2.lkm;refine sV (v := (.tuple #[(.slice b8 b9 c0), (.slice Q R T), (.int .i64 (c1))])) (rfl) (sV (v := (.slice b8 b9 c0)) (rfl) (sV (v := (.slice Q R T)) (rfl) (sV (v := (.int .i64 (c1))) (rfl) (sAs rfl (sDone (bN (xN (f0 _ _ (wp_region_lit (sV (evAdd (((j : Int)) + 1) rfl rfl wI) (sMi rfl (sDone ?_))))))))))));have n7 := G.trans f7;refine again (nl - (j + 1)) Qo ⟨(j + 1), (Q), (R), (T), (i5), rfl, rfl, rfl, rfl, rfl, rfl, rfl, rfl, rfl, rfl, rfl, rfl, cI, (q.trans n7), ?_, ?_, ?_, ?_⟩
          ·omega
          ·exact NatR.low c2
          ·omega
          ·exact othP_ne hoth Qo (dsN_get O) n3 n6
         ·refine sV (evNeq false rfl rfl (dF f6)) (sK f5 (cF rfl (wp_skip (bN (xN (f0 _ _ (wp_region_lit (sV (evAdd (((j : Int)) + 1) rfl rfl wI) (sMi rfl (sDone (again (nl - (j + 1)) Qo ⟨(j + 1), (Au), (nu), (cu), (du), rfl, rfl, rfl, rfl, rfl, rfl, rfl, rfl, rfl, rfl, rfl, rfl, cI, q, ?_, ?_, ?_, ?_⟩)))))))))))
          ·omega
          ·exact NatR.low hu
          ·omega
          ·rw [othP_eq (by omega)]; exact hoth
        ·refine sV (evLss false rfl rfl (dF e9)) (sK e8 (wp_seq_k fun F6 A4 => cF rfl (wp_exit (xE (xE (bE (xN (l6 _ _ (wp_region_lit (sMs rfl (sMi rfl (sMs rfl (sMs rfl (sMi rfl ?_))))))))))))))
         have f8 := F.trans q;have s8 := (s.ext f8);have n8 := (a3.xr F).xr q;have s9 := (hT.frmB n8 q3);refine sO (oCall rfl call95 (modpoly_Xgcd hu s8 (xp := xp) Qo s9 Qo Qo hp) rfl ?_);rintro _ F7 ⟨c3, c4, c5, x2, k, l, o, t, c6, c7, c8, x3, c9, rfl, f9, i9, d0, j0, A5, n9, j1⟩;have A6 := f9.size;have ⟨x4, x5, x6⟩ := i9.lkm;have ⟨j1, x7, x8⟩ := d0.lkm;have ⟨x9, y0, y1⟩ := j0.lkm;refine sV (v := (.tuple #[(.slice c3 c4 c5), (.slice k l o), (.slice c6 c7 c8), (.int .i64 (c9))])) (rfl) (sV (v := (.slice c3 c4 c5)) (rfl) (sV (v := (.slice k l o)) (rfl) (sV (v := (.slice c6 c7 c8)) (rfl) (sV (v := (.int .i64 (c9))) (rfl) (sV (evIx i underlying42 sz46 rfl rfl i) ?_)))));have g0 := f8.trans f9;have o0 := (e4.ext g0);refine sO (oStore1 rfl rfl rfl sz46 o0 (by rw [List.length_map]; simp; omega) (fun t0 g1 A7 a9 => ?_));replace a9 : Blk t0 p 46 (((L ++ [(⟨k, l, o, t⟩ : NE)]) ++ List.replicate (nl - (i + 1)) NE.zero).map LN.v) := by rw [← (fillM_set hL (by omega) : (L ++ List.replicate (nl - i) NE.zero).set i (⟨k, l, o, t⟩ : NE) = (L ++ [(⟨k, l, o, t⟩ : NE)]) ++ List.replicate (nl - (i + 1)) NE.zero), List.map_set]; exact a9
         refine sDone (bN (xN (l3 _ _ (wp_region_lit (sV (evAdd (((i : Int)) + 1) rfl rfl wI) (sMi rfl (sDone ?_)))))));have g2 := g0.rx g1;have t1 := (hA.frmB g2 q3);have t2 := (d0.frmB g1 q3);refine again (nl - (i + 1)) Qo ⟨(i + 1), (L ++ [(⟨k, l, o, t⟩ : NE)]), rfl, rfl, rfl, rfl, rfl, rfl, cI, (E.trans g2), ?_, ?_, ?_, ?_, ?_⟩
         ·exact a9
         ·omega
         ·simp [hL]
         ·exact AllM.snoc t1 (NatR.sub t2 q5) (by (try dsimp only); omega)
         ·exact dsN_snoc (r := (⟨k, l, o, t⟩ : NE)) hz (by exact cofG_of (dsN_get K) (by rw [dsN_len, kl]; exact (show nl = j by omega) ▸ hoth) n9)
      ·refine sV (evLss false rfl rfl (dF e6)) (sK e5 (wp_seq_k fun F8 A8 => cF rfl (wp_exit (xE (xE (bE (xN (k4 _ _ (wp_seq_k fun F9 o1 => ?_)))))))))
       have j2 := GListR.of_blk (L := LN) (S := fun b => w.heap.size ≤ b) (n := nl) (c := nl) e4 (fun f hf => (((AllM.app hA (AllM.zeros (M := 64) _)) f hf).1.sub q5)) (by (try dsimp only); omega) (by simp; omega) (Nat.le_refl _) (by unfold CapMax; omega);refine wp_region_lit (sMs rfl (sAs rfl (sAi rfl (sK o1 (wp_ret (ret2 (.slice (some ⟨p, 0, none⟩) nl nl) (.int .i64 (0)) results56 (resT rfl) (resT rfl) ?_))))));have o2 := (((b0.trans y).trans H).trans e3).rx E;exact ⟨(some ⟨p, 0, none⟩), nl, nl, (L ++ List.replicate (nl - i) NE.zero), (0), rfl, (Frm.mono o2 q4), (GListR.sub j2 q5), (.inl ⟨hCoA, rfl, (by rw [show nl - i = 0 by omega, List.replicate_zero, List.append_nil, hz, show i = nl by omega]; unfold cofsG; rw [dsN_len, kl]), rfl⟩), (by rw [show nl - i = 0 by omega, List.replicate_zero, List.append_nil]; exact fun f hf => (hA f hf).2)⟩
end Go.Proofs.YtneolcopompkaaaGreatDoor
