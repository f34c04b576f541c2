/-
  Walk of the law HenselReturns.
-/
import Derived.Test.YtneolcopompkaaaGreatDoorLaw12c
import Derived.Test.YtneolcopompkaaaGreatDoorLibB
import Derived.Test.YtneolcopompkaaaGreatDoorUni6
namespace Go.Proofs.YtneolcopompkaaaGreatDoor
open Go.RowKit Go.Gx Tryz
set_option maxHeartbeats 4000000 in
theorem law12_returns {w : World} {gb : Bool} {Sb : Nat → Prop} {Ab : Option Addr} {nb cb : Nat} {db : List Nat} {Sl : Nat → Prop} {Al : Option Addr} {nl cl : Nat} {tl : List T3} {xn : Nat} (hb : NatR w Sb Ab nb cb db) (hl : TripR w Sl Al nl cl tl) (bn : xn < 256) (hT : TabR w) : Calls Tryz.prog 4 #[(.agg #[(.bool gb), (.slice Ab nb cb)]), (.slice Al nl cl), (.int .u8 xn)] w (Ret fun v w' => ∃ (gr : Bool), v = (.bool gr) ∧ Ext w w' ∧ (gr = true)) := by
 have ltT := hT.lt0
 have ⟨lb, kb, mb⟩ := hb.lkm
 replace hb := hb.low
 have ⟨kl, jl, ml⟩ := hl.lkm; replace hl := hl.low
 refine enter func4 rfl ntmps4 rfl (rS fun K1 u6 => sO (oBox [(.bool gb), (.slice Ab nb cb)] rfl rfl (fun g2 w3 J5 e2 J6 u9 => sAb rfl (sK u6 (wp_seq_k fun K8 v0 => rS fun K9 v1 => ?_)))))
 have o2 := (hT.ext e2)
 refine sO (oCall rfl call9 (law12_fit o2) rfl ?_)
 rintro _ J7 ⟨i8, rfl, O, o8⟩
 have E2 := O.size
 obtain rfl : i8 = true := o8
 refine sV (evNot _ rfl rfl) (sK v1 (cF rfl (wp_skip (xN (v0 _ _ (wp_seq_k fun J8 o9 => rS fun J9 d8 => sMs rfl (sV (evLen underlying36 rfl) ?_)))))))
 by_cases g1 : ((nl : Int)) > 4
 ·refine sV (evGtr true rfl rfl (dT g1)) (sMb rfl (sSkip rfl rfl (sSkip rfl rfl (sSkip rfl rfl (sSkip rfl rfl (sV (v := (.bool true)) (rfl) (sK d8 (cT rfl (rS fun K0 p0 => sAb rfl (sK p0 (wp_ret (xR (ret1 (.bool true) results4 (resT rfl) ?_)))))))))))))
  have p1 := e2.trans O
  exact ⟨(true), rfl, p1, rfl⟩
 ·refine sV (evGtr false rfl rfl (dF g1)) (sMb rfl (sEv (v := (.pointer (some ⟨g2, 1, none⟩))) (evFA 1 fa25_1 rfl rfl) rfl rfl ?_))
  have g3 := (u9.ext O)
  refine sEv (v := (.slice Ab nb cb)) (evLoadB one23 rfl g3 rfl) rfl rfl (sEv (v := (.int .i64 nb)) (evLen underlying23 rfl) rfl rfl ?_)
  by_cases g4 : ((nb : Int)) > 4
  ·refine sEv (v := (.bool true)) (evGtr true rfl rfl (dT g4)) rfl rfl (sV (v := (.bool true)) (rfl) (sK d8 (cT rfl (rS fun K2 p2 => sAb rfl (sK p2 (wp_ret (xR (ret1 (.bool true) results4 (resT rfl) ?_))))))))
   have p3 := e2.trans O
   exact ⟨(true), rfl, p3, rfl⟩
  ·refine sEv (v := (.bool false)) (evGtr false rfl rfl (dF g4)) rfl rfl (sV (v := (.bool false)) (rfl) (sK d8 (cF rfl (wp_skip (xN (o9 _ _ (rS fun K3 p4 => sMi rfl (sO (oCall rfl call15 (law12_small (xn := xn) Qo) rfl ?_)))))))))
   rintro _ K4 ⟨d, rfl, a9, y8, g5⟩
   have E3 := a9.size
   have hpr := prime4N g5; have o3 := g5
   refine sAi rfl (sK p4 (wp_seq_k fun K5 p5 => dBegin (fun _ => False) mixed (fun K6 d9 E4 => ?_)))
   have p6 := a9.trans d9
   have g6 := (g3.ext p6)
   refine dV 2 rfl (fun _ hf => evLoadAB [(.bool gb), (.slice Ab nb cb)] agg25 sz25 rfl (g6.ext hf) rfl) (dOp 0 rfl rfl (by kernel_rfl) (oBuildSlice [(.int .i64 (1))] [[(.int .i64 (1))]] underlying82 inf2 rfl rfl rfl rfl rfl (fun c2 v2 E5 b0 E6 e0 => ⟨(Frm.of_ext b0), ?_⟩)))
   replace e0 : Blk v2 c2 2 [(.int .i64 (1))] := e0
   refine dOp 1 rfl rfl (by kernel_rfl) (oCall rfl call17 (unipoly_Of (IntsR.of_blk (S := fun b => b = c2) (n := 1) (c := 1) (xs := [1]) e0 rfl (by decide) rfl (Nat.le_refl _) (by decide)) Qo) rfl ?_)
   rintro _ v3 ⟨y9, z0, z1, z2, rfl, a0, e3, p7, z3, z4⟩
   refine ⟨(Frm.of_ext a0), ?_⟩
   have E7 := a0.size
   have ⟨z5, z6, z7⟩ := e3.lkm
   have g7 := ((((e2.trans O).trans a9).trans d9).trans b0).trans a0
   have o4 := (hb.ext g7)
   refine dOp 3 rfl rfl (by kernel_rfl) (oCall rfl call16 (unipoly_Scale e3 o4 Qo Qo Qo) rfl ?_)
   rintro _ v4 ⟨i9, j0, j1, j2, rfl, P, e4, p8, z8, z9⟩
   refine ⟨(Frm.of_ext P), ?_⟩
   have E8 := P.size
   have ⟨A0, A1, A2⟩ := e4.lkm
   have v5 := e4.sub (S' := fun b => (v3.heap.size ≤ b) ∧ b < v4.heap.size) fun _ hb hs => ⟨hs, hb⟩
   refine dAs 4 rfl rfl (dDone (by kernel_rfl) (xN (p5 _ _ (rS fun K7 p9 => sV (v := (.agg #[(.bool false), (.slice none 0 0)])) (evK (by kernel_rfl)) (sO (oAlloc [(.bool false), (.slice none 0 0)] zero25 rfl (fun R L0 E9 a1 F0 q0 => sO (oStore [(.bool false), (.slice none 0 0)] rfl rfl rfl sz25 rfl q0 Qn (fun o5 a2 F1 e1 => ?_)))))))))
   replace e1 : Blk o5 R 25 [(.bool false), (.slice none 0 0)] := e1
   refine sK p9 (rS fun L1 q2 => sAs rfl (sK q2 (rS fun L2 q5 => sMs rfl ?_)))
   have b1 := ((g7.trans P).trans a1).rx a2
   have v6 := (hl.frmB b1 q3)
   have q6 := ((((((O.trans a9).trans d9).trans b0).trans a0).trans P).trans a1).rx a2
   have o6 := (o2.frmB q6 q3)
   refine sO (oCall rfl call18 (law12_monics v6 o6 Qo) rfl ?_)
   rintro _ c3 ⟨T, a, U, K, rfl, G, e5, A3, b2⟩
   have F2 := G.size
   have ⟨A4, A5, A6⟩ := e5.lkm
   have o7 := e5.sub (S' := fun b => (o5.heap.size ≤ b) ∧ b < c3.heap.size) fun _ hb hs => ⟨hs, hb⟩
   refine sAs rfl (sK q5 (wp_seq_k fun L3 q7 => rS fun L4 q8 => sMs rfl (sV (evLen underlying43 rfl) (sMi rfl (sK q8 (wp_block ?_))))))
   have q9 := (e1.ext G)
   have r0 := (a1.rx a2).xr G
   have v7 := (v5.frmB r0 q3)
   refine lLoop (fun m e w_ => ∃ (i : Nat) (Ap : Option Addr) (np : Nat) (cp : Nat) (lp : List RI) (zL : Nat) (nO : Nat) (Ao : Option Addr) (cO : Nat) (fo : List NE) (gH : Bool) (AH : Option Addr) (nH : Nat) (cH : Nat) (dH : List Nat), m = a - i ∧ e 3 = (.pointer (some ⟨g2, 0, none⟩)) ∧ e 7 = (.int .u32 d) ∧ e 8 = (.slice Ap np cp) ∧ e 9 = (.pointer (some ⟨R, 0, none⟩)) ∧ e 10 = (.slice Ao nO cO) ∧ e 11 = (.slice T a U) ∧ e 41 = (.slice T a U) ∧ e 42 = (.int .i64 a) ∧ e 43 = (.int .i64 i) ∧ Frm (fun b => c3.heap.size ≤ b ∨ b = R ∨ b = c2) c3 w_ ∧ Blk w_ R 25 ([.bool gH, .slice AH nH cH]) ∧ (i ≤ a) ∧ (PolyR w_ (fun b => b ≠ R ∧ b < w_.heap.size) Ap np cp lp (16 + 16 * i)) ∧ (OwnV R zL w_ c3.heap.size 46 Ao nO cO fo) ∧ ((zL = c2 ∨ c3.heap.size ≤ zL) ∧ zL < w_.heap.size) ∧ (nO = i) ∧ (∀ x ∈ fo, x.n ≤ 4) ∧ (NatR w_ (fun b => b ≠ R ∧ b ≠ zL ∧ b < w_.heap.size) AH nH cH dH) ∧ (nH ≤ 2) ∧ (np ≤ 1 + 4 * i) ∧ (∀ x, evI (zs lp) x = zval gb db * evI (pL (zsL (K.take i))) x) ∧ (dsN fo = (zsL (K.take i)).map (redP d)) ∧ (0 ≤ zval gH dH ∧ zval gH dH ≤ 128 ∧ ∀ y ∈ K.take i, (hgt (zs y.l) : Int) ≤ zval gH dH)) (a - (0)) ?_ ?_
   ·refine ⟨(0), (i9), (j0), (j1), (j2), (c2), (0), (none), (0), ([]), (false), (none), (0), (0), ([]), rfl, rfl, rfl, rfl, rfl, rfl, rfl, rfl, rfl, cI, (Frm.refl _ _), ?_, ?_, ?_, ?_, ?_, ?_, ?_, ?_, ?_, ?_, ?_, ?_, ?_⟩
    ·exact q9
    ·omega
    ·exact PolyR.le (PolyR.sub v7 (fun b hb hs => by (try dsimp only at hs); omega)) (by omega)
    ·exact OwnV.nil Qo
    ·omega
    ·rfl
    ·exact fun x hx => (by cases hx)
    ·exact NatR.nil
    ·omega
    ·omega
    ·rw [List.take_zero]; exact vf_start p7 p8
    ·rw [List.take_zero]; rfl
    ·rw [List.take_zero]; exact ⟨by decide, by decide, fun y hy => (by cases hy)⟩
   ·rintro L5 L6 L7 ⟨i, Ap, np, cp, lp, zL, nO, Ao, cO, fo, gH, AH, nH, cH, dH, F3, r1, r2, r3, r4, r5, r6, r7, r8, r9, q, g8, hi, hp, hV, hzL, hnO, hlo, hHR, hnH, hnp, hvf, hds, hH⟩
    obtain ⟨F4, rfl⟩ := sq9 r1 r2 r3 r4 r5 r6 r7 r8 r9
    have A7 := q.size
    have ⟨hOa, hOb, hOc⟩ := hV.lkm; have ⟨lH, kH, mH⟩ := hHR.lkm
    have ⟨kp, jp, mp⟩ := hp.lkm
    refine rS fun F5 e6 => ?_
    by_cases e7 : ((i : Int)) < ((a : Int))
    ·refine sV (evLss true rfl rfl (dT e7)) (sK e6 (wp_seq_k fun F6 j3 => cT rfl (wp_skip (xN (j3 _ _ (wp_seq_k fun F7 e8 => wp_block (rS fun F8 j4 => ?_)))))))
     have g9 := (o7.frmB q q3)
     obtain ⟨F9, s0, rfl⟩ := g9.base Qo
     refine sV (evIx i underlying43 sz39 rfl rfl (s0 + i)) ?_
     obtain ⟨⟨A8, A9, B0, B1⟩, r, c4, L, v8, v9⟩ := g9.at_ (i := i) Qo
     dsimp only at c4 L; have ⟨q1_115, q2_115, q3_115⟩ := L.lkm
     have Q := b2 _ (List.mem_of_getElem? r); dsimp only at Q; have u4 := Q.2
     refine sV (evLoad one39 rfl c4) (sAs rfl (sK j4 (rS fun G0 j5 => sMs rfl (sMs rfl (sO (oCall rfl call19 (unipoly_Mul hp L Qo Qo Qo Qo) rfl ?_))))))
     rintro _ s1 ⟨c5, c6, c7, c8, rfl, b3, a3, e9, w0, w1⟩
     have B2 := b3.size
     have ⟨w2, w4, w5⟩ := a3.lkm
     refine sAs rfl (sK j5 (rS fun G1 j6 => sMs rfl (sMs rfl (sMi rfl ?_))))
     have h0 := (L.ext b3)
     refine sO (oCall rfl call20 (modpoly_Reduce h0 (xm := d) Qo Qo Qo Qo) rfl ?_)
     rintro _ G2 ⟨B, C, D, a4, rfl, b4, c9, f0, w6, w7⟩
     have B3 := b4.size
     have ⟨w8, w9, x0⟩ := c9.lkm
     refine sO (oBuildSlice [(.slice B C D)] [[(.slice B C D)]] underlying42 inf46 rfl rfl rfl rfl rfl (fun s2 s3 B4 b5 B5 b6 => ?_))
     replace b6 : Blk s3 s2 46 [(.slice B C D)] := b6
     have f1 := (b3.trans b4).trans b5
     have j7 := (hV.ext f1)
     have s4 := (c9.ext b5)
     refine sO (oAppV (f := (⟨B, C, D, a4⟩ : NE)) (S := fun b => (fun b => s1.heap.size ≤ b) b) underlying42 inf46 rfl rfl rfl j7 b6 s4 (fun b hb_ hs => by (try dsimp only at hs); omega) (by omega) (by omega) (by omega) (fun h1 h2 h3 s5 b7 b8 B6 B7 => ?_))
     have B8 := b8.size; have ⟨_, _, _⟩ := b7.lkm
     refine sAs rfl (sK j6 (rS fun G3 j8 => sMs rfl ?_))
     have b9 := (b4.trans b5).rx b8
     have s6 := (h0.frmB b9 q3)
     refine sO (oCall rfl call21 (unipoly_Height s6 Qo Qo) rfl ?_)
     rintro _ s7 ⟨s, t, u, z, h4, rfl, H, d0, f2, x1, x2⟩
     have B9 := H.size
     have ⟨x3, x4, x5⟩ := d0.lkm
     have s8 := d0.sub (S' := fun b => (s5.heap.size ≤ b) ∧ b < s7.heap.size) fun _ hb hs => ⟨hs, hb⟩
     refine sO (oAlloc [(.bool false), (.slice none 0 0)] zero25 rfl (fun s9 G4 C0 I C1 j9 => sO (oStore [(.bool s), (.slice t u z)] rfl rfl rfl sz25 rfl j9 Qn (fun t0 J C2 V => ?_))))
     replace V : Blk t0 s9 25 [(.bool s), (.slice t u z)] := V
     refine sK j8 (rS fun G5 f3 => sV (evLoadAB [(.bool s), (.slice t u z)] agg25 sz25 rfl V rfl) ?_)
     have W := (((f1.rx b8).xr H).xr I).tr J
     have c0 := (g8.frm W q1)
     refine sV (evLoadAB [(.bool gH), (.slice AH nH cH)] agg25 sz25 rfl c0 rfl) ?_
     have k0 := I.rx J
     have h5 := (s8.frmB k0 q3)
     have h6 := (hHR.frmB W q3)
     refine sO (oCall rfl call13 (integer_Cmp h5 h6) rfl ?_)
     rintro _ G6 ⟨h7, rfl, g, f4⟩
     have C3 := g.size
     by_cases X : h7 > 0
     ·refine sV (evGtr true rfl rfl (dT X)) (sK f3 (cT rfl (wp_region_lit ?_)))
      have k1 := (V.ext g)
      refine sV (evLoadAB [(.bool s), (.slice t u z)] agg25 sz25 rfl k1 rfl) ?_
      have k2 := (c0.ext g)
      refine sO (oStore [(.bool s), (.slice t u z)] rfl rfl rfl sz25 rfl k2 Qn (fun t1 Y C4 c1 => ?_))
      replace c1 : Blk t1 R 25 [(.bool s), (.slice t u z)] := c1
      refine sDone (bN (xN (e8 _ _ (wp_region_lit (sV (evAdd (((i : Int)) + 1) rfl rfl wI) (sMi rfl (sDone ?_)))))))
      have k3 := (W.xr g).tr Y
      have k4 := ((((b9.xr H).xr I).tr J).xr g).tr Y
      have t2 := (a3.frmB k4 q3)
      have k5 := (((H.trans I).rx J).xr g).tr Y
      have k6 := (b7.frmB k5 q3)
      have k7 := g.rx Y
      have t3 := (h5.frmB k7 q3)
      refine again (a - (i + 1)) Qo ⟨(i + 1), (c5), (c6), (c7), (c8), (h3), (nO + 1), (h1), (h2), (fo ++ [(⟨B, C, D, a4⟩ : NE)]), (s), (t), (u), (z), (h4), rfl, rfl, rfl, rfl, rfl, rfl, rfl, rfl, rfl, cI, (Frm.mono (q.tr k3) q4), ?_, ?_, ?_, ?_, ?_, ?_, ?_, ?_, ?_, ?_, ?_, ?_, ?_⟩
      ·exact c1
      ·omega
      ·exact PolyR.le (PolyR.sub t2 (fun b hb hs => by (try dsimp only at hs); omega)) (by omega)
      ·exact k6
      ·omega
      ·omega
      ·exact lenN_snoc hlo (by (try dsimp only); omega)
      ·exact NatR.sub t3 (fun b hb hs => by (try dsimp only at hs); omega)
      ·omega
      ·omega
      ·exact vf_next hvf r e9
      ·exact ds_next hds r f0
      ·exact ht_yes hH r Q.1 f2 f4 X
     ·refine sV (evGtr false rfl rfl (dF X)) (sK f3 (cF rfl (wp_skip (bN (xN (e8 _ _ (wp_region_lit (sV (evAdd (((i : Int)) + 1) rfl rfl wI) (sMi rfl (sDone ?_))))))))))
      have k8 := W.xr g
      have k9 := (c0.ext g)
      have l0 := (((b9.xr H).xr I).tr J).xr g
      have t4 := (a3.frmB l0 q3)
      have l1 := ((H.trans I).rx J).xr g
      have l2 := (b7.frmB l1 q3)
      have t5 := (h6.ext g)
      refine again (a - (i + 1)) Qo ⟨(i + 1), (c5), (c6), (c7), (c8), (h3), (nO + 1), (h1), (h2), (fo ++ [(⟨B, C, D, a4⟩ : NE)]), (gH), (AH), (nH), (cH), (dH), rfl, rfl, rfl, rfl, rfl, rfl, rfl, rfl, rfl, cI, (Frm.mono (q.tr k8) q4), ?_, ?_, ?_, ?_, ?_, ?_, ?_, ?_, ?_, ?_, ?_, ?_, ?_⟩
      ·exact k9
      ·omega
      ·exact PolyR.le (PolyR.sub t4 (fun b hb hs => by (try dsimp only at hs); omega)) (by omega)
      ·exact l2
      ·omega
      ·omega
      ·exact lenN_snoc hlo (by (try dsimp only); omega)
      ·exact NatR.sub t5 (fun b hb hs => by (try dsimp only at hs); omega)
      ·omega
      ·omega
      ·exact vf_next hvf r e9
      ·exact ds_next hds r f0
      ·exact ht_no hH r f2 f4 X
    ·refine sV (evLss false rfl rfl (dF e7)) (sK e6 (wp_seq_k fun G7 C5 => cF rfl (wp_exit (xE (xE (bE (xN (q7 _ _ (wp_seq_k fun G8 l3 => ?_)))))))))
     have hta : K.take i = K := take_all (by omega); rw [hta] at hvf hds hH; have hmF := mb_all b2; have hLG := OwnV.list hV; have kfo := hLG.len
     refine wp_region_lit (sV (evLoadAB [(.bool gH), (.slice AH nH cH)] agg25 sz25 rfl g8 rfl) (sMi rfl (sO (oCall rfl call10 (hensel_Exponent hHR (xp := d) Qo Qo) rfl ?_))))
     rintro _ G9 ⟨a5, d1, rfl, o, x6, x7, h8, x8⟩
     have C6 := o.size
     have hEx := (h8 Qo).2; have L8 := expo_nine Qo hEx Qo; have L9 := hEx.1
     refine sV (v := (.tuple #[(.int .i64 a5), (.int .i64 (d1))])) (rfl) (sV (v := (.int .i64 a5)) (rfl) (sV (v := (.int .i64 (d1))) (rfl) (sAi rfl (sAi rfl (sK l3 (rS fun H0 l4 => sMs rfl (sMs rfl (sMi rfl (sMi rfl ?_)))))))))
     have t6 := (hp.ext o)
     have i0 := (hLG.ext o)
     have l5 := (G.rx q).xr o
     have i1 := (o6.frmB l5 q3)
     refine sO (oCall rfl call22 (hensel_Lift t6 i0 (xp := d) Qo (xk := a5) Qo i1 o3 Qo Qo Qo (fun f hf => by have h9 := hlo f hf; omega) Qo (ret_deg hpr hds hmF) (fun _ _ => ret_same hpr hds hmF hvf) (fun hc hl => ret_ok hpr hds hmF hvf hc hl)) rfl ?_)
     rintro _ H1 ⟨E, k, F, x9, d2, rfl, p, d3, Z, i2⟩
     have C7 := p.size
     have ⟨y0, y1, y2⟩ := d3.lkm
     have hld : ldP (zs lp) = zval gb db := ret_ld hmF hvf
     refine sV (v := (.tuple #[(.slice E k F), (.int .i64 (d2))])) (rfl) (sV (v := (.slice E k F)) (rfl) (sV (v := (.int .i64 (d2))) (rfl) (sAs rfl (sAi rfl (sK l4 (wp_seq_k fun H2 l6 => wp_block (rS fun H3 l7 => sMs rfl (sMi rfl ?_))))))))
     have t8 := (i0.ext p)
     have t9 := (i1.ext p)
     refine sO (oCall rfl call23 (law12_coprime t8 (xp := d) Qo t9 o3 Qo (fun f hf => by have h9 := hlo f hf; omega) (ret_pos hpr hds hmF)) rfl ?_)
     rintro _ H4 ⟨i3, rfl, A, l8⟩
     have C8 := A.size
     have hcop := l8; rw [← (ret_mon hpr hds hmF).2] at hcop
     refine sV (evNot _ rfl rfl) (sAb rfl (sK l7 ?_))
     cases i3
     ·refine cT rfl (rS fun H5 l9 => sMi rfl (sV (evEql true rfl rfl (dT (by have h9 := o_bad Z (by rcases hcop with ⟨h, _⟩ | ⟨_, h⟩; cases h; exact h); omega))) (sMb rfl (sEv (v := (.slice E k F)) (rfl) rfl rfl (sEv (v := (.int .i64 k)) (evLen underlying43 rfl) rfl rfl (sEv (v := (.bool true)) (evEql true rfl rfl (dT (by have h9 := o_bad Z (by rcases hcop with ⟨h, _⟩ | ⟨_, h⟩; cases h; exact h); omega))) rfl rfl (sV (v := (.bool true)) (rfl) (sAb rfl (sK l9 (wp_ret (bR (xR (ret1 (.bool true) results4 (resT rfl) ?_)))))))))))))
      have m0 := ((((b1.xr G).tr q).xr o).xr p).xr A
      exact ⟨(true), rfl, (Frm.mono m0 q4), rfl⟩
     ·refine cF rfl (rS fun H6 f5 => ?_)
      have m1 := ((((((((b0.trans a0).trans P).trans a1).rx a2).xr G).tr q).xr o).xr p).xr A
      have m2 := (g6.frm m1 q1)
      refine sV (evLoadAB [(.bool gb), (.slice Ab nb cb)] agg25 sz25 rfl m2 rfl) (sMi rfl ?_)
      have m3 := ((((((P.trans a1).rx a2).xr G).tr q).xr o).xr p).xr A
      have u0 := (o4.frmB m3 q3)
      refine sO (oCall rfl call24 (modular_Reduce u0 (xm := d) Qo Qo Qo) rfl ?_)
      rintro _ u1 ⟨i4, rfl, M, y3, f6⟩
      have C9 := M.size
      by_cases f7 : ((i4 : Int)) = 0
      ·refine sV (evEql true rfl rfl (dT f7)) ?_
       have hC : CoA d (monL d (dsN fo)) := by rcases hcop with ⟨_, h⟩ | ⟨h, _⟩; exact h; cases h
       have ⟨h9a, h9b⟩ := o_zero Z hC (by rw [hld, ← f6]; omega)
       refine sAb rfl (sK f5 (cT rfl (rS fun H7 m4 => sMi rfl (sV (evEql true rfl rfl (dT Qo)) (sMb rfl (sEv (v := (.slice E k F)) (rfl) rfl rfl (sEv (v := (.int .i64 k)) (evLen underlying43 rfl) rfl rfl (sEv (v := (.bool true)) (evEql true rfl rfl (dT Qo)) rfl rfl (sV (v := (.bool true)) (rfl) (sAb rfl (sK m4 (wp_ret (bR (xR (ret1 (.bool true) results4 (resT rfl) ?_)))))))))))))))
       have m5 := (((((b1.xr G).tr q).xr o).xr p).xr A).xr M
       exact ⟨(true), rfl, (Frm.mono m5 q4), rfl⟩
      ·refine sV (evEql false rfl rfl (dF f7)) ?_
       have hC : CoA d (monL d (dsN fo)) := by rcases hcop with ⟨_, h⟩ | ⟨h, _⟩; exact h; cases h
       have hlne : md d (ldP (zs lp)) ≠ 0 := by rw [hld, ← f6]; omega
       have ⟨h9a, h9q, h9b⟩ := o_ok Z hC hlne; have hfin := ret_final hpr hds hmF hvf hC hlne h9q (ht_all hH rfl) hEx.2.1
       refine sAb rfl (sK f5 (cF rfl (rS fun H8 m6 => sMi rfl (sV (evNeq false rfl rfl (dF Qo)) (sMb rfl (sEv (v := (.slice E k F)) (rfl) rfl rfl (sEv (v := (.int .i64 k)) (evLen underlying43 rfl) rfl rfl (sEv (v := (.slice T a U)) (rfl) rfl rfl (sEv (v := (.int .i64 a)) (evLen underlying43 rfl) rfl rfl (sEv (v := (.bool false)) (evNeq false rfl rfl (dF Qo)) rfl rfl (sV (v := (.bool false)) (rfl) (sAb rfl (sK m6 (cF rfl (wp_skip (bN (xN (l6 _ _ (wp_seq_k fun H9 m7 => rS fun I0 m8 => sMs rfl (sV (evLen underlying43 rfl) (sMi rfl (sK m8 (wp_block ?_)))))))))))))))))))))))
       refine lLoop (fun m e w_ => ∃ (j : Nat), m = a - j ∧ e 17 = (.slice E k F) ∧ e 112 = (.slice T a U) ∧ e 113 = (.int .i64 a) ∧ e 114 = (.int .i64 j) ∧ Frm (fun b => False) u1 w_ ∧ (j ≤ a)) (a - (0)) ?_ ?_
       ·refine ⟨(0), rfl, rfl, rfl, rfl, cI, (Frm.refl _ _), ?_⟩
        ·omega
       ·rintro I1 I2 I3 ⟨j, D0, m9, n0, n1, n2, N, hj⟩
        obtain ⟨I4, rfl⟩ := sq4 m9 n0 n1 n2
        have D1 := N.size
        refine rS fun I5 f8 => ?_
        by_cases f9 : ((j : Int)) < ((a : Int))
        ·refine sV (evLss true rfl rfl (dT f9)) (sK f8 (wp_seq_k fun I6 n3 => cT rfl (wp_skip (xN (n3 _ _ (wp_seq_k fun I7 n4 => wp_block (rS fun I8 n5 => sMi rfl ?_)))))))
         have n6 := ((((q.xr o).xr p).xr A).xr M).xr N
         have i5 := (o7.frmB n6 q3)
         obtain ⟨I9, u2, rfl⟩ := i5.base Qo
         refine sV (evIx j underlying43 sz39 rfl rfl (u2 + j)) ?_
         obtain ⟨⟨D2, D3, D4, D5⟩, d4, d5, a6, y4, y5⟩ := i5.at_ (i := j) Qo
         dsimp only at d5 a6; have ⟨q1_262, q2_262, q3_262⟩ := a6.lkm
         have a8 := b2 _ (List.mem_of_getElem? d4); dsimp only at a8; have u5 := a8.2
         refine sV (evLoad one39 rfl d5) (sAi rfl (sAs rfl (sK n5 (rS fun J0 n7 => sMs rfl (sMi rfl ?_)))))
         have n8 := (A.trans M).trans N
         have i6 := (d3.ext n8)
         obtain ⟨J1, u3, rfl⟩ := i6.base Qo
         refine sV (evIx j underlying43 sz39 rfl rfl (u3 + j)) ?_
         obtain ⟨⟨D6, D7, D8, D9⟩, d6, d7, a7, y6, y7⟩ := i6.at_ (i := j) Qo
         dsimp only at d7 a7; have ⟨q1_269, q2_269, q3_269⟩ := a7.lkm
         have hn64_269 := i2 _ (List.mem_of_getElem? d6); dsimp only at hn64_269
         refine sV (evLoad one39 rfl d7) (sMs rfl (sO (oCall rfl call25 (unipoly_Same a7 a6) rfl ?_)))
         rintro _ J2 ⟨i7, rfl, g0, n9⟩
         have E0 := g0.size
         obtain rfl : i7 = true := by rw [n9]; exact decide_eq_true (hfin _ _ _ (zsL_at d6) (zsL_at d4))
         refine sV (evNot _ rfl rfl) (sK n7 (cF rfl (wp_skip (bN (xN (n4 _ _ (wp_region_lit (sV (evAdd (((j : Int)) + 1) rfl rfl wI) (sMi rfl (sDone (again (a - (j + 1)) Qo ⟨(j + 1), rfl, rfl, rfl, rfl, cI, (N.trans g0), ?_⟩)))))))))))
         ·omega
        ·refine sV (evLss false rfl rfl (dF f9)) (sK f8 (wp_seq_k fun J3 E1 => cF rfl (wp_exit (xE (xE (bE (xN (m7 _ _ (rS fun J4 o0 => sAb rfl (sK o0 (wp_ret (ret1 (.bool true) results4 (resT rfl) ?_))))))))))))
         have o1 := ((((((b1.xr G).tr q).xr o).xr p).xr A).xr M).xr N
         exact ⟨(true), rfl, (Frm.mono o1 q4), rfl⟩
end Go.Proofs.YtneolcopompkaaaGreatDoor
