/-
  Walk of package hensel: the lift.
-/
import Derived.Test.YtneolcopompkaaaGreatDoorHen8
import Derived.Test.YtneolcopompkaaaGreatDoorHen7
import Derived.Test.YtneolcopompkaaaGreatDoorLibB
namespace Go.Proofs.YtneolcopompkaaaGreatDoor
open Go.RowKit Go.Gx Tryz
set_option maxHeartbeats 4000000 in
theorem hensel_Lift {w : World} {Sf : Nat → Prop} {Af : Option Addr} {nf cf Mf : Nat} {lf : List RI} {Sl : Nat → Prop} {Al : Option Addr} {nl cl : Nat} {fl : List NE} {xp : Nat} {xk : Nat} (hf : PolyR w Sf Af nf cf lf Mf) (hl : GListR LN w Sl Al nl cl fl) (bp : xp < 4294967296) (bk : xk ≤ 9223372036854775807) (hT : TabR w) (hp : xp = 2 ∨ xp = 3 ∨ xp = 5 ∨ xp = 7 ∨ xp = 11 ∨ xp = 13) (hnf : nf ≤ 64) (hMf : Mf ≤ 4096) (hnl : nl ≤ 8) (hle : ∀ f ∈ fl, f.n ≤ 63) (hk : 1 ≤ xk ∧ xk ≤ 64) (hdeg : ∀ d ∈ (monL xp (dsN fl)), 2 ≤ (nrmP xp d).length) (hsame : CoA xp (monL xp (dsN fl)) → (md xp (ldP (zs lf))) ≠ 0 → nrmP xp (prodN xp [(md xp (ldP (zs lf)))] (monL xp (dsN fl))) = nrmP xp (redP xp (zs lf))) (hok : CoA xp (monL xp (dsN fl)) → (md xp (ldP (zs lf))) ≠ 0 → ∀ L0 L1 e, LReach xp xk (zs lf) (symL xp (monL xp (dsN fl))) (symL xp (cofsG xp (monL xp (dsN fl)))) L0 L1 e → ∀ u ∈ L0, 0 < (trimZ u).length) : Calls Tryz.prog 22 #[(.slice Af nf cf), (.slice Al nl cl), (.int .u32 xp), (.int .i64 xk)] w (Ret fun v w' => ∃ (Ar : Option Addr) (nr : Nat) (cr : Nat) (fr : List PE) (xo : Int), v = (.tuple #[(.slice Ar nr cr), (.int .i64 (xo))]) ∧ Ext w w' ∧ PolysR w' (fun b => w.heap.size ≤ b) Ar nr cr fr 4096 ∧ ((¬ CoA xp (monL xp (dsN fl)) ∧ xo = 5 ∧ nr = 0) ∨ (CoA xp (monL xp (dsN fl)) ∧ (md xp (ldP (zs lf))) = 0 ∧ xo = 3 ∧ nr = 0) ∨ (CoA xp (monL xp (dsN fl)) ∧ (md xp (ldP (zs lf))) ≠ 0 ∧ xo = 0 ∧ (∃ L1 e, LReach xp xk (zs lf) (symL xp (monL xp (dsN fl))) (symL xp (cofsG xp (monL xp (dsN fl)))) (zsL fr) L1 e ∧ (e = xk ∨ isFac (zs lf) (zsL fr))) ∧ nr = nl)) ∧ (∀ x ∈ fr, x.n ≤ 64)) := by
 have ltT := hT.lt0
 have ⟨kf, jf, mf⟩ := hf.lkm
 replace hf := hf.low
 have ⟨kl, jl, ml⟩ := hl.lkm; replace hl := hl.low
 refine enter func22 rfl ntmps22 rfl (rS fun K1 dg => sAs rfl (sAi rfl (sK dg (wp_scope_straight (wp_seq_k fun K2 dh => rS fun K3 di => sMi rfl (sO (oCall rfl call54 (modular_IsPrime (xn := xp) Qo hT (by assumption)) rfl ?_)))))))
 rintro _ w5 ⟨az, rfl, I7, dj⟩
 have jB := I7.size
 obtain rfl : az = true := dj
 refine sV (evNot _ rfl rfl) (sMb rfl (sEv (v := (.int .i64 xk)) (rfl) rfl rfl (sEv (v := (.bool false)) (evLss false rfl rfl (dF Qo)) rfl rfl (sV (v := (.bool false)) (rfl) (sK di (cF rfl (wp_skip (xN (dh _ _ (rS fun K8 dk => sMs rfl (sV (evLen underlying42 rfl) (sO (oMake1 nl underlying42 inf46 rfl cI cI Qo Qo (fun g9 av hN I8 hO aA => ?_))))))))))))))
 have aB : Blk av g9 46 (((List.replicate nl NE.zero)).map LN.v) := by rw [List.map_replicate]; exact aA
 refine sAs rfl (sK dk (wp_seq_k fun jC aC => rS fun jD aD => sMs rfl (sV (evLen underlying42 rfl) (sMi rfl (sK aD (wp_block ?_))))))
 refine lLoop (fun m e w_ => ∃ (i : Nat) (L : List NE), m = nl - i ∧ e 0 = (.slice Af nf cf) ∧ e 2 = (.int .u32 xp) ∧ e 3 = (.int .i64 xk) ∧ e 10 = (.slice (some ⟨g9, 0, none⟩) nl nl) ∧ e 35 = (.slice Al nl cl) ∧ e 36 = (.int .i64 nl) ∧ e 37 = (.int .i64 i) ∧ Frm (fun b => b = g9) av w_ ∧ Blk w_ g9 46 ((L ++ List.replicate (nl - i) NE.zero).map LN.v) ∧ (i ≤ nl) ∧ (L.length = i) ∧ (AllM w_ (fun b => g9 < b) 63 L) ∧ (dsN L = (List.range i).map (fun k => monicP xp (nrmP xp ((dsN fl).getD k []))))) (nl - (0)) ?_ ?_
 ·refine ⟨(0), ([]), rfl, rfl, rfl, rfl, rfl, rfl, rfl, cI, (Frm.refl _ _), ?_, ?_, ?_, ?_, ?_⟩
  ·simpa using aB
  ·omega
  ·rfl
  ·exact AllM.nil
  ·rfl
 ·rintro jE jF dl ⟨i, L, hP, aE, aF, aG, aH, aI, aJ, aK, r0, I9, hi, hL, hA, hz⟩
  obtain ⟨jG, rfl⟩ := sq7 aE aF aG aH aI aJ aK
  have hQ := r0.size
  refine rS fun jH J0 => ?_
  by_cases J1 : ((i : Int)) < ((nl : Int))
  ·refine sV (evLss true rfl rfl (dT J1)) (sK J0 (wp_seq_k fun jI aL => cT rfl (wp_skip (xN (aL _ _ (wp_seq_k fun jJ aM => wp_block (rS fun jK aN => sMi rfl ?_)))))))
   have J2 := (I7.trans I8).rx r0
   have aw := (hl.frmB J2 q3)
   obtain ⟨jL, dm, rfl⟩ := aw.base Qo
   refine sV (evIx i underlying42 sz46 rfl rfl (dm + i)) ?_
   obtain ⟨⟨J3, J4, J5, aO⟩, B6, r1, l6, ft, fu⟩ := aw.at_ (i := i) Qo
   replace r1 : World.cell? _ _ = some (.slice J3 J4 J5) := r1; replace l6 : NatR _ _ J3 J4 J5 aO := l6; have ⟨q1_48, q2_48, q3_48⟩ := l6.lkm
   have hn64_48 := hle _ (List.mem_of_getElem? B6); dsimp only at hn64_48
   refine sV (evLoad one46 rfl r1) (sAi rfl (sAs rfl (sK aN (wp_region_lit (sMs rfl (sMi rfl (sMs rfl (sMi rfl ?_))))))))
   have dn := (hT.frmB J2 q3)
   refine sO (oCall rfl call55 (modpoly_Monic l6 (xp := xp) Qo dn Qo hp) rfl ?_)
   rintro _ jM ⟨e0, e1, e2, f7, B7, rfl, A2, B8, hR, aP, fv, fw⟩
   have hS := A2.size
   have ⟨fx, fy, fz⟩ := B8.lkm
   refine sV (v := (.tuple #[(.slice e0 e1 e2), (.int .i64 (B7))])) (rfl) (sV (v := (.slice e0 e1 e2)) (rfl) (sV (v := (.int .i64 (B7))) (rfl) (sV (evIx i underlying42 sz46 rfl rfl i) ?_)))
   have aQ := (I9.ext A2)
   refine sO (oStore1 rfl rfl rfl sz46 aQ (by rw [List.length_map]; simp; omega) (fun dp J6 hU A3 => ?_))
   replace A3 : Blk dp g9 46 (((L ++ [(⟨e0, e1, e2, f7⟩ : NE)]) ++ List.replicate (nl - (i + 1)) NE.zero).map LN.v) := by rw [← (fillM_set hL (by omega) : (L ++ List.replicate (nl - i) NE.zero).set i (⟨e0, e1, e2, f7⟩ : NE) = (L ++ [(⟨e0, e1, e2, f7⟩ : NE)]) ++ List.replicate (nl - (i + 1)) NE.zero), List.map_set]; exact A3
   refine sDone (bN (xN (aM _ _ (wp_region_lit (sV (evAdd (((i : Int)) + 1) rfl rfl wI) (sMi rfl (sDone ?_)))))))
   have J7 := A2.rx J6
   have dq := (hA.frmB J7 q3)
   have dr := (B8.frmB J6 q3)
   refine again (nl - (i + 1)) Qo ⟨(i + 1), (L ++ [(⟨e0, e1, e2, f7⟩ : NE)]), rfl, rfl, rfl, rfl, rfl, rfl, rfl, cI, (r0.trans J7), ?_, ?_, ?_, ?_, ?_⟩
   ·exact A3
   ·omega
   ·simp [hL]
   ·exact AllM.snoc dq (NatR.sub dr q5) (by (try dsimp only); omega)
   ·exact dsN_snoc (r := (⟨e0, e1, e2, f7⟩ : NE)) hz (by show f7 = monicP xp (nrmP xp ((dsN fl).getD i [])); rw [aP, dsN_get B6])
  ·refine sV (evLss false rfl rfl (dF J1)) (sK J0 (wp_seq_k fun jN hV => cF rfl (wp_exit (xE (xE (bE (xN (aC _ _ (wp_seq_k fun jO aR => ?_)))))))))
   have N5 := GListR.of_blk (L := LN) (S := fun b => w.heap.size ≤ b) (n := nl) (c := nl) I9 (fun f hf => (((AllM.app hA (AllM.zeros (M := 63) _)) f hf).1.sub q5)) (by (try dsimp only); omega) (by simp; omega) (Nat.le_refl _) (by unfold CapMax; omega)
   obtain ⟨fm, hGm, hML, A4⟩ : ∃ fm : List NE, GListR LN dl (fun b => w.heap.size ≤ b) (some ⟨g9, 0, none⟩) nl nl fm ∧ dsN fm = monL xp (dsN fl) ∧ ∀ f ∈ fm, f.n ≤ 63 := ⟨_, N5, (by rw [show nl - i = 0 by omega, List.replicate_zero, List.append_nil]; exact monL_range (n := i) hz (by rw [dsN_len, kl]; omega)), fun f hf => ((AllM.app hA (AllM.zeros (M := 63) _)) f hf).2⟩
   have kfm : fm.length = nl := hGm.len
   refine wp_region_lit (sMs rfl (sMi rfl ?_))
   have A5 := (I7.trans I8).rx r0
   have ds := (hT.frmB A5 q3)
   refine sO (oCall rfl call56 (hensel_Cofactors hGm (xp := xp) (by omega) ds hp (by omega) A4 (fun f hf => hdeg _ (by rw [← hML]; exact List.mem_map_of_mem hf))) rfl ?_)
   rintro _ jP ⟨l7, l8, l9, N6, f8, rfl, o2, B9, J8, r2⟩
   have hW := o2.size
   have ⟨Z, fA, fB⟩ := B9.lkm
   have r3 := B9.low
   refine sV (v := (.tuple #[(.slice l7 l8 l9), (.int .i64 (f8))])) (rfl) (sV (v := (.slice l7 l8 l9)) (rfl) (sV (v := (.int .i64 (f8))) (rfl) (sAs rfl (sAi rfl (sK aR (wp_seq_k fun jQ aS => rS fun jR J9 => sMi rfl ?_))))))
   by_cases K0 : f8 ≠ 0
   ·refine sV (evNeq true rfl rfl (dT K0)) ?_
    have hnc : ¬ CoA xp (dsN fm) ∧ f8 = 5 := by rcases J8 with ⟨_, h, _⟩ | ⟨h, h2, _⟩; exact absurd h Qo; exact ⟨h, h2⟩
    refine sK J9 (cT rfl (rS fun jS aT => sMi rfl (sAs rfl (sAi rfl (sK aT (wp_ret (xR (nR (ret2 (.slice none 0 0) (.int .i64 (f8)) results22 (resT rfl) (resT rfl) ?_)))))))))
    have aU := A5.xr o2
    exact ⟨none, 0, 0, [], (f8), rfl, (Frm.mono aU q4), PolysR.nil, (.inl ⟨by rw [← hML]; exact hnc.1, hnc.2, rfl⟩), (fun x hx => by cases hx)⟩
   ·refine sV (evNeq false rfl rfl (dF K0)) ?_
    have ⟨hCo, ax, aV, dt⟩ := J8.resolve_right (fun h => by have := h.2.1; omega); rw [hML] at hCo
    refine sK J9 (cF rfl (wp_skip (xN (aS _ _ (rS fun jT aW => sMs rfl ?_)))))
    have r4 := A5.xr o2
    have ay := (hf.frmB r4 q3)
    refine sO (oCall rfl call41 (unipoly_Lead ay Qo Qo) rfl ?_)
    rintro _ jU ⟨fC, fD, fE, fF, fG, rfl, g6, C0, aX, fH, fI⟩
    have hX := g6.size
    have ⟨fJ, fK, fL⟩ := C0.lkm
    refine sMi rfl (sO (oCall rfl call24 (modular_Reduce C0 (xm := xp) Qo Qo Qo) rfl ?_))
    rintro _ jV ⟨b2, rfl, g7, fM, aY⟩
    have hZ := g7.size
    have hld : b2 = (md xp (ldP (zs lf))) := by rw [aY, aX]; rfl
    refine sAi rfl (sK aW (rS fun jW aZ => sMi rfl (sO (oBuildSlice [(.int .u32 b2)] [[(.int .u32 b2)]] underlying46 inf26 rfl rfl rfl rfl rfl (fun C1 K4 ia l3 ib A6 => ?_)))))
    replace A6 : Blk K4 C1 26 [(.int .u32 b2)] := A6
    refine sAs rfl (sK aZ (wp_seq_k fun ic N7 => rS fun id N8 => sMs rfl (sV (evLen underlying42 rfl) (sMi rfl (sK N8 (wp_block ?_))))))
    have ba : NatR K4 (fun b => b = C1) (some ⟨C1, 0, none⟩) 1 1 ([b2]) := NatR.of_blk A6 rfl (by simp [BS]; omega) (by exact lq) (by omega) (by unfold CapMax; omega)
    refine lLoop (fun m e w_ => ∃ (i2 : Nat) (Au : Option Addr) (nu : Nat) (cu : Nat) (du : List Nat), m = nl - i2 ∧ e 0 = (.slice Af nf cf) ∧ e 2 = (.int .u32 xp) ∧ e 3 = (.int .i64 xk) ∧ e 10 = (.slice (some ⟨g9, 0, none⟩) nl nl) ∧ e 13 = (.slice l7 l8 l9) ∧ e 15 = (.int .u32 b2) ∧ e 16 = (.slice Au nu cu) ∧ e 67 = (.slice (some ⟨g9, 0, none⟩) nl nl) ∧ e 68 = (.int .i64 nl) ∧ e 69 = (.int .i64 i2) ∧ Frm (fun b => False) K4 w_ ∧ (i2 ≤ nl) ∧ (NatR w_ (fun b => b < w_.heap.size) Au nu cu du) ∧ (nu ≤ 1 + 64 * i2) ∧ (du = prodN xp [b2] ((dsN fm).take i2))) (nl - (0)) ?_ ?_
    ·refine ⟨(0), ((some ⟨C1, 0, none⟩)), (1), (1), ([b2]), rfl, rfl, rfl, rfl, rfl, rfl, rfl, rfl, rfl, rfl, cI, (Frm.refl _ _), ?_, ?_, ?_, ?_⟩
     ·omega
     ·exact NatR.low ba
     ·omega
     ·rw [List.take_zero]; rfl
    ·rintro ie ig ih ⟨i2, Au, nu, cu, du, fN, N9, O0, O1, O2, O3, O4, O5, O6, O7, O8, b7, jX, hu, hnu, hpr⟩
     obtain ⟨ii, rfl⟩ := sq10 N9 O0 O1 O2 O3 O4 O5 O6 O7 O8
     have fO := b7.size
     have ⟨lu, ku, mu⟩ := hu.lkm
     refine rS fun ij C2 => ?_
     by_cases C3 : ((i2 : Int)) < ((nl : Int))
     ·refine sV (evLss true rfl rfl (dT C3)) (sK C2 (wp_seq_k fun ik O9 => cT rfl (wp_skip (xN (O9 _ _ (wp_seq_k fun il P0 => wp_block (rS fun im P1 => sV (evIx i2 underlying42 sz46 rfl rfl i2) ?_)))))))
      have P2 := (((o2.trans g6).trans g7).trans l3).trans b7
      have bb := (hGm.ext P2)
      obtain ⟨⟨C4, C5, C6, P3⟩, y5, g8, h0, dv, dw⟩ := bb.at_ (i := i2) Qo
      replace g8 : World.cell? _ _ = some (.slice C4 C5 C6) := g8; replace h0 : NatR _ _ C4 C5 C6 P3 := h0; have ⟨q1_136, q2_136, q3_136⟩ := h0.lkm
      rw [Nat.zero_add] at g8
      have hn64_136 := A4 _ (List.mem_of_getElem? y5); dsimp only at hn64_136
      refine sV (evLoad one46 rfl g8) (sAs rfl (sK P1 (wp_region_lit (sMs rfl (sMs rfl (sMi rfl (sO (oCall rfl call57 (modpoly_Mul hu h0 (xm := xp) Qo Qo Qo Qo) rfl ?_))))))))
      rintro _ io ⟨K5, K6, K7, K9, rfl, C7, y6, P4, dx, dy⟩
      have fP := C7.size
      have ⟨dz, dA, dB⟩ := y6.lkm
      refine sAs rfl (sDone (bN (xN (P0 _ _ (wp_region_lit (sV (evAdd (((i2 : Int)) + 1) rfl rfl wI) (sMi rfl (sDone (again (nl - (i2 + 1)) Qo ⟨(i2 + 1), (K5), (K6), (K7), (K9), rfl, rfl, rfl, rfl, rfl, rfl, rfl, rfl, rfl, rfl, cI, (b7.trans C7), ?_, ?_, ?_, ?_⟩)))))))))
      ·omega
      ·exact NatR.low y6
      ·omega
      ·exact prodN_next hpr (by rw [dsN_len]; omega) (dsN_get y5) P4
     ·refine sV (evLss false rfl rfl (dF C3)) (sK C2 (wp_seq_k fun ip fQ => cF rfl (wp_exit (xE (xE (bE (xN (N7 _ _ (wp_seq_k fun iq P5 => rS fun ir C8 => sMi rfl ?_)))))))))
      by_cases C9 : ((b2 : Int)) = 0
      ·refine sV (evEql true rfl rfl (dT C9)) ?_
       have e7 : (md xp (ldP (zs lf))) = 0 := by rw [← hld]; omega
       refine sMb rfl (sSkip rfl rfl (sSkip rfl rfl (sSkip rfl rfl (sSkip rfl rfl (sSkip rfl rfl (sSkip rfl rfl (sSkip rfl rfl (sV (v := (.bool true)) (rfl) (sK C8 (cT rfl (rS fun it P6 => sAs rfl (sAi rfl (sK P6 (wp_ret (xR (nR (ret2 (.slice none 0 0) (.int .i64 (3)) results22 (resT rfl) (resT rfl) ?_)))))))))))))))))
       have P7 := (((r4.xr g6).xr g7).xr l3).xr b7
       exact ⟨none, 0, 0, [], (3), rfl, (Frm.mono P7 q4), PolysR.nil, (.inr (.inl ⟨hCo, e7, rfl, rfl⟩)), (fun x hx => by cases hx)⟩
      ·refine sV (evEql false rfl rfl (dF C9)) ?_
       have hlead : (md xp (ldP (zs lf))) ≠ 0 := by rw [← hld]; omega
       have hsm := hsame hCo hlead
       refine sMb rfl (sEv (v := (.slice Au nu cu)) (rfl) rfl rfl (sEv (v := (.slice Af nf cf)) (rfl) rfl rfl (sEv (v := (.int .u32 xp)) (rfl) rfl rfl ?_)))
       have m0 := ((g6.trans g7).trans l3).trans b7
       have L2 := (ay.ext m0)
       refine sOp rfl (oCall rfl call20 (modpoly_Reduce L2 (xm := xp) Qo Qo Qo Qo) rfl ?_)
       rintro _ iu ⟨dC, dD, dE, dG, rfl, b3, y7, P8, dH, dI⟩
       have fR := b3.size
       have ⟨dJ, dK, dL⟩ := y7.lkm
       refine sEv (v := (.int .u32 xp)) (rfl) rfl rfl ?_
       have bc := (hu.ext b3)
       refine sOp rfl (oCall rfl call43 (modpoly_Same bc y7 (xm := xp) Qo Qo Qo Qo) rfl ?_)
       rintro _ iv ⟨L3, rfl, b8, P9⟩
       have fS := b8.size
       obtain rfl : L3 = true := by rw [P9, hpr, P8, List.take_of_length_le (by rw [dsN_len]; omega), hML, hld]; exact decide_eq_true hsm
       refine sEv (v := (.bool false)) (evNot _ rfl rfl) rfl rfl (sV (v := (.bool false)) (rfl) (sK C8 (cF rfl (wp_skip (xN (P5 _ _ (rS fun iw Q0 => sO (oAlloc [(.slice none 0 0), (.slice none 0 0)] zero92 rfl (fun g y fT e3 fU Q1 => sK Q0 (wp_seq_k fun ix Q2 => rS fun iy Q3 => sMs rfl (sV (evLen underlying42 rfl) (sMi rfl (sK Q3 (wp_block ?_))))))))))))))
       refine lLoop (fun m e w_ => ∃ (A : Nat) (o3 : Option Addr) (t : Nat) (o4 : Nat) (D : List PE) (X : Option Addr) (j : Nat) (Y : Nat) (E : List PE), m = nl - A ∧ e 0 = (.slice Af nf cf) ∧ e 2 = (.int .u32 xp) ∧ e 3 = (.int .i64 xk) ∧ e 13 = (.slice l7 l8 l9) ∧ e 19 = (.pointer (some ⟨g, 0, none⟩)) ∧ e 89 = (.slice (some ⟨g9, 0, none⟩) nl nl) ∧ e 90 = (.int .i64 nl) ∧ e 91 = (.int .i64 A) ∧ Frm (fun b => y.heap.size ≤ b ∨ b = g) y w_ ∧ Blk w_ g 92 ([(.slice o3 t o4), (.slice X j Y)]) ∧ (A ≤ nl) ∧ (OwnY 2 g w_ y.heap.size 39 o3 t o4 D X j Y E) ∧ (t = A ∧ j = A) ∧ (∀ x ∈ D, x.n ≤ 64) ∧ (∀ x ∈ E, x.n ≤ 64) ∧ (zsL D = symL xp ((dsN fm).take A)) ∧ (zsL E = symL xp ((dsN N6).take A))) (nl - (0)) ?_ ?_
       ·refine ⟨(0), (none), (0), (0), ([]), (none), (0), (0), ([]), rfl, rfl, rfl, rfl, rfl, rfl, rfl, rfl, cI, (Frm.refl _ _), ?_, ?_, ?_, ?_, ?_, ?_, ?_, ?_⟩
        ·exact Q1
        ·omega
        ·exact OwnY.nil Qo
        ·exact ⟨rfl, rfl⟩
        ·exact fun x hx => (by cases hx)
        ·exact fun x hx => (by cases hx)
        ·rw [List.take_zero]; rfl
        ·rw [List.take_zero]; rfl
       ·rintro iz iA bd ⟨A, o3, t, o4, D, X, j, Y, E, fV, Q4, Q5, Q6, Q7, Q8, Q9, R0, R1, C, h5, jY, hY, hnO, e7, g3, c5, c6⟩
        obtain ⟨iB, rfl⟩ := sq8 Q4 Q5 Q6 Q7 Q8 Q9 R0 R1
        have fW := C.size
        have ⟨⟨iC, iD, iE⟩, iF, iG, iH⟩ := hY.lkm
        refine rS fun iI D0 => ?_
        by_cases D1 : ((A : Int)) < ((nl : Int))
        ·refine sV (evLss true rfl rfl (dT D1)) (sK D0 (wp_seq_k fun iJ R2 => cT rfl (wp_skip (xN (R2 _ _ (wp_seq_k fun iK b4 => wp_block (rS fun iL R3 => sMi rfl (sV (evIx A underlying42 sz46 rfl rfl A) ?_))))))))
         have R4 := (((((((o2.trans g6).trans g7).trans l3).trans b7).trans b3).trans b8).trans e3).rx C
         have be := (hGm.frmB R4 q3)
         obtain ⟨⟨D2, D3, D4, R5⟩, V, h6, e8, dN, dO⟩ := be.at_ (i := A) Qo
         replace h6 : World.cell? _ _ = some (.slice D2 D3 D4) := h6; replace e8 : NatR _ _ D2 D3 D4 R5 := e8; have ⟨q1_200, q2_200, q3_200⟩ := e8.lkm
         rw [Nat.zero_add] at h6
         have hn64_200 := A4 _ (List.mem_of_getElem? V); dsimp only at hn64_200
         refine sV (evLoad one46 rfl h6) (sAi rfl (sAs rfl (sK R3 (wp_seq_k fun iM r5 => dBegin (fun b => y.heap.size ≤ b ∨ b = g) mixed (fun A7 b5 fX => dV 0 rfl (fun _ _ => evArr 0 underlying92 sz43 rfl rfl 0) (dMs 2 rfl rfl (dMi 3 rfl rfl (dTwo 1 4 (by kernel_rfl) ?_ ?_))))))))
         ·have D5 := (h5.ext b5)
          refine dWp (i := 1) rfl rfl (oEv (v := (.slice o3 t o4)) (evLoadB one43 rfl D5 rfl) rfl ⟨Frm.refl _ _, ?_⟩)
          have bf := (e8.ext b5)
          refine dOp 4 rfl rfl (by kernel_rfl) (oCall rfl call58 (modpoly_Symmetric bf (xm := xp) Qo Qo Qo) rfl ?_)
          rintro _ iN ⟨R, T, U, a3, rfl, h7, y8, r6, dP, dQ⟩
          refine ⟨(Frm.of_ext h7), ?_⟩
          have fY := h7.size
          have ⟨dR, dS, dU⟩ := y8.lkm
          refine dOp 5 rfl rfl (by kernel_rfl) (oBuildSlice [(.slice R T U)] [[(.slice R T U)]] underlying43 inf39 rfl rfl rfl rfl rfl (fun bg bh fZ h8 ga r7 => ⟨(Frm.of_ext h8), ?_⟩))
          replace r7 : Blk bh bg 39 [(.slice R T U)] := r7
          have m1 := (b5.trans h7).trans h8
          have D6 := (hY.ext m1)
          have bi := (y8.ext h8)
          refine dOp 6 rfl rfl (by kernel_rfl) (oAppT (L := LPx 2 g) (L' := LPx 2 g) (f := (⟨R, T, U, a3⟩ : PE)) (S := fun b => (fun b => A7.heap.size ≤ b) b) (B := y.heap.size) underlying43 inf39 rfl rfl rfl D6.2 r7 (PolyR.le (PolyR.sub bi (fun b hb_ hs => ⟨hs, by (try dsimp only at hs); omega⟩)) (by omega)) (fun b hb_ hs => ⟨fun a ha e => by have h9 := hY.2.a.lt a ha; (try dsimp only at hs); omega, fun a ha e => by have h9 := hY.2.b.lt a ha; (try dsimp only at hs); omega⟩) (by omega) (by omega) (by omega) (fun a6 a7 bj R6 e4 => ⟨(e4.mono q4), ?_⟩))
          have hY225y : OwnY 2 g bj y.heap.size 39 a6 (t + 1) a7 (D ++ [(⟨R, T, U, a3⟩ : PE)]) X (j) Y (E) := ⟨D6.1, R6⟩
          have gb := e4.size; have ⟨⟨_, _, _⟩, _, _, _⟩ := hY225y.lkm
          refine dV 7 rfl (fun _ _ => evArr 0 underlying92 sz43 rfl rfl 0) ?_
          have R7 := (h7.trans h8).rx e4
          have R8 := (D5.frm R7 q1)
          refine dOp 8 rfl rfl (by kernel_rfl) (oStore [(.slice a6 (t + 1) a7)] rfl rfl rfl sz43 rfl R8 Qn (fun bl b9 gc i0 => ?_))
          replace i0 : Blk bl g 92 [(.slice a6 (t + 1) a7), (.slice X j Y)] := i0
          refine ⟨(b9.mono q4), dDone (by kernel_rfl) (xN (r5 _ _ (dBegin (fun b => y.heap.size ≤ b ∨ b = g) mixed (fun A8 a0 gd => dV 0 rfl (fun _ _ => evArr 1 underlying92 sz43 rfl rfl 1) (dMs 2 rfl rfl (dMi 3 rfl rfl ?_))))))⟩
          have R9 := (((((((((m0.trans b3).trans b8).trans e3).rx C).xr b5).xr h7).xr h8).tr e4).tr b9).xr a0
          have L4 := (r3.frmB R9 q3)
          obtain ⟨iO, bm, rfl⟩ := L4.base Qo
          refine dV 4 rfl (fun _ _ => evIx A underlying42 sz46 rfl rfl (bm + A)) ?_
          obtain ⟨⟨D7, D8, D9, S0⟩, i1, o5, e9, L5, L6⟩ := L4.at_ (i := A) Qo
          replace o5 : World.cell? _ _ = some (.slice D7 D8 D9) := o5; replace e9 : NatR _ _ D7 D8 D9 S0 := e9; have ⟨q1_241, q2_241, q3_241⟩ := e9.lkm
          have hn64_241 := r2 _ (List.mem_of_getElem? i1); dsimp only at hn64_241
          refine dV 5 rfl (fun _ hf => evLoad one46 rfl ((hf.cell (p := ⟨_, _, none⟩) L6 (by (try dsimp only at L5 ⊢); omega)).trans o5)) (dMi 6 rfl rfl (dTwo 1 7 (by kernel_rfl) ?_ ?_))
          ·have E0 := (i0.ext a0)
           refine dWp (i := 1) rfl rfl (oEv (v := (.slice X j Y)) (evLoadB one43 rfl E0 rfl) rfl ⟨Frm.refl _ _, dOp 7 rfl rfl (by kernel_rfl) (oCall rfl call58 (modpoly_Symmetric e9 (xm := xp) Qo Qo Qo) rfl ?_)⟩)
           rintro _ iP ⟨c8, c9, d0, o6, rfl, i4, y9, S1, dW, dX⟩
           refine ⟨(Frm.of_ext i4), ?_⟩
           have ge := i4.size
           have ⟨dY, dZ, ea⟩ := y9.lkm
           refine dOp 8 rfl rfl (by kernel_rfl) (oBuildSlice [(.slice c8 c9 d0)] [[(.slice c8 c9 d0)]] underlying43 inf39 rfl rfl rfl rfl rfl (fun bn bo gf i5 gg r8 => ⟨(Frm.of_ext i5), ?_⟩))
           replace r8 : Blk bo bn 39 [(.slice c8 c9 d0)] := r8
           have S2 := ((b9.xr a0).xr i4).xr i5
           have E1 := (hY225y.frmB S2 q3)
           have bq := (y9.ext i5)
           refine dOp 9 rfl rfl (by kernel_rfl) (oAppT (L := LPx 2 g) (L' := LPx 2 g) (f := (⟨c8, c9, d0, o6⟩ : PE)) (S := fun b => (fun b => A8.heap.size ≤ b) b) (B := y.heap.size) underlying43 inf39 rfl rfl rfl (OwnY.swap E1).2 r8 (PolyR.le (PolyR.sub bq (fun b hb_ hs => ⟨hs, by (try dsimp only at hs); omega⟩)) (by omega)) (fun b hb_ hs => ⟨fun a ha e => by have h9 := hY225y.2.b.lt a ha; (try dsimp only at hs); omega, fun a ha e => by have h9 := hY225y.2.a.lt a ha; (try dsimp only at hs); omega⟩) (by omega) (by omega) (by omega) (fun r9 s0 br s1 m2 => ⟨(m2.mono q4), ?_⟩))
           replace s1 := OwnT.swap s1
           have hY261y : OwnY 2 g br y.heap.size 39 a6 (t + 1) a7 (D ++ [(⟨R, T, U, a3⟩ : PE)]) r9 (j + 1) s0 (E ++ [(⟨c8, c9, d0, o6⟩ : PE)]) := ⟨E1.1, s1⟩
           have gh := m2.size; have ⟨⟨_, _, _⟩, _, _, _⟩ := hY261y.lkm
           refine dV 10 rfl (fun _ _ => evArr 1 underlying92 sz43 rfl rfl 1) ?_
           have S3 := (i4.trans i5).rx m2
           have S4 := (E0.frm S3 q1)
           refine dOp 11 rfl rfl (by kernel_rfl) (oStore [(.slice r9 (j + 1) s0)] rfl rfl rfl sz43 rfl S4 Qn (fun bs s2 gi s3 => ?_))
           replace s3 : Blk bs g 92 [(.slice a6 (t + 1) a7), (.slice r9 (j + 1) s0)] := s3
           refine ⟨(s2.mono q4), dDone (by kernel_rfl) (bN (xN (b4 _ _ (wp_region_lit (sV (evAdd (((A : Int)) + 1) rfl rfl wI) (sMi rfl (sDone ?_)))))))⟩
           have S5 := ((((((m1.rx e4).tr b9).xr a0).xr i4).xr i5).tr m2).tr s2
           have S6 := (hY261y.frmB s2 q3)
           refine again (nl - (A + 1)) Qo ⟨(A + 1), (a6), (t + 1), (a7), (D ++ [(⟨R, T, U, a3⟩ : PE)]), (r9), (j + 1), (s0), (E ++ [(⟨c8, c9, d0, o6⟩ : PE)]), rfl, rfl, rfl, rfl, rfl, rfl, rfl, rfl, cI, (Frm.mono (C.tr S5) q4), ?_, ?_, ?_, ?_, ?_, ?_, ?_, ?_⟩
           ·exact s3
           ·omega
           ·exact S6
           ·omega
           ·exact lenL_snoc e7 (by (try dsimp only); omega)
           ·exact lenL_snoc g3 (by (try dsimp only); omega)
           ·exact symL_next c5 (by rw [dsN_len]; omega) (dsN_get V) r6
           ·exact symL_next c6 (by rw [dsN_len, Z]; omega) (dsN_get i1) S1
          ·refine dWp (i := 7) rfl rfl (oCall rfl call58 (modpoly_Symmetric e9 (xm := xp) Qo Qo Qo) rfl ?_)
           rintro _ iQ ⟨F, G, H, d1, rfl, c0, o7, E2, eb, ec⟩
           refine ⟨(Frm.of_ext c0), ?_⟩
           have gj := c0.size
           have ⟨ed, ef, eg⟩ := o7.lkm
           refine dTwo 1 8 (by kernel_rfl) ?_ ?_
           ·have S7 := a0.trans c0
            have E3 := (i0.ext S7)
            refine dWp (i := 1) rfl rfl (oEv (v := (.slice X j Y)) (evLoadB one43 rfl E3 rfl) rfl ⟨Frm.refl _ _, dOp 8 rfl rfl (by kernel_rfl) (oBuildSlice [(.slice F G H)] [[(.slice F G H)]] underlying43 inf39 rfl rfl rfl rfl rfl (fun bt bu gk i6 gl s4 => ⟨(Frm.of_ext i6), ?_⟩))⟩)
            replace s4 : Blk bu bt 39 [(.slice F G H)] := s4
            have S8 := ((b9.xr a0).xr c0).xr i6
            have E4 := (hY225y.frmB S8 q3)
            have bv := (o7.ext i6)
            refine dOp 9 rfl rfl (by kernel_rfl) (oAppT (L := LPx 2 g) (L' := LPx 2 g) (f := (⟨F, G, H, d1⟩ : PE)) (S := fun b => (fun b => A8.heap.size ≤ b) b) (B := y.heap.size) underlying43 inf39 rfl rfl rfl (OwnY.swap E4).2 s4 (PolyR.le (PolyR.sub bv (fun b hb_ hs => ⟨hs, by (try dsimp only at hs); omega⟩)) (by omega)) (fun b hb_ hs => ⟨fun a ha e => by have h9 := hY225y.2.b.lt a ha; (try dsimp only at hs); omega, fun a ha e => by have h9 := hY225y.2.a.lt a ha; (try dsimp only at hs); omega⟩) (by omega) (by omega) (by omega) (fun s5 s6 bw s7 m3 => ⟨(m3.mono q4), ?_⟩))
            replace s7 := OwnT.swap s7
            have hY291y : OwnY 2 g bw y.heap.size 39 a6 (t + 1) a7 (D ++ [(⟨R, T, U, a3⟩ : PE)]) s5 (j + 1) s6 (E ++ [(⟨F, G, H, d1⟩ : PE)]) := ⟨E4.1, s7⟩
            have gm := m3.size; have ⟨⟨_, _, _⟩, _, _, _⟩ := hY291y.lkm
            refine dV 10 rfl (fun _ _ => evArr 1 underlying92 sz43 rfl rfl 1) ?_
            have S9 := i6.rx m3
            have T0 := (E3.frm S9 q1)
            refine dOp 11 rfl rfl (by kernel_rfl) (oStore [(.slice s5 (j + 1) s6)] rfl rfl rfl sz43 rfl T0 Qn (fun bx s8 gn s9 => ?_))
            replace s9 : Blk bx g 92 [(.slice a6 (t + 1) a7), (.slice s5 (j + 1) s6)] := s9
            refine ⟨(s8.mono q4), dDone (by kernel_rfl) (bN (xN (b4 _ _ (wp_region_lit (sV (evAdd (((A : Int)) + 1) rfl rfl wI) (sMi rfl (sDone ?_)))))))⟩
            have T1 := ((((((m1.rx e4).tr b9).xr a0).xr c0).xr i6).tr m3).tr s8
            have T2 := (hY291y.frmB s8 q3)
            refine again (nl - (A + 1)) Qo ⟨(A + 1), (a6), (t + 1), (a7), (D ++ [(⟨R, T, U, a3⟩ : PE)]), (s5), (j + 1), (s6), (E ++ [(⟨F, G, H, d1⟩ : PE)]), rfl, rfl, rfl, rfl, rfl, rfl, rfl, rfl, cI, (Frm.mono (C.tr T1) q4), ?_, ?_, ?_, ?_, ?_, ?_, ?_, ?_⟩
            ·exact s9
            ·omega
            ·exact T2
            ·omega
            ·exact lenL_snoc e7 (by (try dsimp only); omega)
            ·exact lenL_snoc g3 (by (try dsimp only); omega)
            ·exact symL_next c5 (by rw [dsN_len]; omega) (dsN_get V) r6
            ·exact symL_next c6 (by rw [dsN_len, Z]; omega) (dsN_get i1) E2
           ·refine dWp (i := 8) rfl rfl (oBuildSlice [(.slice F G H)] [[(.slice F G H)]] underlying43 inf39 rfl rfl rfl rfl rfl (fun bz bA go i7 gp t0 => ⟨(Frm.of_ext i7), ?_⟩))
            replace t0 : Blk bA bz 39 [(.slice F G H)] := t0
            have T3 := (a0.trans c0).trans i7
            have E5 := (i0.ext T3)
            refine dOp 1 rfl rfl (by kernel_rfl) (oEv (v := (.slice X j Y)) (evLoadB one43 rfl E5 rfl) rfl ⟨Frm.refl _ _, ?_⟩)
            have T4 := ((b9.xr a0).xr c0).xr i7
            have E6 := (hY225y.frmB T4 q3)
            have bB := (o7.ext i7)
            refine dOp 9 rfl rfl (by kernel_rfl) (oAppT (L := LPx 2 g) (L' := LPx 2 g) (f := (⟨F, G, H, d1⟩ : PE)) (S := fun b => (fun b => A8.heap.size ≤ b) b) (B := y.heap.size) underlying43 inf39 rfl rfl rfl (OwnY.swap E6).2 t0 (PolyR.le (PolyR.sub bB (fun b hb_ hs => ⟨hs, by (try dsimp only at hs); omega⟩)) (by omega)) (fun b hb_ hs => ⟨fun a ha e => by have h9 := hY225y.2.b.lt a ha; (try dsimp only at hs); omega, fun a ha e => by have h9 := hY225y.2.a.lt a ha; (try dsimp only at hs); omega⟩) (by omega) (by omega) (by omega) (fun t1 t2 bC t3 m4 => ⟨(m4.mono q4), ?_⟩))
            replace t3 := OwnT.swap t3
            have hY316y : OwnY 2 g bC y.heap.size 39 a6 (t + 1) a7 (D ++ [(⟨R, T, U, a3⟩ : PE)]) t1 (j + 1) t2 (E ++ [(⟨F, G, H, d1⟩ : PE)]) := ⟨E6.1, t3⟩
            have gq := m4.size; have ⟨⟨_, _, _⟩, _, _, _⟩ := hY316y.lkm
            refine dV 10 rfl (fun _ _ => evArr 1 underlying92 sz43 rfl rfl 1) ?_
            have T5 := (E5.frm m4 q1)
            refine dOp 11 rfl rfl (by kernel_rfl) (oStore [(.slice t1 (j + 1) t2)] rfl rfl rfl sz43 rfl T5 Qn (fun bD t4 gr t5 => ?_))
            replace t5 : Blk bD g 92 [(.slice a6 (t + 1) a7), (.slice t1 (j + 1) t2)] := t5
            refine ⟨(t4.mono q4), dDone (by kernel_rfl) (bN (xN (b4 _ _ (wp_region_lit (sV (evAdd (((A : Int)) + 1) rfl rfl wI) (sMi rfl (sDone ?_)))))))⟩
            have T6 := ((((((m1.rx e4).tr b9).xr a0).xr c0).xr i7).tr m4).tr t4
            have T7 := (hY316y.frmB t4 q3)
            refine again (nl - (A + 1)) Qo ⟨(A + 1), (a6), (t + 1), (a7), (D ++ [(⟨R, T, U, a3⟩ : PE)]), (t1), (j + 1), (t2), (E ++ [(⟨F, G, H, d1⟩ : PE)]), rfl, rfl, rfl, rfl, rfl, rfl, rfl, rfl, cI, (Frm.mono (C.tr T6) q4), ?_, ?_, ?_, ?_, ?_, ?_, ?_, ?_⟩
            ·exact t5
            ·omega
            ·exact T7
            ·omega
            ·exact lenL_snoc e7 (by (try dsimp only); omega)
            ·exact lenL_snoc g3 (by (try dsimp only); omega)
            ·exact symL_next c5 (by rw [dsN_len]; omega) (dsN_get V) r6
            ·exact symL_next c6 (by rw [dsN_len, Z]; omega) (dsN_get i1) E2
         ·have bF := (e8.ext b5)
          refine dWp (i := 4) rfl rfl (oCall rfl call58 (modpoly_Symmetric bF (xm := xp) Qo Qo Qo) rfl ?_)
          rintro _ iR ⟨o, q, s, z, rfl, f9, o8, g0, eh, ei⟩
          refine ⟨(Frm.of_ext f9), ?_⟩
          have gs := f9.size
          have ⟨ej, ek, el⟩ := o8.lkm
          refine dTwo 1 5 (by kernel_rfl) ?_ ?_
          ·have E7 := b5.trans f9
           have E8 := (h5.ext E7)
           refine dWp (i := 1) rfl rfl (oEv (v := (.slice o3 t o4)) (evLoadB one43 rfl E8 rfl) rfl ⟨Frm.refl _ _, dOp 5 rfl rfl (by kernel_rfl) (oBuildSlice [(.slice o q s)] [[(.slice o q s)]] underlying43 inf39 rfl rfl rfl rfl rfl (fun bG bH gt i8 gu t6 => ⟨(Frm.of_ext i8), ?_⟩))⟩)
           replace t6 : Blk bH bG 39 [(.slice o q s)] := t6
           have m5 := E7.trans i8
           have E9 := (hY.ext m5)
           have bI := (o8.ext i8)
           refine dOp 6 rfl rfl (by kernel_rfl) (oAppT (L := LPx 2 g) (L' := LPx 2 g) (f := (⟨o, q, s, z⟩ : PE)) (S := fun b => (fun b => A7.heap.size ≤ b) b) (B := y.heap.size) underlying43 inf39 rfl rfl rfl E9.2 t6 (PolyR.le (PolyR.sub bI (fun b hb_ hs => ⟨hs, by (try dsimp only at hs); omega⟩)) (by omega)) (fun b hb_ hs => ⟨fun a ha e => by have h9 := hY.2.a.lt a ha; (try dsimp only at hs); omega, fun a ha e => by have h9 := hY.2.b.lt a ha; (try dsimp only at hs); omega⟩) (by omega) (by omega) (by omega) (fun a8 a9 bJ T8 e5 => ⟨(e5.mono q4), ?_⟩))
           have hY346y : OwnY 2 g bJ y.heap.size 39 a8 (t + 1) a9 (D ++ [(⟨o, q, s, z⟩ : PE)]) X (j) Y (E) := ⟨E9.1, T8⟩
           have gv := e5.size; have ⟨⟨_, _, _⟩, _, _, _⟩ := hY346y.lkm
           refine dV 7 rfl (fun _ _ => evArr 0 underlying92 sz43 rfl rfl 0) ?_
           have T9 := i8.rx e5
           have U0 := (E8.frm T9 q1)
           refine dOp 8 rfl rfl (by kernel_rfl) (oStore [(.slice a8 (t + 1) a9)] rfl rfl rfl sz43 rfl U0 Qn (fun bK c1 gw i9 => ?_))
           replace i9 : Blk bK g 92 [(.slice a8 (t + 1) a9), (.slice X j Y)] := i9
           refine ⟨(c1.mono q4), dDone (by kernel_rfl) (xN (r5 _ _ (dBegin (fun b => y.heap.size ≤ b ∨ b = g) mixed (fun A9 a1 gx => dV 0 rfl (fun _ _ => evArr 1 underlying92 sz43 rfl rfl 1) (dMs 2 rfl rfl (dMi 3 rfl rfl ?_))))))⟩
           have U1 := (((((((((m0.trans b3).trans b8).trans e3).rx C).xr b5).xr f9).xr i8).tr e5).tr c1).xr a1
           have L7 := (r3.frmB U1 q3)
           obtain ⟨iS, bL, rfl⟩ := L7.base Qo
           refine dV 4 rfl (fun _ _ => evIx A underlying42 sz46 rfl rfl (bL + A)) ?_
           obtain ⟨⟨F0, F1, F2, U2⟩, j0, o9, f0, L8, L9⟩ := L7.at_ (i := A) Qo
           replace o9 : World.cell? _ _ = some (.slice F0 F1 F2) := o9; replace f0 : NatR _ _ F0 F1 F2 U2 := f0; have ⟨q1_362, q2_362, q3_362⟩ := f0.lkm
           have hn64_362 := r2 _ (List.mem_of_getElem? j0); dsimp only at hn64_362
           refine dV 5 rfl (fun _ hf => evLoad one46 rfl ((hf.cell (p := ⟨_, _, none⟩) L9 (by (try dsimp only at L8 ⊢); omega)).trans o9)) (dMi 6 rfl rfl (dTwo 1 7 (by kernel_rfl) ?_ ?_))
           ·have F3 := (i9.ext a1)
            refine dWp (i := 1) rfl rfl (oEv (v := (.slice X j Y)) (evLoadB one43 rfl F3 rfl) rfl ⟨Frm.refl _ _, dOp 7 rfl rfl (by kernel_rfl) (oCall rfl call58 (modpoly_Symmetric f0 (xm := xp) Qo Qo Qo) rfl ?_)⟩)
            rintro _ iT ⟨d2, d3, d4, p0, rfl, j1, z0, U3, em, en⟩
            refine ⟨(Frm.of_ext j1), ?_⟩
            have gy := j1.size
            have ⟨eo, ep, eq⟩ := z0.lkm
            refine dOp 8 rfl rfl (by kernel_rfl) (oBuildSlice [(.slice d2 d3 d4)] [[(.slice d2 d3 d4)]] underlying43 inf39 rfl rfl rfl rfl rfl (fun bM bP gz j2 gA t7 => ⟨(Frm.of_ext j2), ?_⟩))
            replace t7 : Blk bP bM 39 [(.slice d2 d3 d4)] := t7
            have U4 := ((c1.xr a1).xr j1).xr j2
            have F4 := (hY346y.frmB U4 q3)
            have bQ := (z0.ext j2)
            refine dOp 9 rfl rfl (by kernel_rfl) (oAppT (L := LPx 2 g) (L' := LPx 2 g) (f := (⟨d2, d3, d4, p0⟩ : PE)) (S := fun b => (fun b => A9.heap.size ≤ b) b) (B := y.heap.size) underlying43 inf39 rfl rfl rfl (OwnY.swap F4).2 t7 (PolyR.le (PolyR.sub bQ (fun b hb_ hs => ⟨hs, by (try dsimp only at hs); omega⟩)) (by omega)) (fun b hb_ hs => ⟨fun a ha e => by have h9 := hY346y.2.b.lt a ha; (try dsimp only at hs); omega, fun a ha e => by have h9 := hY346y.2.a.lt a ha; (try dsimp only at hs); omega⟩) (by omega) (by omega) (by omega) (fun t8 t9 bR u0 m6 => ⟨(m6.mono q4), ?_⟩))
            replace u0 := OwnT.swap u0
            have hY382y : OwnY 2 g bR y.heap.size 39 a8 (t + 1) a9 (D ++ [(⟨o, q, s, z⟩ : PE)]) t8 (j + 1) t9 (E ++ [(⟨d2, d3, d4, p0⟩ : PE)]) := ⟨F4.1, u0⟩
            have gB := m6.size; have ⟨⟨_, _, _⟩, _, _, _⟩ := hY382y.lkm
            refine dV 10 rfl (fun _ _ => evArr 1 underlying92 sz43 rfl rfl 1) ?_
            have U5 := (j1.trans j2).rx m6
            have U6 := (F3.frm U5 q1)
            refine dOp 11 rfl rfl (by kernel_rfl) (oStore [(.slice t8 (j + 1) t9)] rfl rfl rfl sz43 rfl U6 Qn (fun bS u1 gC u2 => ?_))
            replace u2 : Blk bS g 92 [(.slice a8 (t + 1) a9), (.slice t8 (j + 1) t9)] := u2
            refine ⟨(u1.mono q4), dDone (by kernel_rfl) (bN (xN (b4 _ _ (wp_region_lit (sV (evAdd (((A : Int)) + 1) rfl rfl wI) (sMi rfl (sDone ?_)))))))⟩
            have U7 := ((((((m5.rx e5).tr c1).xr a1).xr j1).xr j2).tr m6).tr u1
            have U8 := (hY382y.frmB u1 q3)
            refine again (nl - (A + 1)) Qo ⟨(A + 1), (a8), (t + 1), (a9), (D ++ [(⟨o, q, s, z⟩ : PE)]), (t8), (j + 1), (t9), (E ++ [(⟨d2, d3, d4, p0⟩ : PE)]), rfl, rfl, rfl, rfl, rfl, rfl, rfl, rfl, cI, (Frm.mono (C.tr U7) q4), ?_, ?_, ?_, ?_, ?_, ?_, ?_, ?_⟩
            ·exact u2
            ·omega
            ·exact U8
            ·omega
            ·exact lenL_snoc e7 (by (try dsimp only); omega)
            ·exact lenL_snoc g3 (by (try dsimp only); omega)
            ·exact symL_next c5 (by rw [dsN_len]; omega) (dsN_get V) g0
            ·exact symL_next c6 (by rw [dsN_len, Z]; omega) (dsN_get j0) U3
           ·refine dWp (i := 7) rfl rfl (oCall rfl call58 (modpoly_Symmetric f0 (xm := xp) Qo Qo Qo) rfl ?_)
            rintro _ iU ⟨I, J, N, d5, rfl, c2, p1, F5, er, es⟩
            refine ⟨(Frm.of_ext c2), ?_⟩
            have gD := c2.size
            have ⟨et, eu, ev⟩ := p1.lkm
            refine dTwo 1 8 (by kernel_rfl) ?_ ?_
            ·have U9 := a1.trans c2
             have F6 := (i9.ext U9)
             refine dWp (i := 1) rfl rfl (oEv (v := (.slice X j Y)) (evLoadB one43 rfl F6 rfl) rfl ⟨Frm.refl _ _, dOp 8 rfl rfl (by kernel_rfl) (oBuildSlice [(.slice I J N)] [[(.slice I J N)]] underlying43 inf39 rfl rfl rfl rfl rfl (fun bT bU gE j3 gF u3 => ⟨(Frm.of_ext j3), ?_⟩))⟩)
             replace u3 : Blk bU bT 39 [(.slice I J N)] := u3
             have V0 := ((c1.xr a1).xr c2).xr j3
             have F7 := (hY346y.frmB V0 q3)
             have bV := (p1.ext j3)
             refine dOp 9 rfl rfl (by kernel_rfl) (oAppT (L := LPx 2 g) (L' := LPx 2 g) (f := (⟨I, J, N, d5⟩ : PE)) (S := fun b => (fun b => A9.heap.size ≤ b) b) (B := y.heap.size) underlying43 inf39 rfl rfl rfl (OwnY.swap F7).2 u3 (PolyR.le (PolyR.sub bV (fun b hb_ hs => ⟨hs, by (try dsimp only at hs); omega⟩)) (by omega)) (fun b hb_ hs => ⟨fun a ha e => by have h9 := hY346y.2.b.lt a ha; (try dsimp only at hs); omega, fun a ha e => by have h9 := hY346y.2.a.lt a ha; (try dsimp only at hs); omega⟩) (by omega) (by omega) (by omega) (fun u4 u5 bW u6 m7 => ⟨(m7.mono q4), ?_⟩))
             replace u6 := OwnT.swap u6
             have hY412y : OwnY 2 g bW y.heap.size 39 a8 (t + 1) a9 (D ++ [(⟨o, q, s, z⟩ : PE)]) u4 (j + 1) u5 (E ++ [(⟨I, J, N, d5⟩ : PE)]) := ⟨F7.1, u6⟩
             have gG := m7.size; have ⟨⟨_, _, _⟩, _, _, _⟩ := hY412y.lkm
             refine dV 10 rfl (fun _ _ => evArr 1 underlying92 sz43 rfl rfl 1) ?_
             have V1 := j3.rx m7
             have V2 := (F6.frm V1 q1)
             refine dOp 11 rfl rfl (by kernel_rfl) (oStore [(.slice u4 (j + 1) u5)] rfl rfl rfl sz43 rfl V2 Qn (fun bX u7 gH u8 => ?_))
             replace u8 : Blk bX g 92 [(.slice a8 (t + 1) a9), (.slice u4 (j + 1) u5)] := u8
             refine ⟨(u7.mono q4), dDone (by kernel_rfl) (bN (xN (b4 _ _ (wp_region_lit (sV (evAdd (((A : Int)) + 1) rfl rfl wI) (sMi rfl (sDone ?_)))))))⟩
             have V3 := ((((((m5.rx e5).tr c1).xr a1).xr c2).xr j3).tr m7).tr u7
             have V4 := (hY412y.frmB u7 q3)
             refine again (nl - (A + 1)) Qo ⟨(A + 1), (a8), (t + 1), (a9), (D ++ [(⟨o, q, s, z⟩ : PE)]), (u4), (j + 1), (u5), (E ++ [(⟨I, J, N, d5⟩ : PE)]), rfl, rfl, rfl, rfl, rfl, rfl, rfl, rfl, cI, (Frm.mono (C.tr V3) q4), ?_, ?_, ?_, ?_, ?_, ?_, ?_, ?_⟩
             ·exact u8
             ·omega
             ·exact V4
             ·omega
             ·exact lenL_snoc e7 (by (try dsimp only); omega)
             ·exact lenL_snoc g3 (by (try dsimp only); omega)
             ·exact symL_next c5 (by rw [dsN_len]; omega) (dsN_get V) g0
             ·exact symL_next c6 (by rw [dsN_len, Z]; omega) (dsN_get j0) F5
            ·refine dWp (i := 8) rfl rfl (oBuildSlice [(.slice I J N)] [[(.slice I J N)]] underlying43 inf39 rfl rfl rfl rfl rfl (fun bY bZ gI j4 gJ u9 => ⟨(Frm.of_ext j4), ?_⟩))
             replace u9 : Blk bZ bY 39 [(.slice I J N)] := u9
             have V5 := (a1.trans c2).trans j4
             have F8 := (i9.ext V5)
             refine dOp 1 rfl rfl (by kernel_rfl) (oEv (v := (.slice X j Y)) (evLoadB one43 rfl F8 rfl) rfl ⟨Frm.refl _ _, ?_⟩)
             have V6 := ((c1.xr a1).xr c2).xr j4
             have F9 := (hY346y.frmB V6 q3)
             have ca := (p1.ext j4)
             refine dOp 9 rfl rfl (by kernel_rfl) (oAppT (L := LPx 2 g) (L' := LPx 2 g) (f := (⟨I, J, N, d5⟩ : PE)) (S := fun b => (fun b => A9.heap.size ≤ b) b) (B := y.heap.size) underlying43 inf39 rfl rfl rfl (OwnY.swap F9).2 u9 (PolyR.le (PolyR.sub ca (fun b hb_ hs => ⟨hs, by (try dsimp only at hs); omega⟩)) (by omega)) (fun b hb_ hs => ⟨fun a ha e => by have h9 := hY346y.2.b.lt a ha; (try dsimp only at hs); omega, fun a ha e => by have h9 := hY346y.2.a.lt a ha; (try dsimp only at hs); omega⟩) (by omega) (by omega) (by omega) (fun v0 v1 cb v2 m8 => ⟨(m8.mono q4), ?_⟩))
             replace v2 := OwnT.swap v2
             have hY437y : OwnY 2 g cb y.heap.size 39 a8 (t + 1) a9 (D ++ [(⟨o, q, s, z⟩ : PE)]) v0 (j + 1) v1 (E ++ [(⟨I, J, N, d5⟩ : PE)]) := ⟨F9.1, v2⟩
             have gK := m8.size; have ⟨⟨_, _, _⟩, _, _, _⟩ := hY437y.lkm
             refine dV 10 rfl (fun _ _ => evArr 1 underlying92 sz43 rfl rfl 1) ?_
             have V7 := (F8.frm m8 q1)
             refine dOp 11 rfl rfl (by kernel_rfl) (oStore [(.slice v0 (j + 1) v1)] rfl rfl rfl sz43 rfl V7 Qn (fun cc v3 gL v4 => ?_))
             replace v4 : Blk cc g 92 [(.slice a8 (t + 1) a9), (.slice v0 (j + 1) v1)] := v4
             refine ⟨(v3.mono q4), dDone (by kernel_rfl) (bN (xN (b4 _ _ (wp_region_lit (sV (evAdd (((A : Int)) + 1) rfl rfl wI) (sMi rfl (sDone ?_)))))))⟩
             have V8 := ((((((m5.rx e5).tr c1).xr a1).xr c2).xr j4).tr m8).tr v3
             have V9 := (hY437y.frmB v3 q3)
             refine again (nl - (A + 1)) Qo ⟨(A + 1), (a8), (t + 1), (a9), (D ++ [(⟨o, q, s, z⟩ : PE)]), (v0), (j + 1), (v1), (E ++ [(⟨I, J, N, d5⟩ : PE)]), rfl, rfl, rfl, rfl, rfl, rfl, rfl, rfl, cI, (Frm.mono (C.tr V8) q4), ?_, ?_, ?_, ?_, ?_, ?_, ?_, ?_⟩
             ·exact v4
             ·omega
             ·exact V9
             ·omega
             ·exact lenL_snoc e7 (by (try dsimp only); omega)
             ·exact lenL_snoc g3 (by (try dsimp only); omega)
             ·exact symL_next c5 (by rw [dsN_len]; omega) (dsN_get V) g0
             ·exact symL_next c6 (by rw [dsN_len, Z]; omega) (dsN_get j0) F5
          ·refine dWp (i := 5) rfl rfl (oBuildSlice [(.slice o q s)] [[(.slice o q s)]] underlying43 inf39 rfl rfl rfl rfl rfl (fun cd ce gN m9 gO v5 => ⟨(Frm.of_ext m9), ?_⟩))
           replace v5 : Blk ce cd 39 [(.slice o q s)] := v5
           have j5 := (b5.trans f9).trans m9
           have G0 := (h5.ext j5)
           refine dOp 1 rfl rfl (by kernel_rfl) (oEv (v := (.slice o3 t o4)) (evLoadB one43 rfl G0 rfl) rfl ⟨Frm.refl _ _, ?_⟩)
           have G1 := (hY.ext j5)
           have cg := (o8.ext m9)
           refine dOp 6 rfl rfl (by kernel_rfl) (oAppT (L := LPx 2 g) (L' := LPx 2 g) (f := (⟨o, q, s, z⟩ : PE)) (S := fun b => (fun b => A7.heap.size ≤ b) b) (B := y.heap.size) underlying43 inf39 rfl rfl rfl G1.2 v5 (PolyR.le (PolyR.sub cg (fun b hb_ hs => ⟨hs, by (try dsimp only at hs); omega⟩)) (by omega)) (fun b hb_ hs => ⟨fun a ha e => by have h9 := hY.2.a.lt a ha; (try dsimp only at hs); omega, fun a ha e => by have h9 := hY.2.b.lt a ha; (try dsimp only at hs); omega⟩) (by omega) (by omega) (by omega) (fun b0 b1 ch W0 e6 => ⟨(e6.mono q4), ?_⟩))
           have hY460y : OwnY 2 g ch y.heap.size 39 b0 (t + 1) b1 (D ++ [(⟨o, q, s, z⟩ : PE)]) X (j) Y (E) := ⟨G1.1, W0⟩
           have gP := e6.size; have ⟨⟨_, _, _⟩, _, _, _⟩ := hY460y.lkm
           refine dV 7 rfl (fun _ _ => evArr 0 underlying92 sz43 rfl rfl 0) ?_
           have W1 := (G0.frm e6 q1)
           refine dOp 8 rfl rfl (by kernel_rfl) (oStore [(.slice b0 (t + 1) b1)] rfl rfl rfl sz43 rfl W1 Qn (fun ci c3 gQ j6 => ?_))
           replace j6 : Blk ci g 92 [(.slice b0 (t + 1) b1), (.slice X j Y)] := j6
           refine ⟨(c3.mono q4), dDone (by kernel_rfl) (xN (r5 _ _ (dBegin (fun b => y.heap.size ≤ b ∨ b = g) mixed (fun B0 a2 gR => dV 0 rfl (fun _ _ => evArr 1 underlying92 sz43 rfl rfl 1) (dMs 2 rfl rfl (dMi 3 rfl rfl ?_))))))⟩
           have W2 := (((((((((m0.trans b3).trans b8).trans e3).rx C).xr b5).xr f9).xr m9).tr e6).tr c3).xr a2
           have M0 := (r3.frmB W2 q3)
           obtain ⟨iV, cj, rfl⟩ := M0.base Qo
           refine dV 4 rfl (fun _ _ => evIx A underlying42 sz46 rfl rfl (cj + A)) ?_
           obtain ⟨⟨G2, G3, G4, W3⟩, j7, p2, f1, M1, M2⟩ := M0.at_ (i := A) Qo
           replace p2 : World.cell? _ _ = some (.slice G2 G3 G4) := p2; replace f1 : NatR _ _ G2 G3 G4 W3 := f1; have ⟨q1_475, q2_475, q3_475⟩ := f1.lkm
           have hn64_475 := r2 _ (List.mem_of_getElem? j7); dsimp only at hn64_475
           refine dV 5 rfl (fun _ hf => evLoad one46 rfl ((hf.cell (p := ⟨_, _, none⟩) M2 (by (try dsimp only at M1 ⊢); omega)).trans p2)) (dMi 6 rfl rfl (dTwo 1 7 (by kernel_rfl) ?_ ?_))
           ·have G5 := (j6.ext a2)
            refine dWp (i := 1) rfl rfl (oEv (v := (.slice X j Y)) (evLoadB one43 rfl G5 rfl) rfl ⟨Frm.refl _ _, dOp 7 rfl rfl (by kernel_rfl) (oCall rfl call58 (modpoly_Symmetric f1 (xm := xp) Qo Qo Qo) rfl ?_)⟩)
            rintro _ iW ⟨d6, d7, d8, p3, rfl, j8, z1, W4, ew, ex⟩
            refine ⟨(Frm.of_ext j8), ?_⟩
            have gS := j8.size
            have ⟨ey, ez, eA⟩ := z1.lkm
            refine dOp 8 rfl rfl (by kernel_rfl) (oBuildSlice [(.slice d6 d7 d8)] [[(.slice d6 d7 d8)]] underlying43 inf39 rfl rfl rfl rfl rfl (fun ck cm gT j9 gU v6 => ⟨(Frm.of_ext j9), ?_⟩))
            replace v6 : Blk cm ck 39 [(.slice d6 d7 d8)] := v6
            have W5 := ((c3.xr a2).xr j8).xr j9
            have G6 := (hY460y.frmB W5 q3)
            have cn := (z1.ext j9)
            refine dOp 9 rfl rfl (by kernel_rfl) (oAppT (L := LPx 2 g) (L' := LPx 2 g) (f := (⟨d6, d7, d8, p3⟩ : PE)) (S := fun b => (fun b => B0.heap.size ≤ b) b) (B := y.heap.size) underlying43 inf39 rfl rfl rfl (OwnY.swap G6).2 v6 (PolyR.le (PolyR.sub cn (fun b hb_ hs => ⟨hs, by (try dsimp only at hs); omega⟩)) (by omega)) (fun b hb_ hs => ⟨fun a ha e => by have h9 := hY460y.2.b.lt a ha; (try dsimp only at hs); omega, fun a ha e => by have h9 := hY460y.2.a.lt a ha; (try dsimp only at hs); omega⟩) (by omega) (by omega) (by omega) (fun v7 v8 co v9 n0 => ⟨(n0.mono q4), ?_⟩))
            replace v9 := OwnT.swap v9
            have hY495y : OwnY 2 g co y.heap.size 39 b0 (t + 1) b1 (D ++ [(⟨o, q, s, z⟩ : PE)]) v7 (j + 1) v8 (E ++ [(⟨d6, d7, d8, p3⟩ : PE)]) := ⟨G6.1, v9⟩
            have gV := n0.size; have ⟨⟨_, _, _⟩, _, _, _⟩ := hY495y.lkm
            refine dV 10 rfl (fun _ _ => evArr 1 underlying92 sz43 rfl rfl 1) ?_
            have W6 := (j8.trans j9).rx n0
            have W7 := (G5.frm W6 q1)
            refine dOp 11 rfl rfl (by kernel_rfl) (oStore [(.slice v7 (j + 1) v8)] rfl rfl rfl sz43 rfl W7 Qn (fun cp w0 gW w1 => ?_))
            replace w1 : Blk cp g 92 [(.slice b0 (t + 1) b1), (.slice v7 (j + 1) v8)] := w1
            refine ⟨(w0.mono q4), dDone (by kernel_rfl) (bN (xN (b4 _ _ (wp_region_lit (sV (evAdd (((A : Int)) + 1) rfl rfl wI) (sMi rfl (sDone ?_)))))))⟩
            have W8 := ((((((j5.rx e6).tr c3).xr a2).xr j8).xr j9).tr n0).tr w0
            have W9 := (hY495y.frmB w0 q3)
            refine again (nl - (A + 1)) Qo ⟨(A + 1), (b0), (t + 1), (b1), (D ++ [(⟨o, q, s, z⟩ : PE)]), (v7), (j + 1), (v8), (E ++ [(⟨d6, d7, d8, p3⟩ : PE)]), rfl, rfl, rfl, rfl, rfl, rfl, rfl, rfl, cI, (Frm.mono (C.tr W8) q4), ?_, ?_, ?_, ?_, ?_, ?_, ?_, ?_⟩
            ·exact w1
            ·omega
            ·exact W9
            ·omega
            ·exact lenL_snoc e7 (by (try dsimp only); omega)
            ·exact lenL_snoc g3 (by (try dsimp only); omega)
            ·exact symL_next c5 (by rw [dsN_len]; omega) (dsN_get V) g0
            ·exact symL_next c6 (by rw [dsN_len, Z]; omega) (dsN_get j7) W4
           ·refine dWp (i := 7) rfl rfl (oCall rfl call58 (modpoly_Symmetric f1 (xm := xp) Qo Qo Qo) rfl ?_)
            rintro _ iX ⟨O, P, Q, d9, rfl, c4, p4, G7, eB, eC⟩
            refine ⟨(Frm.of_ext c4), ?_⟩
            have gX := c4.size
            have ⟨eD, eE, eF⟩ := p4.lkm
            refine dTwo 1 8 (by kernel_rfl) ?_ ?_
            ·have X0 := a2.trans c4
             have G8 := (j6.ext X0)
             refine dWp (i := 1) rfl rfl (oEv (v := (.slice X j Y)) (evLoadB one43 rfl G8 rfl) rfl ⟨Frm.refl _ _, dOp 8 rfl rfl (by kernel_rfl) (oBuildSlice [(.slice O P Q)] [[(.slice O P Q)]] underlying43 inf39 rfl rfl rfl rfl rfl (fun cq cs gY k0 gZ w2 => ⟨(Frm.of_ext k0), ?_⟩))⟩)
             replace w2 : Blk cs cq 39 [(.slice O P Q)] := w2
             have X1 := ((c3.xr a2).xr c4).xr k0
             have G9 := (hY460y.frmB X1 q3)
             have ct := (p4.ext k0)
             refine dOp 9 rfl rfl (by kernel_rfl) (oAppT (L := LPx 2 g) (L' := LPx 2 g) (f := (⟨O, P, Q, d9⟩ : PE)) (S := fun b => (fun b => B0.heap.size ≤ b) b) (B := y.heap.size) underlying43 inf39 rfl rfl rfl (OwnY.swap G9).2 w2 (PolyR.le (PolyR.sub ct (fun b hb_ hs => ⟨hs, by (try dsimp only at hs); omega⟩)) (by omega)) (fun b hb_ hs => ⟨fun a ha e => by have h9 := hY460y.2.b.lt a ha; (try dsimp only at hs); omega, fun a ha e => by have h9 := hY460y.2.a.lt a ha; (try dsimp only at hs); omega⟩) (by omega) (by omega) (by omega) (fun w3 w4 cv w6 n1 => ⟨(n1.mono q4), ?_⟩))
             replace w6 := OwnT.swap w6
             have hY525y : OwnY 2 g cv y.heap.size 39 b0 (t + 1) b1 (D ++ [(⟨o, q, s, z⟩ : PE)]) w3 (j + 1) w4 (E ++ [(⟨O, P, Q, d9⟩ : PE)]) := ⟨G9.1, w6⟩
             have hc := n1.size; have ⟨⟨_, _, _⟩, _, _, _⟩ := hY525y.lkm
             refine dV 10 rfl (fun _ _ => evArr 1 underlying92 sz43 rfl rfl 1) ?_
             have X2 := k0.rx n1
             have X3 := (G8.frm X2 q1)
             refine dOp 11 rfl rfl (by kernel_rfl) (oStore [(.slice w3 (j + 1) w4)] rfl rfl rfl sz43 rfl X3 Qn (fun cw w7 hd w8 => ?_))
             replace w8 : Blk cw g 92 [(.slice b0 (t + 1) b1), (.slice w3 (j + 1) w4)] := w8
             refine ⟨(w7.mono q4), dDone (by kernel_rfl) (bN (xN (b4 _ _ (wp_region_lit (sV (evAdd (((A : Int)) + 1) rfl rfl wI) (sMi rfl (sDone ?_)))))))⟩
             have X4 := ((((((j5.rx e6).tr c3).xr a2).xr c4).xr k0).tr n1).tr w7
             have X5 := (hY525y.frmB w7 q3)
             refine again (nl - (A + 1)) Qo ⟨(A + 1), (b0), (t + 1), (b1), (D ++ [(⟨o, q, s, z⟩ : PE)]), (w3), (j + 1), (w4), (E ++ [(⟨O, P, Q, d9⟩ : PE)]), rfl, rfl, rfl, rfl, rfl, rfl, rfl, rfl, cI, (Frm.mono (C.tr X4) q4), ?_, ?_, ?_, ?_, ?_, ?_, ?_, ?_⟩
             ·exact w8
             ·omega
             ·exact X5
             ·omega
             ·exact lenL_snoc e7 (by (try dsimp only); omega)
             ·exact lenL_snoc g3 (by (try dsimp only); omega)
             ·exact symL_next c5 (by rw [dsN_len]; omega) (dsN_get V) g0
             ·exact symL_next c6 (by rw [dsN_len, Z]; omega) (dsN_get j7) G7
            ·refine dWp (i := 8) rfl rfl (oBuildSlice [(.slice O P Q)] [[(.slice O P Q)]] underlying43 inf39 rfl rfl rfl rfl rfl (fun cx cy he k1 hg w9 => ⟨(Frm.of_ext k1), ?_⟩))
             replace w9 : Blk cy cx 39 [(.slice O P Q)] := w9
             have X6 := (a2.trans c4).trans k1
             have H0 := (j6.ext X6)
             refine dOp 1 rfl rfl (by kernel_rfl) (oEv (v := (.slice X j Y)) (evLoadB one43 rfl H0 rfl) rfl ⟨Frm.refl _ _, ?_⟩)
             have X7 := ((c3.xr a2).xr c4).xr k1
             have H1 := (hY460y.frmB X7 q3)
             have cz := (p4.ext k1)
             refine dOp 9 rfl rfl (by kernel_rfl) (oAppT (L := LPx 2 g) (L' := LPx 2 g) (f := (⟨O, P, Q, d9⟩ : PE)) (S := fun b => (fun b => B0.heap.size ≤ b) b) (B := y.heap.size) underlying43 inf39 rfl rfl rfl (OwnY.swap H1).2 w9 (PolyR.le (PolyR.sub cz (fun b hb_ hs => ⟨hs, by (try dsimp only at hs); omega⟩)) (by omega)) (fun b hb_ hs => ⟨fun a ha e => by have h9 := hY460y.2.b.lt a ha; (try dsimp only at hs); omega, fun a ha e => by have h9 := hY460y.2.a.lt a ha; (try dsimp only at hs); omega⟩) (by omega) (by omega) (by omega) (fun x0 x1 cA x2 n2 => ⟨(n2.mono q4), ?_⟩))
             replace x2 := OwnT.swap x2
             have hY550y : OwnY 2 g cA y.heap.size 39 b0 (t + 1) b1 (D ++ [(⟨o, q, s, z⟩ : PE)]) x0 (j + 1) x1 (E ++ [(⟨O, P, Q, d9⟩ : PE)]) := ⟨H1.1, x2⟩
             have hh := n2.size; have ⟨⟨_, _, _⟩, _, _, _⟩ := hY550y.lkm
             refine dV 10 rfl (fun _ _ => evArr 1 underlying92 sz43 rfl rfl 1) ?_
             have X8 := (H0.frm n2 q1)
             refine dOp 11 rfl rfl (by kernel_rfl) (oStore [(.slice x0 (j + 1) x1)] rfl rfl rfl sz43 rfl X8 Qn (fun cC x3 hj x4 => ?_))
             replace x4 : Blk cC g 92 [(.slice b0 (t + 1) b1), (.slice x0 (j + 1) x1)] := x4
             refine ⟨(x3.mono q4), dDone (by kernel_rfl) (bN (xN (b4 _ _ (wp_region_lit (sV (evAdd (((A : Int)) + 1) rfl rfl wI) (sMi rfl (sDone ?_)))))))⟩
             have X9 := ((((((j5.rx e6).tr c3).xr a2).xr c4).xr k1).tr n2).tr x3
             have Y0 := (hY550y.frmB x3 q3)
             refine again (nl - (A + 1)) Qo ⟨(A + 1), (b0), (t + 1), (b1), (D ++ [(⟨o, q, s, z⟩ : PE)]), (x0), (j + 1), (x1), (E ++ [(⟨O, P, Q, d9⟩ : PE)]), rfl, rfl, rfl, rfl, rfl, rfl, rfl, rfl, cI, (Frm.mono (C.tr X9) q4), ?_, ?_, ?_, ?_, ?_, ?_, ?_, ?_⟩
             ·exact x4
             ·omega
             ·exact Y0
             ·omega
             ·exact lenL_snoc e7 (by (try dsimp only); omega)
             ·exact lenL_snoc g3 (by (try dsimp only); omega)
             ·exact symL_next c5 (by rw [dsN_len]; omega) (dsN_get V) g0
             ·exact symL_next c6 (by rw [dsN_len, Z]; omega) (dsN_get j7) G7
        ·refine sV (evLss false rfl rfl (dF D1)) (sK D0 (wp_seq_k fun iY hm => cF rfl (wp_exit (xE (xE (bE (xN (Q2 _ _ (wp_seq_k fun iZ Y1 => ?_)))))))))
         have eG := OwnY.left hY; have eH := OwnY.right hY; have ja := h5.lt
         have ax : zsL D = (symL xp (monL xp (dsN fl))) := by rw [symL_end c5 (by rw [dsN_len]; omega), hML]
         have eI : zsL E = (symL xp (cofsG xp (monL xp (dsN fl)))) := by rw [symL_end c6 (by rw [dsN_len, Z]; omega), aV, hML]
         refine wp_region_lit (sMi rfl (sV (evConv ((xp : Int)) underlying26 underlying2 rfl (wI64 Qo)) (sO (oCall rfl call35 (integer_Of Qo) rfl ?_))))
         rintro _ cD ⟨p5, p6, p7, p8, M3, rfl, k2, z2, Y2, eJ, eK⟩
         have hn := k2.size
         have ⟨eL, eM, eN⟩ := z2.lkm
         have cE := z2.sub (S' := fun b => (bd.heap.size ≤ b) ∧ b < cD.heap.size) fun _ hb hs => ⟨hs, hb⟩
         refine sO (oAlloc [(.bool false), (.slice none 0 0)] zero25 rfl (fun c7 jb ho k3 hq Y3 => sO (oStore [(.bool p5), (.slice p6 p7 p8)] rfl rfl rfl sz25 rfl Y3 Qn (fun M4 k4 hr x5 => ?_))))
         replace x5 : Blk M4 c7 25 [(.bool p5), (.slice p6 p7 p8)] := x5
         refine sK Y1 (rS fun jc Y4 => sAi rfl (sK Y4 (wp_seq_k fun jd Y5 => wp_label (xN (Y5 _ _ (wp_seq_k fun je H2 => wp_block ?_))))))
         have x6 := (k2.trans k3).rx k4
         have Y6 := (h5.frm x6 q1)
         have Y7 := k3.rx k4
         have cG := (cE.frmB Y7 q3)
         have cH := (eG.frmB x6 q3)
         have cJ := (eH.frmB x6 q3)
         refine lLoop (fun m e w_ => ∃ (ee : Nat) (gM : Bool) (AM : Option Addr) (nM : Nat) (cM : Nat) (dM : List Nat) (g4 : Option Addr) (f2 : Nat) (g5 : Nat) (l5 : List PE) (z3 : Option Addr) (q8 : Nat) (z4 : Nat) (H3 : List PE), m = xk - ee ∧ e 0 = (.slice Af nf cf) ∧ e 2 = (.int .u32 xp) ∧ e 3 = (.int .i64 xk) ∧ e 19 = (.pointer (some ⟨g, 0, none⟩)) ∧ e 22 = (.pointer (some ⟨c7, 0, none⟩)) ∧ e 23 = (.int .i64 ee) ∧ Frm (fun b => b = c7 ∨ b = g) M4 w_ ∧ Blk w_ c7 25 ([.bool gM, .slice AM nM cM]) ∧ Blk w_ g 92 ([(.slice g4 f2 g5), (.slice z3 q8 z4)]) ∧ (1 ≤ ee ∧ ee ≤ xk) ∧ (NatR w_ (fun b => w.heap.size ≤ b ∧ b ≠ g ∧ b ≠ c7) AM nM cM dM) ∧ (PolysR w_ (fun b => w.heap.size ≤ b ∧ b ≠ g ∧ b ≠ c7) g4 f2 g5 l5 4096) ∧ (PolysR w_ (fun b => w.heap.size ≤ b ∧ b ≠ g ∧ b ≠ c7) z3 q8 z4 H3 4096) ∧ (zval gM dM = ((xp ^ ee : Nat) : Int)) ∧ (nM ≤ 9) ∧ (f2 = nl ∧ q8 = nl) ∧ (∀ x ∈ l5, x.n ≤ 64) ∧ (∀ x ∈ H3, x.n ≤ 64) ∧ (LReach xp xk (zs lf) (symL xp (monL xp (dsN fl))) (symL xp (cofsG xp (monL xp (dsN fl)))) (zsL l5) (zsL H3) ee)) (xk - (1)) ?_ ?_
         ·refine ⟨(1), (p5), (p6), (p7), (p8), (M3), (o3), (t), (o4), (D), (X), (j), (Y), (E), rfl, rfl, rfl, rfl, rfl, rfl, cI, (Frm.refl _ _), ?_, ?_, ?_, ?_, ?_, ?_, ?_, ?_, ?_, ?_, ?_, ?_⟩
          ·exact x5
          ·exact Y6
          ·omega
          ·exact NatR.sub cG q5
          ·exact PolysR.le (PolysR.sub cH q5) Qo
          ·exact PolysR.le (PolysR.sub cJ q5) Qo
          ·rw [Y2, Nat.pow_one]
          ·omega
          ·omega
          ·exact e7
          ·exact g3
          ·rw [ax, eI]; exact .start
         ·rintro jg jh ji ⟨ee, gM, AM, nM, cM, dM, g4, f2, g5, l5, z3, q8, z4, H3, ht, Y8, Y9, Z0, Z1, Z2, Z3, g1, H4, k5, hee, hM, q9, M5, hvM, hnM, hnq, p9, M6, hRe⟩
          obtain ⟨jj, rfl⟩ := sq6 Y8 Y9 Z0 Z1 Z2 Z3
          have hv := g1.size
          have ⟨lM, kM, mM⟩ := hM.lkm; have ⟨jZ, ka, kb⟩ := q9.lkm; have ⟨kc, kd, ke⟩ := M5.lkm
          refine wp_block (wp_seq_k fun jk Z4 => rS fun jm H5 => sMi rfl (sMi rfl ?_))
          by_cases H6 : ((ee : Int)) = ((xk : Int))
          ·refine sV (evEql true rfl rfl (dT H6)) (sMb rfl (sSkip rfl rfl (sSkip rfl rfl (sSkip rfl rfl (sSkip rfl rfl (sV (v := (.bool true)) (rfl) (sK H5 (cT rfl (wp_exit (xE (bO rfl (xE (bE (xN (H2 _ _ (rS fun jn Z5 => sV (evArr 0 underlying92 sz43 rfl rfl 0) (sV (evLoadB one43 rfl k5 rfl) (sAs rfl (sAi rfl (sK Z5 (wp_ret (nR (ret2 (.slice g4 f2 g5) (.int .i64 (0)) results22 (resT rfl) (resT rfl) ?_)))))))))))))))))))))))
           have Z6 := (((((((((((r4.xr g6).xr g7).xr l3).xr b7).xr b3).xr b8).xr e3).tr C).xr k2).xr k3).tr k4).tr g1
           exact ⟨g4, f2, g5, l5, (0), rfl, (Frm.mono Z6 q4), (PolysR.sub q9 q5), (.inr (.inr ⟨hCo, hlead, rfl, ⟨_, _, hRe, .inl Qo⟩, hnq.1⟩)), p9⟩
          ·refine sV (evEql false rfl rfl (dF H6)) (sMb rfl (sEv (v := (.slice Af nf cf)) (rfl) rfl rfl (sEv (v := (.pointer (some ⟨g, 0, none⟩))) (evArr 0 underlying92 sz43 rfl rfl 0) rfl rfl (sEv (v := (.slice g4 f2 g5)) (evLoadB one43 rfl k5 rfl) rfl rfl ?_))))
           have Z7 := ((((((b3.trans b8).trans e3).rx C).xr k2).xr k3).tr k4).tr g1
           have B1 := (L2.frmB Z7 q3)
           refine sOp rfl (oCall rfl call59 (hensel_isFactorization B1 q9 Qo Qo Qo Qo p9) rfl ?_)
           rintro _ jo ⟨z5, rfl, g2, x7⟩
           have hw := g2.size
           refine sV (v := (.bool z5)) (rfl) (sK H5 (cB z5 rfl ?_ ?_))
           ·intro x8
            subst x8
            refine wp_exit (xE (bO rfl (xE (bE (xN (H2 _ _ (rS fun jp Z8 => sV (evArr 0 underlying92 sz43 rfl rfl 0) ?_)))))))
            have Z9 := (k5.ext g2)
            refine sV (evLoadB one43 rfl Z9 rfl) (sAs rfl (sAi rfl (sK Z8 (wp_ret (nR (ret2 (.slice g4 f2 g5) (.int .i64 (0)) results22 (resT rfl) (resT rfl) ?_))))))
            have cK := (q9.ext g2)
            have aa := ((((((((((((r4.xr g6).xr g7).xr l3).xr b7).xr b3).xr b8).xr e3).tr C).xr k2).xr k3).tr k4).tr g1).xr g2
            exact ⟨g4, f2, g5, l5, (0), rfl, (Frm.mono aa q4), (PolysR.sub cK q5), (.inr (.inr ⟨hCo, hlead, rfl, ⟨_, _, hRe, .inr (of_decide_eq_true x7.symm)⟩, hnq.1⟩)), p9⟩
           ·intro x8
            subst x8
            refine wp_skip (xN (Z4 _ _ (rS fun jq ab => sMi rfl (sMi rfl (sMi rfl (sV (evSub (((xk : Int)) - ((ee : Int))) rfl rfl wI) (sV (evMin (((min ee (xk - ee) : Nat) : Int)) rfl rfl (by split <;> omega)) (sAi rfl (sK ab (wp_seq_k fun jr H7 => dBegin (fun b => b = c7) mixed (fun js H8 hy => dMi 1 rfl rfl (dMi 2 rfl rfl (dTwo 0 3 (by kernel_rfl) ?_ ?_)))))))))))))
            ·have H9 := g2.trans H8
             have I0 := (H4.ext H9)
             refine dWp (i := 0) rfl rfl (oEv (v := (.agg #[(.bool gM), (.slice AM nM cM)])) (evLoadAB [(.bool gM), (.slice AM nM cM)] agg25 sz25 rfl I0 rfl) rfl ⟨Frm.refl _ _, dOp 3 rfl rfl (by kernel_rfl) (oCall rfl call60 (hensel_power (xp := xp) Qo Qo) rfl ?_)⟩)
             rintro _ jt ⟨eO, eP, eQ, eR, eS, rfl, n3, z6, ac, eT, eU⟩
             refine ⟨(Frm.of_ext n3), ?_⟩
             have hB := n3.size
             have ⟨eV, eW, eX⟩ := z6.lkm
             have I1 := H9.trans n3
             have cL := (hM.ext I1)
             refine dOp 4 rfl rfl (by kernel_rfl) (oCall rfl call33 (integer_Mul cL z6 Qo) rfl ?_)
             rintro _ ju ⟨a4, k6, f3, k7, f4, rfl, n4, z7, ad, M7, eY⟩
             refine ⟨(Frm.of_ext n4), ?_⟩
             have hC := n4.size
             have ⟨M8, eZ, fa⟩ := z7.lkm
             have W : zval a4 f4 = ((xp ^ (ee + min ee (xk - ee)) : Nat) : Int) := by rw [ad]; exact mod_next hvM ac rfl
             have B2 : f3 ≤ 9 := int_tight M7 M8 (pow_tight Qo Qo W)
             have B3 := prime4N hp; have B4 : Int.gcd (ldP (zs lf)) (zval a4 f4) = 1 := by rw [W]; exact cop_pow B3 hlead
             have cN : zval a4 f4 ≠ 0 := by rw [W]; exact powI_ne (by omega)
             have q0 : (zval a4 f4).natAbs = xp ^ (ee + min ee (xk - ee)) := natAbs_pow W
             have q2 : ¬ isFac (zs lf) (zsL l5) := of_decide_eq_false x7.symm
             have ae := n3.trans n4
             have af := (I0.ext ae)
             refine dOp 5 rfl rfl (by kernel_rfl) (oStore [(.bool a4), (.slice k6 f3 k7)] rfl rfl rfl sz25 rfl af Qn (fun cO x9 hD n5 => ?_))
             replace n5 : Blk cO c7 25 [(.bool a4), (.slice k6 f3 k7)] := n5
             refine ⟨x9, dDone (by kernel_rfl) (xN (H7 _ _ (rS fun jv ag => sMi rfl (sMi rfl (sV (evAdd (((ee : Int)) + (((min ee (xk - ee) : Nat) : Int))) rfl rfl wI) (sAi rfl (sK ag (wp_region_lit (sMs rfl ?_)))))))))⟩
             have k8 := (I1.trans n4).rx x9
             have I2 := (k5.frm k8 q1)
             refine sV (evLoadAB [(.slice g4 f2 g5), (.slice z3 q8 z4)] agg92 sz92 rfl I2 rfl) (sV (evLoadAB [(.bool a4), (.slice k6 f3 k7)] agg25 sz25 rfl n5 rfl) ?_)
             have cP := (B1.frmB k8 q3)
             have cQ := (q9.frmB k8 q3)
             have cR := (M5.frmB k8 q3)
             have M9 := (z7.frmB x9 q3)
             refine sO (oCall rfl call61 (hensel_step cP cQ cR M9 (by omega) (by omega) (by omega) (by omega) (by omega) (by omega) ⟨p9, M6⟩ B4 (fun x hx => hok hCo hlead _ _ _ hRe _ (List.mem_map_of_mem (f := fun f : PE => zs f.l) hx)) (by intro x K h1 h2; rw [q0] at h2 ⊢; rw [W] at h1; exact hok hCo hlead _ _ _ (.next hRe (by omega) q2 h1 h2))) rfl ?_)
             rintro _ jw ⟨Ar0_657, nr0_657, cr0_657, fr0_657, Ar1_657, nr1_657, cr1_657, fr1_657, rfl, n6, hr0_657, hr1_657, ah, fb, z8⟩
             have hE := n6.size
             have ⟨kr0_657, jr0_657, mr0_657⟩ := hr0_657.lkm
             have ⟨kr1_657, jr1_657, mr1_657⟩ := hr1_657.lkm
             have B5 : LReach xp xk (zs lf) (symL xp (monL xp (dsN fl))) (symL xp (cofsG xp (monL xp (dsN fl)))) (zsL fr0_657) (zsL fr1_657) (ee + min ee (xk - ee)) := by obtain ⟨x, K, h1, h2, h3, h4⟩ := ah; rw [q0] at h2 h3 h4; rw [W] at h1; rw [h3, h4]; exact .next hRe (by omega) q2 h1 h2
             have ai := (I2.ext n6)
             refine sO (oStore [(.slice Ar0_657 nr0_657 cr0_657), (.slice Ar1_657 nr1_657 cr1_657)] rfl rfl rfl sz92 rfl ai Qn (fun cS n7 hF y0 => ?_))
             replace y0 : Blk cS g 92 [(.slice Ar0_657 nr0_657 cr0_657), (.slice Ar1_657 nr1_657 cr1_657)] := y0
             refine sDone (bN ?_)
             have aj := (k8.xr n6).tr n7
             have I3 := n6.rx n7
             have ak := (n5.frm I3 q1)
             have cU := (M9.frmB I3 q3)
             have cV := (hr0_657.frmB n7 q3)
             have cW := (hr1_657.frmB n7 q3)
             refine again (xk - (ee + (min ee (xk - ee)))) Qo ⟨(ee + (min ee (xk - ee))), (a4), (k6), (f3), (k7), (f4), (Ar0_657), (nr0_657), (cr0_657), (fr0_657), (Ar1_657), (nr1_657), (cr1_657), (fr1_657), rfl, rfl, rfl, rfl, rfl, rfl, cI, (Frm.mono (g1.tr aj) q4), ?_, ?_, ?_, ?_, ?_, ?_, ?_, ?_, ?_, ?_, ?_, ?_⟩
             ·exact ak
             ·exact y0
             ·omega
             ·exact NatR.sub cU q5
             ·exact PolysR.le (PolysR.sub cV q5) Qo
             ·exact PolysR.le (PolysR.sub cW q5) Qo
             ·exact W
             ·exact B2
             ·omega
             ·exact z8.1
             ·exact z8.2
             ·exact B5
            ·refine dWp (i := 3) rfl rfl (oCall rfl call60 (hensel_power (xp := xp) Qo Qo) rfl ?_)
             rintro _ jx ⟨fc, fd, fe, ff, fg, rfl, y1, z9, al, fh, fi⟩
             refine ⟨(Frm.of_ext y1), ?_⟩
             have hG := y1.size
             have ⟨fj, fk, fn⟩ := z9.lkm
             have y2 := (g2.trans H8).trans y1
             have I4 := (H4.ext y2)
             refine dOp 0 rfl rfl (by kernel_rfl) (oEv (v := (.agg #[(.bool gM), (.slice AM nM cM)])) (evLoadAB [(.bool gM), (.slice AM nM cM)] agg25 sz25 rfl I4 rfl) rfl ⟨Frm.refl _ _, ?_⟩)
             have cX := (hM.ext y2)
             refine dOp 4 rfl rfl (by kernel_rfl) (oCall rfl call33 (integer_Mul cX z9 Qo) rfl ?_)
             rintro _ jy ⟨a5, k9, f5, l0, f6, rfl, n8, A0, am, N2, fo⟩
             refine ⟨(Frm.of_ext n8), ?_⟩
             have hH := n8.size
             have ⟨N3, fp, fq⟩ := A0.lkm
             have W : zval a5 f6 = ((xp ^ (ee + min ee (xk - ee)) : Nat) : Int) := by rw [am]; exact mod_next hvM al rfl
             have B2 : f5 ≤ 9 := int_tight N2 N3 (pow_tight Qo Qo W)
             have B3 := prime4N hp; have B4 : Int.gcd (ldP (zs lf)) (zval a5 f6) = 1 := by rw [W]; exact cop_pow B3 hlead
             have cN : zval a5 f6 ≠ 0 := by rw [W]; exact powI_ne (by omega)
             have q0 : (zval a5 f6).natAbs = xp ^ (ee + min ee (xk - ee)) := natAbs_pow W
             have q2 : ¬ isFac (zs lf) (zsL l5) := of_decide_eq_false x7.symm
             have an := (I4.ext n8)
             refine dOp 5 rfl rfl (by kernel_rfl) (oStore [(.bool a5), (.slice k9 f5 l0)] rfl rfl rfl sz25 rfl an Qn (fun cY y3 hI n9 => ?_))
             replace n9 : Blk cY c7 25 [(.bool a5), (.slice k9 f5 l0)] := n9
             refine ⟨y3, dDone (by kernel_rfl) (xN (H7 _ _ (rS fun jz ao => sMi rfl (sMi rfl (sV (evAdd (((ee : Int)) + (((min ee (xk - ee) : Nat) : Int))) rfl rfl wI) (sAi rfl (sK ao (wp_region_lit (sMs rfl ?_)))))))))⟩
             have l1 := (y2.trans n8).rx y3
             have I5 := (k5.frm l1 q1)
             refine sV (evLoadAB [(.slice g4 f2 g5), (.slice z3 q8 z4)] agg92 sz92 rfl I5 rfl) (sV (evLoadAB [(.bool a5), (.slice k9 f5 l0)] agg25 sz25 rfl n9 rfl) ?_)
             have cZ := (B1.frmB l1 q3)
             have da := (q9.frmB l1 q3)
             have db := (M5.frmB l1 q3)
             have N4 := (A0.frmB y3 q3)
             refine sO (oCall rfl call61 (hensel_step cZ da db N4 (by omega) (by omega) (by omega) (by omega) (by omega) (by omega) ⟨p9, M6⟩ B4 (fun x hx => hok hCo hlead _ _ _ hRe _ (List.mem_map_of_mem (f := fun f : PE => zs f.l) hx)) (by intro x K h1 h2; rw [q0] at h2 ⊢; rw [W] at h1; exact hok hCo hlead _ _ _ (.next hRe (by omega) q2 h1 h2))) rfl ?_)
             rintro _ jA ⟨Ar0_699, nr0_699, cr0_699, fr0_699, Ar1_699, nr1_699, cr1_699, fr1_699, rfl, o0, hr0_699, hr1_699, ap, fs, A1⟩
             have hJ := o0.size
             have ⟨kr0_699, jr0_699, mr0_699⟩ := hr0_699.lkm
             have ⟨kr1_699, jr1_699, mr1_699⟩ := hr1_699.lkm
             have B5 : LReach xp xk (zs lf) (symL xp (monL xp (dsN fl))) (symL xp (cofsG xp (monL xp (dsN fl)))) (zsL fr0_699) (zsL fr1_699) (ee + min ee (xk - ee)) := by obtain ⟨x, K, h1, h2, h3, h4⟩ := ap; rw [q0] at h2 h3 h4; rw [W] at h1; rw [h3, h4]; exact .next hRe (by omega) q2 h1 h2
             have aq := (I5.ext o0)
             refine sO (oStore [(.slice Ar0_699 nr0_699 cr0_699), (.slice Ar1_699 nr1_699 cr1_699)] rfl rfl rfl sz92 rfl aq Qn (fun dc o1 hK y4 => ?_))
             replace y4 : Blk dc g 92 [(.slice Ar0_699 nr0_699 cr0_699), (.slice Ar1_699 nr1_699 cr1_699)] := y4
             refine sDone (bN ?_)
             have ar := (l1.xr o0).tr o1
             have I6 := o0.rx o1
             have au := (n9.frm I6 q1)
             have dd := (N4.frmB I6 q3)
             have de := (hr0_699.frmB o1 q3)
             have df := (hr1_699.frmB o1 q3)
             refine again (xk - (ee + (min ee (xk - ee)))) Qo ⟨(ee + (min ee (xk - ee))), (a5), (k9), (f5), (l0), (f6), (Ar0_699), (nr0_699), (cr0_699), (fr0_699), (Ar1_699), (nr1_699), (cr1_699), (fr1_699), rfl, rfl, rfl, rfl, rfl, rfl, cI, (Frm.mono (g1.tr ar) q4), ?_, ?_, ?_, ?_, ?_, ?_, ?_, ?_, ?_, ?_, ?_, ?_⟩
             ·exact au
             ·exact y4
             ·omega
             ·exact NatR.sub dd q5
             ·exact PolysR.le (PolysR.sub de q5) Qo
             ·exact PolysR.le (PolysR.sub df q5) Qo
             ·exact W
             ·exact B2
             ·omega
             ·exact A1.1
             ·exact A1.2
             ·exact B5
end Go.Proofs.YtneolcopompkaaaGreatDoor
