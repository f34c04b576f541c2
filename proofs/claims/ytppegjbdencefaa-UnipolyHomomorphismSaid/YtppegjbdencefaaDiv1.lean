/-
  Walks of package division: the digit of a quotient, its multiple taken off, added back.
-/
import Derived.Test.YtppegjbdencefaaNat5
namespace Go.Proofs.Ytppegjbdencefaa
open Go.RowKit Go.Gx
set_option maxHeartbeats 1000000 in
theorem division_estimate {w : World} {xa : Nat} {xb : Nat} {xc : Nat} {xd : Nat} {xe : Nat} (ba : xa < 4294967296) (bb : xb < 4294967296) (bc : xc < 4294967296) (bd : xd < 4294967296) (be : xe < 4294967296) (hle : xa ≤ xd) (hd : 0 < xd) : Calls Try.prog 129 #[(.int .u32 ((xa : Int))), (.int .u32 ((xb : Int))), (.int .u32 ((xc : Int))), (.int .u32 ((xd : Int))), (.int .u32 ((xe : Int)))] w (Ret fun v w' => ∃ (xr : Nat), v = (.int .u32 ((xr : Int))) ∧ Ext w w' ∧ xr < 4294967296 ∧ (xr * estV xd xe ≤ estU xa xb xc) ∧ (EstM xa xb xc xd xe xr)) := by
  refine enter Try.func129 rfl Try.ntmps129 rfl ?_
  refine wp_seq_k fun K1 hK1 => ?_
  refine wp_region_lit ?_
  refine sEv (v := (.int .u32 (0))) (rfl) rfl rfl ?_
  refine sDone ?_
  refine xN (hK1 _ _ ?_)
  refine wp_seq_k fun K2 hK2 => ?_
  refine wp_region_lit ?_
  refine sEv (v := (.int .u32 (0))) (rfl) rfl rfl ?_
  refine sEv (v := (.int .u32 (0))) (rfl) rfl rfl ?_
  refine sEv (v := (.int .u32 (0))) (rfl) rfl rfl ?_
  refine sDone ?_
  refine xN (hK2 _ _ ?_)
  refine wp_seq_k fun K3 hK3 => ?_
  refine wp_seq_k fun K4 hK4 => ?_
  refine wp_region_lit ?_
  refine sEv (v := (.int .u32 ((xa : Int)))) (rfl) rfl rfl ?_
  refine sEv (v := (.int .u32 ((xd : Int)))) (rfl) rfl rfl ?_
  by_cases hc5 : ((xa : Int)) ≥ ((xd : Int))
  · refine sEv (v := (.bool true)) (evGeq true rfl rfl (dT hc5)) rfl rfl ?_
    refine sDone ?_
    refine xN (hK4 _ _ ?_)
    refine cT rfl ?_
    refine wp_seq_k fun K6 hK6 => ?_
    refine wp_region_lit ?_
    refine sEv (v := (.int .u32 (4294967295))) (rfl) rfl rfl ?_
    refine sDone ?_
    refine xN (hK6 _ _ ?_)
    refine wp_region_lit ?_
    refine sEv (v := (.int .u32 ((xb : Int)))) (rfl) rfl rfl ?_
    refine sEv (v := (.int .u32 ((xd : Int)))) (rfl) rfl rfl ?_
    refine sOp rfl (oCall rfl call111 (bits_Add32 (x1 := xb) (by omega) (x2 := xd) (by omega) (x3 := 0) (by omega) (by omega)) rfl ?_)
    rintro _ w8 ⟨xs_7, xc_7, rfl, hE9, bs_7, bc_7, e_7, z_7⟩
    have hz10 := hE9.size
    refine sEv (v := (.tuple #[(.int .u32 ((xs_7 : Int))), (.int .u32 ((xc_7 : Int)))])) (rfl) rfl rfl ?_
    refine sEv (v := (.int .u32 ((xs_7 : Int)))) (rfl) rfl rfl ?_
    refine sEv (v := (.int .u32 ((xc_7 : Int)))) (rfl) rfl rfl ?_
    refine sEv (v := (.int .u32 ((xs_7 : Int)))) (rfl) rfl rfl ?_
    refine sEv (v := (.int .u32 ((xc_7 : Int)))) (rfl) rfl rfl ?_
    refine sDone ?_
    refine xN (hK3 _ _ ?_)
    refine wp_seq_k fun K11 hK11 => ?_
    refine wp_block ?_
    refine lLoop (fun m e w_ => ∃ (dg : Nat) (rs : Nat) (ov : Nat), m = dg ∧ e 2 = (.int .u32 ((xc : Int))) ∧ e 3 = (.int .u32 ((xd : Int))) ∧ e 4 = (.int .u32 ((xe : Int))) ∧ e 11 = (.int .u32 ((dg : Int))) ∧ e 12 = (.int .u32 ((rs : Int))) ∧ e 13 = (.int .u32 ((ov : Int))) ∧ Frm (fun b => False) w8 w_ ∧ (dg < 4294967296) ∧ (rs < 4294967296) ∧ (ov ≤ 1) ∧ (EstI xa xb xd dg (rs + 4294967296 * ov)) ∧ (EstM xa xb xc xd xe dg)) ((4294967295)) ?_ ?_
    · refine ⟨(4294967295), (xs_7), (xc_7), rfl, rfl, rfl, rfl, (congrArg (Value.int .u32) (by omega)), (congrArg (Value.int .u32) (by omega)), (congrArg (Value.int .u32) (by omega)), (Frm.refl _ _), ?_, ?_, ?_, ?_, ?_⟩
      · omega
      · omega
      · omega
      · exact EstI.start1 (by omega) e_7
      · exact EstM.start1 _ _ _ _ _
    · rintro m12 e22 w13 ⟨dg, rs, ov, hm21, hs14, hs15, hs16, hs17, hs18, hs19, hF20, hdg, hrs, hov, hI, hM⟩
      obtain ⟨r23, rfl⟩ := sq (e := e22) (t := 2) hs14
      obtain ⟨r24, rfl⟩ := sq (e := r23) (t := 3) hs15
      obtain ⟨r25, rfl⟩ := sq (e := r24) (t := 4) hs16
      obtain ⟨r26, rfl⟩ := sq (e := r25) (t := 11) hs17
      obtain ⟨r27, rfl⟩ := sq (e := r26) (t := 12) hs18
      obtain ⟨r28, rfl⟩ := sq (e := r27) (t := 13) hs19
      have hz29 := hF20.size
      refine wp_seq_k fun K30 hK30 => ?_
      refine wp_seq_k fun K31 hK31 => ?_
      refine wp_region_lit ?_
      refine sEv (v := (.int .u32 ((ov : Int)))) (rfl) rfl rfl ?_
      by_cases hc32 : ((ov : Int)) = 0
      · refine sEv (v := (.bool true)) (evEql true rfl rfl (dT hc32)) rfl rfl ?_
        refine sDone ?_
        refine xN (hK31 _ _ ?_)
        refine cT rfl ?_
        refine wp_skip ?_
        refine xN (hK30 _ _ ?_)
        refine wp_block ?_
        refine wp_seq_k fun K33 hK33 => ?_
        refine wp_region_lit ?_
        refine sEv (v := (.int .u32 ((dg : Int)))) (rfl) rfl rfl ?_
        refine sEv (v := (.int .u32 ((xe : Int)))) (rfl) rfl rfl ?_
        refine sOp rfl (oCall rfl call133 (bits_Mul32 (x1 := dg) (by omega) (x2 := xe) (by omega)) rfl ?_)
        rintro _ w35 ⟨xh_34, xl_34, rfl, hE36, bh_34, bl_34, e_34⟩
        have hz37 := hE36.size
        refine sEv (v := (.tuple #[(.int .u32 ((xh_34 : Int))), (.int .u32 ((xl_34 : Int)))])) (rfl) rfl rfl ?_
        refine sEv (v := (.int .u32 ((xh_34 : Int)))) (rfl) rfl rfl ?_
        refine sEv (v := (.int .u32 ((xl_34 : Int)))) (rfl) rfl rfl ?_
        refine sEv (v := (.int .u32 ((xh_34 : Int)))) (rfl) rfl rfl ?_
        refine sEv (v := (.int .u32 ((xl_34 : Int)))) (rfl) rfl rfl ?_
        refine sDone ?_
        refine xN (hK33 _ _ ?_)
        refine wp_seq_k fun K38 hK38 => ?_
        refine wp_seq_k fun K39 hK39 => ?_
        refine wp_region_lit ?_
        refine sEv (v := (.int .u32 ((xh_34 : Int)))) (rfl) rfl rfl ?_
        refine sEv (v := (.int .u32 ((rs : Int)))) (rfl) rfl rfl ?_
        by_cases hc40 : ((xh_34 : Int)) < ((rs : Int))
        · refine sEv (v := (.bool true)) (evLss true rfl rfl (dT hc40)) rfl rfl ?_
          refine sEv (v := (.bool true)) (rfl) rfl rfl ?_
          refine sSkip rfl rfl ?_
          refine sSkip rfl rfl ?_
          refine sSkip rfl rfl ?_
          refine sSkip rfl rfl ?_
          refine sSkip rfl rfl ?_
          refine sSkip rfl rfl ?_
          refine sSkip rfl rfl ?_
          refine sSkip rfl rfl ?_
          refine sEv (v := (.bool true)) (rfl) rfl rfl ?_
          refine sDone ?_
          refine xN (hK39 _ _ ?_)
          refine cT rfl ?_
          refine wp_exit (xE (bO rfl (xE (bE ?_))))
          refine xN (hK11 _ _ ?_)
          refine wp_seq_k fun K41 hK41 => ?_
          refine wp_region_lit ?_
          refine sEv (v := (.int .u32 ((dg : Int)))) (rfl) rfl rfl ?_
          refine sEv (v := (.int .u32 ((dg : Int)))) (rfl) rfl rfl ?_
          refine sDone ?_
          refine xN (hK41 _ _ ?_)
          refine wp_ret ?_
          refine ret1 (.int .u32 ((dg : Int))) Try.results129 (resT rfl) ?_
          exact ⟨(dg), rfl, ((hE9.trans hF20).trans hE36), (by omega), (est_ok0 hI (by omega) e_34 bl_34 bc (by omega)), hM⟩
        · refine sEv (v := (.bool false)) (evLss false rfl rfl (dF hc40)) rfl rfl ?_
          refine sEv (v := (.bool false)) (rfl) rfl rfl ?_
          refine sEv (v := (.int .u32 ((xh_34 : Int)))) (rfl) rfl rfl ?_
          refine sEv (v := (.int .u32 ((rs : Int)))) (rfl) rfl rfl ?_
          by_cases hc42 : ((xh_34 : Int)) = ((rs : Int))
          · refine sEv (v := (.bool true)) (evEql true rfl rfl (dT hc42)) rfl rfl ?_
            refine sEv (v := (.bool true)) (rfl) rfl rfl ?_
            refine sEv (v := (.int .u32 ((xl_34 : Int)))) (rfl) rfl rfl ?_
            refine sEv (v := (.int .u32 ((xc : Int)))) (rfl) rfl rfl ?_
            by_cases hc43 : ((xl_34 : Int)) ≤ ((xc : Int))
            · refine sEv (v := (.bool true)) (evLeq true rfl rfl (dT hc43)) rfl rfl ?_
              refine sEv (v := (.bool true)) (rfl) rfl rfl ?_
              refine sEv (v := (.bool true)) (rfl) rfl rfl ?_
              refine sDone ?_
              refine xN (hK39 _ _ ?_)
              refine cT rfl ?_
              refine wp_exit (xE (bO rfl (xE (bE ?_))))
              refine xN (hK11 _ _ ?_)
              refine wp_seq_k fun K44 hK44 => ?_
              refine wp_region_lit ?_
              refine sEv (v := (.int .u32 ((dg : Int)))) (rfl) rfl rfl ?_
              refine sEv (v := (.int .u32 ((dg : Int)))) (rfl) rfl rfl ?_
              refine sDone ?_
              refine xN (hK44 _ _ ?_)
              refine wp_ret ?_
              refine ret1 (.int .u32 ((dg : Int))) Try.results129 (resT rfl) ?_
              exact ⟨(dg), rfl, ((hE9.trans hF20).trans hE36), (by omega), (est_ok0 hI (by omega) e_34 bl_34 bc (by omega)), hM⟩
            · refine sEv (v := (.bool false)) (evLeq false rfl rfl (dF hc43)) rfl rfl ?_
              refine sEv (v := (.bool false)) (rfl) rfl rfl ?_
              refine sEv (v := (.bool false)) (rfl) rfl rfl ?_
              refine sDone ?_
              refine xN (hK39 _ _ ?_)
              refine cF rfl ?_
              refine wp_skip ?_
              refine xN (hK38 _ _ ?_)
              refine wp_seq_k fun K45 hK45 => ?_
              have hno := est_no0 hI (by omega) e_34 bl_34 bc (by omega)
              have hpos := est_pos hno
              refine wp_region_lit ?_
              refine sEv (v := (.int .u32 ((dg : Int)))) (rfl) rfl rfl ?_
              refine sEv (v := (.int .u32 (((dg - 1 : Nat) : Int)))) (evSub (((dg - 1 : Nat) : Int)) rfl rfl (wU32 (by omega))) rfl rfl ?_
              refine sEv (v := (.int .u32 (((dg - 1 : Nat) : Int)))) (rfl) rfl rfl ?_
              refine sDone ?_
              refine xN (hK45 _ _ ?_)
              refine wp_region_lit ?_
              refine sEv (v := (.int .u32 ((rs : Int)))) (rfl) rfl rfl ?_
              refine sEv (v := (.int .u32 ((xd : Int)))) (rfl) rfl rfl ?_
              refine sOp rfl (oCall rfl call111 (bits_Add32 (x1 := rs) (by omega) (x2 := xd) (by omega) (x3 := 0) (by omega) (by omega)) rfl ?_)
              rintro _ w47 ⟨xs_46, xc_46, rfl, hE48, bs_46, bc_46, e_46, z_46⟩
              have hz49 := hE48.size
              refine sEv (v := (.tuple #[(.int .u32 ((xs_46 : Int))), (.int .u32 ((xc_46 : Int)))])) (rfl) rfl rfl ?_
              refine sEv (v := (.int .u32 ((xs_46 : Int)))) (rfl) rfl rfl ?_
              refine sEv (v := (.int .u32 ((xc_46 : Int)))) (rfl) rfl rfl ?_
              refine sEv (v := (.int .u32 ((xs_46 : Int)))) (rfl) rfl rfl ?_
              refine sEv (v := (.int .u32 ((xc_46 : Int)))) (rfl) rfl rfl ?_
              refine sDone ?_
              refine bN ?_
              refine again ((dg - 1)) (by omega) ⟨(dg - 1), (xs_46), (xc_46), rfl, rfl, rfl, rfl, (congrArg (Value.int .u32) (by omega)), (congrArg (Value.int .u32) (by omega)), (congrArg (Value.int .u32) (by omega)), ((hF20.trans hE36).trans hE48), ?_, ?_, ?_, ?_, ?_⟩
              · omega
              · omega
              · omega
              · exact hI.next0 (by omega) hpos (by omega)
              · exact hM.next hno
          · refine sEv (v := (.bool false)) (evEql false rfl rfl (dF hc42)) rfl rfl ?_
            refine sEv (v := (.bool false)) (rfl) rfl rfl ?_
            refine sSkip rfl rfl ?_
            refine sSkip rfl rfl ?_
            refine sSkip rfl rfl ?_
            refine sEv (v := (.bool false)) (rfl) rfl rfl ?_
            refine sEv (v := (.bool false)) (rfl) rfl rfl ?_
            refine sDone ?_
            refine xN (hK39 _ _ ?_)
            refine cF rfl ?_
            refine wp_skip ?_
            refine xN (hK38 _ _ ?_)
            refine wp_seq_k fun K50 hK50 => ?_
            have hno := est_no0 hI (by omega) e_34 bl_34 bc (by omega)
            have hpos := est_pos hno
            refine wp_region_lit ?_
            refine sEv (v := (.int .u32 ((dg : Int)))) (rfl) rfl rfl ?_
            refine sEv (v := (.int .u32 (((dg - 1 : Nat) : Int)))) (evSub (((dg - 1 : Nat) : Int)) rfl rfl (wU32 (by omega))) rfl rfl ?_
            refine sEv (v := (.int .u32 (((dg - 1 : Nat) : Int)))) (rfl) rfl rfl ?_
            refine sDone ?_
            refine xN (hK50 _ _ ?_)
            refine wp_region_lit ?_
            refine sEv (v := (.int .u32 ((rs : Int)))) (rfl) rfl rfl ?_
            refine sEv (v := (.int .u32 ((xd : Int)))) (rfl) rfl rfl ?_
            refine sOp rfl (oCall rfl call111 (bits_Add32 (x1 := rs) (by omega) (x2 := xd) (by omega) (x3 := 0) (by omega) (by omega)) rfl ?_)
            rintro _ w52 ⟨xs_51, xc_51, rfl, hE53, bs_51, bc_51, e_51, z_51⟩
            have hz54 := hE53.size
            refine sEv (v := (.tuple #[(.int .u32 ((xs_51 : Int))), (.int .u32 ((xc_51 : Int)))])) (rfl) rfl rfl ?_
            refine sEv (v := (.int .u32 ((xs_51 : Int)))) (rfl) rfl rfl ?_
            refine sEv (v := (.int .u32 ((xc_51 : Int)))) (rfl) rfl rfl ?_
            refine sEv (v := (.int .u32 ((xs_51 : Int)))) (rfl) rfl rfl ?_
            refine sEv (v := (.int .u32 ((xc_51 : Int)))) (rfl) rfl rfl ?_
            refine sDone ?_
            refine bN ?_
            refine again ((dg - 1)) (by omega) ⟨(dg - 1), (xs_51), (xc_51), rfl, rfl, rfl, rfl, (congrArg (Value.int .u32) (by omega)), (congrArg (Value.int .u32) (by omega)), (congrArg (Value.int .u32) (by omega)), ((hF20.trans hE36).trans hE53), ?_, ?_, ?_, ?_, ?_⟩
            · omega
            · omega
            · omega
            · exact hI.next0 (by omega) hpos (by omega)
            · exact hM.next hno
      · refine sEv (v := (.bool false)) (evEql false rfl rfl (dF hc32)) rfl rfl ?_
        refine sDone ?_
        refine xN (hK31 _ _ ?_)
        refine cF rfl ?_
        refine wp_exit (xE (xE (bE ?_)))
        refine xN (hK11 _ _ ?_)
        refine wp_seq_k fun K55 hK55 => ?_
        refine wp_region_lit ?_
        refine sEv (v := (.int .u32 ((dg : Int)))) (rfl) rfl rfl ?_
        refine sEv (v := (.int .u32 ((dg : Int)))) (rfl) rfl rfl ?_
        refine sDone ?_
        refine xN (hK55 _ _ ?_)
        refine wp_ret ?_
        refine ret1 (.int .u32 ((dg : Int))) Try.results129 (resT rfl) ?_
        exact ⟨(dg), rfl, (hE9.trans hF20), (by omega), (est_over1 hI (by omega) hdg be), hM⟩
  · refine sEv (v := (.bool false)) (evGeq false rfl rfl (dF hc5)) rfl rfl ?_
    refine sDone ?_
    refine xN (hK4 _ _ ?_)
    refine cF rfl ?_
    refine wp_region_lit ?_
    refine sEv (v := (.int .u32 ((xa : Int)))) (rfl) rfl rfl ?_
    refine sEv (v := (.int .u32 ((xb : Int)))) (rfl) rfl rfl ?_
    refine sEv (v := (.int .u32 ((xd : Int)))) (rfl) rfl rfl ?_
    refine sOp rfl (oCall rfl call134 (bits_Div32 (x1 := xa) (by omega) (x2 := xb) (by omega) (x3 := xd) (by omega) (by omega)) rfl ?_)
    rintro _ w57 ⟨xq_56, xm_56, rfl, hE58, bq_56, bm_56, e_56, lt_56⟩
    have hz59 := hE58.size
    refine sEv (v := (.tuple #[(.int .u32 ((xq_56 : Int))), (.int .u32 ((xm_56 : Int)))])) (rfl) rfl rfl ?_
    refine sEv (v := (.int .u32 ((xq_56 : Int)))) (rfl) rfl rfl ?_
    refine sEv (v := (.int .u32 ((xm_56 : Int)))) (rfl) rfl rfl ?_
    refine sEv (v := (.int .u32 ((xq_56 : Int)))) (rfl) rfl rfl ?_
    refine sEv (v := (.int .u32 ((xm_56 : Int)))) (rfl) rfl rfl ?_
    refine sDone ?_
    refine xN (hK3 _ _ ?_)
    refine wp_seq_k fun K60 hK60 => ?_
    refine wp_block ?_
    refine lLoop (fun m e w_ => ∃ (dg : Nat) (rs : Nat) (ov : Nat), m = dg ∧ e 2 = (.int .u32 ((xc : Int))) ∧ e 3 = (.int .u32 ((xd : Int))) ∧ e 4 = (.int .u32 ((xe : Int))) ∧ e 11 = (.int .u32 ((dg : Int))) ∧ e 12 = (.int .u32 ((rs : Int))) ∧ e 13 = (.int .u32 ((ov : Int))) ∧ Frm (fun b => False) w57 w_ ∧ (dg < 4294967296) ∧ (rs < 4294967296) ∧ (ov ≤ 1) ∧ (EstI xa xb xd dg (rs + 4294967296 * ov)) ∧ (EstM xa xb xc xd xe dg)) ((xq_56)) ?_ ?_
    · refine ⟨(xq_56), (xm_56), (0), rfl, rfl, rfl, rfl, (congrArg (Value.int .u32) (by omega)), (congrArg (Value.int .u32) (by omega)), (congrArg (Value.int .u32) (by omega)), (Frm.refl _ _), ?_, ?_, ?_, ?_, ?_⟩
      · omega
      · omega
      · omega
      · exact EstI.start2 e_56
      · exact EstM.start2 e_56 lt_56 bc
    · rintro m61 e71 w62 ⟨dg, rs, ov, hm70, hs63, hs64, hs65, hs66, hs67, hs68, hF69, hdg, hrs, hov, hI, hM⟩
      obtain ⟨r72, rfl⟩ := sq (e := e71) (t := 2) hs63
      obtain ⟨r73, rfl⟩ := sq (e := r72) (t := 3) hs64
      obtain ⟨r74, rfl⟩ := sq (e := r73) (t := 4) hs65
      obtain ⟨r75, rfl⟩ := sq (e := r74) (t := 11) hs66
      obtain ⟨r76, rfl⟩ := sq (e := r75) (t := 12) hs67
      obtain ⟨r77, rfl⟩ := sq (e := r76) (t := 13) hs68
      have hz78 := hF69.size
      refine wp_seq_k fun K79 hK79 => ?_
      refine wp_seq_k fun K80 hK80 => ?_
      refine wp_region_lit ?_
      refine sEv (v := (.int .u32 ((ov : Int)))) (rfl) rfl rfl ?_
      by_cases hc81 : ((ov : Int)) = 0
      · refine sEv (v := (.bool true)) (evEql true rfl rfl (dT hc81)) rfl rfl ?_
        refine sDone ?_
        refine xN (hK80 _ _ ?_)
        refine cT rfl ?_
        refine wp_skip ?_
        refine xN (hK79 _ _ ?_)
        refine wp_block ?_
        refine wp_seq_k fun K82 hK82 => ?_
        refine wp_region_lit ?_
        refine sEv (v := (.int .u32 ((dg : Int)))) (rfl) rfl rfl ?_
        refine sEv (v := (.int .u32 ((xe : Int)))) (rfl) rfl rfl ?_
        refine sOp rfl (oCall rfl call133 (bits_Mul32 (x1 := dg) (by omega) (x2 := xe) (by omega)) rfl ?_)
        rintro _ w84 ⟨xh_83, xl_83, rfl, hE85, bh_83, bl_83, e_83⟩
        have hz86 := hE85.size
        refine sEv (v := (.tuple #[(.int .u32 ((xh_83 : Int))), (.int .u32 ((xl_83 : Int)))])) (rfl) rfl rfl ?_
        refine sEv (v := (.int .u32 ((xh_83 : Int)))) (rfl) rfl rfl ?_
        refine sEv (v := (.int .u32 ((xl_83 : Int)))) (rfl) rfl rfl ?_
        refine sEv (v := (.int .u32 ((xh_83 : Int)))) (rfl) rfl rfl ?_
        refine sEv (v := (.int .u32 ((xl_83 : Int)))) (rfl) rfl rfl ?_
        refine sDone ?_
        refine xN (hK82 _ _ ?_)
        refine wp_seq_k fun K87 hK87 => ?_
        refine wp_seq_k fun K88 hK88 => ?_
        refine wp_region_lit ?_
        refine sEv (v := (.int .u32 ((xh_83 : Int)))) (rfl) rfl rfl ?_
        refine sEv (v := (.int .u32 ((rs : Int)))) (rfl) rfl rfl ?_
        by_cases hc89 : ((xh_83 : Int)) < ((rs : Int))
        · refine sEv (v := (.bool true)) (evLss true rfl rfl (dT hc89)) rfl rfl ?_
          refine sEv (v := (.bool true)) (rfl) rfl rfl ?_
          refine sSkip rfl rfl ?_
          refine sSkip rfl rfl ?_
          refine sSkip rfl rfl ?_
          refine sSkip rfl rfl ?_
          refine sSkip rfl rfl ?_
          refine sSkip rfl rfl ?_
          refine sSkip rfl rfl ?_
          refine sSkip rfl rfl ?_
          refine sEv (v := (.bool true)) (rfl) rfl rfl ?_
          refine sDone ?_
          refine xN (hK88 _ _ ?_)
          refine cT rfl ?_
          refine wp_exit (xE (bO rfl (xE (bE ?_))))
          refine xN (hK60 _ _ ?_)
          refine wp_seq_k fun K90 hK90 => ?_
          refine wp_region_lit ?_
          refine sEv (v := (.int .u32 ((dg : Int)))) (rfl) rfl rfl ?_
          refine sEv (v := (.int .u32 ((dg : Int)))) (rfl) rfl rfl ?_
          refine sDone ?_
          refine xN (hK90 _ _ ?_)
          refine wp_ret ?_
          refine ret1 (.int .u32 ((dg : Int))) Try.results129 (resT rfl) ?_
          exact ⟨(dg), rfl, ((hE58.trans hF69).trans hE85), (by omega), (est_ok0 hI (by omega) e_83 bl_83 bc (by omega)), hM⟩
        · refine sEv (v := (.bool false)) (evLss false rfl rfl (dF hc89)) rfl rfl ?_
          refine sEv (v := (.bool false)) (rfl) rfl rfl ?_
          refine sEv (v := (.int .u32 ((xh_83 : Int)))) (rfl) rfl rfl ?_
          refine sEv (v := (.int .u32 ((rs : Int)))) (rfl) rfl rfl ?_
          by_cases hc91 : ((xh_83 : Int)) = ((rs : Int))
          · refine sEv (v := (.bool true)) (evEql true rfl rfl (dT hc91)) rfl rfl ?_
            refine sEv (v := (.bool true)) (rfl) rfl rfl ?_
            refine sEv (v := (.int .u32 ((xl_83 : Int)))) (rfl) rfl rfl ?_
            refine sEv (v := (.int .u32 ((xc : Int)))) (rfl) rfl rfl ?_
            by_cases hc92 : ((xl_83 : Int)) ≤ ((xc : Int))
            · refine sEv (v := (.bool true)) (evLeq true rfl rfl (dT hc92)) rfl rfl ?_
              refine sEv (v := (.bool true)) (rfl) rfl rfl ?_
              refine sEv (v := (.bool true)) (rfl) rfl rfl ?_
              refine sDone ?_
              refine xN (hK88 _ _ ?_)
              refine cT rfl ?_
              refine wp_exit (xE (bO rfl (xE (bE ?_))))
              refine xN (hK60 _ _ ?_)
              refine wp_seq_k fun K93 hK93 => ?_
              refine wp_region_lit ?_
              refine sEv (v := (.int .u32 ((dg : Int)))) (rfl) rfl rfl ?_
              refine sEv (v := (.int .u32 ((dg : Int)))) (rfl) rfl rfl ?_
              refine sDone ?_
              refine xN (hK93 _ _ ?_)
              refine wp_ret ?_
              refine ret1 (.int .u32 ((dg : Int))) Try.results129 (resT rfl) ?_
              exact ⟨(dg), rfl, ((hE58.trans hF69).trans hE85), (by omega), (est_ok0 hI (by omega) e_83 bl_83 bc (by omega)), hM⟩
            · refine sEv (v := (.bool false)) (evLeq false rfl rfl (dF hc92)) rfl rfl ?_
              refine sEv (v := (.bool false)) (rfl) rfl rfl ?_
              refine sEv (v := (.bool false)) (rfl) rfl rfl ?_
              refine sDone ?_
              refine xN (hK88 _ _ ?_)
              refine cF rfl ?_
              refine wp_skip ?_
              refine xN (hK87 _ _ ?_)
              refine wp_seq_k fun K94 hK94 => ?_
              have hno := est_no0 hI (by omega) e_83 bl_83 bc (by omega)
              have hpos := est_pos hno
              refine wp_region_lit ?_
              refine sEv (v := (.int .u32 ((dg : Int)))) (rfl) rfl rfl ?_
              refine sEv (v := (.int .u32 (((dg - 1 : Nat) : Int)))) (evSub (((dg - 1 : Nat) : Int)) rfl rfl (wU32 (by omega))) rfl rfl ?_
              refine sEv (v := (.int .u32 (((dg - 1 : Nat) : Int)))) (rfl) rfl rfl ?_
              refine sDone ?_
              refine xN (hK94 _ _ ?_)
              refine wp_region_lit ?_
              refine sEv (v := (.int .u32 ((rs : Int)))) (rfl) rfl rfl ?_
              refine sEv (v := (.int .u32 ((xd : Int)))) (rfl) rfl rfl ?_
              refine sOp rfl (oCall rfl call111 (bits_Add32 (x1 := rs) (by omega) (x2 := xd) (by omega) (x3 := 0) (by omega) (by omega)) rfl ?_)
              rintro _ w96 ⟨xs_95, xc_95, rfl, hE97, bs_95, bc_95, e_95, z_95⟩
              have hz98 := hE97.size
              refine sEv (v := (.tuple #[(.int .u32 ((xs_95 : Int))), (.int .u32 ((xc_95 : Int)))])) (rfl) rfl rfl ?_
              refine sEv (v := (.int .u32 ((xs_95 : Int)))) (rfl) rfl rfl ?_
              refine sEv (v := (.int .u32 ((xc_95 : Int)))) (rfl) rfl rfl ?_
              refine sEv (v := (.int .u32 ((xs_95 : Int)))) (rfl) rfl rfl ?_
              refine sEv (v := (.int .u32 ((xc_95 : Int)))) (rfl) rfl rfl ?_
              refine sDone ?_
              refine bN ?_
              refine again ((dg - 1)) (by omega) ⟨(dg - 1), (xs_95), (xc_95), rfl, rfl, rfl, rfl, (congrArg (Value.int .u32) (by omega)), (congrArg (Value.int .u32) (by omega)), (congrArg (Value.int .u32) (by omega)), ((hF69.trans hE85).trans hE97), ?_, ?_, ?_, ?_, ?_⟩
              · omega
              · omega
              · omega
              · exact hI.next0 (by omega) hpos (by omega)
              · exact hM.next hno
          · refine sEv (v := (.bool false)) (evEql false rfl rfl (dF hc91)) rfl rfl ?_
            refine sEv (v := (.bool false)) (rfl) rfl rfl ?_
            refine sSkip rfl rfl ?_
            refine sSkip rfl rfl ?_
            refine sSkip rfl rfl ?_
            refine sEv (v := (.bool false)) (rfl) rfl rfl ?_
            refine sEv (v := (.bool false)) (rfl) rfl rfl ?_
            refine sDone ?_
            refine xN (hK88 _ _ ?_)
            refine cF rfl ?_
            refine wp_skip ?_
            refine xN (hK87 _ _ ?_)
            refine wp_seq_k fun K99 hK99 => ?_
            have hno := est_no0 hI (by omega) e_83 bl_83 bc (by omega)
            have hpos := est_pos hno
            refine wp_region_lit ?_
            refine sEv (v := (.int .u32 ((dg : Int)))) (rfl) rfl rfl ?_
            refine sEv (v := (.int .u32 (((dg - 1 : Nat) : Int)))) (evSub (((dg - 1 : Nat) : Int)) rfl rfl (wU32 (by omega))) rfl rfl ?_
            refine sEv (v := (.int .u32 (((dg - 1 : Nat) : Int)))) (rfl) rfl rfl ?_
            refine sDone ?_
            refine xN (hK99 _ _ ?_)
            refine wp_region_lit ?_
            refine sEv (v := (.int .u32 ((rs : Int)))) (rfl) rfl rfl ?_
            refine sEv (v := (.int .u32 ((xd : Int)))) (rfl) rfl rfl ?_
            refine sOp rfl (oCall rfl call111 (bits_Add32 (x1 := rs) (by omega) (x2 := xd) (by omega) (x3 := 0) (by omega) (by omega)) rfl ?_)
            rintro _ w101 ⟨xs_100, xc_100, rfl, hE102, bs_100, bc_100, e_100, z_100⟩
            have hz103 := hE102.size
            refine sEv (v := (.tuple #[(.int .u32 ((xs_100 : Int))), (.int .u32 ((xc_100 : Int)))])) (rfl) rfl rfl ?_
            refine sEv (v := (.int .u32 ((xs_100 : Int)))) (rfl) rfl rfl ?_
            refine sEv (v := (.int .u32 ((xc_100 : Int)))) (rfl) rfl rfl ?_
            refine sEv (v := (.int .u32 ((xs_100 : Int)))) (rfl) rfl rfl ?_
            refine sEv (v := (.int .u32 ((xc_100 : Int)))) (rfl) rfl rfl ?_
            refine sDone ?_
            refine bN ?_
            refine again ((dg - 1)) (by omega) ⟨(dg - 1), (xs_100), (xc_100), rfl, rfl, rfl, rfl, (congrArg (Value.int .u32) (by omega)), (congrArg (Value.int .u32) (by omega)), (congrArg (Value.int .u32) (by omega)), ((hF69.trans hE85).trans hE102), ?_, ?_, ?_, ?_, ?_⟩
            · omega
            · omega
            · omega
            · exact hI.next0 (by omega) hpos (by omega)
            · exact hM.next hno
      · refine sEv (v := (.bool false)) (evEql false rfl rfl (dF hc81)) rfl rfl ?_
        refine sDone ?_
        refine xN (hK80 _ _ ?_)
        refine cF rfl ?_
        refine wp_exit (xE (xE (bE ?_)))
        refine xN (hK60 _ _ ?_)
        refine wp_seq_k fun K104 hK104 => ?_
        refine wp_region_lit ?_
        refine sEv (v := (.int .u32 ((dg : Int)))) (rfl) rfl rfl ?_
        refine sEv (v := (.int .u32 ((dg : Int)))) (rfl) rfl rfl ?_
        refine sDone ?_
        refine xN (hK104 _ _ ?_)
        refine wp_ret ?_
        refine ret1 (.int .u32 ((dg : Int))) Try.results129 (resT rfl) ?_
        exact ⟨(dg), rfl, (hE58.trans hF69), (by omega), (est_over1 hI (by omega) hdg be), hM⟩

set_option maxHeartbeats 1000000 in
theorem division_subtractMultiple {w : World} {pz oz nz cz : Nat} {Uz Zz : List Nat} {Av : Option Addr} {nv cv : Nat} {dv : List Nat} {xd : Nat} (Bz : Blk w pz 62 ((Uz ++ Zz).map u32)) (luz : Uz.length = oz) (lzz : nz ≤ Zz.length) (ltz : ∀ d ∈ Uz ++ Zz, d < BS) (lcz : cz ≤ 9223372036854775807) (lkz : nz ≤ cz) (hv : NatR w (fun b => b ≠ pz) Av nv cv dv) (bd : xd < 4294967296) (hnz : nz = nv + 1) : Calls Try.prog 130 #[(.slice (some ⟨pz, oz, none⟩) nz cz), (.slice Av nv cv), (.int .u32 ((xd : Int)))] w (Ret fun v w' => ∃ (gr : Bool) (Zr : List Nat) (bo : Nat), v = (.bool gr) ∧ Frm (fun b => b = pz) w w' ∧ (Blk w' pz 62 ((Uz ++ Zr).map u32)) ∧ (Zr.length = Zz.length) ∧ (∀ d ∈ Uz ++ Zr, d < BS) ∧ (Zr.drop nz = Zz.drop nz) ∧ (val (Zr.take nz) + xd * val dv = val (Zz.take nz) + BS ^ nz * bo) ∧ (bo ≤ 1) ∧ (gr = decide (bo ≠ 0))) := by
  have lv := hv.len; have kv := hv.cap; have mv := hv.max
  refine enter Try.func130 rfl Try.ntmps130 rfl ?_
  refine wp_seq_k fun K1 hK1 => ?_
  refine wp_region_lit ?_
  refine sEv (v := (.bool false)) (rfl) rfl rfl ?_
  refine sDone ?_
  refine xN (hK1 _ _ ?_)
  refine wp_seq_k fun K2 hK2 => ?_
  refine wp_region_lit ?_
  refine sEv (v := (.int .u32 (0))) (rfl) rfl rfl ?_
  refine sEv (v := (.int .u32 (0))) (rfl) rfl rfl ?_
  refine sDone ?_
  refine xN (hK2 _ _ ?_)
  refine wp_seq_k fun K3 hK3 => ?_
  refine wp_seq_k fun K4 hK4 => ?_
  refine wp_region_lit ?_
  refine sEv (v := (.slice Av nv cv)) (rfl) rfl rfl ?_
  refine sEv (v := (.int .i64 ((nv : Int)))) (evLen Try.underlying44 rfl) rfl rfl ?_
  refine sEv (v := (.int .i64 (0))) (rfl) rfl rfl ?_
  refine sDone ?_
  refine xN (hK4 _ _ ?_)
  refine wp_block ?_
  refine lLoop (fun m e w_ => ∃ (k : Nat) (P : List Nat) (cy : Nat) (bw : Nat), m = nv - k ∧ e 0 = (.slice (some ⟨pz, oz, none⟩) nz cz) ∧ e 1 = (.slice Av nv cv) ∧ e 2 = (.int .u32 ((xd : Int))) ∧ e 7 = (.int .u32 ((cy : Int))) ∧ e 8 = (.int .u32 ((bw : Int))) ∧ e 15 = (.slice Av nv cv) ∧ e 16 = (.int .i64 ((nv : Int))) ∧ e 17 = (.int .i64 ((k : Int))) ∧ Frm (fun b => b = pz) w w_ ∧ Blk w_ pz 62 ((Uz ++ (P ++ Zz.drop k)).map u32) ∧ (k ≤ nv) ∧ (P.length = k) ∧ (∀ d ∈ P, d < BS) ∧ (cy < 4294967296) ∧ (bw ≤ 1) ∧ (val P + xd * val (dv.take k) = val (Zz.take k) + BS ^ k * (bw + cy))) (nv - (0)) ?_ ?_
  · refine ⟨(0), ([]), (0), (0), rfl, rfl, rfl, rfl, (congrArg (Value.int .u32) (by omega)), (congrArg (Value.int .u32) (by omega)), rfl, rfl, (congrArg (Value.int .i64) (by omega)), (Frm.refl _ _), ?_, ?_, ?_, ?_, ?_, ?_, ?_⟩
    · simpa using Bz
    · omega
    · rfl
    · simp
    · omega
    · omega
    · simp [val]
  · rintro m5 e18 w6 ⟨k, P, cy, bw, hm17, hs7, hs8, hs9, hs10, hs11, hs12, hs13, hs14, hF15, hB16, hk, hP, hlt, hcy, hbw, hw⟩
    obtain ⟨r19, rfl⟩ := sq (e := e18) (t := 0) hs7
    obtain ⟨r20, rfl⟩ := sq (e := r19) (t := 1) hs8
    obtain ⟨r21, rfl⟩ := sq (e := r20) (t := 2) hs9
    obtain ⟨r22, rfl⟩ := sq (e := r21) (t := 7) hs10
    obtain ⟨r23, rfl⟩ := sq (e := r22) (t := 8) hs11
    obtain ⟨r24, rfl⟩ := sq (e := r23) (t := 15) hs12
    obtain ⟨r25, rfl⟩ := sq (e := r24) (t := 16) hs13
    obtain ⟨r26, rfl⟩ := sq (e := r25) (t := 17) hs14
    have hz27 := hF15.size
    refine wp_seq_k fun K28 hK28 => ?_
    refine wp_region_lit ?_
    by_cases hc29 : ((k : Int)) < ((nv : Int))
    · refine sEv (v := (.bool true)) (evLss true rfl rfl (dT hc29)) rfl rfl ?_
      refine sDone ?_
      refine xN (hK28 _ _ ?_)
      refine wp_seq_k fun K30 hK30 => ?_
      refine cT rfl ?_
      refine wp_skip ?_
      refine xN (hK30 _ _ ?_)
      refine wp_seq_k fun K31 hK31 => ?_
      refine wp_block ?_
      refine wp_seq_k fun K32 hK32 => ?_
      refine wp_region_lit ?_
      refine sEv (v := (.int .i64 ((k : Int)))) (rfl) rfl rfl ?_
      have h33 := (hv.frmB hF15 q3)
      obtain ⟨b34, o35, rfl⟩ := h33.base (by omega)
      refine sEv (v := (.pointer (some ⟨b34, o35 + k, none⟩))) (evIndex k Try.underlying44 sz62 rfl rfl (by omega) (by omega) (o35 + k) (by omega)) rfl rfl ?_
      have hd36 := h33.lt k
      refine sEv (v := (.int .u32 (((dv.getD k 0 : Nat) : Int)))) (evLoad one62 rfl (h33.cell (by omega))) rfl rfl ?_
      refine sEv (v := (.int .i64 ((k : Int)))) (rfl) rfl rfl ?_
      refine sEv (v := (.int .u32 (((dv.getD k 0 : Nat) : Int)))) (rfl) rfl rfl ?_
      refine sDone ?_
      refine xN (hK32 _ _ ?_)
      refine wp_seq_k fun K37 hK37 => ?_
      refine wp_region_lit ?_
      refine sEv (v := (.int .u32 (((dv.getD k 0 : Nat) : Int)))) (rfl) rfl rfl ?_
      refine sEv (v := (.int .u32 ((xd : Int)))) (rfl) rfl rfl ?_
      refine sOp rfl (oCall rfl call133 (bits_Mul32 (x1 := dv.getD k 0) (by omega) (x2 := xd) (by omega)) rfl ?_)
      rintro _ w39 ⟨xh_38, xl_38, rfl, hE40, bh_38, bl_38, e_38⟩
      have hz41 := hE40.size
      refine sEv (v := (.tuple #[(.int .u32 ((xh_38 : Int))), (.int .u32 ((xl_38 : Int)))])) (rfl) rfl rfl ?_
      refine sEv (v := (.int .u32 ((xh_38 : Int)))) (rfl) rfl rfl ?_
      refine sEv (v := (.int .u32 ((xl_38 : Int)))) (rfl) rfl rfl ?_
      refine sEv (v := (.int .u32 ((xh_38 : Int)))) (rfl) rfl rfl ?_
      refine sEv (v := (.int .u32 ((xl_38 : Int)))) (rfl) rfl rfl ?_
      refine sDone ?_
      refine xN (hK37 _ _ ?_)
      refine wp_seq_k fun K42 hK42 => ?_
      refine wp_region_lit ?_
      refine sEv (v := (.int .u32 ((xl_38 : Int)))) (rfl) rfl rfl ?_
      refine sEv (v := (.int .u32 ((cy : Int)))) (rfl) rfl rfl ?_
      refine sOp rfl (oCall rfl call111 (bits_Add32 (x1 := xl_38) (by omega) (x2 := cy) (by omega) (x3 := 0) (by omega) (by omega)) rfl ?_)
      rintro _ w44 ⟨xs_43, xc_43, rfl, hE45, bs_43, bc_43, e_43, z_43⟩
      have hz46 := hE45.size
      refine sEv (v := (.tuple #[(.int .u32 ((xs_43 : Int))), (.int .u32 ((xc_43 : Int)))])) (rfl) rfl rfl ?_
      refine sEv (v := (.int .u32 ((xs_43 : Int)))) (rfl) rfl rfl ?_
      refine sEv (v := (.int .u32 ((xc_43 : Int)))) (rfl) rfl rfl ?_
      refine sEv (v := (.int .u32 ((xs_43 : Int)))) (rfl) rfl rfl ?_
      refine sEv (v := (.int .u32 ((xc_43 : Int)))) (rfl) rfl rfl ?_
      refine sDone ?_
      refine xN (hK42 _ _ ?_)
      refine wp_seq_k fun K47 hK47 => ?_
      have hmm : xd * dv.getD k 0 = dv.getD k 0 * xd := Nat.mul_comm _ _
      have h48 := (h33.ext (hE40.trans hE45))
      have hcc := mul_carry (q := 0) (c := cy) (s := xs_43) (c' := xh_38 + xc_43) (by omega) (h48.lt k) bd hcy (by omega)
      refine wp_region_lit ?_
      refine sEv (v := (.int .u32 ((xh_38 : Int)))) (rfl) rfl rfl ?_
      refine sEv (v := (.int .u32 ((xc_43 : Int)))) (rfl) rfl rfl ?_
      refine sEv (v := (.int .u32 (((xh_38 + xc_43 : Nat) : Int)))) (evAdd (((xh_38 + xc_43 : Nat) : Int)) rfl rfl (wU32 (by omega))) rfl rfl ?_
      refine sEv (v := (.int .u32 (((xh_38 + xc_43 : Nat) : Int)))) (rfl) rfl rfl ?_
      refine sDone ?_
      refine xN (hK47 _ _ ?_)
      have hq := seg_get luz hP (show k < Zz.length by omega) (t := oz + k) rfl
      refine wp_region_lit ?_
      refine sEv (v := (.slice (some ⟨pz, oz, none⟩) nz cz)) (rfl) rfl rfl ?_
      refine sEv (v := (.int .i64 ((k : Int)))) (rfl) rfl rfl ?_
      refine sEv (v := (.slice (some ⟨pz, oz, none⟩) nz cz)) (rfl) rfl rfl ?_
      refine sEv (v := (.int .i64 ((k : Int)))) (rfl) rfl rfl ?_
      refine sEv (v := (.pointer (some ⟨pz, oz + k, none⟩))) (evIndex k Try.underlying44 sz62 rfl rfl (by omega) (by omega) (oz + k) (by omega)) rfl rfl ?_
      have hB49 := (hB16.ext (hE40.trans hE45))
      have hd50 := getD_lt (ds := Uz ++ (P ++ Zz.drop k)) (i := oz + k) (lt_seg ltz hlt)
      refine sEv (v := (.int .u32 ((((Uz ++ (P ++ Zz.drop k)).getD (oz + k) 0 : Nat) : Int)))) (evLoad one62 rfl (hB49.dig (by exact lq))) rfl rfl ?_
      refine sEv (v := (.int .u32 ((xs_43 : Int)))) (rfl) rfl rfl ?_
      refine sEv (v := (.int .u32 ((bw : Int)))) (rfl) rfl rfl ?_
      refine sOp rfl (oCall rfl call113 (bits_Sub32 (x1 := (Uz ++ (P ++ Zz.drop k)).getD (oz + k) 0) (by omega) (x2 := xs_43) (by omega) (x3 := bw) (by omega) (by omega)) rfl ?_)
      rintro _ w52 ⟨xs_51, xc_51, rfl, hE53, bs_51, bc_51, e_51, z_51⟩
      have hz54 := hE53.size
      refine sEv (v := (.tuple #[(.int .u32 ((xs_51 : Int))), (.int .u32 ((xc_51 : Int)))])) (rfl) rfl rfl ?_
      refine sEv (v := (.int .u32 ((xs_51 : Int)))) (rfl) rfl rfl ?_
      refine sEv (v := (.int .u32 ((xc_51 : Int)))) (rfl) rfl rfl ?_
      refine sEv (v := (.pointer (some ⟨pz, oz + k, none⟩))) (evIndex k Try.underlying44 sz62 rfl rfl (by omega) (by omega) (oz + k) (by omega)) rfl rfl ?_
      have hB55 := (hB49.ext hE53)
      refine sOp rfl (oStore1 rfl rfl rfl sz62 hB55 (by exact lq) ?_)
      intro w56 hU57 hz58 hB59
      replace hB59 : Blk w56 pz 62 ((Uz ++ ((P ++ [xs_51]) ++ Zz.drop (k + 1))).map u32) := by rw [← (seg_set luz hP (by omega) (by omega) : (Uz ++ (P ++ Zz.drop k)).set (oz + k) xs_51 = Uz ++ ((P ++ [xs_51]) ++ Zz.drop (k + 1))), List.map_set]; exact hB59
      refine sEv (v := (.int .u32 ((xc_51 : Int)))) (rfl) rfl rfl ?_
      refine sDone ?_
      refine bN ?_
      refine xN (hK31 _ _ ?_)
      refine wp_region_lit ?_
      refine sEv (v := (.int .i64 (((k : Int)) + 1))) (evAdd (((k : Int)) + 1) rfl rfl (wI64 (by omega))) rfl rfl ?_
      refine sEv (v := (.int .i64 (((k : Int)) + 1))) (rfl) rfl rfl ?_
      refine sDone ?_
      refine again (nv - (k + 1)) (by omega) ⟨(k + 1), (P ++ [xs_51]), (xh_38 + xc_43), (xc_51), rfl, rfl, rfl, rfl, (congrArg (Value.int .u32) (by omega)), (congrArg (Value.int .u32) (by omega)), rfl, rfl, (congrArg (Value.int .i64) (by omega)), ((((hF15.trans (Frm.of_ext (G := fun b => (b = pz)) hE40)).trans (Frm.of_ext (G := fun b => (b = pz)) hE45)).trans (Frm.of_ext (G := fun b => (b = pz)) hE53)).trans hU57), ?_, ?_, ?_, ?_, ?_, ?_, ?_⟩
      · exact hB59
      · omega
      · simp [hP]
      · exact lt_snoc hlt (by omega)
      · exact hcc
      · omega
      · exact sm_step hw hP (by omega)
    · refine sEv (v := (.bool false)) (evLss false rfl rfl (dF hc29)) rfl rfl ?_
      refine sDone ?_
      refine xN (hK28 _ _ ?_)
      refine wp_seq_k fun K60 hK60 => ?_
      refine cF rfl ?_
      refine wp_exit (xE (xE (bE ?_)))
      refine xN (hK3 _ _ ?_)
      refine wp_seq_k fun K61 hK61 => ?_
      refine wp_region_lit ?_
      refine sEv (v := (.slice Av nv cv)) (rfl) rfl rfl ?_
      refine sEv (v := (.int .i64 ((nv : Int)))) (evLen Try.underlying44 rfl) rfl rfl ?_
      refine sEv (v := (.int .i64 ((nv : Int)))) (rfl) rfl rfl ?_
      refine sDone ?_
      refine xN (hK61 _ _ ?_)
      refine wp_seq_k fun K62 hK62 => ?_
      have hq2 := seg_get luz hP (show k < Zz.length by omega) (t := oz + nv) (by omega)
      refine wp_region_lit ?_
      refine sEv (v := (.slice (some ⟨pz, oz, none⟩) nz cz)) (rfl) rfl rfl ?_
      refine sEv (v := (.int .i64 ((nv : Int)))) (rfl) rfl rfl ?_
      refine sEv (v := (.slice (some ⟨pz, oz, none⟩) nz cz)) (rfl) rfl rfl ?_
      refine sEv (v := (.int .i64 ((nv : Int)))) (rfl) rfl rfl ?_
      refine sEv (v := (.pointer (some ⟨pz, oz + nv, none⟩))) (evIndex nv Try.underlying44 sz62 rfl rfl (by omega) (by omega) (oz + nv) (by omega)) rfl rfl ?_
      have hd63 := getD_lt (ds := Uz ++ (P ++ Zz.drop k)) (i := oz + nv) (lt_seg ltz hlt)
      refine sEv (v := (.int .u32 ((((Uz ++ (P ++ Zz.drop k)).getD (oz + nv) 0 : Nat) : Int)))) (evLoad one62 rfl (hB16.dig (by exact lq))) rfl rfl ?_
      refine sEv (v := (.int .u32 ((cy : Int)))) (rfl) rfl rfl ?_
      refine sEv (v := (.int .u32 ((bw : Int)))) (rfl) rfl rfl ?_
      refine sOp rfl (oCall rfl call113 (bits_Sub32 (x1 := (Uz ++ (P ++ Zz.drop k)).getD (oz + nv) 0) (by omega) (x2 := cy) (by omega) (x3 := bw) (by omega) (by omega)) rfl ?_)
      rintro _ w65 ⟨xs_64, xc_64, rfl, hE66, bs_64, bc_64, e_64, z_64⟩
      have hz67 := hE66.size
      refine sEv (v := (.tuple #[(.int .u32 ((xs_64 : Int))), (.int .u32 ((xc_64 : Int)))])) (rfl) rfl rfl ?_
      refine sEv (v := (.int .u32 ((xs_64 : Int)))) (rfl) rfl rfl ?_
      refine sEv (v := (.int .u32 ((xc_64 : Int)))) (rfl) rfl rfl ?_
      refine sEv (v := (.pointer (some ⟨pz, oz + nv, none⟩))) (evIndex nv Try.underlying44 sz62 rfl rfl (by omega) (by omega) (oz + nv) (by omega)) rfl rfl ?_
      have hB68 := (hB16.ext hE66)
      refine sOp rfl (oStore1 rfl rfl rfl sz62 hB68 (by exact lq) ?_)
      intro w69 hU70 hz71 hB72
      replace hB72 : Blk w69 pz 62 ((Uz ++ ((P ++ [xs_64]) ++ Zz.drop (k + 1))).map u32) := by rw [← (seg_set luz hP (by omega) (by omega) : (Uz ++ (P ++ Zz.drop k)).set (oz + nv) xs_64 = Uz ++ ((P ++ [xs_64]) ++ Zz.drop (k + 1))), List.map_set]; exact hB72
      refine sEv (v := (.int .u32 ((xc_64 : Int)))) (rfl) rfl rfl ?_
      refine sDone ?_
      refine xN (hK62 _ _ ?_)
      refine wp_seq_k fun K73 hK73 => ?_
      refine wp_region_lit ?_
      refine sEv (v := (.int .u32 ((xc_64 : Int)))) (rfl) rfl rfl ?_
      refine sEv (v := (.bool (decide (xc_64 ≠ 0)))) (evNeq (decide (xc_64 ≠ 0)) rfl rfl (natne _)) rfl rfl ?_
      refine sEv (v := (.bool (decide (xc_64 ≠ 0)))) (rfl) rfl rfl ?_
      refine sDone ?_
      refine xN (hK73 _ _ ?_)
      refine wp_ret ?_
      refine ret1 (.bool (decide (xc_64 ≠ 0))) Try.results130 (resT rfl) ?_
      have hlast := sm_last hw hP (by omega) (show bw + cy + xs_64 = Zz.getD k 0 + 4294967296 * xc_64 by omega)
      exact ⟨(decide (xc_64 ≠ 0)), ((P ++ [xs_64]) ++ Zz.drop (k + 1)), xc_64, rfl, ((hF15.trans (Frm.of_ext (G := fun b => (b = pz)) hE66)).trans hU70), hB72, (by exact lq), (lt_seg ltz (lt_snoc hlt (by omega))), (by rw [show nz = k + 1 by omega, part_drop (P := P) hP]), (by rw [show nz = k + 1 by omega, part_take (P := P) hP]; exact hlast), (by omega), rfl⟩

theorem division_addBack {w : World} {pz oz nz cz : Nat} {Uz Zz : List Nat} {Av : Option Addr} {nv cv : Nat} {dv : List Nat} (Bz : Blk w pz 62 ((Uz ++ Zz).map u32)) (luz : Uz.length = oz) (lzz : nz ≤ Zz.length) (ltz : ∀ d ∈ Uz ++ Zz, d < BS) (lcz : cz ≤ 9223372036854775807) (lkz : nz ≤ cz) (hv : NatR w (fun b => b ≠ pz) Av nv cv dv) (hnz : nz = nv + 1) : Calls Try.prog 131 #[(.slice (some ⟨pz, oz, none⟩) nz cz), (.slice Av nv cv)] w (Ret fun v w' => ∃ (Zr : List Nat) (cr : Nat), v = (.tuple #[]) ∧ Frm (fun b => b = pz) w w' ∧ (Blk w' pz 62 ((Uz ++ Zr).map u32)) ∧ (Zr.length = Zz.length) ∧ (∀ d ∈ Uz ++ Zr, d < BS) ∧ (Zr.drop nz = Zz.drop nz) ∧ (val (Zr.take nz) + BS ^ nz * cr = val (Zz.take nz) + val dv)) := by
  have lv := hv.len; have kv := hv.cap; have mv := hv.max
  refine enter Try.func131 rfl Try.ntmps131 rfl ?_
  refine wp_seq_k fun K1 hK1 => ?_
  refine wp_region_lit ?_
  refine sEv (v := (.int .u32 (0))) (rfl) rfl rfl ?_
  refine sDone ?_
  refine xN (hK1 _ _ ?_)
  refine wp_seq_k fun K2 hK2 => ?_
  refine wp_seq_k fun K3 hK3 => ?_
  refine wp_region_lit ?_
  refine sEv (v := (.slice Av nv cv)) (rfl) rfl rfl ?_
  refine sEv (v := (.int .i64 ((nv : Int)))) (evLen Try.underlying44 rfl) rfl rfl ?_
  refine sEv (v := (.int .i64 (0))) (rfl) rfl rfl ?_
  refine sDone ?_
  refine xN (hK3 _ _ ?_)
  refine wp_block ?_
  refine lLoop (fun m e w_ => ∃ (k : Nat) (P : List Nat) (cy : Nat), m = nv - k ∧ e 0 = (.slice (some ⟨pz, oz, none⟩) nz cz) ∧ e 1 = (.slice Av nv cv) ∧ e 4 = (.int .u32 ((cy : Int))) ∧ e 7 = (.slice Av nv cv) ∧ e 8 = (.int .i64 ((nv : Int))) ∧ e 9 = (.int .i64 ((k : Int))) ∧ Frm (fun b => b = pz) w w_ ∧ Blk w_ pz 62 ((Uz ++ (P ++ Zz.drop k)).map u32) ∧ (k ≤ nv) ∧ (P.length = k) ∧ (∀ d ∈ P, d < BS) ∧ (cy ≤ 1) ∧ (val P + BS ^ k * cy = val (Zz.take k) + val (dv.take k))) (nv - (0)) ?_ ?_
  · refine ⟨(0), ([]), (0), rfl, rfl, rfl, (congrArg (Value.int .u32) (by omega)), rfl, rfl, (congrArg (Value.int .i64) (by omega)), (Frm.refl _ _), ?_, ?_, ?_, ?_, ?_, ?_⟩
    · simpa using Bz
    · omega
    · rfl
    · simp
    · omega
    · simp [val]
  · rintro m4 e15 w5 ⟨k, P, cy, hm14, hs6, hs7, hs8, hs9, hs10, hs11, hF12, hB13, hk, hP, hlt, hcy, hw⟩
    obtain ⟨r16, rfl⟩ := sq (e := e15) (t := 0) hs6
    obtain ⟨r17, rfl⟩ := sq (e := r16) (t := 1) hs7
    obtain ⟨r18, rfl⟩ := sq (e := r17) (t := 4) hs8
    obtain ⟨r19, rfl⟩ := sq (e := r18) (t := 7) hs9
    obtain ⟨r20, rfl⟩ := sq (e := r19) (t := 8) hs10
    obtain ⟨r21, rfl⟩ := sq (e := r20) (t := 9) hs11
    have hz22 := hF12.size
    refine wp_seq_k fun K23 hK23 => ?_
    refine wp_region_lit ?_
    by_cases hc24 : ((k : Int)) < ((nv : Int))
    · refine sEv (v := (.bool true)) (evLss true rfl rfl (dT hc24)) rfl rfl ?_
      refine sDone ?_
      refine xN (hK23 _ _ ?_)
      refine wp_seq_k fun K25 hK25 => ?_
      refine cT rfl ?_
      refine wp_skip ?_
      refine xN (hK25 _ _ ?_)
      refine wp_seq_k fun K26 hK26 => ?_
      refine wp_block ?_
      refine wp_seq_k fun K27 hK27 => ?_
      refine wp_region_lit ?_
      refine sEv (v := (.int .i64 ((k : Int)))) (rfl) rfl rfl ?_
      have h28 := (hv.frmB hF12 q3)
      obtain ⟨b29, o30, rfl⟩ := h28.base (by omega)
      refine sEv (v := (.pointer (some ⟨b29, o30 + k, none⟩))) (evIndex k Try.underlying44 sz62 rfl rfl (by omega) (by omega) (o30 + k) (by omega)) rfl rfl ?_
      have hd31 := h28.lt k
      refine sEv (v := (.int .u32 (((dv.getD k 0 : Nat) : Int)))) (evLoad one62 rfl (h28.cell (by omega))) rfl rfl ?_
      refine sEv (v := (.int .i64 ((k : Int)))) (rfl) rfl rfl ?_
      refine sEv (v := (.int .u32 (((dv.getD k 0 : Nat) : Int)))) (rfl) rfl rfl ?_
      refine sDone ?_
      refine xN (hK27 _ _ ?_)
      have hq := seg_get luz hP (show k < Zz.length by omega) (t := oz + k) rfl
      refine wp_region_lit ?_
      refine sEv (v := (.slice (some ⟨pz, oz, none⟩) nz cz)) (rfl) rfl rfl ?_
      refine sEv (v := (.int .i64 ((k : Int)))) (rfl) rfl rfl ?_
      refine sEv (v := (.slice (some ⟨pz, oz, none⟩) nz cz)) (rfl) rfl rfl ?_
      refine sEv (v := (.int .i64 ((k : Int)))) (rfl) rfl rfl ?_
      refine sEv (v := (.pointer (some ⟨pz, oz + k, none⟩))) (evIndex k Try.underlying44 sz62 rfl rfl (by omega) (by omega) (oz + k) (by omega)) rfl rfl ?_
      have hd32 := getD_lt (ds := Uz ++ (P ++ Zz.drop k)) (i := oz + k) (lt_seg ltz hlt)
      refine sEv (v := (.int .u32 ((((Uz ++ (P ++ Zz.drop k)).getD (oz + k) 0 : Nat) : Int)))) (evLoad one62 rfl (hB13.dig (by exact lq))) rfl rfl ?_
      refine sEv (v := (.int .u32 (((dv.getD k 0 : Nat) : Int)))) (rfl) rfl rfl ?_
      refine sEv (v := (.int .u32 ((cy : Int)))) (rfl) rfl rfl ?_
      refine sOp rfl (oCall rfl call111 (bits_Add32 (x1 := (Uz ++ (P ++ Zz.drop k)).getD (oz + k) 0) (by omega) (x2 := dv.getD k 0) (by omega) (x3 := cy) (by omega) (by omega)) rfl ?_)
      rintro _ w34 ⟨xs_33, xc_33, rfl, hE35, bs_33, bc_33, e_33, z_33⟩
      have hz36 := hE35.size
      refine sEv (v := (.tuple #[(.int .u32 ((xs_33 : Int))), (.int .u32 ((xc_33 : Int)))])) (rfl) rfl rfl ?_
      refine sEv (v := (.int .u32 ((xs_33 : Int)))) (rfl) rfl rfl ?_
      refine sEv (v := (.int .u32 ((xc_33 : Int)))) (rfl) rfl rfl ?_
      refine sEv (v := (.pointer (some ⟨pz, oz + k, none⟩))) (evIndex k Try.underlying44 sz62 rfl rfl (by omega) (by omega) (oz + k) (by omega)) rfl rfl ?_
      have hB37 := (hB13.ext hE35)
      refine sOp rfl (oStore1 rfl rfl rfl sz62 hB37 (by exact lq) ?_)
      intro w38 hU39 hz40 hB41
      replace hB41 : Blk w38 pz 62 ((Uz ++ ((P ++ [xs_33]) ++ Zz.drop (k + 1))).map u32) := by rw [← (seg_set luz hP (by omega) (by omega) : (Uz ++ (P ++ Zz.drop k)).set (oz + k) xs_33 = Uz ++ ((P ++ [xs_33]) ++ Zz.drop (k + 1))), List.map_set]; exact hB41
      refine sEv (v := (.int .u32 ((xc_33 : Int)))) (rfl) rfl rfl ?_
      refine sDone ?_
      refine bN ?_
      refine xN (hK26 _ _ ?_)
      refine wp_region_lit ?_
      refine sEv (v := (.int .i64 (((k : Int)) + 1))) (evAdd (((k : Int)) + 1) rfl rfl (wI64 (by omega))) rfl rfl ?_
      refine sEv (v := (.int .i64 (((k : Int)) + 1))) (rfl) rfl rfl ?_
      refine sDone ?_
      refine again (nv - (k + 1)) (by omega) ⟨(k + 1), (P ++ [xs_33]), (xc_33), rfl, rfl, rfl, (congrArg (Value.int .u32) (by omega)), rfl, rfl, (congrArg (Value.int .i64) (by omega)), ((hF12.trans (Frm.of_ext (G := fun b => (b = pz)) hE35)).trans hU39), ?_, ?_, ?_, ?_, ?_, ?_⟩
      · exact hB41
      · omega
      · simp [hP]
      · exact lt_snoc hlt (by omega)
      · omega
      · exact add_step hw hP (by omega)
    · refine sEv (v := (.bool false)) (evLss false rfl rfl (dF hc24)) rfl rfl ?_
      refine sDone ?_
      refine xN (hK23 _ _ ?_)
      refine wp_seq_k fun K42 hK42 => ?_
      refine cF rfl ?_
      refine wp_exit (xE (xE (bE ?_)))
      refine xN (hK2 _ _ ?_)
      have hq2 := seg_get luz hP (show k < Zz.length by omega) (t := oz + nv) (by omega)
      refine wp_region_lit ?_
      refine sEv (v := (.slice (some ⟨pz, oz, none⟩) nz cz)) (rfl) rfl rfl ?_
      refine sEv (v := (.slice Av nv cv)) (rfl) rfl rfl ?_
      refine sEv (v := (.int .i64 ((nv : Int)))) (evLen Try.underlying44 rfl) rfl rfl ?_
      refine sEv (v := (.pointer (some ⟨pz, oz + nv, none⟩))) (evIndex nv Try.underlying44 sz62 rfl rfl (by omega) (by omega) (oz + nv) (by omega)) rfl rfl ?_
      have hd43 := getD_lt (ds := Uz ++ (P ++ Zz.drop k)) (i := oz + nv) (lt_seg ltz hlt)
      refine sEv (v := (.int .u32 ((((Uz ++ (P ++ Zz.drop k)).getD (oz + nv) 0 : Nat) : Int)))) (evLoad one62 rfl (hB13.dig (by exact lq))) rfl rfl ?_
      refine sEv (v := (.int .u32 ((cy : Int)))) (rfl) rfl rfl ?_
      refine sEv (v := (.int .u32 (((((Uz ++ (P ++ Zz.drop k)).getD (oz + nv) 0 + cy) % 4294967296 : Nat) : Int)))) (evAdd (((((Uz ++ (P ++ Zz.drop k)).getD (oz + nv) 0 + cy) % 4294967296 : Nat) : Int)) rfl rfl (wU32m (by omega))) rfl rfl ?_
      refine sEv (v := (.pointer (some ⟨pz, oz + nv, none⟩))) (evIndex nv Try.underlying44 sz62 rfl rfl (by omega) (by omega) (oz + nv) (by omega)) rfl rfl ?_
      refine sOp rfl (oStore1 rfl rfl rfl sz62 hB13 (by exact lq) ?_)
      intro w44 hU45 hz46 hB47
      replace hB47 : Blk w44 pz 62 ((Uz ++ ((P ++ [((Uz ++ (P ++ Zz.drop k)).getD (oz + nv) 0 + cy) % 4294967296]) ++ Zz.drop (k + 1))).map u32) := by rw [← (seg_set luz hP (by omega) (by omega) : (Uz ++ (P ++ Zz.drop k)).set (oz + nv) (((Uz ++ (P ++ Zz.drop k)).getD (oz + nv) 0 + cy) % 4294967296) = Uz ++ ((P ++ [((Uz ++ (P ++ Zz.drop k)).getD (oz + nv) 0 + cy) % 4294967296]) ++ Zz.drop (k + 1))), List.map_set]; exact hB47
      refine sDone ?_
      refine end0 Try.results131 ?_
      have hlast := add_step (s := ((Uz ++ (P ++ Zz.drop k)).getD (oz + nv) 0 + cy) % 4294967296) (c' := ((Uz ++ (P ++ Zz.drop k)).getD (oz + nv) 0 + cy) / 4294967296) hw hP (by rw [getD_ge (ds := dv) (n := nv) (by omega) k (by omega)]; omega)
      exact ⟨((P ++ [((Uz ++ (P ++ Zz.drop k)).getD (oz + nv) 0 + cy) % 4294967296]) ++ Zz.drop (k + 1)), (((Uz ++ (P ++ Zz.drop k)).getD (oz + nv) 0 + cy) / 4294967296), rfl, (hF12.trans hU45), hB47, (by exact lq), (lt_seg ltz (lt_snoc hlt (by omega))), (by rw [show nz = k + 1 by omega, part_drop (P := P) hP]), (by rw [show nz = k + 1 by omega, part_take (P := P) hP]; rw [val_take_all dv (show dv.length ≤ k + 1 by omega)] at hlast; exact hlast)⟩

end Go.Proofs.Ytppegjbdencefaa
