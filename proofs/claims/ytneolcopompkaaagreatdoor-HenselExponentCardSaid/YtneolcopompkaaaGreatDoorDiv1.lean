/-
  Walks of package division: the digit of a quotient, its multiple taken off, added back.
-/
import Derived.Test.YtneolcopompkaaaGreatDoorNat5
namespace Go.Proofs.YtneolcopompkaaaGreatDoor
open Go.RowKit Go.Gx
set_option maxHeartbeats 1000000 in
theorem division_estimate {w : World} {xa : Nat} {xb : Nat} {xc : Nat} {xd : Nat} {xe : Nat} (ba : xa < 4294967296) (bb : xb < 4294967296) (bc : xc < 4294967296) (bd : xd < 4294967296) (be : xe < 4294967296) (hle : xa ≤ xd) (hd : 0 < xd) : Calls Tryz.prog 143 #[(.int .u32 ((xa : Int))), (.int .u32 ((xb : Int))), (.int .u32 ((xc : Int))), (.int .u32 ((xd : Int))), (.int .u32 ((xe : Int)))] w (Ret fun v w' => ∃ (xr : Nat), v = (.int .u32 ((xr : Int))) ∧ Ext w w' ∧ xr < 4294967296 ∧ (xr * estV xd xe ≤ estU xa xb xc) ∧ (EstM xa xb xc xd xe xr)) := by
  refine enter Tryz.func143 rfl Tryz.ntmps143 rfl (rS fun K1 hK1 => sAi rfl (sK hK1 (rS fun K2 hK2 => sAi rfl (sAi rfl (sAi rfl (sK hK2 (wp_seq_k fun K3 hK3 => rS fun K4 hK4 => sMi rfl (sMi rfl ?_))))))))
  by_cases hc5 : ((xa : Int)) ≥ ((xd : Int))
  · refine sV (evGeq true rfl rfl (dT hc5)) (sK hK4 (cT rfl (rS fun K6 hK6 => sAi rfl (sK hK6 (wp_region_lit (sMi rfl (sMi rfl (sO (oCall rfl call89 (bits_Add32 (x1 := xb) (by omega) (x2 := xd) (by omega) (x3 := 0) (by omega) (by omega)) rfl ?_)))))))))
    rintro _ w8 ⟨xs_7, xc_7, rfl, hE9, bs_7, bc_7, e_7, z_7⟩
    have hz10 := hE9.size
    refine sV (v := (.tuple #[(.int .u32 ((xs_7 : Int))), (.int .u32 ((xc_7 : Int)))])) (rfl) (sV (v := (.int .u32 ((xs_7 : Int)))) (rfl) (sV (v := (.int .u32 ((xc_7 : Int)))) (rfl) (sAi rfl (sAi rfl (sK hK3 (wp_seq_k fun K11 hK11 => wp_block ?_))))))
    refine lLoop (fun m e w_ => ∃ (dg : Nat) (rs : Nat) (ov : Nat), m = dg ∧ e 2 = (.int .u32 ((xc : Int))) ∧ e 3 = (.int .u32 ((xd : Int))) ∧ e 4 = (.int .u32 ((xe : Int))) ∧ e 11 = (.int .u32 ((dg : Int))) ∧ e 12 = (.int .u32 ((rs : Int))) ∧ e 13 = (.int .u32 ((ov : Int))) ∧ Frm (fun b => False) w8 w_ ∧ (dg < 4294967296) ∧ (rs < 4294967296) ∧ (ov ≤ 1) ∧ (EstI xa xb xd dg (rs + 4294967296 * ov)) ∧ (EstM xa xb xc xd xe dg)) ((4294967295)) ?_ ?_
    · refine ⟨(4294967295), (xs_7), (xc_7), rfl, rfl, rfl, rfl, cI, cI, cI, (Frm.refl _ _), ?_, ?_, ?_, ?_, ?_⟩
      · omega
      · omega
      · omega
      · exact EstI.start1 (by omega) e_7
      · exact EstM.start1 _ _ _ _ _
    · rintro m12 e22 w13 ⟨dg, rs, ov, hm21, hs14, hs15, hs16, hs17, hs18, hs19, hF20, hdg, hrs, hov, hI, hM⟩
      obtain ⟨r23, rfl⟩ := sq (e := e22) (t := 2) hs14
      obtain ⟨r24, rfl⟩ := sq (e := r23) (t := 3) hs15
      obtain ⟨r25, rfl⟩ := sq (e := r24) (t := 4) hs16
      obtain ⟨r26, rfl⟩ := sq (e := r25) (t := 11) hs17
      obtain ⟨r27, rfl⟩ := sq (e := r26) (t := 12) hs18
      obtain ⟨r28, rfl⟩ := sq (e := r27) (t := 13) hs19
      have hz29 := hF20.size
      refine wp_seq_k fun K30 hK30 => rS fun K31 hK31 => sMi rfl ?_
      by_cases hc32 : ((ov : Int)) = 0
      · refine sV (evEql true rfl rfl (dT hc32)) (sK hK31 (cT rfl (wp_skip (xN (hK30 _ _ (wp_block (rS fun K33 hK33 => sMi rfl (sMi rfl (sO (oCall rfl call147 (bits_Mul32 (x1 := dg) (by omega) (x2 := xe) (by omega)) rfl ?_))))))))))
        rintro _ w35 ⟨xh_34, xl_34, rfl, hE36, bh_34, bl_34, e_34⟩
        have hz37 := hE36.size
        refine sV (v := (.tuple #[(.int .u32 ((xh_34 : Int))), (.int .u32 ((xl_34 : Int)))])) (rfl) (sV (v := (.int .u32 ((xh_34 : Int)))) (rfl) (sV (v := (.int .u32 ((xl_34 : Int)))) (rfl) (sAi rfl (sAi rfl (sK hK33 (wp_seq_k fun K38 hK38 => rS fun K39 hK39 => sMi rfl (sMi rfl ?_)))))))
        by_cases hc40 : ((xh_34 : Int)) < ((rs : Int))
        · refine sV (evLss true rfl rfl (dT hc40)) (sMb rfl (sSkip rfl rfl (sSkip rfl rfl (sSkip rfl rfl (sSkip rfl rfl (sSkip rfl rfl (sSkip rfl rfl (sSkip rfl rfl (sSkip rfl rfl (sV (v := (.bool true)) (rfl) (sK hK39 (cT rfl (wp_exit (xE (bO rfl (xE (bE (xN (hK11 _ _ (rS fun K41 hK41 => sMi rfl (sAi rfl (sK hK41 (wp_ret (ret1 (.int .u32 ((dg : Int))) Tryz.results143 (resT rfl) ?_))))))))))))))))))))))))
          have hR42 := (hE9.trans hF20).trans hE36
          exact ⟨(dg), rfl, hR42, (by omega), (est_ok0 hI (by omega) e_34 bl_34 bc (by omega)), hM⟩
        · refine sV (evLss false rfl rfl (dF hc40)) (sMb rfl (sEv (v := (.int .u32 ((xh_34 : Int)))) (rfl) rfl rfl (sEv (v := (.int .u32 ((rs : Int)))) (rfl) rfl rfl ?_)))
          by_cases hc43 : ((xh_34 : Int)) = ((rs : Int))
          · refine sEv (v := (.bool true)) (evEql true rfl rfl (dT hc43)) rfl rfl (sEv (v := (.bool true)) (rfl) rfl rfl (sEv (v := (.int .u32 ((xl_34 : Int)))) (rfl) rfl rfl (sEv (v := (.int .u32 ((xc : Int)))) (rfl) rfl rfl ?_)))
            by_cases hc44 : ((xl_34 : Int)) ≤ ((xc : Int))
            · refine sEv (v := (.bool true)) (evLeq true rfl rfl (dT hc44)) rfl rfl (sEv (v := (.bool true)) (rfl) rfl rfl (sV (v := (.bool true)) (rfl) (sK hK39 (cT rfl (wp_exit (xE (bO rfl (xE (bE (xN (hK11 _ _ (rS fun K45 hK45 => sMi rfl (sAi rfl (sK hK45 (wp_ret (ret1 (.int .u32 ((dg : Int))) Tryz.results143 (resT rfl) ?_))))))))))))))))
              have hR46 := (hE9.trans hF20).trans hE36
              exact ⟨(dg), rfl, hR46, (by omega), (est_ok0 hI (by omega) e_34 bl_34 bc (by omega)), hM⟩
            · refine sEv (v := (.bool false)) (evLeq false rfl rfl (dF hc44)) rfl rfl (sEv (v := (.bool false)) (rfl) rfl rfl (sV (v := (.bool false)) (rfl) (sK hK39 (cF rfl (wp_skip (xN (hK38 _ _ (wp_seq_k fun K47 hK47 => ?_))))))))
              have hno := est_no0 hI (by omega) e_34 bl_34 bc (by omega)
              have hpos := est_pos hno
              refine wp_region_lit (sMi rfl (sV (evSub (((dg - 1 : Nat) : Int)) rfl rfl (wU32 (by omega))) (sAi rfl (sK hK47 (wp_region_lit (sMi rfl (sMi rfl (sO (oCall rfl call89 (bits_Add32 (x1 := rs) (by omega) (x2 := xd) (by omega) (x3 := 0) (by omega) (by omega)) rfl ?_)))))))))
              rintro _ w49 ⟨xs_48, xc_48, rfl, hE50, bs_48, bc_48, e_48, z_48⟩
              have hz51 := hE50.size
              refine sV (v := (.tuple #[(.int .u32 ((xs_48 : Int))), (.int .u32 ((xc_48 : Int)))])) (rfl) (sV (v := (.int .u32 ((xs_48 : Int)))) (rfl) (sV (v := (.int .u32 ((xc_48 : Int)))) (rfl) (sAi rfl (sAi rfl (sDone (bN ?_))))))
              have hR52 := hE36.trans hE50
              refine again ((dg - 1)) (by omega) ⟨(dg - 1), (xs_48), (xc_48), rfl, rfl, rfl, rfl, cI, cI, cI, (hF20.trans hR52), ?_, ?_, ?_, ?_, ?_⟩
              · omega
              · omega
              · omega
              · exact hI.next0 (by omega) hpos (by omega)
              · exact hM.next hno
          · refine sEv (v := (.bool false)) (evEql false rfl rfl (dF hc43)) rfl rfl (sEv (v := (.bool false)) (rfl) rfl rfl (sSkip rfl rfl (sSkip rfl rfl (sSkip rfl rfl (sEv (v := (.bool false)) (rfl) rfl rfl (sV (v := (.bool false)) (rfl) (sK hK39 (cF rfl (wp_skip (xN (hK38 _ _ (wp_seq_k fun K53 hK53 => ?_))))))))))))
            have hno := est_no0 hI (by omega) e_34 bl_34 bc (by omega)
            have hpos := est_pos hno
            refine wp_region_lit (sMi rfl (sV (evSub (((dg - 1 : Nat) : Int)) rfl rfl (wU32 (by omega))) (sAi rfl (sK hK53 (wp_region_lit (sMi rfl (sMi rfl (sO (oCall rfl call89 (bits_Add32 (x1 := rs) (by omega) (x2 := xd) (by omega) (x3 := 0) (by omega) (by omega)) rfl ?_)))))))))
            rintro _ w55 ⟨xs_54, xc_54, rfl, hE56, bs_54, bc_54, e_54, z_54⟩
            have hz57 := hE56.size
            refine sV (v := (.tuple #[(.int .u32 ((xs_54 : Int))), (.int .u32 ((xc_54 : Int)))])) (rfl) (sV (v := (.int .u32 ((xs_54 : Int)))) (rfl) (sV (v := (.int .u32 ((xc_54 : Int)))) (rfl) (sAi rfl (sAi rfl (sDone (bN ?_))))))
            have hR58 := hE36.trans hE56
            refine again ((dg - 1)) (by omega) ⟨(dg - 1), (xs_54), (xc_54), rfl, rfl, rfl, rfl, cI, cI, cI, (hF20.trans hR58), ?_, ?_, ?_, ?_, ?_⟩
            · omega
            · omega
            · omega
            · exact hI.next0 (by omega) hpos (by omega)
            · exact hM.next hno
      · refine sV (evEql false rfl rfl (dF hc32)) (sK hK31 (cF rfl (wp_exit (xE (xE (bE (xN (hK11 _ _ (rS fun K59 hK59 => sMi rfl (sAi rfl (sK hK59 (wp_ret (ret1 (.int .u32 ((dg : Int))) Tryz.results143 (resT rfl) ?_)))))))))))))
        have hR60 := hE9.trans hF20
        exact ⟨(dg), rfl, hR60, (by omega), (est_over1 hI (by omega) hdg be), hM⟩
  · refine sV (evGeq false rfl rfl (dF hc5)) (sK hK4 (cF rfl (wp_region_lit (sMi rfl (sMi rfl (sMi rfl (sO (oCall rfl call104 (bits_Div32 (x1 := xa) (by omega) (x2 := xb) (by omega) (x3 := xd) (by omega) (by omega)) rfl ?_))))))))
    rintro _ w62 ⟨xq_61, xm_61, rfl, hE63, bq_61, bm_61, e_61, lt_61⟩
    have hz64 := hE63.size
    refine sV (v := (.tuple #[(.int .u32 ((xq_61 : Int))), (.int .u32 ((xm_61 : Int)))])) (rfl) (sV (v := (.int .u32 ((xq_61 : Int)))) (rfl) (sV (v := (.int .u32 ((xm_61 : Int)))) (rfl) (sAi rfl (sAi rfl (sK hK3 (wp_seq_k fun K65 hK65 => wp_block ?_))))))
    refine lLoop (fun m e w_ => ∃ (dg : Nat) (rs : Nat) (ov : Nat), m = dg ∧ e 2 = (.int .u32 ((xc : Int))) ∧ e 3 = (.int .u32 ((xd : Int))) ∧ e 4 = (.int .u32 ((xe : Int))) ∧ e 11 = (.int .u32 ((dg : Int))) ∧ e 12 = (.int .u32 ((rs : Int))) ∧ e 13 = (.int .u32 ((ov : Int))) ∧ Frm (fun b => False) w62 w_ ∧ (dg < 4294967296) ∧ (rs < 4294967296) ∧ (ov ≤ 1) ∧ (EstI xa xb xd dg (rs + 4294967296 * ov)) ∧ (EstM xa xb xc xd xe dg)) ((xq_61)) ?_ ?_
    · refine ⟨(xq_61), (xm_61), (0), rfl, rfl, rfl, rfl, cI, cI, cI, (Frm.refl _ _), ?_, ?_, ?_, ?_, ?_⟩
      · omega
      · omega
      · omega
      · exact EstI.start2 e_61
      · exact EstM.start2 e_61 lt_61 bc
    · rintro m66 e76 w67 ⟨dg, rs, ov, hm75, hs68, hs69, hs70, hs71, hs72, hs73, hF74, hdg, hrs, hov, hI, hM⟩
      obtain ⟨r77, rfl⟩ := sq (e := e76) (t := 2) hs68
      obtain ⟨r78, rfl⟩ := sq (e := r77) (t := 3) hs69
      obtain ⟨r79, rfl⟩ := sq (e := r78) (t := 4) hs70
      obtain ⟨r80, rfl⟩ := sq (e := r79) (t := 11) hs71
      obtain ⟨r81, rfl⟩ := sq (e := r80) (t := 12) hs72
      obtain ⟨r82, rfl⟩ := sq (e := r81) (t := 13) hs73
      have hz83 := hF74.size
      refine wp_seq_k fun K84 hK84 => rS fun K85 hK85 => sMi rfl ?_
      by_cases hc86 : ((ov : Int)) = 0
      · refine sV (evEql true rfl rfl (dT hc86)) (sK hK85 (cT rfl (wp_skip (xN (hK84 _ _ (wp_block (rS fun K87 hK87 => sMi rfl (sMi rfl (sO (oCall rfl call147 (bits_Mul32 (x1 := dg) (by omega) (x2 := xe) (by omega)) rfl ?_))))))))))
        rintro _ w89 ⟨xh_88, xl_88, rfl, hE90, bh_88, bl_88, e_88⟩
        have hz91 := hE90.size
        refine sV (v := (.tuple #[(.int .u32 ((xh_88 : Int))), (.int .u32 ((xl_88 : Int)))])) (rfl) (sV (v := (.int .u32 ((xh_88 : Int)))) (rfl) (sV (v := (.int .u32 ((xl_88 : Int)))) (rfl) (sAi rfl (sAi rfl (sK hK87 (wp_seq_k fun K92 hK92 => rS fun K93 hK93 => sMi rfl (sMi rfl ?_)))))))
        by_cases hc94 : ((xh_88 : Int)) < ((rs : Int))
        · refine sV (evLss true rfl rfl (dT hc94)) (sMb rfl (sSkip rfl rfl (sSkip rfl rfl (sSkip rfl rfl (sSkip rfl rfl (sSkip rfl rfl (sSkip rfl rfl (sSkip rfl rfl (sSkip rfl rfl (sV (v := (.bool true)) (rfl) (sK hK93 (cT rfl (wp_exit (xE (bO rfl (xE (bE (xN (hK65 _ _ (rS fun K95 hK95 => sMi rfl (sAi rfl (sK hK95 (wp_ret (ret1 (.int .u32 ((dg : Int))) Tryz.results143 (resT rfl) ?_))))))))))))))))))))))))
          have hR96 := (hE63.trans hF74).trans hE90
          exact ⟨(dg), rfl, hR96, (by omega), (est_ok0 hI (by omega) e_88 bl_88 bc (by omega)), hM⟩
        · refine sV (evLss false rfl rfl (dF hc94)) (sMb rfl (sEv (v := (.int .u32 ((xh_88 : Int)))) (rfl) rfl rfl (sEv (v := (.int .u32 ((rs : Int)))) (rfl) rfl rfl ?_)))
          by_cases hc97 : ((xh_88 : Int)) = ((rs : Int))
          · refine sEv (v := (.bool true)) (evEql true rfl rfl (dT hc97)) rfl rfl (sEv (v := (.bool true)) (rfl) rfl rfl (sEv (v := (.int .u32 ((xl_88 : Int)))) (rfl) rfl rfl (sEv (v := (.int .u32 ((xc : Int)))) (rfl) rfl rfl ?_)))
            by_cases hc98 : ((xl_88 : Int)) ≤ ((xc : Int))
            · refine sEv (v := (.bool true)) (evLeq true rfl rfl (dT hc98)) rfl rfl (sEv (v := (.bool true)) (rfl) rfl rfl (sV (v := (.bool true)) (rfl) (sK hK93 (cT rfl (wp_exit (xE (bO rfl (xE (bE (xN (hK65 _ _ (rS fun K99 hK99 => sMi rfl (sAi rfl (sK hK99 (wp_ret (ret1 (.int .u32 ((dg : Int))) Tryz.results143 (resT rfl) ?_))))))))))))))))
              have hR100 := (hE63.trans hF74).trans hE90
              exact ⟨(dg), rfl, hR100, (by omega), (est_ok0 hI (by omega) e_88 bl_88 bc (by omega)), hM⟩
            · refine sEv (v := (.bool false)) (evLeq false rfl rfl (dF hc98)) rfl rfl (sEv (v := (.bool false)) (rfl) rfl rfl (sV (v := (.bool false)) (rfl) (sK hK93 (cF rfl (wp_skip (xN (hK92 _ _ (wp_seq_k fun K101 hK101 => ?_))))))))
              have hno := est_no0 hI (by omega) e_88 bl_88 bc (by omega)
              have hpos := est_pos hno
              refine wp_region_lit (sMi rfl (sV (evSub (((dg - 1 : Nat) : Int)) rfl rfl (wU32 (by omega))) (sAi rfl (sK hK101 (wp_region_lit (sMi rfl (sMi rfl (sO (oCall rfl call89 (bits_Add32 (x1 := rs) (by omega) (x2 := xd) (by omega) (x3 := 0) (by omega) (by omega)) rfl ?_)))))))))
              rintro _ w103 ⟨xs_102, xc_102, rfl, hE104, bs_102, bc_102, e_102, z_102⟩
              have hz105 := hE104.size
              refine sV (v := (.tuple #[(.int .u32 ((xs_102 : Int))), (.int .u32 ((xc_102 : Int)))])) (rfl) (sV (v := (.int .u32 ((xs_102 : Int)))) (rfl) (sV (v := (.int .u32 ((xc_102 : Int)))) (rfl) (sAi rfl (sAi rfl (sDone (bN ?_))))))
              have hR106 := hE90.trans hE104
              refine again ((dg - 1)) (by omega) ⟨(dg - 1), (xs_102), (xc_102), rfl, rfl, rfl, rfl, cI, cI, cI, (hF74.trans hR106), ?_, ?_, ?_, ?_, ?_⟩
              · omega
              · omega
              · omega
              · exact hI.next0 (by omega) hpos (by omega)
              · exact hM.next hno
          · refine sEv (v := (.bool false)) (evEql false rfl rfl (dF hc97)) rfl rfl (sEv (v := (.bool false)) (rfl) rfl rfl (sSkip rfl rfl (sSkip rfl rfl (sSkip rfl rfl (sEv (v := (.bool false)) (rfl) rfl rfl (sV (v := (.bool false)) (rfl) (sK hK93 (cF rfl (wp_skip (xN (hK92 _ _ (wp_seq_k fun K107 hK107 => ?_))))))))))))
            have hno := est_no0 hI (by omega) e_88 bl_88 bc (by omega)
            have hpos := est_pos hno
            refine wp_region_lit (sMi rfl (sV (evSub (((dg - 1 : Nat) : Int)) rfl rfl (wU32 (by omega))) (sAi rfl (sK hK107 (wp_region_lit (sMi rfl (sMi rfl (sO (oCall rfl call89 (bits_Add32 (x1 := rs) (by omega) (x2 := xd) (by omega) (x3 := 0) (by omega) (by omega)) rfl ?_)))))))))
            rintro _ w109 ⟨xs_108, xc_108, rfl, hE110, bs_108, bc_108, e_108, z_108⟩
            have hz111 := hE110.size
            refine sV (v := (.tuple #[(.int .u32 ((xs_108 : Int))), (.int .u32 ((xc_108 : Int)))])) (rfl) (sV (v := (.int .u32 ((xs_108 : Int)))) (rfl) (sV (v := (.int .u32 ((xc_108 : Int)))) (rfl) (sAi rfl (sAi rfl (sDone (bN ?_))))))
            have hR112 := hE90.trans hE110
            refine again ((dg - 1)) (by omega) ⟨(dg - 1), (xs_108), (xc_108), rfl, rfl, rfl, rfl, cI, cI, cI, (hF74.trans hR112), ?_, ?_, ?_, ?_, ?_⟩
            · omega
            · omega
            · omega
            · exact hI.next0 (by omega) hpos (by omega)
            · exact hM.next hno
      · refine sV (evEql false rfl rfl (dF hc86)) (sK hK85 (cF rfl (wp_exit (xE (xE (bE (xN (hK65 _ _ (rS fun K113 hK113 => sMi rfl (sAi rfl (sK hK113 (wp_ret (ret1 (.int .u32 ((dg : Int))) Tryz.results143 (resT rfl) ?_)))))))))))))
        have hR114 := hE63.trans hF74
        exact ⟨(dg), rfl, hR114, (by omega), (est_over1 hI (by omega) hdg be), hM⟩
set_option maxHeartbeats 1000000 in
theorem division_subtractMultiple {w : World} {pz oz nz cz : Nat} {Uz Zz : List Nat} {Av : Option Addr} {nv cv : Nat} {dv : List Nat} {xd : Nat} (Bz : Blk w pz 26 ((Uz ++ Zz).map u32)) (luz : Uz.length = oz) (lzz : nz ≤ Zz.length) (ltz : ∀ d ∈ Uz ++ Zz, d < BS) (lcz : cz ≤ 9223372036854775807) (lkz : nz ≤ cz) (hv : NatR w (fun b => b ≠ pz) Av nv cv dv) (bd : xd < 4294967296) (hnz : nz = nv + 1) : Calls Tryz.prog 144 #[(.slice (some ⟨pz, oz, none⟩) nz cz), (.slice Av nv cv), (.int .u32 ((xd : Int)))] w (Ret fun v w' => ∃ (gr : Bool) (Zr : List Nat) (bo : Nat), v = (.bool gr) ∧ Frm (fun b => b = pz) w w' ∧ (Blk w' pz 26 ((Uz ++ Zr).map u32)) ∧ (Zr.length = Zz.length) ∧ (∀ d ∈ Uz ++ Zr, d < BS) ∧ (Zr.drop nz = Zz.drop nz) ∧ (val (Zr.take nz) + xd * val dv = val (Zz.take nz) + BS ^ nz * bo) ∧ (bo ≤ 1) ∧ (gr = decide (bo ≠ 0))) := by
  have ⟨lv, kv, mv⟩ := hv.lkm
  refine enter Tryz.func144 rfl Tryz.ntmps144 rfl (rS fun K1 hK1 => sAb rfl (sK hK1 (rS fun K2 hK2 => sAi rfl (sAi rfl (sK hK2 (wp_seq_k fun K3 hK3 => rS fun K4 hK4 => sMs rfl (sV (evLen Tryz.underlying23 rfl) (sMi rfl (sK hK4 (wp_block ?_))))))))))
  refine lLoop (fun m e w_ => ∃ (k : Nat) (P : List Nat) (cy : Nat) (bw : Nat), m = nv - k ∧ e 0 = (.slice (some ⟨pz, oz, none⟩) nz cz) ∧ e 1 = (.slice Av nv cv) ∧ e 2 = (.int .u32 ((xd : Int))) ∧ e 7 = (.int .u32 ((cy : Int))) ∧ e 8 = (.int .u32 ((bw : Int))) ∧ e 15 = (.slice Av nv cv) ∧ e 16 = (.int .i64 ((nv : Int))) ∧ e 17 = (.int .i64 ((k : Int))) ∧ Frm (fun b => b = pz) w w_ ∧ Blk w_ pz 26 ((Uz ++ (P ++ Zz.drop k)).map u32) ∧ (k ≤ nv) ∧ (P.length = k) ∧ (∀ d ∈ P, d < BS) ∧ (cy < 4294967296) ∧ (bw ≤ 1) ∧ (val P + xd * val (dv.take k) = val (Zz.take k) + BS ^ k * (bw + cy))) (nv - (0)) ?_ ?_
  · refine ⟨(0), ([]), (0), (0), rfl, rfl, rfl, rfl, cI, cI, rfl, rfl, cI, (Frm.refl _ _), ?_, ?_, ?_, ?_, ?_, ?_, ?_⟩
    · simpa using Bz
    · omega
    · rfl
    · simp
    · omega
    · omega
    · simp [val]
  · rintro m5 e18 w6 ⟨k, P, cy, bw, hm17, hs7, hs8, hs9, hs10, hs11, hs12, hs13, hs14, hF15, hB16, hk, hP, hlt, hcy, hbw, hw⟩
    obtain ⟨r19, rfl⟩ := sq (e := e18) (t := 0) hs7
    obtain ⟨r20, rfl⟩ := sq (e := r19) (t := 1) hs8
    obtain ⟨r21, rfl⟩ := sq (e := r20) (t := 2) hs9
    obtain ⟨r22, rfl⟩ := sq (e := r21) (t := 7) hs10
    obtain ⟨r23, rfl⟩ := sq (e := r22) (t := 8) hs11
    obtain ⟨r24, rfl⟩ := sq (e := r23) (t := 15) hs12
    obtain ⟨r25, rfl⟩ := sq (e := r24) (t := 16) hs13
    obtain ⟨r26, rfl⟩ := sq (e := r25) (t := 17) hs14
    have hz27 := hF15.size
    refine rS fun K28 hK28 => ?_
    by_cases hc29 : ((k : Int)) < ((nv : Int))
    · refine sV (evLss true rfl rfl (dT hc29)) (sK hK28 (wp_seq_k fun K30 hK30 => cT rfl (wp_skip (xN (hK30 _ _ (wp_seq_k fun K31 hK31 => wp_block (rS fun K32 hK32 => sMi rfl ?_)))))))
      have h33 := (hv.frmB hF15 q3)
      obtain ⟨b34, o35, rfl⟩ := h33.base (by omega)
      refine sV (evIx k Tryz.underlying23 sz26 rfl rfl (o35 + k)) ?_
      have hd36 := h33.lt k
      refine sV (evLoad one26 rfl (h33.cell (by omega))) (sAi rfl (sAi rfl (sK hK32 (rS fun K37 hK37 => sMi rfl (sMi rfl (sO (oCall rfl call147 (bits_Mul32 (x1 := dv.getD k 0) (by omega) (x2 := xd) (by omega)) rfl ?_)))))))
      rintro _ w39 ⟨xh_38, xl_38, rfl, hE40, bh_38, bl_38, e_38⟩
      have hz41 := hE40.size
      refine sV (v := (.tuple #[(.int .u32 ((xh_38 : Int))), (.int .u32 ((xl_38 : Int)))])) (rfl) (sV (v := (.int .u32 ((xh_38 : Int)))) (rfl) (sV (v := (.int .u32 ((xl_38 : Int)))) (rfl) (sAi rfl (sAi rfl (sK hK37 (rS fun K42 hK42 => sMi rfl (sMi rfl (sO (oCall rfl call89 (bits_Add32 (x1 := xl_38) (by omega) (x2 := cy) (by omega) (x3 := 0) (by omega) (by omega)) rfl ?_)))))))))
      rintro _ w44 ⟨xs_43, xc_43, rfl, hE45, bs_43, bc_43, e_43, z_43⟩
      have hz46 := hE45.size
      refine sV (v := (.tuple #[(.int .u32 ((xs_43 : Int))), (.int .u32 ((xc_43 : Int)))])) (rfl) (sV (v := (.int .u32 ((xs_43 : Int)))) (rfl) (sV (v := (.int .u32 ((xc_43 : Int)))) (rfl) (sAi rfl (sAi rfl (sK hK42 (wp_seq_k fun K47 hK47 => ?_))))))
      have hmm : xd * dv.getD k 0 = dv.getD k 0 * xd := Nat.mul_comm _ _
      have hR48 := hE40.trans hE45
      have h49 := (h33.ext hR48)
      have hcc := mul_carry (q := 0) (c := cy) (s := xs_43) (c' := xh_38 + xc_43) (by omega) (h49.lt k) bd hcy (by omega)
      refine wp_region_lit (sMi rfl (sMi rfl (sV (evAdd (((xh_38 + xc_43 : Nat) : Int)) rfl rfl (wU32 (by omega))) (sAi rfl (sK hK47 ?_)))))
      have hq := seg_get luz hP (show k < Zz.length by omega) (t := oz + k) rfl
      refine wp_region_lit (sMs rfl (sMi rfl (sMs rfl (sMi rfl (sV (evIx k Tryz.underlying23 sz26 rfl rfl (oz + k)) ?_)))))
      have hB50 := (hB16.ext hR48)
      have hd51 := getD_lt (ds := Uz ++ (P ++ Zz.drop k)) (i := oz + k) (lt_seg ltz hlt)
      refine sV (evLoad one26 rfl (hB50.dig (by exact lq))) (sMi rfl (sMi rfl (sO (oCall rfl call91 (bits_Sub32 (x1 := (Uz ++ (P ++ Zz.drop k)).getD (oz + k) 0) (by omega) (x2 := xs_43) (by omega) (x3 := bw) (by omega) (by omega)) rfl ?_))))
      rintro _ w53 ⟨xs_52, xc_52, rfl, hE54, bs_52, bc_52, e_52, z_52⟩
      have hz55 := hE54.size
      refine sV (v := (.tuple #[(.int .u32 ((xs_52 : Int))), (.int .u32 ((xc_52 : Int)))])) (rfl) (sV (v := (.int .u32 ((xs_52 : Int)))) (rfl) (sV (v := (.int .u32 ((xc_52 : Int)))) (rfl) (sV (evIx k Tryz.underlying23 sz26 rfl rfl (oz + k)) ?_)))
      have hB56 := (hB50.ext hE54)
      refine sO (oStore1 rfl rfl rfl sz26 hB56 (by exact lq) (fun w57 hU58 hz59 hB60 => ?_))
      replace hB60 : Blk w57 pz 26 ((Uz ++ ((P ++ [xs_52]) ++ Zz.drop (k + 1))).map u32) := by rw [← (seg_set luz hP (by omega) (by omega) : (Uz ++ (P ++ Zz.drop k)).set (oz + k) xs_52 = Uz ++ ((P ++ [xs_52]) ++ Zz.drop (k + 1))), List.map_set]; exact hB60
      refine sAi rfl (sDone (bN (xN (hK31 _ _ (wp_region_lit (sV (evAdd (((k : Int)) + 1) rfl rfl wI) (sMi rfl (sDone ?_))))))))
      have hR61 := (hR48.trans hE54).rx hU58
      refine again (nv - (k + 1)) (by omega) ⟨(k + 1), (P ++ [xs_52]), (xh_38 + xc_43), (xc_52), rfl, rfl, rfl, rfl, cI, cI, rfl, rfl, cI, (hF15.trans hR61), ?_, ?_, ?_, ?_, ?_, ?_, ?_⟩
      · exact hB60
      · omega
      · simp [hP]
      · exact lt_snoc hlt (by omega)
      · exact hcc
      · omega
      · exact sm_step hw hP (by omega)
    · refine sV (evLss false rfl rfl (dF hc29)) (sK hK28 (wp_seq_k fun K62 hK62 => cF rfl (wp_exit (xE (xE (bE (xN (hK3 _ _ (rS fun K63 hK63 => sMs rfl (sV (evLen Tryz.underlying23 rfl) (sAi rfl (sK hK63 (wp_seq_k fun K64 hK64 => ?_)))))))))))))
      have hq2 := seg_get luz hP (show k < Zz.length by omega) (t := oz + nv) (by omega)
      refine wp_region_lit (sMs rfl (sMi rfl (sMs rfl (sMi rfl (sV (evIx nv Tryz.underlying23 sz26 rfl rfl (oz + nv)) ?_)))))
      have hd65 := getD_lt (ds := Uz ++ (P ++ Zz.drop k)) (i := oz + nv) (lt_seg ltz hlt)
      refine sV (evLoad one26 rfl (hB16.dig (by exact lq))) (sMi rfl (sMi rfl (sO (oCall rfl call91 (bits_Sub32 (x1 := (Uz ++ (P ++ Zz.drop k)).getD (oz + nv) 0) (by omega) (x2 := cy) (by omega) (x3 := bw) (by omega) (by omega)) rfl ?_))))
      rintro _ w67 ⟨xs_66, xc_66, rfl, hE68, bs_66, bc_66, e_66, z_66⟩
      have hz69 := hE68.size
      refine sV (v := (.tuple #[(.int .u32 ((xs_66 : Int))), (.int .u32 ((xc_66 : Int)))])) (rfl) (sV (v := (.int .u32 ((xs_66 : Int)))) (rfl) (sV (v := (.int .u32 ((xc_66 : Int)))) (rfl) (sV (evIx nv Tryz.underlying23 sz26 rfl rfl (oz + nv)) ?_)))
      have hB70 := (hB16.ext hE68)
      refine sO (oStore1 rfl rfl rfl sz26 hB70 (by exact lq) (fun w71 hU72 hz73 hB74 => ?_))
      replace hB74 : Blk w71 pz 26 ((Uz ++ ((P ++ [xs_66]) ++ Zz.drop (k + 1))).map u32) := by rw [← (seg_set luz hP (by omega) (by omega) : (Uz ++ (P ++ Zz.drop k)).set (oz + nv) xs_66 = Uz ++ ((P ++ [xs_66]) ++ Zz.drop (k + 1))), List.map_set]; exact hB74
      refine sAi rfl (sK hK64 (rS fun K75 hK75 => sMi rfl (sV (evNeq (decide (xc_66 ≠ 0)) rfl rfl (natne _)) (sAb rfl (sK hK75 (wp_ret (ret1 (.bool (decide (xc_66 ≠ 0))) Tryz.results144 (resT rfl) ?_)))))))
      have hlast := sm_last hw hP (by omega) (show bw + cy + xs_66 = Zz.getD k 0 + 4294967296 * xc_66 by omega)
      have hR76 := (hF15.xr hE68).trans hU72
      exact ⟨(decide (xc_66 ≠ 0)), ((P ++ [xs_66]) ++ Zz.drop (k + 1)), xc_66, rfl, hR76, hB74, (by exact lq), (lt_seg ltz (lt_snoc hlt (by omega))), (by rw [show nz = k + 1 by omega, part_drop (P := P) hP]), (by rw [show nz = k + 1 by omega, part_take (P := P) hP]; exact hlast), (by omega), rfl⟩
theorem division_addBack {w : World} {pz oz nz cz : Nat} {Uz Zz : List Nat} {Av : Option Addr} {nv cv : Nat} {dv : List Nat} (Bz : Blk w pz 26 ((Uz ++ Zz).map u32)) (luz : Uz.length = oz) (lzz : nz ≤ Zz.length) (ltz : ∀ d ∈ Uz ++ Zz, d < BS) (lcz : cz ≤ 9223372036854775807) (lkz : nz ≤ cz) (hv : NatR w (fun b => b ≠ pz) Av nv cv dv) (hnz : nz = nv + 1) : Calls Tryz.prog 145 #[(.slice (some ⟨pz, oz, none⟩) nz cz), (.slice Av nv cv)] w (Ret fun v w' => ∃ (Zr : List Nat) (cr : Nat), v = (.tuple #[]) ∧ Frm (fun b => b = pz) w w' ∧ (Blk w' pz 26 ((Uz ++ Zr).map u32)) ∧ (Zr.length = Zz.length) ∧ (∀ d ∈ Uz ++ Zr, d < BS) ∧ (Zr.drop nz = Zz.drop nz) ∧ (val (Zr.take nz) + BS ^ nz * cr = val (Zz.take nz) + val dv)) := by
  have ⟨lv, kv, mv⟩ := hv.lkm
  refine enter Tryz.func145 rfl Tryz.ntmps145 rfl (rS fun K1 hK1 => sAi rfl (sK hK1 (wp_seq_k fun K2 hK2 => rS fun K3 hK3 => sMs rfl (sV (evLen Tryz.underlying23 rfl) (sMi rfl (sK hK3 (wp_block ?_)))))))
  refine lLoop (fun m e w_ => ∃ (k : Nat) (P : List Nat) (cy : Nat), m = nv - k ∧ e 0 = (.slice (some ⟨pz, oz, none⟩) nz cz) ∧ e 1 = (.slice Av nv cv) ∧ e 4 = (.int .u32 ((cy : Int))) ∧ e 7 = (.slice Av nv cv) ∧ e 8 = (.int .i64 ((nv : Int))) ∧ e 9 = (.int .i64 ((k : Int))) ∧ Frm (fun b => b = pz) w w_ ∧ Blk w_ pz 26 ((Uz ++ (P ++ Zz.drop k)).map u32) ∧ (k ≤ nv) ∧ (P.length = k) ∧ (∀ d ∈ P, d < BS) ∧ (cy ≤ 1) ∧ (val P + BS ^ k * cy = val (Zz.take k) + val (dv.take k))) (nv - (0)) ?_ ?_
  · refine ⟨(0), ([]), (0), rfl, rfl, rfl, cI, rfl, rfl, cI, (Frm.refl _ _), ?_, ?_, ?_, ?_, ?_, ?_⟩
    · simpa using Bz
    · omega
    · rfl
    · simp
    · omega
    · simp [val]
  · rintro m4 e15 w5 ⟨k, P, cy, hm14, hs6, hs7, hs8, hs9, hs10, hs11, hF12, hB13, hk, hP, hlt, hcy, hw⟩
    obtain ⟨r16, rfl⟩ := sq (e := e15) (t := 0) hs6
    obtain ⟨r17, rfl⟩ := sq (e := r16) (t := 1) hs7
    obtain ⟨r18, rfl⟩ := sq (e := r17) (t := 4) hs8
    obtain ⟨r19, rfl⟩ := sq (e := r18) (t := 7) hs9
    obtain ⟨r20, rfl⟩ := sq (e := r19) (t := 8) hs10
    obtain ⟨r21, rfl⟩ := sq (e := r20) (t := 9) hs11
    have hz22 := hF12.size
    refine rS fun K23 hK23 => ?_
    by_cases hc24 : ((k : Int)) < ((nv : Int))
    · refine sV (evLss true rfl rfl (dT hc24)) (sK hK23 (wp_seq_k fun K25 hK25 => cT rfl (wp_skip (xN (hK25 _ _ (wp_seq_k fun K26 hK26 => wp_block (rS fun K27 hK27 => sMi rfl ?_)))))))
      have h28 := (hv.frmB hF12 q3)
      obtain ⟨b29, o30, rfl⟩ := h28.base (by omega)
      refine sV (evIx k Tryz.underlying23 sz26 rfl rfl (o30 + k)) ?_
      have hd31 := h28.lt k
      refine sV (evLoad one26 rfl (h28.cell (by omega))) (sAi rfl (sAi rfl (sK hK27 ?_)))
      have hq := seg_get luz hP (show k < Zz.length by omega) (t := oz + k) rfl
      refine wp_region_lit (sMs rfl (sMi rfl (sMs rfl (sMi rfl (sV (evIx k Tryz.underlying23 sz26 rfl rfl (oz + k)) ?_)))))
      have hd32 := getD_lt (ds := Uz ++ (P ++ Zz.drop k)) (i := oz + k) (lt_seg ltz hlt)
      refine sV (evLoad one26 rfl (hB13.dig (by exact lq))) (sMi rfl (sMi rfl (sO (oCall rfl call89 (bits_Add32 (x1 := (Uz ++ (P ++ Zz.drop k)).getD (oz + k) 0) (by omega) (x2 := dv.getD k 0) (by omega) (x3 := cy) (by omega) (by omega)) rfl ?_))))
      rintro _ w34 ⟨xs_33, xc_33, rfl, hE35, bs_33, bc_33, e_33, z_33⟩
      have hz36 := hE35.size
      refine sV (v := (.tuple #[(.int .u32 ((xs_33 : Int))), (.int .u32 ((xc_33 : Int)))])) (rfl) (sV (v := (.int .u32 ((xs_33 : Int)))) (rfl) (sV (v := (.int .u32 ((xc_33 : Int)))) (rfl) (sV (evIx k Tryz.underlying23 sz26 rfl rfl (oz + k)) ?_)))
      have hB37 := (hB13.ext hE35)
      refine sO (oStore1 rfl rfl rfl sz26 hB37 (by exact lq) (fun w38 hU39 hz40 hB41 => ?_))
      replace hB41 : Blk w38 pz 26 ((Uz ++ ((P ++ [xs_33]) ++ Zz.drop (k + 1))).map u32) := by rw [← (seg_set luz hP (by omega) (by omega) : (Uz ++ (P ++ Zz.drop k)).set (oz + k) xs_33 = Uz ++ ((P ++ [xs_33]) ++ Zz.drop (k + 1))), List.map_set]; exact hB41
      refine sAi rfl (sDone (bN (xN (hK26 _ _ (wp_region_lit (sV (evAdd (((k : Int)) + 1) rfl rfl wI) (sMi rfl (sDone ?_))))))))
      have hR42 := hE35.rx hU39
      refine again (nv - (k + 1)) (by omega) ⟨(k + 1), (P ++ [xs_33]), (xc_33), rfl, rfl, rfl, cI, rfl, rfl, cI, (hF12.trans hR42), ?_, ?_, ?_, ?_, ?_, ?_⟩
      · exact hB41
      · omega
      · simp [hP]
      · exact lt_snoc hlt (by omega)
      · omega
      · exact add_step hw hP (by omega)
    · refine sV (evLss false rfl rfl (dF hc24)) (sK hK23 (wp_seq_k fun K43 hK43 => cF rfl (wp_exit (xE (xE (bE (xN (hK2 _ _ ?_))))))))
      have hq2 := seg_get luz hP (show k < Zz.length by omega) (t := oz + nv) (by omega)
      refine wp_region_lit (sMs rfl (sMs rfl (sV (evLen Tryz.underlying23 rfl) (sV (evIx nv Tryz.underlying23 sz26 rfl rfl (oz + nv)) ?_))))
      have hd44 := getD_lt (ds := Uz ++ (P ++ Zz.drop k)) (i := oz + nv) (lt_seg ltz hlt)
      refine sV (evLoad one26 rfl (hB13.dig (by exact lq))) (sMi rfl (sV (evAdd (((((Uz ++ (P ++ Zz.drop k)).getD (oz + nv) 0 + cy) % 4294967296 : Nat) : Int)) rfl rfl (wU32m (by omega))) (sV (evIx nv Tryz.underlying23 sz26 rfl rfl (oz + nv)) (sO (oStore1 rfl rfl rfl sz26 hB13 (by exact lq) (fun w45 hU46 hz47 hB48 => ?_))))))
      replace hB48 : Blk w45 pz 26 ((Uz ++ ((P ++ [((Uz ++ (P ++ Zz.drop k)).getD (oz + nv) 0 + cy) % 4294967296]) ++ Zz.drop (k + 1))).map u32) := by rw [← (seg_set luz hP (by omega) (by omega) : (Uz ++ (P ++ Zz.drop k)).set (oz + nv) (((Uz ++ (P ++ Zz.drop k)).getD (oz + nv) 0 + cy) % 4294967296) = Uz ++ ((P ++ [((Uz ++ (P ++ Zz.drop k)).getD (oz + nv) 0 + cy) % 4294967296]) ++ Zz.drop (k + 1))), List.map_set]; exact hB48
      refine sDone (end0 Tryz.results145 ?_)
      have hlast := add_step (s := ((Uz ++ (P ++ Zz.drop k)).getD (oz + nv) 0 + cy) % 4294967296) (c' := ((Uz ++ (P ++ Zz.drop k)).getD (oz + nv) 0 + cy) / 4294967296) hw hP (by rw [getD_ge (ds := dv) (n := nv) (by omega) k (by omega)]; omega)
      have hR49 := hF12.trans hU46
      exact ⟨((P ++ [((Uz ++ (P ++ Zz.drop k)).getD (oz + nv) 0 + cy) % 4294967296]) ++ Zz.drop (k + 1)), (((Uz ++ (P ++ Zz.drop k)).getD (oz + nv) 0 + cy) / 4294967296), rfl, hR49, hB48, (by exact lq), (lt_seg ltz (lt_snoc hlt (by omega))), (by rw [show nz = k + 1 by omega, part_drop (P := P) hP]), (by rw [show nz = k + 1 by omega, part_take (P := P) hP]; rw [val_take_all dv (show dv.length ≤ k + 1 by omega)] at hlast; exact hlast)⟩
end Go.Proofs.YtneolcopompkaaaGreatDoor
