/-
  Walks of package hensel: exponents, coefficients around 0.
-/
import Derived.Test.YtneolcopompkaaaGreatDoorHen1
import Derived.Test.YtneolcopompkaaaGreatDoorUni4
namespace Go.Proofs.YtneolcopompkaaaGreatDoor
open Go.RowKit Go.Gx
set_option maxHeartbeats 1000000 in
theorem hensel_Exponent {w : World} {gb : Bool} {Sb : Nat → Prop} {Ab : Option Addr} {nb cb : Nat} {db : List Nat} {xp : Nat} (hb : NatR w Sb Ab nb cb db) (bp : xp < 4294967296) (hnb : nb ≤ 1024) : Calls Tryz.prog 10 #[(.agg #[(.bool gb), (.slice Ab nb cb)]), (.int .u32 ((xp : Int)))] w (Ret fun v w' => ∃ (xr : Nat) (xo : Int), v = (.tuple #[(.int .i64 ((xr : Int))), (.int .i64 (xo))]) ∧ Ext w w' ∧ xr ≤ 9223372036854775807 ∧ (xp < 2 → xr = 0 ∧ xo = 1) ∧ (2 ≤ xp → xo = 0 ∧ ExpoR xp (zval gb db).natAbs xr) ∧ (xr ≤ 32 * nb + 2)) := by
  have ⟨lb, kb, mb⟩ := hb.lkm
  replace hb := hb.low
  refine enter Tryz.func10 rfl Tryz.ntmps10 rfl (rS fun K1 hK1 => sO (oBox [(.bool gb), (.slice Ab nb cb)] rfl rfl (fun g2 w3 hg4 hE5 hz6 hB7 => sAi rfl (sAi rfl (sK hK1 (wp_seq_k fun K8 hK8 => rS fun K9 hK9 => sMi rfl ?_))))))
  by_cases hc10 : ((xp : Int)) < 2
  · refine sV (evLss true rfl rfl (dT hc10)) (sK hK9 (cT rfl (rS fun K11 hK11 => sAi rfl (sAi rfl (sK hK11 (wp_ret (xR (ret2 (.int .i64 (0)) (.int .i64 (1)) Tryz.results10 (resT rfl) (resT rfl) ?_))))))))
    exact ⟨(0), (1), rfl, hE5, (by omega), (fun _ => ⟨rfl, rfl⟩), (fun h => by omega), (by omega)⟩
  · refine sV (evLss false rfl rfl (dF hc10)) (sK hK9 (cF rfl (wp_skip (xN (hK8 _ _ (rS fun K12 hK12 => sV (evLoadAB [(.bool gb), (.slice Ab nb cb)] agg25 sz25 rfl hB7 rfl) ?_))))))
    have h13 := (hb.ext hE5)
    refine sO (oCall rfl call11 (integer_Abs h13 (by omega)) rfl ?_)
    rintro _ w15 ⟨gr_14, Ar_14, nr_14, cr_14, dr_14, rfl, hE16, hr_14, v_14, cn_14, le_14⟩
    have hz17 := hE16.size
    have ⟨lr_14, kr_14, mr_14⟩ := hr_14.lkm
    refine sO (oCall rfl call34 (integer_Shl hr_14 (xn := 1) (by omega) (by omega) (by omega)) rfl ?_)
    rintro _ w20 ⟨gr_19, Ar_19, nr_19, cr_19, dr_19, rfl, hE21, hr_19, v_19, cn_19, le_19⟩
    have hz22 := hE21.size
    have ⟨lr_19, kr_19, mr_19⟩ := hr_19.lkm
    refine sO (oAlloc [(.bool false), (.slice none 0 0)] zero25 rfl (fun g24 w25 hg26 hE27 hz28 hB29 => sO (oStore [(.bool gr_19), (.slice Ar_19 nr_19 cr_19)] rfl rfl rfl sz25 rfl hB29 (Nat.le_of_ble_eq_true rfl) (fun w30 hU31 hz32 hB33 => ?_))))
    replace hB33 : Blk w30 g24 25 [(.bool gr_19), (.slice Ar_19 nr_19 cr_19)] := hB33
    refine sK hK12 (rS fun K34 hK34 => sMi rfl (sV (evConv ((xp : Int)) Tryz.underlying26 Tryz.underlying2 rfl (wI64 (by omega))) (sO (oCall rfl call35 (integer_Of (by omega)) rfl ?_))))
    rintro _ w36 ⟨gr_35, Ar_35, nr_35, cr_35, dr_35, rfl, hE37, hr_35, v_35, cn_35, le_35⟩
    have hz38 := hE37.size
    have ⟨lr_35, kr_35, mr_35⟩ := hr_35.lkm
    have h40 := hr_35.sub (S' := fun b => (w30.heap.size ≤ b) ∧ b < w36.heap.size) fun _ hb hs => ⟨hs, hb⟩
    refine sO (oAlloc [(.bool false), (.slice none 0 0)] zero25 rfl (fun g41 w42 hg43 hE44 hz45 hB46 => sO (oStore [(.bool gr_35), (.slice Ar_35 nr_35 cr_35)] rfl rfl rfl sz25 rfl hB46 (Nat.le_of_ble_eq_true rfl) (fun w47 hU48 hz49 hB50 => ?_))))
    replace hB50 : Blk w47 g41 25 [(.bool gr_35), (.slice Ar_35 nr_35 cr_35)] := hB50
    refine sK hK34 (rS fun K51 hK51 => sV (evLoadAB [(.bool gr_35), (.slice Ar_35 nr_35 cr_35)] agg25 sz25 rfl hB50 rfl) (sO (oAlloc [(.bool false), (.slice none 0 0)] zero25 rfl (fun g52 w53 hg54 hE55 hz56 hB57 => sO (oStore [(.bool gr_35), (.slice Ar_35 nr_35 cr_35)] rfl rfl rfl sz25 rfl hB57 (Nat.le_of_ble_eq_true rfl) (fun w58 hU59 hz60 hB61 => ?_))))))
    replace hB61 : Blk w58 g52 25 [(.bool gr_35), (.slice Ar_35 nr_35 cr_35)] := hB61
    refine sK hK51 (rS fun K62 hK62 => sAi rfl (sK hK62 (wp_block ?_)))
    have hR64 := ((hE44.rx hU48).xr hE55).tr hU59
    have h65 := (h40.frmB hR64 q3)
    refine lLoop (fun m e w_ => ∃ (k : Nat) (gP : Bool) (AP : Option Addr) (nP : Nat) (cP : Nat) (dP : List Nat), m = 2 * (zval gb db).natAbs + 1 - k ∧ e 6 = (.pointer (some ⟨g24, 0, none⟩)) ∧ e 7 = (.pointer (some ⟨g41, 0, none⟩)) ∧ e 8 = (.pointer (some ⟨g52, 0, none⟩)) ∧ e 9 = (.int .i64 ((k : Int))) ∧ Frm (fun b => b = g52) w58 w_ ∧ Blk w_ g52 25 ([.bool gP, .slice AP nP cP]) ∧ (1 ≤ k) ∧ (NatR w_ (fun b => b ≠ g52) AP nP cP dP) ∧ (k ≤ 32 * nb + 2) ∧ (zval gP dP = ((xp ^ k : Nat) : Int)) ∧ (nP ≤ 2 * k) ∧ (∀ j, 1 ≤ j → j < k → xp ^ j ≤ 2 * (zval gb db).natAbs)) (2 * (zval gb db).natAbs + 1 - (1)) ?_ ?_
    · refine ⟨(1), (gr_35), (Ar_35), (nr_35), (cr_35), (dr_35), rfl, rfl, rfl, rfl, cI, (Frm.refl _ _), ?_, ?_, ?_, ?_, ?_, ?_, ?_⟩
      · exact hB61
      · omega
      · exact NatR.sub h65 q5
      · omega
      · rw [v_35, Nat.pow_one]
      · omega
      · intro j h1 h2; omega
    · rintro m63 e74 w66 ⟨k, gP, AP, nP, cP, dP, hm73, hs67, hs68, hs69, hs70, hF71, hB72, hk1, hP, hkk, hv, hnP, hl⟩
      obtain ⟨r75, rfl⟩ := sq (e := e74) (t := 6) hs67
      obtain ⟨r76, rfl⟩ := sq (e := r75) (t := 7) hs68
      obtain ⟨r77, rfl⟩ := sq (e := r76) (t := 8) hs69
      obtain ⟨r78, rfl⟩ := sq (e := r77) (t := 9) hs70
      have hz79 := hF71.size
      have ⟨lP, kP, mP⟩ := hP.lkm
      refine wp_seq_k fun K80 hK80 => wp_block (wp_seq_k fun K81 hK81 => rS fun K82 hK82 => sV (evLoadAB [(.bool gP), (.slice AP nP cP)] agg25 sz25 rfl hB72 rfl) ?_)
      have hR83 := ((((hE37.trans hE44).rx hU48).xr hE55).tr hU59).tr hF71
      have hB84 := (hB33.frm hR83 q1)
      refine sV (evLoadAB [(.bool gr_19), (.slice Ar_19 nr_19 cr_19)] agg25 sz25 rfl hB84 rfl) ?_
      have hR85 := ((((((hE27.rx hU31).xr hE37).xr hE44).tr hU48).xr hE55).tr hU59).tr hF71
      have h86 := (hr_19.frmB hR85 q3)
      refine sO (oCall rfl call13 (integer_Cmp hP h86) rfl ?_)
      rintro _ w88 ⟨xr_87, rfl, hE89, e_87⟩
      have hz90 := hE89.size
      have ⟨hgt, hng⟩ := expo_cmp (g := true) hv v_14 v_19 (natAbs_val gb db) e_87
      by_cases hc91 : xr_87 > 0
      · refine sV (evGtr true rfl rfl (dT hc91)) (sK hK82 (cT rfl (rS fun K92 hK92 => sMi rfl (sAi rfl (sAi rfl (sK hK92 (wp_ret (xR (bR (xR (xR (bR (ret2 (.int .i64 ((k : Int))) (.int .i64 (0)) Tryz.results10 (resT rfl) (resT rfl) ?_)))))))))))))
        have hR93 := ((((((((((hE5.trans hE16).trans hE21).trans hE27).rx hU31).xr hE37).xr hE44).tr hU48).xr hE55).tr hU59).tr hF71).xr hE89
        exact ⟨(k), (0), rfl, (Frm.mono hR93 q4), (by omega), (fun h => by omega), (fun _ => ⟨rfl, hk1, hgt hc91, hl⟩), (by omega)⟩
      · refine sV (evGtr false rfl rfl (dF hc91)) ?_
        have hle := hng hc91; have hlk := lt_powN (p := xp) (k := k) (by omega); have hel := expo_len (p := xp) (k := k) (by omega) hb.2 lb (by rw [natAbs_val gb db]; exact hle)
        refine sK hK82 (cF rfl (wp_skip (xN (hK81 _ _ (wp_region_lit ?_)))))
        have hB94 := (hB72.ext hE89)
        refine sV (evLoadAB [(.bool gP), (.slice AP nP cP)] agg25 sz25 rfl hB94 rfl) ?_
        have hR95 := ((hE55.rx hU59).trans hF71).xr hE89
        have hB96 := (hB50.frm hR95 q1)
        refine sV (evLoadAB [(.bool gr_35), (.slice Ar_35 nr_35 cr_35)] agg25 sz25 rfl hB96 rfl) ?_
        have h97 := (hP.ext hE89)
        have hR98 := hF71.xr hE89
        have h99 := (h65.frmB hR98 q3)
        refine sO (oCall rfl call33 (integer_Mul h97 h99 (by omega)) rfl ?_)
        rintro _ w101 ⟨gr_100, Ar_100, nr_100, cr_100, dr_100, rfl, hE102, hr_100, v_100, cn_100, le_100⟩
        have hz103 := hE102.size
        have ⟨lr_100, kr_100, mr_100⟩ := hr_100.lkm
        have hB105 := (hB94.ext hE102)
        refine sO (oStore [(.bool gr_100), (.slice Ar_100 nr_100 cr_100)] rfl rfl rfl sz25 rfl hB105 (Nat.le_of_ble_eq_true rfl) (fun w106 hU107 hz108 hB109 => ?_))
        replace hB109 : Blk w106 g52 25 [(.bool gr_100), (.slice Ar_100 nr_100 cr_100)] := hB109
        refine sDone (bN (xN (hK80 _ _ (wp_region_lit (sMi rfl (sV (evAdd (((k : Int)) + 1) rfl rfl wI) (sAi rfl (sDone ?_))))))))
        have hR110 := (hE89.trans hE102).rx hU107
        have h111 := (hr_100.frmB hU107 q3)
        refine again (2 * (zval gb db).natAbs + 1 - (k + 1)) (by omega) ⟨(k + 1), (gr_100), (Ar_100), (nr_100), (cr_100), (dr_100), rfl, rfl, rfl, rfl, cI, (hF71.trans hR110), ?_, ?_, ?_, ?_, ?_, ?_, ?_⟩
        · exact hB109
        · omega
        · exact NatR.sub h111 q5
        · omega
        · rw [v_100]; exact pow_nextI hv v_35
        · omega
        · exact expo_next hl hle
theorem hensel_reduce_own {w : World} {Sf : Nat → Prop} {Af : Option Addr} {nf cf Mf : Nat} {lf : List RI} {gm : Bool} {Sm : Nat → Prop} {Am : Option Addr} {nm cm : Nat} {dm : List Nat} (hf : PolyR w Sf Af nf cf lf Mf) (hm : NatR w Sm Am nm cm dm) (hnf : nf ≤ 65536) (hMf : Mf ≤ 268435456) (hnm : nm ≤ 16777216) (hm0 : zval gm dm ≠ 0) : Calls Tryz.prog 68 #[(.slice Af nf cf), (.agg #[(.bool gm), (.slice Am nm cm)])] w (Ret fun v w' => ∃ (qr : Nat) (nr : Nat) (lr : List RI), v = (.slice (some ⟨qr, 0, none⟩) nr nr) ∧ Ext w w' ∧ (fun b => w.heap.size ≤ b) qr ∧ Blk w' qr 25 (cellsI lr) ∧ AllN w' (fun b => qr < b) (nm + 2) lr ∧ lr.length = nr ∧ nr ≤ 9223372036854775807 ∧ (zs lr = redZ (zval gm dm).natAbs (zs lf)) ∧ (nr ≤ nf) ∧ (AllC lr)) := by
  have ⟨kf, jf, mf⟩ := hf.lkm
  replace hf := hf.low
  have ⟨lm, km, mm⟩ := hm.lkm
  replace hm := hm.low
  refine enter Tryz.func68 rfl Tryz.ntmps68 rfl (rS fun K1 hK1 => sO (oBox [(.bool gm), (.slice Am nm cm)] rfl rfl (fun g2 w3 hg4 hE5 hz6 hB7 => sAs rfl (sK hK1 (rS fun K8 hK8 => sMs rfl (sV (evLen Tryz.underlying39 rfl) (sO (oMake2 nf Tryz.underlying39 inf25 cI cI (by omega) (by omega) (fun g9 w10 hg11 hE12 hz13 hB14 => ?_)))))))))
  have hB15 : Blk w10 g9 25 (cellsI (List.replicate nf RI.zero)) := hB14
  refine sAs rfl (sK hK8 (wp_seq_k fun K16 hK16 => rS fun K17 hK17 => sMs rfl (sV (evLen Tryz.underlying39 rfl) (sMi rfl (sK hK17 (wp_block ?_))))))
  refine lLoop (fun m e w_ => ∃ (k : Nat) (L : List RI), m = nf - k ∧ e 3 = (.pointer (some ⟨g2, 0, none⟩)) ∧ e 5 = (.slice (some ⟨g9, 0, none⟩) nf nf) ∧ e 11 = (.slice Af nf cf) ∧ e 12 = (.int .i64 ((nf : Int))) ∧ e 13 = (.int .i64 ((k : Int))) ∧ Frm (fun b => b = g9) w10 w_ ∧ Blk w_ g9 25 (cellsI (L ++ List.replicate (nf - k) RI.zero)) ∧ (k ≤ nf) ∧ (L.length = k) ∧ (AllN w_ (fun b => g9 < b) (nm + 2) L) ∧ (zs L = (List.range k).map (fun i => symZ (zval gm dm).natAbs (co (zs lf) i))) ∧ (AllC L)) (nf - (0)) ?_ ?_
  · refine ⟨(0), ([]), rfl, rfl, rfl, rfl, rfl, cI, (Frm.refl _ _), ?_, ?_, ?_, ?_, ?_, ?_⟩
    · simpa using hB15
    · omega
    · rfl
    · exact AllN.nil
    · rfl
    · exact AllC.nil
  · rintro m18 e28 w19 ⟨k, L, hm27, hs20, hs21, hs22, hs23, hs24, hF25, hB26, hk, hL, hA, hz, hC⟩
    obtain ⟨r29, rfl⟩ := sq (e := e28) (t := 3) hs20
    obtain ⟨r30, rfl⟩ := sq (e := r29) (t := 5) hs21
    obtain ⟨r31, rfl⟩ := sq (e := r30) (t := 11) hs22
    obtain ⟨r32, rfl⟩ := sq (e := r31) (t := 12) hs23
    obtain ⟨r33, rfl⟩ := sq (e := r32) (t := 13) hs24
    have hz34 := hF25.size
    refine rS fun K35 hK35 => ?_
    by_cases hc36 : ((k : Int)) < ((nf : Int))
    · refine sV (evLss true rfl rfl (dT hc36)) (sK hK35 (wp_seq_k fun K37 hK37 => cT rfl (wp_skip (xN (hK37 _ _ (wp_seq_k fun K38 hK38 => wp_block (rS fun K39 hK39 => sMi rfl ?_)))))))
      have hR40 := (hE5.trans hE12).rx hF25
      have h41 := (hf.frmB hR40 q3)
      obtain ⟨b42, o43, rfl⟩ := h41.base (by omega)
      refine sV (evIx k Tryz.underlying39 sz25 rfl rfl (o43 + (k * 2))) ?_
      obtain ⟨g_44, A_44, n_44, c_44, d_44, he_44, hp_44, hq_44, h_44, hM_44, hS_44, hb_44, z_44⟩ := h41.at_ (i := k) (by omega)
      have ⟨l_44, k_44, m_44⟩ := h_44.lkm
      refine sV (evLoadA [(.bool g_44), (.slice A_44 n_44 c_44)] agg25 sz25 rfl (cell2 hp_44 hq_44)) (sO (oAlloc [(.bool false), (.slice none 0 0)] zero25 rfl (fun g46 w47 hg48 hE49 hz50 hB51 => sAi rfl (sO (oStore [(.bool g_44), (.slice A_44 n_44 c_44)] rfl rfl rfl sz25 rfl hB51 (Nat.le_of_ble_eq_true rfl) (fun w52 hU53 hz54 hB55 => ?_))))))
      replace hB55 : Blk w52 g46 25 [(.bool g_44), (.slice A_44 n_44 c_44)] := hB55
      refine sK hK39 (wp_region_lit (sMs rfl (sMi rfl (sV (evLoadAB [(.bool g_44), (.slice A_44 n_44 c_44)] agg25 sz25 rfl hB55 rfl) ?_))))
      have hR56 := ((hE12.rx hF25).xr hE49).tr hU53
      have hB57 := (hB7.frm hR56 q1)
      refine sV (evLoadAB [(.bool gm), (.slice Am nm cm)] agg25 sz25 rfl hB57 rfl) ?_
      have hR58 := hE49.rx hU53
      have h59 := (h_44.frmB hR58 q3)
      have hR60 := (hR40.xr hE49).tr hU53
      have h61 := (hm.frmB hR60 q3)
      refine sO (oCall rfl call70 (division_Symmetric h59 h61 (by omega) (by omega) (by omega)) rfl ?_)
      rintro _ w63 ⟨gr_62, Ar_62, nr_62, cr_62, dr_62, xo_62, rfl, hE64, hr_62, v_62, cn_62, ok_62, le_62⟩
      have hz65 := hE64.size
      have ⟨lr_62, kr_62, mr_62⟩ := hr_62.lkm
      refine sV (v := (.tuple #[(.agg #[(.bool gr_62), (.slice Ar_62 nr_62 cr_62)]), (.int .i64 (xo_62))])) (rfl) (sV (v := (.agg #[(.bool gr_62), (.slice Ar_62 nr_62 cr_62)])) (rfl) (sV (v := (.int .i64 (xo_62))) (rfl) (sV (evIx k Tryz.underlying39 sz25 rfl rfl (k * 2)) ?_)))
      have hR67 := hR58.xr hE64
      have hB68 := (hB26.frm hR67 q1)
      refine sO (oStore [(.bool gr_62), (.slice Ar_62 nr_62 cr_62)] rfl rfl rfl sz25 rfl hB68 (by rw [cellsI_len]; simp only [List.length_cons, List.length_nil]; exact lq) (fun w69 hU70 hz71 hB72 => ?_))
      replace hB72 := (cellsI_set (l := L ++ List.replicate (nf - k) RI.zero) (i := k) ⟨gr_62, Ar_62, nr_62, cr_62, dr_62⟩ (by exact lq)) ▸ hB72
      replace hB72 : Blk w69 g9 25 (cellsI ((L ++ [⟨gr_62, Ar_62, nr_62, cr_62, dr_62⟩]) ++ List.replicate (nf - (k + 1)) RI.zero)) := (fillI_set hL (by omega) : (L ++ List.replicate (nf - k) RI.zero).set k ⟨gr_62, Ar_62, nr_62, cr_62, dr_62⟩ = (L ++ [⟨gr_62, Ar_62, nr_62, cr_62, dr_62⟩]) ++ List.replicate (nf - (k + 1)) RI.zero) ▸ hB72
      refine sDone (bN (xN (hK38 _ _ (wp_region_lit (sV (evAdd (((k : Int)) + 1) rfl rfl wI) (sMi rfl (sDone ?_)))))))
      have hR73 := hR67.tr hU70
      have h74 := (hA.frmB hR73 q3)
      have h75 := (hr_62.frmB hU70 q3)
      refine again (nf - (k + 1)) (by omega) ⟨(k + 1), (L ++ [⟨gr_62, Ar_62, nr_62, cr_62, dr_62⟩]), rfl, rfl, rfl, rfl, rfl, cI, (Frm.mono (hF25.tr hR73) q4), ?_, ?_, ?_, ?_, ?_, ?_⟩
      · exact hB72
      · omega
      · simp [hL]
      · exact AllN.snoc h74 (NatR.sub h75 q5) (by (try dsimp only); omega)
      · exact zs_snoc hz (by show zval _ _ = _; rw [v_62, z_44])
      · exact AllC.snoc hC cn_62
    · refine sV (evLss false rfl rfl (dF hc36)) (sK hK35 (wp_seq_k fun K76 hK76 => cF rfl (wp_exit (xE (xE (bE (xN (hK16 _ _ (rS fun K77 hK77 => sMs rfl ?_)))))))))
      have h78 : PolyR w19 (fun b => g9 ≤ b) (some ⟨g9, 0, none⟩) nf nf (L ++ List.replicate (nf - k) RI.zero) (nm + 2) := PolyR.of_blk hB26 (AllN.app (AllN.sub hA q5) (AllN.zeros _)) (by (try dsimp only); omega) (by exact lq) (by omega) (by unfold CapMax; omega)
      refine sO (oCall rfl call97 (unipoly_Normal h78 (by omega) (by omega)) rfl ?_)
      rintro _ w80 ⟨qr_79, nr_79, lr_79, rfl, hE81, hgr_79, Br_79, hAr_79, kr_79, mr_79, e_79, ln_79, cn_79⟩
      have hz82 := hE81.size
      have hhr_79 : w19.heap.size ≤ qr_79 := hgr_79; have ltr_79 := Br_79.lt
      refine sAs rfl (sK hK77 (wp_ret (ret1 (.slice (some ⟨qr_79, 0, none⟩) nr_79 nr_79) Tryz.results68 (resT rfl) ?_)))
      have hR84 := ((hE5.trans hE12).rx hF25).xr hE81
      exact ⟨qr_79, nr_79, lr_79, rfl, (Frm.mono hR84 q4), (by show _ ≤ _; omega), Br_79, (AllN.le (AllN.sub hAr_79 q5) (by omega)), (by exact lq), (by omega), (by rw [e_79, show nf - k = 0 by omega, List.replicate_zero, List.append_nil, symz_range hz (by rw [zlen]; omega)]; rfl), (by omega), cn_79⟩
theorem hensel_reduce {w : World} {Sf : Nat → Prop} {Af : Option Addr} {nf cf Mf : Nat} {lf : List RI} {gm : Bool} {Sm : Nat → Prop} {Am : Option Addr} {nm cm : Nat} {dm : List Nat} (hf : PolyR w Sf Af nf cf lf Mf) (hm : NatR w Sm Am nm cm dm) (hnf : nf ≤ 65536) (hMf : Mf ≤ 268435456) (hnm : nm ≤ 16777216) (hm0 : zval gm dm ≠ 0) : Calls Tryz.prog 68 #[(.slice Af nf cf), (.agg #[(.bool gm), (.slice Am nm cm)])] w (Ret fun v w' => ∃ (Ar : Option Addr) (nr : Nat) (cr : Nat) (lr : List RI), v = (.slice Ar nr cr) ∧ Ext w w' ∧ PolyR w' (fun b => w.heap.size ≤ b) Ar nr cr lr (nm + 2) ∧ (zs lr = redZ (zval gm dm).natAbs (zs lf)) ∧ (nr ≤ nf) ∧ (AllC lr)) := by
  exact Ret.mono (hensel_reduce_own hf hm hnf hMf hnm hm0) fun v w' ⟨q, n, l, e0, hE, hg, hB, hA, hk, hm9, e1, le, cn⟩ => ⟨_, _, _, l, e0, hE, PolyR.of_blk hB (AllN.sub hA fun b _ hb => Nat.le_of_lt (Nat.lt_of_le_of_lt hg hb)) hg hk (Nat.le_refl _) (by unfold CapMax; omega), e1, le, cn⟩
end Go.Proofs.YtneolcopompkaaaGreatDoor
