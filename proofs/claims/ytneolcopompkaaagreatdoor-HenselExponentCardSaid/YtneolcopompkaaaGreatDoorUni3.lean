/-
  Walks of package unipoly: Of, Compare, Same; of the laws: awake, Few.
-/
import Derived.Test.YtneolcopompkaaaGreatDoorUni2
namespace Go.Proofs.YtneolcopompkaaaGreatDoor
open Go.RowKit Go.Gx
theorem unipoly_Of {w : World} {Sa : Nat → Prop} {Aa : Option Addr} {na ca : Nat} {xa : List Int} (ha : IntsR w Sa Aa na ca xa) (hna : na ≤ 1048576) : Calls Tryz.prog 17 #[(.slice Aa na ca)] w (Ret fun v w' => ∃ (Ar : Option Addr) (nr : Nat) (cr : Nat) (lr : List RI), v = (.slice Ar nr cr) ∧ Ext w w' ∧ PolyR w' (fun b => w.heap.size ≤ b) Ar nr cr lr (2) ∧ (zs lr = trimZ xa) ∧ (nr ≤ na) ∧ (AllC lr)) := by
  have ⟨la, ka, ma⟩ := ha.lkm
  replace ha := ha.low
  refine enter Tryz.func17 rfl Tryz.ntmps17 rfl (rS fun K1 hK1 => sAs rfl (sK hK1 (rS fun K2 hK2 => sMs rfl (sV (evLen Tryz.underlying82 rfl) (sO (oMake2 na Tryz.underlying39 inf25 cI cI (by omega) (by omega) (fun g3 w4 hg5 hE6 hz7 hB8 => ?_)))))))
  have hB9 : Blk w4 g3 25 (cellsI (List.replicate na RI.zero)) := hB8
  refine sAs rfl (sK hK2 (wp_seq_k fun K10 hK10 => rS fun K11 hK11 => sMs rfl (sV (evLen Tryz.underlying82 rfl) (sMi rfl (sK hK11 (wp_block ?_))))))
  refine lLoop (fun m e w_ => ∃ (k : Nat) (L : List RI), m = na - k ∧ e 3 = (.slice (some ⟨g3, 0, none⟩) na na) ∧ e 9 = (.slice Aa na ca) ∧ e 10 = (.int .i64 ((na : Int))) ∧ e 11 = (.int .i64 ((k : Int))) ∧ Frm (fun b => b = g3) w4 w_ ∧ Blk w_ g3 25 (cellsI (L ++ List.replicate (na - k) RI.zero)) ∧ (k ≤ na) ∧ (L.length = k) ∧ (AllN w_ (fun b => g3 < b) 2 L) ∧ (zs L = (List.range k).map (fun i => xa.getD i 0)) ∧ (AllC L)) (na - (0)) ?_ ?_
  · refine ⟨(0), ([]), rfl, rfl, rfl, rfl, cI, (Frm.refl _ _), ?_, ?_, ?_, ?_, ?_, ?_⟩
    · simpa using hB9
    · omega
    · rfl
    · exact AllN.nil
    · rfl
    · exact AllC.nil
  · rintro m12 e21 w13 ⟨k, L, hm20, hs14, hs15, hs16, hs17, hF18, hB19, hk, hL, hA, hz, hC⟩
    obtain ⟨r22, rfl⟩ := sq (e := e21) (t := 3) hs14
    obtain ⟨r23, rfl⟩ := sq (e := r22) (t := 9) hs15
    obtain ⟨r24, rfl⟩ := sq (e := r23) (t := 10) hs16
    obtain ⟨r25, rfl⟩ := sq (e := r24) (t := 11) hs17
    have hz26 := hF18.size
    refine rS fun K27 hK27 => ?_
    by_cases hc28 : ((k : Int)) < ((na : Int))
    · refine sV (evLss true rfl rfl (dT hc28)) (sK hK27 (wp_seq_k fun K29 hK29 => cT rfl (wp_skip (xN (hK29 _ _ (wp_seq_k fun K30 hK30 => wp_block (rS fun K31 hK31 => sMi rfl ?_)))))))
      have hR32 := hE6.rx hF18
      have h33 := (ha.frmB hR32 q3)
      obtain ⟨b34, o35, rfl⟩ := h33.base (by omega)
      refine sV (evIx k Tryz.underlying82 sz2 rfl rfl (o35 + k)) ?_
      have hr36 := h33.rng k
      refine sV (evLoad one2 rfl (h33.cell (by omega))) (sAi rfl (sAi rfl (sK hK31 (wp_region_lit (sMs rfl (sMi rfl (sMi rfl (sO (oCall rfl call35 (integer_Of (by omega)) rfl ?_)))))))))
      rintro _ w38 ⟨gr_37, Ar_37, nr_37, cr_37, dr_37, rfl, hE39, hr_37, v_37, cn_37, le_37⟩
      have hz40 := hE39.size
      have ⟨lr_37, kr_37, mr_37⟩ := hr_37.lkm
      refine sV (evIx k Tryz.underlying39 sz25 rfl rfl (k * 2)) ?_
      have hB42 := (hB19.ext hE39)
      refine sO (oStore [(.bool gr_37), (.slice Ar_37 nr_37 cr_37)] rfl rfl rfl sz25 rfl hB42 (by rw [cellsI_len]; simp only [List.length_cons, List.length_nil]; exact lq) (fun w43 hU44 hz45 hB46 => ?_))
      replace hB46 := (cellsI_set (l := L ++ List.replicate (na - k) RI.zero) (i := k) ⟨gr_37, Ar_37, nr_37, cr_37, dr_37⟩ (by exact lq)) ▸ hB46
      replace hB46 : Blk w43 g3 25 (cellsI ((L ++ [⟨gr_37, Ar_37, nr_37, cr_37, dr_37⟩]) ++ List.replicate (na - (k + 1)) RI.zero)) := (fillI_set hL (by omega) : (L ++ List.replicate (na - k) RI.zero).set k ⟨gr_37, Ar_37, nr_37, cr_37, dr_37⟩ = (L ++ [⟨gr_37, Ar_37, nr_37, cr_37, dr_37⟩]) ++ List.replicate (na - (k + 1)) RI.zero) ▸ hB46
      refine sDone (bN (xN (hK30 _ _ (wp_region_lit (sV (evAdd (((k : Int)) + 1) rfl rfl wI) (sMi rfl (sDone ?_)))))))
      have hR47 := hE39.rx hU44
      have h48 := (hA.frmB hR47 q3)
      have h49 := (hr_37.frmB hU44 q3)
      refine again (na - (k + 1)) (by omega) ⟨(k + 1), (L ++ [⟨gr_37, Ar_37, nr_37, cr_37, dr_37⟩]), rfl, rfl, rfl, rfl, cI, (hF18.trans hR47), ?_, ?_, ?_, ?_, ?_, ?_⟩
      · exact hB46
      · omega
      · simp [hL]
      · exact AllN.snoc h48 (NatR.sub h49 q5) (by (try dsimp only); omega)
      · exact zs_snoc hz v_37
      · exact AllC.snoc hC cn_37
    · refine sV (evLss false rfl rfl (dF hc28)) (sK hK27 (wp_seq_k fun K50 hK50 => cF rfl (wp_exit (xE (xE (bE (xN (hK10 _ _ (rS fun K51 hK51 => sMs rfl ?_)))))))))
      have h52 : PolyR w13 (fun b => g3 ≤ b) (some ⟨g3, 0, none⟩) na na (L ++ List.replicate (na - k) RI.zero) (2) := PolyR.of_blk hB19 (AllN.app (AllN.sub hA q5) (AllN.zeros _)) (by (try dsimp only); omega) (by exact lq) (by omega) (by unfold CapMax; omega)
      refine sO (oCall rfl call49 (unipoly_trim h52) rfl ?_)
      rintro _ w54 ⟨Ar_53, nr_53, cr_53, lr_53, rfl, hE55, hr_53, e_53, le_53⟩
      have hz56 := hE55.size
      have ⟨kr_53, jr_53, mr_53⟩ := hr_53.lkm
      refine sAs rfl (sK hK51 (wp_ret (ret1 (.slice Ar_53 nr_53 cr_53) Tryz.results17 (resT rfl) ?_)))
      have hR58 := (hE6.rx hF18).xr hE55
      exact ⟨Ar_53, nr_53, cr_53, lr_53, rfl, (Frm.mono hR58 q4), (PolyR.le (PolyR.sub hr_53 q5) (by omega)), (by rw [e_53, zs_trim, show na - k = 0 by omega, List.replicate_zero, List.append_nil, hz, show k = xa.length by omega, map_getD_range]), (by omega), (by rw [e_53]; exact (AllC.app hC (AllC.zeros _)).trim)⟩
theorem unipoly_Compare {w : World} {Sa : Nat → Prop} {Aa : Option Addr} {na ca Ma : Nat} {la : List RI} {Sb : Nat → Prop} {Ab : Option Addr} {nb cb Mb : Nat} {lb : List RI} (ha : PolyR w Sa Aa na ca la Ma) (hb : PolyR w Sb Ab nb cb lb Mb)  : Calls Tryz.prog 67 #[(.slice Aa na ca), (.slice Ab nb cb)] w (Ret fun v w' => ∃ (xr : Int), v = (.int .i64 (xr)) ∧ Ext w w' ∧ (xr = cmpP (trimZ (zs la)) (trimZ (zs lb)))) := by
  have ⟨ka, ja, ma⟩ := ha.lkm
  replace ha := ha.low
  have ⟨kb, jb, mb⟩ := hb.lkm
  replace hb := hb.low
  refine enter Tryz.func67 rfl Tryz.ntmps67 rfl (rS fun K1 hK1 => sAi rfl (sK hK1 (rS fun K2 hK2 => sMs rfl (sO (oCall rfl call49 (unipoly_trim ha) rfl ?_)))))
  rintro _ w4 ⟨Ar_3, nr_3, cr_3, lr_3, rfl, hE5, hr_3, e_3, le_3⟩
  have hz6 := hE5.size
  have ⟨kr_3, jr_3, mr_3⟩ := hr_3.lkm
  refine sMs rfl ?_
  have h8 := (hb.ext hE5)
  refine sO (oCall rfl call49 (unipoly_trim h8) rfl ?_)
  rintro _ w10 ⟨Ar_9, nr_9, cr_9, lr_9, rfl, hE11, hr_9, e_9, le_9⟩
  have hz12 := hE11.size
  have ⟨kr_9, jr_9, mr_9⟩ := hr_9.lkm
  refine sAs rfl (sAs rfl (sK hK2 (wp_seq_k fun K14 hK14 => wp_block (rS fun K15 hK15 => sMs rfl (sV (evLen Tryz.underlying39 rfl) (sMs rfl (sV (evLen Tryz.underlying39 rfl) ?_)))))))
  by_cases hc16 : ((nr_3 : Int)) < ((nr_9 : Int))
  · refine sV (evLss true rfl rfl (dT hc16)) (sAb rfl (sK hK15 (cT rfl (rS fun K17 hK17 => sAi rfl (sK hK17 (wp_ret (bR (xR (ret1 (.int .i64 ((-1))) Tryz.results67 (resT rfl) ?_)))))))))
    have hR18 := hE5.trans hE11
    exact ⟨((-1)), rfl, hR18, (by rw [← zs_trim, ← zs_trim, ← e_3, ← e_9]; exact cmpP_lt (by simp only [zlen]; omega))⟩
  · refine sV (evLss false rfl rfl (dF hc16)) (sAb rfl (sK hK15 (cF rfl (rS fun K19 hK19 => sMs rfl (sV (evLen Tryz.underlying39 rfl) (sMs rfl (sV (evLen Tryz.underlying39 rfl) ?_)))))))
    by_cases hc20 : ((nr_3 : Int)) > ((nr_9 : Int))
    · refine sV (evGtr true rfl rfl (dT hc20)) (sAb rfl (sK hK19 (cT rfl (rS fun K21 hK21 => sAi rfl (sK hK21 (wp_ret (bR (xR (ret1 (.int .i64 (1)) Tryz.results67 (resT rfl) ?_)))))))))
      have hR22 := hE5.trans hE11
      exact ⟨(1), rfl, hR22, (by rw [← zs_trim, ← zs_trim, ← e_3, ← e_9]; exact cmpP_gt (by simp only [zlen]; omega))⟩
    · refine sV (evGtr false rfl rfl (dF hc20)) (sAb rfl (sK hK19 (cF rfl (wp_skip (bN (xN (hK14 _ _ (wp_seq_k fun K23 hK23 => rS fun K24 hK24 => sMs rfl (sV (evLen Tryz.underlying39 rfl) (sV (evSub (((nr_3 : Int)) - 1) rfl rfl wI) (sAi rfl (sK hK24 (wp_block ?_)))))))))))))
      refine lLoop (fun m e w_ => ∃ (k : Nat), m = k ∧ e 0 = (.slice Ar_3 nr_3 cr_3) ∧ e 1 = (.slice Ar_9 nr_9 cr_9) ∧ e 5 = (.int .i64 ((k : Int) - 1)) ∧ Frm (fun b => False) w10 w_ ∧ (k ≤ nr_3) ∧ (cmpP (zs lr_3) (zs lr_9) = cmpTop (zs lr_3) (zs lr_9) k)) ((nr_3)) ?_ ?_
      · refine ⟨(nr_3), rfl, rfl, rfl, cI, (Frm.refl _ _), ?_, ?_⟩
        · omega
        · exact cmpP_eq (by simp only [zlen]; omega) (by simp only [zlen]; omega)
      · rintro m25 e32 w26 ⟨k, hm31, hs27, hs28, hs29, hF30, hk, hX⟩
        obtain ⟨r33, rfl⟩ := sq (e := e32) (t := 0) hs27
        obtain ⟨r34, rfl⟩ := sq (e := r33) (t := 1) hs28
        obtain ⟨r35, rfl⟩ := sq (e := r34) (t := 5) hs29
        have hz36 := hF30.size
        refine wp_seq_k fun K37 hK37 => rS fun K38 hK38 => sMi rfl ?_
        by_cases hc39 : ((k : Int) - 1) ≥ 0
        · refine sV (evGeq true rfl rfl (dT hc39)) (sK hK38 (cT rfl (wp_skip (xN (hK37 _ _ (wp_seq_k fun K40 hK40 => wp_block (wp_seq_k fun K41 hK41 => dBegin (fun _ => False) mixed (fun w42 hE43 hz44 => dMs 0 rfl rfl (dMi 1 rfl rfl ?_)))))))))
          have hR45 := (hE11.trans hF30).trans hE43
          have h46 := (hr_3.ext hR45)
          obtain ⟨b47, o48, rfl⟩ := h46.base (by omega)
          refine dV 2 rfl (fun _ _ => evIx (k - 1) Tryz.underlying39 sz25 rfl rfl (o48 + ((k - 1) * 2))) ?_
          obtain ⟨g_49, A_49, n_49, c_49, d_49, he_49, hp_49, hq_49, h_49, hM_49, hS_49, hb_49, z_49⟩ := h46.at_ (i := k - 1) (by omega)
          have ⟨l_49, k_49, m_49⟩ := h_49.lkm
          refine dV 3 rfl (fun _ hf => evLoadA [(.bool g_49), (.slice A_49 n_49 c_49)] agg25 sz25 rfl (cell2F hp_49 hq_49 hf hb_49 (fun h => h))) (dMs 4 rfl rfl (dMi 5 rfl rfl ?_))
          have hR51 := hF30.trans hE43
          have h52 := (hr_9.ext hR51)
          obtain ⟨b53, o54, rfl⟩ := h52.base (by omega)
          refine dV 6 rfl (fun _ _ => evIx (k - 1) Tryz.underlying39 sz25 rfl rfl (o54 + ((k - 1) * 2))) ?_
          obtain ⟨g_55, A_55, n_55, c_55, d_55, he_55, hp_55, hq_55, h_55, hM_55, hS_55, hb_55, z_55⟩ := h52.at_ (i := k - 1) (by omega)
          have ⟨l_55, k_55, m_55⟩ := h_55.lkm
          refine dV 7 rfl (fun _ hf => evLoadA [(.bool g_55), (.slice A_55 n_55 c_55)] agg25 sz25 rfl (cell2F hp_55 hq_55 hf hb_55 (fun h => h))) (dOp 8 rfl rfl (by kernel_rfl) (oCall rfl call13 (integer_Cmp h_49 h_55) rfl ?_))
          rintro _ w58 ⟨xr_57, rfl, hE59, e_57⟩
          refine ⟨(Frm.of_ext hE59), ?_⟩
          have hz60 := hE59.size
          refine dAi 9 rfl rfl (dDone (by kernel_rfl) (xN (hK41 _ _ (rS fun K61 hK61 => sMi rfl ?_))))
          by_cases hc62 : xr_57 ≠ 0
          · refine sV (evNeq true rfl rfl (dT hc62)) (sK hK61 (cT rfl (rS fun K63 hK63 => sMi rfl (sAi rfl (sK hK63 (wp_ret (bR (xR (xR (bR (xR (ret1 (.int .i64 (xr_57)) Tryz.results67 (resT rfl) ?_))))))))))))
            have hR64 := (((hE5.trans hE11).trans hF30).trans hE43).trans hE59
            exact ⟨(xr_57), rfl, hR64, (by rw [← zs_trim, ← zs_trim, ← e_3, ← e_9]; rw [cmpTop_stop hX (by omega) (by rw [← z_49, ← z_55]; intro hh; exact absurd (e_57.trans (cmpZ_eq_zero.2 hh)) (by omega)), ← z_49, ← z_55]; exact e_57)⟩
          · refine sV (evNeq false rfl rfl (dF hc62)) (sK hK61 (cF rfl (wp_skip (bN (xN (hK40 _ _ (wp_region_lit (sMi rfl (sV (evSub (((k : Int) - 1) - 1) rfl rfl wI) (sAi rfl (sDone ?_)))))))))))
            have hR65 := hE43.trans hE59
            refine again ((k - 1)) (by omega) ⟨(k - 1), rfl, rfl, rfl, cI, (hF30.trans hR65), ?_, ?_⟩
            · omega
            · exact cmpTop_down hX (by omega) (by rw [← z_49, ← z_55]; exact cmpZ_eq_zero.1 (e_57 ▸ (by omega)))
        · refine sV (evGeq false rfl rfl (dF hc39)) (sK hK38 (cF rfl (wp_exit (xE (xE (bE (xN (hK23 _ _ (rS fun K66 hK66 => sAi rfl (sK hK66 (wp_ret (ret1 (.int .i64 (0)) Tryz.results67 (resT rfl) ?_))))))))))))
          have hR67 := (hE5.trans hE11).trans hF30
          exact ⟨(0), rfl, hR67, (by rw [← zs_trim, ← zs_trim, ← e_3, ← e_9]; rw [hX, show k = 0 by omega]; rfl)⟩
theorem unipoly_Same {w : World} {Sa : Nat → Prop} {Aa : Option Addr} {na ca Ma : Nat} {la : List RI} {Sb : Nat → Prop} {Ab : Option Addr} {nb cb Mb : Nat} {lb : List RI} (ha : PolyR w Sa Aa na ca la Ma) (hb : PolyR w Sb Ab nb cb lb Mb)  : Calls Tryz.prog 25 #[(.slice Aa na ca), (.slice Ab nb cb)] w (Ret fun v w' => ∃ (gr : Bool), v = (.bool gr) ∧ Ext w w' ∧ (gr = decide (trimZ (zs la) = trimZ (zs lb)))) := by
  have ⟨ka, ja, ma⟩ := ha.lkm
  replace ha := ha.low
  have ⟨kb, jb, mb⟩ := hb.lkm
  replace hb := hb.low
  refine enter Tryz.func25 rfl Tryz.ntmps25 rfl (rS fun K1 hK1 => sAb rfl (sK hK1 (rS fun K2 hK2 => sMs rfl (sMs rfl (sO (oCall rfl call67 (unipoly_Compare ha hb) rfl ?_))))))
  rintro _ w4 ⟨xr_3, rfl, hE5, e_3⟩
  have hz6 := hE5.size
  refine sV (evEql (decide (trimZ (zs la) = trimZ (zs lb))) rfl rfl (same_dec e_3)) (sAb rfl (sK hK2 (wp_ret (ret1 (.bool (decide (trimZ (zs la) = trimZ (zs lb)))) Tryz.results25 (resT rfl) ?_))))
  exact ⟨(decide (trimZ (zs la) = trimZ (zs lb))), rfl, hE5, rfl⟩
end Go.Proofs.YtneolcopompkaaaGreatDoor
