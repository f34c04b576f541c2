/-
  Walks of package unipoly: multiples, derivatives, powers.
-/
import Derived.Test.YtneolcopompkaaaGreatDoorUni3
import Derived.Test.YtneolcopompkaaaGreatDoorLibA
import Derived.Test.YtneolcopompkaaaGreatDoorLibB
namespace Go.Proofs.YtneolcopompkaaaGreatDoor
open Go.RowKit Go.Gx
theorem unipoly_Scale1 {w : World} {ga : Bool} {Sa : Nat → Prop} {Aa : Option Addr} {na ca : Nat} {da : List Nat} {pc : Nat} {gc : Bool} {Sc : Nat → Prop} {Ac : Option Addr} {nc cc : Nat} {dc : List Nat} (ha : NatR w Sa Aa na ca da) (Bc : Blk w pc 25 [.bool gc, .slice Ac nc cc]) (hc : NatR w Sc Ac nc cc dc) (hna : na + nc ≤ 1099511627776) : Calls Tryz.prog 51 #[(.agg #[(.bool ga), (.slice Aa na ca)]), (.pointer (some ⟨pc, 0, none⟩))] w (Ret fun v w' => ∃ (gr : Bool) (Ar : Option Addr) (nr : Nat) (cr : Nat) (dr : List Nat), v = (.agg #[(.bool gr), (.slice Ar nr cr)]) ∧ Ext w w' ∧ NatR w' (fun b => w.heap.size ≤ b) Ar nr cr dr ∧ (zval gr dr = zval gc dc * zval ga da) ∧ (ICan gr dr) ∧ (nr ≤ na + nc)) := by
  have ⟨la, ka, ma⟩ := ha.lkm
  replace ha := ha.low
  have ⟨lc, kc, mc⟩ := hc.lkm
  replace hc := hc.low
  have ltc := Bc.lt
  refine enter Tryz.func51 rfl Tryz.ntmps51 rfl (rS fun K1 hK1 => sO (oBox [(.bool ga), (.slice Aa na ca)] rfl rfl (fun g2 w3 hg4 hE5 hz6 hB7 => sO (oAlloc [(.bool false), (.slice none 0 0)] zero25 rfl (fun g8 w9 hg10 hE11 hz12 hB13 => sK hK1 (rS fun K14 hK14 => ?_))))))
  have hR15 := hE5.trans hE11
  have hB16 := (Bc.ext hR15)
  refine sV (evLoadAB [(.bool gc), (.slice Ac nc cc)] agg25 sz25 rfl hB16 rfl) ?_
  have hB17 := (hB7.ext hE11)
  refine sV (evLoadAB [(.bool ga), (.slice Aa na ca)] agg25 sz25 rfl hB17 rfl) ?_
  have h18 := (hc.ext hR15)
  have h19 := (ha.ext hR15)
  refine sO (oCall rfl call33 (integer_Mul h18 h19 (by omega)) rfl ?_)
  rintro _ w21 ⟨gr_20, Ar_20, nr_20, cr_20, dr_20, rfl, hE22, hr_20, v_20, cn_20, le_20⟩
  have hz23 := hE22.size
  have ⟨lr_20, kr_20, mr_20⟩ := hr_20.lkm
  have hB25 := (hB13.ext hE22)
  refine sO (oStore [(.bool gr_20), (.slice Ar_20 nr_20 cr_20)] rfl rfl rfl sz25 rfl hB25 (Nat.le_of_ble_eq_true rfl) (fun w26 hU27 hz28 hB29 => ?_))
  replace hB29 : Blk w26 g8 25 [(.bool gr_20), (.slice Ar_20 nr_20 cr_20)] := hB29
  refine sK hK14 (wp_ret (ret1 (.agg #[(.bool gr_20), (.slice Ar_20 nr_20 cr_20)]) Tryz.results51 (resB [(.bool gr_20), (.slice Ar_20 nr_20 cr_20)] agg25 sz25 rfl hB29) ?_))
  have h30 := (hr_20.frmB hU27 q3)
  have hR31 := (hR15.trans hE22).rx hU27
  exact ⟨gr_20, Ar_20, nr_20, cr_20, dr_20, rfl, (Frm.mono hR31 q4), (NatR.sub h30 q5), v_20, cn_20, (by omega)⟩
theorem unipoly_transform_Normal {w : World} {Sf : Nat → Prop} {Af : Option Addr} {nf cf Mf : Nat} {lf : List RI}  (hf : PolyR w Sf Af nf cf lf Mf) (hnf : nf ≤ 1048576) (hMf : Mf ≤ 1073741824) : Calls Tryz.prog 50 #[(.slice Af nf cf), (.func (.func 85) #[] #[])] w (Ret fun v w' => ∃ (qr : Nat) (nr : Nat) (lr : List RI), v = (.slice (some ⟨qr, 0, none⟩) nr nr) ∧ Ext w w' ∧ (fun b => w.heap.size ≤ b) qr ∧ Blk w' qr 25 (cellsI lr) ∧ AllN w' (fun b => qr < b) (Mf) lr ∧ lr.length = nr ∧ nr ≤ 9223372036854775807 ∧ (zs lr = (zs lf).map (fun x => x)) ∧ (nr = nf) ∧ (AllC lr)) := by
  have ⟨kf, jf, mf⟩ := hf.lkm
  replace hf := hf.low
  refine enter Tryz.func50 rfl Tryz.ntmps50 rfl (rS fun K1 hK1 => sAs rfl (sK hK1 (rS fun K2 hK2 => sMs rfl (sV (evLen Tryz.underlying39 rfl) (sO (oMake2 nf Tryz.underlying39 inf25 cI cI (by omega) (by omega) (fun g3 w4 hg5 hE6 hz7 hB8 => ?_)))))))
  have hB9 : Blk w4 g3 25 (cellsI (List.replicate nf RI.zero)) := hB8
  refine sAs rfl (sK hK2 (wp_seq_k fun K10 hK10 => rS fun K11 hK11 => sMs rfl (sV (evLen Tryz.underlying39 rfl) (sMi rfl (sK hK11 (wp_block ?_))))))
  refine lLoop (fun m e w_ => ∃ (k : Nat) (L : List RI), m = nf - k ∧ e 1 = (.func (.func 85) #[] #[]) ∧ e 5 = (.slice (some ⟨g3, 0, none⟩) nf nf) ∧ e 11 = (.slice Af nf cf) ∧ e 12 = (.int .i64 ((nf : Int))) ∧ e 13 = (.int .i64 ((k : Int))) ∧ Frm (fun b => b = g3) w4 w_ ∧ Blk w_ g3 25 (cellsI (L ++ List.replicate (nf - k) RI.zero)) ∧ (k ≤ nf) ∧ (L.length = k) ∧ (AllN w_ (fun b => g3 < b) (Mf) L) ∧ (zs L = ((zs lf).take k).map (fun x => x)) ∧ (AllC L)) (nf - (0)) ?_ ?_
  · refine ⟨(0), ([]), rfl, rfl, rfl, rfl, rfl, cI, (Frm.refl _ _), ?_, ?_, ?_, ?_, ?_, ?_⟩
    · simpa using hB9
    · omega
    · rfl
    · exact AllN.nil
    · simp
    · exact AllC.nil
  · rintro m12 e22 w13 ⟨k, L, hm21, hs14, hs15, hs16, hs17, hs18, hF19, hB20, hk, hL, hA, hz, hC⟩
    obtain ⟨r23, rfl⟩ := sq (e := e22) (t := 1) hs14
    obtain ⟨r24, rfl⟩ := sq (e := r23) (t := 5) hs15
    obtain ⟨r25, rfl⟩ := sq (e := r24) (t := 11) hs16
    obtain ⟨r26, rfl⟩ := sq (e := r25) (t := 12) hs17
    obtain ⟨r27, rfl⟩ := sq (e := r26) (t := 13) hs18
    have hz28 := hF19.size
    refine rS fun K29 hK29 => ?_
    by_cases hc30 : ((k : Int)) < ((nf : Int))
    · refine sV (evLss true rfl rfl (dT hc30)) (sK hK29 (wp_seq_k fun K31 hK31 => cT rfl (wp_skip (xN (hK31 _ _ (wp_seq_k fun K32 hK32 => wp_block (rS fun K33 hK33 => sMi rfl ?_)))))))
      have hR34 := hE6.rx hF19
      have h35 := (hf.frmB hR34 q3)
      obtain ⟨b36, o37, rfl⟩ := h35.base (by omega)
      refine sV (evIx k Tryz.underlying39 sz25 rfl rfl (o37 + (k * 2))) ?_
      obtain ⟨g_38, A_38, n_38, c_38, d_38, he_38, hp_38, hq_38, h_38, hM_38, hS_38, hb_38, z_38⟩ := h35.at_ (i := k) (by omega)
      have ⟨l_38, k_38, m_38⟩ := h_38.lkm
      refine sV (evLoadA [(.bool g_38), (.slice A_38 n_38 c_38)] agg25 sz25 rfl (cell2 hp_38 hq_38)) (sO (oAlloc [(.bool false), (.slice none 0 0)] zero25 rfl (fun g40 w41 hg42 hE43 hz44 hB45 => sAi rfl (sO (oStore [(.bool g_38), (.slice A_38 n_38 c_38)] rfl rfl rfl sz25 rfl hB45 (Nat.le_of_ble_eq_true rfl) (fun w46 hU47 hz48 hB49 => ?_))))))
      replace hB49 : Blk w46 g40 25 [(.bool g_38), (.slice A_38 n_38 c_38)] := hB49
      refine sK hK33 (wp_region_lit (sMs rfl (sMi rfl (sV (v := (.func (.func 85) #[] #[])) (rfl) (sV (evLoadAB [(.bool g_38), (.slice A_38 n_38 c_38)] agg25 sz25 rfl hB49 rfl) ?_)))))
      have hR50 := hE43.rx hU47
      have h51 := (h_38.frmB hR50 q3)
      refine sO (oCall rfl call85 (integer_Normal h51 (by omega)) rfl ?_)
      rintro _ w53 ⟨gr_52, Ar_52, nr_52, cr_52, dr_52, rfl, hE54, hr_52, v_52, cn_52, le_52⟩
      have hz55 := hE54.size
      have ⟨lr_52, kr_52, mr_52⟩ := hr_52.lkm
      refine sV (evIx k Tryz.underlying39 sz25 rfl rfl (k * 2)) ?_
      have hR57 := hR50.xr hE54
      have hB58 := (hB20.frm hR57 q1)
      refine sO (oStore [(.bool gr_52), (.slice Ar_52 nr_52 cr_52)] rfl rfl rfl sz25 rfl hB58 (by rw [cellsI_len]; simp only [List.length_cons, List.length_nil]; exact lq) (fun w59 hU60 hz61 hB62 => ?_))
      replace hB62 := (cellsI_set (l := L ++ List.replicate (nf - k) RI.zero) (i := k) ⟨gr_52, Ar_52, nr_52, cr_52, dr_52⟩ (by exact lq)) ▸ hB62
      replace hB62 : Blk w59 g3 25 (cellsI ((L ++ [⟨gr_52, Ar_52, nr_52, cr_52, dr_52⟩]) ++ List.replicate (nf - (k + 1)) RI.zero)) := (fillI_set hL (by omega) : (L ++ List.replicate (nf - k) RI.zero).set k ⟨gr_52, Ar_52, nr_52, cr_52, dr_52⟩ = (L ++ [⟨gr_52, Ar_52, nr_52, cr_52, dr_52⟩]) ++ List.replicate (nf - (k + 1)) RI.zero) ▸ hB62
      refine sDone (bN (xN (hK32 _ _ (wp_region_lit (sV (evAdd (((k : Int)) + 1) rfl rfl wI) (sMi rfl (sDone ?_)))))))
      have hR63 := hR57.tr hU60
      have h64 := (hA.frmB hR63 q3)
      have h65 := (hr_52.frmB hU60 q3)
      refine again (nf - (k + 1)) (by omega) ⟨(k + 1), (L ++ [⟨gr_52, Ar_52, nr_52, cr_52, dr_52⟩]), rfl, rfl, rfl, rfl, rfl, cI, (Frm.mono (hF19.tr hR63) q4), ?_, ?_, ?_, ?_, ?_, ?_⟩
      · exact hB62
      · omega
      · simp [hL]
      · exact AllN.snoc h64 (NatR.sub h65 q5) (by (try dsimp only); omega)
      · exact map_snoc hz (by omega) (by show zval _ _ = _; rw [v_52, z_38])
      · exact AllC.snoc hC cn_52
    · refine sV (evLss false rfl rfl (dF hc30)) (sK hK29 (wp_seq_k fun K66 hK66 => cF rfl (wp_exit (xE (xE (bE (xN (hK10 _ _ (rS fun K67 hK67 => sMs rfl (sAs rfl (sK hK67 (wp_ret (ret1 (.slice (some ⟨g3, 0, none⟩) nf nf) Tryz.results50 (resT rfl) ?_)))))))))))))
      have hR68 := hE6.rx hF19
      exact ⟨g3, nf, (L ++ List.replicate (nf - k) RI.zero), rfl, (Frm.mono hR68 q4), (by show _ ≤ _; omega), hB20, (AllN.le (AllN.app (AllN.sub hA q5) (AllN.zeros _)) (by omega)), (by exact lq), (by omega), (map_all hz (by omega) (by omega)), (by omega), (AllC.app hC (AllC.zeros _))⟩
theorem unipoly_transform_Scale {w : World} {Sf : Nat → Prop} {Af : Option Addr} {nf cf Mf : Nat} {lf : List RI} {pc : Nat} {gc : Bool} {Sc : Nat → Prop} {Ac : Option Addr} {nc cc : Nat} {dc : List Nat} (hf : PolyR w Sf Af nf cf lf Mf) (Bc : Blk w pc 25 [.bool gc, .slice Ac nc cc]) (hc : NatR w Sc Ac nc cc dc) (hnf : nf ≤ 1048576) (hMf : Mf ≤ 1073741824) (hnc : nc ≤ 1073741824) : Calls Tryz.prog 50 #[(.slice Af nf cf), (.func (.func 51) #[] #[(.pointer (some ⟨pc, 0, none⟩))])] w (Ret fun v w' => ∃ (Ar : Option Addr) (nr : Nat) (cr : Nat) (lr : List RI), v = (.slice Ar nr cr) ∧ Ext w w' ∧ PolyR w' (fun b => w.heap.size ≤ b) Ar nr cr lr (Mf + nc) ∧ (zs lr = (zs lf).map (fun x => zval gc dc * x)) ∧ (nr = nf) ∧ (AllC lr)) := by
  have ⟨kf, jf, mf⟩ := hf.lkm
  replace hf := hf.low
  have ⟨lc, kc, mc⟩ := hc.lkm
  replace hc := hc.low
  have ltc := Bc.lt
  refine enter Tryz.func50 rfl Tryz.ntmps50 rfl (rS fun K1 hK1 => sAs rfl (sK hK1 (rS fun K2 hK2 => sMs rfl (sV (evLen Tryz.underlying39 rfl) (sO (oMake2 nf Tryz.underlying39 inf25 cI cI (by omega) (by omega) (fun g3 w4 hg5 hE6 hz7 hB8 => ?_)))))))
  have hB9 : Blk w4 g3 25 (cellsI (List.replicate nf RI.zero)) := hB8
  refine sAs rfl (sK hK2 (wp_seq_k fun K10 hK10 => rS fun K11 hK11 => sMs rfl (sV (evLen Tryz.underlying39 rfl) (sMi rfl (sK hK11 (wp_block ?_))))))
  refine lLoop (fun m e w_ => ∃ (k : Nat) (L : List RI), m = nf - k ∧ e 1 = (.func (.func 51) #[] #[(.pointer (some ⟨pc, 0, none⟩))]) ∧ e 5 = (.slice (some ⟨g3, 0, none⟩) nf nf) ∧ e 11 = (.slice Af nf cf) ∧ e 12 = (.int .i64 ((nf : Int))) ∧ e 13 = (.int .i64 ((k : Int))) ∧ Frm (fun b => b = g3) w4 w_ ∧ Blk w_ g3 25 (cellsI (L ++ List.replicate (nf - k) RI.zero)) ∧ (k ≤ nf) ∧ (L.length = k) ∧ (AllN w_ (fun b => g3 < b) (Mf + nc) L) ∧ (zs L = ((zs lf).take k).map (fun x => zval gc dc * x)) ∧ (AllC L)) (nf - (0)) ?_ ?_
  · refine ⟨(0), ([]), rfl, rfl, rfl, rfl, rfl, cI, (Frm.refl _ _), ?_, ?_, ?_, ?_, ?_, ?_⟩
    · simpa using hB9
    · omega
    · rfl
    · exact AllN.nil
    · simp
    · exact AllC.nil
  · rintro m12 e22 w13 ⟨k, L, hm21, hs14, hs15, hs16, hs17, hs18, hF19, hB20, hk, hL, hA, hz, hC⟩
    obtain ⟨r23, rfl⟩ := sq (e := e22) (t := 1) hs14
    obtain ⟨r24, rfl⟩ := sq (e := r23) (t := 5) hs15
    obtain ⟨r25, rfl⟩ := sq (e := r24) (t := 11) hs16
    obtain ⟨r26, rfl⟩ := sq (e := r25) (t := 12) hs17
    obtain ⟨r27, rfl⟩ := sq (e := r26) (t := 13) hs18
    have hz28 := hF19.size
    refine rS fun K29 hK29 => ?_
    by_cases hc30 : ((k : Int)) < ((nf : Int))
    · refine sV (evLss true rfl rfl (dT hc30)) (sK hK29 (wp_seq_k fun K31 hK31 => cT rfl (wp_skip (xN (hK31 _ _ (wp_seq_k fun K32 hK32 => wp_block (rS fun K33 hK33 => sMi rfl ?_)))))))
      have hR34 := hE6.rx hF19
      have h35 := (hf.frmB hR34 q3)
      obtain ⟨b36, o37, rfl⟩ := h35.base (by omega)
      refine sV (evIx k Tryz.underlying39 sz25 rfl rfl (o37 + (k * 2))) ?_
      obtain ⟨g_38, A_38, n_38, c_38, d_38, he_38, hp_38, hq_38, h_38, hM_38, hS_38, hb_38, z_38⟩ := h35.at_ (i := k) (by omega)
      have ⟨l_38, k_38, m_38⟩ := h_38.lkm
      refine sV (evLoadA [(.bool g_38), (.slice A_38 n_38 c_38)] agg25 sz25 rfl (cell2 hp_38 hq_38)) (sO (oAlloc [(.bool false), (.slice none 0 0)] zero25 rfl (fun g40 w41 hg42 hE43 hz44 hB45 => sAi rfl (sO (oStore [(.bool g_38), (.slice A_38 n_38 c_38)] rfl rfl rfl sz25 rfl hB45 (Nat.le_of_ble_eq_true rfl) (fun w46 hU47 hz48 hB49 => ?_))))))
      replace hB49 : Blk w46 g40 25 [(.bool g_38), (.slice A_38 n_38 c_38)] := hB49
      refine sK hK33 (wp_region_lit (sMs rfl (sMi rfl (sV (v := (.func (.func 51) #[] #[(.pointer (some ⟨pc, 0, none⟩))])) (rfl) (sV (evLoadAB [(.bool g_38), (.slice A_38 n_38 c_38)] agg25 sz25 rfl hB49 rfl) ?_)))))
      have hR50 := hE43.rx hU47
      have h51 := (h_38.frmB hR50 q3)
      have hR52 := (hR34.xr hE43).tr hU47
      have hB53 := (Bc.frm hR52 q1)
      have h54 := (hc.frmB hR52 q3)
      refine sO (oCall rfl call51 (unipoly_Scale1 h51 hB53 h54 (by omega)) rfl ?_)
      rintro _ w56 ⟨gr_55, Ar_55, nr_55, cr_55, dr_55, rfl, hE57, hr_55, v_55, cn_55, le_55⟩
      have hz58 := hE57.size
      have ⟨lr_55, kr_55, mr_55⟩ := hr_55.lkm
      refine sV (evIx k Tryz.underlying39 sz25 rfl rfl (k * 2)) ?_
      have hR60 := hR50.xr hE57
      have hB61 := (hB20.frm hR60 q1)
      refine sO (oStore [(.bool gr_55), (.slice Ar_55 nr_55 cr_55)] rfl rfl rfl sz25 rfl hB61 (by rw [cellsI_len]; simp only [List.length_cons, List.length_nil]; exact lq) (fun w62 hU63 hz64 hB65 => ?_))
      replace hB65 := (cellsI_set (l := L ++ List.replicate (nf - k) RI.zero) (i := k) ⟨gr_55, Ar_55, nr_55, cr_55, dr_55⟩ (by exact lq)) ▸ hB65
      replace hB65 : Blk w62 g3 25 (cellsI ((L ++ [⟨gr_55, Ar_55, nr_55, cr_55, dr_55⟩]) ++ List.replicate (nf - (k + 1)) RI.zero)) := (fillI_set hL (by omega) : (L ++ List.replicate (nf - k) RI.zero).set k ⟨gr_55, Ar_55, nr_55, cr_55, dr_55⟩ = (L ++ [⟨gr_55, Ar_55, nr_55, cr_55, dr_55⟩]) ++ List.replicate (nf - (k + 1)) RI.zero) ▸ hB65
      refine sDone (bN (xN (hK32 _ _ (wp_region_lit (sV (evAdd (((k : Int)) + 1) rfl rfl wI) (sMi rfl (sDone ?_)))))))
      have hR66 := hR60.tr hU63
      have h67 := (hA.frmB hR66 q3)
      have h68 := (hr_55.frmB hU63 q3)
      refine again (nf - (k + 1)) (by omega) ⟨(k + 1), (L ++ [⟨gr_55, Ar_55, nr_55, cr_55, dr_55⟩]), rfl, rfl, rfl, rfl, rfl, cI, (Frm.mono (hF19.tr hR66) q4), ?_, ?_, ?_, ?_, ?_, ?_⟩
      · exact hB65
      · omega
      · simp [hL]
      · exact AllN.snoc h67 (NatR.sub h68 q5) (by (try dsimp only); omega)
      · exact map_snoc hz (by omega) (by show zval _ _ = _; rw [v_55, z_38])
      · exact AllC.snoc hC cn_55
    · refine sV (evLss false rfl rfl (dF hc30)) (sK hK29 (wp_seq_k fun K69 hK69 => cF rfl (wp_exit (xE (xE (bE (xN (hK10 _ _ (rS fun K70 hK70 => sMs rfl (sAs rfl (sK hK70 (wp_ret (ret1 (.slice (some ⟨g3, 0, none⟩) nf nf) Tryz.results50 (resT rfl) ?_)))))))))))))
      have h71 : PolyR w13 (fun b => g3 ≤ b) (some ⟨g3, 0, none⟩) nf nf (L ++ List.replicate (nf - k) RI.zero) (Mf + nc) := PolyR.of_blk hB20 (AllN.app (AllN.sub hA q5) (AllN.zeros _)) (by (try dsimp only); omega) (by exact lq) (by omega) (by unfold CapMax; omega)
      have hR72 := hE6.rx hF19
      exact ⟨(some ⟨g3, 0, none⟩), nf, nf, (L ++ List.replicate (nf - k) RI.zero), rfl, (Frm.mono hR72 q4), (PolyR.le (PolyR.sub h71 q5) (by omega)), (map_all hz (by omega) (by omega)), (by omega), (AllC.app hC (AllC.zeros _))⟩
theorem unipoly_Normal {w : World} {Sf : Nat → Prop} {Af : Option Addr} {nf cf Mf : Nat} {lf : List RI} (hf : PolyR w Sf Af nf cf lf Mf) (hnf : nf ≤ 1048576) (hMf : Mf ≤ 1073741824) : Calls Tryz.prog 97 #[(.slice Af nf cf)] w (Ret fun v w' => ∃ (qr : Nat) (nr : Nat) (lr : List RI), v = (.slice (some ⟨qr, 0, none⟩) nr nr) ∧ Ext w w' ∧ (fun b => w.heap.size ≤ b) qr ∧ Blk w' qr 25 (cellsI lr) ∧ AllN w' (fun b => qr < b) (Mf) lr ∧ lr.length = nr ∧ nr ≤ 9223372036854775807 ∧ (zs lr = trimZ (zs lf)) ∧ (nr ≤ nf) ∧ (AllC lr)) := by
  have ⟨kf, jf, mf⟩ := hf.lkm
  replace hf := hf.low
  refine enter Tryz.func97 rfl Tryz.ntmps97 rfl (rS fun K1 hK1 => sAs rfl (sK hK1 (rS fun K2 hK2 => sMs rfl (sO (oCall rfl call49 (unipoly_trim hf) rfl ?_)))))
  rintro _ w4 ⟨Ar_3, nr_3, cr_3, lr_3, rfl, hE5, hr_3, e_3, le_3⟩
  have hz6 := hE5.size
  have ⟨kr_3, jr_3, mr_3⟩ := hr_3.lkm
  refine sO (oCall rfl call50 (unipoly_transform_Normal hr_3 (by omega) (by omega)) rfl ?_)
  rintro _ w9 ⟨qr_8, nr_8, lr_8, rfl, hE10, hgr_8, Br_8, hAr_8, kr_8, mr_8, e_8, ln_8, cn_8⟩
  have hz11 := hE10.size
  have hhr_8 : w4.heap.size ≤ qr_8 := hgr_8; have ltr_8 := Br_8.lt
  refine sAs rfl (sK hK2 (wp_ret (ret1 (.slice (some ⟨qr_8, 0, none⟩) nr_8 nr_8) Tryz.results97 (resT rfl) ?_)))
  have hR13 := hE5.trans hE10
  exact ⟨qr_8, nr_8, lr_8, rfl, hR13, (by show _ ≤ _; omega), Br_8, (AllN.le (AllN.sub hAr_8 q5) (by omega)), (by exact lq), (by omega), (by rw [e_8, e_3, zs_trim, map_id2]), (by omega), cn_8⟩
theorem unipoly_Scale {w : World} {Sf : Nat → Prop} {Af : Option Addr} {nf cf Mf : Nat} {lf : List RI} {gc : Bool} {Sc : Nat → Prop} {Ac : Option Addr} {nc cc : Nat} {dc : List Nat} (hf : PolyR w Sf Af nf cf lf Mf) (hc : NatR w Sc Ac nc cc dc) (hnf : nf ≤ 1048576) (hMf : Mf ≤ 1073741824) (hnc : nc ≤ 1073741824) : Calls Tryz.prog 16 #[(.slice Af nf cf), (.agg #[(.bool gc), (.slice Ac nc cc)])] w (Ret fun v w' => ∃ (Ar : Option Addr) (nr : Nat) (cr : Nat) (lr : List RI), v = (.slice Ar nr cr) ∧ Ext w w' ∧ PolyR w' (fun b => w.heap.size ≤ b) Ar nr cr lr (Mf + nc) ∧ (zs lr = trimZ (scaleP (zs lf) (zval gc dc))) ∧ (nr ≤ nf) ∧ (AllC lr)) := by
  have ⟨kf, jf, mf⟩ := hf.lkm
  replace hf := hf.low
  have ⟨lc, kc, mc⟩ := hc.lkm
  replace hc := hc.low
  refine enter Tryz.func16 rfl Tryz.ntmps16 rfl (rS fun K1 hK1 => sO (oBox [(.bool gc), (.slice Ac nc cc)] rfl rfl (fun g2 w3 hg4 hE5 hz6 hB7 => sAs rfl (sK hK1 (rS fun K8 hK8 => sMs rfl (sV (v := (.func (.func 51) #[] #[(.pointer (some ⟨g2, 0, none⟩))])) (evK (by kernel_rfl)) ?_))))))
  have h9 := (hf.ext hE5)
  have h10 := (hc.ext hE5)
  refine sO (oCall rfl call50 (unipoly_transform_Scale h9 hB7 h10 (by omega) (by omega) (by omega)) rfl ?_)
  rintro _ w12 ⟨Ar_11, nr_11, cr_11, lr_11, rfl, hE13, hr_11, e_11, ln_11, cn_11⟩
  have hz14 := hE13.size
  have ⟨kr_11, jr_11, mr_11⟩ := hr_11.lkm
  refine sO (oCall rfl call49 (unipoly_trim hr_11) rfl ?_)
  rintro _ w17 ⟨Ar_16, nr_16, cr_16, lr_16, rfl, hE18, hr_16, e_16, le_16⟩
  have hz19 := hE18.size
  have ⟨kr_16, jr_16, mr_16⟩ := hr_16.lkm
  refine sAs rfl (sK hK8 (wp_ret (ret1 (.slice Ar_16 nr_16 cr_16) Tryz.results16 (resT rfl) ?_)))
  have hR21 := (hE5.trans hE13).trans hE18
  exact ⟨Ar_16, nr_16, cr_16, lr_16, rfl, hR21, (PolyR.le (PolyR.sub hr_16 q5) (by omega)), (by rw [e_16, zs_trim, e_11, scale_comm]), (by omega), (by rw [e_16]; exact cn_11.trim)⟩
theorem unipoly_Degree {w : World} {Sf : Nat → Prop} {Af : Option Addr} {nf cf Mf : Nat} {lf : List RI} (hf : PolyR w Sf Af nf cf lf Mf) (hnf : nf ≤ 1048576) (hMf : Mf ≤ 1073741824) : Calls Tryz.prog 32 #[(.slice Af nf cf)] w (Ret fun v w' => ∃ (xr : Int), v = (.int .i64 (xr)) ∧ Ext w w' ∧ (xr = ((trimZ (zs lf)).length : Int) - 1)) := by
  have ⟨kf, jf, mf⟩ := hf.lkm
  replace hf := hf.low
  refine enter Tryz.func32 rfl Tryz.ntmps32 rfl (rS fun K1 hK1 => sAi rfl (sK hK1 (rS fun K2 hK2 => sMs rfl (sO (oCall rfl call49 (unipoly_trim hf) rfl ?_)))))
  rintro _ w4 ⟨Ar_3, nr_3, cr_3, lr_3, rfl, hE5, hr_3, e_3, le_3⟩
  have hz6 := hE5.size
  have ⟨kr_3, jr_3, mr_3⟩ := hr_3.lkm
  refine sV (evLen Tryz.underlying39 rfl) (sV (evSub (((nr_3 : Int)) - 1) rfl rfl wI) (sAi rfl (sK hK2 (wp_ret (ret1 (.int .i64 (((nr_3 : Int)) - 1)) Tryz.results32 (resT rfl) ?_)))))
  exact ⟨(((nr_3 : Int)) - 1), rfl, hE5, (by rw [← zs_trim, ← e_3, zlen]; omega)⟩
theorem unipoly_Lead {w : World} {Sf : Nat → Prop} {Af : Option Addr} {nf cf Mf : Nat} {lf : List RI} (hf : PolyR w Sf Af nf cf lf Mf) (hnf : nf ≤ 1048576) (hMf : Mf ≤ 1073741824) : Calls Tryz.prog 41 #[(.slice Af nf cf)] w (Ret fun v w' => ∃ (gr : Bool) (Ar : Option Addr) (nr : Nat) (cr : Nat) (dr : List Nat), v = (.agg #[(.bool gr), (.slice Ar nr cr)]) ∧ Ext w w' ∧ NatR w' (fun b => w.heap.size ≤ b) Ar nr cr dr ∧ (zval gr dr = coI (trimZ (zs lf)) (((trimZ (zs lf)).length : Int) - 1)) ∧ (ICan gr dr) ∧ (nr ≤ Mf)) := by
  have ⟨kf, jf, mf⟩ := hf.lkm
  replace hf := hf.low
  refine enter Tryz.func41 rfl Tryz.ntmps41 rfl (rS fun K1 hK1 => sO (oAlloc [(.bool false), (.slice none 0 0)] zero25 rfl (fun g2 w3 hg4 hE5 hz6 hB7 => sK hK1 (rS fun K8 hK8 => sMs rfl ?_))))
  have h9 := (hf.ext hE5)
  refine sO (oCall rfl call49 (unipoly_trim h9) rfl ?_)
  rintro _ w11 ⟨Ar_10, nr_10, cr_10, lr_10, rfl, hE12, hr_10, e_10, le_10⟩
  have hz13 := hE12.size
  have ⟨kr_10, jr_10, mr_10⟩ := hr_10.lkm
  refine sAs rfl (sK hK8 (wp_seq_k fun K15 hK15 => rS fun K16 hK16 => sMs rfl (sV (evLen Tryz.underlying39 rfl) ?_)))
  by_cases hc17 : ((nr_10 : Int)) = 0
  · refine sV (evEql true rfl rfl (dT hc17)) (sK hK16 (cT rfl (rS fun K18 hK18 => sV (v := (.agg #[(.bool false), (.slice none 0 0)])) (evK (by kernel_rfl)) ?_)))
    have hB19 := (hB7.ext hE12)
    refine sO (oStore [(.bool false), (.slice none 0 0)] rfl rfl rfl sz25 rfl hB19 (Nat.le_of_ble_eq_true rfl) (fun w20 hU21 hz22 hB23 => ?_))
    replace hB23 : Blk w20 g2 25 [(.bool false), (.slice none 0 0)] := hB23
    refine sK hK18 (wp_ret (xR (ret1 (.agg #[(.bool false), (.slice none 0 0)]) Tryz.results41 (resB [(.bool false), (.slice none 0 0)] agg25 sz25 rfl hB23) ?_)))
    have hR24 := (hE5.trans hE12).rx hU21
    exact ⟨false, none, 0, 0, ([]), rfl, (Frm.mono hR24 q4), NatR.nil, (by rw [zval_nil]; exact coI_out (.inl (by rw [← zs_trim, ← e_10, zlen]; omega))), ICan.zero, (by omega)⟩
  · refine sV (evEql false rfl rfl (dF hc17)) (sK hK16 (cF rfl (wp_skip (xN (hK15 _ _ (rS fun K25 hK25 => sMs rfl (sMs rfl (sV (evLen Tryz.underlying39 rfl) (sV (evSub (((nr_10 : Int)) - 1) rfl rfl wI) ?_)))))))))
    obtain ⟨b26, o27, rfl⟩ := hr_10.base (by omega)
    refine sV (evIx (nr_10 - 1) Tryz.underlying39 sz25 rfl rfl (o27 + ((nr_10 - 1) * 2))) ?_
    obtain ⟨g_28, A_28, n_28, c_28, d_28, he_28, hp_28, hq_28, h_28, hM_28, hS_28, hb_28, z_28⟩ := hr_10.at_ (i := nr_10 - 1) (by omega)
    have ⟨l_28, k_28, m_28⟩ := h_28.lkm
    refine sV (evLoadA [(.bool g_28), (.slice A_28 n_28 c_28)] agg25 sz25 rfl (cell2 hp_28 hq_28)) (sO (oCall rfl call85 (integer_Normal h_28 (by omega)) rfl ?_))
    rintro _ w31 ⟨gr_30, Ar_30, nr_30, cr_30, dr_30, rfl, hE32, hr_30, v_30, cn_30, le_30⟩
    have hz33 := hE32.size
    have ⟨lr_30, kr_30, mr_30⟩ := hr_30.lkm
    have hR35 := hE12.trans hE32
    have hB36 := (hB7.ext hR35)
    refine sO (oStore [(.bool gr_30), (.slice Ar_30 nr_30 cr_30)] rfl rfl rfl sz25 rfl hB36 (Nat.le_of_ble_eq_true rfl) (fun w37 hU38 hz39 hB40 => ?_))
    replace hB40 : Blk w37 g2 25 [(.bool gr_30), (.slice Ar_30 nr_30 cr_30)] := hB40
    refine sK hK25 (wp_ret (ret1 (.agg #[(.bool gr_30), (.slice Ar_30 nr_30 cr_30)]) Tryz.results41 (resB [(.bool gr_30), (.slice Ar_30 nr_30 cr_30)] agg25 sz25 rfl hB40) ?_))
    have h41 := (hr_30.frmB hU38 q3)
    have hR42 := ((hE5.trans hE12).trans hE32).rx hU38
    exact ⟨gr_30, Ar_30, nr_30, cr_30, dr_30, rfl, (Frm.mono hR42 q4), (NatR.sub h41 q5), (by rw [v_30, z_28, ← zs_trim, ← e_10, zlen, kr_10, show ((nr_10 : Int) - 1) = ((nr_10 - 1 : Nat) : Int) by omega, coI_nat]), cn_30, (by omega)⟩
set_option maxHeartbeats 2000000 in
theorem unipoly_Pow {w : World} {Sf : Nat → Prop} {Af : Option Addr} {nf cf Mf : Nat} {lf : List RI} {xn : Int} (hf : PolyR w Sf Af nf cf lf Mf) (hnf : nf ≤ 64) (hMf : Mf ≤ 65536) (hxn : xn ≤ 127) : Calls Tryz.prog 98 #[(.slice Af nf cf), (.int .i64 (xn))] w (Ret fun v w' => ∃ (Ar : Option Addr) (nr : Nat) (cr : Nat) (lr : List RI), v = (.slice Ar nr cr) ∧ Ext w w' ∧ PolyR w' (fun b => w.heap.size ≤ b) Ar nr cr lr (33554432) ∧ (zs lr = trimZ (ppow (zs lf) xn.toNat)) ∧ (nr ≤ 16384) ∧ (AllC lr)) := by
  have ⟨kf, jf, mf⟩ := hf.lkm
  replace hf := hf.low
  refine enter Tryz.func98 rfl Tryz.ntmps98 rfl (rS fun K1 hK1 => sAs rfl (sK hK1 (rS fun K2 hK2 => sO (oBuildSlice [(.int .i64 (1))] [[(.int .i64 (1))]] Tryz.underlying82 inf2 rfl rfl rfl rfl rfl (fun g3 w4 hg5 hE6 hz7 hB8 => ?_)))))
  replace hB8 : Blk w4 g3 2 [(.int .i64 (1))] := hB8
  refine sO (oCall rfl call17 (unipoly_Of (IntsR.of_blk (S := fun b => b = g3) (n := 1) (c := 1) (xs := [1]) hB8 rfl (by decide) rfl (Nat.le_refl _) (by decide)) (by omega)) rfl ?_)
  rintro _ w10 ⟨Ar_9, nr_9, cr_9, lr_9, rfl, hE11, hr_9, e_9, le_9, cn_9⟩
  have hz12 := hE11.size
  have ⟨kr_9, jr_9, mr_9⟩ := hr_9.lkm
  refine sMs rfl ?_
  have hR14 := hE6.trans hE11
  have h15 := (hf.ext hR14)
  refine sO (oCall rfl call97 (unipoly_Normal h15 (by omega) (by omega)) rfl ?_)
  rintro _ w17 ⟨qr_16, nr_16, lr_16, rfl, hE18, hgr_16, Br_16, hAr_16, kr_16, mr_16, e_16, ln_16, cn_16⟩
  have hz19 := hE18.size
  have hhr_16 : w10.heap.size ≤ qr_16 := hgr_16; have ltr_16 := Br_16.lt
  refine sAs rfl (sAs rfl (sK hK2 (wp_seq_k fun K21 hK21 => wp_block ?_)))
  have h23 := (hr_9.ext hE18)
  have h24 : PolyR w17 (fun b => qr_16 ≤ b) (some ⟨qr_16, 0, none⟩) nr_16 nr_16 (lr_16) ((Mf)) := PolyR.of_blk Br_16 (AllN.sub hAr_16 q5) (by (try dsimp only); omega) (by exact lq) (by omega) (by unfold CapMax; omega)
  refine lLoop (fun m e w_ => ∃ (y : Int) (u : Nat) (a : Nat) (b : Nat) (Ar : Option Addr) (nR : Nat) (cr : Nat) (lR : List RI) (As : Option Addr) (nS : Nat) (cs : Nat) (lS : List RI), m = u ∧ e 1 = (.int .i64 (y)) ∧ e 5 = (.slice Ar nR cr) ∧ e 6 = (.slice As nS cs) ∧ Frm (fun b => False) w17 w_ ∧ (u = y.toNat) ∧ (PowI u a b) ∧ (nR ≤ 64 * a + 1) ∧ (nS ≤ 64 * b) ∧ (PolyR w_ (fun b => w.heap.size ≤ b) Ar nR cr lR (2 + 131072 * a)) ∧ (PolyR w_ (fun b => w.heap.size ≤ b) As nS cs lS (131072 * b - 65536)) ∧ (AllC lR) ∧ (Canon isZI (zs lR)) ∧ (trimZ (pmul (zs lR) (ppow (zs lS) u)) = trimZ (ppow (zs lf) xn.toNat))) ((xn.toNat)) ?_ ?_
  · refine ⟨(xn), (xn.toNat), (0), (1), (Ar_9), (nr_9), (cr_9), (lr_9), ((some ⟨qr_16, 0, none⟩)), (nr_16), (nr_16), (lr_16), rfl, cI, rfl, rfl, (Frm.refl _ _), ?_, ?_, ?_, ?_, ?_, ?_, ?_, ?_, ?_⟩
    · omega
    · exact PowI.start (by omega)
    · omega
    · omega
    · exact PolyR.le (PolyR.sub h23 q5) (by omega)
    · exact PolyR.le (PolyR.sub h24 q5) (by omega)
    · exact cn_9
    · rw [e_9]; exact canon_trim _ _
    · rw [e_9, e_16]; exact pow_init _ _
  · rintro m22 e31 w25 ⟨y, u, a, b, Ar, nR, cr, lR, As, nS, cs, lS, hm30, hs26, hs27, hs28, hF29, hu, hI, hnR, hnS, hR, hS, hC, hcR, hv⟩
    obtain ⟨r32, rfl⟩ := sq (e := e31) (t := 1) hs26
    obtain ⟨r33, rfl⟩ := sq (e := r32) (t := 5) hs27
    obtain ⟨r34, rfl⟩ := sq (e := r33) (t := 6) hs28
    have hz35 := hF29.size
    have hIb := hI.bnd; have ⟨qR, jR, mR⟩ := hR.lkm; have ⟨qS, jS, mS⟩ := hS.lkm
    refine wp_seq_k fun K36 hK36 => rS fun K37 hK37 => sMi rfl ?_
    by_cases hc38 : y > 0
    · refine sV (evGtr true rfl rfl (dT hc38)) (sK hK37 (cT rfl (wp_skip (xN (hK36 _ _ (wp_block (wp_seq_k fun K39 hK39 => rS fun K40 hK40 => sV (v := (.int .i64 ((u : Int)))) (by rw [show (u : Int) = y by omega]; rfl) (sV (v := (.int .i64 (((u % 2 : Nat) : Int)))) (evAndOne rfl rfl (by omega)) ?_))))))))
      by_cases hc41 : (((u % 2 : Nat) : Int)) ≠ 0
      · refine sV (evNeq true rfl rfl (dT hc41)) (sK hK40 (cT rfl (wp_region_lit (sMs rfl (sMs rfl (sO (oCall rfl call19 (unipoly_Mul hR hS (by omega) (by omega) (by omega) (by omega)) rfl ?_)))))))
        rintro _ w43 ⟨Ar_42, nr_42, cr_42, lr_42, rfl, hE44, hr_42, e_42, ln_42, cn_42⟩
        have hz45 := hE44.size
        have ⟨kr_42, jr_42, mr_42⟩ := hr_42.lkm
        refine sAs rfl (sK hK39 (rS fun K47 hK47 => sV (v := (.int .i64 ((u : Int)))) (by rw [show (u : Int) = y by omega]; rfl) (sV (evShr (((u / 2 ^ 1 : Nat) : Int)) rfl rfl (by omega) (shrE (x := u) (s := 1) (by omega) (by omega) (by show _ ≤ 64; omega))) (sAi rfl (sK hK47 (rS fun K48 hK48 => sMi rfl ?_))))))
        by_cases hc49 : (((u / 2 ^ 1 : Nat) : Int)) > 0
        · refine sV (evGtr true rfl rfl (dT hc49)) (sK hK48 (cT rfl (wp_region_lit (sMs rfl (sMs rfl ?_)))))
          have h50 := (hS.ext hE44)
          refine sO (oCall rfl call19 (unipoly_Mul h50 h50 (by omega) (by omega) (by omega) (by omega)) rfl ?_)
          rintro _ w52 ⟨Ar_51, nr_51, cr_51, lr_51, rfl, hE53, hr_51, e_51, ln_51, cn_51⟩
          have hz54 := hE53.size
          have ⟨kr_51, jr_51, mr_51⟩ := hr_51.lkm
          refine sAs rfl (sDone (bN ?_))
          have hR56 := hE44.trans hE53
          have h57 := (hr_42.ext hE53)
          refine again ((u / 2 ^ 1)) (by omega) ⟨(((u / 2 ^ 1 : Nat) : Int)), (u / 2 ^ 1), (a + b), (2 * b), (Ar_42), (nr_42), (cr_42), (lr_42), (Ar_51), (nr_51), (cr_51), (lr_51), rfl, cI, rfl, rfl, (hF29.trans hR56), ?_, ?_, ?_, ?_, ?_, ?_, ?_, ?_, ?_⟩
          · omega
          · exact hI.odd (by omega)
          · omega
          · omega
          · exact PolyR.le (PolyR.sub h57 q5) (by omega)
          · exact PolyR.le (PolyR.sub hr_51 q5) (by omega)
          · exact cn_42
          · rw [e_42]; exact canon_trim _ _
          · exact pow_odd1 hv (by omega) e_42 e_51
        · refine sV (evGtr false rfl rfl (dF hc49)) (sK hK48 (cF rfl (wp_skip (bN ?_))))
          have h58 := (hS.ext hE44)
          refine again ((u / 2 ^ 1)) (by omega) ⟨(((u / 2 ^ 1 : Nat) : Int)), (u / 2 ^ 1), (a + b), (2 * b), (Ar_42), (nr_42), (cr_42), (lr_42), (As), (nS), (cs), (lS), rfl, cI, rfl, rfl, (hF29.trans hE44), ?_, ?_, ?_, ?_, ?_, ?_, ?_, ?_, ?_⟩
          · omega
          · exact hI.odd (by omega)
          · omega
          · omega
          · exact PolyR.le (PolyR.sub hr_42 q5) (by omega)
          · exact PolyR.le (PolyR.sub h58 q5) (by omega)
          · exact cn_42
          · rw [e_42]; exact canon_trim _ _
          · exact pow_last hv (by omega) (by omega) e_42
      · refine sV (evNeq false rfl rfl (dF hc41)) (sK hK40 (cF rfl (wp_skip (xN (hK39 _ _ (rS fun K59 hK59 => sV (v := (.int .i64 ((u : Int)))) (by rw [show (u : Int) = y by omega]; rfl) (sV (evShr (((u / 2 ^ 1 : Nat) : Int)) rfl rfl (by omega) (shrE (x := u) (s := 1) (by omega) (by omega) (by show _ ≤ 64; omega))) (sAi rfl (sK hK59 (rS fun K60 hK60 => sMi rfl ?_))))))))))
        by_cases hc61 : (((u / 2 ^ 1 : Nat) : Int)) > 0
        · refine sV (evGtr true rfl rfl (dT hc61)) (sK hK60 (cT rfl (wp_region_lit (sMs rfl (sMs rfl (sO (oCall rfl call19 (unipoly_Mul hS hS (by omega) (by omega) (by omega) (by omega)) rfl ?_)))))))
          rintro _ w63 ⟨Ar_62, nr_62, cr_62, lr_62, rfl, hE64, hr_62, e_62, ln_62, cn_62⟩
          have hz65 := hE64.size
          have ⟨kr_62, jr_62, mr_62⟩ := hr_62.lkm
          refine sAs rfl (sDone (bN ?_))
          have h67 := (hR.ext hE64)
          refine again ((u / 2 ^ 1)) (by omega) ⟨(((u / 2 ^ 1 : Nat) : Int)), (u / 2 ^ 1), (a + 0), (2 * b), (Ar), (nR), (cr), (lR), (Ar_62), (nr_62), (cr_62), (lr_62), rfl, cI, rfl, rfl, (hF29.trans hE64), ?_, ?_, ?_, ?_, ?_, ?_, ?_, ?_, ?_⟩
          · omega
          · exact hI.even (by omega) (by omega)
          · omega
          · omega
          · exact PolyR.le (PolyR.sub h67 q5) (by omega)
          · exact PolyR.le (PolyR.sub hr_62 q5) (by omega)
          · exact hC
          · exact hcR
          · exact pow_even1 hv (by omega) e_62
        · refine sV (evGtr false rfl rfl (dF hc61)) (sK hK60 (cF rfl (wp_skip (bN (again ((u / 2 ^ 1)) (by omega) ⟨(((u / 2 ^ 1 : Nat) : Int)), (u / 2 ^ 1), (a + 0), (2 * b), (Ar), (nR), (cr), (lR), (As), (nS), (cs), (lS), rfl, cI, rfl, rfl, hF29, ?_, ?_, ?_, ?_, ?_, ?_, ?_, ?_, ?_⟩)))))
          · omega
          · exact hI.even (by omega) (by omega)
          · omega
          · omega
          · exact PolyR.le (PolyR.sub hR q5) (by omega)
          · exact PolyR.le (PolyR.sub hS q5) (by omega)
          · exact hC
          · exact hcR
          · exfalso; omega
    · refine sV (evGtr false rfl rfl (dF hc38)) (sK hK37 (cF rfl (wp_exit (xE (xE (bE (xN (hK21 _ _ (rS fun K68 hK68 => sMs rfl (sAs rfl (sK hK68 (wp_ret (ret1 (.slice Ar nR cr) Tryz.results98 (resT rfl) ?_)))))))))))))
      have hR69 := (hR14.trans hE18).trans hF29
      exact ⟨Ar, nR, cr, lR, rfl, hR69, (PolyR.le (PolyR.sub hR q5) (by omega)), (pow_end hv (by omega) hcR), (by omega), hC⟩
end Go.Proofs.YtneolcopompkaaaGreatDoor
