/-
  Walks of the laws of unipoly: awake, UnipolyRing.
-/
import Derived.Test.YtppegjbdencefaaUni3
namespace Go.Proofs.Ytppegjbdencefaa
open Go.RowKit Go.Gx
theorem law08_awake {w : World}    : Calls Try.prog 12 #[] w (Ret fun v w' => ∃ (gr : Bool), v = (.bool gr) ∧ Ext w w' ∧ (gr = true)) := by
  refine enter Try.func12 rfl Try.ntmps12 rfl (rS fun K1 hK1 => sAb rfl (sK hK1 (rS fun K2 hK2 => sO (oBuildSlice [(.int .i64 (1)), (.int .i64 (1))] [[(.int .i64 (1))], [(.int .i64 (1))]] Try.underlying93 inf2 rfl rfl rfl rfl rfl (fun g3 w4 hg5 hE6 hz7 hB8 => ?_)))))
  replace hB8 : Blk w4 g3 2 [(.int .i64 (1)), (.int .i64 (1))] := hB8
  refine sO (oCall rfl call25 (unipoly_Of (IntsR.of_blk (S := fun b => b = g3) (n := 2) (c := 2) (xs := [1, 1]) hB8 rfl (by decide) rfl (Nat.le_refl _) (by decide)) (by decide)) rfl ?_)
  rintro _ w10 ⟨Ar_9, nr_9, cr_9, lr_9, rfl, hE11, hr_9, e_9, le_9, cn_9⟩
  have hz12 := hE11.size
  have ⟨kr_9, jr_9, mr_9⟩ := hr_9.lkm
  refine sO (oBuildSlice [(.int .i64 (1)), (.int .i64 ((-1)))] [[(.int .i64 (1))], [(.int .i64 ((-1)))]] Try.underlying93 inf2 rfl rfl rfl rfl rfl (fun g14 w15 hg16 hE17 hz18 hB19 => ?_))
  replace hB19 : Blk w15 g14 2 [(.int .i64 (1)), (.int .i64 ((-1)))] := hB19
  refine sO (oCall rfl call25 (unipoly_Of (IntsR.of_blk (S := fun b => b = g14) (n := 2) (c := 2) (xs := [1, (-1)]) hB19 rfl (by decide) rfl (Nat.le_refl _) (by decide)) (by decide)) rfl ?_)
  rintro _ w21 ⟨Ar_20, nr_20, cr_20, lr_20, rfl, hE22, hr_20, e_20, le_20, cn_20⟩
  have hz23 := hE22.size
  have ⟨kr_20, jr_20, mr_20⟩ := hr_20.lkm
  have hR25 := hE17.trans hE22
  have h26 := (hr_9.ext hR25)
  refine sO (oCall rfl call18 (unipoly_Mul h26 hr_20 (by omega) (by omega) (by omega) (by omega)) rfl ?_)
  rintro _ w28 ⟨Ar_27, nr_27, cr_27, lr_27, rfl, hE29, hr_27, e_27, ln_27, cn_27⟩
  have hz30 := hE29.size
  have ⟨kr_27, jr_27, mr_27⟩ := hr_27.lkm
  have hl : zs lr_27 = [1, 0, -1] := by rw [e_27, e_9, e_20]; decide
  have hn3 : nr_27 = 3 := by have h := congrArg List.length hl; rw [zlen] at h; simp at h; omega
  refine sAs rfl (sK hK2 (wp_seq_k fun K32 hK32 => dBegin (fun _ => False) mixed (fun w33 hE34 hz35 => dMs 0 rfl rfl (dV 1 rfl (fun _ _ => evLen Try.underlying23 rfl) (dV 2 rfl (fun _ _ => evEql true rfl rfl (dT (by omega))) (dMb 3 rfl rfl (dEv 4 rfl (v := (.slice Ar_27 nr_27 cr_27)) (fun _ _ => rfl) rfl rfl (by kernel_rfl) ?_)))))))
  have h36 := (hr_27.ext hE34)
  obtain ⟨b37, o38, rfl⟩ := h36.base (by omega)
  refine dEv 5 rfl (v := (.pointer (some ⟨b37, o38 + (2 * 2), none⟩))) (fun _ _ => evIx 2 Try.underlying23 sz46 rfl rfl (o38 + (2 * 2))) rfl rfl (by kernel_rfl) ?_
  obtain ⟨g_39, A_39, n_39, c_39, d_39, he_39, hp_39, hq_39, h_39, hM_39, hS_39, hb_39, z_39⟩ := h36.at_ (i := 2) (by omega)
  have ⟨l_39, k_39, m_39⟩ := h_39.lkm
  refine dEv 6 rfl (v := (.agg #[(.bool g_39), (.slice A_39 n_39 c_39)])) (fun _ hf => evLoadA [(.bool g_39), (.slice A_39 n_39 c_39)] agg46 sz46 rfl (cell2F hp_39 hq_39 hf hb_39 (fun h => h))) rfl rfl (by kernel_rfl) (dOp 7 rfl rfl (by kernel_rfl) (oCall rfl call48 (integer_Of (by omega)) rfl ?_))
  rintro _ w42 ⟨gr_41, Ar_41, nr_41, cr_41, dr_41, rfl, hE43, hr_41, v_41, cn_41, le_41⟩
  refine ⟨(Frm.of_ext hE43), ?_⟩
  have hz44 := hE43.size
  have ⟨lr_41, kr_41, mr_41⟩ := hr_41.lkm
  have h46 := (h_39.ext hE43)
  refine dOp 8 rfl rfl (by kernel_rfl) (oCall rfl call64 (integer_Same h46 hr_41) rfl ?_)
  rintro _ w48 ⟨gr_47, rfl, hE49, e_47⟩
  refine ⟨(Frm.of_ext hE49), ?_⟩
  have hz50 := hE49.size
  obtain rfl : gr_47 = true := by rw [e_47, z_39, v_41, hl]; rfl
  refine dV 9 rfl (v := (.bool true)) (fun _ _ => rfl) (dMb 10 rfl rfl (dEv 11 rfl (v := (.slice (some ⟨b37, o38, none⟩) nr_27 cr_27)) (fun _ _ => rfl) rfl rfl (by kernel_rfl) (dEv 12 rfl (v := (.pointer (some ⟨b37, o38 + (1 * 2), none⟩))) (fun _ _ => evIx 1 Try.underlying23 sz46 rfl rfl (o38 + (1 * 2))) rfl rfl (by kernel_rfl) ?_)))
  have hR51 := hE43.trans hE49
  have h52 := (h36.ext hR51)
  obtain ⟨g_53, A_53, n_53, c_53, d_53, he_53, hp_53, hq_53, h_53, hM_53, hS_53, hb_53, z_53⟩ := h52.at_ (i := 1) (by omega)
  have ⟨l_53, k_53, m_53⟩ := h_53.lkm
  refine dEv 13 rfl (v := (.agg #[(.bool g_53), (.slice A_53 n_53 c_53)])) (fun _ hf => evLoadA [(.bool g_53), (.slice A_53 n_53 c_53)] agg46 sz46 rfl (cell2F hp_53 hq_53 hf hb_53 (fun h => h))) rfl rfl (by kernel_rfl) (dOp 14 rfl rfl (by kernel_rfl) (oCall rfl call62 (integer_Sign h_53) rfl ?_))
  rintro _ w56 ⟨xr_55, rfl, hE57, e_55⟩
  refine ⟨(Frm.of_ext hE57), ?_⟩
  have hz58 := hE57.size
  refine dEv 15 rfl (v := (.bool true)) (fun _ _ => evEql true rfl rfl (dT (by rw [e_55, z_53, hl]; rfl))) rfl rfl (by kernel_rfl) (dV 16 rfl (v := (.bool true)) (fun _ _ => rfl) (dMb 17 rfl rfl (dEv 18 rfl (v := (.slice (some ⟨b37, o38, none⟩) nr_27 cr_27)) (fun _ _ => rfl) rfl rfl (by kernel_rfl) (dEv 19 rfl (v := (.pointer (some ⟨b37, o38 + (2 * 2), none⟩))) (fun _ _ => evIx 2 Try.underlying23 sz46 rfl rfl (o38 + (2 * 2))) rfl rfl (by kernel_rfl) (dEv 20 rfl (v := (.pointer (some ⟨b37, o38 + (2 * 2), none⟩))) (fun _ _ => evFA (o38 + (2 * 2)) fa46_0 rfl rfl) rfl rfl (by kernel_rfl) ?_)))))
  have h59 := (h52.ext hE57)
  obtain ⟨g_60, A_60, n_60, c_60, d_60, he_60, hp_60, hq_60, h_60, hM_60, hS_60, hb_60, z_60⟩ := h59.at_ (i := 2) (by omega)
  have ⟨l_60, k_60, m_60⟩ := h_60.lkm
  refine dEv 21 rfl (v := (.bool g_60)) (fun _ hf => evLoad one4 rfl ((hf.cell (p := ⟨_, _, none⟩) hb_60 (fun h => h)).trans hp_60)) rfl rfl (by kernel_rfl) ?_
  obtain rfl : g_60 = true := neg_true (z_60.trans (by rw [hl]; rfl))
  refine dV 22 rfl (v := (.bool true)) (fun _ _ => rfl) (dAb 23 rfl rfl (dDone (by kernel_rfl) (xN (hK32 _ _ (wp_ret (ret1 (.bool true) Try.results12 (resT rfl) ?_))))))
  have hR61 := (((((((hE6.trans hE11).trans hE17).trans hE22).trans hE29).trans hE34).trans hE43).trans hE49).trans hE57
  exact ⟨(true), rfl, hR61, rfl⟩

set_option maxHeartbeats 1000000 in
theorem law08_ring {w : World} {Sf : Nat → Prop} {Af : Option Addr} {nf cf Mf : Nat} {lf : List RI} {Sg : Nat → Prop} {Ag : Option Addr} {ng cg Mg : Nat} {lg : List RI} {Sq : Nat → Prop} {Aq : Option Addr} {nq cq Mq : Nat} {lq : List RI} (hf : PolyR w Sf Af nf cf lf Mf) (hg : PolyR w Sg Ag ng cg lg Mg) (hq : PolyR w Sq Aq nq cq lq Mq)  : Calls Try.prog 4 #[(.slice Af nf cf), (.slice Ag ng cg), (.slice Aq nq cq)] w (Ret fun v w' => ∃ (gr : Bool), v = (.bool gr) ∧ Ext w w' ∧ (gr = true)) := by
  have ⟨kf, jf, mf⟩ := hf.lkm
  replace hf := hf.low
  have ⟨kg, jg, mg⟩ := hg.lkm
  replace hg := hg.low
  have ⟨kq, jq, mq⟩ := hq.lkm
  replace hq := hq.low
  refine enter Try.func4 rfl Try.ntmps4 rfl (rS fun K1 hK1 => sAb rfl (sK hK1 (wp_seq_k fun K2 hK2 => rS fun K3 hK3 => sO (oCall rfl call12 (law08_awake) rfl ?_))))
  rintro _ w5 ⟨gr_4, rfl, hE6, e_4⟩
  have hz7 := hE6.size
  obtain rfl : gr_4 = true := e_4
  refine sV (evNot _ rfl rfl) (sMb rfl (sEv (v := (.slice Af nf cf)) (rfl) rfl rfl ?_))
  have h8 := (hf.ext hE6)
  refine sOp rfl (oCall rfl call13 (cylinderlaw08_Few h8) rfl ?_)
  rintro _ w10 ⟨gr_9, rfl, hE11, e_9⟩
  have hz12 := hE11.size
  refine sEv (v := (.bool (!gr_9))) (evNot _ rfl rfl) rfl rfl (sV (v := (.bool (!gr_9))) (rfl) (sMb rfl ?_))
  cases gr_9
  · refine sSkip rfl rfl (sSkip rfl rfl (sSkip rfl rfl (sV (v := (.bool true)) (rfl) (sMb rfl (sSkip rfl rfl (sSkip rfl rfl (sSkip rfl rfl (sV (v := (.bool true)) (rfl) (sK hK3 (cT rfl (rS fun K13 hK13 => sO (oCall rfl call12 (law08_awake) rfl ?_))))))))))))
    rintro _ w15 ⟨gr_14, rfl, hE16, e_14⟩
    have hz17 := hE16.size
    obtain rfl : gr_14 = true := e_14
    refine sAb rfl (sK hK13 (wp_ret (xR (ret1 (.bool true) Try.results4 (resT rfl) ?_))))
    have hR18 := (hE6.trans hE11).trans hE16
    exact ⟨(true), rfl, hR18, rfl⟩
  · refine sEv (v := (.slice Ag ng cg)) (rfl) rfl rfl ?_
    have hR19 := hE6.trans hE11
    have h20 := (hg.ext hR19)
    refine sOp rfl (oCall rfl call13 (cylinderlaw08_Few h20) rfl ?_)
    rintro _ w22 ⟨gr_21, rfl, hE23, e_21⟩
    have hz24 := hE23.size
    refine sEv (v := (.bool (!gr_21))) (evNot _ rfl rfl) rfl rfl (sV (v := (.bool (!gr_21))) (rfl) (sMb rfl ?_))
    cases gr_21
    · refine sSkip rfl rfl (sSkip rfl rfl (sSkip rfl rfl (sV (v := (.bool true)) (rfl) (sK hK3 (cT rfl (rS fun K25 hK25 => sO (oCall rfl call12 (law08_awake) rfl ?_)))))))
      rintro _ w27 ⟨gr_26, rfl, hE28, e_26⟩
      have hz29 := hE28.size
      obtain rfl : gr_26 = true := e_26
      refine sAb rfl (sK hK25 (wp_ret (xR (ret1 (.bool true) Try.results4 (resT rfl) ?_))))
      have hR30 := (hR19.trans hE23).trans hE28
      exact ⟨(true), rfl, hR30, rfl⟩
    · refine sEv (v := (.slice Aq nq cq)) (rfl) rfl rfl ?_
      have hR31 := hR19.trans hE23
      have h32 := (hq.ext hR31)
      refine sOp rfl (oCall rfl call13 (cylinderlaw08_Few h32) rfl ?_)
      rintro _ w34 ⟨gr_33, rfl, hE35, e_33⟩
      have hz36 := hE35.size
      refine sEv (v := (.bool (!gr_33))) (evNot _ rfl rfl) rfl rfl (sV (v := (.bool (!gr_33))) (rfl) (sK hK3 ?_))
      cases gr_33
      · refine cT rfl (rS fun K37 hK37 => sO (oCall rfl call12 (law08_awake) rfl ?_))
        rintro _ w39 ⟨gr_38, rfl, hE40, e_38⟩
        have hz41 := hE40.size
        obtain rfl : gr_38 = true := e_38
        refine sAb rfl (sK hK37 (wp_ret (xR (ret1 (.bool true) Try.results4 (resT rfl) ?_))))
        have hR42 := (hR31.trans hE35).trans hE40
        exact ⟨(true), rfl, hR42, rfl⟩
      · refine cF rfl (wp_skip (xN (hK2 _ _ (rS fun K43 hK43 => sMs rfl ?_))))
        have qf := e_9 rfl
        have qnf := qf.1
        have hf2 := hf.reM (M' := 2) (by intro r hr; have := qf.2 r hr; omega)
        have qg := e_21 rfl
        have qng := qg.1
        have hg2 := hg.reM (M' := 2) (by intro r hr; have := qg.2 r hr; omega)
        have qq := e_33 rfl
        have qnq := qq.1
        have hq2 := hq.reM (M' := 2) (by intro r hr; have := qq.2 r hr; omega)
        refine sMs rfl (sMs rfl ?_)
        have hR44 := hR31.trans hE35
        have h45 := (hg2.ext hR44)
        have h46 := (hq2.ext hR44)
        refine sO (oCall rfl call22 (unipoly_Add h45 h46 (by omega) (by omega) (by omega) (by omega)) rfl ?_)
        rintro _ w48 ⟨Ar_47, nr_47, cr_47, lr_47, rfl, hE49, hr_47, e_47, ln_47, cn_47⟩
        have hz50 := hE49.size
        have ⟨kr_47, jr_47, mr_47⟩ := hr_47.lkm
        have hR52 := hR44.trans hE49
        have h53 := (hf2.ext hR52)
        refine sO (oCall rfl call18 (unipoly_Mul h53 hr_47 (by omega) (by omega) (by omega) (by omega)) rfl ?_)
        rintro _ w55 ⟨Ar_54, nr_54, cr_54, lr_54, rfl, hE56, hr_54, e_54, ln_54, cn_54⟩
        have hz57 := hE56.size
        have ⟨kr_54, jr_54, mr_54⟩ := hr_54.lkm
        refine sAs rfl (sK hK43 (rS fun K59 hK59 => sMs rfl (sMs rfl ?_)))
        have h60 := (h53.ext hE56)
        have hR61 := hE49.trans hE56
        have h62 := (h45.ext hR61)
        refine sO (oCall rfl call18 (unipoly_Mul h60 h62 (by omega) (by omega) (by omega) (by omega)) rfl ?_)
        rintro _ w64 ⟨Ar_63, nr_63, cr_63, lr_63, rfl, hE65, hr_63, e_63, ln_63, cn_63⟩
        have hz66 := hE65.size
        have ⟨kr_63, jr_63, mr_63⟩ := hr_63.lkm
        refine sMs rfl (sMs rfl ?_)
        have h68 := (h60.ext hE65)
        have hR69 := hR61.trans hE65
        have h70 := (h46.ext hR69)
        refine sO (oCall rfl call18 (unipoly_Mul h68 h70 (by omega) (by omega) (by omega) (by omega)) rfl ?_)
        rintro _ w72 ⟨Ar_71, nr_71, cr_71, lr_71, rfl, hE73, hr_71, e_71, ln_71, cn_71⟩
        have hz74 := hE73.size
        have ⟨kr_71, jr_71, mr_71⟩ := hr_71.lkm
        have h76 := (hr_63.ext hE73)
        refine sO (oCall rfl call22 (unipoly_Add h76 hr_71 (by omega) (by omega) (by omega) (by omega)) rfl ?_)
        rintro _ w78 ⟨Ar_77, nr_77, cr_77, lr_77, rfl, hE79, hr_77, e_77, ln_77, cn_77⟩
        have hz80 := hE79.size
        have ⟨kr_77, jr_77, mr_77⟩ := hr_77.lkm
        refine sAs rfl (sK hK59 (rS fun K82 hK82 => sMs rfl (sMs rfl ?_)))
        have hR83 := (hE65.trans hE73).trans hE79
        have h84 := (hr_54.ext hR83)
        refine sO (oCall rfl call23 (unipoly_Same h84 hr_77) rfl ?_)
        rintro _ w86 ⟨gr_85, rfl, hE87, e_85⟩
        have hz88 := hE87.size
        obtain rfl : gr_85 = true := by rw [e_85, e_54, e_47, e_77, e_63, e_71]; exact decide_eq_true (ring1 _ _ _)
        refine sMb rfl (sEv (v := (.slice Af nf cf)) (rfl) rfl rfl (sEv (v := (.slice Ag ng cg)) (rfl) rfl rfl ?_))
        have hR89 := (hE73.trans hE79).trans hE87
        have h90 := (h68.ext hR89)
        have hR91 := hR83.trans hE87
        have h92 := (h62.ext hR91)
        refine sOp rfl (oCall rfl call18 (unipoly_Mul h90 h92 (by omega) (by omega) (by omega) (by omega)) rfl ?_)
        rintro _ w94 ⟨Ar_93, nr_93, cr_93, lr_93, rfl, hE95, hr_93, e_93, ln_93, cn_93⟩
        have hz96 := hE95.size
        have ⟨kr_93, jr_93, mr_93⟩ := hr_93.lkm
        refine sEv (v := (.slice Ag ng cg)) (rfl) rfl rfl (sEv (v := (.slice Af nf cf)) (rfl) rfl rfl ?_)
        have h98 := (h92.ext hE95)
        have h99 := (h90.ext hE95)
        refine sOp rfl (oCall rfl call18 (unipoly_Mul h98 h99 (by omega) (by omega) (by omega) (by omega)) rfl ?_)
        rintro _ w101 ⟨Ar_100, nr_100, cr_100, lr_100, rfl, hE102, hr_100, e_100, ln_100, cn_100⟩
        have hz103 := hE102.size
        have ⟨kr_100, jr_100, mr_100⟩ := hr_100.lkm
        have h105 := (hr_93.ext hE102)
        refine sOp rfl (oCall rfl call23 (unipoly_Same h105 hr_100) rfl ?_)
        rintro _ w107 ⟨gr_106, rfl, hE108, e_106⟩
        have hz109 := hE108.size
        obtain rfl : gr_106 = true := by rw [e_106, e_93, e_100]; exact decide_eq_true (ring2 _ _)
        refine sV (v := (.bool true)) (rfl) (sMb rfl (sEv (v := (.slice Af nf cf)) (rfl) rfl rfl (sEv (v := (.slice Ag ng cg)) (rfl) rfl rfl (sEv (v := (.slice Aq nq cq)) (rfl) rfl rfl ?_))))
        have hR110 := hE102.trans hE108
        have h111 := (h98.ext hR110)
        have hR112 := ((hR89.trans hE95).trans hE102).trans hE108
        have h113 := (h70.ext hR112)
        refine sOp rfl (oCall rfl call18 (unipoly_Mul h111 h113 (by omega) (by omega) (by omega) (by omega)) rfl ?_)
        rintro _ w115 ⟨Ar_114, nr_114, cr_114, lr_114, rfl, hE116, hr_114, e_114, ln_114, cn_114⟩
        have hz117 := hE116.size
        have ⟨kr_114, jr_114, mr_114⟩ := hr_114.lkm
        have hR119 := hR110.trans hE116
        have h120 := (h99.ext hR119)
        refine sOp rfl (oCall rfl call18 (unipoly_Mul h120 hr_114 (by omega) (by omega) (by omega) (by omega)) rfl ?_)
        rintro _ w122 ⟨Ar_121, nr_121, cr_121, lr_121, rfl, hE123, hr_121, e_121, ln_121, cn_121⟩
        have hz124 := hE123.size
        have ⟨kr_121, jr_121, mr_121⟩ := hr_121.lkm
        refine sEv (v := (.slice Af nf cf)) (rfl) rfl rfl (sEv (v := (.slice Ag ng cg)) (rfl) rfl rfl ?_)
        have h126 := (h120.ext hE123)
        have hR127 := hE116.trans hE123
        have h128 := (h111.ext hR127)
        refine sOp rfl (oCall rfl call18 (unipoly_Mul h126 h128 (by omega) (by omega) (by omega) (by omega)) rfl ?_)
        rintro _ w130 ⟨Ar_129, nr_129, cr_129, lr_129, rfl, hE131, hr_129, e_129, ln_129, cn_129⟩
        have hz132 := hE131.size
        have ⟨kr_129, jr_129, mr_129⟩ := hr_129.lkm
        refine sEv (v := (.slice Aq nq cq)) (rfl) rfl rfl ?_
        have hR134 := hR127.trans hE131
        have h135 := (h113.ext hR134)
        refine sOp rfl (oCall rfl call18 (unipoly_Mul hr_129 h135 (by omega) (by omega) (by omega) (by omega)) rfl ?_)
        rintro _ w137 ⟨Ar_136, nr_136, cr_136, lr_136, rfl, hE138, hr_136, e_136, ln_136, cn_136⟩
        have hz139 := hE138.size
        have ⟨kr_136, jr_136, mr_136⟩ := hr_136.lkm
        have hR141 := hE131.trans hE138
        have h142 := (hr_121.ext hR141)
        refine sOp rfl (oCall rfl call23 (unipoly_Same h142 hr_136) rfl ?_)
        rintro _ w144 ⟨gr_143, rfl, hE145, e_143⟩
        have hz146 := hE145.size
        obtain rfl : gr_143 = true := by rw [e_143, e_121, e_114, e_136, e_129]; exact decide_eq_true (ring3 _ _ _)
        refine sV (v := (.bool true)) (rfl) (sMb rfl (sEv (v := (.slice Af nf cf)) (rfl) rfl rfl (sEv (v := (.slice Ag ng cg)) (rfl) rfl rfl (sEv (v := (.slice Aq nq cq)) (rfl) rfl rfl ?_))))
        have hR147 := hR141.trans hE145
        have h148 := (h128.ext hR147)
        have hR149 := hE138.trans hE145
        have h150 := (h135.ext hR149)
        refine sOp rfl (oCall rfl call22 (unipoly_Add h148 h150 (by omega) (by omega) (by omega) (by omega)) rfl ?_)
        rintro _ w152 ⟨Ar_151, nr_151, cr_151, lr_151, rfl, hE153, hr_151, e_151, ln_151, cn_151⟩
        have hz154 := hE153.size
        have ⟨kr_151, jr_151, mr_151⟩ := hr_151.lkm
        have hR156 := hR147.trans hE153
        have h157 := (h126.ext hR156)
        refine sOp rfl (oCall rfl call22 (unipoly_Add h157 hr_151 (by omega) (by omega) (by omega) (by omega)) rfl ?_)
        rintro _ w159 ⟨Ar_158, nr_158, cr_158, lr_158, rfl, hE160, hr_158, e_158, ln_158, cn_158⟩
        have hz161 := hE160.size
        have ⟨kr_158, jr_158, mr_158⟩ := hr_158.lkm
        refine sEv (v := (.slice Af nf cf)) (rfl) rfl rfl (sEv (v := (.slice Ag ng cg)) (rfl) rfl rfl ?_)
        have h163 := (h157.ext hE160)
        have hR164 := hE153.trans hE160
        have h165 := (h148.ext hR164)
        refine sOp rfl (oCall rfl call22 (unipoly_Add h163 h165 (by omega) (by omega) (by omega) (by omega)) rfl ?_)
        rintro _ w167 ⟨Ar_166, nr_166, cr_166, lr_166, rfl, hE168, hr_166, e_166, ln_166, cn_166⟩
        have hz169 := hE168.size
        have ⟨kr_166, jr_166, mr_166⟩ := hr_166.lkm
        refine sEv (v := (.slice Aq nq cq)) (rfl) rfl rfl ?_
        have hR171 := hR164.trans hE168
        have h172 := (h150.ext hR171)
        refine sOp rfl (oCall rfl call22 (unipoly_Add hr_166 h172 (by omega) (by omega) (by omega) (by omega)) rfl ?_)
        rintro _ w174 ⟨Ar_173, nr_173, cr_173, lr_173, rfl, hE175, hr_173, e_173, ln_173, cn_173⟩
        have hz176 := hE175.size
        have ⟨kr_173, jr_173, mr_173⟩ := hr_173.lkm
        have hR178 := hE168.trans hE175
        have h179 := (hr_158.ext hR178)
        refine sOp rfl (oCall rfl call23 (unipoly_Same h179 hr_173) rfl ?_)
        rintro _ w181 ⟨gr_180, rfl, hE182, e_180⟩
        have hz183 := hE182.size
        obtain rfl : gr_180 = true := by rw [e_180, e_158, e_151, e_173, e_166]; exact decide_eq_true (ring4 _ _ _)
        refine sV (v := (.bool true)) (rfl) (sMb rfl (sEv (v := (.slice Af nf cf)) (rfl) rfl rfl (sEv (v := (.slice Af nf cf)) (rfl) rfl rfl ?_)))
        have hR184 := hR178.trans hE182
        have h185 := (h163.ext hR184)
        refine sOp rfl (oCall rfl call24 (unipoly_Sub h185 h185 (by omega) (by omega) (by omega) (by omega)) rfl ?_)
        rintro _ w187 ⟨Ar_186, nr_186, cr_186, lr_186, rfl, hE188, hr_186, e_186, ln_186, cn_186⟩
        have hz189 := hE188.size
        have ⟨kr_186, jr_186, mr_186⟩ := hr_186.lkm
        have hn0 : nr_186 = 0 := by have h := congrArg List.length (e_186.trans (ring5 _)); rw [zlen] at h; simp only [List.length_nil] at h; omega
        refine sEv (v := (.int .i64 ((nr_186 : Int)))) (evLen Try.underlying23 rfl) rfl rfl (sEv (v := (.bool true)) (evEql true rfl rfl (dT (by omega))) rfl rfl (sV (v := (.bool true)) (rfl) (sMb rfl (sEv (v := (.slice Af nf cf)) (rfl) rfl rfl (sOp rfl (oBuildSlice [(.int .i64 (1))] [[(.int .i64 (1))]] Try.underlying93 inf2 rfl rfl rfl rfl rfl (fun g191 w192 hg193 hE194 hz195 hB196 => ?_)))))))
        replace hB196 : Blk w192 g191 2 [(.int .i64 (1))] := hB196
        refine sOp rfl (oCall rfl call25 (unipoly_Of (IntsR.of_blk (S := fun b => b = g191) (n := 1) (c := 1) (xs := [1]) hB196 rfl (by decide) rfl (Nat.le_refl _) (by decide)) (by decide)) rfl ?_)
        rintro _ w198 ⟨Ar_197, nr_197, cr_197, lr_197, rfl, hE199, hr_197, e_197, le_197, cn_197⟩
        have hz200 := hE199.size
        have ⟨kr_197, jr_197, mr_197⟩ := hr_197.lkm
        have hR202 := (hE188.trans hE194).trans hE199
        have h203 := (h185.ext hR202)
        refine sOp rfl (oCall rfl call18 (unipoly_Mul h203 hr_197 (by omega) (by omega) (by omega) (by omega)) rfl ?_)
        rintro _ w205 ⟨Ar_204, nr_204, cr_204, lr_204, rfl, hE206, hr_204, e_204, ln_204, cn_204⟩
        have hz207 := hE206.size
        have ⟨kr_204, jr_204, mr_204⟩ := hr_204.lkm
        refine sEv (v := (.slice Af nf cf)) (rfl) rfl rfl ?_
        have h209 := (h203.ext hE206)
        refine sOp rfl (oCall rfl call23 (unipoly_Same hr_204 h209) rfl ?_)
        rintro _ w211 ⟨gr_210, rfl, hE212, e_210⟩
        have hz213 := hE212.size
        obtain rfl : gr_210 = true := by rw [e_210, e_204, e_197]; exact decide_eq_true (ring6 _)
        refine sV (v := (.bool true)) (rfl) (sAb rfl (sK hK82 (wp_ret (ret1 (.bool true) Try.results4 (resT rfl) ?_))))
        have hR214 := ((((((((((((((((((((((hR52.trans hE56).trans hE65).trans hE73).trans hE79).trans hE87).trans hE95).trans hE102).trans hE108).trans hE116).trans hE123).trans hE131).trans hE138).trans hE145).trans hE153).trans hE160).trans hE168).trans hE175).trans hE182).trans hE188).trans hE194).trans hE199).trans hE206).trans hE212
        exact ⟨(true), rfl, hR214, rfl⟩

end Go.Proofs.Ytppegjbdencefaa
