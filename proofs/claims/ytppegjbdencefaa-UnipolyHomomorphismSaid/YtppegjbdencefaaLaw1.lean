/-
  Walks of the laws of unipoly: awake, UnipolyRing.
-/
import Derived.Test.YtppegjbdencefaaUni3
namespace Go.Proofs.Ytppegjbdencefaa
open Go.RowKit Go.Gx
theorem law08_awake {w : World}    : Calls Try.prog 12 #[] w (Ret fun v w' => ∃ (gr : Bool), v = (.bool gr) ∧ Ext w w' ∧ (gr = true)) := by
  refine enter Try.func12 rfl Try.ntmps12 rfl ?_
  refine wp_seq_k fun K1 hK1 => ?_
  refine wp_region_lit ?_
  refine sEv (v := (.bool false)) (rfl) rfl rfl ?_
  refine sDone ?_
  refine xN (hK1 _ _ ?_)
  refine wp_seq_k fun K2 hK2 => ?_
  refine wp_region_lit ?_
  refine sOp rfl (oBuildSlice [(.int .i64 (1)), (.int .i64 (1))] [[(.int .i64 (1))], [(.int .i64 (1))]] Try.underlying93 inf2 rfl rfl rfl rfl rfl ?_)
  intro g3 w4 hg5 hE6 hz7 hB8
  replace hB8 : Blk w4 g3 2 [(.int .i64 (1)), (.int .i64 (1))] := hB8
  refine sOp rfl (oCall rfl call25 (unipoly_Of (IntsR.of_blk (S := fun b => b = g3) (n := 2) (c := 2) (xs := [1, 1]) hB8 rfl (by decide) rfl (Nat.le_refl _) (by decide)) (by decide)) rfl ?_)
  rintro _ w10 ⟨Ar_9, nr_9, cr_9, lr_9, rfl, hE11, hr_9, e_9, le_9, cn_9⟩
  have hz12 := hE11.size
  have kr_9 := hr_9.len; have jr_9 := hr_9.cap; have mr_9 := hr_9.max
  refine sOp rfl (oBuildSlice [(.int .i64 (1)), (.int .i64 ((-1)))] [[(.int .i64 (1))], [(.int .i64 ((-1)))]] Try.underlying93 inf2 rfl rfl rfl rfl rfl ?_)
  intro g14 w15 hg16 hE17 hz18 hB19
  replace hB19 : Blk w15 g14 2 [(.int .i64 (1)), (.int .i64 ((-1)))] := hB19
  refine sOp rfl (oCall rfl call25 (unipoly_Of (IntsR.of_blk (S := fun b => b = g14) (n := 2) (c := 2) (xs := [1, (-1)]) hB19 rfl (by decide) rfl (Nat.le_refl _) (by decide)) (by decide)) rfl ?_)
  rintro _ w21 ⟨Ar_20, nr_20, cr_20, lr_20, rfl, hE22, hr_20, e_20, le_20, cn_20⟩
  have hz23 := hE22.size
  have kr_20 := hr_20.len; have jr_20 := hr_20.cap; have mr_20 := hr_20.max
  have h25 := (hr_9.ext (hE17.trans hE22))
  refine sOp rfl (oCall rfl call18 (unipoly_Mul h25 hr_20 (by omega) (by omega) (by omega) (by omega)) rfl ?_)
  rintro _ w27 ⟨Ar_26, nr_26, cr_26, lr_26, rfl, hE28, hr_26, e_26, ln_26, cn_26⟩
  have hz29 := hE28.size
  have kr_26 := hr_26.len; have jr_26 := hr_26.cap; have mr_26 := hr_26.max
  have hl : zs lr_26 = [1, 0, -1] := by rw [e_26, e_9, e_20]; decide
  have hn3 : nr_26 = 3 := by have h := congrArg List.length hl; rw [zlen] at h; simp at h; omega
  refine sEv (v := (.slice Ar_26 nr_26 cr_26)) (rfl) rfl rfl ?_
  refine sDone ?_
  refine xN (hK2 _ _ ?_)
  refine wp_seq_k fun K31 hK31 => ?_
  refine dBegin (fun _ => False) mixed ?_
  intro w32 hE33 hz34
  refine dEv 0 rfl (v := (.slice Ar_26 nr_26 cr_26)) (fun _ _ => rfl) rfl rfl (by kernel_rfl) ?_
  refine dEv 1 rfl (v := (.int .i64 ((nr_26 : Int)))) (fun _ _ => evLen Try.underlying23 rfl) rfl rfl (by kernel_rfl) ?_
  refine dEv 2 rfl (v := (.bool true)) (fun _ _ => evEql true rfl rfl (dT (by omega))) rfl rfl (by kernel_rfl) ?_
  refine dEv 3 rfl (v := (.bool true)) (fun _ _ => rfl) rfl rfl (by kernel_rfl) ?_
  refine dEv 4 rfl (v := (.slice Ar_26 nr_26 cr_26)) (fun _ _ => rfl) rfl rfl (by kernel_rfl) ?_
  have h35 := (hr_26.ext hE33)
  obtain ⟨b36, o37, rfl⟩ := h35.base (by omega)
  refine dEv 5 rfl (v := (.pointer (some ⟨b36, o37 + (2 * 2), none⟩))) (fun _ _ => evIndex 2 Try.underlying23 sz46 rfl rfl (by omega) (by omega) (o37 + (2 * 2)) (by omega)) rfl rfl (by kernel_rfl) ?_
  obtain ⟨g_38, A_38, n_38, c_38, d_38, he_38, hp_38, hq_38, h_38, hM_38, hS_38, hb_38, z_38⟩ := h35.at_ (i := 2) (by omega)
  have l_38 := h_38.len; have k_38 := h_38.cap; have m_38 := h_38.max
  refine dEv 6 rfl (v := (.agg #[(.bool g_38), (.slice A_38 n_38 c_38)])) (fun _ hf => evLoadA [(.bool g_38), (.slice A_38 n_38 c_38)] agg46 sz46 rfl (cell2F hp_38 hq_38 hf hb_38 (fun h => h))) rfl rfl (by kernel_rfl) ?_
  refine dOp 7 rfl rfl (by kernel_rfl) (oCall rfl call48 (integer_Of (by omega)) rfl ?_)
  rintro _ w41 ⟨gr_40, Ar_40, nr_40, cr_40, dr_40, rfl, hE42, hr_40, v_40, cn_40, le_40⟩
  refine ⟨(Frm.of_ext hE42), ?_⟩
  have hz43 := hE42.size
  have lr_40 := hr_40.len; have kr_40 := hr_40.cap; have mr_40 := hr_40.max
  have h45 := (h_38.ext hE42)
  refine dOp 8 rfl rfl (by kernel_rfl) (oCall rfl call64 (integer_Same h45 hr_40) rfl ?_)
  rintro _ w47 ⟨gr_46, rfl, hE48, e_46⟩
  refine ⟨(Frm.of_ext hE48), ?_⟩
  have hz49 := hE48.size
  obtain rfl : gr_46 = true := by rw [e_46, z_38, v_40, hl]; rfl
  refine dEv 9 rfl (v := (.bool true)) (fun _ _ => rfl) rfl rfl (by kernel_rfl) ?_
  refine dEv 10 rfl (v := (.bool true)) (fun _ _ => rfl) rfl rfl (by kernel_rfl) ?_
  refine dEv 11 rfl (v := (.slice (some ⟨b36, o37, none⟩) nr_26 cr_26)) (fun _ _ => rfl) rfl rfl (by kernel_rfl) ?_
  refine dEv 12 rfl (v := (.pointer (some ⟨b36, o37 + (1 * 2), none⟩))) (fun _ _ => evIndex 1 Try.underlying23 sz46 rfl rfl (by omega) (by omega) (o37 + (1 * 2)) (by omega)) rfl rfl (by kernel_rfl) ?_
  have h50 := (h35.ext (hE42.trans hE48))
  obtain ⟨g_51, A_51, n_51, c_51, d_51, he_51, hp_51, hq_51, h_51, hM_51, hS_51, hb_51, z_51⟩ := h50.at_ (i := 1) (by omega)
  have l_51 := h_51.len; have k_51 := h_51.cap; have m_51 := h_51.max
  refine dEv 13 rfl (v := (.agg #[(.bool g_51), (.slice A_51 n_51 c_51)])) (fun _ hf => evLoadA [(.bool g_51), (.slice A_51 n_51 c_51)] agg46 sz46 rfl (cell2F hp_51 hq_51 hf hb_51 (fun h => h))) rfl rfl (by kernel_rfl) ?_
  refine dOp 14 rfl rfl (by kernel_rfl) (oCall rfl call62 (integer_Sign h_51) rfl ?_)
  rintro _ w54 ⟨xr_53, rfl, hE55, e_53⟩
  refine ⟨(Frm.of_ext hE55), ?_⟩
  have hz56 := hE55.size
  refine dEv 15 rfl (v := (.bool true)) (fun _ _ => evEql true rfl rfl (dT (by rw [e_53, z_51, hl]; rfl))) rfl rfl (by kernel_rfl) ?_
  refine dEv 16 rfl (v := (.bool true)) (fun _ _ => rfl) rfl rfl (by kernel_rfl) ?_
  refine dEv 17 rfl (v := (.bool true)) (fun _ _ => rfl) rfl rfl (by kernel_rfl) ?_
  refine dEv 18 rfl (v := (.slice (some ⟨b36, o37, none⟩) nr_26 cr_26)) (fun _ _ => rfl) rfl rfl (by kernel_rfl) ?_
  refine dEv 19 rfl (v := (.pointer (some ⟨b36, o37 + (2 * 2), none⟩))) (fun _ _ => evIndex 2 Try.underlying23 sz46 rfl rfl (by omega) (by omega) (o37 + (2 * 2)) (by omega)) rfl rfl (by kernel_rfl) ?_
  refine dEv 20 rfl (v := (.pointer (some ⟨b36, o37 + (2 * 2), none⟩))) (fun _ _ => evFA (o37 + (2 * 2)) fa46_0 rfl rfl) rfl rfl (by kernel_rfl) ?_
  have h57 := (h50.ext hE55)
  obtain ⟨g_58, A_58, n_58, c_58, d_58, he_58, hp_58, hq_58, h_58, hM_58, hS_58, hb_58, z_58⟩ := h57.at_ (i := 2) (by omega)
  have l_58 := h_58.len; have k_58 := h_58.cap; have m_58 := h_58.max
  refine dEv 21 rfl (v := (.bool g_58)) (fun _ hf => evLoad one4 rfl ((hf.cell (p := ⟨_, _, none⟩) hb_58 (fun h => h)).trans hp_58)) rfl rfl (by kernel_rfl) ?_
  obtain rfl : g_58 = true := neg_true (z_58.trans (by rw [hl]; rfl))
  refine dEv 22 rfl (v := (.bool true)) (fun _ _ => rfl) rfl rfl (by kernel_rfl) ?_
  refine dEv 23 rfl (v := (.bool true)) (fun _ _ => rfl) rfl rfl (by kernel_rfl) ?_
  refine dDone (by kernel_rfl) ?_
  refine xN (hK31 _ _ ?_)
  refine wp_ret ?_
  refine ret1 (.bool true) Try.results12 (resT rfl) ?_
  exact ⟨(true), rfl, ((((((((hE6.trans hE11).trans hE17).trans hE22).trans hE28).trans hE33).trans hE42).trans hE48).trans hE55), rfl⟩

set_option maxHeartbeats 1000000 in
theorem law08_ring {w : World} {Sf : Nat → Prop} {Af : Option Addr} {nf cf Mf : Nat} {lf : List RI} {Sg : Nat → Prop} {Ag : Option Addr} {ng cg Mg : Nat} {lg : List RI} {Sq : Nat → Prop} {Aq : Option Addr} {nq cq Mq : Nat} {lq : List RI} (hf : PolyR w Sf Af nf cf lf Mf) (hg : PolyR w Sg Ag ng cg lg Mg) (hq : PolyR w Sq Aq nq cq lq Mq)  : Calls Try.prog 4 #[(.slice Af nf cf), (.slice Ag ng cg), (.slice Aq nq cq)] w (Ret fun v w' => ∃ (gr : Bool), v = (.bool gr) ∧ Ext w w' ∧ (gr = true)) := by
  have kf := hf.len; have jf := hf.cap; have mf := hf.max
  replace hf := hf.low
  have kg := hg.len; have jg := hg.cap; have mg := hg.max
  replace hg := hg.low
  have kq := hq.len; have jq := hq.cap; have mq := hq.max
  replace hq := hq.low
  refine enter Try.func4 rfl Try.ntmps4 rfl ?_
  refine wp_seq_k fun K1 hK1 => ?_
  refine wp_region_lit ?_
  refine sEv (v := (.bool false)) (rfl) rfl rfl ?_
  refine sDone ?_
  refine xN (hK1 _ _ ?_)
  refine wp_seq_k fun K2 hK2 => ?_
  refine wp_seq_k fun K3 hK3 => ?_
  refine wp_region_lit ?_
  refine sOp rfl (oCall rfl call12 (law08_awake) rfl ?_)
  rintro _ w5 ⟨gr_4, rfl, hE6, e_4⟩
  have hz7 := hE6.size
  obtain rfl : gr_4 = true := e_4
  refine sEv (v := (.bool false)) (evNot _ rfl rfl) rfl rfl ?_
  refine sEv (v := (.bool false)) (rfl) rfl rfl ?_
  refine sEv (v := (.slice Af nf cf)) (rfl) rfl rfl ?_
  have h8 := (hf.ext hE6)
  refine sOp rfl (oCall rfl call13 (cylinderlaw08_Few h8) rfl ?_)
  rintro _ w10 ⟨gr_9, rfl, hE11, e_9⟩
  have hz12 := hE11.size
  refine sEv (v := (.bool (!gr_9))) (evNot _ rfl rfl) rfl rfl ?_
  refine sEv (v := (.bool (!gr_9))) (rfl) rfl rfl ?_
  refine sEv (v := (.bool (!gr_9))) (rfl) rfl rfl ?_
  cases gr_9
  · refine sSkip rfl rfl ?_
    refine sSkip rfl rfl ?_
    refine sSkip rfl rfl ?_
    refine sEv (v := (.bool true)) (rfl) rfl rfl ?_
    refine sEv (v := (.bool true)) (rfl) rfl rfl ?_
    refine sSkip rfl rfl ?_
    refine sSkip rfl rfl ?_
    refine sSkip rfl rfl ?_
    refine sEv (v := (.bool true)) (rfl) rfl rfl ?_
    refine sDone ?_
    refine xN (hK3 _ _ ?_)
    refine cT rfl ?_
    refine wp_seq_k fun K13 hK13 => ?_
    refine wp_region_lit ?_
    refine sOp rfl (oCall rfl call12 (law08_awake) rfl ?_)
    rintro _ w15 ⟨gr_14, rfl, hE16, e_14⟩
    have hz17 := hE16.size
    obtain rfl : gr_14 = true := e_14
    refine sEv (v := (.bool true)) (rfl) rfl rfl ?_
    refine sDone ?_
    refine xN (hK13 _ _ ?_)
    refine wp_ret (xR ?_)
    refine ret1 (.bool true) Try.results4 (resT rfl) ?_
    exact ⟨(true), rfl, ((hE6.trans hE11).trans hE16), rfl⟩
  · refine sEv (v := (.slice Ag ng cg)) (rfl) rfl rfl ?_
    have h18 := (hg.ext (hE6.trans hE11))
    refine sOp rfl (oCall rfl call13 (cylinderlaw08_Few h18) rfl ?_)
    rintro _ w20 ⟨gr_19, rfl, hE21, e_19⟩
    have hz22 := hE21.size
    refine sEv (v := (.bool (!gr_19))) (evNot _ rfl rfl) rfl rfl ?_
    refine sEv (v := (.bool (!gr_19))) (rfl) rfl rfl ?_
    refine sEv (v := (.bool (!gr_19))) (rfl) rfl rfl ?_
    cases gr_19
    · refine sSkip rfl rfl ?_
      refine sSkip rfl rfl ?_
      refine sSkip rfl rfl ?_
      refine sEv (v := (.bool true)) (rfl) rfl rfl ?_
      refine sDone ?_
      refine xN (hK3 _ _ ?_)
      refine cT rfl ?_
      refine wp_seq_k fun K23 hK23 => ?_
      refine wp_region_lit ?_
      refine sOp rfl (oCall rfl call12 (law08_awake) rfl ?_)
      rintro _ w25 ⟨gr_24, rfl, hE26, e_24⟩
      have hz27 := hE26.size
      obtain rfl : gr_24 = true := e_24
      refine sEv (v := (.bool true)) (rfl) rfl rfl ?_
      refine sDone ?_
      refine xN (hK23 _ _ ?_)
      refine wp_ret (xR ?_)
      refine ret1 (.bool true) Try.results4 (resT rfl) ?_
      exact ⟨(true), rfl, (((hE6.trans hE11).trans hE21).trans hE26), rfl⟩
    · refine sEv (v := (.slice Aq nq cq)) (rfl) rfl rfl ?_
      have h28 := (hq.ext ((hE6.trans hE11).trans hE21))
      refine sOp rfl (oCall rfl call13 (cylinderlaw08_Few h28) rfl ?_)
      rintro _ w30 ⟨gr_29, rfl, hE31, e_29⟩
      have hz32 := hE31.size
      refine sEv (v := (.bool (!gr_29))) (evNot _ rfl rfl) rfl rfl ?_
      refine sEv (v := (.bool (!gr_29))) (rfl) rfl rfl ?_
      refine sDone ?_
      refine xN (hK3 _ _ ?_)
      cases gr_29
      · refine cT rfl ?_
        refine wp_seq_k fun K33 hK33 => ?_
        refine wp_region_lit ?_
        refine sOp rfl (oCall rfl call12 (law08_awake) rfl ?_)
        rintro _ w35 ⟨gr_34, rfl, hE36, e_34⟩
        have hz37 := hE36.size
        obtain rfl : gr_34 = true := e_34
        refine sEv (v := (.bool true)) (rfl) rfl rfl ?_
        refine sDone ?_
        refine xN (hK33 _ _ ?_)
        refine wp_ret (xR ?_)
        refine ret1 (.bool true) Try.results4 (resT rfl) ?_
        exact ⟨(true), rfl, ((((hE6.trans hE11).trans hE21).trans hE31).trans hE36), rfl⟩
      · refine cF rfl ?_
        refine wp_skip ?_
        refine xN (hK2 _ _ ?_)
        refine wp_seq_k fun K38 hK38 => ?_
        refine wp_region_lit ?_
        refine sEv (v := (.slice Af nf cf)) (rfl) rfl rfl ?_
        have qf := e_9 rfl
        have qnf := qf.1
        have hf2 := hf.reM (M' := 2) (by intro r hr; have := qf.2 r hr; omega)
        have qg := e_19 rfl
        have qng := qg.1
        have hg2 := hg.reM (M' := 2) (by intro r hr; have := qg.2 r hr; omega)
        have qq := e_29 rfl
        have qnq := qq.1
        have hq2 := hq.reM (M' := 2) (by intro r hr; have := qq.2 r hr; omega)
        refine sEv (v := (.slice Ag ng cg)) (rfl) rfl rfl ?_
        refine sEv (v := (.slice Aq nq cq)) (rfl) rfl rfl ?_
        have h39 := (hg2.ext (((hE6.trans hE11).trans hE21).trans hE31))
        have h40 := (hq2.ext (((hE6.trans hE11).trans hE21).trans hE31))
        refine sOp rfl (oCall rfl call22 (unipoly_Add h39 h40 (by omega) (by omega) (by omega) (by omega)) rfl ?_)
        rintro _ w42 ⟨Ar_41, nr_41, cr_41, lr_41, rfl, hE43, hr_41, e_41, ln_41, cn_41⟩
        have hz44 := hE43.size
        have kr_41 := hr_41.len; have jr_41 := hr_41.cap; have mr_41 := hr_41.max
        have h46 := (hf2.ext ((((hE6.trans hE11).trans hE21).trans hE31).trans hE43))
        refine sOp rfl (oCall rfl call18 (unipoly_Mul h46 hr_41 (by omega) (by omega) (by omega) (by omega)) rfl ?_)
        rintro _ w48 ⟨Ar_47, nr_47, cr_47, lr_47, rfl, hE49, hr_47, e_47, ln_47, cn_47⟩
        have hz50 := hE49.size
        have kr_47 := hr_47.len; have jr_47 := hr_47.cap; have mr_47 := hr_47.max
        refine sEv (v := (.slice Ar_47 nr_47 cr_47)) (rfl) rfl rfl ?_
        refine sDone ?_
        refine xN (hK38 _ _ ?_)
        refine wp_seq_k fun K52 hK52 => ?_
        refine wp_region_lit ?_
        refine sEv (v := (.slice Af nf cf)) (rfl) rfl rfl ?_
        refine sEv (v := (.slice Ag ng cg)) (rfl) rfl rfl ?_
        have h53 := (h46.ext hE49)
        have h54 := (h39.ext (hE43.trans hE49))
        refine sOp rfl (oCall rfl call18 (unipoly_Mul h53 h54 (by omega) (by omega) (by omega) (by omega)) rfl ?_)
        rintro _ w56 ⟨Ar_55, nr_55, cr_55, lr_55, rfl, hE57, hr_55, e_55, ln_55, cn_55⟩
        have hz58 := hE57.size
        have kr_55 := hr_55.len; have jr_55 := hr_55.cap; have mr_55 := hr_55.max
        refine sEv (v := (.slice Af nf cf)) (rfl) rfl rfl ?_
        refine sEv (v := (.slice Aq nq cq)) (rfl) rfl rfl ?_
        have h60 := (h53.ext hE57)
        have h61 := (h40.ext ((hE43.trans hE49).trans hE57))
        refine sOp rfl (oCall rfl call18 (unipoly_Mul h60 h61 (by omega) (by omega) (by omega) (by omega)) rfl ?_)
        rintro _ w63 ⟨Ar_62, nr_62, cr_62, lr_62, rfl, hE64, hr_62, e_62, ln_62, cn_62⟩
        have hz65 := hE64.size
        have kr_62 := hr_62.len; have jr_62 := hr_62.cap; have mr_62 := hr_62.max
        have h67 := (hr_55.ext hE64)
        refine sOp rfl (oCall rfl call22 (unipoly_Add h67 hr_62 (by omega) (by omega) (by omega) (by omega)) rfl ?_)
        rintro _ w69 ⟨Ar_68, nr_68, cr_68, lr_68, rfl, hE70, hr_68, e_68, ln_68, cn_68⟩
        have hz71 := hE70.size
        have kr_68 := hr_68.len; have jr_68 := hr_68.cap; have mr_68 := hr_68.max
        refine sEv (v := (.slice Ar_68 nr_68 cr_68)) (rfl) rfl rfl ?_
        refine sDone ?_
        refine xN (hK52 _ _ ?_)
        refine wp_seq_k fun K73 hK73 => ?_
        refine wp_region_lit ?_
        refine sEv (v := (.slice Ar_47 nr_47 cr_47)) (rfl) rfl rfl ?_
        refine sEv (v := (.slice Ar_68 nr_68 cr_68)) (rfl) rfl rfl ?_
        have h74 := (hr_47.ext ((hE57.trans hE64).trans hE70))
        refine sOp rfl (oCall rfl call23 (unipoly_Same h74 hr_68) rfl ?_)
        rintro _ w76 ⟨gr_75, rfl, hE77, e_75⟩
        have hz78 := hE77.size
        obtain rfl : gr_75 = true := by rw [e_75, e_47, e_41, e_68, e_55, e_62]; exact decide_eq_true (ring1 _ _ _)
        refine sEv (v := (.bool true)) (rfl) rfl rfl ?_
        refine sEv (v := (.slice Af nf cf)) (rfl) rfl rfl ?_
        refine sEv (v := (.slice Ag ng cg)) (rfl) rfl rfl ?_
        have h79 := (h60.ext ((hE64.trans hE70).trans hE77))
        have h80 := (h54.ext (((hE57.trans hE64).trans hE70).trans hE77))
        refine sOp rfl (oCall rfl call18 (unipoly_Mul h79 h80 (by omega) (by omega) (by omega) (by omega)) rfl ?_)
        rintro _ w82 ⟨Ar_81, nr_81, cr_81, lr_81, rfl, hE83, hr_81, e_81, ln_81, cn_81⟩
        have hz84 := hE83.size
        have kr_81 := hr_81.len; have jr_81 := hr_81.cap; have mr_81 := hr_81.max
        refine sEv (v := (.slice Ag ng cg)) (rfl) rfl rfl ?_
        refine sEv (v := (.slice Af nf cf)) (rfl) rfl rfl ?_
        have h86 := (h80.ext hE83)
        have h87 := (h79.ext hE83)
        refine sOp rfl (oCall rfl call18 (unipoly_Mul h86 h87 (by omega) (by omega) (by omega) (by omega)) rfl ?_)
        rintro _ w89 ⟨Ar_88, nr_88, cr_88, lr_88, rfl, hE90, hr_88, e_88, ln_88, cn_88⟩
        have hz91 := hE90.size
        have kr_88 := hr_88.len; have jr_88 := hr_88.cap; have mr_88 := hr_88.max
        have h93 := (hr_81.ext hE90)
        refine sOp rfl (oCall rfl call23 (unipoly_Same h93 hr_88) rfl ?_)
        rintro _ w95 ⟨gr_94, rfl, hE96, e_94⟩
        have hz97 := hE96.size
        obtain rfl : gr_94 = true := by rw [e_94, e_81, e_88]; exact decide_eq_true (ring2 _ _)
        refine sEv (v := (.bool true)) (rfl) rfl rfl ?_
        refine sEv (v := (.bool true)) (rfl) rfl rfl ?_
        refine sEv (v := (.slice Af nf cf)) (rfl) rfl rfl ?_
        refine sEv (v := (.slice Ag ng cg)) (rfl) rfl rfl ?_
        refine sEv (v := (.slice Aq nq cq)) (rfl) rfl rfl ?_
        have h98 := (h86.ext (hE90.trans hE96))
        have h99 := (h61.ext (((((hE64.trans hE70).trans hE77).trans hE83).trans hE90).trans hE96))
        refine sOp rfl (oCall rfl call18 (unipoly_Mul h98 h99 (by omega) (by omega) (by omega) (by omega)) rfl ?_)
        rintro _ w101 ⟨Ar_100, nr_100, cr_100, lr_100, rfl, hE102, hr_100, e_100, ln_100, cn_100⟩
        have hz103 := hE102.size
        have kr_100 := hr_100.len; have jr_100 := hr_100.cap; have mr_100 := hr_100.max
        have h105 := (h87.ext ((hE90.trans hE96).trans hE102))
        refine sOp rfl (oCall rfl call18 (unipoly_Mul h105 hr_100 (by omega) (by omega) (by omega) (by omega)) rfl ?_)
        rintro _ w107 ⟨Ar_106, nr_106, cr_106, lr_106, rfl, hE108, hr_106, e_106, ln_106, cn_106⟩
        have hz109 := hE108.size
        have kr_106 := hr_106.len; have jr_106 := hr_106.cap; have mr_106 := hr_106.max
        refine sEv (v := (.slice Af nf cf)) (rfl) rfl rfl ?_
        refine sEv (v := (.slice Ag ng cg)) (rfl) rfl rfl ?_
        have h111 := (h105.ext hE108)
        have h112 := (h98.ext (hE102.trans hE108))
        refine sOp rfl (oCall rfl call18 (unipoly_Mul h111 h112 (by omega) (by omega) (by omega) (by omega)) rfl ?_)
        rintro _ w114 ⟨Ar_113, nr_113, cr_113, lr_113, rfl, hE115, hr_113, e_113, ln_113, cn_113⟩
        have hz116 := hE115.size
        have kr_113 := hr_113.len; have jr_113 := hr_113.cap; have mr_113 := hr_113.max
        refine sEv (v := (.slice Aq nq cq)) (rfl) rfl rfl ?_
        have h118 := (h99.ext ((hE102.trans hE108).trans hE115))
        refine sOp rfl (oCall rfl call18 (unipoly_Mul hr_113 h118 (by omega) (by omega) (by omega) (by omega)) rfl ?_)
        rintro _ w120 ⟨Ar_119, nr_119, cr_119, lr_119, rfl, hE121, hr_119, e_119, ln_119, cn_119⟩
        have hz122 := hE121.size
        have kr_119 := hr_119.len; have jr_119 := hr_119.cap; have mr_119 := hr_119.max
        have h124 := (hr_106.ext (hE115.trans hE121))
        refine sOp rfl (oCall rfl call23 (unipoly_Same h124 hr_119) rfl ?_)
        rintro _ w126 ⟨gr_125, rfl, hE127, e_125⟩
        have hz128 := hE127.size
        obtain rfl : gr_125 = true := by rw [e_125, e_106, e_100, e_119, e_113]; exact decide_eq_true (ring3 _ _ _)
        refine sEv (v := (.bool true)) (rfl) rfl rfl ?_
        refine sEv (v := (.bool true)) (rfl) rfl rfl ?_
        refine sEv (v := (.slice Af nf cf)) (rfl) rfl rfl ?_
        refine sEv (v := (.slice Ag ng cg)) (rfl) rfl rfl ?_
        refine sEv (v := (.slice Aq nq cq)) (rfl) rfl rfl ?_
        have h129 := (h112.ext ((hE115.trans hE121).trans hE127))
        have h130 := (h118.ext (hE121.trans hE127))
        refine sOp rfl (oCall rfl call22 (unipoly_Add h129 h130 (by omega) (by omega) (by omega) (by omega)) rfl ?_)
        rintro _ w132 ⟨Ar_131, nr_131, cr_131, lr_131, rfl, hE133, hr_131, e_131, ln_131, cn_131⟩
        have hz134 := hE133.size
        have kr_131 := hr_131.len; have jr_131 := hr_131.cap; have mr_131 := hr_131.max
        have h136 := (h111.ext (((hE115.trans hE121).trans hE127).trans hE133))
        refine sOp rfl (oCall rfl call22 (unipoly_Add h136 hr_131 (by omega) (by omega) (by omega) (by omega)) rfl ?_)
        rintro _ w138 ⟨Ar_137, nr_137, cr_137, lr_137, rfl, hE139, hr_137, e_137, ln_137, cn_137⟩
        have hz140 := hE139.size
        have kr_137 := hr_137.len; have jr_137 := hr_137.cap; have mr_137 := hr_137.max
        refine sEv (v := (.slice Af nf cf)) (rfl) rfl rfl ?_
        refine sEv (v := (.slice Ag ng cg)) (rfl) rfl rfl ?_
        have h142 := (h136.ext hE139)
        have h143 := (h129.ext (hE133.trans hE139))
        refine sOp rfl (oCall rfl call22 (unipoly_Add h142 h143 (by omega) (by omega) (by omega) (by omega)) rfl ?_)
        rintro _ w145 ⟨Ar_144, nr_144, cr_144, lr_144, rfl, hE146, hr_144, e_144, ln_144, cn_144⟩
        have hz147 := hE146.size
        have kr_144 := hr_144.len; have jr_144 := hr_144.cap; have mr_144 := hr_144.max
        refine sEv (v := (.slice Aq nq cq)) (rfl) rfl rfl ?_
        have h149 := (h130.ext ((hE133.trans hE139).trans hE146))
        refine sOp rfl (oCall rfl call22 (unipoly_Add hr_144 h149 (by omega) (by omega) (by omega) (by omega)) rfl ?_)
        rintro _ w151 ⟨Ar_150, nr_150, cr_150, lr_150, rfl, hE152, hr_150, e_150, ln_150, cn_150⟩
        have hz153 := hE152.size
        have kr_150 := hr_150.len; have jr_150 := hr_150.cap; have mr_150 := hr_150.max
        have h155 := (hr_137.ext (hE146.trans hE152))
        refine sOp rfl (oCall rfl call23 (unipoly_Same h155 hr_150) rfl ?_)
        rintro _ w157 ⟨gr_156, rfl, hE158, e_156⟩
        have hz159 := hE158.size
        obtain rfl : gr_156 = true := by rw [e_156, e_137, e_131, e_150, e_144]; exact decide_eq_true (ring4 _ _ _)
        refine sEv (v := (.bool true)) (rfl) rfl rfl ?_
        refine sEv (v := (.bool true)) (rfl) rfl rfl ?_
        refine sEv (v := (.slice Af nf cf)) (rfl) rfl rfl ?_
        refine sEv (v := (.slice Af nf cf)) (rfl) rfl rfl ?_
        have h160 := (h142.ext ((hE146.trans hE152).trans hE158))
        refine sOp rfl (oCall rfl call24 (unipoly_Sub h160 h160 (by omega) (by omega) (by omega) (by omega)) rfl ?_)
        rintro _ w162 ⟨Ar_161, nr_161, cr_161, lr_161, rfl, hE163, hr_161, e_161, ln_161, cn_161⟩
        have hz164 := hE163.size
        have kr_161 := hr_161.len; have jr_161 := hr_161.cap; have mr_161 := hr_161.max
        have hn0 : nr_161 = 0 := by have h := congrArg List.length (e_161.trans (ring5 _)); rw [zlen] at h; simp only [List.length_nil] at h; omega
        refine sEv (v := (.int .i64 ((nr_161 : Int)))) (evLen Try.underlying23 rfl) rfl rfl ?_
        refine sEv (v := (.bool true)) (evEql true rfl rfl (dT (by omega))) rfl rfl ?_
        refine sEv (v := (.bool true)) (rfl) rfl rfl ?_
        refine sEv (v := (.bool true)) (rfl) rfl rfl ?_
        refine sEv (v := (.slice Af nf cf)) (rfl) rfl rfl ?_
        refine sOp rfl (oBuildSlice [(.int .i64 (1))] [[(.int .i64 (1))]] Try.underlying93 inf2 rfl rfl rfl rfl rfl ?_)
        intro g166 w167 hg168 hE169 hz170 hB171
        replace hB171 : Blk w167 g166 2 [(.int .i64 (1))] := hB171
        refine sOp rfl (oCall rfl call25 (unipoly_Of (IntsR.of_blk (S := fun b => b = g166) (n := 1) (c := 1) (xs := [1]) hB171 rfl (by decide) rfl (Nat.le_refl _) (by decide)) (by decide)) rfl ?_)
        rintro _ w173 ⟨Ar_172, nr_172, cr_172, lr_172, rfl, hE174, hr_172, e_172, le_172, cn_172⟩
        have hz175 := hE174.size
        have kr_172 := hr_172.len; have jr_172 := hr_172.cap; have mr_172 := hr_172.max
        have h177 := (h160.ext ((hE163.trans hE169).trans hE174))
        refine sOp rfl (oCall rfl call18 (unipoly_Mul h177 hr_172 (by omega) (by omega) (by omega) (by omega)) rfl ?_)
        rintro _ w179 ⟨Ar_178, nr_178, cr_178, lr_178, rfl, hE180, hr_178, e_178, ln_178, cn_178⟩
        have hz181 := hE180.size
        have kr_178 := hr_178.len; have jr_178 := hr_178.cap; have mr_178 := hr_178.max
        refine sEv (v := (.slice Af nf cf)) (rfl) rfl rfl ?_
        have h183 := (h177.ext hE180)
        refine sOp rfl (oCall rfl call23 (unipoly_Same hr_178 h183) rfl ?_)
        rintro _ w185 ⟨gr_184, rfl, hE186, e_184⟩
        have hz187 := hE186.size
        obtain rfl : gr_184 = true := by rw [e_184, e_178, e_172]; exact decide_eq_true (ring6 _)
        refine sEv (v := (.bool true)) (rfl) rfl rfl ?_
        refine sEv (v := (.bool true)) (rfl) rfl rfl ?_
        refine sDone ?_
        refine xN (hK73 _ _ ?_)
        refine wp_ret ?_
        refine ret1 (.bool true) Try.results4 (resT rfl) ?_
        exact ⟨(true), rfl, (((((((((((((((((((((((((((hE6.trans hE11).trans hE21).trans hE31).trans hE43).trans hE49).trans hE57).trans hE64).trans hE70).trans hE77).trans hE83).trans hE90).trans hE96).trans hE102).trans hE108).trans hE115).trans hE121).trans hE127).trans hE133).trans hE139).trans hE146).trans hE152).trans hE158).trans hE163).trans hE169).trans hE174).trans hE180).trans hE186), rfl⟩

end Go.Proofs.Ytppegjbdencefaa
