/-
  Walks of package unipoly: height.
-/
import Derived.Test.YtppegjbdencefaaUni4
namespace Go.Proofs.Ytppegjbdencefaa
open Go.RowKit Go.Gx
theorem unipoly_Height {w : World} {Sf : Nat → Prop} {Af : Option Addr} {nf cf Mf : Nat} {lf : List RI} (hf : PolyR w Sf Af nf cf lf Mf) (hnf : nf ≤ 1048576) (hMf : Mf ≤ 1073741824) : Calls Try.prog 35 #[(.slice Af nf cf)] w (Ret fun v w' => ∃ (gr : Bool) (Ar : Option Addr) (nr : Nat) (cr : Nat) (dr : List Nat), v = (.agg #[(.bool gr), (.slice Ar nr cr)]) ∧ Ext w w' ∧ NatR w' (fun b => w.heap.size ≤ b) Ar nr cr dr ∧ (zval gr dr = (hgt (zs lf) : Int)) ∧ (ICan gr dr) ∧ (nr ≤ Mf)) := by
  have kf := hf.len; have jf := hf.cap; have mf := hf.max
  replace hf := hf.low
  refine enter Try.func35 rfl Try.ntmps35 rfl ?_
  refine wp_seq_k fun K1 hK1 => ?_
  refine wp_region_lit ?_
  refine sOp rfl (oAlloc [(.bool false), (.slice none 0 0)] zero46 rfl ?_)
  intro g2 w3 hg4 hE5 hz6 hB7
  refine sDone ?_
  refine xN (hK1 _ _ ?_)
  refine wp_seq_k fun K8 hK8 => ?_
  refine wp_region_lit ?_
  refine sEv (v := (.agg #[(.bool false), (.slice none 0 0)])) (evK (by kernel_rfl)) rfl rfl ?_
  refine sOp rfl (oAlloc [(.bool false), (.slice none 0 0)] zero46 rfl ?_)
  intro g9 w10 hg11 hE12 hz13 hB14
  refine sOp rfl (oStore [(.bool false), (.slice none 0 0)] rfl rfl rfl sz46 rfl hB14 (Nat.le_of_ble_eq_true rfl) ?_)
  intro w15 hU16 hz17 hB18
  replace hB18 : Blk w15 g9 46 [(.bool false), (.slice none 0 0)] := hB18
  refine sDone ?_
  refine xN (hK8 _ _ ?_)
  refine wp_seq_k fun K19 hK19 => ?_
  refine wp_seq_k fun K20 hK20 => ?_
  refine wp_region_lit ?_
  refine sEv (v := (.slice Af nf cf)) (rfl) rfl rfl ?_
  refine sEv (v := (.int .i64 ((nf : Int)))) (evLen Try.underlying23 rfl) rfl rfl ?_
  refine sEv (v := (.int .i64 (0))) (rfl) rfl rfl ?_
  refine sDone ?_
  refine xN (hK20 _ _ ?_)
  refine wp_block ?_
  refine lLoop (fun m e w_ => ∃ (k : Nat) (gh : Bool) (Ah : Option Addr) (nh : Nat) (ch : Nat) (dh : List Nat), m = nf - k ∧ e 2 = (.pointer (some ⟨g2, 0, none⟩)) ∧ e 3 = (.pointer (some ⟨g9, 0, none⟩)) ∧ e 7 = (.slice Af nf cf) ∧ e 8 = (.int .i64 ((nf : Int))) ∧ e 9 = (.int .i64 ((k : Int))) ∧ Frm (fun b => b = g9) w15 w_ ∧ Blk w_ g9 46 ([.bool gh, .slice Ah nh ch]) ∧ (k ≤ nf) ∧ (nh ≤ Mf) ∧ (NatR w_ (fun b => g9 < b) Ah nh ch dh) ∧ (zval gh dh = (hgt ((zs lf).take k) : Int)) ∧ (ICan gh dh)) (nf - (0)) ?_ ?_
  · refine ⟨(0), (false), (none), (0), (0), ([]), rfl, rfl, rfl, rfl, rfl, (congrArg (Value.int .i64) (by omega)), (Frm.refl _ _), ?_, ?_, ?_, ?_, ?_, ?_⟩
    · exact hB18
    · omega
    · omega
    · exact NatR.nil
    · rfl
    · exact ICan.zero
  · rintro m21 e31 w22 ⟨k, gh, Ah, nh, ch, dh, hm30, hs23, hs24, hs25, hs26, hs27, hF28, hB29, hk, hnh, hN, hvh, hcn⟩
    obtain ⟨r32, rfl⟩ := sq (e := e31) (t := 2) hs23
    obtain ⟨r33, rfl⟩ := sq (e := r32) (t := 3) hs24
    obtain ⟨r34, rfl⟩ := sq (e := r33) (t := 7) hs25
    obtain ⟨r35, rfl⟩ := sq (e := r34) (t := 8) hs26
    obtain ⟨r36, rfl⟩ := sq (e := r35) (t := 9) hs27
    have hz37 := hF28.size
    have lsN := hN.len; have lsC := hN.cap; have lsM := hN.max; have hv0 : val dh = hgt ((zs lf).take k) := by have := natAbs_val gh dh; omega
    refine wp_seq_k fun K38 hK38 => ?_
    refine wp_region_lit ?_
    by_cases hc39 : ((k : Int)) < ((nf : Int))
    · refine sEv (v := (.bool true)) (evLss true rfl rfl (dT hc39)) rfl rfl ?_
      refine sDone ?_
      refine xN (hK38 _ _ ?_)
      refine wp_seq_k fun K40 hK40 => ?_
      refine cT rfl ?_
      refine wp_skip ?_
      refine xN (hK40 _ _ ?_)
      refine wp_seq_k fun K41 hK41 => ?_
      refine wp_block ?_
      refine wp_seq_k fun K42 hK42 => ?_
      refine wp_region_lit ?_
      have h43 := (hf.frmB ((((Frm.of_ext (G := fun b => (b = g9)) hE5).trans (Frm.of_ext (G := fun b => (b = g9)) hE12)).trans hU16).trans hF28) q3)
      obtain ⟨b44, o45, rfl⟩ := h43.base (by omega)
      refine sEv (v := (.pointer (some ⟨b44, o45 + (k * 2), none⟩))) (evIndex k Try.underlying23 sz46 rfl rfl (by omega) (by omega) (o45 + (k * 2)) (by omega)) rfl rfl ?_
      obtain ⟨g_46, A_46, n_46, c_46, d_46, he_46, hp_46, hq_46, h_46, hM_46, hS_46, hb_46, z_46⟩ := h43.at_ (i := k) (by omega)
      have l_46 := h_46.len; have k_46 := h_46.cap; have m_46 := h_46.max
      refine sEv (v := (.agg #[(.bool g_46), (.slice A_46 n_46 c_46)])) (evLoadA [(.bool g_46), (.slice A_46 n_46 c_46)] agg46 sz46 rfl (cell2 hp_46 hq_46)) rfl rfl ?_
      refine sOp rfl (oAlloc [(.bool false), (.slice none 0 0)] zero46 rfl ?_)
      intro g48 w49 hg50 hE51 hz52 hB53
      refine sOp rfl (oStore [(.bool g_46), (.slice A_46 n_46 c_46)] rfl rfl rfl sz46 rfl hB53 (Nat.le_of_ble_eq_true rfl) ?_)
      intro w54 hU55 hz56 hB57
      replace hB57 : Blk w54 g48 46 [(.bool g_46), (.slice A_46 n_46 c_46)] := hB57
      refine sDone ?_
      refine xN (hK42 _ _ ?_)
      refine wp_seq_k fun K58 hK58 => ?_
      refine wp_region_lit ?_
      refine sEv (v := (.pointer (some ⟨g48, 1, none⟩))) (evFA 1 fa46_1 rfl rfl) rfl rfl ?_
      refine sEv (v := (.slice A_46 n_46 c_46)) (evLoadB one44 rfl hB57 rfl) rfl rfl ?_
      refine sEv (v := (.pointer (some ⟨g9, 1, none⟩))) (evFA 1 fa46_1 rfl rfl) rfl rfl ?_
      have hB59 := (hB29.frm ((Frm.of_ext (G := fun b => (b = g48)) hE51).trans hU55) q1)
      refine sEv (v := (.slice Ah nh ch)) (evLoadB one44 rfl hB59 rfl) rfl rfl ?_
      have h60 := (h_46.frmB ((Frm.of_ext (G := fun b => (b = g48)) hE51).trans hU55) q3)
      have h61 := (hN.frmB ((Frm.of_ext (G := fun b => (b = g48)) hE51).trans hU55) q3)
      refine sOp rfl (oCall rfl call76 (natural_Cmp h60 h61) rfl ?_)
      rintro _ w63 ⟨xr_62, rfl, hE64, e_62⟩
      have hz65 := hE64.size
      by_cases hc66 : xr_62 > 0
      · refine sEv (v := (.bool true)) (evGtr true rfl rfl (dT hc66)) rfl rfl ?_
        refine sDone ?_
        refine xN (hK58 _ _ ?_)
        refine cT rfl ?_
        refine wp_region_lit ?_
        have hB67 := (hB57.ext hE64)
        refine sEv (v := (.agg #[(.bool g_46), (.slice A_46 n_46 c_46)])) (evLoadAB [(.bool g_46), (.slice A_46 n_46 c_46)] agg46 sz46 rfl hB67 rfl) rfl rfl ?_
        have h68 := (h60.ext hE64)
        refine sOp rfl (oCall rfl call77 (integer_Abs h68 (by omega)) rfl ?_)
        rintro _ w70 ⟨gr_69, Ar_69, nr_69, cr_69, dr_69, rfl, hE71, hr_69, v_69, cn_69, le_69⟩
        have hz72 := hE71.size
        have lr_69 := hr_69.len; have kr_69 := hr_69.cap; have mr_69 := hr_69.max
        have hB74 := (hB59.ext (hE64.trans hE71))
        refine sOp rfl (oStore [(.bool gr_69), (.slice Ar_69 nr_69 cr_69)] rfl rfl rfl sz46 rfl hB74 (Nat.le_of_ble_eq_true rfl) ?_)
        intro w75 hU76 hz77 hB78
        replace hB78 : Blk w75 g9 46 [(.bool gr_69), (.slice Ar_69 nr_69 cr_69)] := hB78
        refine sDone ?_
        refine bN ?_
        refine xN (hK41 _ _ ?_)
        refine wp_region_lit ?_
        refine sEv (v := (.int .i64 (((k : Int)) + 1))) (evAdd (((k : Int)) + 1) rfl rfl (wI64 (by omega))) rfl rfl ?_
        refine sEv (v := (.int .i64 (((k : Int)) + 1))) (rfl) rfl rfl ?_
        refine sDone ?_
        have h79 := (hr_69.frmB hU76 q3)
        refine again (nf - (k + 1)) (by omega) ⟨(k + 1), (gr_69), (Ar_69), (nr_69), (cr_69), (dr_69), rfl, rfl, rfl, rfl, rfl, (congrArg (Value.int .i64) (by omega)), (Frm.mono ((((((hF28.mono (G' := fun b => (b = g9) ∨ (b = g48)) fun _ _ h => .inl h).trans (Frm.of_ext (G := fun b => (b = g9) ∨ (b = g48)) hE51)).trans (hU55.mono (G' := fun b => (b = g9) ∨ (b = g48)) fun _ _ h => .inr h)).trans (Frm.of_ext (G := fun b => (b = g9) ∨ (b = g48)) hE64)).trans (Frm.of_ext (G := fun b => (b = g9) ∨ (b = g48)) hE71)).trans (hU76.mono (G' := fun b => (b = g9) ∨ (b = g48)) fun _ _ h => .inl h)) q4), ?_, ?_, ?_, ?_, ?_, ?_⟩
        · exact hB78
        · omega
        · omega
        · exact NatR.sub h79 q5
        · rw [v_69, (hgt_step hv0 (by rw [zlen]; omega) z_46 (natAbs_val _ _) e_62).1 hc66]
        · exact cn_69
      · refine sEv (v := (.bool false)) (evGtr false rfl rfl (dF hc66)) rfl rfl ?_
        refine sDone ?_
        refine xN (hK58 _ _ ?_)
        refine cF rfl ?_
        refine wp_skip ?_
        refine bN ?_
        refine xN (hK41 _ _ ?_)
        refine wp_region_lit ?_
        refine sEv (v := (.int .i64 (((k : Int)) + 1))) (evAdd (((k : Int)) + 1) rfl rfl (wI64 (by omega))) rfl rfl ?_
        refine sEv (v := (.int .i64 (((k : Int)) + 1))) (rfl) rfl rfl ?_
        refine sDone ?_
        have hB80 := (hB59.ext hE64)
        have h81 := (h61.ext hE64)
        refine again (nf - (k + 1)) (by omega) ⟨(k + 1), (gh), (Ah), (nh), (ch), (dh), rfl, rfl, rfl, rfl, rfl, (congrArg (Value.int .i64) (by omega)), (Frm.mono ((((hF28.mono (G' := fun b => (b = g9) ∨ (b = g48)) fun _ _ h => .inl h).trans (Frm.of_ext (G := fun b => (b = g9) ∨ (b = g48)) hE51)).trans (hU55.mono (G' := fun b => (b = g9) ∨ (b = g48)) fun _ _ h => .inr h)).trans (Frm.of_ext (G := fun b => (b = g9) ∨ (b = g48)) hE64)) q4), ?_, ?_, ?_, ?_, ?_, ?_⟩
        · exact hB80
        · omega
        · omega
        · exact NatR.sub h81 q5
        · exact (hgt_keep hvh ((hgt_step hv0 (by rw [zlen]; omega) z_46 (natAbs_val _ _) e_62).2 hc66) hv0)
        · exact hcn
    · refine sEv (v := (.bool false)) (evLss false rfl rfl (dF hc39)) rfl rfl ?_
      refine sDone ?_
      refine xN (hK38 _ _ ?_)
      refine wp_seq_k fun K82 hK82 => ?_
      refine cF rfl ?_
      refine wp_exit (xE (xE (bE ?_)))
      refine xN (hK19 _ _ ?_)
      refine wp_seq_k fun K83 hK83 => ?_
      refine wp_region_lit ?_
      refine sEv (v := (.agg #[(.bool gh), (.slice Ah nh ch)])) (evLoadAB [(.bool gh), (.slice Ah nh ch)] agg46 sz46 rfl hB29 rfl) rfl rfl ?_
      have hB84 := (hB7.frm (((Frm.of_ext (G := fun b => (b = g9)) hE12).trans hU16).trans hF28) q1)
      refine sOp rfl (oStore [(.bool gh), (.slice Ah nh ch)] rfl rfl rfl sz46 rfl hB84 (Nat.le_of_ble_eq_true rfl) ?_)
      intro w85 hU86 hz87 hB88
      replace hB88 : Blk w85 g2 46 [(.bool gh), (.slice Ah nh ch)] := hB88
      refine sDone ?_
      refine xN (hK83 _ _ ?_)
      refine wp_ret ?_
      refine ret1 (.agg #[(.bool gh), (.slice Ah nh ch)]) Try.results35 (resB [(.bool gh), (.slice Ah nh ch)] agg46 sz46 rfl hB88) ?_
      have h89 := (hN.frmB hU86 q3)
      exact ⟨gh, Ah, nh, ch, dh, rfl, (Frm.mono (((((Frm.of_ext (G := fun b => (b = g9) ∨ (b = g2)) hE5).trans (Frm.of_ext (G := fun b => (b = g9) ∨ (b = g2)) hE12)).trans (hU16.mono (G' := fun b => (b = g9) ∨ (b = g2)) fun _ _ h => .inl h)).trans (hF28.mono (G' := fun b => (b = g9) ∨ (b = g2)) fun _ _ h => .inl h)).trans (hU86.mono (G' := fun b => (b = g9) ∨ (b = g2)) fun _ _ h => .inr h)) q4), (NatR.sub h89 q5), (by rw [hvh, List.take_of_length_le (by rw [zlen]; omega)]), hcn, (by omega)⟩

end Go.Proofs.Ytppegjbdencefaa
