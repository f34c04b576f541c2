/-
  Walks of package unipoly: Of, Compare, Same; of the laws: awake, Few.
-/
import Derived.Test.YtppegjbdencefaaUni2
namespace Go.Proofs.Ytppegjbdencefaa
open Go.RowKit Go.Gx
theorem unipoly_Of {w : World} {Sa : Nat → Prop} {Aa : Option Addr} {na ca : Nat} {xa : List Int} (ha : IntsR w Sa Aa na ca xa) (hna : na ≤ 1048576) : Calls Try.prog 25 #[(.slice Aa na ca)] w (Ret fun v w' => ∃ (Ar : Option Addr) (nr : Nat) (cr : Nat) (lr : List RI), v = (.slice Ar nr cr) ∧ Ext w w' ∧ PolyR w' (fun b => w.heap.size ≤ b) Ar nr cr lr (2) ∧ (zs lr = trimZ xa) ∧ (nr ≤ na) ∧ (AllC lr)) := by
  have la := ha.len; have ka := ha.cap; have ma := ha.max
  replace ha := ha.low
  refine enter Try.func25 rfl Try.ntmps25 rfl ?_
  refine wp_seq_k fun K1 hK1 => ?_
  refine wp_region_lit ?_
  refine sEv (v := (.slice none 0 0)) (rfl) rfl rfl ?_
  refine sDone ?_
  refine xN (hK1 _ _ ?_)
  refine wp_seq_k fun K2 hK2 => ?_
  refine wp_region_lit ?_
  refine sEv (v := (.slice Aa na ca)) (rfl) rfl rfl ?_
  refine sEv (v := (.int .i64 ((na : Int)))) (evLen Try.underlying93 rfl) rfl rfl ?_
  refine sOp rfl (oMake2 na Try.underlying23 inf46 (congrArg (Value.int .i64) (by omega)) (congrArg (Value.int .i64) (by omega)) (by omega) (by omega) ?_)
  intro g3 w4 hg5 hE6 hz7 hB8
  have hB9 : Blk w4 g3 46 (cellsI (List.replicate na RI.zero)) := hB8
  refine sEv (v := (.slice (some ⟨g3, 0, none⟩) na na)) (rfl) rfl rfl ?_
  refine sDone ?_
  refine xN (hK2 _ _ ?_)
  refine wp_seq_k fun K10 hK10 => ?_
  refine wp_seq_k fun K11 hK11 => ?_
  refine wp_region_lit ?_
  refine sEv (v := (.slice Aa na ca)) (rfl) rfl rfl ?_
  refine sEv (v := (.int .i64 ((na : Int)))) (evLen Try.underlying93 rfl) rfl rfl ?_
  refine sEv (v := (.int .i64 (0))) (rfl) rfl rfl ?_
  refine sDone ?_
  refine xN (hK11 _ _ ?_)
  refine wp_block ?_
  refine lLoop (fun m e w_ => ∃ (k : Nat) (L : List RI), m = na - k ∧ e 3 = (.slice (some ⟨g3, 0, none⟩) na na) ∧ e 9 = (.slice Aa na ca) ∧ e 10 = (.int .i64 ((na : Int))) ∧ e 11 = (.int .i64 ((k : Int))) ∧ Frm (fun b => b = g3) w4 w_ ∧ Blk w_ g3 46 (cellsI (L ++ List.replicate (na - k) RI.zero)) ∧ (k ≤ na) ∧ (L.length = k) ∧ (AllN w_ (fun b => g3 < b) 2 L) ∧ (zs L = (List.range k).map (fun i => xa.getD i 0)) ∧ (AllC L)) (na - (0)) ?_ ?_
  · refine ⟨(0), ([]), rfl, rfl, rfl, rfl, (congrArg (Value.int .i64) (by omega)), (Frm.refl _ _), ?_, ?_, ?_, ?_, ?_, ?_⟩
    · simpa using hB9
    · omega
    · rfl
    · exact AllN.nil
    · rfl
    · exact AllC.nil
  · rintro m12 e21 w13 ⟨k, L, hm20, hs14, hs15, hs16, hs17, hF18, hB19, hk, hL, hA, hz, hC⟩
    obtain ⟨r22, rfl⟩ := sq (e := e21) (t := 3) hs14
    obtain ⟨r23, rfl⟩ := sq (e := r22) (t := 9) hs15
    obtain ⟨r24, rfl⟩ := sq (e := r23) (t := 10) hs16
    obtain ⟨r25, rfl⟩ := sq (e := r24) (t := 11) hs17
    have hz26 := hF18.size
    refine wp_seq_k fun K27 hK27 => ?_
    refine wp_region_lit ?_
    by_cases hc28 : ((k : Int)) < ((na : Int))
    · refine sEv (v := (.bool true)) (evLss true rfl rfl (dT hc28)) rfl rfl ?_
      refine sDone ?_
      refine xN (hK27 _ _ ?_)
      refine wp_seq_k fun K29 hK29 => ?_
      refine cT rfl ?_
      refine wp_skip ?_
      refine xN (hK29 _ _ ?_)
      refine wp_seq_k fun K30 hK30 => ?_
      refine wp_block ?_
      refine wp_seq_k fun K31 hK31 => ?_
      refine wp_region_lit ?_
      refine sEv (v := (.int .i64 ((k : Int)))) (rfl) rfl rfl ?_
      have h32 := (ha.frmB ((Frm.of_ext (G := fun b => (b = g3)) hE6).trans hF18) q3)
      obtain ⟨b33, o34, rfl⟩ := h32.base (by omega)
      refine sEv (v := (.pointer (some ⟨b33, o34 + k, none⟩))) (evIndex k Try.underlying93 sz2 rfl rfl (by omega) (by omega) (o34 + k) (by omega)) rfl rfl ?_
      have hr35 := h32.rng k
      refine sEv (v := (.int .i64 (xa.getD k 0))) (evLoad one2 rfl (h32.cell (by omega))) rfl rfl ?_
      refine sEv (v := (.int .i64 ((k : Int)))) (rfl) rfl rfl ?_
      refine sEv (v := (.int .i64 (xa.getD k 0))) (rfl) rfl rfl ?_
      refine sDone ?_
      refine xN (hK31 _ _ ?_)
      refine wp_region_lit ?_
      refine sEv (v := (.slice (some ⟨g3, 0, none⟩) na na)) (rfl) rfl rfl ?_
      refine sEv (v := (.int .i64 ((k : Int)))) (rfl) rfl rfl ?_
      refine sEv (v := (.int .i64 (xa.getD k 0))) (rfl) rfl rfl ?_
      refine sOp rfl (oCall rfl call48 (integer_Of (by omega)) rfl ?_)
      rintro _ w37 ⟨gr_36, Ar_36, nr_36, cr_36, dr_36, rfl, hE38, hr_36, v_36, cn_36, le_36⟩
      have hz39 := hE38.size
      have lr_36 := hr_36.len; have kr_36 := hr_36.cap; have mr_36 := hr_36.max
      refine sEv (v := (.pointer (some ⟨g3, k * 2, none⟩))) (evIndex k Try.underlying23 sz46 rfl rfl (by omega) (by omega) (k * 2) (by omega)) rfl rfl ?_
      have hB41 := (hB19.ext hE38)
      refine sOp rfl (oStore [(.bool gr_36), (.slice Ar_36 nr_36 cr_36)] rfl rfl rfl sz46 rfl hB41 (by rw [cellsI_len]; simp only [List.length_cons, List.length_nil]; exact lq) ?_)
      intro w42 hU43 hz44 hB45
      replace hB45 := (cellsI_set (l := L ++ List.replicate (na - k) RI.zero) (i := k) ⟨gr_36, Ar_36, nr_36, cr_36, dr_36⟩ (by exact lq)) ▸ hB45
      replace hB45 : Blk w42 g3 46 (cellsI ((L ++ [⟨gr_36, Ar_36, nr_36, cr_36, dr_36⟩]) ++ List.replicate (na - (k + 1)) RI.zero)) := (fillI_set hL (by omega) : (L ++ List.replicate (na - k) RI.zero).set k ⟨gr_36, Ar_36, nr_36, cr_36, dr_36⟩ = (L ++ [⟨gr_36, Ar_36, nr_36, cr_36, dr_36⟩]) ++ List.replicate (na - (k + 1)) RI.zero) ▸ hB45
      refine sDone ?_
      refine bN ?_
      refine xN (hK30 _ _ ?_)
      refine wp_region_lit ?_
      refine sEv (v := (.int .i64 (((k : Int)) + 1))) (evAdd (((k : Int)) + 1) rfl rfl (wI64 (by omega))) rfl rfl ?_
      refine sEv (v := (.int .i64 (((k : Int)) + 1))) (rfl) rfl rfl ?_
      refine sDone ?_
      have h46 := (hA.frmB ((Frm.of_ext (G := fun b => (b = g3)) hE38).trans hU43) q3)
      have h47 := (hr_36.frmB hU43 q3)
      refine again (na - (k + 1)) (by omega) ⟨(k + 1), (L ++ [⟨gr_36, Ar_36, nr_36, cr_36, dr_36⟩]), rfl, rfl, rfl, rfl, (congrArg (Value.int .i64) (by omega)), ((hF18.trans (Frm.of_ext (G := fun b => (b = g3)) hE38)).trans hU43), ?_, ?_, ?_, ?_, ?_, ?_⟩
      · exact hB45
      · omega
      · simp [hL]
      · exact AllN.snoc h46 (NatR.sub h47 q5) (by (try dsimp only); omega)
      · exact zs_snoc hz v_36
      · exact AllC.snoc hC cn_36
    · refine sEv (v := (.bool false)) (evLss false rfl rfl (dF hc28)) rfl rfl ?_
      refine sDone ?_
      refine xN (hK27 _ _ ?_)
      refine wp_seq_k fun K48 hK48 => ?_
      refine cF rfl ?_
      refine wp_exit (xE (xE (bE ?_)))
      refine xN (hK10 _ _ ?_)
      refine wp_seq_k fun K49 hK49 => ?_
      refine wp_region_lit ?_
      refine sEv (v := (.slice (some ⟨g3, 0, none⟩) na na)) (rfl) rfl rfl ?_
      have h50 : PolyR w13 (fun b => g3 ≤ b) (some ⟨g3, 0, none⟩) na na (L ++ List.replicate (na - k) RI.zero) (2) := PolyR.of_blk hB19 (AllN.app (AllN.sub hA q5) (AllN.zeros _)) (by (try dsimp only); omega) (by exact lq) (by omega) (by unfold CapMax; omega)
      refine sOp rfl (oCall rfl call68 (unipoly_trim h50) rfl ?_)
      rintro _ w52 ⟨Ar_51, nr_51, cr_51, lr_51, rfl, hE53, hr_51, e_51, le_51⟩
      have hz54 := hE53.size
      have kr_51 := hr_51.len; have jr_51 := hr_51.cap; have mr_51 := hr_51.max
      refine sEv (v := (.slice Ar_51 nr_51 cr_51)) (rfl) rfl rfl ?_
      refine sDone ?_
      refine xN (hK49 _ _ ?_)
      refine wp_ret ?_
      refine ret1 (.slice Ar_51 nr_51 cr_51) Try.results25 (resT rfl) ?_
      exact ⟨Ar_51, nr_51, cr_51, lr_51, rfl, (Frm.mono (((Frm.of_ext (G := fun b => (b = g3)) hE6).trans hF18).trans (Frm.of_ext (G := fun b => (b = g3)) hE53)) q4), (PolyR.le (PolyR.sub hr_51 q5) (by omega)), (by rw [e_51, zs_trim, show na - k = 0 by omega, List.replicate_zero, List.append_nil, hz, show k = xa.length by omega, map_getD_range]), (by omega), (by rw [e_51]; exact (AllC.app hC (AllC.zeros _)).trim)⟩

theorem unipoly_Compare {w : World} {Sa : Nat → Prop} {Aa : Option Addr} {na ca Ma : Nat} {la : List RI} {Sb : Nat → Prop} {Ab : Option Addr} {nb cb Mb : Nat} {lb : List RI} (ha : PolyR w Sa Aa na ca la Ma) (hb : PolyR w Sb Ab nb cb lb Mb)  : Calls Try.prog 46 #[(.slice Aa na ca), (.slice Ab nb cb)] w (Ret fun v w' => ∃ (xr : Int), v = (.int .i64 (xr)) ∧ Ext w w' ∧ (xr = cmpP (trimZ (zs la)) (trimZ (zs lb)))) := by
  have ka := ha.len; have ja := ha.cap; have ma := ha.max
  replace ha := ha.low
  have kb := hb.len; have jb := hb.cap; have mb := hb.max
  replace hb := hb.low
  refine enter Try.func46 rfl Try.ntmps46 rfl ?_
  refine wp_seq_k fun K1 hK1 => ?_
  refine wp_region_lit ?_
  refine sEv (v := (.int .i64 (0))) (rfl) rfl rfl ?_
  refine sDone ?_
  refine xN (hK1 _ _ ?_)
  refine wp_seq_k fun K2 hK2 => ?_
  refine wp_region_lit ?_
  refine sEv (v := (.slice Aa na ca)) (rfl) rfl rfl ?_
  refine sOp rfl (oCall rfl call68 (unipoly_trim ha) rfl ?_)
  rintro _ w4 ⟨Ar_3, nr_3, cr_3, lr_3, rfl, hE5, hr_3, e_3, le_3⟩
  have hz6 := hE5.size
  have kr_3 := hr_3.len; have jr_3 := hr_3.cap; have mr_3 := hr_3.max
  refine sEv (v := (.slice Ab nb cb)) (rfl) rfl rfl ?_
  have h8 := (hb.ext hE5)
  refine sOp rfl (oCall rfl call68 (unipoly_trim h8) rfl ?_)
  rintro _ w10 ⟨Ar_9, nr_9, cr_9, lr_9, rfl, hE11, hr_9, e_9, le_9⟩
  have hz12 := hE11.size
  have kr_9 := hr_9.len; have jr_9 := hr_9.cap; have mr_9 := hr_9.max
  refine sEv (v := (.slice Ar_3 nr_3 cr_3)) (rfl) rfl rfl ?_
  refine sEv (v := (.slice Ar_9 nr_9 cr_9)) (rfl) rfl rfl ?_
  refine sDone ?_
  refine xN (hK2 _ _ ?_)
  refine wp_seq_k fun K14 hK14 => ?_
  refine wp_block ?_
  refine wp_seq_k fun K15 hK15 => ?_
  refine wp_region_lit ?_
  refine sEv (v := (.slice Ar_3 nr_3 cr_3)) (rfl) rfl rfl ?_
  refine sEv (v := (.int .i64 ((nr_3 : Int)))) (evLen Try.underlying23 rfl) rfl rfl ?_
  refine sEv (v := (.slice Ar_9 nr_9 cr_9)) (rfl) rfl rfl ?_
  refine sEv (v := (.int .i64 ((nr_9 : Int)))) (evLen Try.underlying23 rfl) rfl rfl ?_
  by_cases hc16 : ((nr_3 : Int)) < ((nr_9 : Int))
  · refine sEv (v := (.bool true)) (evLss true rfl rfl (dT hc16)) rfl rfl ?_
    refine sEv (v := (.bool true)) (rfl) rfl rfl ?_
    refine sDone ?_
    refine xN (hK15 _ _ ?_)
    refine cT rfl ?_
    refine wp_seq_k fun K17 hK17 => ?_
    refine wp_region_lit ?_
    refine sEv (v := (.int .i64 ((-1)))) (rfl) rfl rfl ?_
    refine sDone ?_
    refine xN (hK17 _ _ ?_)
    refine wp_ret (bR (xR ?_))
    refine ret1 (.int .i64 ((-1))) Try.results46 (resT rfl) ?_
    exact ⟨((-1)), rfl, (hE5.trans hE11), (by rw [← zs_trim, ← zs_trim, ← e_3, ← e_9]; exact cmpP_lt (by simp only [zlen]; omega))⟩
  · refine sEv (v := (.bool false)) (evLss false rfl rfl (dF hc16)) rfl rfl ?_
    refine sEv (v := (.bool false)) (rfl) rfl rfl ?_
    refine sDone ?_
    refine xN (hK15 _ _ ?_)
    refine cF rfl ?_
    refine wp_seq_k fun K18 hK18 => ?_
    refine wp_region_lit ?_
    refine sEv (v := (.slice Ar_3 nr_3 cr_3)) (rfl) rfl rfl ?_
    refine sEv (v := (.int .i64 ((nr_3 : Int)))) (evLen Try.underlying23 rfl) rfl rfl ?_
    refine sEv (v := (.slice Ar_9 nr_9 cr_9)) (rfl) rfl rfl ?_
    refine sEv (v := (.int .i64 ((nr_9 : Int)))) (evLen Try.underlying23 rfl) rfl rfl ?_
    by_cases hc19 : ((nr_3 : Int)) > ((nr_9 : Int))
    · refine sEv (v := (.bool true)) (evGtr true rfl rfl (dT hc19)) rfl rfl ?_
      refine sEv (v := (.bool true)) (rfl) rfl rfl ?_
      refine sDone ?_
      refine xN (hK18 _ _ ?_)
      refine cT rfl ?_
      refine wp_seq_k fun K20 hK20 => ?_
      refine wp_region_lit ?_
      refine sEv (v := (.int .i64 (1))) (rfl) rfl rfl ?_
      refine sDone ?_
      refine xN (hK20 _ _ ?_)
      refine wp_ret (bR (xR ?_))
      refine ret1 (.int .i64 (1)) Try.results46 (resT rfl) ?_
      exact ⟨(1), rfl, (hE5.trans hE11), (by rw [← zs_trim, ← zs_trim, ← e_3, ← e_9]; exact cmpP_gt (by simp only [zlen]; omega))⟩
    · refine sEv (v := (.bool false)) (evGtr false rfl rfl (dF hc19)) rfl rfl ?_
      refine sEv (v := (.bool false)) (rfl) rfl rfl ?_
      refine sDone ?_
      refine xN (hK18 _ _ ?_)
      refine cF rfl ?_
      refine wp_skip ?_
      refine bN ?_
      refine xN (hK14 _ _ ?_)
      refine wp_seq_k fun K21 hK21 => ?_
      refine wp_seq_k fun K22 hK22 => ?_
      refine wp_region_lit ?_
      refine sEv (v := (.slice Ar_3 nr_3 cr_3)) (rfl) rfl rfl ?_
      refine sEv (v := (.int .i64 ((nr_3 : Int)))) (evLen Try.underlying23 rfl) rfl rfl ?_
      refine sEv (v := (.int .i64 (((nr_3 : Int)) - 1))) (evSub (((nr_3 : Int)) - 1) rfl rfl (wI64 (by omega))) rfl rfl ?_
      refine sEv (v := (.int .i64 (((nr_3 : Int)) - 1))) (rfl) rfl rfl ?_
      refine sDone ?_
      refine xN (hK22 _ _ ?_)
      refine wp_block ?_
      refine lLoop (fun m e w_ => ∃ (k : Nat), m = k ∧ e 0 = (.slice Ar_3 nr_3 cr_3) ∧ e 1 = (.slice Ar_9 nr_9 cr_9) ∧ e 5 = (.int .i64 ((k : Int) - 1)) ∧ Frm (fun b => False) w10 w_ ∧ (k ≤ nr_3) ∧ (cmpP (zs lr_3) (zs lr_9) = cmpTop (zs lr_3) (zs lr_9) k)) ((nr_3)) ?_ ?_
      · refine ⟨(nr_3), rfl, rfl, rfl, (congrArg (Value.int .i64) (by omega)), (Frm.refl _ _), ?_, ?_⟩
        · omega
        · exact cmpP_eq (by simp only [zlen]; omega) (by simp only [zlen]; omega)
      · rintro m23 e30 w24 ⟨k, hm29, hs25, hs26, hs27, hF28, hk, hX⟩
        obtain ⟨r31, rfl⟩ := sq (e := e30) (t := 0) hs25
        obtain ⟨r32, rfl⟩ := sq (e := r31) (t := 1) hs26
        obtain ⟨r33, rfl⟩ := sq (e := r32) (t := 5) hs27
        have hz34 := hF28.size
        refine wp_seq_k fun K35 hK35 => ?_
        refine wp_seq_k fun K36 hK36 => ?_
        refine wp_region_lit ?_
        refine sEv (v := (.int .i64 ((k : Int) - 1))) (rfl) rfl rfl ?_
        by_cases hc37 : ((k : Int) - 1) ≥ 0
        · refine sEv (v := (.bool true)) (evGeq true rfl rfl (dT hc37)) rfl rfl ?_
          refine sDone ?_
          refine xN (hK36 _ _ ?_)
          refine cT rfl ?_
          refine wp_skip ?_
          refine xN (hK35 _ _ ?_)
          refine wp_seq_k fun K38 hK38 => ?_
          refine wp_block ?_
          refine wp_seq_k fun K39 hK39 => ?_
          refine dBegin (fun _ => False) mixed ?_
          intro w40 hE41 hz42
          refine dEv 0 rfl (v := (.slice Ar_3 nr_3 cr_3)) (fun _ _ => rfl) rfl rfl (by kernel_rfl) ?_
          refine dEv 1 rfl (v := (.int .i64 ((k : Int) - 1))) (fun _ _ => rfl) rfl rfl (by kernel_rfl) ?_
          have h43 := (hr_3.ext ((hE11.trans hF28).trans hE41))
          obtain ⟨b44, o45, rfl⟩ := h43.base (by omega)
          refine dEv 2 rfl (v := (.pointer (some ⟨b44, o45 + ((k - 1) * 2), none⟩))) (fun _ _ => evIndex (k - 1) Try.underlying23 sz46 rfl rfl (by omega) (by omega) (o45 + ((k - 1) * 2)) (by omega)) rfl rfl (by kernel_rfl) ?_
          obtain ⟨g_46, A_46, n_46, c_46, d_46, he_46, hp_46, hq_46, h_46, hM_46, hS_46, hb_46, z_46⟩ := h43.at_ (i := k - 1) (by omega)
          have l_46 := h_46.len; have k_46 := h_46.cap; have m_46 := h_46.max
          refine dEv 3 rfl (v := (.agg #[(.bool g_46), (.slice A_46 n_46 c_46)])) (fun _ hf => evLoadA [(.bool g_46), (.slice A_46 n_46 c_46)] agg46 sz46 rfl (cell2F hp_46 hq_46 hf hb_46 (fun h => h))) rfl rfl (by kernel_rfl) ?_
          refine dEv 4 rfl (v := (.slice Ar_9 nr_9 cr_9)) (fun _ _ => rfl) rfl rfl (by kernel_rfl) ?_
          refine dEv 5 rfl (v := (.int .i64 ((k : Int) - 1))) (fun _ _ => rfl) rfl rfl (by kernel_rfl) ?_
          have h48 := (hr_9.ext (hF28.trans hE41))
          obtain ⟨b49, o50, rfl⟩ := h48.base (by omega)
          refine dEv 6 rfl (v := (.pointer (some ⟨b49, o50 + ((k - 1) * 2), none⟩))) (fun _ _ => evIndex (k - 1) Try.underlying23 sz46 rfl rfl (by omega) (by omega) (o50 + ((k - 1) * 2)) (by omega)) rfl rfl (by kernel_rfl) ?_
          obtain ⟨g_51, A_51, n_51, c_51, d_51, he_51, hp_51, hq_51, h_51, hM_51, hS_51, hb_51, z_51⟩ := h48.at_ (i := k - 1) (by omega)
          have l_51 := h_51.len; have k_51 := h_51.cap; have m_51 := h_51.max
          refine dEv 7 rfl (v := (.agg #[(.bool g_51), (.slice A_51 n_51 c_51)])) (fun _ hf => evLoadA [(.bool g_51), (.slice A_51 n_51 c_51)] agg46 sz46 rfl (cell2F hp_51 hq_51 hf hb_51 (fun h => h))) rfl rfl (by kernel_rfl) ?_
          refine dOp 8 rfl rfl (by kernel_rfl) (oCall rfl call82 (integer_Cmp h_46 h_51) rfl ?_)
          rintro _ w54 ⟨xr_53, rfl, hE55, e_53⟩
          refine ⟨(Frm.of_ext hE55), ?_⟩
          have hz56 := hE55.size
          refine dEv 9 rfl (v := (.int .i64 (xr_53))) (fun _ _ => rfl) rfl rfl (by kernel_rfl) ?_
          refine dDone (by kernel_rfl) ?_
          refine xN (hK39 _ _ ?_)
          refine wp_seq_k fun K57 hK57 => ?_
          refine wp_region_lit ?_
          refine sEv (v := (.int .i64 (xr_53))) (rfl) rfl rfl ?_
          by_cases hc58 : xr_53 ≠ 0
          · refine sEv (v := (.bool true)) (evNeq true rfl rfl (dT hc58)) rfl rfl ?_
            refine sDone ?_
            refine xN (hK57 _ _ ?_)
            refine cT rfl ?_
            refine wp_seq_k fun K59 hK59 => ?_
            refine wp_region_lit ?_
            refine sEv (v := (.int .i64 (xr_53))) (rfl) rfl rfl ?_
            refine sEv (v := (.int .i64 (xr_53))) (rfl) rfl rfl ?_
            refine sDone ?_
            refine xN (hK59 _ _ ?_)
            refine wp_ret (bR (xR (xR (bR (xR ?_)))))
            refine ret1 (.int .i64 (xr_53)) Try.results46 (resT rfl) ?_
            exact ⟨(xr_53), rfl, ((((hE5.trans hE11).trans hF28).trans hE41).trans hE55), (by rw [← zs_trim, ← zs_trim, ← e_3, ← e_9]; rw [cmpTop_stop hX (by omega) (by rw [← z_46, ← z_51]; intro hh; exact absurd (e_53.trans (cmpZ_eq_zero.2 hh)) (by omega)), ← z_46, ← z_51]; exact e_53)⟩
          · refine sEv (v := (.bool false)) (evNeq false rfl rfl (dF hc58)) rfl rfl ?_
            refine sDone ?_
            refine xN (hK57 _ _ ?_)
            refine cF rfl ?_
            refine wp_skip ?_
            refine bN ?_
            refine xN (hK38 _ _ ?_)
            refine wp_region_lit ?_
            refine sEv (v := (.int .i64 ((k : Int) - 1))) (rfl) rfl rfl ?_
            refine sEv (v := (.int .i64 (((k : Int) - 1) - 1))) (evSub (((k : Int) - 1) - 1) rfl rfl (wI64 (by omega))) rfl rfl ?_
            refine sEv (v := (.int .i64 (((k : Int) - 1) - 1))) (rfl) rfl rfl ?_
            refine sDone ?_
            refine again ((k - 1)) (by omega) ⟨(k - 1), rfl, rfl, rfl, (congrArg (Value.int .i64) (by omega)), ((hF28.trans hE41).trans hE55), ?_, ?_⟩
            · omega
            · exact cmpTop_down hX (by omega) (by rw [← z_46, ← z_51]; exact cmpZ_eq_zero.1 (e_53 ▸ (by omega)))
        · refine sEv (v := (.bool false)) (evGeq false rfl rfl (dF hc37)) rfl rfl ?_
          refine sDone ?_
          refine xN (hK36 _ _ ?_)
          refine cF rfl ?_
          refine wp_exit (xE (xE (bE ?_)))
          refine xN (hK21 _ _ ?_)
          refine wp_seq_k fun K60 hK60 => ?_
          refine wp_region_lit ?_
          refine sEv (v := (.int .i64 (0))) (rfl) rfl rfl ?_
          refine sDone ?_
          refine xN (hK60 _ _ ?_)
          refine wp_ret ?_
          refine ret1 (.int .i64 (0)) Try.results46 (resT rfl) ?_
          exact ⟨(0), rfl, ((hE5.trans hE11).trans hF28), (by rw [← zs_trim, ← zs_trim, ← e_3, ← e_9]; rw [hX, show k = 0 by omega]; rfl)⟩

theorem unipoly_Same {w : World} {Sa : Nat → Prop} {Aa : Option Addr} {na ca Ma : Nat} {la : List RI} {Sb : Nat → Prop} {Ab : Option Addr} {nb cb Mb : Nat} {lb : List RI} (ha : PolyR w Sa Aa na ca la Ma) (hb : PolyR w Sb Ab nb cb lb Mb)  : Calls Try.prog 23 #[(.slice Aa na ca), (.slice Ab nb cb)] w (Ret fun v w' => ∃ (gr : Bool), v = (.bool gr) ∧ Ext w w' ∧ (gr = decide (trimZ (zs la) = trimZ (zs lb)))) := by
  have ka := ha.len; have ja := ha.cap; have ma := ha.max
  replace ha := ha.low
  have kb := hb.len; have jb := hb.cap; have mb := hb.max
  replace hb := hb.low
  refine enter Try.func23 rfl Try.ntmps23 rfl ?_
  refine wp_seq_k fun K1 hK1 => ?_
  refine wp_region_lit ?_
  refine sEv (v := (.bool false)) (rfl) rfl rfl ?_
  refine sDone ?_
  refine xN (hK1 _ _ ?_)
  refine wp_seq_k fun K2 hK2 => ?_
  refine wp_region_lit ?_
  refine sEv (v := (.slice Aa na ca)) (rfl) rfl rfl ?_
  refine sEv (v := (.slice Ab nb cb)) (rfl) rfl rfl ?_
  refine sOp rfl (oCall rfl call46 (unipoly_Compare ha hb) rfl ?_)
  rintro _ w4 ⟨xr_3, rfl, hE5, e_3⟩
  have hz6 := hE5.size
  refine sEv (v := (.bool (decide (trimZ (zs la) = trimZ (zs lb))))) (evEql (decide (trimZ (zs la) = trimZ (zs lb))) rfl rfl (same_dec e_3)) rfl rfl ?_
  refine sEv (v := (.bool (decide (trimZ (zs la) = trimZ (zs lb))))) (rfl) rfl rfl ?_
  refine sDone ?_
  refine xN (hK2 _ _ ?_)
  refine wp_ret ?_
  refine ret1 (.bool (decide (trimZ (zs la) = trimZ (zs lb)))) Try.results23 (resT rfl) ?_
  exact ⟨(decide (trimZ (zs la) = trimZ (zs lb))), rfl, hE5, rfl⟩

theorem cylinderlaw08_Few {w : World} {x1 : Int} {x2 : Int} {Sf : Nat → Prop} {Af : Option Addr} {nf cf Mf : Nat} {lf : List RI} (hf : PolyR w Sf Af nf cf lf Mf)  : Calls Try.prog 13 #[(.int .i64 (x1)), (.int .i64 (x2)), (.slice Af nf cf)] w (Ret fun v w' => ∃ (gr : Bool), v = (.bool gr) ∧ Ext w w' ∧ (gr = true → (nf : Int) ≤ x1 ∧ ∀ r ∈ lf, (r.n : Int) ≤ x2)) := by
  have kf := hf.len; have jf := hf.cap; have mf := hf.max
  replace hf := hf.low
  refine enter Try.func13 rfl Try.ntmps13 rfl ?_
  refine wp_seq_k fun K1 hK1 => ?_
  refine wp_region_lit ?_
  refine sEv (v := (.bool false)) (rfl) rfl rfl ?_
  refine sDone ?_
  refine xN (hK1 _ _ ?_)
  refine wp_seq_k fun K2 hK2 => ?_
  refine wp_seq_k fun K3 hK3 => ?_
  refine wp_region_lit ?_
  refine sEv (v := (.slice Af nf cf)) (rfl) rfl rfl ?_
  refine sEv (v := (.int .i64 ((nf : Int)))) (evLen Try.underlying22 rfl) rfl rfl ?_
  refine sEv (v := (.int .i64 (x1))) (rfl) rfl rfl ?_
  by_cases hc4 : ((nf : Int)) > x1
  · refine sEv (v := (.bool true)) (evGtr true rfl rfl (dT hc4)) rfl rfl ?_
    refine sDone ?_
    refine xN (hK3 _ _ ?_)
    refine cT rfl ?_
    refine wp_seq_k fun K5 hK5 => ?_
    refine wp_region_lit ?_
    refine sEv (v := (.bool false)) (rfl) rfl rfl ?_
    refine sDone ?_
    refine xN (hK5 _ _ ?_)
    refine wp_ret (xR ?_)
    refine ret1 (.bool false) Try.results13 (resT rfl) ?_
    exact ⟨(false), rfl, (Frm.refl _ _), (fun h => by cases h)⟩
  · refine sEv (v := (.bool false)) (evGtr false rfl rfl (dF hc4)) rfl rfl ?_
    refine sDone ?_
    refine xN (hK3 _ _ ?_)
    refine cF rfl ?_
    refine wp_skip ?_
    refine xN (hK2 _ _ ?_)
    refine wp_seq_k fun K6 hK6 => ?_
    refine wp_seq_k fun K7 hK7 => ?_
    refine wp_region_lit ?_
    refine sEv (v := (.int .i64 (0))) (rfl) rfl rfl ?_
    refine sDone ?_
    refine xN (hK7 _ _ ?_)
    refine wp_block ?_
    refine lLoop (fun m e w_ => ∃ (k : Nat), m = nf - k ∧ e 1 = (.int .i64 (x2)) ∧ e 2 = (.slice Af nf cf) ∧ e 7 = (.int .i64 ((k : Int))) ∧ Frm (fun b => False) w w_ ∧ (k ≤ nf) ∧ (∀ i r, i < k → lf[i]? = some r → (r.n : Int) ≤ x2)) (nf - (0)) ?_ ?_
    · refine ⟨(0), rfl, rfl, rfl, (congrArg (Value.int .i64) (by omega)), (Frm.refl _ _), ?_, ?_⟩
      · omega
      · intro i r h; omega
    · rintro m8 e15 w9 ⟨k, hm14, hs10, hs11, hs12, hF13, hk, hz⟩
      obtain ⟨r16, rfl⟩ := sq (e := e15) (t := 1) hs10
      obtain ⟨r17, rfl⟩ := sq (e := r16) (t := 2) hs11
      obtain ⟨r18, rfl⟩ := sq (e := r17) (t := 7) hs12
      have hz19 := hF13.size
      refine wp_seq_k fun K20 hK20 => ?_
      refine wp_seq_k fun K21 hK21 => ?_
      refine wp_region_lit ?_
      refine sEv (v := (.int .i64 ((k : Int)))) (rfl) rfl rfl ?_
      refine sEv (v := (.slice Af nf cf)) (rfl) rfl rfl ?_
      refine sEv (v := (.int .i64 ((nf : Int)))) (evLen Try.underlying22 rfl) rfl rfl ?_
      by_cases hc22 : ((k : Int)) < ((nf : Int))
      · refine sEv (v := (.bool true)) (evLss true rfl rfl (dT hc22)) rfl rfl ?_
        refine sDone ?_
        refine xN (hK21 _ _ ?_)
        refine cT rfl ?_
        refine wp_skip ?_
        refine xN (hK20 _ _ ?_)
        refine wp_seq_k fun K23 hK23 => ?_
        refine wp_block ?_
        refine wp_seq_k fun K24 hK24 => ?_
        refine wp_region_lit ?_
        refine sEv (v := (.slice Af nf cf)) (rfl) rfl rfl ?_
        refine sEv (v := (.int .i64 ((k : Int)))) (rfl) rfl rfl ?_
        have h25 := (hf.ext hF13)
        obtain ⟨b26, o27, rfl⟩ := h25.base (by omega)
        refine sEv (v := (.pointer (some ⟨b26, o27 + (k * 2), none⟩))) (evIndex k Try.underlying22 sz46 rfl rfl (by omega) (by omega) (o27 + (k * 2)) (by omega)) rfl rfl ?_
        refine sEv (v := (.pointer (some ⟨b26, o27 + (k * 2) + 1, none⟩))) (evFA (o27 + (k * 2) + 1) fa46_1 rfl rfl) rfl rfl ?_
        obtain ⟨g_28, A_28, n_28, c_28, d_28, he_28, hp_28, hq_28, h_28, hM_28, hS_28, hb_28, z_28⟩ := h25.at_ (i := k) (by omega)
        have l_28 := h_28.len; have k_28 := h_28.cap; have m_28 := h_28.max
        refine sEv (v := (.slice A_28 n_28 c_28)) (evLoad one44 rfl hq_28) rfl rfl ?_
        refine sEv (v := (.int .i64 ((n_28 : Int)))) (evLen Try.underlying44 rfl) rfl rfl ?_
        refine sEv (v := (.int .i64 (x2))) (rfl) rfl rfl ?_
        by_cases hc30 : ((n_28 : Int)) > x2
        · refine sEv (v := (.bool true)) (evGtr true rfl rfl (dT hc30)) rfl rfl ?_
          refine sDone ?_
          refine xN (hK24 _ _ ?_)
          refine cT rfl ?_
          refine wp_seq_k fun K31 hK31 => ?_
          refine wp_region_lit ?_
          refine sEv (v := (.bool false)) (rfl) rfl rfl ?_
          refine sDone ?_
          refine xN (hK31 _ _ ?_)
          refine wp_ret (bR (xR (xR (bR (xR ?_)))))
          refine ret1 (.bool false) Try.results13 (resT rfl) ?_
          exact ⟨(false), rfl, hF13, (fun h => by cases h)⟩
        · refine sEv (v := (.bool false)) (evGtr false rfl rfl (dF hc30)) rfl rfl ?_
          refine sDone ?_
          refine xN (hK24 _ _ ?_)
          refine cF rfl ?_
          refine wp_skip ?_
          refine bN ?_
          refine xN (hK23 _ _ ?_)
          refine wp_region_lit ?_
          refine sEv (v := (.int .i64 ((k : Int)))) (rfl) rfl rfl ?_
          refine sEv (v := (.int .i64 (((k : Int)) + 1))) (evAdd (((k : Int)) + 1) rfl rfl (wI64 (by omega))) rfl rfl ?_
          refine sEv (v := (.int .i64 (((k : Int)) + 1))) (rfl) rfl rfl ?_
          refine sDone ?_
          refine again (nf - (k + 1)) (by omega) ⟨(k + 1), rfl, rfl, rfl, (congrArg (Value.int .i64) (by omega)), hF13, ?_, ?_⟩
          · omega
          · exact few_step hz he_28 (by (try dsimp only); omega)
      · refine sEv (v := (.bool false)) (evLss false rfl rfl (dF hc22)) rfl rfl ?_
        refine sDone ?_
        refine xN (hK21 _ _ ?_)
        refine cF rfl ?_
        refine wp_exit (xE (xE (bE ?_)))
        refine xN (hK6 _ _ ?_)
        refine wp_seq_k fun K32 hK32 => ?_
        refine wp_region_lit ?_
        refine sEv (v := (.bool true)) (rfl) rfl rfl ?_
        refine sDone ?_
        refine xN (hK32 _ _ ?_)
        refine wp_ret ?_
        refine ret1 (.bool true) Try.results13 (resT rfl) ?_
        exact ⟨(true), rfl, hF13, (fun _ => ⟨by omega, few_all kf hz (by omega)⟩)⟩

end Go.Proofs.Ytppegjbdencefaa
