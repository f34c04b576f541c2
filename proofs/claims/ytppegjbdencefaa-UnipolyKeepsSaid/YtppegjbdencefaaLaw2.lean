/-
  Walks of the laws of unipoly: Of, Is, z, UnipolyMuls.
-/
import Derived.Test.YtppegjbdencefaaLaw1
import Derived.Test.YtppegjbdencefaaUni4
import Derived.Test.YtppegjbdencefaaRef4
namespace Go.Proofs.Ytppegjbdencefaa
open Go.RowKit Go.Gx
theorem law08_Of {w : World} {Sf : Nat → Prop} {Af : Option Addr} {nf cf Mf : Nat} {lf : List RI} (hf : PolyR w Sf Af nf cf lf Mf) (hnf : nf ≤ 65536) (hMf : Mf ≤ 1048576) : Calls Try.prog 14 #[(.slice Af nf cf)] w (Ret fun v w' => ∃ (Ar : Option Addr) (nr : Nat) (cr : Nat) (fr : List Int), v = (.slice Ar nr cr) ∧ Ext w w' ∧ PZR w' (fun b => w.heap.size ≤ b) Ar nr cr fr (32 * Mf) ∧ (fr = trimZ (zs lf)) ∧ (nr ≤ nf)) := by
  have ⟨kf, jf, mf⟩ := hf.lkm
  replace hf := hf.low
  refine enter Try.func14 rfl Try.ntmps14 rfl (rS fun K1 hK1 => sAs rfl (sK hK1 (rS fun K2 hK2 => sAs rfl (sK hK2 (wp_seq_k fun K3 hK3 => rS fun K4 hK4 => sAi rfl (sK hK4 (wp_block ?_)))))))
  refine lLoop (fun m e w_ => ∃ (k : Nat) (O : List Int) (Ao : Option Addr) (cp : Nat) (no : Nat), m = nf - k ∧ e 0 = (.slice Af nf cf) ∧ e 3 = (.slice Ao no cp) ∧ e 4 = (.int .i64 ((k : Int))) ∧ Frm (fun b => w.heap.size ≤ b) w w_ ∧ (k ≤ nf) ∧ (no = k) ∧ (O = (zs lf).take k) ∧ (OwnZ (fun b => w.heap.size ≤ b) w_ w.heap.size 31 Ao no cp O (32 * Mf))) (nf - (0)) ?_ ?_
  · refine ⟨(0), ([]), (none), (0), (0), rfl, rfl, rfl, cI, (Frm.refl _ _), ?_, ?_, ?_, ?_⟩
    · omega
    · omega
    · rfl
    · exact OwnZ.nil
  · rintro m5 e12 w6 ⟨k, O, Ao, cp, no, hm11, hs7, hs8, hs9, hF10, hk, hno, hF, hO⟩
    obtain ⟨r13, rfl⟩ := sq (e := e12) (t := 0) hs7
    obtain ⟨r14, rfl⟩ := sq (e := r13) (t := 3) hs8
    obtain ⟨r15, rfl⟩ := sq (e := r14) (t := 4) hs9
    have hz16 := hF10.size
    have ⟨lO, kO, mO⟩ := hO.lkm
    refine wp_seq_k fun K17 hK17 => rS fun K18 hK18 => sMi rfl (sMs rfl (sV (evLen Try.underlying22 rfl) ?_))
    by_cases hc19 : ((k : Int)) < ((nf : Int))
    · refine sV (evLss true rfl rfl (dT hc19)) (sK hK18 (cT rfl (wp_skip (xN (hK17 _ _ (wp_seq_k fun K20 hK20 => wp_block (dBegin (fun b => w.heap.size ≤ b) mixed (fun w21 hE22 hz23 => dMs 0 rfl rfl (dMs 1 rfl rfl (dMi 2 rfl rfl ?_))))))))))
      have hR24 := hF10.xr hE22
      have h25 := (hf.frmB hR24 q3)
      obtain ⟨b26, o27, rfl⟩ := h25.base (by omega)
      refine dV 3 rfl (fun _ _ => evIx k Try.underlying22 sz46 rfl rfl (o27 + (k * 2))) (dV 4 rfl (fun _ _ => evFA (o27 + (k * 2)) fa46_0 rfl rfl) ?_)
      obtain ⟨g_28, A_28, n_28, c_28, d_28, he_28, hp_28, hq_28, h_28, hM_28, hS_28, hb_28, z_28⟩ := h25.at_ (i := k) (by omega)
      have ⟨l_28, k_28, m_28⟩ := h_28.lkm
      refine dV 5 rfl (fun _ hf => evLoad one4 rfl ((hf.cell (p := ⟨_, _, none⟩) hb_28 (by (try dsimp only at hS_28 ⊢); omega)).trans hp_28)) (dMs 6 rfl rfl (dMi 7 rfl rfl (dV 8 rfl (fun _ _ => evIx k Try.underlying22 sz46 rfl rfl (o27 + (k * 2))) (dV 9 rfl (fun _ _ => evFA (o27 + (k * 2) + 1) fa46_1 rfl rfl) ?_))))
      obtain ⟨g_29, A_29, n_29, c_29, d_29, he_29, hp_29, hq_29, h_29, hM_29, hS_29, hb_29, z_29⟩ := h25.at_ (i := k) (by omega)
      have ⟨l_29, k_29, m_29⟩ := h_29.lkm
      refine dV 10 rfl (fun _ hf => evLoad one44 rfl ((hf.cell (p := ⟨_, _, none⟩) hb_29 (by (try dsimp only at hS_29 ⊢); omega)).trans hq_29)) (dOp 11 rfl rfl (by kernel_rfl) (oCall rfl call65 (ref02_Of h_29 (by omega)) rfl ?_))
      rintro _ w32 ⟨sr_31, Ar_31, nr_31, cr_31, zr_31, rfl, hE33, hr_31, v_31, le_31⟩
      refine ⟨(Frm.of_ext hE33), ?_⟩
      have hz34 := hE33.size
      have ⟨sgr_31, kr_31, mr_31⟩ := hr_31.lkm
      refine dOp 12 rfl rfl (by kernel_rfl) (oBuildSlice [(.agg #[(.int .i64 (sr_31)), (.slice Ar_31 nr_31 cr_31)])] [[(.int .i64 (sr_31)), (.slice Ar_31 nr_31 cr_31)]] Try.underlying27 inf31 rfl rfl rfl rfl rfl (fun g36 w37 hg38 hE39 hz40 hB41 => ⟨(Frm.of_ext hE39), ?_⟩))
      replace hB41 : Blk w37 g36 31 [(.int .i64 (sr_31)), (.slice Ar_31 nr_31 cr_31)] := hB41
      have hR42 := (hE22.trans hE33).trans hE39
      have hO43 := (hO.ext hR42)
      have h49 := (hr_31.ext hE39)
      refine dOp 13 rfl rfl (by kernel_rfl) (oAppZ (B := w.heap.size) Try.underlying27 inf31 rfl rfl rfl hO43 hB41 h49 (by omega) (by intro b hlt hb a ha; have h1 := hO.lt a ha; (try dsimp only at hb); omega) q5 (by omega) (by omega) (by omega) (fun A44 c45 w46 hO47 hF48 => ⟨hF48, dAs 14 rfl rfl (dDone (by kernel_rfl) (bN (xN (hK20 _ _ (wp_region_lit (sMi rfl (sV (evAdd (((k : Int)) + 1) rfl rfl wI) (sAi rfl (sDone ?_)))))))))⟩))
      have hR50 := hR42.rx hF48
      refine again (nf - (k + 1)) (by omega) ⟨(k + 1), (O ++ [zr_31]), (A44), (c45), (no + 1), rfl, rfl, rfl, cI, (hF10.trans hR50), ?_, ?_, ?_, ?_⟩
      · omega
      · omega
      · exact take_snocZ hF (by rw [zlen]; omega) (by rw [v_31, (ri_inj he_28 he_29).1, z_29])
      · exact hO47
    · refine sV (evLss false rfl rfl (dF hc19)) (sK hK18 (cF rfl (wp_exit (xE (xE (bE (xN (hK3 _ _ (rS fun K51 hK51 => sMs rfl (sO (oCall rfl call29 (ref08_Trim (OwnZ.pzrF hO)) rfl ?_)))))))))))
      rintro _ w53 ⟨Ar_52, nr_52, cr_52, fr_52, rfl, hE54, hr_52, e_52, le_52⟩
      have hz55 := hE54.size
      have ⟨lr_52, kr_52, mr_52⟩ := hr_52.lkm
      replace hr_52 := hr_52.sub (S' := fun b => w.heap.size ≤ b ∧ b < w53.heap.size) fun _ hb hs => ⟨hs, hb⟩
      refine sAs rfl (sK hK51 (wp_ret (ret1 (.slice Ar_52 nr_52 cr_52) Try.results14 (resT rfl) ?_)))
      have hR57 := hF10.xr hE54
      exact ⟨Ar_52, nr_52, cr_52, fr_52, rfl, (Frm.mono hR57 q4), (PZR.le (PZR.sub hr_52 q5) (by omega)), (by rw [e_52, hF, List.take_of_length_le (by rw [zlen]; omega)]), (by omega)⟩

theorem law08_Is {w : World} {Sf : Nat → Prop} {Af : Option Addr} {nf cf Mf : Nat} {lf : List RI} {Sg : Nat → Prop} {Ag : Option Addr} {ng cg Mg : Nat} {fg : List Int} (hf : PolyR w Sf Af nf cf lf Mf) (hg : PZR w Sg Ag ng cg fg Mg) (hMg : Mg ≤ 268435456) (hC : AllC lf) (hE : zs lf = fg) : Calls Try.prog 17 #[(.slice Af nf cf), (.slice Ag ng cg)] w (Ret fun v w' => ∃ (gr : Bool), v = (.bool gr) ∧ Ext w w' ∧ (gr = true)) := by
  have ⟨kf, jf, mf⟩ := hf.lkm
  replace hf := hf.low
  have ⟨lg, kg, mg⟩ := hg.lkm
  replace hg := hg.low
  refine enter Try.func17 rfl Try.ntmps17 rfl ?_
  have hln : nf = ng := by rw [← kf, ← lg, ← hE, zlen]
  refine rS fun K1 hK1 => sAb rfl (sK hK1 (wp_seq_k fun K2 hK2 => rS fun K3 hK3 => sMs rfl (sV (evLen Try.underlying22 rfl) (sMs rfl (sV (evLen Try.underlying27 rfl) (sV (evNeq false rfl rfl (dF (by omega))) (sK hK3 (cF rfl (wp_skip (xN (hK2 _ _ (wp_seq_k fun K4 hK4 => rS fun K5 hK5 => sAi rfl (sK hK5 (wp_block ?_))))))))))))))
  refine lLoop (fun m e w_ => ∃ (k : Nat), m = nf - k ∧ e 0 = (.slice Af nf cf) ∧ e 1 = (.slice Ag ng cg) ∧ e 5 = (.int .i64 ((k : Int))) ∧ Frm (fun b => False) w w_ ∧ (k ≤ nf)) (nf - (0)) ?_ ?_
  · refine ⟨(0), rfl, rfl, rfl, cI, (Frm.refl _ _), ?_⟩
    · omega
  · rintro m6 e13 w7 ⟨k, hm12, hs8, hs9, hs10, hF11, hk⟩
    obtain ⟨r14, rfl⟩ := sq (e := e13) (t := 0) hs8
    obtain ⟨r15, rfl⟩ := sq (e := r14) (t := 1) hs9
    obtain ⟨r16, rfl⟩ := sq (e := r15) (t := 5) hs10
    have hz17 := hF11.size
    refine wp_seq_k fun K18 hK18 => rS fun K19 hK19 => sMi rfl (sMs rfl (sV (evLen Try.underlying22 rfl) ?_))
    by_cases hc20 : ((k : Int)) < ((nf : Int))
    · refine sV (evLss true rfl rfl (dT hc20)) (sK hK19 (cT rfl (wp_skip (xN (hK18 _ _ (wp_seq_k fun K21 hK21 => wp_block (wp_seq_k fun K22 hK22 => dBegin (fun _ => False) mixed (fun w23 hE24 hz25 => dMs 0 rfl rfl (dMi 1 rfl rfl ?_)))))))))
      have hR26 := hF11.trans hE24
      have h27 := (hf.ext hR26)
      obtain ⟨b28, o29, rfl⟩ := h27.base (by omega)
      refine dV 2 rfl (fun _ _ => evIx k Try.underlying22 sz46 rfl rfl (o29 + (k * 2))) (dV 3 rfl (fun _ _ => evFA (o29 + (k * 2)) fa46_0 rfl rfl) ?_)
      obtain ⟨g_30, A_30, n_30, c_30, d_30, he_30, hp_30, hq_30, h_30, hM_30, hS_30, hb_30, z_30⟩ := h27.at_ (i := k) (by omega)
      have ⟨l_30, k_30, m_30⟩ := h_30.lkm
      refine dV 4 rfl (fun _ hf => evLoad one4 rfl ((hf.cell (p := ⟨_, _, none⟩) hb_30 (fun h => h)).trans hp_30)) (dMs 5 rfl rfl (dMi 6 rfl rfl (dV 7 rfl (fun _ _ => evIx k Try.underlying22 sz46 rfl rfl (o29 + (k * 2))) (dV 8 rfl (fun _ _ => evFA (o29 + (k * 2) + 1) fa46_1 rfl rfl) ?_))))
      obtain ⟨g_31, A_31, n_31, c_31, d_31, he_31, hp_31, hq_31, h_31, hM_31, hS_31, hb_31, z_31⟩ := h27.at_ (i := k) (by omega)
      have ⟨l_31, k_31, m_31⟩ := h_31.lkm
      refine dV 9 rfl (fun _ hf => evLoad one44 rfl ((hf.cell (p := ⟨_, _, none⟩) hb_31 (fun h => h)).trans hq_31)) (dMs 10 rfl rfl (dMi 11 rfl rfl ?_))
      have h33 := (hg.ext hR26)
      obtain ⟨b34, o35, rfl⟩ := h33.base (by omega)
      refine dV 12 rfl (fun _ _ => evIx k Try.underlying27 sz31 rfl rfl (o35 + (k * 2))) ?_
      obtain ⟨s_36, A_36, n_36, c_36, z_36, hp_36, hq_36, h_36, hM_36, hS_36, hb_36, hz_36⟩ := h33.at_ (i := k) (by omega)
      have ⟨sg_36, k_36, m_36⟩ := h_36.lkm
      refine dV 13 rfl (fun _ hf => evLoadA [(.int .i64 (s_36)), (.slice A_36 n_36 c_36)] agg31 sz31 rfl (cell2F hp_36 hq_36 hf hb_36 (fun h => h))) ?_
      have hgg := (ri_inj he_30 he_31).1
      have hci : ICan g_30 d_31 := by rw [hgg]; exact hC _ (List.mem_of_getElem? he_31)
      have hvi : zval g_30 d_31 = z_36 := by rw [hgg, z_31, hz_36, hE]
      refine dOp 14 rfl rfl (by kernel_rfl) (oCall rfl call43 (ref02_Is h_31 h_36 (by omega) (by assumption) (by assumption)) rfl ?_)
      rintro _ w39 ⟨gr_38, rfl, hE40, e_38⟩
      refine ⟨(Frm.of_ext hE40), ?_⟩
      have hz41 := hE40.size
      obtain rfl : gr_38 = true := e_38
      refine dV 15 rfl (fun _ _ => evNot _ rfl rfl) (dDone (by kernel_rfl) (xN (hK22 _ _ (cF rfl (wp_skip (bN (xN (hK21 _ _ (wp_region_lit (sMi rfl (sV (evAdd (((k : Int)) + 1) rfl rfl wI) (sAi rfl (sDone ?_)))))))))))))
      have hR42 := hE24.trans hE40
      refine again (nf - (k + 1)) (by omega) ⟨(k + 1), rfl, rfl, rfl, cI, (hF11.trans hR42), ?_⟩
      · omega
    · refine sV (evLss false rfl rfl (dF hc20)) (sK hK19 (cF rfl (wp_exit (xE (xE (bE (xN (hK4 _ _ (rS fun K43 hK43 => sAb rfl (sK hK43 (wp_ret (ret1 (.bool true) Try.results17 (resT rfl) ?_))))))))))))
      exact ⟨(true), rfl, hF11, rfl⟩

theorem law08_z {w : World} {ga : Bool} {Sa : Nat → Prop} {Aa : Option Addr} {na ca : Nat} {da : List Nat} (ha : NatR w Sa Aa na ca da) (hna : na ≤ 1048576) : Calls Try.prog 26 #[(.agg #[(.bool ga), (.slice Aa na ca)])] w (Ret fun v w' => ∃ (sr : Int) (Ar : Option Addr) (nr : Nat) (cr : Nat) (zr : Int), v = (.agg #[(.int .i64 (sr)), (.slice Ar nr cr)]) ∧ Ext w w' ∧ ZR w' (fun b => w.heap.size ≤ b) sr Ar nr cr zr ∧ (zr = zval ga da) ∧ (nr ≤ 32 * na)) := by
  have ⟨la, ka, ma⟩ := ha.lkm
  replace ha := ha.low
  refine enter Try.func26 rfl Try.ntmps26 rfl (rS fun K1 hK1 => sO (oBox [(.bool ga), (.slice Aa na ca)] rfl rfl (fun g2 w3 hg4 hE5 hz6 hB7 => sO (oAlloc [(.int .i64 (0)), (.slice none 0 0)] zero31 rfl (fun g8 w9 hg10 hE11 hz12 hB13 => sK hK1 (rS fun K14 hK14 => sV (evFA 0 fa46_0 rfl rfl) ?_))))))
  have hB15 := (hB7.ext hE11)
  refine sV (evLoadB one4 rfl hB15 rfl) (sV (evFA 1 fa46_1 rfl rfl) (sV (evLoadB one44 rfl hB15 rfl) ?_))
  have hR16 := hE5.trans hE11
  have h17 := (ha.ext hR16)
  refine sO (oCall rfl call65 (ref02_Of h17 (by omega)) rfl ?_)
  rintro _ w19 ⟨sr_18, Ar_18, nr_18, cr_18, zr_18, rfl, hE20, hr_18, v_18, le_18⟩
  have hz21 := hE20.size
  have ⟨sgr_18, kr_18, mr_18⟩ := hr_18.lkm
  have hB23 := (hB13.ext hE20)
  refine sO (oStore [(.int .i64 (sr_18)), (.slice Ar_18 nr_18 cr_18)] rfl rfl rfl sz31 rfl hB23 (Nat.le_of_ble_eq_true rfl) (fun w24 hU25 hz26 hB27 => ?_))
  replace hB27 : Blk w24 g8 31 [(.int .i64 (sr_18)), (.slice Ar_18 nr_18 cr_18)] := hB27
  refine sK hK14 (wp_ret (ret1 (.agg #[(.int .i64 (sr_18)), (.slice Ar_18 nr_18 cr_18)]) Try.results26 (resB [(.int .i64 (sr_18)), (.slice Ar_18 nr_18 cr_18)] agg31 sz31 rfl hB27) ?_))
  have h28 := (hr_18.frmB hU25 q3)
  have hR29 := (hR16.trans hE20).rx hU25
  exact ⟨(sr_18), Ar_18, nr_18, cr_18, (zr_18), rfl, (Frm.mono hR29 q4), (ZR.sub h28 q5), v_18, (by omega)⟩

set_option maxHeartbeats 1000000 in
theorem law08_muls {w : World} {Sf : Nat → Prop} {Af : Option Addr} {nf cf Mf : Nat} {lf : List RI} {Sg : Nat → Prop} {Ag : Option Addr} {ng cg Mg : Nat} {lg : List RI} {xn : Int} (hf : PolyR w Sf Af nf cf lf Mf) (hg : PolyR w Sg Ag ng cg lg Mg)  : Calls Try.prog 3 #[(.slice Af nf cf), (.slice Ag ng cg), (.int .i64 (xn))] w (Ret fun v w' => ∃ (gr : Bool), v = (.bool gr) ∧ Ext w w' ∧ (gr = true)) := by
  have ⟨kf, jf, mf⟩ := hf.lkm
  replace hf := hf.low
  have ⟨kg, jg, mg⟩ := hg.lkm
  replace hg := hg.low
  refine enter Try.func3 rfl Try.ntmps3 rfl (rS fun K1 hK1 => sAb rfl (sK hK1 (wp_seq_k fun K2 hK2 => rS fun K3 hK3 => sO (oCall rfl call12 (law08_awake) rfl ?_))))
  rintro _ w5 ⟨gr_4, rfl, hE6, e_4⟩
  have hz7 := hE6.size
  obtain rfl : gr_4 = true := e_4
  refine sV (evNot _ rfl rfl) (sMb rfl (sEv (v := (.slice Af nf cf)) (rfl) rfl rfl ?_))
  have h8 := (hf.ext hE6)
  refine sOp rfl (oCall rfl call13 (cylinderlaw08_Few h8) rfl ?_)
  rintro _ w10 ⟨gr_9, rfl, hE11, e_9⟩
  have hz12 := hE11.size
  refine sEv (v := (.bool (!gr_9))) (evNot _ rfl rfl) rfl rfl (sV (v := (.bool (!gr_9))) (rfl) (sMb rfl ?_))
  cases gr_9
  · refine sSkip rfl rfl (sSkip rfl rfl (sSkip rfl rfl (sV (v := (.bool true)) (rfl) (sMb rfl (sSkip rfl rfl (sSkip rfl rfl (sV (v := (.bool true)) (rfl) (sK hK3 (cT rfl (rS fun K13 hK13 => sO (oCall rfl call12 (law08_awake) rfl ?_)))))))))))
    rintro _ w15 ⟨gr_14, rfl, hE16, e_14⟩
    have hz17 := hE16.size
    obtain rfl : gr_14 = true := e_14
    refine sAb rfl (sK hK13 (wp_ret (xR (ret1 (.bool true) Try.results3 (resT rfl) ?_))))
    have hR18 := (hE6.trans hE11).trans hE16
    exact ⟨(true), rfl, hR18, rfl⟩
  · refine sEv (v := (.slice Ag ng cg)) (rfl) rfl rfl ?_
    have hR19 := hE6.trans hE11
    have h20 := (hg.ext hR19)
    refine sOp rfl (oCall rfl call13 (cylinderlaw08_Few h20) rfl ?_)
    rintro _ w22 ⟨gr_21, rfl, hE23, e_21⟩
    have hz24 := hE23.size
    refine sEv (v := (.bool (!gr_21))) (evNot _ rfl rfl) rfl rfl (sV (v := (.bool (!gr_21))) (rfl) (sMb rfl ?_))
    cases gr_21
    · refine sSkip rfl rfl (sSkip rfl rfl (sV (v := (.bool true)) (rfl) (sK hK3 (cT rfl (rS fun K25 hK25 => sO (oCall rfl call12 (law08_awake) rfl ?_))))))
      rintro _ w27 ⟨gr_26, rfl, hE28, e_26⟩
      have hz29 := hE28.size
      obtain rfl : gr_26 = true := e_26
      refine sAb rfl (sK hK25 (wp_ret (xR (ret1 (.bool true) Try.results3 (resT rfl) ?_))))
      have hR30 := (hR19.trans hE23).trans hE28
      exact ⟨(true), rfl, hR30, rfl⟩
    · refine sEv (v := (.int .i64 (xn))) (rfl) rfl rfl ?_
      by_cases hc31 : xn > 5
      · refine sEv (v := (.bool true)) (evGtr true rfl rfl (dT hc31)) rfl rfl (sV (v := (.bool true)) (rfl) (sK hK3 (cT rfl (rS fun K32 hK32 => sO (oCall rfl call12 (law08_awake) rfl ?_)))))
        rintro _ w34 ⟨gr_33, rfl, hE35, e_33⟩
        have hz36 := hE35.size
        obtain rfl : gr_33 = true := e_33
        refine sAb rfl (sK hK32 (wp_ret (xR (ret1 (.bool true) Try.results3 (resT rfl) ?_))))
        have hR37 := (hR19.trans hE23).trans hE35
        exact ⟨(true), rfl, hR37, rfl⟩
      · refine sEv (v := (.bool false)) (evGtr false rfl rfl (dF hc31)) rfl rfl (sV (v := (.bool false)) (rfl) (sK hK3 (cF rfl (wp_skip (xN (hK2 _ _ (rS fun K38 hK38 => sMs rfl ?_)))))))
        have qf := e_9 rfl
        have qnf := qf.1
        have hf2 := hf.reM (M' := 3) (by intro r hr; have := qf.2 r hr; omega)
        have qg := e_21 rfl
        have qng := qg.1
        have hg2 := hg.reM (M' := 3) (by intro r hr; have := qg.2 r hr; omega)
        have hR39 := hR19.trans hE23
        have h40 := (hf2.ext hR39)
        refine sO (oCall rfl call14 (law08_Of h40 (by omega) (by omega)) rfl ?_)
        rintro _ w42 ⟨Ar_41, nr_41, cr_41, fr_41, rfl, hE43, hr_41, e_41, ln_41⟩
        have hz44 := hE43.size
        have ⟨lr_41, kr_41, mr_41⟩ := hr_41.lkm
        replace hr_41 := hr_41.sub (S' := fun b => w22.heap.size ≤ b ∧ b < w42.heap.size) fun _ hb hs => ⟨hs, hb⟩
        refine sMs rfl ?_
        have hR46 := hR39.trans hE43
        have h47 := (hg2.ext hR46)
        refine sO (oCall rfl call14 (law08_Of h47 (by omega) (by omega)) rfl ?_)
        rintro _ w49 ⟨Ar_48, nr_48, cr_48, fr_48, rfl, hE50, hr_48, e_48, ln_48⟩
        have hz51 := hE50.size
        have ⟨lr_48, kr_48, mr_48⟩ := hr_48.lkm
        replace hr_48 := hr_48.sub (S' := fun b => w42.heap.size ≤ b ∧ b < w49.heap.size) fun _ hb hs => ⟨hs, hb⟩
        refine sAs rfl (sAs rfl (sK hK38 (rS fun K53 hK53 => sO (oCall rfl call15 (ref02_Small (by omega)) rfl ?_))))
        rintro _ w55 ⟨sr_54, Ar_54, nr_54, cr_54, zr_54, rfl, hE56, hr_54, v_54, le_54⟩
        have hz57 := hE56.size
        have ⟨sgr_54, kr_54, mr_54⟩ := hr_54.lkm
        refine sO (oBuildSlice [(.agg #[(.int .i64 (sr_54)), (.slice Ar_54 nr_54 cr_54)])] [[(.int .i64 (sr_54)), (.slice Ar_54 nr_54 cr_54)]] Try.underlying27 inf31 rfl rfl rfl rfl rfl (fun g59 w60 hg61 hE62 hz63 hB64 => ?_))
        replace hB64 : Blk w60 g59 31 [(.int .i64 (sr_54)), (.slice Ar_54 nr_54 cr_54)] := hB64
        refine sAs rfl (sK hK53 (wp_seq_k fun K65 hK65 => rS fun K66 hK66 => sAi rfl (sK hK66 (wp_block ?_))))
        have h69 := (hr_54.ext hE62)
        have h68 : PZR w60 (fun _ => True) (some ⟨g59, 0, none⟩) 1 1 ([zr_54]) (nr_54) := PZR.one hB64 h69 (by omega)
        refine lLoop (fun m e w_ => ∃ (k : Nat) (W : List Int) (Ap : Option Addr) (np : Nat) (cp : Nat), m = xn.toNat - k ∧ e 0 = (.slice Af nf cf) ∧ e 1 = (.slice Ag ng cg) ∧ e 2 = (.int .i64 (xn)) ∧ e 7 = (.slice Ar_41 nr_41 cr_41) ∧ e 8 = (.slice Ar_48 nr_48 cr_48) ∧ e 9 = (.slice Ap np cp) ∧ e 10 = (.int .i64 ((k : Int))) ∧ Frm (fun b => False) w60 w_ ∧ (k ≤ xn.toNat) ∧ (np ≤ 8 * k + 1) ∧ (W = trimZ (ppow (zs lf) k)) ∧ (PZR w_ (fun _ => True) Ap np cp W (200 * k + 50))) (xn.toNat - (0)) ?_ ?_
        · refine ⟨(0), ([zr_54]), ((some ⟨g59, 0, none⟩)), (1), (1), rfl, rfl, rfl, rfl, rfl, rfl, rfl, cI, (Frm.refl _ _), ?_, ?_, ?_, ?_⟩
          · omega
          · omega
          · rw [v_54]; exact trim_one.symm
          · exact PZR.le h68 (by omega)
        · rintro m67 e80 w70 ⟨k, W, Ap, np, cp, hm79, hs71, hs72, hs73, hs74, hs75, hs76, hs77, hF78, hk, hnp, hW, hR⟩
          obtain ⟨r81, rfl⟩ := sq (e := e80) (t := 0) hs71
          obtain ⟨r82, rfl⟩ := sq (e := r81) (t := 1) hs72
          obtain ⟨r83, rfl⟩ := sq (e := r82) (t := 2) hs73
          obtain ⟨r84, rfl⟩ := sq (e := r83) (t := 7) hs74
          obtain ⟨r85, rfl⟩ := sq (e := r84) (t := 8) hs75
          obtain ⟨r86, rfl⟩ := sq (e := r85) (t := 9) hs76
          obtain ⟨r87, rfl⟩ := sq (e := r86) (t := 10) hs77
          have hz88 := hF78.size
          have ⟨lO, kO, mO⟩ := hR.lkm
          refine wp_seq_k fun K89 hK89 => rS fun K90 hK90 => sMi rfl (sMi rfl ?_)
          by_cases hc91 : ((k : Int)) < xn
          · refine sV (evLss true rfl rfl (dT hc91)) (sK hK90 (cT rfl (wp_skip (xN (hK89 _ _ (wp_seq_k fun K92 hK92 => wp_block (wp_region_lit (sMs rfl (sMs rfl ?_)))))))))
            have hR93 := ((hE50.trans hE56).trans hE62).trans hF78
            have h94 := (hr_41.ext hR93)
            refine sO (oCall rfl call16 (ref08_Mul hR h94 (by omega) (by omega) (by omega) (by omega)) rfl ?_)
            rintro _ w96 ⟨Ar_95, nr_95, cr_95, fr_95, rfl, hE97, hr_95, e_95, ln_95⟩
            have hz98 := hE97.size
            have ⟨lr_95, kr_95, mr_95⟩ := hr_95.lkm
            replace hr_95 := hr_95.low
            refine sAs rfl (sDone (bN (xN (hK92 _ _ (wp_region_lit (sMi rfl (sV (evAdd (((k : Int)) + 1) rfl rfl wI) (sAi rfl (sDone (again (xn.toNat - (k + 1)) (by omega) ⟨(k + 1), (fr_95), (Ar_95), (nr_95), (cr_95), rfl, rfl, rfl, rfl, rfl, rfl, rfl, cI, (hF78.trans hE97), ?_, ?_, ?_, ?_⟩))))))))))
            · omega
            · omega
            · rw [e_95, hW, e_41]; exact law_pow _ _
            · exact PZR.le (PZR.sub hr_95 fun _ _ _ => trivial) (by omega)
          · refine sV (evLss false rfl rfl (dF hc91)) (sK hK90 (cF rfl (wp_exit (xE (xE (bE (xN (hK65 _ _ (rS fun K100 hK100 => sMs rfl (sMs rfl ?_))))))))))
            have hR101 := (((hE43.trans hE50).trans hE56).trans hE62).trans hF78
            have h102 := (h40.ext hR101)
            have hR103 := ((hE50.trans hE56).trans hE62).trans hF78
            have h104 := (h47.ext hR103)
            refine sO (oCall rfl call18 (unipoly_Mul h102 h104 (by omega) (by omega) (by omega) (by omega)) rfl ?_)
            rintro _ w106 ⟨Ar_105, nr_105, cr_105, lr_105, rfl, hE107, hr_105, e_105, ln_105, cn_105⟩
            have hz108 := hE107.size
            have ⟨kr_105, jr_105, mr_105⟩ := hr_105.lkm
            refine sMs rfl (sMs rfl ?_)
            have hR110 := hR103.trans hE107
            have h111 := (hr_41.ext hR110)
            have hR112 := ((hE56.trans hE62).trans hF78).trans hE107
            have h113 := (hr_48.ext hR112)
            refine sO (oCall rfl call16 (ref08_Mul h111 h113 (by omega) (by omega) (by omega) (by omega)) rfl ?_)
            rintro _ w115 ⟨Ar_114, nr_114, cr_114, fr_114, rfl, hE116, hr_114, e_114, ln_114⟩
            have hz117 := hE116.size
            have ⟨lr_114, kr_114, mr_114⟩ := hr_114.lkm
            replace hr_114 := hr_114.low
            have hEm : zs lr_105 = fr_114 := by rw [e_105, e_114, e_41, e_48]; exact law_mul _ _
            have h119 := (hr_105.ext hE116)
            refine sO (oCall rfl call17 (law08_Is h119 hr_114 (by omega) (by assumption) (by assumption)) rfl ?_)
            rintro _ w121 ⟨gr_120, rfl, hE122, e_120⟩
            have hz123 := hE122.size
            obtain rfl : gr_120 = true := e_120
            refine sMb rfl (sEv (v := (.slice Af nf cf)) (rfl) rfl rfl (sEv (v := (.int .i64 (xn))) (rfl) rfl rfl ?_))
            have hR124 := (hE107.trans hE116).trans hE122
            have h125 := (h102.ext hR124)
            refine sOp rfl (oCall rfl call19 (unipoly_Pow h125 (by omega) (by omega) (by omega)) rfl ?_)
            rintro _ w127 ⟨Ar_126, nr_126, cr_126, lr_126, rfl, hE128, hr_126, e_126, ln_126, cn_126⟩
            have hz129 := hE128.size
            have ⟨kr_126, jr_126, mr_126⟩ := hr_126.lkm
            have hEp : zs lr_126 = W := by rw [e_126, hW, show k = xn.toNat by omega]
            refine sEv (v := (.slice Ap np cp)) (rfl) rfl rfl ?_
            have hR131 := hR124.trans hE128
            have h132 := (hR.ext hR131)
            refine sOp rfl (oCall rfl call17 (law08_Is hr_126 h132 (by omega) (by assumption) (by assumption)) rfl ?_)
            rintro _ w134 ⟨gr_133, rfl, hE135, e_133⟩
            have hz136 := hE135.size
            obtain rfl : gr_133 = true := e_133
            refine sV (v := (.bool true)) (rfl) (sMb rfl (sEv (v := (.slice Af nf cf)) (rfl) rfl rfl ?_))
            have hR137 := hE128.trans hE135
            have h138 := (h125.ext hR137)
            refine sOp rfl (oCall rfl call20 (unipoly_Derivative h138 (by omega) (by omega)) rfl ?_)
            rintro _ w140 ⟨Ar_139, nr_139, cr_139, lr_139, rfl, hE141, hr_139, e_139, ln_139, cn_139⟩
            have hz142 := hE141.size
            have ⟨kr_139, jr_139, mr_139⟩ := hr_139.lkm
            refine sEv (v := (.slice Ar_41 nr_41 cr_41)) (rfl) rfl rfl ?_
            have hR144 := (((hE116.trans hE122).trans hE128).trans hE135).trans hE141
            have h145 := (h111.ext hR144)
            refine sOp rfl (oCall rfl call21 (ref08_Derivative h145 (by omega) (by omega)) rfl ?_)
            rintro _ w147 ⟨Ar_146, nr_146, cr_146, fr_146, rfl, hE148, hr_146, e_146, ln_146⟩
            have hz149 := hE148.size
            have ⟨lr_146, kr_146, mr_146⟩ := hr_146.lkm
            replace hr_146 := hr_146.low
            have hEd : zs lr_139 = fr_146 := by rw [e_139, e_146, e_41]; exact law_deriv _
            have h151 := (hr_139.ext hE148)
            refine sOp rfl (oCall rfl call17 (law08_Is h151 hr_146 (by omega) (by assumption) (by assumption)) rfl ?_)
            rintro _ w153 ⟨gr_152, rfl, hE154, e_152⟩
            have hz155 := hE154.size
            obtain rfl : gr_152 = true := e_152
            refine sV (v := (.bool true)) (rfl) (sAb rfl (sK hK100 (wp_ret (ret1 (.bool true) Try.results3 (resT rfl) ?_))))
            have hR156 := (((((((((((hR46.trans hE50).trans hE56).trans hE62).trans hF78).trans hE107).trans hE116).trans hE122).trans hE128).trans hE135).trans hE141).trans hE148).trans hE154
            exact ⟨(true), rfl, hR156, rfl⟩

end Go.Proofs.Ytppegjbdencefaa
