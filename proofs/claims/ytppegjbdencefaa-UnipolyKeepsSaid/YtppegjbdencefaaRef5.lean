/-
  Walks of package cylinderref08: composition, comparison.
-/
import Derived.Test.YtppegjbdencefaaRef4
namespace Go.Proofs.Ytppegjbdencefaa
open Go.RowKit Go.Gx
theorem ref08_Compose {w : World} {Sf : Nat → Prop} {Af : Option Addr} {nf cf Mf : Nat} {ff : List Int} {Sg : Nat → Prop} {Ag : Option Addr} {ng cg Mg : Nat} {fg : List Int} (hf : PZR w Sf Af nf cf ff Mf) (hg : PZR w Sg Ag ng cg fg Mg) (hnf : nf ≤ 64) (hMf : Mf ≤ 32768) (hng : ng ≤ 64) (hMg : Mg ≤ 32768) : Calls Try.prog 28 #[(.slice Af nf cf), (.slice Ag ng cg)] w (Ret fun v w' => ∃ (Ar : Option Addr) (nr : Nat) (cr : Nat) (fr : List Int), v = (.slice Ar nr cr) ∧ Ext w w' ∧ PZR w' (fun _ => True) Ar nr cr fr (8388608) ∧ (fr = trimZ (pcs ff fg nf)) ∧ (nr ≤ 8192)) := by
  have ⟨lf, kf, mf⟩ := hf.lkm
  replace hf := hf.low
  have ⟨lg, kg, mg⟩ := hg.lkm
  replace hg := hg.low
  refine enter Try.func28 rfl Try.ntmps28 rfl (rS fun K1 hK1 => sAs rfl (sK hK1 (rS fun K2 hK2 => sAs rfl (sK hK2 (rS fun K3 hK3 => sO (oCall rfl call15 (ref02_Small (by omega)) rfl ?_))))))
  rintro _ w5 ⟨sr_4, Ar_4, nr_4, cr_4, zr_4, rfl, hE6, hr_4, v_4, le_4⟩
  have hz7 := hE6.size
  have ⟨sgr_4, kr_4, mr_4⟩ := hr_4.lkm
  refine sO (oBuildSlice [(.agg #[(.int .i64 (sr_4)), (.slice Ar_4 nr_4 cr_4)])] [[(.int .i64 (sr_4)), (.slice Ar_4 nr_4 cr_4)]] Try.underlying27 inf31 rfl rfl rfl rfl rfl (fun g9 w10 hg11 hE12 hz13 hB14 => ?_))
  replace hB14 : Blk w10 g9 31 [(.int .i64 (sr_4)), (.slice Ar_4 nr_4 cr_4)] := hB14
  refine sAs rfl (sK hK3 (wp_seq_k fun K15 hK15 => rS fun K16 hK16 => sAi rfl (sK hK16 (wp_block ?_))))
  have h19 := (hr_4.ext hE12)
  have h18 : PZR w10 (fun _ => True) (some ⟨g9, 0, none⟩) 1 1 ([zr_4]) (nr_4) := PZR.one hB14 h19 (by omega)
  refine lLoop (fun m e w_ => ∃ (k : Nat) (O : List Int) (Ao : Option Addr) (no : Nat) (co_ : Nat) (W : List Int) (Ap : Option Addr) (np : Nat) (cp : Nat), m = nf - k ∧ e 0 = (.slice Af nf cf) ∧ e 1 = (.slice Ag ng cg) ∧ e 5 = (.slice Ao no co_) ∧ e 6 = (.slice Ap np cp) ∧ e 7 = (.int .i64 ((k : Int))) ∧ Frm (fun b => False) w10 w_ ∧ (k ≤ nf) ∧ (no ≤ 64 * k + 1) ∧ (np ≤ 64 * k + 1) ∧ (O = trimZ (pcs ff fg k)) ∧ (W = trimZ (ppow fg k)) ∧ (PZR w_ (fun _ => True) Ao no co_ O (100000 * k + 41)) ∧ (PZR w_ (fun _ => True) Ap np cp W (40000 * k + 41))) (nf - (0)) ?_ ?_
  · refine ⟨(0), ([]), (none), (0), (0), ([zr_4]), ((some ⟨g9, 0, none⟩)), (1), (1), rfl, rfl, rfl, rfl, rfl, cI, (Frm.refl _ _), ?_, ?_, ?_, ?_, ?_, ?_, ?_⟩
    · omega
    · omega
    · omega
    · rfl
    · rw [v_4]; exact trim_one.symm
    · exact PZR.nil
    · exact PZR.le h18 (by omega)
  · rintro m17 e28 w20 ⟨k, O, Ao, no, co_, W, Ap, np, cp, hm27, hs21, hs22, hs23, hs24, hs25, hF26, hk, hno, hnp, hO, hW, hR, hP⟩
    obtain ⟨r29, rfl⟩ := sq (e := e28) (t := 0) hs21
    obtain ⟨r30, rfl⟩ := sq (e := r29) (t := 1) hs22
    obtain ⟨r31, rfl⟩ := sq (e := r30) (t := 5) hs23
    obtain ⟨r32, rfl⟩ := sq (e := r31) (t := 6) hs24
    obtain ⟨r33, rfl⟩ := sq (e := r32) (t := 7) hs25
    have hz34 := hF26.size
    have ⟨lO, kO, mO⟩ := hR.lkm; have ⟨lP, kP, mP⟩ := hP.lkm
    refine wp_seq_k fun K35 hK35 => rS fun K36 hK36 => sMi rfl (sMs rfl (sV (evLen Try.underlying27 rfl) ?_))
    by_cases hc37 : ((k : Int)) < ((nf : Int))
    · refine sV (evLss true rfl rfl (dT hc37)) (sK hK36 (cT rfl (wp_skip (xN (hK35 _ _ (wp_seq_k fun K38 hK38 => wp_block (rS fun K39 hK39 => sMs rfl (sMs rfl (sMs rfl (sMi rfl ?_))))))))))
      have hR40 := (hE6.trans hE12).trans hF26
      have h41 := (hf.ext hR40)
      obtain ⟨b42, o43, rfl⟩ := h41.base (by omega)
      refine sV (evIx k Try.underlying27 sz31 rfl rfl (o43 + (k * 2))) ?_
      obtain ⟨s_44, A_44, n_44, c_44, z_44, hp_44, hq_44, h_44, hM_44, hS_44, hb_44, hz_44⟩ := h41.at_ (i := k) (by omega)
      have ⟨sg_44, k_44, m_44⟩ := h_44.lkm
      refine sV (evLoadA [(.int .i64 (s_44)), (.slice A_44 n_44 c_44)] agg31 sz31 rfl (cell2 hp_44 hq_44)) (sO (oCall rfl call39 (ref08_Scale hP h_44 (by omega) (by omega) (by omega)) rfl ?_))
      rintro _ w47 ⟨Ar_46, nr_46, cr_46, fr_46, rfl, hE48, hr_46, e_46, ln_46⟩
      have hz49 := hE48.size
      have ⟨lr_46, kr_46, mr_46⟩ := hr_46.lkm
      replace hr_46 := hr_46.low
      have h51 := (hR.ext hE48)
      refine sO (oCall rfl call38 (ref08_Add h51 hr_46 (by omega) (by omega) (by omega) (by omega)) rfl ?_)
      rintro _ w53 ⟨Ar_52, nr_52, cr_52, fr_52, rfl, hE54, hr_52, e_52, ln_52⟩
      have hz55 := hE54.size
      have ⟨lr_52, kr_52, mr_52⟩ := hr_52.lkm
      replace hr_52 := hr_52.low
      refine sAs rfl (sK hK39 (wp_region_lit (sMs rfl (sMs rfl ?_))))
      have hR57 := hE48.trans hE54
      have h58 := (hP.ext hR57)
      have hR59 := (hR40.trans hE48).trans hE54
      have h60 := (hg.ext hR59)
      refine sO (oCall rfl call16 (ref08_Mul h58 h60 (by omega) (by omega) (by omega) (by omega)) rfl ?_)
      rintro _ w62 ⟨Ar_61, nr_61, cr_61, fr_61, rfl, hE63, hr_61, e_61, ln_61⟩
      have hz64 := hE63.size
      have ⟨lr_61, kr_61, mr_61⟩ := hr_61.lkm
      replace hr_61 := hr_61.low
      refine sAs rfl (sDone (bN (xN (hK38 _ _ (wp_region_lit (sMi rfl (sV (evAdd (((k : Int)) + 1) rfl rfl wI) (sAi rfl (sDone ?_)))))))))
      have hR66 := hR57.trans hE63
      have h67 := (hr_52.ext hE63)
      refine again (nf - (k + 1)) (by omega) ⟨(k + 1), (fr_52), (Ar_52), (nr_52), (cr_52), (fr_61), (Ar_61), (nr_61), (cr_61), rfl, rfl, rfl, rfl, rfl, cI, (hF26.trans hR66), ?_, ?_, ?_, ?_, ?_, ?_, ?_⟩
      · omega
      · omega
      · omega
      · rw [e_52, hO, e_46, hW, hz_44]; exact refcomp_step _ _ _
      · rw [e_61, hW]; exact refpow_step _ _ _ fun _ => rfl
      · exact PZR.le (PZR.sub h67 fun _ _ _ => trivial) (by omega)
      · exact PZR.le (PZR.sub hr_61 fun _ _ _ => trivial) (by omega)
    · refine sV (evLss false rfl rfl (dF hc37)) (sK hK36 (cF rfl (wp_exit (xE (xE (bE (xN (hK15 _ _ (rS fun K68 hK68 => sMs rfl (sAs rfl (sK hK68 (wp_ret (ret1 (.slice Ao no co_) Try.results28 (resT rfl) ?_)))))))))))))
      have hR69 := (hE6.trans hE12).trans hF26
      exact ⟨Ao, no, co_, O, rfl, hR69, (PZR.le (PZR.sub hR fun _ _ _ => trivial) (by omega)), (by rw [hO, show k = nf by omega]), (by omega)⟩

theorem ref08_Same {w : World} {Sf : Nat → Prop} {Af : Option Addr} {nf cf Mf : Nat} {ff : List Int} {Sg : Nat → Prop} {Ag : Option Addr} {ng cg Mg : Nat} {fg : List Int} (hf : PZR w Sf Af nf cf ff Mf) (hg : PZR w Sg Ag ng cg fg Mg) (hMf : Mf ≤ 268435456) (hMg : Mg ≤ 268435456) : Calls Try.prog 45 #[(.slice Af nf cf), (.slice Ag ng cg)] w (Ret fun v w' => ∃ (gr : Bool), v = (.bool gr) ∧ Ext w w' ∧ (gr = decide (ff = fg))) := by
  have ⟨lf, kf, mf⟩ := hf.lkm
  replace hf := hf.low
  have ⟨lg, kg, mg⟩ := hg.lkm
  replace hg := hg.low
  refine enter Try.func45 rfl Try.ntmps45 rfl (rS fun K1 hK1 => sAb rfl (sK hK1 (wp_seq_k fun K2 hK2 => rS fun K3 hK3 => sMs rfl (sV (evLen Try.underlying27 rfl) (sMs rfl (sV (evLen Try.underlying27 rfl) ?_))))))
  by_cases hc4 : ((nf : Int)) ≠ ((ng : Int))
  · refine sV (evNeq true rfl rfl (dT hc4)) (sK hK3 (cT rfl (rS fun K5 hK5 => sAb rfl (sK hK5 (wp_ret (xR (ret1 (.bool false) Try.results45 (resT rfl) ?_)))))))
    exact ⟨(false), rfl, (Frm.refl _ _), (same_len (by omega))⟩
  · refine sV (evNeq false rfl rfl (dF hc4)) (sK hK3 (cF rfl (wp_skip (xN (hK2 _ _ (wp_seq_k fun K6 hK6 => rS fun K7 hK7 => sAi rfl (sK hK7 (wp_block ?_))))))))
    refine lLoop (fun m e w_ => ∃ (k : Nat), m = nf - k ∧ e 0 = (.slice Af nf cf) ∧ e 1 = (.slice Ag ng cg) ∧ e 5 = (.int .i64 ((k : Int))) ∧ Frm (fun b => False) w w_ ∧ (k ≤ nf) ∧ (∀ i, i < k → co ff i = co fg i)) (nf - (0)) ?_ ?_
    · refine ⟨(0), rfl, rfl, rfl, cI, (Frm.refl _ _), ?_, ?_⟩
      · omega
      · intro i hi; omega
    · rintro m8 e15 w9 ⟨k, hm14, hs10, hs11, hs12, hF13, hk, hq⟩
      obtain ⟨r16, rfl⟩ := sq (e := e15) (t := 0) hs10
      obtain ⟨r17, rfl⟩ := sq (e := r16) (t := 1) hs11
      obtain ⟨r18, rfl⟩ := sq (e := r17) (t := 5) hs12
      have hz19 := hF13.size
      refine wp_seq_k fun K20 hK20 => rS fun K21 hK21 => sMi rfl (sMs rfl (sV (evLen Try.underlying27 rfl) ?_))
      by_cases hc22 : ((k : Int)) < ((nf : Int))
      · refine sV (evLss true rfl rfl (dT hc22)) (sK hK21 (cT rfl (wp_skip (xN (hK20 _ _ (wp_seq_k fun K23 hK23 => wp_block (wp_seq_k fun K24 hK24 => dBegin (fun _ => False) mixed (fun w25 hE26 hz27 => dMs 0 rfl rfl (dMi 1 rfl rfl ?_)))))))))
        have hR28 := hF13.trans hE26
        have h29 := (hf.ext hR28)
        obtain ⟨b30, o31, rfl⟩ := h29.base (by omega)
        refine dV 2 rfl (fun _ _ => evIx k Try.underlying27 sz31 rfl rfl (o31 + (k * 2))) ?_
        obtain ⟨s_32, A_32, n_32, c_32, z_32, hp_32, hq_32, h_32, hM_32, hS_32, hb_32, hz_32⟩ := h29.at_ (i := k) (by omega)
        have ⟨sg_32, k_32, m_32⟩ := h_32.lkm
        refine dV 3 rfl (fun _ hf => evLoadA [(.int .i64 (s_32)), (.slice A_32 n_32 c_32)] agg31 sz31 rfl (cell2F hp_32 hq_32 hf hb_32 (fun h => h))) (dMs 4 rfl rfl (dMi 5 rfl rfl ?_))
        have h34 := (hg.ext hR28)
        obtain ⟨b35, o36, rfl⟩ := h34.base (by omega)
        refine dV 6 rfl (fun _ _ => evIx k Try.underlying27 sz31 rfl rfl (o36 + (k * 2))) ?_
        obtain ⟨s_37, A_37, n_37, c_37, z_37, hp_37, hq_37, h_37, hM_37, hS_37, hb_37, hz_37⟩ := h34.at_ (i := k) (by omega)
        have ⟨sg_37, k_37, m_37⟩ := h_37.lkm
        refine dV 7 rfl (fun _ hf => evLoadA [(.int .i64 (s_37)), (.slice A_37 n_37 c_37)] agg31 sz31 rfl (cell2F hp_37 hq_37 hf hb_37 (fun h => h))) (dOp 8 rfl rfl (by kernel_rfl) (oCall rfl call34 (ref02_Cmp h_32 h_37 (by omega) (by omega)) rfl ?_))
        rintro _ w40 ⟨xr_39, rfl, hE41, e_39⟩
        refine ⟨(Frm.of_ext hE41), ?_⟩
        have hz42 := hE41.size
        by_cases hc43 : xr_39 ≠ 0
        · refine dV 9 rfl (fun _ _ => evNeq true rfl rfl (dT hc43)) (dDone (by kernel_rfl) (xN (hK24 _ _ (cT rfl (rS fun K44 hK44 => sAb rfl (sK hK44 (wp_ret (bR (xR (xR (bR (xR (ret1 (.bool false) Try.results45 (resT rfl) ?_)))))))))))))
          have hR45 := hR28.trans hE41
          exact ⟨(false), rfl, hR45, (same_no hz_32 hz_37 e_39 hc43)⟩
        · refine dV 9 rfl (fun _ _ => evNeq false rfl rfl (dF hc43)) (dDone (by kernel_rfl) (xN (hK24 _ _ (cF rfl (wp_skip (bN (xN (hK23 _ _ (wp_region_lit (sMi rfl (sV (evAdd (((k : Int)) + 1) rfl rfl wI) (sAi rfl (sDone ?_)))))))))))))
          have hR46 := hE26.trans hE41
          refine again (nf - (k + 1)) (by omega) ⟨(k + 1), rfl, rfl, rfl, cI, (hF13.trans hR46), ?_, ?_⟩
          · omega
          · exact same_step hq hz_32 hz_37 e_39 hc43
      · refine sV (evLss false rfl rfl (dF hc22)) (sK hK21 (cF rfl (wp_exit (xE (xE (bE (xN (hK6 _ _ (rS fun K47 hK47 => sAb rfl (sK hK47 (wp_ret (ret1 (.bool true) Try.results45 (resT rfl) ?_))))))))))))
        exact ⟨(true), rfl, hF13, (same_all hq (by omega) (by omega))⟩

theorem ref08_Compare {w : World} {Sf : Nat → Prop} {Af : Option Addr} {nf cf Mf : Nat} {ff : List Int} {Sg : Nat → Prop} {Ag : Option Addr} {ng cg Mg : Nat} {fg : List Int} (hf : PZR w Sf Af nf cf ff Mf) (hg : PZR w Sg Ag ng cg fg Mg) (hMf : Mf ≤ 268435456) (hMg : Mg ≤ 268435456) : Calls Try.prog 47 #[(.slice Af nf cf), (.slice Ag ng cg)] w (Ret fun v w' => ∃ (xr : Int), v = (.int .i64 (xr)) ∧ Ext w w' ∧ (xr = cmpP ff fg)) := by
  have ⟨lf, kf, mf⟩ := hf.lkm
  replace hf := hf.low
  have ⟨lg, kg, mg⟩ := hg.lkm
  replace hg := hg.low
  refine enter Try.func47 rfl Try.ntmps47 rfl (rS fun K1 hK1 => sAi rfl (sK hK1 (wp_seq_k fun K2 hK2 => rS fun K3 hK3 => sMs rfl (sV (evLen Try.underlying27 rfl) (sMs rfl (sV (evLen Try.underlying27 rfl) ?_))))))
  by_cases hc4 : ((nf : Int)) ≠ ((ng : Int))
  · refine sV (evNeq true rfl rfl (dT hc4)) (sK hK3 (cT rfl (wp_seq_k fun K5 hK5 => rS fun K6 hK6 => sMs rfl (sV (evLen Try.underlying27 rfl) (sMs rfl (sV (evLen Try.underlying27 rfl) ?_))))))
    by_cases hc7 : ((nf : Int)) < ((ng : Int))
    · refine sV (evLss true rfl rfl (dT hc7)) (sK hK6 (cT rfl (rS fun K8 hK8 => sAi rfl (sK hK8 (wp_ret (xR (xR (ret1 (.int .i64 ((-1))) Try.results47 (resT rfl) ?_))))))))
      exact ⟨((-1)), rfl, (Frm.refl _ _), (cmpP_lt (by omega))⟩
    · refine sV (evLss false rfl rfl (dF hc7)) (sK hK6 (cF rfl (wp_skip (xN (hK5 _ _ (rS fun K9 hK9 => sAi rfl (sK hK9 (wp_ret (xR (ret1 (.int .i64 (1)) Try.results47 (resT rfl) ?_))))))))))
      exact ⟨(1), rfl, (Frm.refl _ _), (cmpP_gt (by omega))⟩
  · refine sV (evNeq false rfl rfl (dF hc4)) (sK hK3 (cF rfl (wp_skip (xN (hK2 _ _ (wp_seq_k fun K10 hK10 => rS fun K11 hK11 => sMs rfl (sV (evLen Try.underlying27 rfl) (sV (evSub (((nf : Int)) - 1) rfl rfl wI) (sAi rfl (sK hK11 (wp_block ?_)))))))))))
    refine lLoop (fun m e w_ => ∃ (k : Nat), m = k ∧ e 0 = (.slice Af nf cf) ∧ e 1 = (.slice Ag ng cg) ∧ e 5 = (.int .i64 ((k : Int) - 1)) ∧ Frm (fun b => False) w w_ ∧ (k ≤ nf) ∧ (cmpP ff fg = cmpTop ff fg k)) ((nf)) ?_ ?_
    · refine ⟨(nf), rfl, rfl, rfl, cI, (Frm.refl _ _), ?_, ?_⟩
      · omega
      · exact cmpP_eq (by omega) (by omega)
    · rintro m12 e19 w13 ⟨k, hm18, hs14, hs15, hs16, hF17, hk, hX⟩
      obtain ⟨r20, rfl⟩ := sq (e := e19) (t := 0) hs14
      obtain ⟨r21, rfl⟩ := sq (e := r20) (t := 1) hs15
      obtain ⟨r22, rfl⟩ := sq (e := r21) (t := 5) hs16
      have hz23 := hF17.size
      refine wp_seq_k fun K24 hK24 => rS fun K25 hK25 => sMi rfl ?_
      by_cases hc26 : ((k : Int) - 1) ≥ 0
      · refine sV (evGeq true rfl rfl (dT hc26)) (sK hK25 (cT rfl (wp_skip (xN (hK24 _ _ (wp_seq_k fun K27 hK27 => wp_block (wp_seq_k fun K28 hK28 => dBegin (fun _ => False) mixed (fun w29 hE30 hz31 => dMs 0 rfl rfl (dMi 1 rfl rfl ?_)))))))))
        have hR32 := hF17.trans hE30
        have h33 := (hf.ext hR32)
        obtain ⟨b34, o35, rfl⟩ := h33.base (by omega)
        refine dV 2 rfl (fun _ _ => evIx (k - 1) Try.underlying27 sz31 rfl rfl (o35 + ((k - 1) * 2))) ?_
        obtain ⟨s_36, A_36, n_36, c_36, z_36, hp_36, hq_36, h_36, hM_36, hS_36, hb_36, hz_36⟩ := h33.at_ (i := k - 1) (by omega)
        have ⟨sg_36, k_36, m_36⟩ := h_36.lkm
        refine dV 3 rfl (fun _ hf => evLoadA [(.int .i64 (s_36)), (.slice A_36 n_36 c_36)] agg31 sz31 rfl (cell2F hp_36 hq_36 hf hb_36 (fun h => h))) (dMs 4 rfl rfl (dMi 5 rfl rfl ?_))
        have h38 := (hg.ext hR32)
        obtain ⟨b39, o40, rfl⟩ := h38.base (by omega)
        refine dV 6 rfl (fun _ _ => evIx (k - 1) Try.underlying27 sz31 rfl rfl (o40 + ((k - 1) * 2))) ?_
        obtain ⟨s_41, A_41, n_41, c_41, z_41, hp_41, hq_41, h_41, hM_41, hS_41, hb_41, hz_41⟩ := h38.at_ (i := k - 1) (by omega)
        have ⟨sg_41, k_41, m_41⟩ := h_41.lkm
        refine dV 7 rfl (fun _ hf => evLoadA [(.int .i64 (s_41)), (.slice A_41 n_41 c_41)] agg31 sz31 rfl (cell2F hp_41 hq_41 hf hb_41 (fun h => h))) (dOp 8 rfl rfl (by kernel_rfl) (oCall rfl call34 (ref02_Cmp h_36 h_41 (by omega) (by omega)) rfl ?_))
        rintro _ w44 ⟨xr_43, rfl, hE45, e_43⟩
        refine ⟨(Frm.of_ext hE45), ?_⟩
        have hz46 := hE45.size
        refine dAi 9 rfl rfl (dDone (by kernel_rfl) (xN (hK28 _ _ (rS fun K47 hK47 => sMi rfl ?_))))
        by_cases hc48 : xr_43 ≠ 0
        · refine sV (evNeq true rfl rfl (dT hc48)) (sK hK47 (cT rfl (rS fun K49 hK49 => sMi rfl (sAi rfl (sK hK49 (wp_ret (bR (xR (xR (bR (xR (ret1 (.int .i64 (xr_43)) Try.results47 (resT rfl) ?_))))))))))))
          have hR50 := hR32.trans hE45
          exact ⟨(xr_43), rfl, hR50, (by rw [cmpTop_stop hX (by omega) (by rw [← hz_36, ← hz_41]; intro hh; exact absurd (e_43.trans (cmpZ_eq_zero.2 hh)) (by omega)), ← hz_36, ← hz_41]; exact e_43)⟩
        · refine sV (evNeq false rfl rfl (dF hc48)) (sK hK47 (cF rfl (wp_skip (bN (xN (hK27 _ _ (wp_region_lit (sMi rfl (sV (evSub (((k : Int) - 1) - 1) rfl rfl wI) (sAi rfl (sDone ?_)))))))))))
          have hR51 := hE30.trans hE45
          refine again ((k - 1)) (by omega) ⟨(k - 1), rfl, rfl, rfl, cI, (hF17.trans hR51), ?_, ?_⟩
          · omega
          · exact cmpTop_down hX (by omega) (by rw [← hz_36, ← hz_41]; exact cmpZ_eq_zero.1 (e_43 ▸ (by omega)))
      · refine sV (evGeq false rfl rfl (dF hc26)) (sK hK25 (cF rfl (wp_exit (xE (xE (bE (xN (hK10 _ _ (rS fun K52 hK52 => sAi rfl (sK hK52 (wp_ret (ret1 (.int .i64 (0)) Try.results47 (resT rfl) ?_))))))))))))
        exact ⟨(0), rfl, hF17, (by rw [hX, show k = 0 by omega]; rfl)⟩

end Go.Proofs.Ytppegjbdencefaa
