/-
  Walks of package cylinderref08: polynomials of the reference.
-/
import Derived.Test.YtppegjbdencefaaRef3
import Derived.Test.YtppegjbdencefaaPZPreds
import Derived.Test.YtppegjbdencefaaPolyMath2
namespace Go.Proofs.Ytppegjbdencefaa
open Go.RowKit Go.Gx
theorem ref08_Trim {w : World} {Sa : Nat → Prop} {Aa : Option Addr} {na ca Ma : Nat} {fa : List Int} (ha : PZR w Sa Aa na ca fa Ma)  : Calls Try.prog 29 #[(.slice Aa na ca)] w (Ret fun v w' => ∃ (Ar : Option Addr) (nr : Nat) (cr : Nat) (fr : List Int), v = (.slice Ar nr cr) ∧ Ext w w' ∧ PZR w' (Sa) Ar nr cr fr (Ma) ∧ (fr = trimZ fa) ∧ (nr ≤ na)) := by
  have ⟨la, ka, ma⟩ := ha.lkm
  replace ha := ha.sub (S' := fun b => Sa b ∧ b < w.heap.size) fun _ hb hs => ⟨hs, hb⟩
  refine enter Try.func29 rfl Try.ntmps29 rfl (rS fun K1 hK1 => sAs rfl (sK hK1 (rS fun K2 hK2 => sMs rfl (sV (evLen Try.underlying27 rfl) (sAi rfl (sK hK2 (wp_seq_k fun K3 hK3 => wp_block ?_)))))))
  refine lLoop (fun m e w_ => ∃ (k : Nat), m = k ∧ e 0 = (.slice Aa na ca) ∧ e 3 = (.int .i64 ((k : Int))) ∧ Frm (fun b => False) w w_ ∧ (k ≤ na) ∧ (∀ j, k ≤ j → fa.getD j 0 = 0)) ((na)) ?_ ?_
  · refine ⟨(na), rfl, rfl, cI, (Frm.refl _ _), ?_, ?_⟩
    · omega
    · exact zget_ge (by omega)
  · rintro m4 e10 w5 ⟨k, hm9, hs6, hs7, hF8, hk, hz⟩
    obtain ⟨r11, rfl⟩ := sq (e := e10) (t := 0) hs6
    obtain ⟨r12, rfl⟩ := sq (e := r11) (t := 3) hs7
    have hz13 := hF8.size
    refine wp_seq_k fun K14 hK14 => rS fun K15 hK15 => sMi rfl ?_
    by_cases hc16 : ((k : Int)) > 0
    · refine sV (evGtr true rfl rfl (dT hc16)) (sMb rfl (sEv (v := (.slice Aa na ca)) (rfl) rfl rfl (sEv (v := (.int .i64 ((k : Int)))) (rfl) rfl rfl (sEv (v := (.int .i64 (((k : Int)) - 1))) (evSub (((k : Int)) - 1) rfl rfl wI) rfl rfl ?_))))
      have h17 := (ha.ext hF8)
      obtain ⟨b18, o19, rfl⟩ := h17.base (by omega)
      refine sEv (v := (.pointer (some ⟨b18, o19 + ((k - 1) * 2), none⟩))) (evIx (k - 1) Try.underlying27 sz31 rfl rfl (o19 + ((k - 1) * 2))) rfl rfl (sEv (v := (.pointer (some ⟨b18, o19 + ((k - 1) * 2), none⟩))) (evFA (o19 + ((k - 1) * 2)) fa31_0 rfl rfl) rfl rfl ?_)
      obtain ⟨s_20, A_20, n_20, c_20, z_20, hp_20, hq_20, h_20, hM_20, hS_20, hb_20, hz_20⟩ := h17.at_ (i := k - 1) (by omega)
      have ⟨sg_20, k_20, m_20⟩ := h_20.lkm
      refine sEv (v := (.int .i64 (s_20))) (evLoad one3 rfl hp_20) rfl rfl ?_
      by_cases hc21 : s_20 = 0
      · refine sEv (v := (.bool true)) (evEql true rfl rfl (dT hc21)) rfl rfl ?_
        have hzz := (zsign_iff sg_20 hz_20).1 hc21
        refine sV (v := (.bool true)) (rfl) (sK hK15 (cT rfl (wp_skip (xN (hK14 _ _ (wp_block (wp_region_lit (sMi rfl (sV (evSub (((k : Int)) - 1) rfl rfl wI) (sAi rfl (sDone (bN (again ((k - 1)) (by omega) ⟨(k - 1), rfl, rfl, cI, hF8, ?_, ?_⟩)))))))))))))
        · omega
        · exact zeros_downZ hz hzz
      · refine sEv (v := (.bool false)) (evEql false rfl rfl (dF hc21)) rfl rfl ?_
        have hzz := fun hh => hc21 ((zsign_iff sg_20 hz_20).2 hh)
        refine sV (v := (.bool false)) (rfl) (sK hK15 (cF rfl (wp_exit (xE (xE (bE (xN (hK3 _ _ (rS fun K22 hK22 => sMs rfl (sMi rfl ?_))))))))))
        have h23 := h17.take (m := k) (by omega)
        refine sV (evSliceHi k Try.underlying27 sz31 rfl rfl (by omega) (by omega)) (sAs rfl (sK hK22 (wp_ret (ret1 (.slice (some ⟨b18, o19, none⟩) k ca) Try.results29 (resT rfl) ?_))))
        exact ⟨(some ⟨b18, o19, none⟩), k, ca, ((fa).take k), rfl, hF8, (PZR.le (PZR.sub h23 fun _ _ h => h.1) (by omega)), (trimZ_of (by omega) hz (by first | omega | exact .inr hzz)), (by omega)⟩
    · refine sV (evGtr false rfl rfl (dF hc16)) (sMb rfl (sSkip rfl rfl (sSkip rfl rfl (sSkip rfl rfl (sSkip rfl rfl (sSkip rfl rfl (sSkip rfl rfl (sSkip rfl rfl (sV (v := (.bool false)) (rfl) (sK hK15 (cF rfl (wp_exit (xE (xE (bE (xN (hK3 _ _ (rS fun K25 hK25 => sMs rfl (sMi rfl ?_)))))))))))))))))))
      have h26 := (ha.ext hF8)
      have h27 := h26.take (m := k) (by omega)
      refine sV (evSliceHi k Try.underlying27 sz31 rfl rfl (by omega) (by omega)) (sAs rfl (sK hK25 (wp_ret (ret1 (.slice Aa k ca) Try.results29 (resT rfl) ?_))))
      exact ⟨Aa, k, ca, ((fa).take k), rfl, hF8, (PZR.le (PZR.sub h27 fun _ _ h => h.1) (by omega)), (trimZ_of (by omega) hz (by first | omega | exact .inr hzz)), (by omega)⟩

theorem ref08_At {w : World} {Sf : Nat → Prop} {Af : Option Addr} {nf cf Mf : Nat} {ff : List Int} {xi : Int} (hf : PZR w Sf Af nf cf ff Mf)  : Calls Try.prog 44 #[(.slice Af nf cf), (.int .i64 (xi))] w (Ret fun v w' => ∃ (sr : Int) (Ar : Option Addr) (nr : Nat) (cr : Nat) (zr : Int), v = (.agg #[(.int .i64 (sr)), (.slice Ar nr cr)]) ∧ Ext w w' ∧ ZR w' (Sf) sr Ar nr cr zr ∧ (zr = coI ff xi) ∧ (nr ≤ Mf)) := by
  have ⟨lf, kf, mf⟩ := hf.lkm
  replace hf := hf.sub (S' := fun b => Sf b ∧ b < w.heap.size) fun _ hb hs => ⟨hs, hb⟩
  refine enter Try.func44 rfl Try.ntmps44 rfl (rS fun K1 hK1 => sO (oAlloc [(.int .i64 (0)), (.slice none 0 0)] zero31 rfl (fun g2 w3 hg4 hE5 hz6 hB7 => sK hK1 (wp_seq_k fun K8 hK8 => rS fun K9 hK9 => sMi rfl ?_))))
  by_cases hc10 : xi < 0
  · refine sV (evLss true rfl rfl (dT hc10)) (sMb rfl (sSkip rfl rfl (sSkip rfl rfl (sSkip rfl rfl (sSkip rfl rfl (sV (v := (.bool true)) (rfl) (sK hK9 (cT rfl (rS fun K11 hK11 => sV (v := (.agg #[(.int .i64 (0)), (.slice none 0 0)])) (evK (by kernel_rfl)) (sO (oStore [(.int .i64 (0)), (.slice none 0 0)] rfl rfl rfl sz31 rfl hB7 (Nat.le_of_ble_eq_true rfl) (fun w12 hU13 hz14 hB15 => ?_))))))))))))
    replace hB15 : Blk w12 g2 31 [(.int .i64 (0)), (.slice none 0 0)] := hB15
    refine sK hK11 (wp_ret (xR (ret1 (.agg #[(.int .i64 (0)), (.slice none 0 0)]) Try.results44 (resB [(.int .i64 (0)), (.slice none 0 0)] agg31 sz31 rfl hB15) ?_)))
    have hR16 := hE5.rx hU13
    exact ⟨0, none, 0, 0, 0, rfl, (Frm.mono hR16 q4), ZR.zero, (coI_out (by omega)), (by omega)⟩
  · refine sV (evLss false rfl rfl (dF hc10)) (sMb rfl (sEv (v := (.int .i64 (xi))) (rfl) rfl rfl (sEv (v := (.slice Af nf cf)) (rfl) rfl rfl (sEv (v := (.int .i64 ((nf : Int)))) (evLen Try.underlying27 rfl) rfl rfl ?_))))
    by_cases hc17 : xi ≥ ((nf : Int))
    · refine sEv (v := (.bool true)) (evGeq true rfl rfl (dT hc17)) rfl rfl (sV (v := (.bool true)) (rfl) (sK hK9 (cT rfl (rS fun K18 hK18 => sV (v := (.agg #[(.int .i64 (0)), (.slice none 0 0)])) (evK (by kernel_rfl)) (sO (oStore [(.int .i64 (0)), (.slice none 0 0)] rfl rfl rfl sz31 rfl hB7 (Nat.le_of_ble_eq_true rfl) (fun w19 hU20 hz21 hB22 => ?_)))))))
      replace hB22 : Blk w19 g2 31 [(.int .i64 (0)), (.slice none 0 0)] := hB22
      refine sK hK18 (wp_ret (xR (ret1 (.agg #[(.int .i64 (0)), (.slice none 0 0)]) Try.results44 (resB [(.int .i64 (0)), (.slice none 0 0)] agg31 sz31 rfl hB22) ?_)))
      have hR23 := hE5.rx hU20
      exact ⟨0, none, 0, 0, 0, rfl, (Frm.mono hR23 q4), ZR.zero, (coI_out (by omega)), (by omega)⟩
    · refine sEv (v := (.bool false)) (evGeq false rfl rfl (dF hc17)) rfl rfl (sV (v := (.bool false)) (rfl) (sK hK9 (cF rfl (wp_skip (xN (hK8 _ _ (rS fun K24 hK24 => sMs rfl (sMi rfl ?_))))))))
      have h25 := (hf.ext hE5)
      obtain ⟨b26, o27, rfl⟩ := h25.base (by omega)
      refine sV (evIx xi.toNat Try.underlying27 sz31 rfl rfl (o27 + (xi.toNat * 2))) ?_
      obtain ⟨s_28, A_28, n_28, c_28, z_28, hp_28, hq_28, h_28, hM_28, hS_28, hb_28, hz_28⟩ := h25.at_ (i := xi.toNat) (by omega)
      have ⟨sg_28, k_28, m_28⟩ := h_28.lkm
      refine sV (evLoadA [(.int .i64 (s_28)), (.slice A_28 n_28 c_28)] agg31 sz31 rfl (cell2 hp_28 hq_28)) (sO (oStore [(.int .i64 (s_28)), (.slice A_28 n_28 c_28)] rfl rfl rfl sz31 rfl hB7 (Nat.le_of_ble_eq_true rfl) (fun w30 hU31 hz32 hB33 => ?_)))
      replace hB33 : Blk w30 g2 31 [(.int .i64 (s_28)), (.slice A_28 n_28 c_28)] := hB33
      refine sK hK24 (wp_ret (ret1 (.agg #[(.int .i64 (s_28)), (.slice A_28 n_28 c_28)]) Try.results44 (resB [(.int .i64 (s_28)), (.slice A_28 n_28 c_28)] agg31 sz31 rfl hB33) ?_))
      have h34 := (h_28.frmB hU31 q3)
      have hR35 := hE5.rx hU31
      exact ⟨(s_28), A_28, n_28, c_28, (z_28), rfl, (Frm.mono hR35 q4), (ZR.sub h34 fun _ _ h => h.1), (hz_28.trans (coI_in (by omega))), (by omega)⟩

theorem ref08_Add {w : World} {Sf : Nat → Prop} {Af : Option Addr} {nf cf Mf : Nat} {ff : List Int} {Sg : Nat → Prop} {Ag : Option Addr} {ng cg Mg : Nat} {fg : List Int} (hf : PZR w Sf Af nf cf ff Mf) (hg : PZR w Sg Ag ng cg fg Mg) (hnf : nf ≤ 65536) (hMf : Mf ≤ 268435456) (hng : ng ≤ 65536) (hMg : Mg ≤ 268435456) : Calls Try.prog 38 #[(.slice Af nf cf), (.slice Ag ng cg)] w (Ret fun v w' => ∃ (Ar : Option Addr) (nr : Nat) (cr : Nat) (fr : List Int), v = (.slice Ar nr cr) ∧ Ext w w' ∧ PZR w' (fun _ => True) Ar nr cr fr (max Mf Mg + 1) ∧ (fr = trimZ (padd ff fg)) ∧ (nr ≤ max nf ng)) := by
  have ⟨lf, kf, mf⟩ := hf.lkm
  replace hf := hf.low
  have ⟨lg, kg, mg⟩ := hg.lkm
  replace hg := hg.low
  refine enter Try.func38 rfl Try.ntmps38 rfl (rS fun K1 hK1 => sAs rfl (sK hK1 (rS fun K2 hK2 => sAs rfl (sK hK2 (wp_seq_k fun K3 hK3 => rS fun K4 hK4 => sAi rfl (sK hK4 (wp_block ?_)))))))
  refine lLoop (fun m e w_ => ∃ (k : Nat) (O : List Int) (Ao : Option Addr) (cp : Nat) (no : Nat), m = max nf ng - k ∧ e 0 = (.slice Af nf cf) ∧ e 1 = (.slice Ag ng cg) ∧ e 5 = (.slice Ao no cp) ∧ e 6 = (.int .i64 ((k : Int))) ∧ Frm (fun b => w.heap.size ≤ b) w w_ ∧ (k ≤ max nf ng) ∧ (no = k) ∧ (O = (List.range k).map (fun i => co ff i + co fg i)) ∧ (OwnZ (fun _ => True) w_ w.heap.size 31 Ao no cp O (max Mf Mg + 1))) (max nf ng - (0)) ?_ ?_
  · refine ⟨(0), ([]), (none), (0), (0), rfl, rfl, rfl, rfl, cI, (Frm.refl _ _), ?_, ?_, ?_, ?_⟩
    · omega
    · omega
    · rfl
    · exact OwnZ.nil
  · rintro m5 e13 w6 ⟨k, O, Ao, cp, no, hm12, hs7, hs8, hs9, hs10, hF11, hk, hno, hF, hO⟩
    obtain ⟨r14, rfl⟩ := sq (e := e13) (t := 0) hs7
    obtain ⟨r15, rfl⟩ := sq (e := r14) (t := 1) hs8
    obtain ⟨r16, rfl⟩ := sq (e := r15) (t := 5) hs9
    obtain ⟨r17, rfl⟩ := sq (e := r16) (t := 6) hs10
    have hz18 := hF11.size
    have ⟨lO, kO, mO⟩ := hO.lkm
    refine wp_seq_k fun K19 hK19 => rS fun K20 hK20 => sMi rfl (sMs rfl (sV (evLen Try.underlying27 rfl) ?_))
    by_cases hc21 : ((k : Int)) < ((nf : Int))
    · refine sV (evLss true rfl rfl (dT hc21)) (sMb rfl (sSkip rfl rfl (sSkip rfl rfl (sSkip rfl rfl (sSkip rfl rfl (sV (v := (.bool true)) (rfl) (sK hK20 (cT rfl (wp_skip (xN (hK19 _ _ (wp_seq_k fun K22 hK22 => wp_block (wp_region_lit (sMs rfl (sMs rfl (sMi rfl ?_))))))))))))))))
      have h23 := (hf.frmB hF11 q3)
      refine sO (oCall rfl call44 (ref08_At h23) rfl ?_)
      rintro _ w25 ⟨sr_24, Ar_24, nr_24, cr_24, zr_24, rfl, hE26, hr_24, v_24, le_24⟩
      have hz27 := hE26.size
      have ⟨sgr_24, kr_24, mr_24⟩ := hr_24.lkm
      refine sMs rfl (sMi rfl ?_)
      have hR29 := hF11.xr hE26
      have h30 := (hg.frmB hR29 q3)
      refine sO (oCall rfl call44 (ref08_At h30) rfl ?_)
      rintro _ w32 ⟨sr_31, Ar_31, nr_31, cr_31, zr_31, rfl, hE33, hr_31, v_31, le_31⟩
      have hz34 := hE33.size
      have ⟨sgr_31, kr_31, mr_31⟩ := hr_31.lkm
      have h36 := (hr_24.ext hE33)
      refine sO (oCall rfl call79 (ref02_Add h36 hr_31 (by omega) (by omega)) rfl ?_)
      rintro _ w38 ⟨sr_37, Ar_37, nr_37, cr_37, zr_37, rfl, hE39, hr_37, v_37, le_37⟩
      have hz40 := hE39.size
      have ⟨sgr_37, kr_37, mr_37⟩ := hr_37.lkm
      refine sO (oBuildSlice [(.agg #[(.int .i64 (sr_37)), (.slice Ar_37 nr_37 cr_37)])] [[(.int .i64 (sr_37)), (.slice Ar_37 nr_37 cr_37)]] Try.underlying27 inf31 rfl rfl rfl rfl rfl (fun g42 w43 hg44 hE45 hz46 hB47 => ?_))
      replace hB47 : Blk w43 g42 31 [(.int .i64 (sr_37)), (.slice Ar_37 nr_37 cr_37)] := hB47
      have hR48 := ((hE26.trans hE33).trans hE39).trans hE45
      have hO49 := (hO.ext hR48)
      have h55 := (hr_37.ext hE45)
      refine sO (oAppZ (B := w.heap.size) Try.underlying27 inf31 rfl rfl rfl hO49 hB47 h55 (by omega) (by intro b hlt hb a ha; have h1 := hO.lt a ha; (try dsimp only at hb); omega) (fun _ _ _ => trivial) (by omega) (by omega) (by omega) (fun A50 c51 w52 hO53 hF54 => sAs rfl (sDone (bN (xN (hK22 _ _ (wp_region_lit (sMi rfl (sV (evAdd (((k : Int)) + 1) rfl rfl wI) (sAi rfl (sDone ?_)))))))))))
      have hR56 := hR48.rx hF54
      refine again (max nf ng - (k + 1)) (by omega) ⟨(k + 1), (O ++ [zr_37]), (A50), (c51), (no + 1), rfl, rfl, rfl, rfl, cI, (hF11.trans hR56), ?_, ?_, ?_, ?_⟩
      · omega
      · omega
      · exact range_snoc hF (by rw [v_37, v_24, v_31, coI_nat, coI_nat])
      · exact hO53
    · refine sV (evLss false rfl rfl (dF hc21)) (sMb rfl (sEv (v := (.int .i64 ((k : Int)))) (rfl) rfl rfl (sEv (v := (.slice Ag ng cg)) (rfl) rfl rfl (sEv (v := (.int .i64 ((ng : Int)))) (evLen Try.underlying27 rfl) rfl rfl ?_))))
      by_cases hc57 : ((k : Int)) < ((ng : Int))
      · refine sEv (v := (.bool true)) (evLss true rfl rfl (dT hc57)) rfl rfl (sV (v := (.bool true)) (rfl) (sK hK20 (cT rfl (wp_skip (xN (hK19 _ _ (wp_seq_k fun K58 hK58 => wp_block (wp_region_lit (sMs rfl (sMs rfl (sMi rfl ?_)))))))))))
        have h59 := (hf.frmB hF11 q3)
        refine sO (oCall rfl call44 (ref08_At h59) rfl ?_)
        rintro _ w61 ⟨sr_60, Ar_60, nr_60, cr_60, zr_60, rfl, hE62, hr_60, v_60, le_60⟩
        have hz63 := hE62.size
        have ⟨sgr_60, kr_60, mr_60⟩ := hr_60.lkm
        refine sMs rfl (sMi rfl ?_)
        have hR65 := hF11.xr hE62
        have h66 := (hg.frmB hR65 q3)
        refine sO (oCall rfl call44 (ref08_At h66) rfl ?_)
        rintro _ w68 ⟨sr_67, Ar_67, nr_67, cr_67, zr_67, rfl, hE69, hr_67, v_67, le_67⟩
        have hz70 := hE69.size
        have ⟨sgr_67, kr_67, mr_67⟩ := hr_67.lkm
        have h72 := (hr_60.ext hE69)
        refine sO (oCall rfl call79 (ref02_Add h72 hr_67 (by omega) (by omega)) rfl ?_)
        rintro _ w74 ⟨sr_73, Ar_73, nr_73, cr_73, zr_73, rfl, hE75, hr_73, v_73, le_73⟩
        have hz76 := hE75.size
        have ⟨sgr_73, kr_73, mr_73⟩ := hr_73.lkm
        refine sO (oBuildSlice [(.agg #[(.int .i64 (sr_73)), (.slice Ar_73 nr_73 cr_73)])] [[(.int .i64 (sr_73)), (.slice Ar_73 nr_73 cr_73)]] Try.underlying27 inf31 rfl rfl rfl rfl rfl (fun g78 w79 hg80 hE81 hz82 hB83 => ?_))
        replace hB83 : Blk w79 g78 31 [(.int .i64 (sr_73)), (.slice Ar_73 nr_73 cr_73)] := hB83
        have hR84 := ((hE62.trans hE69).trans hE75).trans hE81
        have hO85 := (hO.ext hR84)
        have h91 := (hr_73.ext hE81)
        refine sO (oAppZ (B := w.heap.size) Try.underlying27 inf31 rfl rfl rfl hO85 hB83 h91 (by omega) (by intro b hlt hb a ha; have h1 := hO.lt a ha; (try dsimp only at hb); omega) (fun _ _ _ => trivial) (by omega) (by omega) (by omega) (fun A86 c87 w88 hO89 hF90 => sAs rfl (sDone (bN (xN (hK58 _ _ (wp_region_lit (sMi rfl (sV (evAdd (((k : Int)) + 1) rfl rfl wI) (sAi rfl (sDone ?_)))))))))))
        have hR92 := hR84.rx hF90
        refine again (max nf ng - (k + 1)) (by omega) ⟨(k + 1), (O ++ [zr_73]), (A86), (c87), (no + 1), rfl, rfl, rfl, rfl, cI, (hF11.trans hR92), ?_, ?_, ?_, ?_⟩
        · omega
        · omega
        · exact range_snoc hF (by rw [v_73, v_60, v_67, coI_nat, coI_nat])
        · exact hO89
      · refine sEv (v := (.bool false)) (evLss false rfl rfl (dF hc57)) rfl rfl (sV (v := (.bool false)) (rfl) (sK hK20 (cF rfl (wp_exit (xE (xE (bE (xN (hK3 _ _ (rS fun K93 hK93 => sMs rfl (sO (oCall rfl call29 (ref08_Trim (OwnZ.pzr hO)) rfl ?_))))))))))))
        rintro _ w95 ⟨Ar_94, nr_94, cr_94, fr_94, rfl, hE96, hr_94, e_94, le_94⟩
        have hz97 := hE96.size
        have ⟨lr_94, kr_94, mr_94⟩ := hr_94.lkm
        replace hr_94 := hr_94.low
        refine sAs rfl (sK hK93 (wp_ret (ret1 (.slice Ar_94 nr_94 cr_94) Try.results38 (resT rfl) ?_)))
        have hR99 := hF11.xr hE96
        exact ⟨Ar_94, nr_94, cr_94, fr_94, rfl, (Frm.mono hR99 q4), (PZR.le (PZR.sub hr_94 fun _ _ _ => trivial) (by omega)), (by rw [e_94, hF, show k = max nf ng by omega]; unfold padd; rw [lf, lg]), (by omega)⟩

theorem ref08_Scale {w : World} {Sf : Nat → Prop} {Af : Option Addr} {nf cf Mf : Nat} {ff : List Int} {Sc : Nat → Prop} {sc : Int} {Ac : Option Addr} {nc cc : Nat} {zc : Int} (hf : PZR w Sf Af nf cf ff Mf) (hc : ZR w Sc sc Ac nc cc zc) (hnf : nf ≤ 65536) (hMf : Mf ≤ 268435456) (hnc : nc ≤ 268435456) : Calls Try.prog 39 #[(.slice Af nf cf), (.agg #[(.int .i64 (sc)), (.slice Ac nc cc)])] w (Ret fun v w' => ∃ (Ar : Option Addr) (nr : Nat) (cr : Nat) (fr : List Int), v = (.slice Ar nr cr) ∧ Ext w w' ∧ PZR w' (fun _ => True) Ar nr cr fr (Mf + nc) ∧ (fr = trimZ (scaleP ff zc)) ∧ (nr ≤ nf)) := by
  have ⟨lf, kf, mf⟩ := hf.lkm
  replace hf := hf.low
  have ⟨sgc, kc, mc⟩ := hc.lkm
  replace hc := hc.low
  refine enter Try.func39 rfl Try.ntmps39 rfl (rS fun K1 hK1 => sO (oBox [(.int .i64 (sc)), (.slice Ac nc cc)] rfl rfl (fun g2 w3 hg4 hE5 hz6 hB7 => sAs rfl (sK hK1 (rS fun K8 hK8 => sAs rfl (sK hK8 (wp_seq_k fun K9 hK9 => rS fun K10 hK10 => sAi rfl (sK hK10 (wp_block ?_)))))))))
  refine lLoop (fun m e w_ => ∃ (k : Nat) (O : List Int) (Ao : Option Addr) (cp : Nat) (no : Nat), m = nf - k ∧ e 0 = (.slice Af nf cf) ∧ e 3 = (.pointer (some ⟨g2, 0, none⟩)) ∧ e 5 = (.slice Ao no cp) ∧ e 6 = (.int .i64 ((k : Int))) ∧ Frm (fun b => w3.heap.size ≤ b) w3 w_ ∧ (k ≤ nf) ∧ (no = k) ∧ (O = (ff.take k).map (· * zc)) ∧ (OwnZ (fun _ => True) w_ w3.heap.size 31 Ao no cp O (Mf + nc))) (nf - (0)) ?_ ?_
  · refine ⟨(0), ([]), (none), (0), (0), rfl, rfl, rfl, rfl, cI, (Frm.refl _ _), ?_, ?_, ?_, ?_⟩
    · omega
    · omega
    · rfl
    · exact OwnZ.nil
  · rintro m11 e19 w12 ⟨k, O, Ao, cp, no, hm18, hs13, hs14, hs15, hs16, hF17, hk, hno, hF, hO⟩
    obtain ⟨r20, rfl⟩ := sq (e := e19) (t := 0) hs13
    obtain ⟨r21, rfl⟩ := sq (e := r20) (t := 3) hs14
    obtain ⟨r22, rfl⟩ := sq (e := r21) (t := 5) hs15
    obtain ⟨r23, rfl⟩ := sq (e := r22) (t := 6) hs16
    have hz24 := hF17.size
    have ⟨lO, kO, mO⟩ := hO.lkm
    refine wp_seq_k fun K25 hK25 => rS fun K26 hK26 => sMi rfl (sMs rfl (sV (evLen Try.underlying27 rfl) ?_))
    by_cases hc27 : ((k : Int)) < ((nf : Int))
    · refine sV (evLss true rfl rfl (dT hc27)) (sK hK26 (cT rfl (wp_skip (xN (hK25 _ _ (wp_seq_k fun K28 hK28 => wp_block (dBegin (fun b => w3.heap.size ≤ b) mixed (fun w29 hE30 hz31 => dMs 0 rfl rfl (dMs 1 rfl rfl (dMi 2 rfl rfl ?_))))))))))
      have hR32 := (hE5.rx hF17).xr hE30
      have h33 := (hf.frmB hR32 q3)
      obtain ⟨b34, o35, rfl⟩ := h33.base (by omega)
      refine dV 3 rfl (fun _ _ => evIx k Try.underlying27 sz31 rfl rfl (o35 + (k * 2))) ?_
      obtain ⟨s_36, A_36, n_36, c_36, z_36, hp_36, hq_36, h_36, hM_36, hS_36, hb_36, hz_36⟩ := h33.at_ (i := k) (by omega)
      have ⟨sg_36, k_36, m_36⟩ := h_36.lkm
      refine dV 4 rfl (fun _ hf => evLoadA [(.int .i64 (s_36)), (.slice A_36 n_36 c_36)] agg31 sz31 rfl (cell2F hp_36 hq_36 hf hb_36 (by (try dsimp only at hS_36 ⊢); omega))) ?_
      have hR38 := hF17.xr hE30
      have hB39 := (hB7.frm hR38 q1)
      refine dV 5 rfl (fun _ hf => evLoadAB [(.int .i64 (sc)), (.slice Ac nc cc)] agg31 sz31 rfl (hB39.frm hf q1) rfl) ?_
      have h40 := (hc.frmB hR32 q3)
      refine dOp 6 rfl rfl (by kernel_rfl) (oCall rfl call70 (ref02_Mul h_36 h40 (by omega) (by omega)) rfl ?_)
      rintro _ w42 ⟨sr_41, Ar_41, nr_41, cr_41, zr_41, rfl, hE43, hr_41, v_41, le_41⟩
      refine ⟨(Frm.of_ext hE43), ?_⟩
      have hz44 := hE43.size
      have ⟨sgr_41, kr_41, mr_41⟩ := hr_41.lkm
      refine dOp 7 rfl rfl (by kernel_rfl) (oBuildSlice [(.agg #[(.int .i64 (sr_41)), (.slice Ar_41 nr_41 cr_41)])] [[(.int .i64 (sr_41)), (.slice Ar_41 nr_41 cr_41)]] Try.underlying27 inf31 rfl rfl rfl rfl rfl (fun g46 w47 hg48 hE49 hz50 hB51 => ⟨(Frm.of_ext hE49), ?_⟩))
      replace hB51 : Blk w47 g46 31 [(.int .i64 (sr_41)), (.slice Ar_41 nr_41 cr_41)] := hB51
      have hR52 := (hE30.trans hE43).trans hE49
      have hO53 := (hO.ext hR52)
      have h59 := (hr_41.ext hE49)
      refine dOp 8 rfl rfl (by kernel_rfl) (oAppZ (B := w3.heap.size) Try.underlying27 inf31 rfl rfl rfl hO53 hB51 h59 (by omega) (by intro b hlt hb a ha; have h1 := hO.lt a ha; (try dsimp only at hb); omega) (fun _ _ _ => trivial) (by omega) (by omega) (by omega) (fun A54 c55 w56 hO57 hF58 => ⟨hF58, dAs 9 rfl rfl (dDone (by kernel_rfl) (bN (xN (hK28 _ _ (wp_region_lit (sMi rfl (sV (evAdd (((k : Int)) + 1) rfl rfl wI) (sAi rfl (sDone ?_)))))))))⟩))
      have hR60 := hR52.rx hF58
      refine again (nf - (k + 1)) (by omega) ⟨(k + 1), (O ++ [zr_41]), (A54), (c55), (no + 1), rfl, rfl, rfl, rfl, cI, (hF17.trans hR60), ?_, ?_, ?_, ?_⟩
      · omega
      · omega
      · exact scale_snoc hF (by omega) (by rw [v_41, hz_36])
      · exact hO57
    · refine sV (evLss false rfl rfl (dF hc27)) (sK hK26 (cF rfl (wp_exit (xE (xE (bE (xN (hK9 _ _ (rS fun K61 hK61 => sMs rfl (sO (oCall rfl call29 (ref08_Trim (OwnZ.pzr hO)) rfl ?_)))))))))))
      rintro _ w63 ⟨Ar_62, nr_62, cr_62, fr_62, rfl, hE64, hr_62, e_62, le_62⟩
      have hz65 := hE64.size
      have ⟨lr_62, kr_62, mr_62⟩ := hr_62.lkm
      replace hr_62 := hr_62.low
      refine sAs rfl (sK hK61 (wp_ret (ret1 (.slice Ar_62 nr_62 cr_62) Try.results39 (resT rfl) ?_)))
      have hR67 := (hE5.rx hF17).xr hE64
      exact ⟨Ar_62, nr_62, cr_62, fr_62, rfl, (Frm.mono hR67 q4), (PZR.le (PZR.sub hr_62 fun _ _ _ => trivial) (by omega)), (by rw [e_62, hF, List.take_of_length_le (by omega)]; rfl), (by omega)⟩

theorem ref08_Up {w : World} {Sf : Nat → Prop} {Af : Option Addr} {nf cf Mf : Nat} {ff : List Int} {xn : Nat} (hf : PZR w Sf Af nf cf ff Mf) (bn : xn ≤ 9223372036854775807) (hnf : nf ≤ 65536) (hMf : Mf ≤ 268435456) (hxn : xn ≤ 65536) : Calls Try.prog 66 #[(.slice Af nf cf), (.int .i64 ((xn : Int)))] w (Ret fun v w' => ∃ (Ar : Option Addr) (nr : Nat) (cr : Nat) (fr : List Int), v = (.slice Ar nr cr) ∧ Ext w w' ∧ PZR w' (fun _ => True) Ar nr cr fr (Mf) ∧ (fr = upP ff xn) ∧ (nr ≤ nf + xn)) := by
  have ⟨lf, kf, mf⟩ := hf.lkm
  replace hf := hf.low
  refine enter Try.func66 rfl Try.ntmps66 rfl (rS fun K1 hK1 => sAs rfl (sK hK1 (rS fun K2 hK2 => sAs rfl (sK hK2 (wp_seq_k fun K3 hK3 => rS fun K4 hK4 => sAi rfl (sK hK4 (wp_block ?_)))))))
  refine lLoop (fun m e w_ => ∃ (k : Nat) (O : List Int) (Ao : Option Addr) (cp : Nat) (no : Nat), m = xn - k ∧ e 0 = (.slice Af nf cf) ∧ e 1 = (.int .i64 ((xn : Int))) ∧ e 5 = (.slice Ao no cp) ∧ e 6 = (.int .i64 ((k : Int))) ∧ Frm (fun b => w.heap.size ≤ b) w w_ ∧ (k ≤ xn) ∧ (no = k) ∧ (nf = 0 → k = 0) ∧ (O = List.replicate k 0) ∧ (OwnZ (fun _ => True) w_ w.heap.size 31 Ao no cp O (Mf))) (xn - (0)) ?_ ?_
  · refine ⟨(0), ([]), (none), (0), (0), rfl, rfl, rfl, rfl, cI, (Frm.refl _ _), ?_, ?_, ?_, ?_, ?_⟩
    · omega
    · omega
    · omega
    · rfl
    · exact OwnZ.nil
  · rintro m5 e13 w6 ⟨k, O, Ao, cp, no, hm12, hs7, hs8, hs9, hs10, hF11, hk, hno, hnf0, hF, hO⟩
    obtain ⟨r14, rfl⟩ := sq (e := e13) (t := 0) hs7
    obtain ⟨r15, rfl⟩ := sq (e := r14) (t := 1) hs8
    obtain ⟨r16, rfl⟩ := sq (e := r15) (t := 5) hs9
    obtain ⟨r17, rfl⟩ := sq (e := r16) (t := 6) hs10
    have hz18 := hF11.size
    have ⟨lO, kO, mO⟩ := hO.lkm
    refine wp_seq_k fun K19 hK19 => rS fun K20 hK20 => sMi rfl (sMi rfl ?_)
    by_cases hc21 : ((k : Int)) < ((xn : Int))
    · refine sV (evLss true rfl rfl (dT hc21)) (sMb rfl (sEv (v := (.slice Af nf cf)) (rfl) rfl rfl (sEv (v := (.int .i64 ((nf : Int)))) (evLen Try.underlying27 rfl) rfl rfl ?_)))
      by_cases hc22 : ((nf : Int)) > 0
      · refine sEv (v := (.bool true)) (evGtr true rfl rfl (dT hc22)) rfl rfl (sV (v := (.bool true)) (rfl) (sK hK20 (cT rfl (wp_skip (xN (hK19 _ _ (wp_seq_k fun K23 hK23 => wp_block (wp_region_lit (sMs rfl (sV (v := (.agg #[(.int .i64 (0)), (.slice none 0 0)])) (evK (by kernel_rfl)) (sO (oBuildSlice [(.agg #[(.int .i64 (0)), (.slice none 0 0)])] [[(.int .i64 (0)), (.slice none 0 0)]] Try.underlying27 inf31 rfl rfl rfl rfl rfl (fun g24 w25 hg26 hE27 hz28 hB29 => ?_)))))))))))))
        replace hB29 : Blk w25 g24 31 [(.int .i64 (0)), (.slice none 0 0)] := hB29
        have hO30 := (hO.ext hE27)
        refine sO (oAppZ (B := w.heap.size) Try.underlying27 inf31 rfl rfl rfl hO30 hB29 (ZR.zero (S := fun _ => False)) (by omega) (fun _ _ h => h.elim) (fun _ _ h => h.elim) (by omega) (by omega) (by omega) (fun A31 c32 w33 hO34 hF35 => sAs rfl (sDone (bN (xN (hK23 _ _ (wp_region_lit (sMi rfl (sV (evAdd (((k : Int)) + 1) rfl rfl wI) (sAi rfl (sDone ?_)))))))))))
        have hR36 := hE27.rx hF35
        refine again (xn - (k + 1)) (by omega) ⟨(k + 1), (O ++ [0]), (A31), (c32), (no + 1), rfl, rfl, rfl, rfl, cI, (hF11.trans hR36), ?_, ?_, ?_, ?_, ?_⟩
        · omega
        · omega
        · omega
        · rw [hF]; exact List.replicate_succ'.symm
        · exact hO34
      · refine sEv (v := (.bool false)) (evGtr false rfl rfl (dF hc22)) rfl rfl (sV (v := (.bool false)) (rfl) (sK hK20 (cF rfl (wp_exit (xE (xE (bE (xN (hK3 _ _ (rS fun K37 hK37 => sMs rfl (sMs rfl ?_)))))))))))
        have h43 := (hf.frmB hF11 q3)
        refine sO (oAppZS (B := w.heap.size) Try.underlying27 inf31 rfl rfl rfl hO h43 (by intro b hlt hb a ha; have h1 := hO.lt a ha; (try dsimp only at hb); omega) (by omega) (by omega) (by omega) (fun A38 n44 c39 w40 hn45 hO41 hF42 => sAs rfl (sK hK37 (wp_ret (ret1 (.slice A38 n44 c39) Try.results66 (resT rfl) ?_)))))
        have hR47 := hF11.trans hF42
        exact ⟨A38, n44, c39, (O ++ ff), rfl, (Frm.mono hR47 q4), (PZR.le (PZR.sub hO41 fun _ _ _ => trivial) (by omega)), (up_end hF lf (by omega)), (by omega)⟩
    · refine sV (evLss false rfl rfl (dF hc21)) (sMb rfl (sSkip rfl rfl (sSkip rfl rfl (sSkip rfl rfl (sV (v := (.bool false)) (rfl) (sK hK20 (cF rfl (wp_exit (xE (xE (bE (xN (hK3 _ _ (rS fun K48 hK48 => sMs rfl (sMs rfl ?_)))))))))))))))
      have h54 := (hf.frmB hF11 q3)
      refine sO (oAppZS (B := w.heap.size) Try.underlying27 inf31 rfl rfl rfl hO h54 (by intro b hlt hb a ha; have h1 := hO.lt a ha; (try dsimp only at hb); omega) (by omega) (by omega) (by omega) (fun A49 n55 c50 w51 hn56 hO52 hF53 => sAs rfl (sK hK48 (wp_ret (ret1 (.slice A49 n55 c50) Try.results66 (resT rfl) ?_)))))
      have hR58 := hF11.trans hF53
      exact ⟨A49, n55, c50, (O ++ ff), rfl, (Frm.mono hR58 q4), (PZR.le (PZR.sub hO52 fun _ _ _ => trivial) (by omega)), (up_end hF lf (by omega)), (by omega)⟩

theorem ref08_Mul {w : World} {Sf : Nat → Prop} {Af : Option Addr} {nf cf Mf : Nat} {ff : List Int} {Sg : Nat → Prop} {Ag : Option Addr} {ng cg Mg : Nat} {fg : List Int} (hf : PZR w Sf Af nf cf ff Mf) (hg : PZR w Sg Ag ng cg fg Mg) (hnf : nf ≤ 16384) (hMf : Mf ≤ 33554432) (hng : ng ≤ 16384) (hMg : Mg ≤ 33554432) : Calls Try.prog 16 #[(.slice Af nf cf), (.slice Ag ng cg)] w (Ret fun v w' => ∃ (Ar : Option Addr) (nr : Nat) (cr : Nat) (fr : List Int), v = (.slice Ar nr cr) ∧ Ext w w' ∧ PZR w' (fun _ => True) Ar nr cr fr (Mf + Mg + ng) ∧ (fr = trimZ (pmul ff fg)) ∧ (nr ≤ nf + ng)) := by
  have ⟨lf, kf, mf⟩ := hf.lkm
  replace hf := hf.low
  have ⟨lg, kg, mg⟩ := hg.lkm
  replace hg := hg.low
  refine enter Try.func16 rfl Try.ntmps16 rfl (rS fun K1 hK1 => sAs rfl (sK hK1 (rS fun K2 hK2 => sAs rfl (sK hK2 (wp_seq_k fun K3 hK3 => rS fun K4 hK4 => sAi rfl (sK hK4 (wp_block ?_)))))))
  refine lLoop (fun m e w_ => ∃ (k : Nat) (O : List Int) (Ao : Option Addr) (cp : Nat) (no : Nat), m = ng - k ∧ e 0 = (.slice Af nf cf) ∧ e 1 = (.slice Ag ng cg) ∧ e 5 = (.slice Ao no cp) ∧ e 6 = (.int .i64 ((k : Int))) ∧ Frm (fun b => False) w w_ ∧ (k ≤ ng) ∧ (no ≤ nf + k) ∧ (O = trimZ (pmul ff (fg.take k))) ∧ (PZR w_ (fun _ => True) Ao no cp O (Mf + Mg + k))) (ng - (0)) ?_ ?_
  · refine ⟨(0), ([]), (none), (0), (0), rfl, rfl, rfl, rfl, cI, (Frm.refl _ _), ?_, ?_, ?_, ?_⟩
    · omega
    · omega
    · exact refmul_nil _ _
    · exact PZR.nil
  · rintro m5 e13 w6 ⟨k, O, Ao, cp, no, hm12, hs7, hs8, hs9, hs10, hF11, hk, hno, hF, hR⟩
    obtain ⟨r14, rfl⟩ := sq (e := e13) (t := 0) hs7
    obtain ⟨r15, rfl⟩ := sq (e := r14) (t := 1) hs8
    obtain ⟨r16, rfl⟩ := sq (e := r15) (t := 5) hs9
    obtain ⟨r17, rfl⟩ := sq (e := r16) (t := 6) hs10
    have hz18 := hF11.size
    have ⟨lO, kO, mO⟩ := hR.lkm
    refine wp_seq_k fun K19 hK19 => rS fun K20 hK20 => sMi rfl (sMs rfl (sV (evLen Try.underlying27 rfl) ?_))
    by_cases hc21 : ((k : Int)) < ((ng : Int))
    · refine sV (evLss true rfl rfl (dT hc21)) (sK hK20 (cT rfl (wp_skip (xN (hK19 _ _ (wp_seq_k fun K22 hK22 => wp_block (wp_region_lit (sMs rfl (sMs rfl (sMs rfl (sMi rfl ?_)))))))))))
      have h23 := (hg.ext hF11)
      obtain ⟨b24, o25, rfl⟩ := h23.base (by omega)
      refine sV (evIx k Try.underlying27 sz31 rfl rfl (o25 + (k * 2))) ?_
      obtain ⟨s_26, A_26, n_26, c_26, z_26, hp_26, hq_26, h_26, hM_26, hS_26, hb_26, hz_26⟩ := h23.at_ (i := k) (by omega)
      have ⟨sg_26, k_26, m_26⟩ := h_26.lkm
      refine sV (evLoadA [(.int .i64 (s_26)), (.slice A_26 n_26 c_26)] agg31 sz31 rfl (cell2 hp_26 hq_26)) ?_
      have h28 := (hf.ext hF11)
      refine sO (oCall rfl call39 (ref08_Scale h28 h_26 (by omega) (by omega) (by omega)) rfl ?_)
      rintro _ w30 ⟨Ar_29, nr_29, cr_29, fr_29, rfl, hE31, hr_29, e_29, ln_29⟩
      have hz32 := hE31.size
      have ⟨lr_29, kr_29, mr_29⟩ := hr_29.lkm
      replace hr_29 := hr_29.low
      refine sMi rfl (sO (oCall rfl call66 (ref08_Up hr_29 (xn := k) (by omega) (by omega) (by omega) (by omega)) rfl ?_))
      rintro _ w35 ⟨Ar_34, nr_34, cr_34, fr_34, rfl, hE36, hr_34, e_34, ln_34⟩
      have hz37 := hE36.size
      have ⟨lr_34, kr_34, mr_34⟩ := hr_34.lkm
      replace hr_34 := hr_34.low
      have hR39 := hE31.trans hE36
      have h40 := (hR.ext hR39)
      refine sO (oCall rfl call38 (ref08_Add h40 hr_34 (by omega) (by omega) (by omega) (by omega)) rfl ?_)
      rintro _ w42 ⟨Ar_41, nr_41, cr_41, fr_41, rfl, hE43, hr_41, e_41, ln_41⟩
      have hz44 := hE43.size
      have ⟨lr_41, kr_41, mr_41⟩ := hr_41.lkm
      replace hr_41 := hr_41.low
      refine sAs rfl (sDone (bN (xN (hK22 _ _ (wp_region_lit (sMi rfl (sV (evAdd (((k : Int)) + 1) rfl rfl wI) (sAi rfl (sDone ?_)))))))))
      have hR46 := hR39.trans hE43
      refine again (ng - (k + 1)) (by omega) ⟨(k + 1), (fr_41), (Ar_41), (cr_41), (nr_41), rfl, rfl, rfl, rfl, cI, (hF11.trans hR46), ?_, ?_, ?_, ?_⟩
      · omega
      · omega
      · rw [e_41, hF, e_34, e_29, hz_26]; exact refmul_step _ _ _
      · exact PZR.le (PZR.sub hr_41 fun _ _ _ => trivial) (by omega)
    · refine sV (evLss false rfl rfl (dF hc21)) (sK hK20 (cF rfl (wp_exit (xE (xE (bE (xN (hK3 _ _ (rS fun K47 hK47 => sMs rfl (sAs rfl (sK hK47 (wp_ret (ret1 (.slice Ao no cp) Try.results16 (resT rfl) ?_)))))))))))))
      exact ⟨Ao, no, cp, O, rfl, hF11, (PZR.le (PZR.sub hR fun _ _ _ => trivial) (by omega)), (refmul_end hF (by omega)), (by omega)⟩

theorem ref08_Derivative {w : World} {Sf : Nat → Prop} {Af : Option Addr} {nf cf Mf : Nat} {ff : List Int} (hf : PZR w Sf Af nf cf ff Mf) (hnf : nf ≤ 65536) (hMf : Mf ≤ 268435456) : Calls Try.prog 21 #[(.slice Af nf cf)] w (Ret fun v w' => ∃ (Ar : Option Addr) (nr : Nat) (cr : Nat) (fr : List Int), v = (.slice Ar nr cr) ∧ Ext w w' ∧ PZR w' (fun _ => True) Ar nr cr fr (Mf + 41) ∧ (fr = trimZ (derivP ff)) ∧ (nr ≤ nf)) := by
  have ⟨lf, kf, mf⟩ := hf.lkm
  replace hf := hf.low
  refine enter Try.func21 rfl Try.ntmps21 rfl (rS fun K1 hK1 => sAs rfl (sK hK1 (rS fun K2 hK2 => sAs rfl (sK hK2 (wp_seq_k fun K3 hK3 => rS fun K4 hK4 => sAi rfl (sK hK4 (wp_block ?_)))))))
  refine lLoop (fun m e w_ => ∃ (k : Nat) (O : List Int) (Ao : Option Addr) (cp : Nat) (no : Nat), m = nf - k ∧ e 0 = (.slice Af nf cf) ∧ e 3 = (.slice Ao no cp) ∧ e 4 = (.int .i64 ((k : Int))) ∧ Frm (fun b => w.heap.size ≤ b) w w_ ∧ (k ≤ nf ∨ k = 1) ∧ (1 ≤ k) ∧ (no = k - 1) ∧ (O = (List.range (k - 1)).map (fun i => co ff (i + 1) * ((i + 1 : Nat) : Int))) ∧ (OwnZ (fun _ => True) w_ w.heap.size 31 Ao no cp O (Mf + 41))) (nf - (1)) ?_ ?_
  · refine ⟨(1), ([]), (none), (0), (0), rfl, rfl, rfl, cI, (Frm.refl _ _), ?_, ?_, ?_, ?_, ?_⟩
    · omega
    · omega
    · omega
    · rfl
    · exact OwnZ.nil
  · rintro m5 e12 w6 ⟨k, O, Ao, cp, no, hm11, hs7, hs8, hs9, hF10, hk, hk1, hno, hF, hO⟩
    obtain ⟨r13, rfl⟩ := sq (e := e12) (t := 0) hs7
    obtain ⟨r14, rfl⟩ := sq (e := r13) (t := 3) hs8
    obtain ⟨r15, rfl⟩ := sq (e := r14) (t := 4) hs9
    have hz16 := hF10.size
    have ⟨lO, kO, mO⟩ := hO.lkm
    refine wp_seq_k fun K17 hK17 => rS fun K18 hK18 => sMi rfl (sMs rfl (sV (evLen Try.underlying27 rfl) ?_))
    by_cases hc19 : ((k : Int)) < ((nf : Int))
    · refine sV (evLss true rfl rfl (dT hc19)) (sK hK18 (cT rfl (wp_skip (xN (hK17 _ _ (wp_seq_k fun K20 hK20 => wp_block (dBegin (fun b => w.heap.size ≤ b) mixed (fun w21 hE22 hz23 => dMs 0 rfl rfl (dMs 1 rfl rfl (dMi 2 rfl rfl ?_))))))))))
      have hR24 := hF10.xr hE22
      have h25 := (hf.frmB hR24 q3)
      obtain ⟨b26, o27, rfl⟩ := h25.base (by omega)
      refine dV 3 rfl (fun _ _ => evIx k Try.underlying27 sz31 rfl rfl (o27 + (k * 2))) ?_
      obtain ⟨s_28, A_28, n_28, c_28, z_28, hp_28, hq_28, h_28, hM_28, hS_28, hb_28, hz_28⟩ := h25.at_ (i := k) (by omega)
      have ⟨sg_28, k_28, m_28⟩ := h_28.lkm
      refine dV 4 rfl (fun _ hf => evLoadA [(.int .i64 (s_28)), (.slice A_28 n_28 c_28)] agg31 sz31 rfl (cell2F hp_28 hq_28 hf hb_28 (by (try dsimp only at hS_28 ⊢); omega))) (dMi 5 rfl rfl (dOp 6 rfl rfl (by kernel_rfl) (oCall rfl call15 (ref02_Small (by omega)) rfl ?_)))
      rintro _ w31 ⟨sr_30, Ar_30, nr_30, cr_30, zr_30, rfl, hE32, hr_30, v_30, le_30⟩
      refine ⟨(Frm.of_ext hE32), ?_⟩
      have hz33 := hE32.size
      have ⟨sgr_30, kr_30, mr_30⟩ := hr_30.lkm
      have h35 := (h_28.ext hE32)
      refine dOp 7 rfl rfl (by kernel_rfl) (oCall rfl call70 (ref02_Mul h35 hr_30 (by omega) (by omega)) rfl ?_)
      rintro _ w37 ⟨sr_36, Ar_36, nr_36, cr_36, zr_36, rfl, hE38, hr_36, v_36, le_36⟩
      refine ⟨(Frm.of_ext hE38), ?_⟩
      have hz39 := hE38.size
      have ⟨sgr_36, kr_36, mr_36⟩ := hr_36.lkm
      refine dOp 8 rfl rfl (by kernel_rfl) (oBuildSlice [(.agg #[(.int .i64 (sr_36)), (.slice Ar_36 nr_36 cr_36)])] [[(.int .i64 (sr_36)), (.slice Ar_36 nr_36 cr_36)]] Try.underlying27 inf31 rfl rfl rfl rfl rfl (fun g41 w42 hg43 hE44 hz45 hB46 => ⟨(Frm.of_ext hE44), ?_⟩))
      replace hB46 : Blk w42 g41 31 [(.int .i64 (sr_36)), (.slice Ar_36 nr_36 cr_36)] := hB46
      have hR47 := ((hE22.trans hE32).trans hE38).trans hE44
      have hO48 := (hO.ext hR47)
      have h54 := (hr_36.ext hE44)
      refine dOp 9 rfl rfl (by kernel_rfl) (oAppZ (B := w.heap.size) Try.underlying27 inf31 rfl rfl rfl hO48 hB46 h54 (by omega) (by intro b hlt hb a ha; have h1 := hO.lt a ha; (try dsimp only at hb); omega) (fun _ _ _ => trivial) (by omega) (by omega) (by omega) (fun A49 c50 w51 hO52 hF53 => ⟨hF53, dAs 10 rfl rfl (dDone (by kernel_rfl) (bN (xN (hK20 _ _ (wp_region_lit (sMi rfl (sV (evAdd (((k : Int)) + 1) rfl rfl wI) (sAi rfl (sDone ?_)))))))))⟩))
      have hR55 := hR47.rx hF53
      refine again (nf - (k + 1)) (by omega) ⟨(k + 1), (O ++ [zr_36]), (A49), (c50), (no + 1), rfl, rfl, rfl, cI, (hF10.trans hR55), ?_, ?_, ?_, ?_, ?_⟩
      · omega
      · omega
      · omega
      · exact deriv_snoc hF (by omega) (by rw [v_36, v_30, hz_28])
      · exact hO52
    · refine sV (evLss false rfl rfl (dF hc19)) (sK hK18 (cF rfl (wp_exit (xE (xE (bE (xN (hK3 _ _ (rS fun K56 hK56 => sMs rfl (sO (oCall rfl call29 (ref08_Trim (OwnZ.pzr hO)) rfl ?_)))))))))))
      rintro _ w58 ⟨Ar_57, nr_57, cr_57, fr_57, rfl, hE59, hr_57, e_57, le_57⟩
      have hz60 := hE59.size
      have ⟨lr_57, kr_57, mr_57⟩ := hr_57.lkm
      replace hr_57 := hr_57.low
      refine sAs rfl (sK hK56 (wp_ret (ret1 (.slice Ar_57 nr_57 cr_57) Try.results21 (resT rfl) ?_)))
      have hR62 := hF10.xr hE59
      exact ⟨Ar_57, nr_57, cr_57, fr_57, rfl, (Frm.mono hR62 q4), (PZR.le (PZR.sub hr_57 fun _ _ _ => trivial) (by omega)), (by rw [e_57, hF]; unfold derivP; congr 2; rw [lf, show k - 1 = nf - 1 by omega]), (by omega)⟩

end Go.Proofs.Ytppegjbdencefaa
