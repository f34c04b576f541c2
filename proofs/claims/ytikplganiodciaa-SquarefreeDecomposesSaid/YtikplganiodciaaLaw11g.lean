/-
  Walk of the law SquarefreeDecomposes.
-/
import Derived.Test.YtikplganiodciaaKn2
import Derived.Test.YtikplganiodciaaSq11
namespace Go.Proofs.Ytikplganiodciaa
open Go.RowKit Go.Gx
set_option maxHeartbeats 2000000 in
theorem law11_decomposes {w : World} {St : Nat → Prop} {At : Option Addr} {nt ct : Nat} {tt : List T3} (ht : TripR w St At nt ct tt)  : Calls Try.prog 6 #[(.slice At nt ct)] w (Ret fun v w' => ∃ (gr : Bool), v = (.bool gr) ∧ Ext w w' ∧ (gr = true)) := by
  have ⟨kt, jt, mt⟩ := ht.lkm; replace ht := ht.low
  refine enter Try.func6 rfl Try.ntmps6 rfl (rS fun K1 hK1 => sAb rfl (sK hK1 (wp_seq_k fun K2 hK2 => rS fun K3 hK3 => sO (oCall rfl call8 (law11_awake) rfl ?_))))
  rintro _ w5 ⟨gr_4, rfl, hE6, e_4⟩
  have hz7 := hE6.size
  obtain rfl : gr_4 = true := e_4
  refine sV (evNot _ rfl rfl) (sMb rfl (sEv (v := (.slice At nt ct)) (rfl) rfl rfl ?_))
  have h8 := (ht.ext hE6)
  refine sOp rfl (oCall rfl call9 (ref11_Few h8) rfl ?_)
  rintro _ w10 ⟨gr_9, rfl, hE11, e_9⟩
  have hz12 := hE11.size
  refine sEv (v := (.bool (!gr_9))) (evNot _ rfl rfl) rfl rfl (sV (v := (.bool (!gr_9))) (rfl) (sK hK3 ?_))
  cases gr_9
  · refine cT rfl (rS fun K13 hK13 => sO (oCall rfl call8 (law11_awake) rfl ?_))
    rintro _ w15 ⟨gr_14, rfl, hE16, e_14⟩
    have hz17 := hE16.size
    obtain rfl : gr_14 = true := e_14
    refine sAb rfl (sK hK13 (wp_ret (xR (ret1 (.bool true) Try.results6 (resT rfl) ?_))))
    have hR18 := (hE6.trans hE11).trans hE16
    exact ⟨(true), rfl, hR18, rfl⟩
  · refine cF rfl (wp_skip (xN (hK2 _ _ (wp_seq_k fun K19 hK19 => ?_))))
    have hfe := e_9 rfl; have hft := hfe.2; have hnt : nt ≤ 5 := by have h := hfe.1; exact h
    refine wp_region_lit (sMs rfl ?_)
    have h20 := (h8.ext hE11)
    refine sO (oCall rfl call10 (ref11_Factors h20 (by assumption) (by omega)) rfl ?_)
    rintro _ w22 ⟨xu_21, Ar_21, nr_21, cr_21, fr_21, rfl, hE23, hr_21, e_21, ub_21⟩
    have hz24 := hE23.size
    have ⟨kr_21, jr_21, mr_21⟩ := hr_21.lkm
    replace hr_21 := hr_21.low
    have hokD : FacOkM 10 (fr_21.map IE.m) := e_21.ok
    refine sV (v := (.tuple #[(.int .i64 (xu_21)), (.slice Ar_21 nr_21 cr_21)])) (rfl) (sV (v := (.int .i64 (xu_21))) (rfl) (sV (v := (.slice Ar_21 nr_21 cr_21)) (rfl) (sAi rfl (sAs rfl (sK hK19 (rS fun K26 hK26 => sMs rfl (sO (oCall rfl call28 (ref11_Decompose hr_21 (by assumption)) rfl ?_))))))))
    rintro _ w28 ⟨Ar_27, nr_27, cr_27, fr_27, rfl, hE29, hr_27, e_27, ln_27⟩
    have hz30 := hE29.size
    have ⟨kr_27, jr_27, mr_27⟩ := hr_27.lkm
    replace hr_27 := hr_27.low
    obtain ⟨nW, heW, hmW⟩ := e_27
    refine sAs rfl (sK hK26 (rS fun K32 hK32 => sMs rfl ?_))
    have hR33 := hE23.trans hE29
    have h34 := (h20.ext hR33)
    refine sO (oCall rfl call11 (law11_product h34 (by assumption) (by omega)) rfl ?_)
    rintro _ w36 ⟨Ar_35, nr_35, cr_35, lr_35, rfl, hE37, hr_35, e_35, nb_35, ln_35, cn_35⟩
    have hz38 := hE37.size
    have ⟨kr_35, jr_35, mr_35⟩ := hr_35.lkm
    have hR := e_21; rw [← e_35] at hR
    have hnf2 : nrm (zs lr_35) ≤ 16777216 := by omega
    refine sO (oCall rfl call29 (squarefree_Decompose hr_35 (by omega) (by omega) (by omega)) rfl ?_)
    rintro _ w41 ⟨gu_40, Au_40, nu_40, cu_40, du_40, Ar_40, nr_40, cr_40, fr_40, rfl, hE42, hu_40, hr_40, dc_40, nu2_40, nr2_40⟩
    have hz43 := hE42.size
    have ⟨lu_40, ku_40, mu_40⟩ := hu_40.lkm
    have ⟨kr_40, jr_40, mr_40⟩ := hr_40.lkm
    have ⟨hun, hfs⟩ := dec_known2 hR dc_40 hmW; rw [← heW] at hfs; have hnn := known_len hfs
    refine sV (v := (.tuple #[(.agg #[(.bool gu_40), (.slice Au_40 nu_40 cu_40)]), (.slice Ar_40 nr_40 cr_40)])) (rfl) (sV (v := (.agg #[(.bool gu_40), (.slice Au_40 nu_40 cu_40)])) (rfl) (sV (v := (.slice Ar_40 nr_40 cr_40)) (rfl) (sO (oAlloc [(.bool false), (.slice none 0 0)] zero51 rfl (fun g46 w47 hg48 hE49 hz50 hB51 => sO (oStore [(.bool gu_40), (.slice Au_40 nu_40 cu_40)] rfl rfl rfl sz51 rfl hB51 (Nat.le_of_ble_eq_true rfl) (fun w52 hU53 hz54 hB55 => ?_)))))))
    replace hB55 : Blk w52 g46 51 [(.bool gu_40), (.slice Au_40 nu_40 cu_40)] := hB55
    refine sAs rfl (sK hK32 (wp_seq_k fun K56 hK56 => wp_seq_k fun K57 hK57 => dBegin (fun _ => False) mixed (fun w58 hE59 hz60 => ?_)))
    have hB61 := (hB55.ext hE59)
    refine dV 0 rfl (fun _ hf => evLoadAB [(.bool gu_40), (.slice Au_40 nu_40 cu_40)] agg51 sz51 rfl (hB61.ext hf) rfl) (dMi 1 rfl rfl (dOp 2 rfl rfl (by kernel_rfl) (oCall rfl call24 (integer_Of (by omega)) rfl ?_)))
    rintro _ w63 ⟨gr_62, Ar_62, nr_62, cr_62, dr_62, rfl, hE64, hr_62, v_62, cn_62, le_62⟩
    refine ⟨(Frm.of_ext hE64), ?_⟩
    have hz65 := hE64.size
    have ⟨lr_62, kr_62, mr_62⟩ := hr_62.lkm
    have hR67 := ((hE49.rx hU53).xr hE59).xr hE64
    have h68 := (hu_40.frmB hR67 q3)
    refine dOp 3 rfl rfl (by kernel_rfl) (oCall rfl call30 (integer_Cmp h68 hr_62) rfl ?_)
    rintro _ w70 ⟨xr_69, rfl, hE71, e_69⟩
    refine ⟨(Frm.of_ext hE71), ?_⟩
    have hz72 := hE71.size
    refine dV 4 rfl (fun _ _ => evNeq false rfl rfl (dF (by rw [e_69, v_62, hun]; simp [cmpZ_self]))) (dMb 5 rfl rfl (dEv 6 rfl (v := (.slice Ar_40 nr_40 cr_40)) (fun _ _ => rfl) rfl rfl (by kernel_rfl) (dEv 7 rfl (v := (.int .i64 ((nr_40 : Int)))) (fun _ _ => evLen Try.underlying59 rfl) rfl rfl (by kernel_rfl) (dEv 8 rfl (v := (.slice Ar_27 nr_27 cr_27)) (fun _ _ => rfl) rfl rfl (by kernel_rfl) (dEv 9 rfl (v := (.int .i64 ((nr_27 : Int)))) (fun _ _ => evLen Try.underlying25 rfl) rfl rfl (by kernel_rfl) (dEv 10 rfl (v := (.bool false)) (fun _ _ => evNeq false rfl rfl (dF (by omega))) rfl rfl (by kernel_rfl) (dV 11 rfl (v := (.bool false)) (fun _ _ => rfl) (dDone (by kernel_rfl) (xN (hK57 _ _ (cF rfl (wp_skip ?_))))))))))))
    refine xN (hK56 _ _ (wp_seq_k fun K73 hK73 => wp_seq_k fun K74 hK74 => ?_))
    obtain ⟨pq, kq, hdec⟩ := dc_40.each; have hdcE := hdec.e
    refine wp_region_lit (sAi rfl (sK hK74 (wp_block ?_)))
    refine lLoop (fun m e w_ => ∃ (i : Nat), m = nr_40 - i ∧ e 5 = (.slice Ar_27 nr_27 cr_27) ∧ e 7 = (.slice Ar_40 nr_40 cr_40) ∧ e 8 = (.int .i64 ((i : Int))) ∧ Frm (fun b => False) w70 w_ ∧ (i ≤ nr_40)) (nr_40 - (0)) ?_ ?_
    · refine ⟨(0), rfl, rfl, rfl, cI, (Frm.refl _ _), ?_⟩
      · omega
    · rintro m75 e82 w76 ⟨i, hm81, hs77, hs78, hs79, hF80, hi⟩
      obtain ⟨r83, rfl⟩ := sq (e := e82) (t := 5) hs77
      obtain ⟨r84, rfl⟩ := sq (e := r83) (t := 7) hs78
      obtain ⟨r85, rfl⟩ := sq (e := r84) (t := 8) hs79
      have hz86 := hF80.size
      refine wp_seq_k fun K87 hK87 => rS fun K88 hK88 => sMi rfl (sMs rfl (sV (evLen Try.underlying59 rfl) ?_))
      by_cases hc89 : ((i : Int)) < ((nr_40 : Int))
      · refine sV (evLss true rfl rfl (dT hc89)) (sK hK88 (cT rfl (wp_skip (xN (hK87 _ _ (wp_seq_k fun K90 hK90 => wp_block (wp_seq_k fun K91 hK91 => dBegin (fun _ => False) mixed (fun w92 hE93 hz94 => dMs 0 rfl rfl (dMi 1 rfl rfl ?_)))))))))
        have hR95 := ((hR67.xr hE71).xr hF80).xr hE93
        have h96 := (hr_40.frmB hR95 q3)
        obtain ⟨b97, o98, rfl⟩ := h96.base (by omega)
        refine dV 2 rfl (fun _ _ => evIx i Try.underlying59 sz64 rfl rfl (o98 + (i * 2))) (dV 3 rfl (fun _ _ => evFA (o98 + (i * 2) + 1) fa64_1 rfl rfl) ?_)
        obtain ⟨⟨A_99, n_99, c_99, l_99, k_99⟩, he_99, hp_99, hq_99, hP_99, hS_99, hb_99⟩ := h96.at_ (i := i) (by omega)
        dsimp only at hp_99 hq_99 hP_99; have ⟨q1_99, q2_99, q3_99⟩ := hP_99.lkm
        refine dV 4 rfl (fun _ hf => evLoad one3 rfl ((hf.cell (p := ⟨_, _, none⟩) hb_99 (fun h => h)).trans hq_99)) (dMs 5 rfl rfl (dMi 6 rfl rfl ?_))
        have hR100 := (((((((hE37.trans hE42).trans hE49).rx hU53).xr hE59).xr hE64).xr hE71).xr hF80).xr hE93
        have h101 := (hr_27.frmB hR100 q3)
        obtain ⟨b102, o103, rfl⟩ := h101.base (by omega)
        refine dV 7 rfl (fun _ _ => evIx i Try.underlying25 sz36 rfl rfl (o103 + (i * 2))) (dV 8 rfl (fun _ _ => evFA (o103 + (i * 2) + 1) fa36_1 rfl rfl) ?_)
        obtain ⟨⟨A_104, n_104, c_104, x_104, k_104⟩, he_104, hp_104, hq_104, hP_104, hS_104, hb_104⟩ := h101.at_ (i := i) (by omega)
        dsimp only at hp_104 hq_104 hP_104; have ⟨q1_104, q2_104, q3_104⟩ := hP_104.lkm
        refine dV 9 rfl (fun _ hf => evLoad one3 rfl ((hf.cell (p := ⟨_, _, none⟩) hb_104 (fun h => h)).trans hq_104)) (dV 10 rfl (fun _ _ => evNeq false rfl rfl (dF (by have h := (known_get hfs he_99 he_104).2; (try dsimp only at h); omega))) (dMb 11 rfl rfl (dEv 12 rfl (v := (.slice (some ⟨b97, o98, none⟩) nr_40 cr_40)) (fun _ _ => rfl) rfl rfl (by kernel_rfl) (dEv 13 rfl (v := (.int .i64 ((i : Int)))) (fun _ _ => rfl) rfl rfl (by kernel_rfl) (dEv 14 rfl (v := (.pointer (some ⟨b97, o98 + (i * 2), none⟩))) (fun _ _ => evIx i Try.underlying59 sz64 rfl rfl (o98 + (i * 2))) rfl rfl (by kernel_rfl) (dEv 15 rfl (v := (.pointer (some ⟨b97, o98 + (i * 2), none⟩))) (fun _ _ => evFA (o98 + (i * 2)) fa64_0 rfl rfl) rfl rfl (by kernel_rfl) ?_))))))
        obtain ⟨⟨A_105, n_105, c_105, l_105, k_105⟩, he_105, hp_105, hq_105, hP_105, hS_105, hb_105⟩ := h96.at_ (i := i) (by omega)
        dsimp only at hp_105 hq_105 hP_105; have ⟨q1_105, q2_105, q3_105⟩ := hP_105.lkm
        refine dEv 16 rfl (v := (.slice A_105 n_105 c_105)) (fun _ hf => evLoad one29 rfl ((hf.cell (p := ⟨_, _, none⟩) hb_105 (fun h => h)).trans hp_105)) rfl rfl (by kernel_rfl) ?_
        have hE := hdcE _ (List.mem_of_getElem? he_105); have hEn := hE.n; have hEl := hE.ln; dsimp only at hEn hEl
        refine dEv 17 rfl (v := (.slice (some ⟨b102, o103, none⟩) nr_27 cr_27)) (fun _ _ => rfl) rfl rfl (by kernel_rfl) (dEv 18 rfl (v := (.int .i64 ((i : Int)))) (fun _ _ => rfl) rfl rfl (by kernel_rfl) (dEv 19 rfl (v := (.pointer (some ⟨b102, o103 + (i * 2), none⟩))) (fun _ _ => evIx i Try.underlying25 sz36 rfl rfl (o103 + (i * 2))) rfl rfl (by kernel_rfl) (dEv 20 rfl (v := (.pointer (some ⟨b102, o103 + (i * 2), none⟩))) (fun _ _ => evFA (o103 + (i * 2)) fa36_0 rfl rfl) rfl rfl (by kernel_rfl) ?_)))
        obtain ⟨⟨A_107, n_107, c_107, x_107, k_107⟩, he_107, hp_107, hq_107, hP_107, hS_107, hb_107⟩ := h101.at_ (i := i) (by omega)
        dsimp only at hp_107 hq_107 hP_107; have ⟨q1_107, q2_107, q3_107⟩ := hP_107.lkm
        refine dEv 21 rfl (v := (.slice A_107 n_107 c_107)) (fun _ hf => evLoad one33 rfl ((hf.cell (p := ⟨_, _, none⟩) hb_107 (fun h => h)).trans hp_107)) rfl rfl (by kernel_rfl) ?_
        have hkg := known_get hfs he_105 he_107; (try dsimp only at hkg); have hlx := congrArg List.length hkg.1; rw [zlen] at hlx
        refine dOp 22 rfl rfl (by kernel_rfl) (oCall rfl call16 (law11_Poly hP_107 (by omega)) rfl ?_)
        rintro _ w110 ⟨Ar_109, nr_109, cr_109, lr_109, rfl, hE111, hr_109, e_109, ln_109, cn_109⟩
        refine ⟨(Frm.of_ext hE111), ?_⟩
        have hz112 := hE111.size
        have ⟨kr_109, jr_109, mr_109⟩ := hr_109.lkm
        have h114 := (hP_105.ext hE111)
        refine dOp 23 rfl rfl (by kernel_rfl) (oCall rfl call15 (unipoly_Same h114 hr_109) rfl ?_)
        rintro _ w116 ⟨gr_115, rfl, hE117, e_115⟩
        refine ⟨(Frm.of_ext hE117), ?_⟩
        have hz118 := hE117.size
        obtain rfl : gr_115 = true := by rw [e_115, e_109, trim_trim, hEn.t, hkg.1]; exact decide_eq_true (by rw [← hkg.1, hEn.t])
        refine dEv 24 rfl (v := (.bool false)) (fun _ _ => evNot _ rfl rfl) rfl rfl (by kernel_rfl) (dV 25 rfl (v := (.bool false)) (fun _ _ => rfl) (dDone (by kernel_rfl) (xN (hK91 _ _ (cF rfl (wp_skip (bN (xN (hK90 _ _ (wp_region_lit (sMi rfl (sV (evAdd (((i : Int)) + 1) rfl rfl wI) (sAi rfl (sDone ?_))))))))))))))
        have hR119 := (hE93.trans hE111).trans hE117
        refine again (nr_40 - (i + 1)) (by omega) ⟨(i + 1), rfl, rfl, rfl, cI, (hF80.trans hR119), ?_⟩
        · omega
      · refine sV (evLss false rfl rfl (dF hc89)) (sK hK88 (cF rfl (wp_exit (xE (xE (bE (xN (hK73 _ _ (rS fun K120 hK120 => sAb rfl (sK hK120 (wp_ret (ret1 (.bool true) Try.results6 (resT rfl) ?_))))))))))))
        have hR121 := ((((((((((hE6.trans hE11).trans hE23).trans hE29).trans hE37).trans hE42).trans hE49).rx hU53).xr hE59).xr hE64).xr hE71).xr hF80
        exact ⟨(true), rfl, (Frm.mono hR121 q4), rfl⟩

end Go.Proofs.Ytikplganiodciaa
