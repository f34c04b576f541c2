/-
  Walk of the law SquarefreeExponents.
-/
import Derived.Test.YtikplganiodciaaSq13
namespace Go.Proofs.Ytikplganiodciaa
open Go.RowKit Go.Gx
set_option maxHeartbeats 4000000 in
theorem law11_exponents {w : World} {Sc : Nat → Prop} {Ac : Option Addr} {nc cc : Nat} {xc : List Int} {Sd : Nat → Prop} {Ad : Option Addr} {nd cd : Nat} {xd : List Int} {yu0 yu1 yu2 yu3 : Nat} (hc : I16R w Sc Ac nc cc xc) (hd : I16R w Sd Ad nd cd xd) (bu0 : yu0 < 256) (bu1 : yu1 < 256) (bu2 : yu2 < 256) (bu3 : yu3 < 256)  : Calls Try.prog 5 #[(.slice Ac nc cc), (.slice Ad nd cd), (.agg #[(.int .u8 ((yu0 : Int))), (.int .u8 ((yu1 : Int))), (.int .u8 ((yu2 : Int))), (.int .u8 ((yu3 : Int)))])] w (Ret fun v w' => ∃ (gr : Bool), v = (.bool gr) ∧ Ext w w' ∧ (gr = true)) := by
  have ⟨lc, kc, mc⟩ := hc.lkm
  replace hc := hc.low
  have ⟨ld, kd, md⟩ := hd.lkm
  replace hd := hd.low
  refine enter Try.func5 rfl Try.ntmps5 rfl (rS fun K1 hK1 => sO (oBox [(.int .u8 ((yu0 : Int))), (.int .u8 ((yu1 : Int))), (.int .u8 ((yu2 : Int))), (.int .u8 ((yu3 : Int)))] rfl rfl (fun g2 w3 hg4 hE5 hz6 hB7 => sAb rfl (sK hK1 (wp_seq_k fun K8 hK8 => rS fun K9 hK9 => sO (oCall rfl call8 (law11_awake) rfl ?_))))))
  rintro _ w11 ⟨gr_10, rfl, hE12, e_10⟩
  have hz13 := hE12.size
  obtain rfl : gr_10 = true := e_10
  refine sV (evNot _ rfl rfl) (sK hK9 (cF rfl (wp_skip (xN (hK8 _ _ (rS fun K14 hK14 => sMs rfl ?_))))))
  have hR15 := hE5.trans hE12
  have h16 := (hc.ext hR15)
  refine sO (oCall rfl call17 (law11_Short h16 (xn := 5) (by omega) (by omega)) rfl ?_)
  rintro _ w18 ⟨Ar_17, nr_17, cr_17, lr_17, rfl, hE19, hr_17, e_17, ln_17, cn_17⟩
  have hz20 := hE19.size
  have ⟨kr_17, jr_17, mr_17⟩ := hr_17.lkm
  have hnp := nrm_short e_17 hc.2; have htp : (trimZ (zs lr_17)).length ≤ 5 := by have h := trimZ_len (zs lr_17); rw [zlen] at h; omega
  refine sMs rfl ?_
  have hR22 := hR15.trans hE19
  have h23 := (hd.ext hR22)
  refine sO (oCall rfl call17 (law11_Short h23 (xn := 5) (by omega) (by omega)) rfl ?_)
  rintro _ w25 ⟨Ar_24, nr_24, cr_24, lr_24, rfl, hE26, hr_24, e_24, ln_24, cn_24⟩
  have hz27 := hE26.size
  have ⟨kr_24, jr_24, mr_24⟩ := hr_24.lkm
  have hnq := nrm_short e_24 hd.2; have htq : (trimZ (zs lr_24)).length ≤ 5 := by have h := trimZ_len (zs lr_24); rw [zlen] at h; omega
  refine sAs rfl (sAs rfl (sK hK14 (wp_seq_k fun K29 hK29 => dBegin (fun _ => False) mixed (fun w30 hE31 hz32 => dV 0 rfl (fun _ _ => evArr 0 Try.underlying45 sz5 rfl rfl 0) ?_))))
  have hR33 := ((hE12.trans hE19).trans hE26).trans hE31
  have hB34 := (hB7.ext hR33)
  refine dV 1 rfl (fun _ hf => evLoadB one5 rfl (hB34.ext hf) rfl) (dV 2 rfl (fun _ _ => evRem (((yu0 % 4 : Nat) : Int)) rfl rfl (by omega) (remE (by omega) (by omega))) (dV 3 rfl (fun _ _ => evConv (((yu0 % 4 : Nat) : Int)) Try.underlying5 Try.underlying3 rfl (wI64 (by omega))) (dV 4 rfl (fun _ _ => evArr 1 Try.underlying45 sz5 rfl rfl 1) (dV 5 rfl (fun _ hf => evLoadB one5 rfl (hB34.ext hf) rfl) (dV 6 rfl (fun _ _ => evRem (((yu1 % 4 : Nat) : Int)) rfl rfl (by omega) (remE (by omega) (by omega))) (dV 7 rfl (fun _ _ => evConv (((yu1 % 4 : Nat) : Int)) Try.underlying5 Try.underlying3 rfl (wI64 (by omega))) (dAi 8 rfl rfl (dAi 9 rfl rfl (dDone (by kernel_rfl) (xN (hK29 _ _ (wp_seq_k fun K35 hK35 => dBegin (fun _ => False) mixed (fun w36 hE37 hz38 => ?_)))))))))))))
  refine dMs 0 rfl rfl (dMi 1 rfl rfl (dMs 3 rfl rfl (dMi 4 rfl rfl (dV 7 rfl (fun _ _ => evArr 2 Try.underlying45 sz5 rfl rfl 2) ?_))))
  have hB39 := (hB34.ext hE37)
  refine dV 8 rfl (fun _ hf => evLoadB one5 rfl (hB39.ext hf) rfl) (dV 9 rfl (fun _ _ => evConv ((yu2 : Int)) Try.underlying5 Try.underlying2 rfl (wI64 (by omega))) ?_)
  have hR40 := (hE26.trans hE31).trans hE37
  have h41 := (hr_17.ext hR40)
  refine dOp 2 rfl rfl (by kernel_rfl) (oCall rfl call20 (unipoly_Pow h41 (by omega) (by omega) (by omega)) rfl ?_)
  rintro _ w43 ⟨Ar_42, nr_42, cr_42, lr_42, rfl, hE44, hr_42, e_42, ln_42, cn_42⟩
  refine ⟨(Frm.of_ext hE44), ?_⟩
  have hz45 := hE44.size
  have ⟨kr_42, jr_42, mr_42⟩ := hr_42.lkm
  have ewp := e_42; rw [show ((yu0 % 4 : Nat) : Int).toNat = yu0 % 4 from rfl] at ewp
  have hlwp : nr_42 ≤ 16 := by have h := tlen_pow ewp htp (show yu0 % 4 ≤ 3 by omega); rw [zlen] at h; omega
  have hT47 := PolyR.tight (K := 2) hr_42 cn_42 (Nat.lt_of_le_of_lt (pow_norm ewp hnp (by decide) (show yu0 % 4 ≤ 3 by omega)) (by decide))
  have hR48 := (hE31.trans hE37).trans hE44
  have h49 := (hr_24.ext hR48)
  refine dOp 5 rfl rfl (by kernel_rfl) (oCall rfl call20 (unipoly_Pow h49 (by omega) (by omega) (by omega)) rfl ?_)
  rintro _ w51 ⟨Ar_50, nr_50, cr_50, lr_50, rfl, hE52, hr_50, e_50, ln_50, cn_50⟩
  refine ⟨(Frm.of_ext hE52), ?_⟩
  have hz53 := hE52.size
  have ⟨kr_50, jr_50, mr_50⟩ := hr_50.lkm
  have ewq := e_50; rw [show ((yu1 % 4 : Nat) : Int).toNat = yu1 % 4 from rfl] at ewq
  have hlwq : nr_50 ≤ 16 := by have h := tlen_pow ewq htq (show yu1 % 4 ≤ 3 by omega); rw [zlen] at h; omega
  have hT55 := PolyR.tight (K := 2) hr_50 cn_50 (Nat.lt_of_le_of_lt (pow_norm ewq hnq (by decide) (show yu1 % 4 ≤ 3 by omega)) (by decide))
  have h56 := (hT47.ext hE52)
  refine dOp 6 rfl rfl (by kernel_rfl) (oCall rfl call23 (unipoly_Mul h56 hT55 (by omega) (by omega) (by omega) (by omega)) rfl ?_)
  rintro _ w58 ⟨Ar_57, nr_57, cr_57, lr_57, rfl, hE59, hr_57, e_57, ln_57, cn_57⟩
  refine ⟨(Frm.of_ext hE59), ?_⟩
  have hz60 := hE59.size
  have ⟨kr_57, jr_57, mr_57⟩ := hr_57.lkm
  refine dOp 10 rfl rfl (by kernel_rfl) (oCall rfl call24 (integer_Of (by omega)) rfl ?_)
  rintro _ w63 ⟨gr_62, Ar_62, nr_62, cr_62, dr_62, rfl, hE64, hr_62, v_62, cn_62, le_62⟩
  refine ⟨(Frm.of_ext hE64), ?_⟩
  have hz65 := hE64.size
  have ⟨lr_62, kr_62, mr_62⟩ := hr_62.lkm
  have h67 := (hr_57.ext hE64)
  refine dOp 11 rfl rfl (by kernel_rfl) (oCall rfl call22 (unipoly_Scale h67 hr_62 (by omega) (by omega) (by omega)) rfl ?_)
  rintro _ w69 ⟨Ar_68, nr_68, cr_68, lr_68, rfl, hE70, hr_68, e_68, ln_68, cn_68⟩
  refine ⟨(Frm.of_ext hE70), ?_⟩
  have hz71 := hE70.size
  have ⟨kr_68, jr_68, mr_68⟩ := hr_68.lkm
  have eF := e_68; rw [v_62] at eF
  have hT73 := PolyR.tight (K := 4) hr_68 cn_68 (Nat.lt_of_le_of_lt (exp_law_nF ewp ewq e_57 eF hnp hnq (by omega) (by omega) (by omega)) (by decide))
  have hNF := exp_law_nF ewp ewq e_57 eF hnp hnq (by omega) (by omega) (by omega)
  have hPF := exp_law_F ewp ewq e_57 eF; have hNF2 : nrm (zs lr_68) ≤ 2 ^ 128 := Nat.le_trans hNF (by decide)
  refine dAs 12 rfl rfl (dDone (by kernel_rfl) (xN (hK35 _ _ (rS fun K74 hK74 => sMs rfl (sMs rfl (sMs rfl (sO (oBuildSlice [(.slice Ar_17 nr_17 cr_17), (.slice Ar_24 nr_24 cr_24)] [[(.slice Ar_17 nr_17 cr_17)], [(.slice Ar_24 nr_24 cr_24)]] Try.underlying55 inf29 rfl rfl rfl rfl rfl (fun g75 w76 hg77 hE78 hz79 hB80 => ?_)))))))))
  replace hB80 : Blk w76 g75 29 [(.slice Ar_17 nr_17 cr_17), (.slice Ar_24 nr_24 cr_24)] := hB80
  have h81 := (hT73.ext hE78)
  have hR82 := ((((hE44.trans hE52).trans hE59).trans hE64).trans hE70).trans hE78
  have h83 := (h41.ext hR82)
  have hR84 := (((hE52.trans hE59).trans hE64).trans hE70).trans hE78
  have h85 := (h49.ext hR84)
  refine sO (oCall rfl call25 (squarefree_Exponents h81 (PolysR.two hB80 h83 h85 (Nat.le_max_left _ _) (Nat.le_max_right _ _)) (by omega) (by omega) (by omega) (by omega) (by omega) (by intro x hx; simp at hx; rcases hx with rfl | rfl <;> (dsimp only; omega))) rfl ?_)
  rintro _ w87 ⟨Ar_86, nr_86, cr_86, dr_86, gk_86, rfl, hE88, hr_86, e_86⟩
  have hz89 := hE88.size
  have ⟨lr_86, kr_86, mr_86⟩ := hr_86.lkm
  have hE1 : ExpR (P (zs lr_68)) [P (zs lr_17), P (zs lr_24)] gk_86 dr_86 := e_86
  refine sV (v := (.tuple #[(.slice Ar_86 nr_86 cr_86), (.bool gk_86)])) (rfl) (sV (v := (.slice Ar_86 nr_86 cr_86)) (rfl) (sV (v := (.bool gk_86)) (rfl) (sAs rfl (sAb rfl (sK hK74 (wp_seq_k fun K91 hK91 => rS fun K92 hK92 => sMs rfl ?_))))))
  have h93 := (h83.ext hE88)
  refine sO (oCall rfl call18 (unipoly_Degree h93 (by omega) (by omega)) rfl ?_)
  rintro _ w95 ⟨xr_94, rfl, hE96, e_94⟩
  have hz97 := hE96.size
  by_cases hc98 : xr_94 < 1
  · refine sV (evLss true rfl rfl (dT hc98)) (sMb rfl (sSkip rfl rfl (sSkip rfl rfl (sSkip rfl rfl (sV (v := (.bool true)) (rfl) (sMb rfl (sSkip rfl rfl (sSkip rfl rfl (sSkip rfl rfl (sSkip rfl rfl (sV (v := (.bool true)) (rfl) (sMb rfl (sSkip rfl rfl (sSkip rfl rfl (sSkip rfl rfl (sV (v := (.bool true)) (rfl) (sK hK92 (cT rfl (wp_seq_k fun K99 hK99 => ?_)))))))))))))))))))
    obtain ⟨rfl, hes⟩ := exp_law_no hE1 (fun hh => absurd (base_deg (i := 0) hh.2 rfl) (by rw [dg_P]; omega))
    have hn0 : nr_86 = 0 := by rw [← lr_86, hes]; rfl
    refine wp_region_lit (sMb rfl (sV (evNot _ rfl rfl) (sMb rfl (sEv (v := (.slice Ar_86 nr_86 cr_86)) (rfl) rfl rfl (sEv (v := (.int .i64 ((nr_86 : Int)))) (evLen Try.underlying33 rfl) rfl rfl (sEv (v := (.bool true)) (evEql true rfl rfl (dT (by omega))) rfl rfl (sV (v := (.bool true)) (rfl) (sAb rfl (sK hK99 (wp_ret (xR (ret1 (.bool true) Try.results5 (resT rfl) ?_))))))))))))
    have hR100 := ((((((((((hR22.trans hE26).trans hE31).trans hE37).trans hE44).trans hE52).trans hE59).trans hE64).trans hE70).trans hE78).trans hE88).trans hE96
    exact ⟨(true), rfl, hR100, rfl⟩
  · refine sV (evLss false rfl rfl (dF hc98)) (sMb rfl (sEv (v := (.slice Ar_24 nr_24 cr_24)) (rfl) rfl rfl ?_))
    have hR101 := hE88.trans hE96
    have h102 := (h85.ext hR101)
    refine sOp rfl (oCall rfl call18 (unipoly_Degree h102 (by omega) (by omega)) rfl ?_)
    rintro _ w104 ⟨xr_103, rfl, hE105, e_103⟩
    have hz106 := hE105.size
    by_cases hc107 : xr_103 < 1
    · refine sEv (v := (.bool true)) (evLss true rfl rfl (dT hc107)) rfl rfl (sV (v := (.bool true)) (rfl) (sMb rfl (sSkip rfl rfl (sSkip rfl rfl (sSkip rfl rfl (sSkip rfl rfl (sV (v := (.bool true)) (rfl) (sMb rfl (sSkip rfl rfl (sSkip rfl rfl (sSkip rfl rfl (sV (v := (.bool true)) (rfl) (sK hK92 (cT rfl (wp_seq_k fun K108 hK108 => ?_)))))))))))))))
      obtain ⟨rfl, hes⟩ := exp_law_no hE1 (fun hh => absurd (base_deg (i := 1) hh.2 rfl) (by rw [dg_P]; omega))
      have hn0 : nr_86 = 0 := by rw [← lr_86, hes]; rfl
      refine wp_region_lit (sMb rfl (sV (evNot _ rfl rfl) (sMb rfl (sEv (v := (.slice Ar_86 nr_86 cr_86)) (rfl) rfl rfl (sEv (v := (.int .i64 ((nr_86 : Int)))) (evLen Try.underlying33 rfl) rfl rfl (sEv (v := (.bool true)) (evEql true rfl rfl (dT (by omega))) rfl rfl (sV (v := (.bool true)) (rfl) (sAb rfl (sK hK108 (wp_ret (xR (ret1 (.bool true) Try.results5 (resT rfl) ?_))))))))))))
      have hR109 := (((((((((((hR22.trans hE26).trans hE31).trans hE37).trans hE44).trans hE52).trans hE59).trans hE64).trans hE70).trans hE78).trans hE88).trans hE96).trans hE105
      exact ⟨(true), rfl, hR109, rfl⟩
    · refine sEv (v := (.bool false)) (evLss false rfl rfl (dF hc107)) rfl rfl (sV (v := (.bool false)) (rfl) (sMb rfl (sEv (v := (.slice Ar_17 nr_17 cr_17)) (rfl) rfl rfl (sEv (v := (.slice Ar_24 nr_24 cr_24)) (rfl) rfl rfl ?_))))
      have hR110 := hE96.trans hE105
      have h111 := (h93.ext hR110)
      have h112 := (h102.ext hE105)
      refine sOp rfl (oCall rfl call26 (unidiv_Coprime h111 h112 (by omega) (by omega) (by omega) (by omega)) rfl ?_)
      rintro _ w114 ⟨gr_113, rfl, hE115, e_113⟩
      have hz116 := hE115.size
      refine sEv (v := (.bool (!gr_113))) (evNot _ rfl rfl) rfl rfl (sV (v := (.bool (!gr_113))) (rfl) (sMb rfl ?_))
      cases gr_113
      · refine sSkip rfl rfl (sSkip rfl rfl (sSkip rfl rfl (sV (v := (.bool true)) (rfl) (sK hK92 (cT rfl (wp_seq_k fun K117 hK117 => ?_))))))
        obtain ⟨rfl, hes⟩ := exp_law_no hE1 (fun hh => absurd (e_113.2 (List.rel_of_pairwise_cons hh.2.2 (by simp))) (by decide))
        have hn0 : nr_86 = 0 := by rw [← lr_86, hes]; rfl
        refine wp_region_lit (sMb rfl (sV (evNot _ rfl rfl) (sMb rfl (sEv (v := (.slice Ar_86 nr_86 cr_86)) (rfl) rfl rfl (sEv (v := (.int .i64 ((nr_86 : Int)))) (evLen Try.underlying33 rfl) rfl rfl (sEv (v := (.bool true)) (evEql true rfl rfl (dT (by omega))) rfl rfl (sV (v := (.bool true)) (rfl) (sAb rfl (sK hK117 (wp_ret (xR (ret1 (.bool true) Try.results5 (resT rfl) ?_))))))))))))
        have hR118 := ((((((((((((hR22.trans hE26).trans hE31).trans hE37).trans hE44).trans hE52).trans hE59).trans hE64).trans hE70).trans hE78).trans hE88).trans hE96).trans hE105).trans hE115
        exact ⟨(true), rfl, hR118, rfl⟩
      · refine sEv (v := (.pointer (some ⟨g2, 2, none⟩))) (evArr 2 Try.underlying45 sz5 rfl rfl 2) rfl rfl ?_
        have hR119 := (((hR82.trans hE88).trans hE96).trans hE105).trans hE115
        have hB120 := (hB39.ext hR119)
        refine sEv (v := (.int .u8 ((yu2 : Int)))) (evLoadB one5 rfl hB120 rfl) rfl rfl ?_
        by_cases hc121 : ((yu2 : Int)) = 0
        · refine sEv (v := (.bool true)) (evEql true rfl rfl (dT hc121)) rfl rfl (sV (v := (.bool true)) (rfl) (sK hK92 (cT rfl (wp_seq_k fun K122 hK122 => ?_))))
          obtain ⟨rfl, hes⟩ := exp_law_no hE1 (fun hh => hh.1 (by rw [hPF, show (yu2 : Int) = 0 by omega, zero_cast, K_zero, zero_qmul]))
          have hn0 : nr_86 = 0 := by rw [← lr_86, hes]; rfl
          refine wp_region_lit (sMb rfl (sV (evNot _ rfl rfl) (sMb rfl (sEv (v := (.slice Ar_86 nr_86 cr_86)) (rfl) rfl rfl (sEv (v := (.int .i64 ((nr_86 : Int)))) (evLen Try.underlying33 rfl) rfl rfl (sEv (v := (.bool true)) (evEql true rfl rfl (dT (by omega))) rfl rfl (sV (v := (.bool true)) (rfl) (sAb rfl (sK hK122 (wp_ret (xR (ret1 (.bool true) Try.results5 (resT rfl) ?_))))))))))))
          have hR123 := ((((((((((((hR22.trans hE26).trans hE31).trans hE37).trans hE44).trans hE52).trans hE59).trans hE64).trans hE70).trans hE78).trans hE88).trans hE96).trans hE105).trans hE115
          exact ⟨(true), rfl, hR123, rfl⟩
        · refine sEv (v := (.bool false)) (evEql false rfl rfl (dF hc121)) rfl rfl (sV (v := (.bool false)) (rfl) (sK hK92 (cF rfl (wp_skip (xN (hK91 _ _ (wp_seq_k fun K124 hK124 => ?_)))))))
          obtain ⟨hFn, hbs, rfl, hes⟩ := exp_law_yes hPF hE1 (by rw [dg_P]; omega) (by rw [dg_P]; omega) (e_113.1 rfl) (by omega)
          have hn2 : nr_86 = 2 := by rw [← lr_86, hes]; rfl
          refine wp_region_lit (sV (evArr 3 Try.underlying45 sz5 rfl rfl 3) (sV (evLoadB one5 rfl hB120 rfl) (sV (evConv ((yu3 : Int)) Try.underlying5 Try.underlying2 rfl (wI64 (by omega))) (sO (oBuildSlice [(.int .i64 ((yu3 : Int))), (.int .i64 (1))] [[(.int .i64 ((yu3 : Int)))], [(.int .i64 (1))]] Try.underlying76 inf2 rfl rfl rfl rfl rfl (fun g125 w126 hg127 hE128 hz129 hB130 => ?_))))))
          replace hB130 : Blk w126 g125 2 [(.int .i64 ((yu3 : Int))), (.int .i64 (1))] := hB130
          refine sO (oCall rfl call27 (unipoly_Of (IntsR.of_blk (S := fun b => b = g125) (n := 2) (c := 2) (xs := [(yu3 : Int), 1]) hB130 rfl (by intro x hx; simp only [List.mem_cons, List.not_mem_nil, or_false] at hx; omega) rfl (Nat.le_refl _) (by decide)) (by omega)) rfl ?_)
          rintro _ w132 ⟨Ar_131, nr_131, cr_131, lr_131, rfl, hE133, hr_131, e_131, le_131, cn_131⟩
          have hz134 := hE133.size
          have ⟨kr_131, jr_131, mr_131⟩ := hr_131.lkm
          have hzx : zs lr_131 = [(yu3 : Int), 1] := by rw [e_131]; exact lin_trim _
          have hnx : nrm (zs lr_131) ≤ 256 := by rw [hzx]; show _ + (_ + 0) ≤ 256; omega
          have hdx : 2 ≤ dg (P (zs lr_131)) := by rw [hzx, dg_P, lin_len]; omega
          refine sAs rfl (sK hK124 (rS fun K136 hK136 => sMs rfl (sMs rfl ?_)))
          have hR137 := (((hR101.trans hE105).trans hE115).trans hE128).trans hE133
          have h138 := (h81.ext hR137)
          refine sO (oCall rfl call23 (unipoly_Mul h138 hr_131 (by omega) (by omega) (by omega) (by omega)) rfl ?_)
          rintro _ w140 ⟨Ar_139, nr_139, cr_139, lr_139, rfl, hE141, hr_139, e_139, ln_139, cn_139⟩
          have hz142 := hE141.size
          have ⟨kr_139, jr_139, mr_139⟩ := hr_139.lkm
          have hT144 := PolyR.tight (K := 4) hr_139 cn_139 (Nat.lt_of_le_of_lt (exp_law_nX e_139 hNF hnx) (by decide))
          have hNX : nrm (zs lr_139) ≤ 2 ^ 128 := Nat.le_trans (exp_law_nX e_139 hNF hnx) (by decide)
          refine sMs rfl (sMs rfl (sO (oBuildSlice [(.slice Ar_17 nr_17 cr_17), (.slice Ar_24 nr_24 cr_24)] [[(.slice Ar_17 nr_17 cr_17)], [(.slice Ar_24 nr_24 cr_24)]] Try.underlying55 inf29 rfl rfl rfl rfl rfl (fun g145 w146 hg147 hE148 hz149 hB150 => ?_))))
          replace hB150 : Blk w146 g145 29 [(.slice Ar_17 nr_17 cr_17), (.slice Ar_24 nr_24 cr_24)] := hB150
          have h151 := (hT144.ext hE148)
          have hR152 := (((hE115.trans hE128).trans hE133).trans hE141).trans hE148
          have h153 := (h111.ext hR152)
          have h154 := (h112.ext hR152)
          refine sO (oCall rfl call25 (squarefree_Exponents h151 (PolysR.two hB150 h153 h154 (Nat.le_max_left _ _) (Nat.le_max_right _ _)) (by omega) (by omega) (by omega) (by omega) (by omega) (by intro x hx; simp at hx; rcases hx with rfl | rfl <;> (dsimp only; omega))) rfl ?_)
          rintro _ w156 ⟨Ar_155, nr_155, cr_155, dr_155, gk_155, rfl, hE157, hr_155, e_155⟩
          have hz158 := hE157.size
          have ⟨lr_155, kr_155, mr_155⟩ := hr_155.lkm
          have hE2 : ExpR (P (zs lr_139)) [P (zs lr_17), P (zs lr_24)] gk_155 dr_155 := e_155
          refine sV (v := (.tuple #[(.slice Ar_155 nr_155 cr_155), (.bool gk_155)])) (rfl) (sV (v := (.slice Ar_155 nr_155 cr_155)) (rfl) (sV (v := (.bool gk_155)) (rfl) (sAs rfl (sAb rfl (sK hK136 (wp_seq_k fun K160 hK160 => rS fun K161 hK161 => sMs rfl (sMs rfl (sMs rfl ?_))))))))
          have h162 := (h153.ext hE157)
          have h163 := (h154.ext hE157)
          refine sO (oCall rfl call23 (unipoly_Mul h162 h163 (by omega) (by omega) (by omega) (by omega)) rfl ?_)
          rintro _ w165 ⟨Ar_164, nr_164, cr_164, lr_164, rfl, hE166, hr_164, e_164, ln_164, cn_164⟩
          have hz167 := hE166.size
          have ⟨kr_164, jr_164, mr_164⟩ := hr_164.lkm
          have hR169 := ((hE141.trans hE148).trans hE157).trans hE166
          have h170 := (hr_131.ext hR169)
          refine sO (oCall rfl call26 (unidiv_Coprime h170 hr_164 (by omega) (by omega) (by omega) (by omega)) rfl ?_)
          rintro _ w172 ⟨gr_171, rfl, hE173, e_171⟩
          have hz174 := hE173.size
          refine sMb rfl ?_
          cases gr_171
          · refine sSkip rfl rfl (sV (v := (.bool false)) (rfl) (sK hK161 (cF rfl (wp_skip (xN (hK160 _ _ (rS fun K175 hK175 => sMb rfl (sMb rfl (sEv (v := (.slice Ar_86 nr_86 cr_86)) (rfl) rfl rfl (sEv (v := (.int .i64 ((nr_86 : Int)))) (evLen Try.underlying33 rfl) rfl rfl (sEv (v := (.bool true)) (evEql true rfl rfl (dT (by omega))) rfl rfl (sV (v := (.bool true)) (rfl) (sMb rfl (sEv (v := (.slice Ar_86 nr_86 cr_86)) (rfl) rfl rfl ?_))))))))))))))
            have hR176 := (((((((hR110.trans hE115).trans hE128).trans hE133).trans hE141).trans hE148).trans hE157).trans hE166).trans hE173
            have h177 := (hr_86.ext hR176)
            obtain ⟨b178, o179, rfl⟩ := h177.base (by omega)
            refine sEv (v := (.pointer (some ⟨b178, o179 + 0, none⟩))) (evIx 0 Try.underlying33 sz3 rfl rfl (o179 + 0)) rfl rfl ?_
            have hd180 := h177.lt 0
            refine sEv (v := (.int .i64 (((dr_86.getD 0 0 : Nat) : Int)))) (evLoad one3 rfl (h177.cell (by omega))) rfl rfl (sEv (v := (.int .i64 (((yu0 % 4 : Nat) : Int)))) (rfl) rfl rfl (sEv (v := (.bool true)) (evEql true rfl rfl (dT (by rw [hes]; rfl))) rfl rfl (sV (v := (.bool true)) (rfl) (sMb rfl (sEv (v := (.slice (some ⟨b178, o179, none⟩) nr_86 cr_86)) (rfl) rfl rfl (sEv (v := (.pointer (some ⟨b178, o179 + 1, none⟩))) (evIx 1 Try.underlying33 sz3 rfl rfl (o179 + 1)) rfl rfl ?_))))))
            have hd181 := h177.lt 1
            refine sEv (v := (.int .i64 (((dr_86.getD 1 0 : Nat) : Int)))) (evLoad one3 rfl (h177.cell (by omega))) rfl rfl (sEv (v := (.int .i64 (((yu1 % 4 : Nat) : Int)))) (rfl) rfl rfl (sEv (v := (.bool true)) (evEql true rfl rfl (dT (by rw [hes]; rfl))) rfl rfl (sV (v := (.bool true)) (rfl) (sAb rfl (sK hK175 (wp_ret (ret1 (.bool true) Try.results5 (resT rfl) ?_)))))))
            have hR182 := (((((((((((((((((((hR22.trans hE26).trans hE31).trans hE37).trans hE44).trans hE52).trans hE59).trans hE64).trans hE70).trans hE78).trans hE88).trans hE96).trans hE105).trans hE115).trans hE128).trans hE133).trans hE141).trans hE148).trans hE157).trans hE166).trans hE173
            exact ⟨(true), rfl, hR182, rfl⟩
          · refine sEv (v := (.bool gk_155)) (rfl) rfl rfl ?_
            obtain rfl : gk_155 = false := exp_law_more hE2 e_139 e_164 hbs hdx (e_171.1 rfl) hFn
            refine sV (v := (.bool false)) (rfl) (sK hK161 (cF rfl (wp_skip (xN (hK160 _ _ (rS fun K183 hK183 => sMb rfl (sMb rfl (sEv (v := (.slice Ar_86 nr_86 cr_86)) (rfl) rfl rfl (sEv (v := (.int .i64 ((nr_86 : Int)))) (evLen Try.underlying33 rfl) rfl rfl (sEv (v := (.bool true)) (evEql true rfl rfl (dT (by omega))) rfl rfl (sV (v := (.bool true)) (rfl) (sMb rfl (sEv (v := (.slice Ar_86 nr_86 cr_86)) (rfl) rfl rfl ?_)))))))))))))
            have hR184 := (((((((hR110.trans hE115).trans hE128).trans hE133).trans hE141).trans hE148).trans hE157).trans hE166).trans hE173
            have h185 := (hr_86.ext hR184)
            obtain ⟨b186, o187, rfl⟩ := h185.base (by omega)
            refine sEv (v := (.pointer (some ⟨b186, o187 + 0, none⟩))) (evIx 0 Try.underlying33 sz3 rfl rfl (o187 + 0)) rfl rfl ?_
            have hd188 := h185.lt 0
            refine sEv (v := (.int .i64 (((dr_86.getD 0 0 : Nat) : Int)))) (evLoad one3 rfl (h185.cell (by omega))) rfl rfl (sEv (v := (.int .i64 (((yu0 % 4 : Nat) : Int)))) (rfl) rfl rfl (sEv (v := (.bool true)) (evEql true rfl rfl (dT (by rw [hes]; rfl))) rfl rfl (sV (v := (.bool true)) (rfl) (sMb rfl (sEv (v := (.slice (some ⟨b186, o187, none⟩) nr_86 cr_86)) (rfl) rfl rfl (sEv (v := (.pointer (some ⟨b186, o187 + 1, none⟩))) (evIx 1 Try.underlying33 sz3 rfl rfl (o187 + 1)) rfl rfl ?_))))))
            have hd189 := h185.lt 1
            refine sEv (v := (.int .i64 (((dr_86.getD 1 0 : Nat) : Int)))) (evLoad one3 rfl (h185.cell (by omega))) rfl rfl (sEv (v := (.int .i64 (((yu1 % 4 : Nat) : Int)))) (rfl) rfl rfl (sEv (v := (.bool true)) (evEql true rfl rfl (dT (by rw [hes]; rfl))) rfl rfl (sV (v := (.bool true)) (rfl) (sAb rfl (sK hK183 (wp_ret (ret1 (.bool true) Try.results5 (resT rfl) ?_)))))))
            have hR190 := (((((((((((((((((((hR22.trans hE26).trans hE31).trans hE37).trans hE44).trans hE52).trans hE59).trans hE64).trans hE70).trans hE78).trans hE88).trans hE96).trans hE105).trans hE115).trans hE128).trans hE133).trans hE141).trans hE148).trans hE157).trans hE166).trans hE173
            exact ⟨(true), rfl, hR190, rfl⟩

end Go.Proofs.Ytikplganiodciaa
