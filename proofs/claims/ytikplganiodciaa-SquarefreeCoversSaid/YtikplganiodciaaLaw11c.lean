/-
  Walk of the law SquarefreeCovers.
-/
import Derived.Test.YtikplganiodciaaSq10
import Derived.Test.YtikplganiodciaaSq9
namespace Go.Proofs.Ytikplganiodciaa
open Go.RowKit Go.Gx
set_option maxHeartbeats 2000000 in
theorem law11_covers {w : World} {Sc : Nat → Prop} {Ac : Option Addr} {nc cc : Nat} {xc : List Int} (hc : I16R w Sc Ac nc cc xc)  : Calls Try.prog 4 #[(.slice Ac nc cc)] w (Ret fun v w' => ∃ (gr : Bool), v = (.bool gr) ∧ Ext w w' ∧ (gr = true)) := by
  have ⟨lc, kc, mc⟩ := hc.lkm
  replace hc := hc.low
  refine enter Try.func4 rfl Try.ntmps4 rfl (rS fun K1 hK1 => sAb rfl (sK hK1 (wp_seq_k fun K2 hK2 => rS fun K3 hK3 => sO (oCall rfl call8 (law11_awake) rfl ?_))))
  rintro _ w5 ⟨gr_4, rfl, hE6, e_4⟩
  have hz7 := hE6.size
  obtain rfl : gr_4 = true := e_4
  refine sV (evNot _ rfl rfl) (sK hK3 (cF rfl (wp_skip (xN (hK2 _ _ (rS fun K8 hK8 => sMs rfl ?_))))))
  have h9 := (hc.ext hE6)
  refine sO (oCall rfl call17 (law11_Short h9 (xn := 10) (by omega) (by omega)) rfl ?_)
  rintro _ w11 ⟨Ar_10, nr_10, cr_10, lr_10, rfl, hE12, hr_10, e_10, ln_10, cn_10⟩
  have hz13 := hE12.size
  have ⟨kr_10, jr_10, mr_10⟩ := hr_10.lkm
  have hnf := nrm_short e_10 hc.2; have hnf2 : nrm (zs lr_10) ≤ 16777216 := by omega
  have htf : (trimZ (zs lr_10)).length ≤ 10 := by have h := trimZ_len (zs lr_10); rw [zlen] at h; omega
  refine sAs rfl (sK hK8 (rS fun K15 hK15 => sMs rfl (sO (oCall rfl call12 (squarefree_Part hr_10 (by omega) (by omega) (by omega)) rfl ?_))))
  rintro _ w17 ⟨Ar_16, nr_16, cr_16, lr_16, rfl, hE18, hr_16, pt_16, ln_16, cn_16⟩
  have hz19 := hE18.size
  have ⟨kr_16, jr_16, mr_16⟩ := hr_16.lkm
  refine sAs rfl (sK hK15 (wp_seq_k fun K21 hK21 => rS fun K22 hK22 => sMs rfl ?_))
  have h23 := (hr_10.ext hE18)
  refine sO (oCall rfl call18 (unipoly_Degree h23 (by omega) (by omega)) rfl ?_)
  rintro _ w25 ⟨xr_24, rfl, hE26, e_24⟩
  have hz27 := hE26.size
  by_cases hc28 : xr_24 < 0
  · refine sV (evLss true rfl rfl (dT hc28)) ?_
    have hF : P (zs lr_10) = 0 := dg_zero.1 (by rw [dg_P]; omega)
    have hzp : zs lr_16 = [] := (pt_16.resolve_right fun hh => hh.1 hF).2
    have hn0 : nr_16 = 0 := by have h := congrArg List.length hzp; rw [zlen] at h; have h2 : lr_16.length = 0 := h; omega
    refine sK hK22 (cT rfl (rS fun K29 hK29 => sMs rfl (sV (evLen Try.underlying29 rfl) (sV (evEql true rfl rfl (dT (by omega))) (sMb rfl (sEv (v := (.slice Ar_10 nr_10 cr_10)) (rfl) rfl rfl ?_))))))
    have h30 := (h23.ext hE26)
    refine sOp rfl (oCall rfl call13 (squarefree_Is h30 (by omega) (by omega)) rfl ?_)
    rintro _ w32 ⟨gr_31, rfl, hE33, e_31⟩
    have hz34 := hE33.size
    obtain rfl : gr_31 = false := Bool.eq_false_iff.2 fun hh => not_sqf_zero (by have h := e_31.1 hh; rw [← der_P, hF] at h; exact h)
    refine sEv (v := (.bool true)) (evNot _ rfl rfl) rfl rfl (sV (v := (.bool true)) (rfl) (sAb rfl (sK hK29 (wp_ret (xR (ret1 (.bool true) Try.results4 (resT rfl) ?_))))))
    have hR35 := (((hE6.trans hE12).trans hE18).trans hE26).trans hE33
    exact ⟨(true), rfl, hR35, rfl⟩
  · refine sV (evLss false rfl rfl (dF hc28)) ?_
    have hF : P (zs lr_10) ≠ 0 := dg_pos.2 (by rw [dg_P]; omega)
    have hpo := (pt_16.resolve_left fun hh => hF hh.1).2; have hpl : (trimZ (zs lr_16)).length ≤ 11 := by have h := trimZ_len (zs lr_16); rw [zlen] at h; omega
    refine sK hK22 (cF rfl (wp_skip (xN (hK21 _ _ (wp_seq_k fun K36 hK36 => wp_seq_k fun K37 hK37 => ?_)))))
    have hp17 : nrm (zs lr_16) < BS ^ 17 := div17q hpo.n.c (hpo.dvd hF) hF hnf2 (by omega)
    refine wp_region_lit (sMs rfl ?_)
    have h38 := (hr_16.ext hE26)
    refine sO (oCall rfl call13 (squarefree_Is h38 (by omega) (by omega)) rfl ?_)
    rintro _ w40 ⟨gr_39, rfl, hE41, e_39⟩
    have hz42 := hE41.size
    obtain rfl : gr_39 = true := e_39.2 (by rw [← der_P]; exact hpo.sqf)
    refine sV (evNot _ rfl rfl) (sMb rfl (sEv (v := (.slice Ar_16 nr_16 cr_16)) (rfl) rfl rfl (sEv (v := (.slice Ar_10 nr_10 cr_10)) (rfl) rfl rfl ?_)))
    have h43 := (h38.ext hE41)
    have hR44 := hE26.trans hE41
    have h45 := (h23.ext hR44)
    refine sOp rfl (oCall rfl call19 (unidiv_Divides h43 h45 (by omega) (by omega) (by omega) (by omega)) rfl ?_)
    rintro _ w47 ⟨gr_46, rfl, hE48, e_46⟩
    have hz49 := hE48.size
    obtain rfl : gr_46 = true := e_46.2 (hpo.dvd hF)
    refine sEv (v := (.bool false)) (evNot _ rfl rfl) rfl rfl (sV (v := (.bool false)) (rfl) (sMb rfl (sEv (v := (.slice Ar_10 nr_10 cr_10)) (rfl) rfl rfl (sEv (v := (.slice Ar_16 nr_16 cr_16)) (rfl) rfl rfl (sEv (v := (.slice Ar_10 nr_10 cr_10)) (rfl) rfl rfl ?_)))))
    have h50 := (h45.ext hE48)
    refine sOp rfl (oCall rfl call18 (unipoly_Degree h50 (by omega) (by omega)) rfl ?_)
    rintro _ w52 ⟨xr_51, rfl, hE53, e_51⟩
    have hz54 := hE53.size
    have hR55 := hE48.trans hE53
    have h56 := (h43.ext hR55)
    refine sOp rfl (oCall rfl call20 (unipoly_Pow h56 (by omega) (by omega) (by omega)) rfl ?_)
    rintro _ w58 ⟨Ar_57, nr_57, cr_57, lr_57, rfl, hE59, hr_57, e_57, ln_57, cn_57⟩
    have hz60 := hE59.size
    have ⟨kr_57, jr_57, mr_57⟩ := hr_57.lkm
    obtain ⟨n9, hn9⟩ : ∃ n : Nat, (trimZ (zs lr_10)).length = n + 1 := ⟨(trimZ (zs lr_10)).length - 1, by omega⟩
    have ep := e_57; rw [show (xr_51).toNat = n9 by omega] at ep
    have hlp : nr_57 ≤ 128 := by have h := tlen_pow ep hpl (show n9 ≤ 9 by omega); rw [zlen] at h; omega
    have hT62 := PolyR.tight (K := 154) hr_57 cn_57 (Nat.lt_of_le_of_lt (pow_norm ep (Nat.le_of_lt hp17) (by decide) (show n9 ≤ 9 by omega)) (by decide))
    have hPw : P (zs lr_57) = P (zs lr_16) ^ n9 := by rw [ep, P_trim, P_pow]
    have hR63 := hE53.trans hE59
    have h64 := (h50.ext hR63)
    refine sOp rfl (oCall rfl call19 (unidiv_Divides h64 hT62 (by omega) (by omega) (by omega) (by omega)) rfl ?_)
    rintro _ w66 ⟨gr_65, rfl, hE67, e_65⟩
    have hz68 := hE67.size
    obtain rfl : gr_65 = true := e_65.2 (by rw [hPw]; exact hpo.pow hF (by omega))
    refine sEv (v := (.bool false)) (evNot _ rfl rfl) rfl rfl (sV (v := (.bool false)) (rfl) (sK hK37 (cF rfl (wp_skip (xN (hK36 _ _ (rS fun K69 hK69 => sMs rfl ?_)))))))
    have h70 := (h64.ext hE67)
    refine sO (oCall rfl call13 (squarefree_Is h70 (by omega) (by omega)) rfl ?_)
    rintro _ w72 ⟨gr_71, rfl, hE73, e_71⟩
    have hz74 := hE73.size
    refine sMs rfl ?_
    have hR75 := (hE59.trans hE67).trans hE73
    have h76 := (h56.ext hR75)
    refine sO (oCall rfl call18 (unipoly_Degree h76 (by omega) (by omega)) rfl ?_)
    rintro _ w78 ⟨xr_77, rfl, hE79, e_77⟩
    have hz80 := hE79.size
    refine sMs rfl ?_
    have hR81 := hE73.trans hE79
    have h82 := (h70.ext hR81)
    refine sO (oCall rfl call18 (unipoly_Degree h82 (by omega) (by omega)) rfl ?_)
    rintro _ w84 ⟨xr_83, rfl, hE85, e_83⟩
    have hz86 := hE85.size
    by_cases hc87 : xr_77 = xr_83
    · refine sV (evEql true rfl rfl (dT hc87)) ?_
      have hiff : gr_71 = true ↔ (trimZ (zs lr_16)).length = (trimZ (zs lr_10)).length := e_71.trans (by rw [← der_P]; exact hpo.deg hF)
      obtain rfl : gr_71 = true := hiff.2 (by omega)
      refine sV (evEqlB _ Try.underlying4 rfl rfl rfl) (sMb rfl (sEv (v := (.slice Ar_16 nr_16 cr_16)) (rfl) rfl rfl (sEv (v := (.slice Ar_16 nr_16 cr_16)) (rfl) rfl rfl ?_)))
      have hR88 := hE79.trans hE85
      have h89 := (h76.ext hR88)
      refine sOp rfl (oCall rfl call21 (unidiv_Primitive h89 (by omega) (by omega)) rfl ?_)
      rintro _ w91 ⟨Ar_90, nr_90, cr_90, lr_90, rfl, hE92, hr_90, e_90, ln_90, cn_90⟩
      have hz93 := hE92.size
      have ⟨kr_90, jr_90, mr_90⟩ := hr_90.lkm
      have h95 := (h89.ext hE92)
      refine sOp rfl (oCall rfl call15 (unipoly_Same h95 hr_90) rfl ?_)
      rintro _ w97 ⟨gr_96, rfl, hE98, e_96⟩
      have hz99 := hE98.size
      obtain rfl : gr_96 = true := by rw [e_96, e_90, hpo.n.self]; simp
      refine sV (v := (.bool true)) (rfl) (sAb rfl (sK hK69 (wp_ret (ret1 (.bool true) Try.results4 (resT rfl) ?_))))
      have hR100 := ((((((((((((hE6.trans hE12).trans hE18).trans hE26).trans hE41).trans hE48).trans hE53).trans hE59).trans hE67).trans hE73).trans hE79).trans hE85).trans hE92).trans hE98
      exact ⟨(true), rfl, hR100, rfl⟩
    · refine sV (evEql false rfl rfl (dF hc87)) ?_
      have hiff : gr_71 = true ↔ (trimZ (zs lr_16)).length = (trimZ (zs lr_10)).length := e_71.trans (by rw [← der_P]; exact hpo.deg hF)
      obtain rfl : gr_71 = false := Bool.eq_false_iff.2 fun hh => absurd (hiff.1 hh) (by omega)
      refine sV (evEqlB _ Try.underlying4 rfl rfl rfl) (sMb rfl (sEv (v := (.slice Ar_16 nr_16 cr_16)) (rfl) rfl rfl (sEv (v := (.slice Ar_16 nr_16 cr_16)) (rfl) rfl rfl ?_)))
      have hR101 := hE79.trans hE85
      have h102 := (h76.ext hR101)
      refine sOp rfl (oCall rfl call21 (unidiv_Primitive h102 (by omega) (by omega)) rfl ?_)
      rintro _ w104 ⟨Ar_103, nr_103, cr_103, lr_103, rfl, hE105, hr_103, e_103, ln_103, cn_103⟩
      have hz106 := hE105.size
      have ⟨kr_103, jr_103, mr_103⟩ := hr_103.lkm
      have h108 := (h102.ext hE105)
      refine sOp rfl (oCall rfl call15 (unipoly_Same h108 hr_103) rfl ?_)
      rintro _ w110 ⟨gr_109, rfl, hE111, e_109⟩
      have hz112 := hE111.size
      obtain rfl : gr_109 = true := by rw [e_109, e_103, hpo.n.self]; simp
      refine sV (v := (.bool true)) (rfl) (sAb rfl (sK hK69 (wp_ret (ret1 (.bool true) Try.results4 (resT rfl) ?_))))
      have hR113 := ((((((((((((hE6.trans hE12).trans hE18).trans hE26).trans hE41).trans hE48).trans hE53).trans hE59).trans hE67).trans hE73).trans hE79).trans hE85).trans hE105).trans hE111
      exact ⟨(true), rfl, hR113, rfl⟩

end Go.Proofs.Ytikplganiodciaa
