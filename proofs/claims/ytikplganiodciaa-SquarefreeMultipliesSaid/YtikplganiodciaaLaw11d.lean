/-
  Walk of the law SquarefreeMultiplies.
-/
import Derived.Test.YtikplganiodciaaSq12
namespace Go.Proofs.Ytikplganiodciaa
open Go.RowKit Go.Gx
set_option maxHeartbeats 4000000 in
theorem law11_multiplies {w : World} {Sc : Nat → Prop} {Ac : Option Addr} {nc cc : Nat} {xc : List Int} (hc : I16R w Sc Ac nc cc xc)  : Calls Try.prog 7 #[(.slice Ac nc cc)] w (Ret fun v w' => ∃ (gr : Bool), v = (.bool gr) ∧ Ext w w' ∧ (gr = true)) := by
  have ⟨lc, kc, mc⟩ := hc.lkm
  replace hc := hc.low
  refine enter Try.func7 rfl Try.ntmps7 rfl (rS fun K1 hK1 => sAb rfl (sK hK1 (wp_seq_k fun K2 hK2 => rS fun K3 hK3 => sO (oCall rfl call8 (law11_awake) rfl ?_))))
  rintro _ w5 ⟨gr_4, rfl, hE6, e_4⟩
  have hz7 := hE6.size
  obtain rfl : gr_4 = true := e_4
  refine sV (evNot _ rfl rfl) (sK hK3 (cF rfl (wp_skip (xN (hK2 _ _ (rS fun K8 hK8 => sMs rfl ?_))))))
  have h9 := (hc.ext hE6)
  refine sO (oCall rfl call17 (law11_Short h9 (xn := 10) (by omega) (by omega)) rfl ?_)
  rintro _ w11 ⟨Ar_10, nr_10, cr_10, lr_10, rfl, hE12, hr_10, e_10, ln_10, cn_10⟩
  have hz13 := hE12.size
  have ⟨kr_10, jr_10, mr_10⟩ := hr_10.lkm
  have hnf := nrm_short e_10 hc.2; have hnf2 : nrm (zs lr_10) ≤ 16777216 := by omega
  refine sAs rfl (sK hK8 (rS fun K15 hK15 => sMs rfl (sO (oCall rfl call29 (squarefree_Decompose hr_10 (by omega) (by omega) (by omega)) rfl ?_))))
  rintro _ w17 ⟨gu_16, Au_16, nu_16, cu_16, du_16, Ar_16, nr_16, cr_16, fr_16, rfl, hE18, hu_16, hr_16, dc_16, nu2_16, nr2_16⟩
  have hz19 := hE18.size
  have ⟨lu_16, ku_16, mu_16⟩ := hu_16.lkm
  have ⟨kr_16, jr_16, mr_16⟩ := hr_16.lkm
  obtain ⟨pq, kq, hdec⟩ := dc_16.each; have hok : ∀ x ∈ fr_16, FacOk x := fun x hx => (hdec.e x hx).ok
  refine sV (v := (.tuple #[(.agg #[(.bool gu_16), (.slice Au_16 nu_16 cu_16)]), (.slice Ar_16 nr_16 cr_16)])) (rfl) (sV (v := (.agg #[(.bool gu_16), (.slice Au_16 nu_16 cu_16)])) (rfl) (sV (v := (.slice Ar_16 nr_16 cr_16)) (rfl) (sO (oAlloc [(.bool false), (.slice none 0 0)] zero51 rfl (fun g22 w23 hg24 hE25 hz26 hB27 => sO (oStore [(.bool gu_16), (.slice Au_16 nu_16 cu_16)] rfl rfl rfl sz51 rfl hB27 (Nat.le_of_ble_eq_true rfl) (fun w28 hU29 hz30 hB31 => ?_)))))))
  replace hB31 : Blk w28 g22 51 [(.bool gu_16), (.slice Au_16 nu_16 cu_16)] := hB31
  refine sAs rfl (sK hK15 (wp_seq_k fun K32 hK32 => rS fun K33 hK33 => sAi rfl (sK hK33 (wp_block ?_))))
  refine lLoop (fun m e w_ => ∃ (i : Nat), m = nr_16 - i ∧ e 3 = (.slice Ar_10 nr_10 cr_10) ∧ e 4 = (.pointer (some ⟨g22, 0, none⟩)) ∧ e 5 = (.slice Ar_16 nr_16 cr_16) ∧ e 6 = (.int .i64 ((i : Int))) ∧ Frm (fun b => False) w28 w_ ∧ (i ≤ nr_16)) (nr_16 - (0)) ?_ ?_
  · refine ⟨(0), rfl, rfl, rfl, rfl, cI, (Frm.refl _ _), ?_⟩
    · omega
  · rintro m34 e42 w35 ⟨i, hm41, hs36, hs37, hs38, hs39, hF40, hi⟩
    obtain ⟨r43, rfl⟩ := sq (e := e42) (t := 3) hs36
    obtain ⟨r44, rfl⟩ := sq (e := r43) (t := 4) hs37
    obtain ⟨r45, rfl⟩ := sq (e := r44) (t := 5) hs38
    obtain ⟨r46, rfl⟩ := sq (e := r45) (t := 6) hs39
    have hz47 := hF40.size
    refine wp_seq_k fun K48 hK48 => rS fun K49 hK49 => sMi rfl (sMs rfl (sV (evLen Try.underlying59 rfl) ?_))
    by_cases hc50 : ((i : Int)) < ((nr_16 : Int))
    · refine sV (evLss true rfl rfl (dT hc50)) (sK hK49 (cT rfl (wp_skip (xN (hK48 _ _ (wp_seq_k fun K51 hK51 => wp_block (wp_seq_k fun K52 hK52 => wp_seq_k fun K53 hK53 => dBegin (fun _ => False) mixed (fun w54 hE55 hz56 => dMs 0 rfl rfl (dMi 1 rfl rfl ?_)))))))))
      have hR57 := ((hE25.rx hU29).xr hF40).xr hE55
      have h58 := (hr_16.frmB hR57 q3)
      obtain ⟨b59, o60, rfl⟩ := h58.base (by omega)
      refine dV 2 rfl (fun _ _ => evIx i Try.underlying59 sz64 rfl rfl (o60 + (i * 2))) (dV 3 rfl (fun _ _ => evFA (o60 + (i * 2)) fa64_0 rfl rfl) ?_)
      obtain ⟨⟨A_61, n_61, c_61, l_61, k_61⟩, he_61, hp_61, hq_61, hP_61, hS_61, hb_61⟩ := h58.at_ (i := i) (by omega)
      dsimp only at hp_61 hq_61 hP_61; have ⟨q1_61, q2_61, q3_61⟩ := hP_61.lkm
      have hE_61 := hdec.e _ (List.mem_of_getElem? he_61); have hN_61 := hE_61.n; have hk_61 := hE_61.k1; have hn_61 := hE_61.ln; have hd_61 := hE_61.d; dsimp only at hN_61 hk_61 hn_61 hd_61; have ht_61 : 2 ≤ (trimZ (zs l_61)).length := (by rw [hN_61.t, zlen]; omega)
      refine dV 4 rfl (fun _ hf => evLoad one29 rfl ((hf.cell (p := ⟨_, _, none⟩) hb_61 (fun h => h)).trans hp_61)) (dOp 5 rfl rfl (by kernel_rfl) (oCall rfl call31 (law11_normal hP_61 (by omega) (by omega) (by assumption) (by omega)) rfl ?_))
      rintro _ w64 ⟨gr_63, rfl, hE65, e_63⟩
      refine ⟨(Frm.of_ext hE65), ?_⟩
      have hz66 := hE65.size
      obtain rfl : gr_63 = true := e_63
      refine dV 6 rfl (fun _ _ => evNot _ rfl rfl) (dMb 7 rfl rfl (dEv 8 rfl (v := (.slice (some ⟨b59, o60, none⟩) nr_16 cr_16)) (fun _ _ => rfl) rfl rfl (by kernel_rfl) (dEv 9 rfl (v := (.int .i64 ((i : Int)))) (fun _ _ => rfl) rfl rfl (by kernel_rfl) (dEv 10 rfl (v := (.pointer (some ⟨b59, o60 + (i * 2), none⟩))) (fun _ _ => evIx i Try.underlying59 sz64 rfl rfl (o60 + (i * 2))) rfl rfl (by kernel_rfl) (dEv 11 rfl (v := (.pointer (some ⟨b59, o60 + (i * 2), none⟩))) (fun _ _ => evFA (o60 + (i * 2)) fa64_0 rfl rfl) rfl rfl (by kernel_rfl) ?_)))))
      have h67 := (h58.ext hE65)
      obtain ⟨⟨A_68, n_68, c_68, l_68, k_68⟩, he_68, hp_68, hq_68, hP_68, hS_68, hb_68⟩ := h67.at_ (i := i) (by omega)
      dsimp only at hp_68 hq_68 hP_68; have ⟨q1_68, q2_68, q3_68⟩ := hP_68.lkm
      have hE_68 := hdec.e _ (List.mem_of_getElem? he_68); have hN_68 := hE_68.n; have hk_68 := hE_68.k1; have hn_68 := hE_68.ln; have hd_68 := hE_68.d; dsimp only at hN_68 hk_68 hn_68 hd_68; have ht_68 : 2 ≤ (trimZ (zs l_68)).length := (by rw [hN_68.t, zlen]; omega)
      refine dEv 12 rfl (v := (.slice A_68 n_68 c_68)) (fun _ hf => evLoad one29 rfl ((hf.cell (p := ⟨_, _, none⟩) hb_68 (fun h => h)).trans hp_68)) rfl rfl (by kernel_rfl) (dOp 13 rfl rfl (by kernel_rfl) (oCall rfl call13 (squarefree_Is hP_68 (by omega) (by omega)) rfl ?_))
      rintro _ w71 ⟨gr_70, rfl, hE72, e_70⟩
      refine ⟨(Frm.of_ext hE72), ?_⟩
      have hz73 := hE72.size
      obtain rfl : gr_70 = true := e_70.2 (by rw [← der_P]; exact hE_68.sqf)
      refine dEv 14 rfl (v := (.bool false)) (fun _ _ => evNot _ rfl rfl) rfl rfl (by kernel_rfl) (dV 15 rfl (v := (.bool false)) (fun _ _ => rfl) (dMb 16 rfl rfl (dEv 17 rfl (v := (.slice (some ⟨b59, o60, none⟩) nr_16 cr_16)) (fun _ _ => rfl) rfl rfl (by kernel_rfl) (dEv 18 rfl (v := (.int .i64 ((i : Int)))) (fun _ _ => rfl) rfl rfl (by kernel_rfl) (dEv 19 rfl (v := (.pointer (some ⟨b59, o60 + (i * 2), none⟩))) (fun _ _ => evIx i Try.underlying59 sz64 rfl rfl (o60 + (i * 2))) rfl rfl (by kernel_rfl) (dEv 20 rfl (v := (.pointer (some ⟨b59, o60 + (i * 2) + 1, none⟩))) (fun _ _ => evFA (o60 + (i * 2) + 1) fa64_1 rfl rfl) rfl rfl (by kernel_rfl) ?_))))))
      have h74 := (h67.ext hE72)
      obtain ⟨⟨A_75, n_75, c_75, l_75, k_75⟩, he_75, hp_75, hq_75, hP_75, hS_75, hb_75⟩ := h74.at_ (i := i) (by omega)
      dsimp only at hp_75 hq_75 hP_75; have ⟨q1_75, q2_75, q3_75⟩ := hP_75.lkm
      have hE_75 := hdec.e _ (List.mem_of_getElem? he_75); have hN_75 := hE_75.n; have hk_75 := hE_75.k1; have hn_75 := hE_75.ln; have hd_75 := hE_75.d; dsimp only at hN_75 hk_75 hn_75 hd_75; have ht_75 : 2 ≤ (trimZ (zs l_75)).length := (by rw [hN_75.t, zlen]; omega)
      refine dEv 21 rfl (v := (.int .i64 (k_75))) (fun _ hf => evLoad one3 rfl ((hf.cell (p := ⟨_, _, none⟩) hb_75 (fun h => h)).trans hq_75)) rfl rfl (by kernel_rfl) (dEv 22 rfl (v := (.bool false)) (fun _ _ => evLss false rfl rfl (dF (by omega))) rfl rfl (by kernel_rfl) (dV 23 rfl (v := (.bool false)) (fun _ _ => rfl) (dMb 24 rfl rfl (dEv 25 rfl (v := (.int .i64 ((i : Int)))) (fun _ _ => rfl) rfl rfl (by kernel_rfl) ?_))))
      by_cases hc76 : ((i : Int)) > 0
      · refine dEv 26 rfl (v := (.bool true)) (fun _ _ => evGtr true rfl rfl (dT hc76)) rfl rfl (by kernel_rfl) (dEv 27 rfl (v := (.bool true)) (fun _ _ => rfl) rfl rfl (by kernel_rfl) (dEv 28 rfl (v := (.slice (some ⟨b59, o60, none⟩) nr_16 cr_16)) (fun _ _ => rfl) rfl rfl (by kernel_rfl) (dEv 29 rfl (v := (.int .i64 ((i : Int)))) (fun _ _ => rfl) rfl rfl (by kernel_rfl) (dEv 30 rfl (v := (.int .i64 (((i - 1 : Nat) : Int)))) (fun _ _ => evSub (((i - 1 : Nat) : Int)) rfl rfl (wI64 (by omega))) rfl rfl (by kernel_rfl) (dEv 31 rfl (v := (.pointer (some ⟨b59, o60 + ((i - 1) * 2), none⟩))) (fun _ _ => evIx (i - 1) Try.underlying59 sz64 rfl rfl (o60 + ((i - 1) * 2))) rfl rfl (by kernel_rfl) (dEv 32 rfl (v := (.pointer (some ⟨b59, o60 + ((i - 1) * 2) + 1, none⟩))) (fun _ _ => evFA (o60 + ((i - 1) * 2) + 1) fa64_1 rfl rfl) rfl rfl (by kernel_rfl) ?_))))))
        obtain ⟨⟨A_77, n_77, c_77, l_77, k_77⟩, he_77, hp_77, hq_77, hP_77, hS_77, hb_77⟩ := h74.at_ (i := (i - 1)) (by omega)
        dsimp only at hp_77 hq_77 hP_77; have ⟨q1_77, q2_77, q3_77⟩ := hP_77.lkm
        have hE_77 := hdec.e _ (List.mem_of_getElem? he_77); have hN_77 := hE_77.n; have hk_77 := hE_77.k1; have hn_77 := hE_77.ln; have hd_77 := hE_77.d; dsimp only at hN_77 hk_77 hn_77 hd_77; have ht_77 : 2 ≤ (trimZ (zs l_77)).length := (by rw [hN_77.t, zlen]; omega)
        refine dEv 33 rfl (v := (.int .i64 (k_77))) (fun _ hf => evLoad one3 rfl ((hf.cell (p := ⟨_, _, none⟩) hb_77 (fun h => h)).trans hq_77)) rfl rfl (by kernel_rfl) (dEv 34 rfl (v := (.slice (some ⟨b59, o60, none⟩) nr_16 cr_16)) (fun _ _ => rfl) rfl rfl (by kernel_rfl) (dEv 35 rfl (v := (.int .i64 ((i : Int)))) (fun _ _ => rfl) rfl rfl (by kernel_rfl) (dEv 36 rfl (v := (.pointer (some ⟨b59, o60 + (i * 2), none⟩))) (fun _ _ => evIx i Try.underlying59 sz64 rfl rfl (o60 + (i * 2))) rfl rfl (by kernel_rfl) (dEv 37 rfl (v := (.pointer (some ⟨b59, o60 + (i * 2) + 1, none⟩))) (fun _ _ => evFA (o60 + (i * 2) + 1) fa64_1 rfl rfl) rfl rfl (by kernel_rfl) ?_))))
        obtain ⟨⟨A_78, n_78, c_78, l_78, k_78⟩, he_78, hp_78, hq_78, hP_78, hS_78, hb_78⟩ := h74.at_ (i := i) (by omega)
        dsimp only at hp_78 hq_78 hP_78; have ⟨q1_78, q2_78, q3_78⟩ := hP_78.lkm
        have hE_78 := hdec.e _ (List.mem_of_getElem? he_78); have hN_78 := hE_78.n; have hk_78 := hE_78.k1; have hn_78 := hE_78.ln; have hd_78 := hE_78.d; dsimp only at hN_78 hk_78 hn_78 hd_78; have ht_78 : 2 ≤ (trimZ (zs l_78)).length := (by rw [hN_78.t, zlen]; omega)
        refine dEv 38 rfl (v := (.int .i64 (k_78))) (fun _ hf => evLoad one3 rfl ((hf.cell (p := ⟨_, _, none⟩) hb_78 (fun h => h)).trans hq_78)) rfl rfl (by kernel_rfl) (dEv 39 rfl (v := (.bool false)) (fun _ _ => evGeq false rfl rfl (dF (by have h := asc_get hdec.asc he_77 he_78 (by omega); dsimp only at h; omega))) rfl rfl (by kernel_rfl) (dEv 40 rfl (v := (.bool false)) (fun _ _ => rfl) rfl rfl (by kernel_rfl) (dV 41 rfl (v := (.bool false)) (fun _ _ => rfl) (dDone (by kernel_rfl) (xN (hK53 _ _ (cF rfl (wp_skip (xN (hK52 _ _ (rS fun K79 hK79 => sAi rfl (sK hK79 (wp_block ?_)))))))))))))
        refine lLoop (fun m e w_ => ∃ (j : Nat), m = i - j ∧ e 3 = (.slice Ar_10 nr_10 cr_10) ∧ e 4 = (.pointer (some ⟨g22, 0, none⟩)) ∧ e 5 = (.slice (some ⟨b59, o60, none⟩) nr_16 cr_16) ∧ e 6 = (.int .i64 ((i : Int))) ∧ e 7 = (.int .i64 ((j : Int))) ∧ Frm (fun b => False) w71 w_ ∧ (j ≤ i)) (i - (0)) ?_ ?_
        · refine ⟨(0), rfl, rfl, rfl, rfl, rfl, cI, (Frm.refl _ _), ?_⟩
          · omega
        · rintro m80 e89 w81 ⟨j, hm88, hs82, hs83, hs84, hs85, hs86, hF87, hj⟩
          obtain ⟨r90, rfl⟩ := sq (e := e89) (t := 3) hs82
          obtain ⟨r91, rfl⟩ := sq (e := r90) (t := 4) hs83
          obtain ⟨r92, rfl⟩ := sq (e := r91) (t := 5) hs84
          obtain ⟨r93, rfl⟩ := sq (e := r92) (t := 6) hs85
          obtain ⟨r94, rfl⟩ := sq (e := r93) (t := 7) hs86
          have hz95 := hF87.size
          refine wp_seq_k fun K96 hK96 => rS fun K97 hK97 => sMi rfl (sMi rfl ?_)
          by_cases hc98 : ((j : Int)) < ((i : Int))
          · refine sV (evLss true rfl rfl (dT hc98)) (sK hK97 (cT rfl (wp_skip (xN (hK96 _ _ (wp_seq_k fun K99 hK99 => wp_block (wp_seq_k fun K100 hK100 => dBegin (fun _ => False) mixed (fun w101 hE102 hz103 => dMs 0 rfl rfl (dMi 1 rfl rfl (dV 2 rfl (fun _ _ => evIx i Try.underlying59 sz64 rfl rfl (o60 + (i * 2))) (dV 3 rfl (fun _ _ => evFA (o60 + (i * 2)) fa64_0 rfl rfl) ?_)))))))))))
            have hR104 := hF87.trans hE102
            have h105 := (h74.ext hR104)
            obtain ⟨⟨A_106, n_106, c_106, l_106, k_106⟩, he_106, hp_106, hq_106, hP_106, hS_106, hb_106⟩ := h105.at_ (i := i) (by omega)
            dsimp only at hp_106 hq_106 hP_106; have ⟨q1_106, q2_106, q3_106⟩ := hP_106.lkm
            have hE_106 := hdec.e _ (List.mem_of_getElem? he_106); have hN_106 := hE_106.n; have hk_106 := hE_106.k1; have hn_106 := hE_106.ln; have hd_106 := hE_106.d; dsimp only at hN_106 hk_106 hn_106 hd_106; have ht_106 : 2 ≤ (trimZ (zs l_106)).length := (by rw [hN_106.t, zlen]; omega)
            refine dV 4 rfl (fun _ hf => evLoad one29 rfl ((hf.cell (p := ⟨_, _, none⟩) hb_106 (fun h => h)).trans hp_106)) (dMs 5 rfl rfl (dMi 6 rfl rfl (dV 7 rfl (fun _ _ => evIx j Try.underlying59 sz64 rfl rfl (o60 + (j * 2))) (dV 8 rfl (fun _ _ => evFA (o60 + (j * 2)) fa64_0 rfl rfl) ?_))))
            obtain ⟨⟨A_108, n_108, c_108, l_108, k_108⟩, he_108, hp_108, hq_108, hP_108, hS_108, hb_108⟩ := h105.at_ (i := j) (by omega)
            dsimp only at hp_108 hq_108 hP_108; have ⟨q1_108, q2_108, q3_108⟩ := hP_108.lkm
            have hE_108 := hdec.e _ (List.mem_of_getElem? he_108); have hN_108 := hE_108.n; have hk_108 := hE_108.k1; have hn_108 := hE_108.ln; have hd_108 := hE_108.d; dsimp only at hN_108 hk_108 hn_108 hd_108; have ht_108 : 2 ≤ (trimZ (zs l_108)).length := (by rw [hN_108.t, zlen]; omega)
            refine dV 9 rfl (fun _ hf => evLoad one29 rfl ((hf.cell (p := ⟨_, _, none⟩) hb_108 (fun h => h)).trans hp_108)) (dOp 10 rfl rfl (by kernel_rfl) (oCall rfl call26 (unidiv_Coprime hP_106 hP_108 (by omega) (by omega) (by omega) (by omega)) rfl ?_))
            rintro _ w111 ⟨gr_110, rfl, hE112, e_110⟩
            refine ⟨(Frm.of_ext hE112), ?_⟩
            have hz113 := hE112.size
            obtain rfl : gr_110 = true := e_110.2 (DecE.cop hE_106 hE_108 (by have h := asc_get hdec.asc he_108 he_106 (by omega); dsimp only at h ⊢; omega))
            refine dV 11 rfl (fun _ _ => evNot _ rfl rfl) (dDone (by kernel_rfl) (xN (hK100 _ _ (cF rfl (wp_skip (bN (xN (hK99 _ _ (wp_region_lit (sMi rfl (sV (evAdd (((j : Int)) + 1) rfl rfl wI) (sAi rfl (sDone ?_)))))))))))))
            have hR114 := hE102.trans hE112
            refine again (i - (j + 1)) (by omega) ⟨(j + 1), rfl, rfl, rfl, rfl, rfl, cI, (hF87.trans hR114), ?_⟩
            · omega
          · refine sV (evLss false rfl rfl (dF hc98)) (sK hK97 (cF rfl (wp_exit (xE (xE (bE (bN (xN (hK51 _ _ (wp_region_lit (sMi rfl (sV (evAdd (((i : Int)) + 1) rfl rfl wI) (sAi rfl (sDone ?_))))))))))))))
            have hR115 := ((hE55.trans hE65).trans hE72).trans hF87
            refine again (nr_16 - (i + 1)) (by omega) ⟨(i + 1), rfl, rfl, rfl, rfl, cI, (hF40.trans hR115), ?_⟩
            · omega
      · refine dEv 26 rfl (v := (.bool false)) (fun _ _ => evGtr false rfl rfl (dF hc76)) rfl rfl (by kernel_rfl) (dEv 27 rfl (v := (.bool false)) (fun _ _ => rfl) rfl rfl (by kernel_rfl) (dSkip 28 rfl rfl rfl (by kernel_rfl) (dSkip 29 rfl rfl rfl (by kernel_rfl) (dSkip 30 rfl rfl rfl (by kernel_rfl) (dSkip 31 rfl rfl rfl (by kernel_rfl) (dSkip 32 rfl rfl rfl (by kernel_rfl) (dSkip 33 rfl rfl rfl (by kernel_rfl) (dSkip 34 rfl rfl rfl (by kernel_rfl) (dSkip 35 rfl rfl rfl (by kernel_rfl) (dSkip 36 rfl rfl rfl (by kernel_rfl) (dSkip 37 rfl rfl rfl (by kernel_rfl) (dSkip 38 rfl rfl rfl (by kernel_rfl) (dSkip 39 rfl rfl rfl (by kernel_rfl) (dEv 40 rfl (v := (.bool false)) (fun _ _ => rfl) rfl rfl (by kernel_rfl) ?_))))))))))))))
        refine dV 41 rfl (v := (.bool false)) (fun _ _ => rfl) (dDone (by kernel_rfl) (xN (hK53 _ _ (cF rfl (wp_skip (xN (hK52 _ _ (rS fun K116 hK116 => sAi rfl (sK hK116 (wp_block ?_))))))))))
        refine lLoop (fun m e w_ => ∃ (j : Nat), m = i - j ∧ e 3 = (.slice Ar_10 nr_10 cr_10) ∧ e 4 = (.pointer (some ⟨g22, 0, none⟩)) ∧ e 5 = (.slice (some ⟨b59, o60, none⟩) nr_16 cr_16) ∧ e 6 = (.int .i64 ((i : Int))) ∧ e 7 = (.int .i64 ((j : Int))) ∧ Frm (fun b => False) w71 w_ ∧ (j ≤ i)) (i - (0)) ?_ ?_
        · refine ⟨(0), rfl, rfl, rfl, rfl, rfl, cI, (Frm.refl _ _), ?_⟩
          · omega
        · rintro m117 e126 w118 ⟨j, hm125, hs119, hs120, hs121, hs122, hs123, hF124, hj⟩
          obtain ⟨r127, rfl⟩ := sq (e := e126) (t := 3) hs119
          obtain ⟨r128, rfl⟩ := sq (e := r127) (t := 4) hs120
          obtain ⟨r129, rfl⟩ := sq (e := r128) (t := 5) hs121
          obtain ⟨r130, rfl⟩ := sq (e := r129) (t := 6) hs122
          obtain ⟨r131, rfl⟩ := sq (e := r130) (t := 7) hs123
          have hz132 := hF124.size
          refine wp_seq_k fun K133 hK133 => rS fun K134 hK134 => sMi rfl (sMi rfl ?_)
          by_cases hc135 : ((j : Int)) < ((i : Int))
          · refine sV (evLss true rfl rfl (dT hc135)) (sK hK134 (cT rfl (wp_skip (xN (hK133 _ _ (wp_seq_k fun K136 hK136 => wp_block (wp_seq_k fun K137 hK137 => dBegin (fun _ => False) mixed (fun w138 hE139 hz140 => dMs 0 rfl rfl (dMi 1 rfl rfl (dV 2 rfl (fun _ _ => evIx i Try.underlying59 sz64 rfl rfl (o60 + (i * 2))) (dV 3 rfl (fun _ _ => evFA (o60 + (i * 2)) fa64_0 rfl rfl) ?_)))))))))))
            have hR141 := hF124.trans hE139
            have h142 := (h74.ext hR141)
            obtain ⟨⟨A_143, n_143, c_143, l_143, k_143⟩, he_143, hp_143, hq_143, hP_143, hS_143, hb_143⟩ := h142.at_ (i := i) (by omega)
            dsimp only at hp_143 hq_143 hP_143; have ⟨q1_143, q2_143, q3_143⟩ := hP_143.lkm
            have hE_143 := hdec.e _ (List.mem_of_getElem? he_143); have hN_143 := hE_143.n; have hk_143 := hE_143.k1; have hn_143 := hE_143.ln; have hd_143 := hE_143.d; dsimp only at hN_143 hk_143 hn_143 hd_143; have ht_143 : 2 ≤ (trimZ (zs l_143)).length := (by rw [hN_143.t, zlen]; omega)
            refine dV 4 rfl (fun _ hf => evLoad one29 rfl ((hf.cell (p := ⟨_, _, none⟩) hb_143 (fun h => h)).trans hp_143)) (dMs 5 rfl rfl (dMi 6 rfl rfl (dV 7 rfl (fun _ _ => evIx j Try.underlying59 sz64 rfl rfl (o60 + (j * 2))) (dV 8 rfl (fun _ _ => evFA (o60 + (j * 2)) fa64_0 rfl rfl) ?_))))
            obtain ⟨⟨A_145, n_145, c_145, l_145, k_145⟩, he_145, hp_145, hq_145, hP_145, hS_145, hb_145⟩ := h142.at_ (i := j) (by omega)
            dsimp only at hp_145 hq_145 hP_145; have ⟨q1_145, q2_145, q3_145⟩ := hP_145.lkm
            have hE_145 := hdec.e _ (List.mem_of_getElem? he_145); have hN_145 := hE_145.n; have hk_145 := hE_145.k1; have hn_145 := hE_145.ln; have hd_145 := hE_145.d; dsimp only at hN_145 hk_145 hn_145 hd_145; have ht_145 : 2 ≤ (trimZ (zs l_145)).length := (by rw [hN_145.t, zlen]; omega)
            refine dV 9 rfl (fun _ hf => evLoad one29 rfl ((hf.cell (p := ⟨_, _, none⟩) hb_145 (fun h => h)).trans hp_145)) (dOp 10 rfl rfl (by kernel_rfl) (oCall rfl call26 (unidiv_Coprime hP_143 hP_145 (by omega) (by omega) (by omega) (by omega)) rfl ?_))
            rintro _ w148 ⟨gr_147, rfl, hE149, e_147⟩
            refine ⟨(Frm.of_ext hE149), ?_⟩
            have hz150 := hE149.size
            obtain rfl : gr_147 = true := e_147.2 (DecE.cop hE_143 hE_145 (by have h := asc_get hdec.asc he_145 he_143 (by omega); dsimp only at h ⊢; omega))
            refine dV 11 rfl (fun _ _ => evNot _ rfl rfl) (dDone (by kernel_rfl) (xN (hK137 _ _ (cF rfl (wp_skip (bN (xN (hK136 _ _ (wp_region_lit (sMi rfl (sV (evAdd (((j : Int)) + 1) rfl rfl wI) (sAi rfl (sDone ?_)))))))))))))
            have hR151 := hE139.trans hE149
            refine again (i - (j + 1)) (by omega) ⟨(j + 1), rfl, rfl, rfl, rfl, rfl, cI, (hF124.trans hR151), ?_⟩
            · omega
          · refine sV (evLss false rfl rfl (dF hc135)) (sK hK134 (cF rfl (wp_exit (xE (xE (bE (bN (xN (hK51 _ _ (wp_region_lit (sMi rfl (sV (evAdd (((i : Int)) + 1) rfl rfl wI) (sAi rfl (sDone ?_))))))))))))))
            have hR152 := ((hE55.trans hE65).trans hE72).trans hF124
            refine again (nr_16 - (i + 1)) (by omega) ⟨(i + 1), rfl, rfl, rfl, rfl, cI, (hF40.trans hR152), ?_⟩
            · omega
    · refine sV (evLss false rfl rfl (dF hc50)) (sK hK49 (cF rfl (wp_exit (xE (xE (bE (xN (hK32 _ _ (rS fun K153 hK153 => ?_)))))))))
      have hB154 := (hB31.ext hF40)
      refine sV (evLoadAB [(.bool gu_16), (.slice Au_16 nu_16 cu_16)] agg51 sz51 rfl hB154 rfl) (sMs rfl ?_)
      have hR155 := (hE25.rx hU29).xr hF40
      have h156 := (hu_16.frmB hR155 q3)
      have h157 := (hr_16.frmB hR155 q3)
      refine sO (oCall rfl call32 (squarefree_Multiply h156 h157 (by omega) (by omega) (by assumption)) rfl ?_)
      rintro _ w159 ⟨Ar_158, nr_158, cr_158, lr_158, rfl, hE160, hr_158, e_158, ln_158⟩
      have hz161 := hE160.size
      have ⟨kr_158, jr_158, mr_158⟩ := hr_158.lkm
      replace hr_158 := hr_158.low
      refine sMs rfl ?_
      have hR163 := (((hE18.trans hE25).rx hU29).xr hF40).xr hE160
      have h164 := (hr_10.frmB hR163 q3)
      refine sO (oCall rfl call15 (unipoly_Same hr_158 h164) rfl ?_)
      rintro _ w166 ⟨gr_165, rfl, hE167, e_165⟩
      have hz168 := hE167.size
      obtain rfl : gr_165 = true := by rw [e_165]; exact decide_eq_true (P_inj (dc_16.law e_158))
      refine sAb rfl (sK hK153 (wp_ret (ret1 (.bool true) Try.results7 (resT rfl) ?_)))
      have hR169 := ((((((hE6.trans hE12).trans hE18).trans hE25).rx hU29).xr hF40).xr hE160).xr hE167
      exact ⟨(true), rfl, (Frm.mono hR169 q4), rfl⟩

end Go.Proofs.Ytikplganiodciaa
