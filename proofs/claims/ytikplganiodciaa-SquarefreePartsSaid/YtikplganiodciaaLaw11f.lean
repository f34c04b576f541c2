/-
  Walk of the law SquarefreeParts.
-/
import Derived.Test.YtikplganiodciaaKn2
import Derived.Test.YtikplganiodciaaSq10
namespace Go.Proofs.Ytikplganiodciaa
open Go.RowKit Go.Gx
set_option maxHeartbeats 2000000 in
theorem law11_parts {w : World} {St : Nat → Prop} {At : Option Addr} {nt ct : Nat} {tt : List T3} (ht : TripR w St At nt ct tt)  : Calls Try.prog 3 #[(.slice At nt ct)] w (Ret fun v w' => ∃ (gr : Bool), v = (.bool gr) ∧ Ext w w' ∧ (gr = true)) := by
  have ⟨kt, jt, mt⟩ := ht.lkm; replace ht := ht.low
  refine enter Try.func3 rfl Try.ntmps3 rfl (rS fun K1 hK1 => sAb rfl (sK hK1 (wp_seq_k fun K2 hK2 => rS fun K3 hK3 => sO (oCall rfl call8 (law11_awake) rfl ?_))))
  rintro _ w5 ⟨gr_4, rfl, hE6, e_4⟩
  have hz7 := hE6.size
  obtain rfl : gr_4 = true := e_4
  refine sV (evNot _ rfl rfl) (sMb rfl (sEv (v := (.slice At nt ct)) (rfl) rfl rfl ?_))
  have h8 := (ht.ext hE6)
  refine sOp rfl (oCall rfl call9 (ref11_Few h8) rfl ?_)
  rintro _ w10 ⟨gr_9, rfl, hE11, e_9⟩
  have hz12 := hE11.size
  refine sEv (v := (.bool (!gr_9))) (evNot _ rfl rfl) rfl rfl (sV (v := (.bool (!gr_9))) (rfl) (sK hK3 ?_))
  cases gr_9
  · refine cT rfl (rS fun K13 hK13 => sO (oCall rfl call8 (law11_awake) rfl ?_))
    rintro _ w15 ⟨gr_14, rfl, hE16, e_14⟩
    have hz17 := hE16.size
    obtain rfl : gr_14 = true := e_14
    refine sAb rfl (sK hK13 (wp_ret (xR (ret1 (.bool true) Try.results3 (resT rfl) ?_))))
    have hR18 := (hE6.trans hE11).trans hE16
    exact ⟨(true), rfl, hR18, rfl⟩
  · refine cF rfl (wp_skip (xN (hK2 _ _ (wp_seq_k fun K19 hK19 => ?_))))
    have hfe := e_9 rfl; have hft := hfe.2; have hnt : nt ≤ 5 := by have h := hfe.1; exact h
    refine wp_region_lit (sMs rfl ?_)
    have h20 := (h8.ext hE11)
    refine sO (oCall rfl call10 (ref11_Factors h20 (by assumption) (by omega)) rfl ?_)
    rintro _ w22 ⟨xu_21, Ar_21, nr_21, cr_21, fr_21, rfl, hE23, hr_21, e_21, ub_21⟩
    have hz24 := hE23.size
    have ⟨kr_21, jr_21, mr_21⟩ := hr_21.lkm
    replace hr_21 := hr_21.low
    refine sV (v := (.tuple #[(.int .i64 (xu_21)), (.slice Ar_21 nr_21 cr_21)])) (rfl) (sV (v := (.int .i64 (xu_21))) (rfl) (sV (v := (.slice Ar_21 nr_21 cr_21)) (rfl) (sAi rfl (sAs rfl (sK hK19 (rS fun K26 hK26 => sMs rfl ?_))))))
    have h27 := (h20.ext hE23)
    refine sO (oCall rfl call11 (law11_product h27 (by assumption) (by omega)) rfl ?_)
    rintro _ w29 ⟨Ar_28, nr_28, cr_28, lr_28, rfl, hE30, hr_28, e_28, nb_28, ln_28, cn_28⟩
    have hz31 := hE30.size
    have ⟨kr_28, jr_28, mr_28⟩ := hr_28.lkm
    have hR := e_21; rw [← e_28] at hR
    have hnf2 : nrm (zs lr_28) ≤ 16777216 := by omega
    refine sAs rfl (sK hK26 (wp_seq_k fun K33 hK33 => rS fun K34 hK34 => sMi rfl ?_))
    by_cases hc35 : xu_21 = 0
    · refine sV (evEql true rfl rfl (dT hc35)) (sK hK34 (cT rfl (wp_seq_k fun K36 hK36 => ?_)))
      have hF : P (zs lr_28) = 0 := (hR.resolve_right fun h => h.1 (by omega)).2.1
      refine wp_region_lit (sMs rfl (sO (oCall rfl call12 (squarefree_Part hr_28 (by omega) (by omega) (by omega)) rfl ?_)))
      rintro _ w38 ⟨Ar_37, nr_37, cr_37, lr_37, rfl, hE39, hr_37, pt_37, ln_37, cn_37⟩
      have hz40 := hE39.size
      have ⟨kr_37, jr_37, mr_37⟩ := hr_37.lkm
      have hzp : zs lr_37 = [] := (pt_37.resolve_right fun hh => hh.1 hF).2; have hn0 : nr_37 = 0 := by have h := congrArg List.length hzp; rw [zlen] at h; have h2 : lr_37.length = 0 := h; omega
      refine sV (evLen Try.underlying29 rfl) (sV (evEql true rfl rfl (dT (by omega))) (sMb rfl (sEv (v := (.slice Ar_28 nr_28 cr_28)) (rfl) rfl rfl ?_)))
      have h42 := (hr_28.ext hE39)
      refine sOp rfl (oCall rfl call13 (squarefree_Is h42 (by omega) (by omega)) rfl ?_)
      rintro _ w44 ⟨gr_43, rfl, hE45, e_43⟩
      have hz46 := hE45.size
      obtain rfl : gr_43 = false := Bool.eq_false_iff.2 fun hh => zero_known hF (e_43.1 hh)
      refine sEv (v := (.bool true)) (evNot _ rfl rfl) rfl rfl (sV (v := (.bool true)) (rfl) (sAb rfl (sK hK36 (wp_ret (xR (ret1 (.bool true) Try.results3 (resT rfl) ?_))))))
      have hR47 := ((((hE6.trans hE11).trans hE23).trans hE30).trans hE39).trans hE45
      exact ⟨(true), rfl, hR47, rfl⟩
    · refine sV (evEql false rfl rfl (dF hc35)) (sK hK34 (cF rfl (wp_skip (xN (hK33 _ _ (wp_seq_k fun K48 hK48 => ?_))))))
      have ⟨hu0, hPF, hok⟩ := hR.resolve_left fun h => absurd h.1 (by omega); have hF := (facR_prim hPF hu0 hok).1; have hl10 : nr_21 ≤ 10 := by have h := hok.n; rw [List.length_map] at h; omega
      refine wp_region_lit (sO (oBuildSlice [(.int .i64 (1))] [[(.int .i64 (1))]] Try.underlying33 inf3 rfl rfl rfl rfl rfl (fun g49 w50 hg51 hE52 hz53 hB54 => ?_)))
      replace hB54 : Blk w50 g49 3 [(.int .i64 (1))] := hB54
      refine sAs rfl (sK hK48 (rS fun K55 hK55 => sAb rfl (sK hK55 (wp_seq_k fun K56 hK56 => rS fun K57 hK57 => sAi rfl (sK hK57 (wp_block ?_))))))
      refine lLoop (fun m e w_ => ∃ (i : Nat) (on : Bool) (Ap : Option Addr) (np : Nat) (cp : Nat) (xp : List Int), m = nr_21 - i ∧ e 4 = (.slice Ar_21 nr_21 cr_21) ∧ e 5 = (.slice Ar_28 nr_28 cr_28) ∧ e 6 = (.slice Ap np cp) ∧ e 7 = (.bool on) ∧ e 8 = (.int .i64 ((i : Int))) ∧ Frm (fun b => False) w50 w_ ∧ (i ≤ nr_21) ∧ (IntsR w_ (fun b => b < w_.heap.size) Ap np cp xp) ∧ (xp = accM ((fr_21.map IE.m).take i)) ∧ (nrm xp ≤ 48 ^ i) ∧ (np ≤ 3 * i + 1) ∧ (on = true ↔ ∀ e ∈ (fr_21.map IE.m).take i, e.2 = 1)) (nr_21 - (0)) ?_ ?_
      · refine ⟨(0), (true), ((some ⟨g49, 0, none⟩)), (1), (1), ([1]), rfl, rfl, rfl, rfl, rfl, cI, (Frm.refl _ _), ?_, ?_, ?_, ?_, ?_, ?_⟩
        · omega
        · exact IntsR.low (IntsR.of_blk (S := fun b => b = g49) (n := 1) (c := 1) (xs := [1]) hB54 rfl (by decide) rfl (Nat.le_refl _) (by decide))
        · rfl
        · decide
        · omega
        · exact iff_of_true rfl (by intro e he; simp at he)
      · rintro m58 e67 w59 ⟨i, on, Ap, np, cp, xp, hm66, hs60, hs61, hs62, hs63, hs64, hF65, hi, hp, hacc, hnb, hln, hon⟩
        obtain ⟨r68, rfl⟩ := sq (e := e67) (t := 4) hs60
        obtain ⟨r69, rfl⟩ := sq (e := r68) (t := 5) hs61
        obtain ⟨r70, rfl⟩ := sq (e := r69) (t := 6) hs62
        obtain ⟨r71, rfl⟩ := sq (e := r70) (t := 7) hs63
        obtain ⟨r72, rfl⟩ := sq (e := r71) (t := 8) hs64
        have hz73 := hF65.size
        have ⟨lp_, kp_, mp_⟩ := hp.lkm
        refine wp_seq_k fun K74 hK74 => rS fun K75 hK75 => sMi rfl (sMs rfl (sV (evLen Try.underlying25 rfl) ?_))
        by_cases hc76 : ((i : Int)) < ((nr_21 : Int))
        · refine sV (evLss true rfl rfl (dT hc76)) (sK hK75 (cT rfl (wp_skip (xN (hK74 _ _ (wp_seq_k fun K77 hK77 => wp_block (rS fun K78 hK78 => sMs rfl (sMs rfl (sMi rfl ?_)))))))))
          have hR79 := (hE30.trans hE52).trans hF65
          have h80 := (hr_21.ext hR79)
          obtain ⟨b81, o82, rfl⟩ := h80.base (by omega)
          refine sV (evIx i Try.underlying25 sz36 rfl rfl (o82 + (i * 2))) (sV (evFA (o82 + (i * 2)) fa36_0 rfl rfl) ?_)
          obtain ⟨⟨A_83, n_83, c_83, x_83, k_83⟩, he_83, hp_83, hq_83, hP_83, hS_83, hb_83⟩ := h80.at_ (i := i) (by omega)
          dsimp only at hp_83 hq_83 hP_83; have ⟨q1_83, q2_83, q3_83⟩ := hP_83.lkm
          have hok_83 := facOk_at hok he_83; dsimp only at hok_83
          refine sV (evLoad one33 rfl hp_83) ?_
          have h48 := acc48 hnb hok_83.1.b (by omega); have hl3 := hok_83.1.l
          refine sO (oCall rfl call14 (ref11_Mul hp hP_83 h48.1 (by omega) (by omega)) rfl ?_)
          rintro _ w86 ⟨Ar_85, nr_85, cr_85, xr_85, rfl, hE87, hr_85, e_85, le_85⟩
          have hz88 := hE87.size
          have ⟨lr_85, kr_85, mr_85⟩ := hr_85.lkm
          refine sAs rfl (sK hK78 (wp_region_lit (sMb rfl (sMb rfl ?_))))
          cases on
          · refine sSkip rfl rfl (sSkip rfl rfl (sSkip rfl rfl (sSkip rfl rfl (sSkip rfl rfl (sSkip rfl rfl (sV (v := (.bool false)) (rfl) (sAb rfl (sDone (bN (xN (hK77 _ _ (wp_region_lit (sMi rfl (sV (evAdd (((i : Int)) + 1) rfl rfl wI) (sAi rfl (sDone (again (nr_21 - (i + 1)) (by omega) ⟨(i + 1), (false), (Ar_85), (nr_85), (cr_85), (xr_85), rfl, rfl, rfl, rfl, rfl, cI, (hF65.trans hE87), ?_, ?_, ?_, ?_, ?_, ?_⟩)))))))))))))))))
            · omega
            · exact IntsR.low hr_85
            · rw [accM_next (ie_get he_83), ← hacc, e_85]
            · rw [e_85]; exact h48.2
            · omega
            · exact once_next hon (ie_get he_83) (by first | exact iff_of_true rfl ⟨rfl, by dsimp only; omega⟩ | exact iff_of_false (by decide) (by rintro ⟨h1, h2⟩; first | (dsimp only at h2; omega) | cases h1))
          · refine sEv (v := (.slice (some ⟨b81, o82, none⟩) nr_21 cr_21)) (rfl) rfl rfl (sEv (v := (.int .i64 ((i : Int)))) (rfl) rfl rfl (sEv (v := (.pointer (some ⟨b81, o82 + (i * 2), none⟩))) (evIx i Try.underlying25 sz36 rfl rfl (o82 + (i * 2))) rfl rfl (sEv (v := (.pointer (some ⟨b81, o82 + (i * 2) + 1, none⟩))) (evFA (o82 + (i * 2) + 1) fa36_1 rfl rfl) rfl rfl ?_)))
            have h90 := (h80.ext hE87)
            obtain ⟨⟨A_91, n_91, c_91, x_91, k_91⟩, he_91, hp_91, hq_91, hP_91, hS_91, hb_91⟩ := h90.at_ (i := i) (by omega)
            dsimp only at hp_91 hq_91 hP_91; have ⟨q1_91, q2_91, q3_91⟩ := hP_91.lkm
            have hok_91 := facOk_at hok he_91; dsimp only at hok_91
            refine sEv (v := (.int .i64 (k_91))) (evLoad one3 rfl hq_91) rfl rfl ?_
            by_cases hc92 : k_91 = 1
            · refine sEv (v := (.bool true)) (evEql true rfl rfl (dT hc92)) rfl rfl (sV (v := (.bool true)) (rfl) (sAb rfl (sDone (bN (xN (hK77 _ _ (wp_region_lit (sMi rfl (sV (evAdd (((i : Int)) + 1) rfl rfl wI) (sAi rfl (sDone (again (nr_21 - (i + 1)) (by omega) ⟨(i + 1), (true), (Ar_85), (nr_85), (cr_85), (xr_85), rfl, rfl, rfl, rfl, rfl, cI, (hF65.trans hE87), ?_, ?_, ?_, ?_, ?_, ?_⟩))))))))))))
              · omega
              · exact IntsR.low hr_85
              · rw [accM_next (ie_get he_83), ← hacc, e_85]
              · rw [e_85]; exact h48.2
              · omega
              · exact once_next hon (ie_get he_91) (by first | exact iff_of_true rfl ⟨rfl, by dsimp only; omega⟩ | exact iff_of_false (by decide) (by rintro ⟨h1, h2⟩; first | (dsimp only at h2; omega) | cases h1))
            · refine sEv (v := (.bool false)) (evEql false rfl rfl (dF hc92)) rfl rfl (sV (v := (.bool false)) (rfl) (sAb rfl (sDone (bN (xN (hK77 _ _ (wp_region_lit (sMi rfl (sV (evAdd (((i : Int)) + 1) rfl rfl wI) (sAi rfl (sDone (again (nr_21 - (i + 1)) (by omega) ⟨(i + 1), (false), (Ar_85), (nr_85), (cr_85), (xr_85), rfl, rfl, rfl, rfl, rfl, cI, (hF65.trans hE87), ?_, ?_, ?_, ?_, ?_, ?_⟩))))))))))))
              · omega
              · exact IntsR.low hr_85
              · rw [accM_next (ie_get he_83), ← hacc, e_85]
              · rw [e_85]; exact h48.2
              · omega
              · exact once_next hon (ie_get he_91) (by first | exact iff_of_true rfl ⟨rfl, by dsimp only; omega⟩ | exact iff_of_false (by decide) (by rintro ⟨h1, h2⟩; first | (dsimp only at h2; omega) | cases h1))
        · refine sV (evLss false rfl rfl (dF hc76)) (sK hK75 (cF rfl (wp_exit (xE (xE (bE (xN (hK56 _ _ (wp_seq_k fun K93 hK93 => ?_)))))))))
          have hacc2 : xp = accM (fr_21.map IE.m) := by have h := hacc; rw [List.take_of_length_le (by rw [List.length_map]; omega)] at h; exact h
          have hon2 : on = true ↔ ∀ e ∈ fr_21.map IE.m, e.2 = 1 := by have h := hon; rw [List.take_of_length_le (by rw [List.length_map]; omega)] at h; exact h
          refine wp_region_lit (sMs rfl ?_)
          have hR94 := hE52.trans hF65
          have h95 := (hr_28.ext hR94)
          refine sO (oCall rfl call12 (squarefree_Part h95 (by omega) (by omega) (by omega)) rfl ?_)
          rintro _ w97 ⟨Ar_96, nr_96, cr_96, lr_96, rfl, hE98, hr_96, pt_96, ln_96, cn_96⟩
          have hz99 := hE98.size
          have ⟨kr_96, jr_96, mr_96⟩ := hr_96.lkm
          have hpo := (pt_96.resolve_left fun hh => hF hh.1).2; have hpk := part_known hPF hu0 hok hpo
          refine sMs rfl ?_
          have h101 := (hp.ext hE98)
          refine sO (oCall rfl call16 (law11_Poly h101 (by omega)) rfl ?_)
          rintro _ w103 ⟨Ar_102, nr_102, cr_102, lr_102, rfl, hE104, hr_102, e_102, ln_102, cn_102⟩
          have hz105 := hE104.size
          have ⟨kr_102, jr_102, mr_102⟩ := hr_102.lkm
          have h107 := (hr_96.ext hE104)
          refine sO (oCall rfl call15 (unipoly_Same h107 hr_102) rfl ?_)
          rintro _ w109 ⟨gr_108, rfl, hE110, e_108⟩
          have hz111 := hE110.size
          obtain rfl : gr_108 = true := by rw [e_108, e_102, hpo.n.t, hpk, hacc2, (accM_spec hok.i).1.t, (accM_spec hok.i).1.t]; exact decide_eq_true rfl
          refine sMb rfl (sEv (v := (.slice Ar_28 nr_28 cr_28)) (rfl) rfl rfl ?_)
          have hR112 := (hE98.trans hE104).trans hE110
          have h113 := (h95.ext hR112)
          refine sOp rfl (oCall rfl call13 (squarefree_Is h113 (by omega) (by omega)) rfl ?_)
          rintro _ w115 ⟨gr_114, rfl, hE116, e_114⟩
          have hz117 := hE116.size
          refine sEv (v := (.bool on)) (rfl) rfl rfl (sEv (v := (.bool (gr_114 == on))) (evEqlB _ Try.underlying4 rfl rfl rfl) rfl rfl (sV (v := (.bool (gr_114 == on))) (rfl) (sAb rfl (sK hK93 (wp_ret (ret1 (.bool (gr_114 == on)) Try.results3 (resT rfl) ?_))))))
          have hR118 := ((((((((hE6.trans hE11).trans hE23).trans hE30).trans hE52).trans hF65).trans hE98).trans hE104).trans hE110).trans hE116
          exact ⟨(gr_114 == on), rfl, hR118, (beq_iff_eq.2 (Bool.eq_iff_iff.2 ((e_114.trans (once_known hPF hu0 hok)).trans hon2.symm)))⟩

end Go.Proofs.Ytikplganiodciaa
