/-
  Walk of package squarefree: products of powers of three factors, as the law SquarefreePowers lays them.
-/
import Derived.Test.YteiagkehhlpidaaSq2
import Derived.Test.YteiagkehhlpidaaSqMath2
namespace Go.Proofs.Yteiagkehhlpidaa
open Go.RowKit Go.Gx
set_option maxHeartbeats 2000000 in
theorem squarefree_Multiply {w : World} {gu : Bool} {Su : Nat → Prop} {Au : Option Addr} {nu cu : Nat} {du : List Nat} {pl : Nat} {xk : Int} {Sf : Nat → Prop} {Af : Option Addr} {nf cf Mf : Nat} {lf : List RI} (hu : NatR w Su Au nu cu du) (Bl : Blk w pl 38 [.slice Af nf cf, .int .i64 xk, .slice none 0 0, .int .i64 0, .slice Af nf cf, .int .i64 (-3)]) (hf : PolyR w Sf Af nf cf lf Mf) (hnu : nu ≤ 8) (hnf : nf ≤ 8) (hMf : Mf ≤ 8) (hxk : xk ≤ 5) : Calls Try.prog 10 #[(.agg #[(.bool gu), (.slice Au nu cu)]), (.slice (some ⟨pl, 0, none⟩) 3 3)] w (Ret fun v w' => ∃ (Ar : Option Addr) (nr : Nat) (cr : Nat) (lr : List RI), v = (.slice Ar nr cr) ∧ Ext w w' ∧ PolyR w' (fun _ => True) Ar nr cr lr (500000000) ∧ (∀ x : Rat, evQ (zs lr) x = ((zval gu du : Int) : Rat) * evQ (zs lf) x ^ xk.toNat) ∧ (nr ≤ 65536)) := by
  have ⟨lu, ku, mu⟩ := hu.lkm
  replace hu := hu.low
  have ltl := Bl.lt
  have ⟨kf, jf, mf⟩ := hf.lkm
  replace hf := hf.low
  refine enter Try.func10 rfl Try.ntmps10 rfl (rS fun K1 hK1 => sO (oBox [(.bool gu), (.slice Au nu cu)] rfl rfl (fun g2 w3 hg4 hE5 hz6 hB7 => sAs rfl (sK hK1 (wp_seq_k fun K8 hK8 => rS fun K9 hK9 => sV (evLoadAB [(.bool gu), (.slice Au nu cu)] agg34 sz34 rfl hB7 rfl) ?_)))))
  have h10 := (hu.ext hE5)
  refine sO (oCall rfl call24 (integer_Sign h10) rfl ?_)
  rintro _ w12 ⟨xr_11, rfl, hE13, e_11⟩
  have hz14 := hE13.size
  by_cases hc15 : xr_11 = 0
  · refine sV (evEql true rfl rfl (dT hc15)) (sK hK9 (cT rfl (rS fun K16 hK16 => sAs rfl (sK hK16 (wp_ret (xR (ret1 (.slice none 0 0) Try.results10 (resT rfl) ?_)))))))
    have hR17 := hE5.trans hE13
    exact ⟨none, 0, 0, [], rfl, hR17, PolyR.nil, (by intro x; rw [show zval gu du = 0 from (by have h := e_11; have h2 := sign_cases (zval gu du); omega)]; simp [evQ]), (by omega)⟩
  · refine sV (evEql false rfl rfl (dF hc15)) (sK hK9 (cF rfl (wp_skip (xN (hK8 _ _ (wp_seq_k fun K18 hK18 => rS fun K19 hK19 => sMs rfl (sV (evLen Try.underlying39 rfl) (sMi rfl (sK hK19 (wp_block ?_))))))))))
    refine lLoop (fun m e w_ => ∃ (i : Nat), m = 3 - i ∧ e 1 = (.slice (some ⟨pl, 0, none⟩) 3 3) ∧ e 2 = (.pointer (some ⟨g2, 0, none⟩)) ∧ e 13 = (.slice (some ⟨pl, 0, none⟩) 3 3) ∧ e 14 = (.int .i64 (3)) ∧ e 15 = (.int .i64 ((i : Int))) ∧ Frm (fun b => w12.heap.size ≤ b) w12 w_ ∧ (i ≤ 3)) (3 - (0)) ?_ ?_
    · refine ⟨(0), rfl, rfl, rfl, rfl, rfl, cI, (Frm.refl _ _), ?_⟩
      · omega
    · rintro m20 e29 w21 ⟨i, hm28, hs22, hs23, hs24, hs25, hs26, hF27, hi⟩
      obtain ⟨r30, rfl⟩ := sq (e := e29) (t := 1) hs22
      obtain ⟨r31, rfl⟩ := sq (e := r30) (t := 2) hs23
      obtain ⟨r32, rfl⟩ := sq (e := r31) (t := 13) hs24
      obtain ⟨r33, rfl⟩ := sq (e := r32) (t := 14) hs25
      obtain ⟨r34, rfl⟩ := sq (e := r33) (t := 15) hs26
      have hz35 := hF27.size
      refine rS fun K36 hK36 => ?_
      by_cases hc37 : ((i : Int)) < 3
      · refine sV (evLss true rfl rfl (dT hc37)) (sK hK36 (wp_seq_k fun K38 hK38 => cT rfl (wp_skip (xN (hK38 _ _ (wp_seq_k fun K39 hK39 => wp_block (rS fun K40 hK40 => sV (evIx i Try.underlying39 sz38 rfl rfl (i * 2)) ?_)))))))
        have hR41 := (hE5.trans hE13).rx hF27
        have hB42 := (Bl.frm hR41 q1)
        have h43 := (hf.frmB hR41 q3)
        obtain ⟨A_44, n_44, c_44, l_44, x_44, hc0_44, hc1_44, hP_44, hn_44, h0_44, h1_44⟩ := three_facs hB42 h43 (k := i) (by omega)
        have ⟨l__44, k__44, m__44⟩ := hP_44.lkm; have hx_44 : x_44 ≤ 5 := (by rcases Nat.eq_zero_or_pos i with h | h; exact (h0_44 h).2 ▸ hxk; have h2 := h1_44 (by omega); omega)
        refine sV (evLoadA [(.slice A_44 n_44 c_44), (.int .i64 (x_44))] agg38 sz38 rfl (cell2 hc0_44 hc1_44)) (sO (oAlloc [(.slice none 0 0), (.int .i64 (0))] zero38 rfl (fun g46 w47 hg48 hE49 hz50 hB51 => sO (oStore [(.slice A_44 n_44 c_44), (.int .i64 (x_44))] rfl rfl rfl sz38 rfl hB51 (Nat.le_of_ble_eq_true rfl) (fun w52 hU53 hz54 hB55 => ?_)))))
        replace hB55 : Blk w52 g46 38 [(.slice A_44 n_44 c_44), (.int .i64 (x_44))] := hB55
        refine sK hK40 (rS fun K56 hK56 => sV (evFA 1 fa38_1 rfl rfl) (sV (evLoadB one3 rfl hB55 rfl) ?_))
        by_cases hc57 : x_44 > 0
        · refine sV (evGtr true rfl rfl (dT hc57)) (sMb rfl (sEv (v := (.pointer (some ⟨g46, 0, none⟩))) (evFA 0 fa38_0 rfl rfl) rfl rfl (sEv (v := (.slice A_44 n_44 c_44)) (evLoadB one27 rfl hB55 rfl) rfl rfl ?_)))
          have hR58 := hE49.rx hU53
          have h59 := (hP_44.frmB hR58 q3)
          refine sOp rfl (oCall rfl call14 (unipoly_Degree h59 (by omega) (by omega)) rfl ?_)
          rintro _ w61 ⟨xr_60, rfl, hE62, e_60⟩
          have hz63 := hE62.size
          by_cases hc64 : xr_60 < 0
          · refine sEv (v := (.bool true)) (evLss true rfl rfl (dT hc64)) rfl rfl (sV (v := (.bool true)) (rfl) (sK hK56 (cT rfl (rS fun K65 hK65 => sAs rfl (sK hK65 (wp_ret (bR (xR (xR (bR (xR (ret1 (.slice none 0 0) Try.results10 (resT rfl) ?_))))))))))))
            have hR66 := ((hR41.xr hE49).tr hU53).xr hE62
            exact ⟨none, 0, 0, [], rfl, (Frm.mono hR66 q4), PolyR.nil, (mul_dead h0_44 h1_44 (by omega) e_60 (by omega)), (by omega)⟩
          · refine sEv (v := (.bool false)) (evLss false rfl rfl (dF hc64)) rfl rfl (sV (v := (.bool false)) (rfl) (sK hK56 (cF rfl (wp_skip (bN (xN (hK39 _ _ (wp_region_lit (sV (evAdd (((i : Int)) + 1) rfl rfl wI) (sMi rfl (sDone ?_)))))))))))
            have hR67 := hR58.xr hE62
            refine again (3 - (i + 1)) (by omega) ⟨(i + 1), rfl, rfl, rfl, rfl, rfl, cI, (Frm.mono (hF27.tr hR67) q4), ?_⟩
            · omega
        · refine sV (evGtr false rfl rfl (dF hc57)) (sMb rfl (sSkip rfl rfl (sSkip rfl rfl (sSkip rfl rfl (sSkip rfl rfl (sV (v := (.bool false)) (rfl) (sK hK56 (cF rfl (wp_skip (bN (xN (hK39 _ _ (wp_region_lit (sV (evAdd (((i : Int)) + 1) rfl rfl wI) (sMi rfl (sDone ?_))))))))))))))))
          have hR68 := hE49.rx hU53
          refine again (3 - (i + 1)) (by omega) ⟨(i + 1), rfl, rfl, rfl, rfl, rfl, cI, (Frm.mono (hF27.tr hR68) q4), ?_⟩
          · omega
      · refine sV (evLss false rfl rfl (dF hc37)) (sK hK36 (wp_seq_k fun K69 hK69 => cF rfl (wp_exit (xE (xE (bE (xN (hK18 _ _ (rS fun K70 hK70 => ?_)))))))))
        have hR71 := hE13.rx hF27
        have hB72 := (hB7.frm hR71 q1)
        refine sV (evLoadAB [(.bool gu), (.slice Au nu cu)] agg34 sz34 rfl hB72 rfl) (sO (oBuildSlice [(.agg #[(.bool gu), (.slice Au nu cu)])] [[(.bool gu), (.slice Au nu cu)]] Try.underlying27 inf34 rfl rfl rfl rfl rfl (fun g73 w74 hg75 hE76 hz77 hB78 => ?_)))
        replace hB78 : Blk w74 g73 34 [(.bool gu), (.slice Au nu cu)] := hB78
        have hR79 := hR71.xr hE76
        have h80 := (h10.frmB hR79 q3)
        have h81 : PolyR w74 (fun _ => True) (some ⟨g73, 0, none⟩) 1 1 [⟨gu, Au, nu, cu, du⟩] 8 := PolyR.of_blk (l := [⟨gu, Au, nu, cu, du⟩]) (M := 8) hB78 (fun r hr => by simp at hr; subst hr; exact ⟨h80.sub fun _ _ _ => trivial, by (try dsimp only); omega⟩) trivial rfl (Nat.le_refl _) (by decide)
        refine sO (oCall rfl call22 (unipoly_Normal h81 (by omega) (by omega)) rfl ?_)
        rintro _ w84 ⟨qr_83, nr_83, lr_83, rfl, hE85, hgr_83, Br_83, hAr_83, kr_83, mr_83, e_83, ln_83, cn_83⟩
        have hz86 := hE85.size
        have hhr_83 : w74.heap.size ≤ qr_83 := hgr_83; have ltr_83 := Br_83.lt
        refine sAs rfl (sK hK70 (wp_seq_k fun K88 hK88 => rS fun K89 hK89 => sMs rfl (sV (evLen Try.underlying39 rfl) (sMi rfl (sK hK89 (wp_block ?_))))))
        have h91 : PolyR w84 (fun b => qr_83 ≤ b) (some ⟨qr_83, 0, none⟩) nr_83 nr_83 (lr_83) ((8)) := PolyR.of_blk Br_83 (AllN.sub hAr_83 q5) (by (try dsimp only); omega) (by exact lq) (by omega) (by unfold CapMax; omega)
        refine lLoop (fun m e w_ => ∃ (i : Nat) (Ap : Option Addr) (np : Nat) (cp : Nat) (lp : List RI), m = 3 - i ∧ e 7 = (.slice Ap np cp) ∧ e 32 = (.slice (some ⟨pl, 0, none⟩) 3 3) ∧ e 33 = (.int .i64 (3)) ∧ e 34 = (.int .i64 ((i : Int))) ∧ Frm (fun b => w84.heap.size ≤ b) w84 w_ ∧ (i ≤ 3) ∧ (np ≤ 1 + 16384 * i) ∧ (PolyR w_ (fun b => b < w_.heap.size) Ap np cp lp (8 + 40000000 * i)) ∧ (∀ x : Rat, evQ (zs lp) x = if i = 0 then ((zval gu du : Int) : Rat) else ((zval gu du : Int) : Rat) * evQ (zs lf) x ^ xk.toNat)) (3 - (0)) ?_ ?_
        · refine ⟨(0), ((some ⟨qr_83, 0, none⟩)), (nr_83), (nr_83), (lr_83), rfl, rfl, rfl, rfl, cI, (Frm.refl _ _), ?_, ?_, ?_, ?_⟩
          · omega
          · omega
          · exact (PolyR.low h91).le (by omega)
          · intro x; rw [if_pos rfl, e_83, evQ_trim]; show evQ [zval gu du] x = _; simp only [evQ]; grind
        · rintro m90 e99 w92 ⟨i, Ap, np, cp, lp, hm98, hs93, hs94, hs95, hs96, hF97, hi, hnp, hPR, hv⟩
          obtain ⟨r100, rfl⟩ := sq (e := e99) (t := 7) hs93
          obtain ⟨r101, rfl⟩ := sq (e := r100) (t := 32) hs94
          obtain ⟨r102, rfl⟩ := sq (e := r101) (t := 33) hs95
          obtain ⟨r103, rfl⟩ := sq (e := r102) (t := 34) hs96
          have hz104 := hF97.size
          have ⟨k7, j7, m7⟩ := hPR.lkm
          refine rS fun K105 hK105 => ?_
          by_cases hc106 : ((i : Int)) < 3
          · refine sV (evLss true rfl rfl (dT hc106)) (sK hK105 (wp_seq_k fun K107 hK107 => cT rfl (wp_skip (xN (hK107 _ _ (wp_seq_k fun K108 hK108 => wp_block (rS fun K109 hK109 => sV (evIx i Try.underlying39 sz38 rfl rfl (i * 2)) ?_)))))))
            have hR110 := ((((hE5.trans hE13).rx hF27).xr hE76).xr hE85).tr hF97
            have hB111 := (Bl.frm hR110 q1)
            have h112 := (hf.frmB hR110 q3)
            obtain ⟨A_113, n_113, c_113, l_113, x_113, hc0_113, hc1_113, hP_113, hn_113, h0_113, h1_113⟩ := three_facs hB111 h112 (k := i) (by omega)
            have ⟨l__113, k__113, m__113⟩ := hP_113.lkm; have hx_113 : x_113 ≤ 5 := (by rcases Nat.eq_zero_or_pos i with h | h; exact (h0_113 h).2 ▸ hxk; have h2 := h1_113 (by omega); omega)
            refine sV (evLoadA [(.slice A_113 n_113 c_113), (.int .i64 (x_113))] agg38 sz38 rfl (cell2 hc0_113 hc1_113)) (sO (oAlloc [(.slice none 0 0), (.int .i64 (0))] zero38 rfl (fun g115 w116 hg117 hE118 hz119 hB120 => sO (oStore [(.slice A_113 n_113 c_113), (.int .i64 (x_113))] rfl rfl rfl sz38 rfl hB120 (Nat.le_of_ble_eq_true rfl) (fun w121 hU122 hz123 hB124 => ?_)))))
            replace hB124 : Blk w121 g115 38 [(.slice A_113 n_113 c_113), (.int .i64 (x_113))] := hB124
            refine sK hK109 (wp_region_lit (sMs rfl (sV (evFA 0 fa38_0 rfl rfl) (sV (evLoadB one27 rfl hB124 rfl) (sV (evFA 1 fa38_1 rfl rfl) (sV (evLoadB one3 rfl hB124 rfl) ?_))))))
            have hR125 := hE118.rx hU122
            have h126 := (hP_113.frmB hR125 q3)
            refine sO (oCall rfl call8 (unipoly_Pow h126 (by omega) (by omega) (by omega)) rfl ?_)
            rintro _ w128 ⟨Ar_127, nr_127, cr_127, lr_127, rfl, hE129, hr_127, e_127, ln_127, cn_127⟩
            have hz130 := hE129.size
            have ⟨kr_127, jr_127, mr_127⟩ := hr_127.lkm
            have hR132 := hR125.xr hE129
            have h133 := (hPR.frmB hR132 q3)
            refine sO (oCall rfl call12 (unipoly_Mul h133 hr_127 (by omega) (by omega) (by omega) (by omega)) rfl ?_)
            rintro _ w135 ⟨Ar_134, nr_134, cr_134, lr_134, rfl, hE136, hr_134, e_134, ln_134, cn_134⟩
            have hz137 := hE136.size
            have ⟨kr_134, jr_134, mr_134⟩ := hr_134.lkm
            refine sAs rfl (sDone (bN (xN (hK108 _ _ (wp_region_lit (sV (evAdd (((i : Int)) + 1) rfl rfl wI) (sMi rfl (sDone ?_))))))))
            have hR139 := hR132.xr hE136
            refine again (3 - (i + 1)) (by omega) ⟨(i + 1), (Ar_134), (nr_134), (cr_134), (lr_134), rfl, rfl, rfl, rfl, cI, (Frm.mono (hF97.tr hR139) q4), ?_, ?_, ?_, ?_⟩
            · omega
            · omega
            · exact (PolyR.low hr_134).le (by omega)
            · exact mul3 (P1 := zs lp) (W := zs lr_127) (l := zs l_113) (x0 := x_113) hv (by intro x; rw [e_134, evQ_trim, evQ_pmul]) (by intro x; rw [e_127, evQ_trim, evQ_ppow]) h0_113 h1_113
          · refine sV (evLss false rfl rfl (dF hc106)) (sK hK105 (wp_seq_k fun K140 hK140 => cF rfl (wp_exit (xE (xE (bE (xN (hK88 _ _ (rS fun K141 hK141 => sMs rfl (sAs rfl (sK hK141 (wp_ret (ret1 (.slice Ap np cp) Try.results10 (resT rfl) ?_)))))))))))))
            have hR142 := ((((hE5.trans hE13).rx hF27).xr hE76).xr hE85).tr hF97
            exact ⟨Ap, np, cp, lp, rfl, (Frm.mono hR142 q4), (PolyR.le (PolyR.sub hPR fun _ _ _ => trivial) (by omega)), (by intro x; rw [hv x, if_neg (by omega)]), (by omega)⟩

end Go.Proofs.Yteiagkehhlpidaa
