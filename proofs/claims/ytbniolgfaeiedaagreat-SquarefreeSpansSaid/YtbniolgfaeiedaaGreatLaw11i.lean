/-
  Walk of the law SquarefreeSpans.
-/
import Derived.Test.YtbniolgfaeiedaaGreatBs2
import Derived.Test.YtbniolgfaeiedaaGreatSq12
import Derived.Test.YtbniolgfaeiedaaGreatSq13
import Derived.Test.YtbniolgfaeiedaaGreatLibC
import Derived.Test.YtbniolgfaeiedaaGreatFacts2
namespace Go.Proofs.YtbniolgfaeiedaaGreat
open Go.RowKit Go.Gx
theorem law11_associated {w : World} {Sf : Nat → Prop} {Af : Option Addr} {nf cf Mf : Nat} {lf : List RI} {Sg : Nat → Prop} {Ag : Option Addr} {ng cg Mg : Nat} {lg : List RI} (hf : PolyR w Sf Af nf cf lf Mf) (hg : PolyR w Sg Ag ng cg lg Mg) (hnf : nf ≤ 64) (hng : ng ≤ 64) (hMf : Mf ≤ 64) (hMg : Mg ≤ 64) : Calls Tryz.prog 20 #[(.slice Af nf cf), (.slice Ag ng cg)] w (Ret fun v w' => ∃ (gr : Bool), v = (.bool gr) ∧ Ext w w' ∧ (gr = decide (trimZ (primP (zs lf)) = trimZ (primP (zs lg))))) := by
  have ⟨kf, jf, mf⟩ := hf.lkm
  replace hf := hf.low
  have ⟨kg, jg, mg⟩ := hg.lkm
  replace hg := hg.low
  refine enter Tryz.func20 rfl Tryz.ntmps20 rfl (rS fun K1 hK1 => sAb rfl (sK hK1 (rS fun K2 hK2 => sMs rfl (sO (oCall rfl call35 (unidiv_Primitive hf (by omega) (by omega)) rfl ?_)))))
  rintro _ w4 ⟨Ar_3, nr_3, cr_3, lr_3, rfl, hE5, hr_3, e_3, ln_3, cn_3⟩
  have hz6 := hE5.size
  have ⟨kr_3, jr_3, mr_3⟩ := hr_3.lkm
  refine sMs rfl ?_
  have h8 := (hg.ext hE5)
  refine sO (oCall rfl call35 (unidiv_Primitive h8 (by omega) (by omega)) rfl ?_)
  rintro _ w10 ⟨Ar_9, nr_9, cr_9, lr_9, rfl, hE11, hr_9, e_9, ln_9, cn_9⟩
  have hz12 := hE11.size
  have ⟨kr_9, jr_9, mr_9⟩ := hr_9.lkm
  have h14 := (hr_3.ext hE11)
  refine sO (oCall rfl call11 (unipoly_Same h14 hr_9) rfl ?_)
  rintro _ w16 ⟨gr_15, rfl, hE17, e_15⟩
  have hz18 := hE17.size
  refine sAb rfl (sK hK2 (wp_ret (ret1 (.bool gr_15) Tryz.results20 (resT rfl) ?_)))
  have hR19 := (hE5.trans hE11).trans hE17
  exact ⟨(gr_15), rfl, hR19, (by rw [e_15, e_3, e_9])⟩

theorem law11_power {w : World} {Sb : Nat → Prop} {Ab : Option Addr} {nb cb Mb : Nat} {fb : List PE} {F : List Int} {Se : Nat → Prop} {Ae : Option Addr} {ne ce : Nat} {de : List Nat} (hb : PolysR w Sb Ab nb cb fb Mb) (he : DigR 65 w Se Ae ne ce de) (hMb : Mb ≤ 64) (hex : ExpIs (P F) (qps fb) de) (hF0 : P F ≠ 0) (hFn : nrm F ≤ 16777216) (hFl : (trimZ F).length ≤ 11) (hbn : ∀ (i : Nat) (f : PE), fb[i]? = some f → Nrm (zs f.l) ∧ f.n ≤ 11) : Calls Tryz.prog 21 #[(.slice Ab nb cb), (.slice Ae ne ce)] w (Ret fun v w' => ∃ (Ar : Option Addr) (nr : Nat) (cr : Nat) (lr : List RI), v = (.slice Ar nr cr) ∧ Ext w w' ∧ PolyR w' (fun _ => True) Ar nr cr lr (17) ∧ (primP (zs lr) = primP F) ∧ (nr ≤ 11)) := by
  have ⟨kb, jb, mb⟩ := hb.lkm; replace hb := hb.low
  have ⟨le, ke, me⟩ := he.lkm
  replace he := he.low
  refine enter Tryz.func21 rfl Tryz.ntmps21 rfl ?_
  have hlen : de.length = fb.length := by have h := hex.1; simpa [qps] using h
  refine rS fun K1 hK1 => sAs rfl (sK hK1 (rS fun K2 hK2 => sO (oBuildSlice [(.int .i64 (1))] [[(.int .i64 (1))]] Tryz.underlying74 inf2 rfl rfl rfl rfl rfl (fun g3 w4 hg5 hE6 hz7 hB8 => ?_))))
  replace hB8 : Blk w4 g3 2 [(.int .i64 (1))] := hB8
  refine sO (oCall rfl call23 (unipoly_Of (IntsR.of_blk (S := fun b => b = g3) (n := 1) (c := 1) (xs := [1]) hB8 rfl (by decide) rfl (Nat.le_refl _) (by decide)) (by omega)) rfl ?_)
  rintro _ w10 ⟨Ar_9, nr_9, cr_9, lr_9, rfl, hE11, hr_9, e_9, le_9, cn_9⟩
  have hz12 := hE11.size
  have ⟨kr_9, jr_9, mr_9⟩ := hr_9.lkm
  have hone : zs lr_9 = [1] := e_9
  refine sAs rfl (sK hK2 (wp_seq_k fun K14 hK14 => rS fun K15 hK15 => sAi rfl (sK hK15 (wp_block ?_))))
  refine lLoop (fun m e w_ => ∃ (i : Nat) (Ap : Option Addr) (np : Nat) (cp : Nat) (lp : List RI), m = nb - i ∧ e 0 = (.slice Ab nb cb) ∧ e 1 = (.slice Ae ne ce) ∧ e 5 = (.slice Ap np cp) ∧ e 6 = (.int .i64 ((i : Int))) ∧ Frm (fun b => False) w10 w_ ∧ (i ≤ nb) ∧ (powSt (qps fb) de i (zs lp)) ∧ (np ≤ 11) ∧ (PolyR w_ (fun b => b < w_.heap.size) Ap np cp lp 17)) (nb - (0)) ?_ ?_
  · refine ⟨(0), (Ar_9), (nr_9), (cr_9), (lr_9), rfl, rfl, rfl, rfl, cI, (Frm.refl _ _), ?_, ?_, ?_, ?_⟩
    · omega
    · rw [hone]; exact powSt_start
    · omega
    · exact (PolyR.low hr_9).le (by omega)
  · rintro m16 e24 w17 ⟨i, Ap, np, cp, lp, hm23, hs18, hs19, hs20, hs21, hF22, hi, hst, hnp, hPP⟩
    obtain ⟨r25, rfl⟩ := sq (e := e24) (t := 0) hs18
    obtain ⟨r26, rfl⟩ := sq (e := r25) (t := 1) hs19
    obtain ⟨r27, rfl⟩ := sq (e := r26) (t := 5) hs20
    obtain ⟨r28, rfl⟩ := sq (e := r27) (t := 6) hs21
    have hz29 := hF22.size
    have ⟨k7, j7, m7⟩ := hPP.lkm
    refine wp_seq_k fun K30 hK30 => rS fun K31 hK31 => sMi rfl (sMs rfl (sV (evLen Tryz.underlying25 rfl) ?_))
    by_cases hc32 : ((i : Int)) < ((nb : Int))
    · refine sV (evLss true rfl rfl (dT hc32)) (sMb rfl (sEv (v := (.int .i64 ((i : Int)))) (rfl) rfl rfl (sEv (v := (.slice Ae ne ce)) (rfl) rfl rfl (sEv (v := (.int .i64 ((ne : Int)))) (evLen Tryz.underlying39 rfl) rfl rfl (sEv (v := (.bool true)) (evLss true rfl rfl (dT (by omega))) rfl rfl (sV (v := (.bool true)) (rfl) (sK hK31 (cT rfl (wp_skip (xN (hK30 _ _ (wp_seq_k fun K33 hK33 => wp_block (dBegin (fun _ => False) mixed (fun w34 hE35 hz36 => dMs 0 rfl rfl (dMs 1 rfl rfl (dMi 2 rfl rfl ?_))))))))))))))))
      have hR37 := ((hE6.trans hE11).trans hF22).trans hE35
      have h38 := (hb.ext hR37)
      obtain ⟨b39, o40, rfl⟩ := h38.base (by omega)
      refine dV 3 rfl (fun _ _ => evIx i Tryz.underlying25 sz32 rfl rfl (o40 + i)) ?_
      obtain ⟨⟨A_41, n_41, c_41, l_41⟩, he_41, hp_41, hP_41, hS_41, hb_41⟩ := h38.at_ (i := i) (by omega)
      dsimp only at hp_41 hP_41; have ⟨q1_41, q2_41, q3_41⟩ := hP_41.lkm
      have hg_41 := qps_get he_41; have ⟨hnb_41, hlb_41⟩ := hbn i _ he_41; dsimp only at hg_41 hnb_41 hlb_41
      refine dV 4 rfl (fun _ hf => evLoad one32 rfl ((hf.cell (p := ⟨_, _, none⟩) hb_41 (fun h => h)).trans hp_41)) (dMs 5 rfl rfl (dMi 6 rfl rfl ?_))
      have h43 := (he.ext hR37)
      obtain ⟨b44, o45, rfl⟩ := h43.base (by omega)
      refine dV 7 rfl (fun _ _ => evIx i Tryz.underlying39 sz3 rfl rfl (o45 + i)) ?_
      have hd46 := h43.lt i
      refine dV 8 rfl (fun _ hf => evLoad one3 rfl ((h43.ext hf).cell (by omega))) (dOp 9 rfl rfl (by kernel_rfl) (oCall rfl call42 (unipoly_Pow hP_41 (by omega) (by omega) (by omega)) rfl ?_))
      rintro _ w48 ⟨Ar_47, nr_47, cr_47, lr_47, rfl, hE49, hr_47, e_47, ln_47, cn_47⟩
      refine ⟨(Frm.of_ext hE49), ?_⟩
      have hz50 := hE49.size
      have ⟨kr_47, jr_47, mr_47⟩ := hr_47.lkm
      have hed : de[i]? = some (de.getD i 0) := by simp [List.getD, List.getElem?_eq_getElem (show i < de.length by omega)]
      have ew : zs lr_47 = trimZ (ppow (zs l_41) (de.getD i 0)) := e_47; have ⟨hsw, hnw⟩ := span_pow hex hF0 hFn hFl hg_41 hed hnb_41 ew
      have hT52 := PolyR.tight (K := 17) hr_47 cn_47 (hsw.tight hnw.c)
      have hlw : nr_47 ≤ 11 := by have h := hsw.len; rw [hnw.t, zlen] at h; omega
      have hR53 := hE35.trans hE49
      have h54 := (hPP.ext hR53)
      refine dOp 10 rfl rfl (by kernel_rfl) (oCall rfl call41 (unipoly_Mul h54 hT52 (by omega) (by omega) (by omega) (by omega)) rfl ?_)
      rintro _ w56 ⟨Ar_55, nr_55, cr_55, lr_55, rfl, hE57, hr_55, e_55, ln_55, cn_55⟩
      refine ⟨(Frm.of_ext hE57), ?_⟩
      have hz58 := hE57.size
      have ⟨kr_55, jr_55, mr_55⟩ := hr_55.lkm
      have ⟨hst2, _, _⟩ := powSt_next hst hg_41 hed hnb_41 ew e_55; have ⟨hsx, hnx⟩ := span_sofar hex hF0 hFn hFl hst2
      have hT60 := PolyR.tight (K := 17) hr_55 cn_55 (hsx.tight hnx.c)
      have hlx : nr_55 ≤ 11 := by have h := hsx.len; rw [hnx.t, zlen] at h; omega
      refine dAs 11 rfl rfl (dDone (by kernel_rfl) (bN (xN (hK33 _ _ (wp_region_lit (sMi rfl (sV (evAdd (((i : Int)) + 1) rfl rfl wI) (sAi rfl (sDone ?_)))))))))
      have hR61 := hR53.trans hE57
      refine again (nb - (i + 1)) (by omega) ⟨(i + 1), (Ar_55), (nr_55), (cr_55), (lr_55), rfl, rfl, rfl, rfl, cI, (hF22.trans hR61), ?_, ?_, ?_, ?_⟩
      · omega
      · exact hst2
      · omega
      · exact (PolyR.low hT60)
    · refine sV (evLss false rfl rfl (dF hc32)) (sMb rfl (sSkip rfl rfl (sSkip rfl rfl (sSkip rfl rfl (sSkip rfl rfl (sV (v := (.bool false)) (rfl) (sK hK31 (cF rfl (wp_exit (xE (xE (bE (xN (hK14 _ _ (rS fun K62 hK62 => sMs rfl (sAs rfl (sK hK62 (wp_ret (ret1 (.slice Ap np cp) Tryz.results21 (resT rfl) ?_)))))))))))))))))))
      have hR63 := (hE6.trans hE11).trans hF22
      exact ⟨Ap, np, cp, lp, rfl, hR63, (PolyR.le (PolyR.sub hPP fun _ _ _ => trivial) (by omega)), (span_assoc hex hst (by simp [qps]; omega)), (by omega)⟩

set_option maxHeartbeats 2000000 in
theorem law11_spans {w : World} {Sc0 : Nat → Prop} {Ac0 : Option Addr} {nc0 cc0 : Nat} {xc0 : List Int} {Sc1 : Nat → Prop} {Ac1 : Option Addr} {nc1 cc1 : Nat} {xc1 : List Int} {Sc2 : Nat → Prop} {Ac2 : Option Addr} {nc2 cc2 : Nat} {xc2 : List Int} (hc0 : I16R w Sc0 Ac0 nc0 cc0 xc0) (hc1 : I16R w Sc1 Ac1 nc1 cc1 xc1) (hc2 : I16R w Sc2 Ac2 nc2 cc2 xc2)  : Calls Tryz.prog 4 #[(.agg #[(.slice Ac0 nc0 cc0), (.slice Ac1 nc1 cc1), (.slice Ac2 nc2 cc2)])] w (Ret fun v w' => ∃ (gr : Bool), v = (.bool gr) ∧ Ext w w' ∧ (gr = true)) := by
  have ⟨lc0, kc0, mc0⟩ := hc0.lkm
  replace hc0 := hc0.low
  have ⟨lc1, kc1, mc1⟩ := hc1.lkm
  replace hc1 := hc1.low
  have ⟨lc2, kc2, mc2⟩ := hc2.lkm
  replace hc2 := hc2.low
  refine enter Tryz.func4 rfl Tryz.ntmps4 rfl (rS fun K1 hK1 => sO (oBox [(.slice Ac0 nc0 cc0), (.slice Ac1 nc1 cc1), (.slice Ac2 nc2 cc2)] rfl rfl (fun g2 w3 hg4 hE5 hz6 hB7 => sAb rfl (sK hK1 (wp_seq_k fun K8 hK8 => rS fun K9 hK9 => sO (oCall rfl call5 (law11_awake) rfl ?_))))))
  rintro _ w11 ⟨gr_10, rfl, hE12, e_10⟩
  have hz13 := hE12.size
  obtain rfl : gr_10 = true := e_10
  refine sV (evNot _ rfl rfl) (sK hK9 (cF rfl (wp_skip (xN (hK8 _ _ (wp_seq_k fun K14 hK14 => dBegin (fun _ => False) mixed (fun w15 hE16 hz17 => dV 0 rfl (fun _ _ => evArr 0 Tryz.underlying42 sz41 rfl rfl 0) ?_)))))))
  have hR18 := hE12.trans hE16
  have hB19 := (hB7.ext hR18)
  refine dV 1 rfl (fun _ hf => evLoadB one41 rfl (hB19.ext hf) rfl) (dV 3 rfl (fun _ _ => evArr 1 Tryz.underlying42 sz41 rfl rfl 1) (dV 4 rfl (fun _ hf => evLoadB one41 rfl (hB19.ext hf) rfl) (dV 6 rfl (fun _ _ => evArr 2 Tryz.underlying42 sz41 rfl rfl 2) (dV 7 rfl (fun _ hf => evLoadB one41 rfl (hB19.ext hf) rfl) ?_))))
  have hR20 := (hE5.trans hE12).trans hE16
  have h21 := (hc0.ext hR20)
  refine dOp 2 rfl rfl (by kernel_rfl) (oCall rfl call13 (law11_Short h21 (xn := 6) (by omega) (by omega)) rfl ?_)
  rintro _ w23 ⟨Ar_22, nr_22, cr_22, lr_22, rfl, hE24, hr_22, e_22, ln_22, cn_22⟩
  refine ⟨(Frm.of_ext hE24), ?_⟩
  have hz25 := hE24.size
  have ⟨kr_22, jr_22, mr_22⟩ := hr_22.lkm
  have hnf := nrm_short e_22 hc0.2; rw [show (32768 * 6 : Nat) = 196608 from rfl] at hnf
  have hR27 := hR20.trans hE24
  have h28 := (hc1.ext hR27)
  refine dOp 5 rfl rfl (by kernel_rfl) (oCall rfl call13 (law11_Short h28 (xn := 6) (by omega) (by omega)) rfl ?_)
  rintro _ w30 ⟨Ar_29, nr_29, cr_29, lr_29, rfl, hE31, hr_29, e_29, ln_29, cn_29⟩
  refine ⟨(Frm.of_ext hE31), ?_⟩
  have hz32 := hE31.size
  have ⟨kr_29, jr_29, mr_29⟩ := hr_29.lkm
  have hng := nrm_short e_29 hc1.2; rw [show (32768 * 6 : Nat) = 196608 from rfl] at hng
  have hR34 := hR27.trans hE31
  have h35 := (hc2.ext hR34)
  refine dOp 8 rfl rfl (by kernel_rfl) (oCall rfl call13 (law11_Short h35 (xn := 6) (by omega) (by omega)) rfl ?_)
  rintro _ w37 ⟨Ar_36, nr_36, cr_36, lr_36, rfl, hE38, hr_36, e_36, ln_36, cn_36⟩
  refine ⟨(Frm.of_ext hE38), ?_⟩
  have hz39 := hE38.size
  have ⟨kr_36, jr_36, mr_36⟩ := hr_36.lkm
  have hnh := nrm_short e_36 hc2.2; rw [show (32768 * 6 : Nat) = 196608 from rfl] at hnh
  refine dOp 9 rfl rfl (by kernel_rfl) (oBuildSlice [(.slice Ar_22 nr_22 cr_22), (.slice Ar_29 nr_29 cr_29), (.slice Ar_36 nr_36 cr_36)] [[(.slice Ar_22 nr_22 cr_22)], [(.slice Ar_29 nr_29 cr_29)], [(.slice Ar_36 nr_36 cr_36)]] Tryz.underlying25 inf32 rfl rfl rfl rfl rfl (fun g41 w42 hg43 hE44 hz45 hB46 => ⟨(Frm.of_ext hE44), ?_⟩))
  replace hB46 : Blk w42 g41 32 [(.slice Ar_22 nr_22 cr_22), (.slice Ar_29 nr_29 cr_29), (.slice Ar_36 nr_36 cr_36)] := hB46
  refine dAs 10 rfl rfl (dDone (by kernel_rfl) (xN (hK14 _ _ (rS fun K47 hK47 => sMs rfl ?_))))
  have hR48 := (hE31.trans hE38).trans hE44
  have h49 := (hr_22.ext hR48)
  have hR50 := hE38.trans hE44
  have h51 := (hr_29.ext hR50)
  have h52 := (hr_36.ext hE44)
  refine sO (oCall rfl call10 (squarefree_Basis (PolysR.lit (M := 64) (n := 3) (l := [⟨Ar_22, nr_22, cr_22, lr_22⟩, ⟨Ar_29, nr_29, cr_29, lr_29⟩, ⟨Ar_36, nr_36, cr_36, lr_36⟩]) hB46 (AllP.cons h49 (by omega) (AllP.cons h51 (by omega) (AllP.cons h52 (by omega) AllP.nil))) rfl (by decide)) (by omega) (by omega) (by intro x hx; simp only [List.mem_cons, List.not_mem_nil, or_false] at hx; rcases hx with rfl | rfl | rfl <;> refine ⟨?_, ?_⟩ <;> (dsimp only) <;> omega)) rfl ?_)
  rintro _ w54 ⟨Ar_53, nr_53, cr_53, fr_53, rfl, hE55, hr_53, bs_53, so_53, sm_53, nn_53⟩
  have hz56 := hE55.size
  have ⟨kr_53, jr_53, mr_53⟩ := hr_53.lkm
  replace hr_53 := hr_53.low
  have hB58 := (hB46.ext hE55)
  have h59 := (h49.ext hE55)
  have h60 := (h51.ext hE55)
  have h61 := (h52.ext hE55)
  obtain ⟨fl, hFS, hBs, hbd⟩ : ∃ fl : List PE, PolysR w54 (fun b => b < w54.heap.size) (some ⟨g41, 0, none⟩) 3 3 fl 64 ∧ BasisOf (posQ fl) (fr_53.map fun f => zs f.l) ∧ ∀ x ∈ fl, x.n ≤ 6 ∧ nrm (zs x.l) ≤ 196608 := ⟨_, PolysR.low (PolysR.lit (M := 64) (n := 3) (l := [⟨Ar_22, nr_22, cr_22, lr_22⟩, ⟨Ar_29, nr_29, cr_29, lr_29⟩, ⟨Ar_36, nr_36, cr_36, lr_36⟩]) hB58 (AllP.cons h59 (by omega) (AllP.cons h60 (by omega) (AllP.cons h61 (by omega) AllP.nil))) rfl (by decide)), bs_53, by intro x hx; simp only [List.mem_cons, List.not_mem_nil, or_false] at hx; rcases hx with rfl | rfl | rfl <;> refine ⟨?_, ?_⟩ <;> (dsimp only) <;> omega⟩
  have hn11 : ∀ x ∈ fr_53, x.n ≤ 11 := fun x hx => (sm_53 x hx).2.2
  refine sAs rfl (sK hK47 (wp_seq_k fun K62 hK62 => rS fun K63 hK63 => sAi rfl (sK hK63 (wp_block ?_))))
  refine lLoop (fun m e w_ => ∃ (i : Nat), m = nr_53 - i ∧ e 3 = (.slice (some ⟨g41, (0), none⟩) 3 3) ∧ e 4 = (.slice Ar_53 nr_53 cr_53) ∧ e 5 = (.int .i64 ((i : Int))) ∧ Frm (fun b => False) w54 w_ ∧ (i ≤ nr_53)) (nr_53 - (0)) ?_ ?_
  · refine ⟨(0), rfl, rfl, rfl, cI, (Frm.refl _ _), ?_⟩
    · omega
  · rintro m64 e71 w65 ⟨i, hm70, hs66, hs67, hs68, hF69, hi⟩
    obtain ⟨r72, rfl⟩ := sq (e := e71) (t := 3) hs66
    obtain ⟨r73, rfl⟩ := sq (e := r72) (t := 4) hs67
    obtain ⟨r74, rfl⟩ := sq (e := r73) (t := 5) hs68
    have hz75 := hF69.size
    refine wp_seq_k fun K76 hK76 => rS fun K77 hK77 => sMi rfl (sMs rfl (sV (evLen Tryz.underlying25 rfl) ?_))
    by_cases hc78 : ((i : Int)) < ((nr_53 : Int))
    · refine sV (evLss true rfl rfl (dT hc78)) (sK hK77 (cT rfl (wp_skip (xN (hK76 _ _ (wp_seq_k fun K79 hK79 => wp_block (wp_seq_k fun K80 hK80 => wp_seq_k fun K81 hK81 => dBegin (fun _ => False) mixed (fun w82 hE83 hz84 => dMs 0 rfl rfl (dMi 1 rfl rfl ?_)))))))))
      have hR85 := hF69.trans hE83
      have h86 := (hr_53.ext hR85)
      obtain ⟨b87, o88, rfl⟩ := h86.base (by omega)
      refine dV 2 rfl (fun _ _ => evIx i Tryz.underlying25 sz32 rfl rfl (o88 + i)) ?_
      obtain ⟨⟨A_89, n_89, c_89, l_89⟩, he_89, hp_89, hP_89, hS_89, hb_89⟩ := h86.at_ (i := i) (by omega)
      dsimp only at hp_89 hP_89; have ⟨q1_89, q2_89, q3_89⟩ := hP_89.lkm
      have ⟨hnm_89, hdg_89, hsq_89⟩ := span_elem hBs he_89; have hl11_89 := hn11 _ (List.mem_of_getElem? he_89); dsimp only at hnm_89 hdg_89 hsq_89 hl11_89
      refine dV 3 rfl (fun _ hf => evLoad one32 rfl ((hf.cell (p := ⟨_, _, none⟩) hb_89 (fun h => h)).trans hp_89)) (dOp 4 rfl rfl (by kernel_rfl) (oCall rfl call14 (law11_normal hP_89 (by omega) (by omega) (by assumption) (by omega)) rfl ?_))
      rintro _ w92 ⟨gr_91, rfl, hE93, e_91⟩
      refine ⟨(Frm.of_ext hE93), ?_⟩
      have hz94 := hE93.size
      obtain rfl : gr_91 = true := e_91
      refine dV 5 rfl (fun _ _ => evNot _ rfl rfl) (dMb 6 rfl rfl (dEv 7 rfl (v := (.slice (some ⟨b87, o88, none⟩) nr_53 cr_53)) (fun _ _ => rfl) rfl rfl (by kernel_rfl) (dEv 8 rfl (v := (.int .i64 ((i : Int)))) (fun _ _ => rfl) rfl rfl (by kernel_rfl) (dEv 9 rfl (v := (.pointer (some ⟨b87, o88 + i, none⟩))) (fun _ _ => evIx i Tryz.underlying25 sz32 rfl rfl (o88 + i)) rfl rfl (by kernel_rfl) ?_))))
      have h95 := (h86.ext hE93)
      obtain ⟨⟨A_96, n_96, c_96, l_96⟩, he_96, hp_96, hP_96, hS_96, hb_96⟩ := h95.at_ (i := i) (by omega)
      dsimp only at hp_96 hP_96; have ⟨q1_96, q2_96, q3_96⟩ := hP_96.lkm
      have ⟨hnm_96, hdg_96, hsq_96⟩ := span_elem hBs he_96; have hl11_96 := hn11 _ (List.mem_of_getElem? he_96); dsimp only at hnm_96 hdg_96 hsq_96 hl11_96
      refine dEv 10 rfl (v := (.slice A_96 n_96 c_96)) (fun _ hf => evLoad one32 rfl ((hf.cell (p := ⟨_, _, none⟩) hb_96 (fun h => h)).trans hp_96)) rfl rfl (by kernel_rfl) (dOp 11 rfl rfl (by kernel_rfl) (oCall rfl call15 (squarefree_Is hP_96 (by omega) (by omega)) rfl ?_))
      rintro _ w99 ⟨gr_98, rfl, hE100, e_98⟩
      refine ⟨(Frm.of_ext hE100), ?_⟩
      have hz101 := hE100.size
      obtain rfl : gr_98 = true := e_98.2 hsq_96
      refine dEv 12 rfl (v := (.bool false)) (fun _ _ => evNot _ rfl rfl) rfl rfl (by kernel_rfl) (dV 13 rfl (v := (.bool false)) (fun _ _ => rfl) (dMb 14 rfl rfl (dEv 15 rfl (v := (.int .i64 ((i : Int)))) (fun _ _ => rfl) rfl rfl (by kernel_rfl) ?_)))
      by_cases hc102 : ((i : Int)) > 0
      · refine dEv 16 rfl (v := (.bool true)) (fun _ _ => evGtr true rfl rfl (dT hc102)) rfl rfl (by kernel_rfl) (dEv 17 rfl (v := (.bool true)) (fun _ _ => rfl) rfl rfl (by kernel_rfl) (dEv 18 rfl (v := (.slice (some ⟨b87, o88, none⟩) nr_53 cr_53)) (fun _ _ => rfl) rfl rfl (by kernel_rfl) (dEv 19 rfl (v := (.int .i64 ((i : Int)))) (fun _ _ => rfl) rfl rfl (by kernel_rfl) (dEv 20 rfl (v := (.int .i64 (((i : Int)) - 1))) (fun _ _ => evSub (((i : Int)) - 1) rfl rfl wI) rfl rfl (by kernel_rfl) (dEv 21 rfl (v := (.pointer (some ⟨b87, o88 + (i - 1), none⟩))) (fun _ _ => evIx (i - 1) Tryz.underlying25 sz32 rfl rfl (o88 + (i - 1))) rfl rfl (by kernel_rfl) ?_)))))
        have h103 := (h95.ext hE100)
        obtain ⟨⟨A_104, n_104, c_104, l_104⟩, he_104, hp_104, hP_104, hS_104, hb_104⟩ := h103.at_ (i := (i - 1)) (by omega)
        dsimp only at hp_104 hP_104; have ⟨q1_104, q2_104, q3_104⟩ := hP_104.lkm
        have ⟨hnm_104, hdg_104, hsq_104⟩ := span_elem hBs he_104; have hl11_104 := hn11 _ (List.mem_of_getElem? he_104); dsimp only at hnm_104 hdg_104 hsq_104 hl11_104
        refine dEv 22 rfl (v := (.slice A_104 n_104 c_104)) (fun _ hf => evLoad one32 rfl ((hf.cell (p := ⟨_, _, none⟩) hb_104 (fun h => h)).trans hp_104)) rfl rfl (by kernel_rfl) (dEv 23 rfl (v := (.slice (some ⟨b87, o88, none⟩) nr_53 cr_53)) (fun _ _ => rfl) rfl rfl (by kernel_rfl) (dEv 24 rfl (v := (.int .i64 ((i : Int)))) (fun _ _ => rfl) rfl rfl (by kernel_rfl) (dEv 25 rfl (v := (.pointer (some ⟨b87, o88 + i, none⟩))) (fun _ _ => evIx i Tryz.underlying25 sz32 rfl rfl (o88 + i)) rfl rfl (by kernel_rfl) ?_)))
        obtain ⟨⟨A_106, n_106, c_106, l_106⟩, he_106, hp_106, hP_106, hS_106, hb_106⟩ := h103.at_ (i := i) (by omega)
        dsimp only at hp_106 hP_106; have ⟨q1_106, q2_106, q3_106⟩ := hP_106.lkm
        have ⟨hnm_106, hdg_106, hsq_106⟩ := span_elem hBs he_106; have hl11_106 := hn11 _ (List.mem_of_getElem? he_106); dsimp only at hnm_106 hdg_106 hsq_106 hl11_106
        refine dEv 26 rfl (v := (.slice A_106 n_106 c_106)) (fun _ hf => evLoad one32 rfl ((hf.cell (p := ⟨_, _, none⟩) hb_106 (fun h => h)).trans hp_106)) rfl rfl (by kernel_rfl) (dOp 27 rfl rfl (by kernel_rfl) (oCall rfl call16 (unipoly_Compare hP_104 hP_106) rfl ?_))
        rintro _ w109 ⟨xr_108, rfl, hE110, e_108⟩
        refine ⟨(Frm.of_ext hE110), ?_⟩
        have hz111 := hE110.size
        refine dEv 28 rfl (v := (.bool false)) (fun _ _ => evGeq false rfl rfl (dF (by rw [e_108, hnm_104.t, hnm_106.t]; have h := span_lt so_53 he_104 he_106 (by omega); (try dsimp only at h); omega))) rfl rfl (by kernel_rfl) (dEv 29 rfl (v := (.bool false)) (fun _ _ => rfl) rfl rfl (by kernel_rfl) (dV 30 rfl (v := (.bool false)) (fun _ _ => rfl) (dDone (by kernel_rfl) (xN (hK81 _ _ (cF rfl (wp_skip (xN (hK80 _ _ (rS fun K112 hK112 => sAi rfl (sK hK112 (wp_block ?_))))))))))))
        refine lLoop (fun m e w_ => ∃ (k : Nat), m = i - k ∧ e 3 = (.slice (some ⟨g41, (0), none⟩) 3 3) ∧ e 4 = (.slice (some ⟨b87, o88, none⟩) nr_53 cr_53) ∧ e 5 = (.int .i64 ((i : Int))) ∧ e 6 = (.int .i64 ((k : Int))) ∧ Frm (fun b => False) w109 w_ ∧ (k ≤ i)) (i - (0)) ?_ ?_
        · refine ⟨(0), rfl, rfl, rfl, rfl, cI, (Frm.refl _ _), ?_⟩
          · omega
        · rintro m113 e121 w114 ⟨k, hm120, hs115, hs116, hs117, hs118, hF119, hk⟩
          obtain ⟨r122, rfl⟩ := sq (e := e121) (t := 3) hs115
          obtain ⟨r123, rfl⟩ := sq (e := r122) (t := 4) hs116
          obtain ⟨r124, rfl⟩ := sq (e := r123) (t := 5) hs117
          obtain ⟨r125, rfl⟩ := sq (e := r124) (t := 6) hs118
          have hz126 := hF119.size
          refine wp_seq_k fun K127 hK127 => rS fun K128 hK128 => sMi rfl (sMi rfl ?_)
          by_cases hc129 : ((k : Int)) < ((i : Int))
          · refine sV (evLss true rfl rfl (dT hc129)) (sK hK128 (cT rfl (wp_skip (xN (hK127 _ _ (wp_seq_k fun K130 hK130 => wp_block (wp_seq_k fun K131 hK131 => dBegin (fun _ => False) mixed (fun w132 hE133 hz134 => dMs 0 rfl rfl (dMi 1 rfl rfl (dV 2 rfl (fun _ _ => evIx i Tryz.underlying25 sz32 rfl rfl (o88 + i)) ?_))))))))))
            have hR135 := (hE110.trans hF119).trans hE133
            have h136 := (h103.ext hR135)
            obtain ⟨⟨A_137, n_137, c_137, l_137⟩, he_137, hp_137, hP_137, hS_137, hb_137⟩ := h136.at_ (i := i) (by omega)
            dsimp only at hp_137 hP_137; have ⟨q1_137, q2_137, q3_137⟩ := hP_137.lkm
            have ⟨hnm_137, hdg_137, hsq_137⟩ := span_elem hBs he_137; have hl11_137 := hn11 _ (List.mem_of_getElem? he_137); dsimp only at hnm_137 hdg_137 hsq_137 hl11_137
            refine dV 3 rfl (fun _ hf => evLoad one32 rfl ((hf.cell (p := ⟨_, _, none⟩) hb_137 (fun h => h)).trans hp_137)) (dMs 4 rfl rfl (dMi 5 rfl rfl (dV 6 rfl (fun _ _ => evIx k Tryz.underlying25 sz32 rfl rfl (o88 + k)) ?_)))
            obtain ⟨⟨A_139, n_139, c_139, l_139⟩, he_139, hp_139, hP_139, hS_139, hb_139⟩ := h136.at_ (i := k) (by omega)
            dsimp only at hp_139 hP_139; have ⟨q1_139, q2_139, q3_139⟩ := hP_139.lkm
            have ⟨hnm_139, hdg_139, hsq_139⟩ := span_elem hBs he_139; have hl11_139 := hn11 _ (List.mem_of_getElem? he_139); dsimp only at hnm_139 hdg_139 hsq_139 hl11_139
            refine dV 7 rfl (fun _ hf => evLoad one32 rfl ((hf.cell (p := ⟨_, _, none⟩) hb_139 (fun h => h)).trans hp_139)) (dOp 8 rfl rfl (by kernel_rfl) (oCall rfl call17 (unidiv_Coprime hP_137 hP_139 (by omega) (by omega) (by omega) (by omega)) rfl ?_))
            rintro _ w142 ⟨gr_141, rfl, hE143, e_141⟩
            refine ⟨(Frm.of_ext hE143), ?_⟩
            have hz144 := hE143.size
            obtain rfl : gr_141 = true := e_141.2 (span_cop hBs he_137 he_139 (by omega))
            refine dV 9 rfl (fun _ _ => evNot _ rfl rfl) (dDone (by kernel_rfl) (xN (hK131 _ _ (cF rfl (wp_skip (bN (xN (hK130 _ _ (wp_region_lit (sMi rfl (sV (evAdd (((k : Int)) + 1) rfl rfl wI) (sAi rfl (sDone ?_)))))))))))))
            have hR145 := hE133.trans hE143
            refine again (i - (k + 1)) (by omega) ⟨(k + 1), rfl, rfl, rfl, rfl, cI, (hF119.trans hR145), ?_⟩
            · omega
          · refine sV (evLss false rfl rfl (dF hc129)) (sK hK128 (cF rfl (wp_exit (xE (xE (bE (bN (xN (hK79 _ _ (wp_region_lit (sMi rfl (sV (evAdd (((i : Int)) + 1) rfl rfl wI) (sAi rfl (sDone ?_))))))))))))))
            have hR146 := (((hE83.trans hE93).trans hE100).trans hE110).trans hF119
            refine again (nr_53 - (i + 1)) (by omega) ⟨(i + 1), rfl, rfl, rfl, cI, (hF69.trans hR146), ?_⟩
            · omega
      · refine dEv 16 rfl (v := (.bool false)) (fun _ _ => evGtr false rfl rfl (dF hc102)) rfl rfl (by kernel_rfl) (dEv 17 rfl (v := (.bool false)) (fun _ _ => rfl) rfl rfl (by kernel_rfl) (dSkip 18 rfl rfl rfl (by kernel_rfl) (dSkip 19 rfl rfl rfl (by kernel_rfl) (dSkip 20 rfl rfl rfl (by kernel_rfl) (dSkip 21 rfl rfl rfl (by kernel_rfl) (dSkip 22 rfl rfl rfl (by kernel_rfl) (dSkip 23 rfl rfl rfl (by kernel_rfl) (dSkip 24 rfl rfl rfl (by kernel_rfl) (dSkip 25 rfl rfl rfl (by kernel_rfl) (dSkip 26 rfl rfl rfl (by kernel_rfl) (dSkip 27 rfl rfl rfl (by kernel_rfl) (dSkip 28 rfl rfl rfl (by kernel_rfl) (dEv 29 rfl (v := (.bool false)) (fun _ _ => rfl) rfl rfl (by kernel_rfl) (dV 30 rfl (v := (.bool false)) (fun _ _ => rfl) ?_))))))))))))))
        refine dDone (by kernel_rfl) (xN (hK81 _ _ (cF rfl (wp_skip (xN (hK80 _ _ (rS fun K147 hK147 => sAi rfl (sK hK147 (wp_block ?_)))))))))
        refine lLoop (fun m e w_ => ∃ (k : Nat), m = i - k ∧ e 3 = (.slice (some ⟨g41, (0), none⟩) 3 3) ∧ e 4 = (.slice (some ⟨b87, o88, none⟩) nr_53 cr_53) ∧ e 5 = (.int .i64 ((i : Int))) ∧ e 6 = (.int .i64 ((k : Int))) ∧ Frm (fun b => False) w99 w_ ∧ (k ≤ i)) (i - (0)) ?_ ?_
        · refine ⟨(0), rfl, rfl, rfl, rfl, cI, (Frm.refl _ _), ?_⟩
          · omega
        · rintro m148 e156 w149 ⟨k, hm155, hs150, hs151, hs152, hs153, hF154, hk⟩
          obtain ⟨r157, rfl⟩ := sq (e := e156) (t := 3) hs150
          obtain ⟨r158, rfl⟩ := sq (e := r157) (t := 4) hs151
          obtain ⟨r159, rfl⟩ := sq (e := r158) (t := 5) hs152
          obtain ⟨r160, rfl⟩ := sq (e := r159) (t := 6) hs153
          have hz161 := hF154.size
          refine wp_seq_k fun K162 hK162 => rS fun K163 hK163 => sMi rfl (sMi rfl ?_)
          by_cases hc164 : ((k : Int)) < ((i : Int))
          · refine sV (evLss true rfl rfl (dT hc164)) (sK hK163 (cT rfl (wp_skip (xN (hK162 _ _ (wp_seq_k fun K165 hK165 => wp_block (wp_seq_k fun K166 hK166 => dBegin (fun _ => False) mixed (fun w167 hE168 hz169 => dMs 0 rfl rfl (dMi 1 rfl rfl (dV 2 rfl (fun _ _ => evIx i Tryz.underlying25 sz32 rfl rfl (o88 + i)) ?_))))))))))
            have hR170 := (hE100.trans hF154).trans hE168
            have h171 := (h95.ext hR170)
            obtain ⟨⟨A_172, n_172, c_172, l_172⟩, he_172, hp_172, hP_172, hS_172, hb_172⟩ := h171.at_ (i := i) (by omega)
            dsimp only at hp_172 hP_172; have ⟨q1_172, q2_172, q3_172⟩ := hP_172.lkm
            have ⟨hnm_172, hdg_172, hsq_172⟩ := span_elem hBs he_172; have hl11_172 := hn11 _ (List.mem_of_getElem? he_172); dsimp only at hnm_172 hdg_172 hsq_172 hl11_172
            refine dV 3 rfl (fun _ hf => evLoad one32 rfl ((hf.cell (p := ⟨_, _, none⟩) hb_172 (fun h => h)).trans hp_172)) (dMs 4 rfl rfl (dMi 5 rfl rfl (dV 6 rfl (fun _ _ => evIx k Tryz.underlying25 sz32 rfl rfl (o88 + k)) ?_)))
            obtain ⟨⟨A_174, n_174, c_174, l_174⟩, he_174, hp_174, hP_174, hS_174, hb_174⟩ := h171.at_ (i := k) (by omega)
            dsimp only at hp_174 hP_174; have ⟨q1_174, q2_174, q3_174⟩ := hP_174.lkm
            have ⟨hnm_174, hdg_174, hsq_174⟩ := span_elem hBs he_174; have hl11_174 := hn11 _ (List.mem_of_getElem? he_174); dsimp only at hnm_174 hdg_174 hsq_174 hl11_174
            refine dV 7 rfl (fun _ hf => evLoad one32 rfl ((hf.cell (p := ⟨_, _, none⟩) hb_174 (fun h => h)).trans hp_174)) (dOp 8 rfl rfl (by kernel_rfl) (oCall rfl call17 (unidiv_Coprime hP_172 hP_174 (by omega) (by omega) (by omega) (by omega)) rfl ?_))
            rintro _ w177 ⟨gr_176, rfl, hE178, e_176⟩
            refine ⟨(Frm.of_ext hE178), ?_⟩
            have hz179 := hE178.size
            obtain rfl : gr_176 = true := e_176.2 (span_cop hBs he_172 he_174 (by omega))
            refine dV 9 rfl (fun _ _ => evNot _ rfl rfl) (dDone (by kernel_rfl) (xN (hK166 _ _ (cF rfl (wp_skip (bN (xN (hK165 _ _ (wp_region_lit (sMi rfl (sV (evAdd (((k : Int)) + 1) rfl rfl wI) (sAi rfl (sDone ?_)))))))))))))
            have hR180 := hE168.trans hE178
            refine again (i - (k + 1)) (by omega) ⟨(k + 1), rfl, rfl, rfl, rfl, cI, (hF154.trans hR180), ?_⟩
            · omega
          · refine sV (evLss false rfl rfl (dF hc164)) (sK hK163 (cF rfl (wp_exit (xE (xE (bE (bN (xN (hK79 _ _ (wp_region_lit (sMi rfl (sV (evAdd (((i : Int)) + 1) rfl rfl wI) (sAi rfl (sDone ?_))))))))))))))
            have hR181 := ((hE83.trans hE93).trans hE100).trans hF154
            refine again (nr_53 - (i + 1)) (by omega) ⟨(i + 1), rfl, rfl, rfl, cI, (hF69.trans hR181), ?_⟩
            · omega
    · refine sV (evLss false rfl rfl (dF hc78)) (sK hK77 (cF rfl (wp_exit (xE (xE (bE (xN (hK62 _ _ (wp_seq_k fun K182 hK182 => rS fun K183 hK183 => sAi rfl (sK hK183 (wp_block ?_)))))))))))
      refine lLoop (fun m e w_ => ∃ (j : Nat), m = 3 - j ∧ e 3 = (.slice (some ⟨g41, (0), none⟩) 3 3) ∧ e 4 = (.slice Ar_53 nr_53 cr_53) ∧ e 7 = (.int .i64 ((j : Int))) ∧ Frm (fun b => False) w65 w_ ∧ (j ≤ 3)) (3 - (0)) ?_ ?_
      · refine ⟨(0), rfl, rfl, rfl, cI, (Frm.refl _ _), ?_⟩
        · omega
      · rintro m184 e191 w185 ⟨j, hm190, hs186, hs187, hs188, hF189, hj⟩
        obtain ⟨r192, rfl⟩ := sq (e := e191) (t := 3) hs186
        obtain ⟨r193, rfl⟩ := sq (e := r192) (t := 4) hs187
        obtain ⟨r194, rfl⟩ := sq (e := r193) (t := 7) hs188
        have hz195 := hF189.size
        refine wp_seq_k fun K196 hK196 => rS fun K197 hK197 => sMi rfl ?_
        by_cases hc198 : ((j : Int)) < 3
        · refine sV (evLss true rfl rfl (dT hc198)) (sK hK197 (cT rfl (wp_skip (xN (hK196 _ _ (wp_seq_k fun K199 hK199 => wp_block (rS fun K200 hK200 => sMs rfl (sMi rfl (sV (evIx j Tryz.underlying25 sz32 rfl rfl ((0) + j)) ?_)))))))))
          have hR201 := hF69.trans hF189
          have h202 := (hFS.ext hR201)
          obtain ⟨⟨A_203, n_203, c_203, l_203⟩, he_203, hp_203, hP_203, hS_203, hb_203⟩ := h202.at_ (i := j) (by omega)
          dsimp only at hp_203 hP_203; have ⟨q1_203, q2_203, q3_203⟩ := hP_203.lkm
          have hbd_203 := hbd _ (List.mem_of_getElem? he_203); dsimp only at hbd_203
          refine sV (evLoad one32 rfl hp_203) (sMs rfl ?_)
          have h205 := (hr_53.ext hR201)
          refine sO (oCall rfl call18 (squarefree_Exponents hP_203 h205 (by omega) (by omega) (by omega) (by omega) (by omega) (by assumption)) rfl ?_)
          rintro _ w207 ⟨Ar_206, nr_206, cr_206, dr_206, gk_206, rfl, hE208, hr_206, e_206⟩
          have hz209 := hE208.size
          have ⟨lr_206, kr_206, mr_206⟩ := hr_206.lkm
          have hsp := span_yes hBs (List.mem_of_getElem? he_203) e_206; dsimp only at hsp
          refine sV (v := (.tuple #[(.slice Ar_206 nr_206 cr_206), (.bool gk_206)])) (rfl) (sV (v := (.slice Ar_206 nr_206 cr_206)) (rfl) (sV (v := (.bool gk_206)) (rfl) (sAs rfl (sAb rfl (sK hK200 (wp_seq_k fun K211 hK211 => dBegin (fun _ => False) mixed (fun w212 hE213 hz214 => dMb 0 rfl rfl (dMs 1 rfl rfl (dMi 2 rfl rfl (dV 3 rfl (fun _ _ => evIx j Tryz.underlying25 sz32 rfl rfl ((0) + j)) ?_))))))))))
          have hR215 := hE208.trans hE213
          have h216 := (h202.ext hR215)
          obtain ⟨⟨A_217, n_217, c_217, l_217⟩, he_217, hp_217, hP_217, hS_217, hb_217⟩ := h216.at_ (i := j) (by omega)
          dsimp only at hp_217 hP_217; have ⟨q1_217, q2_217, q3_217⟩ := hP_217.lkm
          have hbd_217 := hbd _ (List.mem_of_getElem? he_217); dsimp only at hbd_217
          refine dV 4 rfl (fun _ hf => evLoad one32 rfl ((hf.cell (p := ⟨_, _, none⟩) hb_217 (fun h => h)).trans hp_217)) (dOp 5 rfl rfl (by kernel_rfl) (oCall rfl call19 (unipoly_Degree hP_217 (by omega) (by omega)) rfl ?_))
          rintro _ w220 ⟨xr_219, rfl, hE221, e_219⟩
          refine ⟨(Frm.of_ext hE221), ?_⟩
          have hz222 := hE221.size
          by_cases hc223 : xr_219 ≥ 0
          · refine dV 6 rfl (fun _ _ => evGeq true rfl rfl (dT hc223)) ?_
            have hl95 : l_203 = l_217 := congrArg PE.l (Option.some.inj (he_203.symm.trans he_217))
            have hd : P (zs l_203) ≠ 0 := dg_pos.2 (by rw [dg_P, hl95]; omega)
            obtain ⟨_, rfl, hxx⟩ := hsp.resolve_right fun hh => hd hh.1
            refine dV 7 rfl (fun _ _ => evNeqB _ Tryz.underlying4 rfl rfl rfl) (dMb 8 rfl rfl (dEv 9 rfl (v := (.bool true)) (fun _ _ => rfl) rfl rfl (by kernel_rfl) (dEv 10 rfl (v := (.bool true)) (fun _ _ => rfl) rfl rfl (by kernel_rfl) (dEv 11 rfl (v := (.slice Ar_206 nr_206 cr_206)) (fun _ _ => rfl) rfl rfl (by kernel_rfl) (dEv 12 rfl (v := (.int .i64 ((nr_206 : Int)))) (fun _ _ => evLen Tryz.underlying39 rfl) rfl rfl (by kernel_rfl) (dEv 13 rfl (v := (.slice Ar_53 nr_53 cr_53)) (fun _ _ => rfl) rfl rfl (by kernel_rfl) (dEv 14 rfl (v := (.int .i64 ((nr_53 : Int)))) (fun _ _ => evLen Tryz.underlying25 rfl) rfl rfl (by kernel_rfl) (dEv 15 rfl (v := (.bool false)) (fun _ _ => evNeq false rfl rfl (dF (by have h := hxx.1; simp [qps] at h; omega))) rfl rfl (by kernel_rfl) ?_))))))))
            refine dEv 16 rfl (v := (.bool false)) (fun _ _ => rfl) rfl rfl (by kernel_rfl) (dEv 17 rfl (v := (.slice Ar_53 nr_53 cr_53)) (fun _ _ => rfl) rfl rfl (by kernel_rfl) (dEv 18 rfl (v := (.slice Ar_206 nr_206 cr_206)) (fun _ _ => rfl) rfl rfl (by kernel_rfl) (dEv 20 rfl (v := (.slice (some ⟨g41, (0), none⟩) 3 3)) (fun _ _ => rfl) rfl rfl (by kernel_rfl) (dEv 21 rfl (v := (.int .i64 ((j : Int)))) (fun _ _ => rfl) rfl rfl (by kernel_rfl) (dEv 22 rfl (v := (.pointer (some ⟨g41, (0) + j, none⟩))) (fun _ _ => evIx j Tryz.underlying25 sz32 rfl rfl ((0) + j)) rfl rfl (by kernel_rfl) ?_)))))
            have h224 := (h216.ext hE221)
            obtain ⟨⟨A_225, n_225, c_225, l_225⟩, he_225, hp_225, hP_225, hS_225, hb_225⟩ := h224.at_ (i := j) (by omega)
            dsimp only at hp_225 hP_225; have ⟨q1_225, q2_225, q3_225⟩ := hP_225.lkm
            have hbd_225 := hbd _ (List.mem_of_getElem? he_225); dsimp only at hbd_225
            refine dEv 23 rfl (v := (.slice A_225 n_225 c_225)) (fun _ hf => evLoad one32 rfl ((hf.cell (p := ⟨_, _, none⟩) hb_225 (fun h => h)).trans hp_225)) rfl rfl (by kernel_rfl) ?_
            have hR227 := hR215.trans hE221
            have h228 := (h205.ext hR227)
            have hR229 := hE213.trans hE221
            have h230 := (hr_206.ext hR229)
            refine dOp 19 rfl rfl (by kernel_rfl) (oCall rfl call21 (law11_power h228 h230 (by omega) hxx hd (by omega) (by have h := trimZ_len (zs l_203); rw [zlen] at h; omega) (fun i f hf => ⟨(span_elem hBs hf).1, hn11 f (List.mem_of_getElem? hf)⟩)) rfl ?_)
            rintro _ w232 ⟨Ar_231, nr_231, cr_231, lr_231, rfl, hE233, hr_231, e_231, ln_231⟩
            refine ⟨(Frm.of_ext hE233), ?_⟩
            have hz234 := hE233.size
            have ⟨kr_231, jr_231, mr_231⟩ := hr_231.lkm
            replace hr_231 := hr_231.low
            have h236 := (hP_225.ext hE233)
            refine dOp 24 rfl rfl (by kernel_rfl) (oCall rfl call20 (law11_associated hr_231 h236 (by omega) (by omega) (by omega) (by omega)) rfl ?_)
            rintro _ w238 ⟨gr_237, rfl, hE239, e_237⟩
            refine ⟨(Frm.of_ext hE239), ?_⟩
            have hz240 := hE239.size
            have hl113 : l_203 = l_225 := congrArg PE.l (Option.some.inj (he_203.symm.trans he_225))
            obtain rfl : gr_237 = true := by rw [e_237, e_231, ← hl113]; simp
            refine dEv 25 rfl (v := (.bool false)) (fun _ _ => evNot _ rfl rfl) rfl rfl (by kernel_rfl) (dEv 26 rfl (v := (.bool false)) (fun _ _ => rfl) rfl rfl (by kernel_rfl) (dEv 27 rfl (v := (.bool false)) (fun _ _ => rfl) rfl rfl (by kernel_rfl) (dV 28 rfl (v := (.bool false)) (fun _ _ => rfl) (dDone (by kernel_rfl) (xN (hK211 _ _ (cF rfl (wp_skip (bN (xN (hK199 _ _ (wp_region_lit (sMi rfl (sV (evAdd (((j : Int)) + 1) rfl rfl wI) (sAi rfl (sDone ?_))))))))))))))))
            have hR241 := (hR227.trans hE233).trans hE239
            refine again (3 - (j + 1)) (by omega) ⟨(j + 1), rfl, rfl, rfl, cI, (hF189.trans hR241), ?_⟩
            · omega
          · refine dV 6 rfl (fun _ _ => evGeq false rfl rfl (dF hc223)) ?_
            have hl95 : l_203 = l_217 := congrArg PE.l (Option.some.inj (he_203.symm.trans he_217))
            have hd : P (zs l_203) = 0 := dg_zero.1 (by rw [dg_P, hl95]; omega)
            obtain ⟨_, rfl⟩ := hsp.resolve_left fun hh => hh.1 hd
            refine dV 7 rfl (fun _ _ => evNeqB _ Tryz.underlying4 rfl rfl rfl) (dMb 8 rfl rfl (dEv 9 rfl (v := (.bool false)) (fun _ _ => rfl) rfl rfl (by kernel_rfl) (dEv 10 rfl (v := (.bool false)) (fun _ _ => rfl) rfl rfl (by kernel_rfl) (dSkip 11 rfl rfl rfl (by kernel_rfl) (dSkip 12 rfl rfl rfl (by kernel_rfl) (dSkip 13 rfl rfl rfl (by kernel_rfl) (dSkip 14 rfl rfl rfl (by kernel_rfl) (dSkip 15 rfl rfl rfl (by kernel_rfl) (dSkip 16 rfl rfl rfl (by kernel_rfl) (dSkip 17 rfl rfl rfl (by kernel_rfl) (dSkip 18 rfl rfl rfl (by kernel_rfl) (dSkip 19 rfl rfl rfl (by kernel_rfl) (dSkip 20 rfl rfl rfl (by kernel_rfl) (dSkip 21 rfl rfl rfl (by kernel_rfl) (dSkip 22 rfl rfl rfl (by kernel_rfl) (dSkip 23 rfl rfl rfl (by kernel_rfl) ?_))))))))))))))))
            refine dSkip 24 rfl rfl rfl (by kernel_rfl) (dSkip 25 rfl rfl rfl (by kernel_rfl) (dSkip 26 rfl rfl rfl (by kernel_rfl) (dEv 27 rfl (v := (.bool false)) (fun _ _ => rfl) rfl rfl (by kernel_rfl) (dV 28 rfl (v := (.bool false)) (fun _ _ => rfl) (dDone (by kernel_rfl) (xN (hK211 _ _ (cF rfl (wp_skip (bN (xN (hK199 _ _ (wp_region_lit (sMi rfl (sV (evAdd (((j : Int)) + 1) rfl rfl wI) (sAi rfl (sDone ?_)))))))))))))))))
            have hR242 := hR215.trans hE221
            refine again (3 - (j + 1)) (by omega) ⟨(j + 1), rfl, rfl, rfl, cI, (hF189.trans hR242), ?_⟩
            · omega
        · refine sV (evLss false rfl rfl (dF hc198)) (sK hK197 (cF rfl (wp_exit (xE (xE (bE (xN (hK182 _ _ (rS fun K243 hK243 => sAb rfl (sK hK243 (wp_ret (ret1 (.bool true) Tryz.results4 (resT rfl) ?_))))))))))))
          have hR244 := ((((hR34.trans hE38).trans hE44).trans hE55).trans hF69).trans hF189
          exact ⟨(true), rfl, hR244, rfl⟩

end Go.Proofs.YtbniolgfaeiedaaGreat
