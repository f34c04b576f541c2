/-
  Walks of package cylinderref11: the basis.
-/
import Derived.Test.YtbniolgfaeiedaaGreatKn2
import Derived.Test.YtbniolgfaeiedaaGreatLibC
import Derived.Test.YtbniolgfaeiedaaGreatFacts2
namespace Go.Proofs.YtbniolgfaeiedaaGreat
open Go.RowKit Go.Gx
theorem ref11_sign {w : World} {xn : Int}   : Calls Tryz.prog 72 #[(.int .i64 (xn))] w (Ret fun v w' => ∃ (xr : Int), v = (.int .i64 (xr)) ∧ Ext w w' ∧ (xr = cmpZ xn 0)) := by
  refine enter Tryz.func72 rfl Tryz.ntmps72 rfl (rS fun K1 hK1 => sAi rfl (sK hK1 (wp_seq_k fun K2 hK2 => rS fun K3 hK3 => sMi rfl ?_)))
  by_cases hc4 : xn < 0
  · refine sV (evLss true rfl rfl (dT hc4)) (sK hK3 (cT rfl (rS fun K5 hK5 => sAi rfl (sK hK5 (wp_ret (xR (ret1 (.int .i64 ((-1))) Tryz.results72 (resT rfl) ?_)))))))
    exact ⟨((-1)), rfl, (Frm.refl _ _), (by have h := cmpZ_cases xn 0; omega)⟩
  · refine sV (evLss false rfl rfl (dF hc4)) (sK hK3 (cF rfl (wp_skip (xN (hK2 _ _ (wp_seq_k fun K6 hK6 => rS fun K7 hK7 => sMi rfl ?_))))))
    by_cases hc8 : xn > 0
    · refine sV (evGtr true rfl rfl (dT hc8)) (sK hK7 (cT rfl (rS fun K9 hK9 => sAi rfl (sK hK9 (wp_ret (xR (ret1 (.int .i64 (1)) Tryz.results72 (resT rfl) ?_)))))))
      exact ⟨(1), rfl, (Frm.refl _ _), (by have h := cmpZ_cases xn 0; omega)⟩
    · refine sV (evGtr false rfl rfl (dF hc8)) (sK hK7 (cF rfl (wp_skip (xN (hK6 _ _ (rS fun K10 hK10 => sAi rfl (sK hK10 (wp_ret (ret1 (.int .i64 (0)) Tryz.results72 (resT rfl) ?_)))))))))
      exact ⟨(0), rfl, (Frm.refl _ _), (by have h := cmpZ_cases xn 0; omega)⟩
theorem ref11_Times {w : World} {Sl : Nat → Prop} {Al : Option Addr} {nl cl : Nat} {fl : List IE} {Sp : Nat → Prop} {Ap : Option Addr} {np cp : Nat} {xp : List Int} (hl : IFacsR w Sl Al nl cl fl) (hp : IntsR w Sp Ap np cp xp)  : Calls Tryz.prog 48 #[(.slice Al nl cl), (.slice Ap np cp)] w (Ret fun v w' => ∃ (xr : Int), v = (.int .i64 (xr)) ∧ Ext w w' ∧ (xr = timesM (fl.map IE.m) xp)) := by
  have ⟨kl, jl, ml⟩ := hl.lkm; replace hl := hl.low
  have ⟨lp, kp, mp⟩ := hp.lkm
  replace hp := hp.low
  refine enter Tryz.func48 rfl Tryz.ntmps48 rfl (rS fun K1 hK1 => sAi rfl (sK hK1 (wp_seq_k fun K2 hK2 => rS fun K3 hK3 => sAi rfl (sK hK3 (wp_block ?_)))))
  refine lLoop (fun m e w_ => ∃ (i : Nat), m = nl - i ∧ e 0 = (.slice Al nl cl) ∧ e 1 = (.slice Ap np cp) ∧ e 5 = (.int .i64 ((i : Int))) ∧ Frm (fun b => False) w w_ ∧ (i ≤ nl) ∧ (∀ j e, j < i → fl[j]? = some e → trimZ e.x ≠ trimZ xp)) (nl - (0)) ?_ ?_
  · refine ⟨(0), rfl, rfl, rfl, cI, (Frm.refl _ _), ?_, ?_⟩
    · omega
    · intro j e hj; omega
  · rintro m4 e11 w5 ⟨i, hm10, hs6, hs7, hs8, hF9, hi, hne⟩
    obtain ⟨r12, rfl⟩ := sq (e := e11) (t := 0) hs6
    obtain ⟨r13, rfl⟩ := sq (e := r12) (t := 1) hs7
    obtain ⟨r14, rfl⟩ := sq (e := r13) (t := 5) hs8
    have hz15 := hF9.size
    refine wp_seq_k fun K16 hK16 => rS fun K17 hK17 => sMi rfl (sMs rfl (sV (evLen Tryz.underlying28 rfl) ?_))
    by_cases hc18 : ((i : Int)) < ((nl : Int))
    · refine sV (evLss true rfl rfl (dT hc18)) (sK hK17 (cT rfl (wp_skip (xN (hK16 _ _ (wp_seq_k fun K19 hK19 => wp_block (rS fun K20 hK20 => sMs rfl (sMi rfl ?_))))))))
      have h21 := (hl.ext hF9)
      obtain ⟨b22, o23, rfl⟩ := h21.base (by omega)
      refine sV (evIx i Tryz.underlying28 sz61 rfl rfl (o23 + (i * 2))) (sV (evFA (o23 + (i * 2)) fa61_0 rfl rfl) ?_)
      obtain ⟨⟨A_24, n_24, c_24, x_24, k_24⟩, he_24, hp_24, hq_24, hP_24, hS_24, hb_24⟩ := h21.at_ (i := i) (by omega)
      dsimp only at hp_24 hq_24 hP_24; have ⟨q1_24, q2_24, q3_24⟩ := hP_24.lkm
      refine sV (evLoad one39 rfl hp_24) (sMs rfl ?_)
      have h26 := (hp.ext hF9)
      refine sO (oCall rfl call47 (ref11_Same hP_24 h26) rfl ?_)
      rintro _ w28 ⟨gr_27, rfl, hE29, e_27⟩
      have hz30 := hE29.size
      refine sK hK20 (cB gr_27 rfl ?_ ?_)
      · intro hc31
        subst hc31
        refine rS fun K32 hK32 => sMs rfl (sMi rfl (sV (evIx i Tryz.underlying28 sz61 rfl rfl (o23 + (i * 2))) (sV (evFA (o23 + (i * 2) + 1) fa61_1 rfl rfl) ?_)))
        have h33 := (h21.ext hE29)
        obtain ⟨⟨A_34, n_34, c_34, x_34, k_34⟩, he_34, hp_34, hq_34, hP_34, hS_34, hb_34⟩ := h33.at_ (i := i) (by omega)
        dsimp only at hp_34 hq_34 hP_34; have ⟨q1_34, q2_34, q3_34⟩ := hP_34.lkm
        refine sV (evLoad one3 rfl hq_34) (sAi rfl (sK hK32 (wp_ret (bR (xR (xR (bR (xR (ret1 (.int .i64 (k_34)) Tryz.results48 (resT rfl) ?_)))))))))
        have hR35 := hF9.trans hE29
        exact ⟨(k_34), rfl, hR35, (times_found he_34 hne (by have h9 := Option.some.inj (he_24.symm.trans he_34); injection h9 with h1 h2 h3 h4 h5; rw [← h4]; exact e_27.1 rfl))⟩
      · intro hc31
        subst hc31
        refine wp_skip (bN (xN (hK19 _ _ (wp_region_lit (sMi rfl (sV (evAdd (((i : Int)) + 1) rfl rfl wI) (sAi rfl (sDone (again (nl - (i + 1)) (by omega) ⟨(i + 1), rfl, rfl, rfl, cI, (hF9.trans hE29), ?_, ?_⟩)))))))))
        · omega
        · exact with_next hne he_24 (fun h => absurd (e_27.2 h) (by decide))
    · refine sV (evLss false rfl rfl (dF hc18)) (sK hK17 (cF rfl (wp_exit (xE (xE (bE (xN (hK2 _ _ (rS fun K36 hK36 => sAi rfl (sK hK36 (wp_ret (ret1 (.int .i64 (0)) Tryz.results48 (resT rfl) ?_))))))))))))
      exact ⟨(0), rfl, hF9, (times_new hne (by omega))⟩
theorem ref11_alike {w : World} {Sa : Nat → Prop} {Aa : Option Addr} {na ca : Nat} {la : List LE} {Sp : Nat → Prop} {Ap : Option Addr} {np cp : Nat} {xp : List Int} {Sq : Nat → Prop} {Aq : Option Addr} {nq cq : Nat} {xq : List Int} (ha : GListR LF w Sa Aa na ca la) (hp : IntsR w Sp Ap np cp xp) (hq : IntsR w Sq Aq nq cq xq)  : Calls Tryz.prog 28 #[(.slice Aa na ca), (.slice Ap np cp), (.slice Aq nq cq)] w (Ret fun v w' => ∃ (gr : Bool), v = (.bool gr) ∧ Ext w w' ∧ (gr = true ↔ ∀ l ∈ la.map LE.m, timesM l xp = timesM l xq)) := by
  have ⟨ka, ja, ma⟩ := ha.lkm; replace ha := ha.low
  have ⟨lp, kp, mp⟩ := hp.lkm
  replace hp := hp.low
  have ⟨lq, kq, mq⟩ := hq.lkm
  replace hq := hq.low
  refine enter Tryz.func28 rfl Tryz.ntmps28 rfl (rS fun K1 hK1 => sAb rfl (sK hK1 (wp_seq_k fun K2 hK2 => rS fun K3 hK3 => sAi rfl (sK hK3 (wp_block ?_)))))
  refine lLoop (fun m e w_ => ∃ (i : Nat), m = na - i ∧ e 0 = (.slice Aa na ca) ∧ e 1 = (.slice Ap np cp) ∧ e 2 = (.slice Aq nq cq) ∧ e 7 = (.int .i64 ((i : Int))) ∧ Frm (fun b => False) w w_ ∧ (i ≤ na) ∧ (∀ l ∈ (la.take i).map LE.m, timesM l xp = timesM l xq)) (na - (0)) ?_ ?_
  · refine ⟨(0), rfl, rfl, rfl, rfl, cI, (Frm.refl _ _), ?_, ?_⟩
    · omega
    · intro l hl; simp at hl
  · rintro m4 e12 w5 ⟨i, hm11, hs6, hs7, hs8, hs9, hF10, hi, hal⟩
    obtain ⟨r13, rfl⟩ := sq (e := e12) (t := 0) hs6
    obtain ⟨r14, rfl⟩ := sq (e := r13) (t := 1) hs7
    obtain ⟨r15, rfl⟩ := sq (e := r14) (t := 2) hs8
    obtain ⟨r16, rfl⟩ := sq (e := r15) (t := 7) hs9
    have hz17 := hF10.size
    refine wp_seq_k fun K18 hK18 => rS fun K19 hK19 => sMi rfl (sMs rfl (sV (evLen Tryz.underlying26 rfl) ?_))
    by_cases hc20 : ((i : Int)) < ((na : Int))
    · refine sV (evLss true rfl rfl (dT hc20)) (sK hK19 (cT rfl (wp_skip (xN (hK18 _ _ (wp_seq_k fun K21 hK21 => wp_block (wp_seq_k fun K22 hK22 => dBegin (fun _ => False) mixed (fun w23 hE24 hz25 => dMs 0 rfl rfl (dMi 1 rfl rfl ?_)))))))))
      have hR26 := hF10.trans hE24
      have h27 := (ha.ext hR26)
      obtain ⟨b28, o29, rfl⟩ := h27.base (by omega)
      refine dV 2 rfl (fun _ _ => evIx i Tryz.underlying26 sz28 rfl rfl (o29 + i)) ?_
      obtain ⟨⟨A_30, n_30, c_30, f_30⟩, he_30, hp_30, hP_30, hS_30, hb_30⟩ := h27.at_ (i := i) (by omega)
      replace hp_30 : World.cell? _ _ = some (.slice A_30 n_30 c_30) := hp_30; replace hP_30 : IFacsR _ _ A_30 n_30 c_30 f_30 := hP_30; have ⟨q1_30, q2_30, q3_30⟩ := hP_30.lkm
      refine dV 3 rfl (fun _ hf => evLoad one28 rfl ((hf.cell (p := ⟨_, _, none⟩) hb_30 (fun h => h)).trans hp_30)) (dMs 4 rfl rfl (dMs 6 rfl rfl (dMi 7 rfl rfl (dV 8 rfl (fun _ _ => evIx i Tryz.underlying26 sz28 rfl rfl (o29 + i)) ?_))))
      obtain ⟨⟨A_32, n_32, c_32, f_32⟩, he_32, hp_32, hP_32, hS_32, hb_32⟩ := h27.at_ (i := i) (by omega)
      replace hp_32 : World.cell? _ _ = some (.slice A_32 n_32 c_32) := hp_32; replace hP_32 : IFacsR _ _ A_32 n_32 c_32 f_32 := hP_32; have ⟨q1_32, q2_32, q3_32⟩ := hP_32.lkm
      refine dV 9 rfl (fun _ hf => evLoad one28 rfl ((hf.cell (p := ⟨_, _, none⟩) hb_32 (fun h => h)).trans hp_32)) (dMs 10 rfl rfl ?_)
      have h34 := (hp.ext hR26)
      refine dOp 5 rfl rfl (by kernel_rfl) (oCall rfl call48 (ref11_Times hP_30 h34) rfl ?_)
      rintro _ w36 ⟨xr_35, rfl, hE37, e_35⟩
      refine ⟨(Frm.of_ext hE37), ?_⟩
      have hz38 := hE37.size
      have h39 := (hP_32.ext hE37)
      have hR40 := hR26.trans hE37
      have h41 := (hq.ext hR40)
      refine dOp 11 rfl rfl (by kernel_rfl) (oCall rfl call48 (ref11_Times h39 h41) rfl ?_)
      rintro _ w43 ⟨xr_42, rfl, hE44, e_42⟩
      refine ⟨(Frm.of_ext hE44), ?_⟩
      have hz45 := hE44.size
      by_cases hc46 : xr_35 ≠ xr_42
      · refine dV 12 rfl (fun _ _ => evNeq true rfl rfl (dT hc46)) (dDone (by kernel_rfl) (xN (hK22 _ _ (cT rfl (rS fun K47 hK47 => sAb rfl (sK hK47 (wp_ret (bR (xR (xR (bR (xR (ret1 (.bool false) Tryz.results28 (resT rfl) ?_)))))))))))))
        have hR48 := hR40.trans hE44
        exact ⟨(false), rfl, hR48, (iff_of_false (by decide) (alike_not he_30 he_32 e_35 e_42 (by omega)))⟩
      · refine dV 12 rfl (fun _ _ => evNeq false rfl rfl (dF hc46)) (dDone (by kernel_rfl) (xN (hK22 _ _ (cF rfl (wp_skip (bN (xN (hK21 _ _ (wp_region_lit (sMi rfl (sV (evAdd (((i : Int)) + 1) rfl rfl wI) (sAi rfl (sDone ?_)))))))))))))
        have hR49 := (hE24.trans hE37).trans hE44
        refine again (na - (i + 1)) (by omega) ⟨(i + 1), rfl, rfl, rfl, rfl, cI, (hF10.trans hR49), ?_, ?_⟩
        · omega
        · exact alike_next hal he_30 he_32 e_35 e_42 (by omega)
    · refine sV (evLss false rfl rfl (dF hc20)) (sK hK19 (cF rfl (wp_exit (xE (xE (bE (xN (hK2 _ _ (rS fun K50 hK50 => sAb rfl (sK hK50 (wp_ret (ret1 (.bool true) Tryz.results28 (resT rfl) ?_))))))))))))
      exact ⟨(true), rfl, hF10, (iff_of_true rfl (by rw [List.take_of_length_le (by omega)] at hal; exact hal))⟩
theorem ref11_Compare {w : World} {Sf : Nat → Prop} {Af : Option Addr} {nf cf : Nat} {xf : List Int} {Sg : Nat → Prop} {Ag : Option Addr} {ng cg : Nat} {xg : List Int} (hf : IntsR w Sf Af nf cf xf) (hg : IntsR w Sg Ag ng cg xg) (hNf : nrm xf ≤ 1000000000000000000) (hNg : nrm xg ≤ 1000000000000000000) : Calls Tryz.prog 50 #[(.slice Af nf cf), (.slice Ag ng cg)] w (Ret fun v w' => ∃ (xr : Int), v = (.int .i64 (xr)) ∧ Ext w w' ∧ (xr = cmpP (trimZ xf) (trimZ xg))) := by
  have ⟨lf, kf, mf⟩ := hf.lkm
  replace hf := hf.low
  have ⟨lg, kg, mg⟩ := hg.lkm
  replace hg := hg.low
  refine enter Tryz.func50 rfl Tryz.ntmps50 rfl (rS fun K1 hK1 => sAi rfl (sK hK1 (rS fun K2 hK2 => sMs rfl (sO (oCall rfl call49 (ref11_Trim hf) rfl ?_)))))
  rintro _ w4 ⟨Ar_3, nr_3, cr_3, xr_3, rfl, hE5, hr_3, e_3, le_3⟩
  have hz6 := hE5.size
  have ⟨lr_3, kr_3, mr_3⟩ := hr_3.lkm
  refine sAs rfl (sK hK2 (rS fun K8 hK8 => sMs rfl ?_))
  have h9 := (hg.ext hE5)
  refine sO (oCall rfl call49 (ref11_Trim h9) rfl ?_)
  rintro _ w11 ⟨Ar_10, nr_10, cr_10, xr_10, rfl, hE12, hr_10, e_10, le_10⟩
  have hz13 := hE12.size
  have ⟨lr_10, kr_10, mr_10⟩ := hr_10.lkm
  have hNF : nrm xr_3 ≤ 1000000000000000000 := by rw [e_3, nrm_trim]; exact hNf
  have hNG : nrm xr_10 ≤ 1000000000000000000 := by rw [e_10, nrm_trim]; exact hNg
  refine sAs rfl (sK hK8 (wp_seq_k fun K15 hK15 => rS fun K16 hK16 => sMs rfl (sV (evLen Tryz.underlying39 rfl) (sMs rfl (sV (evLen Tryz.underlying39 rfl) ?_)))))
  by_cases hc17 : ((nr_3 : Int)) ≠ ((nr_10 : Int))
  · refine sV (evNeq true rfl rfl (dT hc17)) (sK hK16 (cT rfl (rS fun K18 hK18 => sMs rfl (sV (evLen Tryz.underlying39 rfl) (sMs rfl (sV (evLen Tryz.underlying39 rfl) (sV (evSub (((nr_3 : Int)) - ((nr_10 : Int))) rfl rfl wI) (sO (oCall rfl call72 (ref11_sign) rfl ?_)))))))))
    rintro _ w20 ⟨xr_19, rfl, hE21, e_19⟩
    have hz22 := hE21.size
    refine sAi rfl (sK hK18 (wp_ret (xR (ret1 (.int .i64 (xr_19)) Tryz.results50 (resT rfl) ?_))))
    have hR23 := (hE5.trans hE12).trans hE21
    exact ⟨(xr_19), rfl, hR23, (by rw [e_19]; rw [← e_3, ← e_10]; exact (cmpP_len (by omega) (by omega) (by omega)).symm)⟩
  · refine sV (evNeq false rfl rfl (dF hc17)) (sK hK16 (cF rfl (wp_skip (xN (hK15 _ _ (wp_seq_k fun K24 hK24 => rS fun K25 hK25 => sMs rfl (sV (evLen Tryz.underlying39 rfl) (sV (evSub (((nr_3 : Int)) - 1) rfl rfl wI) (sAi rfl (sK hK25 (wp_block ?_)))))))))))
    refine lLoop (fun m e w_ => ∃ (k : Nat), m = k ∧ e 0 = (.slice Ar_3 nr_3 cr_3) ∧ e 1 = (.slice Ar_10 nr_10 cr_10) ∧ e 5 = (.int .i64 ((k : Int) - 1)) ∧ Frm (fun b => False) w11 w_ ∧ (k ≤ nr_3) ∧ (cmpP xr_3 xr_10 = cmpTop xr_3 xr_10 k)) ((nr_3)) ?_ ?_
    · refine ⟨(nr_3), rfl, rfl, rfl, cI, (Frm.refl _ _), ?_, ?_⟩
      · omega
      · exact cmpP_eq (by omega) (by omega)
    · rintro m26 e33 w27 ⟨k, hm32, hs28, hs29, hs30, hF31, hk, hX⟩
      obtain ⟨r34, rfl⟩ := sq (e := e33) (t := 0) hs28
      obtain ⟨r35, rfl⟩ := sq (e := r34) (t := 1) hs29
      obtain ⟨r36, rfl⟩ := sq (e := r35) (t := 5) hs30
      have hz37 := hF31.size
      have hb1 := getD_nrm hNF (k - 1); have hb2 := getD_nrm hNG (k - 1)
      refine wp_seq_k fun K38 hK38 => rS fun K39 hK39 => sMi rfl ?_
      by_cases hc40 : ((k : Int) - 1) ≥ 0
      · refine sV (evGeq true rfl rfl (dT hc40)) (sK hK39 (cT rfl (wp_skip (xN (hK38 _ _ (wp_seq_k fun K41 hK41 => wp_block (wp_seq_k fun K42 hK42 => dBegin (fun _ => False) mixed (fun w43 hE44 hz45 => dMs 0 rfl rfl (dMi 1 rfl rfl ?_)))))))))
        have hR46 := (hE12.trans hF31).trans hE44
        have h47 := (hr_3.ext hR46)
        obtain ⟨b48, o49, rfl⟩ := h47.base (by omega)
        refine dV 2 rfl (fun _ _ => evIx (k - 1) Tryz.underlying39 sz3 rfl rfl (o49 + (k - 1))) ?_
        have hr50 := h47.rng (k - 1)
        refine dV 3 rfl (fun _ hf => evLoad one3 rfl ((h47.ext hf).cell (by omega))) (dMs 4 rfl rfl (dMi 5 rfl rfl ?_))
        have hR51 := hF31.trans hE44
        have h52 := (hr_10.ext hR51)
        obtain ⟨b53, o54, rfl⟩ := h52.base (by omega)
        refine dV 6 rfl (fun _ _ => evIx (k - 1) Tryz.underlying39 sz3 rfl rfl (o54 + (k - 1))) ?_
        have hr55 := h52.rng (k - 1)
        refine dV 7 rfl (fun _ hf => evLoad one3 rfl ((h52.ext hf).cell (by omega))) ?_
        by_cases hc56 : (xr_3.getD (k - 1) 0) ≠ (xr_10.getD (k - 1) 0)
        · refine dV 8 rfl (fun _ _ => evNeq true rfl rfl (dT hc56)) (dDone (by kernel_rfl) (xN (hK42 _ _ (cT rfl (wp_seq_k fun K57 hK57 => dBegin (fun _ => False) mixed (fun w58 hE59 hz60 => dMs 0 rfl rfl (dMi 1 rfl rfl (dV 2 rfl (fun _ _ => evIx (k - 1) Tryz.underlying39 sz3 rfl rfl (o49 + (k - 1))) ?_))))))))
          have h61 := (h47.ext hE59)
          have hr62 := h61.rng (k - 1)
          refine dV 3 rfl (fun _ hf => evLoad one3 rfl ((h61.ext hf).cell (by omega))) (dMs 4 rfl rfl (dMi 5 rfl rfl (dV 6 rfl (fun _ _ => evIx (k - 1) Tryz.underlying39 sz3 rfl rfl (o54 + (k - 1))) ?_)))
          have h63 := (h52.ext hE59)
          have hr64 := h63.rng (k - 1)
          refine dV 7 rfl (fun _ hf => evLoad one3 rfl ((h63.ext hf).cell (by omega))) (dV 8 rfl (fun _ _ => evSub (xr_3.getD (k - 1) 0 - xr_10.getD (k - 1) 0) rfl rfl (wI64 ⟨rfl, by omega, by omega⟩)) (dOp 9 rfl rfl (by kernel_rfl) (oCall rfl call72 (ref11_sign) rfl ?_)))
          rintro _ w66 ⟨xr_65, rfl, hE67, e_65⟩
          refine ⟨(Frm.of_ext hE67), ?_⟩
          have hz68 := hE67.size
          refine dAi 10 rfl rfl (dDone (by kernel_rfl) (xN (hK57 _ _ (wp_ret (bR (xR (xR (bR (xR (ret1 (.int .i64 (xr_65)) Tryz.results50 (resT rfl) ?_))))))))))
          have hR69 := ((((hE5.trans hE12).trans hF31).trans hE44).trans hE59).trans hE67
          exact ⟨(xr_65), rfl, hR69, (by rw [e_65, cmpZ_sub]; rw [← e_3, ← e_10]; exact (cmpTop_stop hX (by omega) (by show ¬ List.getD _ _ _ = List.getD _ _ _; omega)).symm)⟩
        · refine dV 8 rfl (fun _ _ => evNeq false rfl rfl (dF hc56)) (dDone (by kernel_rfl) (xN (hK42 _ _ (cF rfl (wp_skip (bN (xN (hK41 _ _ (wp_region_lit (sMi rfl (sV (evSub (((k : Int) - 1) - 1) rfl rfl wI) (sAi rfl (sDone (again ((k - 1)) (by omega) ⟨(k - 1), rfl, rfl, rfl, cI, (hF31.trans hE44), ?_, ?_⟩))))))))))))))
          · omega
          · exact cmpTop_down hX (by omega) (by show List.getD _ _ _ = List.getD _ _ _; omega)
      · refine sV (evGeq false rfl rfl (dF hc40)) (sK hK39 (cF rfl (wp_exit (xE (xE (bE (xN (hK24 _ _ (rS fun K70 hK70 => sAi rfl (sK hK70 (wp_ret (ret1 (.int .i64 (0)) Tryz.results50 (resT rfl) ?_))))))))))))
        have hR71 := (hE5.trans hE12).trans hF31
        exact ⟨(0), rfl, hR71, (by rw [← e_3, ← e_10]; rw [hX, show k = 0 by omega]; rfl)⟩
set_option maxHeartbeats 1000000 in
theorem ref11_insert {w : World} {Sl : Nat → Prop} {Al : Option Addr} {nl cl : Nat} {fl : List IE} {Sp : Nat → Prop} {Ap : Option Addr} {np cp : Nat} {xp : List Int} (hl : IListR w Sl Al nl cl fl) (hp : IntsR w Sp Ap np cp xp) (hins : ∀ x ∈ fl, trimZ x.x = x.x ∧ nrm x.x ≤ 1000000000000000000) (htp : trimZ xp = xp) (hNp : nrm xp ≤ 1000000000000000000) (hnl : nl ≤ 1000) : Calls Tryz.prog 30 #[(.slice Al nl cl), (.slice Ap np cp)] w (Ret fun v w' => ∃ (Ar : Option Addr) (nr : Nat) (cr : Nat) (fr : List IE), v = (.slice Ar nr cr) ∧ Ext w w' ∧ IListR w' (fun _ => True) Ar nr cr fr ∧ (fr.map IE.x = insM (fl.map IE.x) xp) ∧ (nr = nl + 1)) := by
  have ⟨kl, jl, ml⟩ := hl.lkm; replace hl := hl.low
  have ⟨lp, kp, mp⟩ := hp.lkm
  replace hp := hp.low
  refine enter Tryz.func30 rfl Tryz.ntmps30 rfl (rS fun K1 hK1 => sAs rfl (sK hK1 (rS fun K2 hK2 => sAs rfl (sK hK2 (rS fun K3 hK3 => sAb rfl (sK hK3 (wp_seq_k fun K4 hK4 => rS fun K5 hK5 => sAi rfl (sK hK5 (wp_block ?_)))))))))
  refine lLoop (fun m e w_ => ∃ (i : Nat) (dn : Bool) (nO : Nat) (Ao : Option Addr) (cO : Nat) (fo : List IE), m = nl - i ∧ e 0 = (.slice Al nl cl) ∧ e 1 = (.slice Ap np cp) ∧ e 5 = (.slice Ao nO cO) ∧ e 6 = (.bool dn) ∧ e 7 = (.int .i64 ((i : Int))) ∧ Frm (fun b => w.heap.size ≤ b) w w_ ∧ (i ≤ nl) ∧ (OwnG LI w_ w.heap.size 39 Ao nO cO fo) ∧ (InsSt (fl.map IE.x) xp i dn (fo.map IE.x)) ∧ (nO = i + (if dn then 1 else 0))) (nl - (0)) ?_ ?_
  · refine ⟨(0), (false), (0), (none), (0), ([]), rfl, rfl, rfl, rfl, rfl, cI, (Frm.refl _ _), ?_, ?_, ?_, ?_⟩
    · omega
    · exact OwnG.nil
    · exact InsSt.start
    · rfl
  · rintro m6 e15 w7 ⟨i, dn, nO, Ao, cO, fo, hm14, hs8, hs9, hs10, hs11, hs12, hF13, hi, hO, hst, hnO⟩
    obtain ⟨r16, rfl⟩ := sq (e := e15) (t := 0) hs8
    obtain ⟨r17, rfl⟩ := sq (e := r16) (t := 1) hs9
    obtain ⟨r18, rfl⟩ := sq (e := r17) (t := 5) hs10
    obtain ⟨r19, rfl⟩ := sq (e := r18) (t := 6) hs11
    obtain ⟨r20, rfl⟩ := sq (e := r19) (t := 7) hs12
    have hz21 := hF13.size
    have ⟨lO, kO, mO⟩ := hO.lkm; have hnO2 : nO ≤ i + 1 := by rw [hnO]; split <;> omega
    refine wp_seq_k fun K22 hK22 => rS fun K23 hK23 => sMi rfl (sMs rfl (sV (evLen Tryz.underlying34 rfl) ?_))
    by_cases hc24 : ((i : Int)) < ((nl : Int))
    · refine sV (evLss true rfl rfl (dT hc24)) (sK hK23 (cT rfl (wp_skip (xN (hK22 _ _ (wp_seq_k fun K25 hK25 => wp_block (wp_seq_k fun K26 hK26 => rS fun K27 hK27 => sMb rfl (sV (evNot _ rfl rfl) (sMb rfl ?_)))))))))
      cases dn
      · refine sEv (v := (.slice Ap np cp)) (rfl) rfl rfl (sEv (v := (.slice Al nl cl)) (rfl) rfl rfl (sEv (v := (.int .i64 ((i : Int)))) (rfl) rfl rfl ?_))
        have h28 := (hl.frmB hF13 q3)
        obtain ⟨b29, o30, rfl⟩ := h28.base (by omega)
        refine sEv (v := (.pointer (some ⟨b29, o30 + i, none⟩))) (evIx i Tryz.underlying34 sz39 rfl rfl (o30 + i)) rfl rfl ?_
        obtain ⟨⟨A_31, n_31, c_31, x_31, k_31⟩, he_31, hp_31, hP_31, hS_31, hb_31⟩ := h28.at_ (i := i) (by omega)
        dsimp only at hp_31 hP_31; have ⟨q1_31, q2_31, q3_31⟩ := hP_31.lkm
        have hlx_31 := hins _ (List.mem_of_getElem? he_31); dsimp only at hlx_31
        refine sEv (v := (.slice A_31 n_31 c_31)) (evLoad one39 rfl hp_31) rfl rfl ?_
        have h33 := (hp.frmB hF13 q3)
        refine sOp rfl (oCall rfl call50 (ref11_Compare h33 hP_31 hNp hlx_31.2) rfl ?_)
        rintro _ w35 ⟨xr_34, rfl, hE36, e_34⟩
        have hz37 := hE36.size
        by_cases hc38 : xr_34 < 0
        · refine sEv (v := (.bool true)) (evLss true rfl rfl (dT hc38)) rfl rfl (sV (v := (.bool true)) (rfl) (sK hK27 (cT rfl (rS fun K39 hK39 => sMs rfl (sMs rfl (sO (oBuildSlice [(.slice Ap np cp)] [[(.slice Ap np cp)]] Tryz.underlying34 inf39 rfl rfl rfl rfl rfl (fun g40 w41 hg42 hE43 hz44 hB45 => ?_))))))))
          replace hB45 : Blk w41 g40 39 [(.slice Ap np cp)] := hB45
          have hR46 := hE36.trans hE43
          have hO47 := (hO.ext hR46)
          have h48 := (h33.ext hR46)
          refine sO (oAppG (L := LI) (f := ⟨Ap, np, cp, xp, 0⟩) (B := w.heap.size) Tryz.underlying34 inf39 rfl rfl rfl hO47 hB45 h48 (fun b hb_ hs a ha e => by have h9 := hO47.1.lt a ha; (try dsimp only at hs); omega) (by omega) (by omega) (by omega) (fun A49 c50 w51 hO52 hF53 _ hn54 => ?_))
          have hz55 := hF53.size; have ⟨_, _, _⟩ := hO52.lkm
          refine sAs rfl (sK hK39 (wp_region_lit (sAb rfl (sK hK26 (wp_region_lit (sMs rfl (sMs rfl (sMi rfl (sV (evIx i Tryz.underlying34 sz39 rfl rfl (o30 + i)) ?_)))))))))
          have hR56 := hR46.rx hF53
          have h57 := (h28.frmB hR56 q3)
          obtain ⟨⟨A_58, n_58, c_58, x_58, k_58⟩, he_58, hp_58, hP_58, hS_58, hb_58⟩ := h57.at_ (i := i) (by omega)
          dsimp only at hp_58 hP_58; have ⟨q1_58, q2_58, q3_58⟩ := hP_58.lkm
          have hlx_58 := hins _ (List.mem_of_getElem? he_58); dsimp only at hlx_58
          refine sV (evLoad one39 rfl hp_58) (sO (oBuildSlice [(.slice A_58 n_58 c_58)] [[(.slice A_58 n_58 c_58)]] Tryz.underlying34 inf39 rfl rfl rfl rfl rfl (fun g60 w61 hg62 hE63 hz64 hB65 => ?_)))
          replace hB65 : Blk w61 g60 39 [(.slice A_58 n_58 c_58)] := hB65
          have hO66 := (hO52.ext hE63)
          have h67 := (hP_58.ext hE63)
          refine sO (oAppG (L := LI) (f := ⟨A_58, n_58, c_58, x_58, 0⟩) (B := w.heap.size) Tryz.underlying34 inf39 rfl rfl rfl hO66 hB65 h67 (fun b hb_ hs a ha e => by have h9 := hO66.1.lt a ha; (try dsimp only at hs); omega) (by omega) (by omega) (by omega) (fun A68 c69 w70 hO71 hF72 _ hn73 => ?_))
          have hz74 := hF72.size; have ⟨_, _, _⟩ := hO71.lkm
          refine sAs rfl (sDone (bN (xN (hK25 _ _ (wp_region_lit (sMi rfl (sV (evAdd (((i : Int)) + 1) rfl rfl wI) (sAi rfl (sDone ?_)))))))))
          have hR75 := (hR56.xr hE63).trans hF72
          refine again (nl - (i + 1)) (by omega) ⟨(i + 1), (true), ((nO + 1) + 1), (A68), (c69), (fo ++ [⟨Ap, np, cp, xp, 0⟩] ++ [⟨A_58, n_58, c_58, x_58, 0⟩]), rfl, rfl, rfl, rfl, rfl, cI, (hF13.trans hR75), ?_, ?_, ?_, ?_⟩
          · omega
          · exact hO71
          · have hxx : x_31 = x_58 := congrArg IE.x (Option.some.inj (he_31.symm.trans he_58)); have hcm := hc38; rw [e_34, htp, hlx_31.1, hxx] at hcm; rw [List.map_append, List.map_append]; exact hst.here (show (fl.map IE.x)[i]? = some x_58 by rw [List.getElem?_map, he_58]; rfl) hcm
          · simp at hnO ⊢; omega
        · refine sEv (v := (.bool false)) (evLss false rfl rfl (dF hc38)) rfl rfl (sV (v := (.bool false)) (rfl) (sK hK27 (cF rfl (wp_skip (xN (hK26 _ _ (wp_region_lit (sMs rfl (sMs rfl (sMi rfl (sV (evIx i Tryz.underlying34 sz39 rfl rfl (o30 + i)) ?_)))))))))))
          have h76 := (h28.ext hE36)
          obtain ⟨⟨A_77, n_77, c_77, x_77, k_77⟩, he_77, hp_77, hP_77, hS_77, hb_77⟩ := h76.at_ (i := i) (by omega)
          dsimp only at hp_77 hP_77; have ⟨q1_77, q2_77, q3_77⟩ := hP_77.lkm
          have hlx_77 := hins _ (List.mem_of_getElem? he_77); dsimp only at hlx_77
          refine sV (evLoad one39 rfl hp_77) (sO (oBuildSlice [(.slice A_77 n_77 c_77)] [[(.slice A_77 n_77 c_77)]] Tryz.underlying34 inf39 rfl rfl rfl rfl rfl (fun g79 w80 hg81 hE82 hz83 hB84 => ?_)))
          replace hB84 : Blk w80 g79 39 [(.slice A_77 n_77 c_77)] := hB84
          have hR85 := hE36.trans hE82
          have hO86 := (hO.ext hR85)
          have h87 := (hP_77.ext hE82)
          refine sO (oAppG (L := LI) (f := ⟨A_77, n_77, c_77, x_77, 0⟩) (B := w.heap.size) Tryz.underlying34 inf39 rfl rfl rfl hO86 hB84 h87 (fun b hb_ hs a ha e => by have h9 := hO86.1.lt a ha; (try dsimp only at hs); omega) (by omega) (by omega) (by omega) (fun A88 c89 w90 hO91 hF92 _ hn93 => ?_))
          have hz94 := hF92.size; have ⟨_, _, _⟩ := hO91.lkm
          refine sAs rfl (sDone (bN (xN (hK25 _ _ (wp_region_lit (sMi rfl (sV (evAdd (((i : Int)) + 1) rfl rfl wI) (sAi rfl (sDone ?_)))))))))
          have hR95 := hR85.rx hF92
          refine again (nl - (i + 1)) (by omega) ⟨(i + 1), (false), (nO + 1), (A88), (c89), (fo ++ [⟨A_77, n_77, c_77, x_77, 0⟩]), rfl, rfl, rfl, rfl, rfl, cI, (hF13.trans hR95), ?_, ?_, ?_, ?_⟩
          · omega
          · exact hO91
          · have hxx : x_31 = x_77 := congrArg IE.x (Option.some.inj (he_31.symm.trans he_77)); have hcm := hc38; rw [e_34, htp, hlx_31.1, hxx] at hcm; rw [List.map_append]; exact hst.past (show (fl.map IE.x)[i]? = some x_77 by rw [List.getElem?_map, he_77]; rfl) hcm
          · simp at hnO ⊢; omega
      · refine sSkip rfl rfl (sSkip rfl rfl (sSkip rfl rfl (sSkip rfl rfl (sSkip rfl rfl (sSkip rfl rfl (sSkip rfl rfl (sV (v := (.bool false)) (rfl) (sK hK27 (cF rfl (wp_skip (xN (hK26 _ _ (wp_region_lit (sMs rfl (sMs rfl (sMi rfl ?_))))))))))))))))
        have h96 := (hl.frmB hF13 q3)
        obtain ⟨b97, o98, rfl⟩ := h96.base (by omega)
        refine sV (evIx i Tryz.underlying34 sz39 rfl rfl (o98 + i)) ?_
        obtain ⟨⟨A_99, n_99, c_99, x_99, k_99⟩, he_99, hp_99, hP_99, hS_99, hb_99⟩ := h96.at_ (i := i) (by omega)
        dsimp only at hp_99 hP_99; have ⟨q1_99, q2_99, q3_99⟩ := hP_99.lkm
        have hlx_99 := hins _ (List.mem_of_getElem? he_99); dsimp only at hlx_99
        refine sV (evLoad one39 rfl hp_99) (sO (oBuildSlice [(.slice A_99 n_99 c_99)] [[(.slice A_99 n_99 c_99)]] Tryz.underlying34 inf39 rfl rfl rfl rfl rfl (fun g101 w102 hg103 hE104 hz105 hB106 => ?_)))
        replace hB106 : Blk w102 g101 39 [(.slice A_99 n_99 c_99)] := hB106
        have hO107 := (hO.ext hE104)
        have h108 := (hP_99.ext hE104)
        refine sO (oAppG (L := LI) (f := ⟨A_99, n_99, c_99, x_99, 0⟩) (B := w.heap.size) Tryz.underlying34 inf39 rfl rfl rfl hO107 hB106 h108 (fun b hb_ hs a ha e => by have h9 := hO107.1.lt a ha; (try dsimp only at hs); omega) (by omega) (by omega) (by omega) (fun A109 c110 w111 hO112 hF113 _ hn114 => ?_))
        have hz115 := hF113.size; have ⟨_, _, _⟩ := hO112.lkm
        refine sAs rfl (sDone (bN (xN (hK25 _ _ (wp_region_lit (sMi rfl (sV (evAdd (((i : Int)) + 1) rfl rfl wI) (sAi rfl (sDone ?_)))))))))
        have hR116 := hE104.rx hF113
        refine again (nl - (i + 1)) (by omega) ⟨(i + 1), (true), (nO + 1), (A109), (c110), (fo ++ [⟨A_99, n_99, c_99, x_99, 0⟩]), rfl, rfl, rfl, rfl, rfl, cI, (hF13.trans hR116), ?_, ?_, ?_, ?_⟩
        · omega
        · exact hO112
        · rw [List.map_append]; exact hst.rest (show (fl.map IE.x)[i]? = some x_99 by rw [List.getElem?_map, he_99]; rfl)
        · simp at hnO ⊢; omega
    · refine sV (evLss false rfl rfl (dF hc24)) (sK hK23 (cF rfl (wp_exit (xE (xE (bE (xN (hK4 _ _ (wp_seq_k fun K117 hK117 => rS fun K118 hK118 => sMb rfl (sV (evNot _ rfl rfl) (sK hK118 ?_)))))))))))
      cases dn
      · refine cT rfl (wp_region_lit (sMs rfl (sMs rfl (sO (oBuildSlice [(.slice Ap np cp)] [[(.slice Ap np cp)]] Tryz.underlying34 inf39 rfl rfl rfl rfl rfl (fun g119 w120 hg121 hE122 hz123 hB124 => ?_))))))
        replace hB124 : Blk w120 g119 39 [(.slice Ap np cp)] := hB124
        have hO125 := (hO.ext hE122)
        have hR126 := hF13.xr hE122
        have h127 := (hp.frmB hR126 q3)
        refine sO (oAppG (L := LI) (f := ⟨Ap, np, cp, xp, 0⟩) (B := w.heap.size) Tryz.underlying34 inf39 rfl rfl rfl hO125 hB124 h127 (fun b hb_ hs a ha e => by have h9 := hO125.1.lt a ha; (try dsimp only at hs); omega) (by omega) (by omega) (by omega) (fun A128 c129 w130 hO131 hF132 _ hn133 => ?_))
        have hz134 := hF132.size; have ⟨_, _, _⟩ := hO131.lkm
        refine sAs rfl (sK hK117 (rS fun K135 hK135 => sMs rfl (sAs rfl (sK hK135 (wp_ret (ret1 (.slice A128 (nO + 1) c129) Tryz.results30 (resT rfl) ?_))))))
        have hR136 := hR126.trans hF132
        exact ⟨A128, (nO + 1), c129, (fo ++ [⟨Ap, np, cp, xp, 0⟩]), rfl, (Frm.mono hR136 q4), (IListR.sub (GListR.ilist (OwnG.list hO131)) fun _ _ _ => trivial), (by rw [List.map_append]; exact hst.endF (by rw [List.length_map]; omega)), (by simp at hnO; omega)⟩
      · refine cF rfl (wp_skip (xN (hK117 _ _ (rS fun K137 hK137 => sMs rfl (sAs rfl (sK hK137 (wp_ret (ret1 (.slice Ao nO cO) Tryz.results30 (resT rfl) ?_))))))))
        exact ⟨Ao, nO, cO, fo, rfl, (Frm.mono hF13 q4), (IListR.sub (GListR.ilist (OwnG.list hO)) fun _ _ _ => trivial), (hst.endT (by rw [List.length_map]; omega)), (by simp at hnO; omega)⟩
end Go.Proofs.YtbniolgfaeiedaaGreat
