/-
  Walks of package unidiv: quotients by a number, primitive parts, powers.
-/
import Derived.Test.YtbniolgfaeiedaaGreatSq1
namespace Go.Proofs.YtbniolgfaeiedaaGreat
open Go.RowKit Go.Gx
set_option maxHeartbeats 1000000 in
theorem unidiv_over {w : World} {Sf : Nat → Prop} {Af : Option Addr} {nf cf Mf : Nat} {lf : List RI} {gc : Bool} {Sc : Nat → Prop} {Ac : Option Addr} {nc cc : Nat} {dc : List Nat} (hf : PolyR w Sf Af nf cf lf Mf) (hc : NatR w Sc Ac nc cc dc) (hnf : nf ≤ 1024) (hMf : Mf ≤ 67108864) (hnc : nc ≤ 67108864) (hc0 : zval gc dc ≠ 0) : Calls Tryz.prog 59 #[(.slice Af nf cf), (.agg #[(.bool gc), (.slice Ac nc cc)])] w (Ret fun v w' => ∃ (Ar : Option Addr) (nr : Nat) (cr : Nat) (lr : List RI), v = (.slice Ar nr cr) ∧ Ext w w' ∧ PolyR w' (fun b => w.heap.size ≤ b) Ar nr cr lr (Mf + 1) ∧ (zs lr = (trimZ (zs lf)).map (fun x => x.tdiv (zval gc dc))) ∧ (nr ≤ nf) ∧ (AllC lr)) := by
  have ⟨kf, jf, mf⟩ := hf.lkm
  replace hf := hf.low
  have ⟨lc, kc, mc⟩ := hc.lkm
  replace hc := hc.low
  refine enter Tryz.func59 rfl Tryz.ntmps59 rfl (rS fun K1 hK1 => sO (oBox [(.bool gc), (.slice Ac nc cc)] rfl rfl (fun g2 w3 hg4 hE5 hz6 hB7 => sAs rfl (sK hK1 (rS fun K8 hK8 => sMs rfl ?_)))))
  have h9 := (hf.ext hE5)
  refine sO (oCall rfl call69 (unipoly_Normal h9 (by omega) (by omega)) rfl ?_)
  rintro _ w11 ⟨qr_10, nr_10, lr_10, rfl, hE12, hgr_10, Br_10, hAr_10, kr_10, mr_10, e_10, ln_10, cn_10⟩
  have hz13 := hE12.size
  have hhr_10 : w3.heap.size ≤ qr_10 := hgr_10; have ltr_10 := Br_10.lt
  refine sAs rfl (sK hK8 (wp_seq_k fun K15 hK15 => rS fun K16 hK16 => sMs rfl (sV (evLen Tryz.underlying32 rfl) (sMi rfl (sK hK16 (wp_block ?_))))))
  refine lLoop (fun m e w_ => ∃ (k : Nat) (L : List RI), m = nr_10 - k ∧ e 3 = (.pointer (some ⟨g2, 0, none⟩)) ∧ e 5 = (.slice (some ⟨qr_10, 0, none⟩) nr_10 nr_10) ∧ e 10 = (.int .i64 ((nr_10 : Int))) ∧ e 11 = (.int .i64 ((k : Int))) ∧ Frm (fun b => b = qr_10) w11 w_ ∧ Blk w_ qr_10 68 (cellsI L) ∧ (k ≤ nr_10) ∧ (L.length = nr_10) ∧ (AllN w_ (fun b => qr_10 < b) (Mf + 1) L) ∧ (∀ j r, k ≤ j → L[j]? = some r → r.n ≤ Mf) ∧ (∀ j, co (zs L) j = if j < k then (co (zs lr_10) j).tdiv (zval gc dc) else co (zs lr_10) j) ∧ (AllC L)) (nr_10 - (0)) ?_ ?_
  · refine ⟨(0), (lr_10), rfl, rfl, rfl, rfl, cI, (Frm.refl _ _), ?_, ?_, ?_, ?_, ?_, ?_, ?_⟩
    · exact Br_10
    · omega
    · omega
    · exact AllN.le hAr_10 (by omega)
    · exact small_all hAr_10
    · intro j; rw [if_neg (by omega)]
    · exact cn_10
  · rintro m17 e26 w18 ⟨k, L, hm25, hs19, hs20, hs21, hs22, hF23, hB24, hk, hL, hA, hD, hz, hC⟩
    obtain ⟨r27, rfl⟩ := sq (e := e26) (t := 3) hs19
    obtain ⟨r28, rfl⟩ := sq (e := r27) (t := 5) hs20
    obtain ⟨r29, rfl⟩ := sq (e := r28) (t := 10) hs21
    obtain ⟨r30, rfl⟩ := sq (e := r29) (t := 11) hs22
    have hz31 := hF23.size
    refine rS fun K32 hK32 => ?_
    by_cases hc33 : ((k : Int)) < ((nr_10 : Int))
    · refine sV (evLss true rfl rfl (dT hc33)) (sK hK32 (wp_seq_k fun K34 hK34 => cT rfl (wp_skip (xN (hK34 _ _ (wp_seq_k fun K35 hK35 => wp_block (rS fun K36 hK36 => sMi rfl (sAi rfl (sK hK36 (dBegin (fun b => b = qr_10) mixed (fun w37 hE38 hz39 => dMs 0 rfl rfl (dMi 1 rfl rfl (dMs 2 rfl rfl (dMi 3 rfl rfl (dV 4 rfl (fun _ _ => evIx k Tryz.underlying32 sz68 rfl rfl (k * 2)) ?_)))))))))))))))
      have hR40 := (hE12.rx hF23).xr hE38
      have hB41 := (hB7.frm hR40 q1)
      refine dV 6 rfl (fun _ hf => evLoadAB [(.bool gc), (.slice Ac nc cc)] agg68 sz68 rfl (hB41.frm hf q1) rfl) ?_
      have hB42 := (hB24.ext hE38)
      have h44 := (hA.ext hE38)
      obtain ⟨g_43, A_43, n_43, c_43, d_43, he_43, hp_43, hq_43, z_43⟩ := hB42.int (i := k) (by exact lq)
      have hx_43 := h44 _ (List.mem_of_getElem? he_43)
      dsimp only at hx_43
      have h_43 := hx_43.1; have hM_43 := hx_43.2
      have ⟨l_43, k_43, m_43⟩ := h_43.lkm
      refine dOp 5 rfl rfl (by kernel_rfl) (oEv (v := (.agg #[(.bool g_43), (.slice A_43 n_43 c_43)])) (evLoadA [(.bool g_43), (.slice A_43 n_43 c_43)] agg68 sz68 rfl (cell2 hp_43 hq_43)) rfl ⟨Frm.refl _ _, ?_⟩)
      have hnn := hD k _ (Nat.le_refl _) he_43; dsimp only at hnn
      have hR46 := ((hE5.trans hE12).rx hF23).xr hE38
      have h47 := (hc.frmB hR46 q3)
      refine dOp 7 rfl rfl (by kernel_rfl) (oCall rfl call88 (division_Quo h_43 h47 (by omega) (by omega) (by omega)) rfl ?_)
      rintro _ w49 ⟨gq_48, Aq_48, nq_48, cq_48, dq_48, gr_48, Ar_48, nr_48, cr_48, dr_48, xe_48, rfl, hE50, hq_48, hr_48, v_48, m_48, cnq_48, cnr_48, ok_48, leq_48, ler_48⟩
      refine ⟨(Frm.of_ext hE50), ?_⟩
      have hz51 := hE50.size
      have ⟨lq_48, kq_48, mq_48⟩ := hq_48.lkm
      have ⟨lr_48, kr_48, mr_48⟩ := hr_48.lkm
      refine dV 8 rfl (v := (.tuple #[(.agg #[(.bool gq_48), (.slice Aq_48 nq_48 cq_48)]), (.agg #[(.bool gr_48), (.slice Ar_48 nr_48 cr_48)]), (.int .i64 (xe_48))])) (fun _ _ => rfl) (dV 9 rfl (v := (.agg #[(.bool gq_48), (.slice Aq_48 nq_48 cq_48)])) (fun _ _ => rfl) (dV 10 rfl (v := (.agg #[(.bool gr_48), (.slice Ar_48 nr_48 cr_48)])) (fun _ _ => rfl) (dV 11 rfl (v := (.int .i64 (xe_48))) (fun _ _ => rfl) (dV 12 rfl (fun _ _ => evIx k Tryz.underlying32 sz68 rfl rfl (k * 2)) ?_))))
      have hB54 := (hB42.ext hE50)
      refine dOp 13 rfl rfl (by kernel_rfl) (oStore [(.bool gq_48), (.slice Aq_48 nq_48 cq_48)] rfl rfl rfl sz68 rfl hB54 (by rw [cellsI_len]; simp only [List.length_cons, List.length_nil]; exact lq) (fun w55 hU56 hz57 hB58 => ?_))
      replace hB58 := (cellsI_set (l := L) (i := k) ⟨gq_48, Aq_48, nq_48, cq_48, dq_48⟩ (by exact lq)) ▸ hB58
      refine ⟨hU56, dDone (by kernel_rfl) (bN (xN (hK35 _ _ (wp_region_lit (sV (evAdd (((k : Int)) + 1) rfl rfl wI) (sMi rfl (sDone ?_)))))))⟩
      have hR59 := (hE38.trans hE50).rx hU56
      have hR60 := hE50.rx hU56
      have h61 := (h44.frmB hR60 q3)
      have h62 := (hq_48.frmB hU56 q3)
      refine again (nr_10 - (k + 1)) (by omega) ⟨(k + 1), ((L).set k ⟨gq_48, Aq_48, nq_48, cq_48, dq_48⟩), rfl, rfl, rfl, rfl, cI, (hF23.trans hR59), ?_, ?_, ?_, ?_, ?_, ?_, ?_⟩
      · exact hB58
      · omega
      · rw [List.length_set]; exact hL
      · exact AllN.set h61 (NatR.sub h62 q5) (by (try dsimp only); omega)
      · exact small_set hD
      · rw [zs_set]; exact ov_step hz (by rw [zlen]; omega) (by show zval _ _ = _; rw [v_48, z_43])
      · exact AllC.set hC cnq_48
    · refine sV (evLss false rfl rfl (dF hc33)) (sK hK32 (wp_seq_k fun K63 hK63 => cF rfl (wp_exit (xE (xE (bE (xN (hK15 _ _ (rS fun K64 hK64 => sMs rfl (sAs rfl (sK hK64 (wp_ret (ret1 (.slice (some ⟨qr_10, 0, none⟩) nr_10 nr_10) Tryz.results59 (resT rfl) ?_)))))))))))))
      have h65 : PolyR w18 (fun b => qr_10 ≤ b) (some ⟨qr_10, 0, none⟩) nr_10 nr_10 (L) (Mf + 1) := PolyR.of_blk hB24 (AllN.sub hA q5) (by (try dsimp only); omega) (by exact lq) (by omega) (by unfold CapMax; omega)
      have hR66 := (hE5.trans hE12).rx hF23
      exact ⟨(some ⟨qr_10, 0, none⟩), nr_10, nr_10, L, rfl, (Frm.mono hR66 q4), (PolyR.le (PolyR.sub h65 q5) (by omega)), (by rw [← e_10]; exact ov_fin hz (by rw [zlen, zlen]; omega) (by rw [zlen]; omega)), (by omega), hC⟩
theorem unidiv_Primitive {w : World} {Sf : Nat → Prop} {Af : Option Addr} {nf cf Mf : Nat} {lf : List RI} (hf : PolyR w Sf Af nf cf lf Mf) (hnf : nf ≤ 64) (hMf : Mf ≤ 65536) : Calls Tryz.prog 35 #[(.slice Af nf cf)] w (Ret fun v w' => ∃ (Ar : Option Addr) (nr : Nat) (cr : Nat) (lr : List RI), v = (.slice Ar nr cr) ∧ Ext w w' ∧ PolyR w' (fun b => w.heap.size ≤ b) Ar nr cr lr (Mf + 1) ∧ (zs lr = primP (zs lf)) ∧ (nr ≤ nf) ∧ (AllC lr)) := by
  have ⟨kf, jf, mf⟩ := hf.lkm
  replace hf := hf.low
  refine enter Tryz.func35 rfl Tryz.ntmps35 rfl (rS fun K1 hK1 => sAs rfl (sK hK1 (rS fun K2 hK2 => sMs rfl (sO (oCall rfl call51 (unidiv_Content hf (by omega) (by omega)) rfl ?_)))))
  rintro _ w4 ⟨gr_3, Ar_3, nr_3, cr_3, dr_3, rfl, hE5, hr_3, v_3, cn_3, le_3⟩
  have hz6 := hE5.size
  have ⟨lr_3, kr_3, mr_3⟩ := hr_3.lkm
  have h8 := hr_3.sub (S' := fun b => (w.heap.size ≤ b) ∧ b < w4.heap.size) fun _ hb hs => ⟨hs, hb⟩
  refine sO (oAlloc [(.bool false), (.slice none 0 0)] zero68 rfl (fun g9 w10 hg11 hE12 hz13 hB14 => sO (oStore [(.bool gr_3), (.slice Ar_3 nr_3 cr_3)] rfl rfl rfl sz68 rfl hB14 (Nat.le_of_ble_eq_true rfl) (fun w15 hU16 hz17 hB18 => ?_))))
  replace hB18 : Blk w15 g9 68 [(.bool gr_3), (.slice Ar_3 nr_3 cr_3)] := hB18
  refine sK hK2 (wp_seq_k fun K19 hK19 => rS fun K20 hK20 => sMs rfl ?_)
  have hR21 := (hE5.trans hE12).rx hU16
  have h22 := (hf.frmB hR21 q3)
  refine sO (oCall rfl call53 (unipoly_Lead h22 (by omega) (by omega)) rfl ?_)
  rintro _ w24 ⟨gr_23, Ar_23, nr_23, cr_23, dr_23, rfl, hE25, hr_23, v_23, cn_23, le_23⟩
  have hz26 := hE25.size
  have ⟨lr_23, kr_23, mr_23⟩ := hr_23.lkm
  refine sO (oCall rfl call52 (integer_Sign hr_23) rfl ?_)
  rintro _ w29 ⟨xr_28, rfl, hE30, e_28⟩
  have hz31 := hE30.size
  have hsg := sign_cases (zval gr_23 dr_23); have hld : zval gr_23 dr_23 = ldP (zs lf) := v_23
  refine sK hK20 (wp_block (rS fun K32 hK32 => ?_))
  by_cases hc33 : xr_28 = 0
  · refine sV (evEql true rfl rfl (dT hc33)) (sAb rfl (sK hK32 (cT rfl (rS fun K34 hK34 => sAs rfl (sK hK34 (wp_ret (bR (xR (ret1 (.slice none 0 0) Tryz.results35 (resT rfl) ?_)))))))))
    have hR35 := (hR21.xr hE25).xr hE30
    exact ⟨none, 0, 0, [], rfl, (Frm.mono hR35 q4), PolyR.nil, (primP_zero (by rw [← hld]; have he := e_28; rcases hsg with h | h | h <;> omega)), (by omega), AllC.nil⟩
  · refine sV (evEql false rfl rfl (dF hc33)) ?_
    have hln : ldP (zs lf) ≠ 0 := by intro hh; rw [hld, hh] at hsg; have he := e_28; rw [hld, hh] at he; exact hc33 he
    have hcp := cont_pos hln; have hc0 : zval gr_3 dr_3 ≠ 0 := by rw [v_3]; omega
    refine sAb rfl (sK hK32 (cF rfl (rS fun K36 hK36 => ?_)))
    by_cases hc37 : xr_28 = ((-1))
    · refine sV (evEql true rfl rfl (dT hc37)) (sAb rfl (sK hK36 (cT rfl (wp_region_lit ?_))))
      have hR38 := hE25.trans hE30
      have hB39 := (hB18.ext hR38)
      refine sV (evLoadAB [(.bool gr_3), (.slice Ar_3 nr_3 cr_3)] agg68 sz68 rfl hB39 rfl) ?_
      have hR40 := ((hE12.rx hU16).xr hE25).xr hE30
      have h41 := (h8.frmB hR40 q3)
      refine sO (oCall rfl call54 (integer_Neg h41 (by omega)) rfl ?_)
      rintro _ w43 ⟨gr_42, Ar_42, nr_42, cr_42, dr_42, rfl, hE44, hr_42, v_42, cn_42, le_42⟩
      have hz45 := hE44.size
      have ⟨lr_42, kr_42, mr_42⟩ := hr_42.lkm
      have hc1 : zval gr_42 dr_42 ≠ 0 := by rw [v_42]; omega
      have hB47 := (hB39.ext hE44)
      refine sO (oStore [(.bool gr_42), (.slice Ar_42 nr_42 cr_42)] rfl rfl rfl sz68 rfl hB47 (Nat.le_of_ble_eq_true rfl) (fun w48 hU49 hz50 hB51 => ?_))
      replace hB51 : Blk w48 g9 68 [(.bool gr_42), (.slice Ar_42 nr_42 cr_42)] := hB51
      refine sDone (bN (xN (hK19 _ _ (rS fun K52 hK52 => sMs rfl (sV (evLoadAB [(.bool gr_42), (.slice Ar_42 nr_42 cr_42)] agg68 sz68 rfl hB51 rfl) ?_)))))
      have hR53 := (hR38.trans hE44).rx hU49
      have h54 := (h22.frmB hR53 q3)
      have h55 := (hr_42.frmB hU49 q3)
      refine sO (oCall rfl call59 (unidiv_over h54 h55 (by omega) (by omega) (by omega) (by omega)) rfl ?_)
      rintro _ w57 ⟨Ar_56, nr_56, cr_56, lr_56, rfl, hE58, hr_56, e_56, ln_56, cn_56⟩
      have hz59 := hE58.size
      have ⟨kr_56, jr_56, mr_56⟩ := hr_56.lkm
      refine sAs rfl (sK hK52 (wp_ret (ret1 (.slice Ar_56 nr_56 cr_56) Tryz.results35 (resT rfl) ?_)))
      have hpc : zval gr_42 dr_42 = primC (zs lf) := by unfold primC; rw [if_pos (by have he := e_28; rw [hld] at hsg he; rcases hsg with h | h | h <;> omega)]; rw [v_42, v_3]
      have hR61 := ((((hR21.xr hE25).xr hE30).xr hE44).trans hU49).xr hE58
      exact ⟨Ar_56, nr_56, cr_56, lr_56, rfl, (Frm.mono hR61 q4), (PolyR.le (PolyR.sub hr_56 q5) (by omega)), (by rw [e_56, hpc]; rfl), (by omega), cn_56⟩
    · refine sV (evEql false rfl rfl (dF hc37)) (sAb rfl (sK hK36 (cF rfl (wp_skip (bN (xN (hK19 _ _ (rS fun K62 hK62 => sMs rfl ?_))))))))
      have hR63 := hE25.trans hE30
      have hB64 := (hB18.ext hR63)
      refine sV (evLoadAB [(.bool gr_3), (.slice Ar_3 nr_3 cr_3)] agg68 sz68 rfl hB64 rfl) ?_
      have h65 := (h22.ext hR63)
      have hR66 := ((hE12.rx hU16).xr hE25).xr hE30
      have h67 := (h8.frmB hR66 q3)
      refine sO (oCall rfl call59 (unidiv_over h65 h67 (by omega) (by omega) (by omega) (by omega)) rfl ?_)
      rintro _ w69 ⟨Ar_68, nr_68, cr_68, lr_68, rfl, hE70, hr_68, e_68, ln_68, cn_68⟩
      have hz71 := hE70.size
      have ⟨kr_68, jr_68, mr_68⟩ := hr_68.lkm
      refine sAs rfl (sK hK62 (wp_ret (ret1 (.slice Ar_68 nr_68 cr_68) Tryz.results35 (resT rfl) ?_)))
      have hpc : zval gr_3 dr_3 = primC (zs lf) := by unfold primC; rw [if_neg (by have he := e_28; rw [hld] at hsg he; rcases hsg with h | h | h <;> omega)]; exact v_3
      have hR73 := ((hR21.xr hE25).xr hE30).xr hE70
      exact ⟨Ar_68, nr_68, cr_68, lr_68, rfl, (Frm.mono hR73 q4), (PolyR.le (PolyR.sub hr_68 q5) (by omega)), (by rw [e_68, hpc]; rfl), (by omega), cn_68⟩
theorem unidiv_power {w : World} {ga : Bool} {Sa : Nat → Prop} {Aa : Option Addr} {na ca : Nat} {da : List Nat} {xn : Nat} (ha : NatR w Sa Aa na ca da) (bn : xn ≤ 9223372036854775807) (hna : na ≤ 65536) (hxn : xn ≤ 127) : Calls Tryz.prog 96 #[(.agg #[(.bool ga), (.slice Aa na ca)]), (.int .i64 ((xn : Int)))] w (Ret fun v w' => ∃ (gr : Bool) (Ar : Option Addr) (nr : Nat) (cr : Nat) (dr : List Nat), v = (.agg #[(.bool gr), (.slice Ar nr cr)]) ∧ Ext w w' ∧ NatR w' (fun b => w.heap.size ≤ b) Ar nr cr dr ∧ (zval gr dr = zval ga da ^ xn) ∧ (ICan gr dr) ∧ (nr ≤ 33554432)) := by
  have ⟨la, ka, ma⟩ := ha.lkm
  replace ha := ha.low
  refine enter Tryz.func96 rfl Tryz.ntmps96 rfl (rS fun K1 hK1 => sO (oBox [(.bool ga), (.slice Aa na ca)] rfl rfl (fun g2 w3 hg4 hE5 hz6 hB7 => sO (oAlloc [(.bool false), (.slice none 0 0)] zero68 rfl (fun g8 w9 hg10 hE11 hz12 hB13 => sK hK1 (rS fun K14 hK14 => ?_))))))
  have hB15 := (hB7.ext hE11)
  refine sV (evLoadAB [(.bool ga), (.slice Aa na ca)] agg68 sz68 rfl hB15 rfl) (sO (oBuildSlice [(.agg #[(.bool ga), (.slice Aa na ca)])] [[(.bool ga), (.slice Aa na ca)]] Tryz.underlying32 inf68 rfl rfl rfl rfl rfl (fun g16 w17 hg18 hE19 hz20 hB21 => ?_)))
  replace hB21 : Blk w17 g16 68 [(.bool ga), (.slice Aa na ca)] := hB21
  have hR22 := (hE5.trans hE11).trans hE19
  have h23 := (ha.ext hR22)
  have h24 : PolyR w17 (fun _ => True) (some ⟨g16, 0, none⟩) 1 1 [⟨ga, Aa, na, ca, da⟩] 65536 := PolyR.of_blk (l := [⟨ga, Aa, na, ca, da⟩]) (M := 65536) hB21 (fun r hr => by simp at hr; subst hr; exact ⟨h23.sub fun _ _ _ => trivial, by (try dsimp only); omega⟩) trivial rfl (Nat.le_refl _) (by decide)
  refine sMi rfl (sO (oCall rfl call42 (unipoly_Pow h24 (by omega) (by omega) (by omega)) rfl ?_))
  rintro _ w27 ⟨Ar_26, nr_26, cr_26, lr_26, rfl, hE28, hr_26, e_26, ln_26, cn_26⟩
  have hz29 := hE28.size
  have ⟨kr_26, jr_26, mr_26⟩ := hr_26.lkm
  refine sO (oCall rfl call53 (unipoly_Lead hr_26 (by omega) (by omega)) rfl ?_)
  rintro _ w32 ⟨gr_31, Ar_31, nr_31, cr_31, dr_31, rfl, hE33, hr_31, v_31, cn_31, le_31⟩
  have hz34 := hE33.size
  have ⟨lr_31, kr_31, mr_31⟩ := hr_31.lkm
  have hR36 := (hE19.trans hE28).trans hE33
  have hB37 := (hB13.ext hR36)
  refine sO (oStore [(.bool gr_31), (.slice Ar_31 nr_31 cr_31)] rfl rfl rfl sz68 rfl hB37 (Nat.le_of_ble_eq_true rfl) (fun w38 hU39 hz40 hB41 => ?_))
  replace hB41 : Blk w38 g8 68 [(.bool gr_31), (.slice Ar_31 nr_31 cr_31)] := hB41
  refine sK hK14 (wp_ret (ret1 (.agg #[(.bool gr_31), (.slice Ar_31 nr_31 cr_31)]) Tryz.results96 (resB [(.bool gr_31), (.slice Ar_31 nr_31 cr_31)] agg68 sz68 rfl hB41) ?_))
  have h42 := (hr_31.frmB hU39 q3)
  have hR43 := ((hR22.trans hE28).trans hE33).rx hU39
  exact ⟨gr_31, Ar_31, nr_31, cr_31, dr_31, rfl, (Frm.mono hR43 q4), (NatR.sub h42 q5), (v_31.trans (ld_pow1 (a := zval ga da) (by rw [e_26]; rfl))), cn_31, (by omega)⟩
end Go.Proofs.YtbniolgfaeiedaaGreat
