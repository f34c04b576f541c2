/-
  Walk of package unidiv: pseudo-division.
-/
import Derived.Test.YtbniolgfaeiedaaGreatSq2
import Derived.Test.YtbniolgfaeiedaaGreatLibB
namespace Go.Proofs.YtbniolgfaeiedaaGreat
open Go.RowKit Go.Gx
set_option maxHeartbeats 4000000 in
theorem unidiv_Pseudo {w : World} {Sf : Nat → Prop} {Af : Option Addr} {nf cf Mf : Nat} {lf : List RI} {Sg : Nat → Prop} {Ag : Option Addr} {ng cg Mg : Nat} {lg : List RI} (hf : PolyR w Sf Af nf cf lf Mf) (hg : PolyR w Sg Ag ng cg lg Mg) (hnf : nf ≤ 128) (hMf : Mf ≤ 4194304) (hng : ng ≤ 64) (hMg : Mg ≤ 4194304) (hg0 : ldP (zs lg) ≠ 0) : Calls Tryz.prog 97 #[(.slice Af nf cf), (.slice Ag ng cg)] w (Ret fun v w' => ∃ (Aq : Option Addr) (nq : Nat) (cq : Nat) (lq : List RI) (Ar : Option Addr) (nr : Nat) (cr : Nat) (lr : List RI) (xe : Int), v = (.tuple #[(.slice Aq nq cq), (.slice Ar nr cr), (.int .i64 (xe))]) ∧ Ext w w' ∧ PolyR w' (fun b => w.heap.size ≤ b) Aq nq cq lq (psM Mf Mg ((trimZ (zs lf)).length - ((trimZ (zs lg)).length - 1))) ∧ PolyR w' (fun b => w.heap.size ≤ b) Ar nr cr lr (psM Mf Mg ((trimZ (zs lf)).length - ((trimZ (zs lg)).length - 1))) ∧ (xe = 0) ∧ (∀ x : Rat, evQ (zs lf) x * ((ldP (zs lg) : Int) : Rat) ^ ((trimZ (zs lf)).length - ((trimZ (zs lg)).length - 1)) = evQ (zs lq) x * evQ (zs lg) x + evQ (zs lr) x) ∧ (nr + 1 ≤ (trimZ (zs lg)).length) ∧ (trimZ (zs lr) = zs lr) ∧ (nq ≤ nf) ∧ (nr ≤ nf)) := by
  have ⟨kf, jf, mf⟩ := hf.lkm
  replace hf := hf.low
  have ⟨kg, jg, mg⟩ := hg.lkm
  replace hg := hg.low
  refine enter Tryz.func97 rfl Tryz.ntmps97 rfl (rS fun K1 hK1 => sAs rfl (sAs rfl (sAi rfl (sK hK1 (rS fun K2 hK2 => sMs rfl (sO (oCall rfl call19 (unipoly_Degree hg (by omega) (by omega)) rfl ?_)))))))
  rintro _ w4 ⟨xr_3, rfl, hE5, e_3⟩
  have hz6 := hE5.size
  obtain ⟨d, hd⟩ := ld_len hg0
  obtain rfl : xr_3 = (d : Int) := by omega
  have ⟨hdL, hdz, _⟩ := ld_deg hd; have hdn : d + 1 ≤ ng := by have h := trimZ_len (zs lg); rw [zlen] at h; omega
  refine sAi rfl (sK hK2 (wp_seq_k fun K7 hK7 => rS fun K8 hK8 => sMi rfl (sV (evLss false rfl rfl (dF (by omega))) (sK hK8 (cF rfl (wp_skip (xN (hK7 _ _ (rS fun K9 hK9 => sMs rfl ?_)))))))))
  have h10 := (hf.ext hE5)
  refine sO (oCall rfl call69 (unipoly_Normal h10 (by omega) (by omega)) rfl ?_)
  rintro _ w12 ⟨qr_11, nr_11, lr_11, rfl, hE13, hgr_11, Br_11, hAr_11, kr_11, mr_11, e_11, ln_11, cn_11⟩
  have hz14 := hE13.size
  have hhr_11 : w4.heap.size ≤ qr_11 := hgr_11; have ltr_11 := Br_11.lt
  have h16 := hAr_11.sub (S' := fun b => (qr_11 < b) ∧ b < w12.heap.size) fun _ hb hs => ⟨hs, hb⟩
  have hFl : (trimZ (zs lf)).length = nr_11 := by rw [← e_11, zlen]; omega
  refine sAs rfl (sK hK9 (wp_seq_k fun K17 hK17 => rS fun K18 hK18 => sMs rfl (sV (evLen Tryz.underlying32 rfl) (sMi rfl ?_))))
  by_cases hc19 : ((nr_11 : Int)) ≤ ((d : Int))
  · refine sV (evLeq true rfl rfl (dT hc19)) (sK hK18 (cT rfl (rS fun K20 hK20 => sMs rfl (sAs rfl (sAs rfl (sAi rfl (sK hK20 (wp_ret (xR (ret3 (.slice none 0 0) (.slice (some ⟨qr_11, 0, none⟩) nr_11 nr_11) (.int .i64 (0)) Tryz.results97 (resT rfl) (resT rfl) (resT rfl) ?_))))))))))
    have hBE : Mf ≤ psM Mf Mg ((trimZ (zs lf)).length - ((trimZ (zs lg)).length - 1)) := Nat.le_add_right _ _
    have h21 : PolyR w12 (fun b => qr_11 ≤ b) (some ⟨qr_11, 0, none⟩) nr_11 nr_11 (lr_11) ((Mf)) := PolyR.of_blk Br_11 (AllN.sub h16 q5) (by (try dsimp only); omega) (by exact lq) (by omega) (by unfold CapMax; omega)
    have hR22 := hE5.trans hE13
    exact ⟨none, 0, 0, [], (some ⟨qr_11, 0, none⟩), nr_11, nr_11, lr_11, (0), rfl, hR22, PolyR.nil, (PolyR.le (PolyR.sub h21 q5) (by omega)), rfl, (by intro x; rw [hFl, hd, show nr_11 - (d + 1 - 1) = 0 by omega, e_11, evQ_trim]; simp [evQ]; grind), (by omega), (by rw [e_11]; exact canon_trim isZI _), (by omega), (by omega)⟩
  · refine sV (evLeq false rfl rfl (dF hc19)) (sK hK18 (cF rfl (wp_skip (xN (hK17 _ _ (rS fun K23 hK23 => sMs rfl ?_))))))
    have hR24 := hE5.trans hE13
    have h25 := (hg.ext hR24)
    refine sO (oCall rfl call53 (unipoly_Lead h25 (by omega) (by omega)) rfl ?_)
    rintro _ w27 ⟨gr_26, Ar_26, nr_26, cr_26, dr_26, rfl, hE28, hr_26, v_26, cn_26, le_26⟩
    have hz29 := hE28.size
    have ⟨lr_26, kr_26, mr_26⟩ := hr_26.lkm
    have h31 := hr_26.sub (S' := fun b => (w12.heap.size ≤ b) ∧ b < w27.heap.size) fun _ hb hs => ⟨hs, hb⟩
    have hLd : zval gr_26 dr_26 = ldP (zs lg) := v_26
    refine sO (oAlloc [(.bool false), (.slice none 0 0)] zero68 rfl (fun g32 w33 hg34 hE35 hz36 hB37 => sO (oStore [(.bool gr_26), (.slice Ar_26 nr_26 cr_26)] rfl rfl rfl sz68 rfl hB37 (Nat.le_of_ble_eq_true rfl) (fun w38 hU39 hz40 hB41 => ?_))))
    replace hB41 : Blk w38 g32 68 [(.bool gr_26), (.slice Ar_26 nr_26 cr_26)] := hB41
    refine sK hK23 (rS fun K42 hK42 => sMs rfl (sV (evLen Tryz.underlying32 rfl) (sMi rfl (sV (evSub (((nr_11 : Int)) - ((d : Int))) rfl rfl wI) (sO (oMake2 (nr_11 - d) Tryz.underlying32 inf68 cI cI (by omega) (by omega) (fun g43 w44 hg45 hE46 hz47 hB48 => ?_)))))))
    have hB49 : Blk w44 g43 68 (cellsI (List.replicate (nr_11 - d) RI.zero)) := hB48
    refine sAs rfl (sK hK42 (wp_seq_k fun K50 hK50 => rS fun K51 hK51 => sMs rfl (sV (evLen Tryz.underlying32 rfl) (sV (evSub (((nr_11 : Int)) - 1) rfl rfl wI) (sAi rfl (sK hK51 (wp_block ?_)))))))
    have hR53 := ((hE28.trans hE35).rx hU39).xr hE46
    have hB54 := (Br_11.frm hR53 q1)
    have h55 := (h16.frmB hR53 q3)
    refine lLoop (fun m e w_ => ∃ (t : Nat) (LR : List RI) (LQ : List RI) (B : Nat), m = t ∧ e 1 = (.slice Ag ng cg) ∧ e 4 = (.slice (some ⟨g43, 0, none⟩) (nr_11 - d) (nr_11 - d)) ∧ e 5 = (.slice (some ⟨qr_11, 0, none⟩) t nr_11) ∧ e 7 = (.int .i64 ((d : Int))) ∧ e 8 = (.pointer (some ⟨g32, 0, none⟩)) ∧ e 9 = (.int .i64 ((t : Int) - 1)) ∧ Frm (fun b => b = qr_11 ∨ b = g43) w44 w_ ∧ Blk w_ qr_11 68 (cellsI LR) ∧ Blk w_ g43 68 (cellsI LQ) ∧ (d ≤ t ∧ t ≤ nr_11) ∧ (B + (Mg + 6) * t ≤ Mf + (Mg + 6) * nr_11) ∧ (LR.length = nr_11) ∧ (LQ.length = nr_11 - d) ∧ (AllN w_ (fun b => w.heap.size ≤ b ∧ b ≠ qr_11 ∧ b ≠ g43 ∧ b ≠ g32) (B) LR) ∧ (AllN w_ (fun b => w.heap.size ≤ b ∧ b ≠ qr_11 ∧ b ≠ g43 ∧ b ≠ g32) (B) LQ) ∧ (∀ i, i < t - d → co (zs LQ) i = 0) ∧ (∀ x : Rat, evQ (zs lf) x * ((ldP (zs lg) : Int) : Rat) ^ (nr_11 - t) = evQ (zs LQ) x * evQ (zs lg) x + evQ ((zs LR).take t) x)) ((nr_11)) ?_ ?_
    · refine ⟨(nr_11), (lr_11), (List.replicate (nr_11 - d) RI.zero), (Mf), rfl, rfl, rfl, rfl, rfl, rfl, cI, (Frm.refl _ _), ?_, ?_, ?_, ?_, ?_, ?_, ?_, ?_, ?_, ?_⟩
      · exact hB54
      · exact hB49
      · omega
      · exact Nat.le_refl _
      · omega
      · simp
      · exact AllN.le (AllN.sub h55 q5) (by omega)
      · exact AllN.zeros _
      · intro i _; exact co_zeros _ i
      · intro x; rw [Nat.sub_self, evQ_zeros, List.take_of_length_le (by rw [zlen]; omega), e_11, evQ_trim]; simp; grind
    · rintro m52 e67 w56 ⟨t, LR, LQ, B, hm66, hs57, hs58, hs59, hs60, hs61, hs62, hF63, hB64, hB65, ht, hB, hLR, hLQ, hAR, hAQ, hq0, hI⟩
      obtain ⟨r68, rfl⟩ := sq (e := e67) (t := 1) hs57
      obtain ⟨r69, rfl⟩ := sq (e := r68) (t := 4) hs58
      obtain ⟨r70, rfl⟩ := sq (e := r69) (t := 5) hs59
      obtain ⟨r71, rfl⟩ := sq (e := r70) (t := 7) hs60
      obtain ⟨r72, rfl⟩ := sq (e := r71) (t := 8) hs61
      obtain ⟨r73, rfl⟩ := sq (e := r72) (t := 9) hs62
      have hz74 := hF63.size
      have hBK : (Mg + 6) * nr_11 ≤ (Mg + 6) * 128 := Nat.mul_le_mul_left _ (by omega)
      refine wp_seq_k fun K75 hK75 => rS fun K76 hK76 => sMi rfl (sMi rfl ?_)
      by_cases hc77 : ((t : Int) - 1) ≥ ((d : Int))
      · refine sV (evGeq true rfl rfl (dT hc77)) (sK hK76 (cT rfl (wp_skip (xN (hK75 _ _ (wp_seq_k fun K78 hK78 => wp_block (wp_seq_k fun K79 hK79 => ?_)))))))
        obtain ⟨low, hlow⟩ : ∃ low, t = low + d + 1 := ⟨t - 1 - d, by omega⟩
        refine wp_region_lit (sMi rfl (sMi rfl (sV (evSub ((low : Int)) rfl rfl (wI64 (by omega))) (sAi rfl (sK hK79 (wp_seq_k fun K80 hK80 => ?_))))))
        have h81 := hAR.sub (S' := fun b => (w.heap.size ≤ b ∧ b ≠ qr_11 ∧ b ≠ g43 ∧ b ≠ g32) ∧ b < w56.heap.size) fun _ hb hs => ⟨hs, hb⟩
        have h82 := hAQ.sub (S' := fun b => (w.heap.size ≤ b ∧ b ≠ qr_11 ∧ b ≠ g43 ∧ b ≠ g32) ∧ b < w56.heap.size) fun _ hb hs => ⟨hs, hb⟩
        refine wp_region_lit (sMs rfl (sMi rfl (sV (evIx (t - 1) Tryz.underlying32 sz68 rfl rfl ((t - 1) * 2)) ?_)))
        obtain ⟨g_83, A_83, n_83, c_83, d_83, he_83, hp_83, hq_83, z_83⟩ := hB64.int (i := t - 1) (by exact lq)
        have hx_83 := h81 _ (List.mem_of_getElem? he_83)
        dsimp only at hx_83
        have h_83 := hx_83.1; have hM_83 := hx_83.2
        have ⟨l_83, k_83, m_83⟩ := h_83.lkm
        refine sV (evLoadA [(.bool g_83), (.slice A_83 n_83 c_83)] agg68 sz68 rfl (cell2 hp_83 hq_83)) ?_
        have hfa := z_83
        refine sO (oAlloc [(.bool false), (.slice none 0 0)] zero68 rfl (fun g85 w86 hg87 hE88 hz89 hB90 => sO (oStore [(.bool g_83), (.slice A_83 n_83 c_83)] rfl rfl rfl sz68 rfl hB90 (Nat.le_of_ble_eq_true rfl) (fun w91 hU92 hz93 hB94 => ?_))))
        replace hB94 : Blk w91 g85 68 [(.bool g_83), (.slice A_83 n_83 c_83)] := hB94
        refine sK hK80 (wp_seq_k fun K95 hK95 => rS fun K96 hK96 => sMi rfl (sV (evAdd (((low : Int)) + 1) rfl rfl wI) (sAi rfl (sK hK96 (wp_block ?_)))))
        have hR98 := hE88.rx hU92
        have hB99 := (hB65.frm hR98 q1)
        have h100 := (h82.frmB hR98 q3)
        refine lLoop (fun m e w_ => ∃ (j : Nat) (L1 : List RI), m = nr_11 - d - j ∧ e 1 = (.slice Ag ng cg) ∧ e 4 = (.slice (some ⟨g43, 0, none⟩) (nr_11 - d) (nr_11 - d)) ∧ e 5 = (.slice (some ⟨qr_11, 0, none⟩) t nr_11) ∧ e 7 = (.int .i64 ((d : Int))) ∧ e 8 = (.pointer (some ⟨g32, 0, none⟩)) ∧ e 9 = (.int .i64 ((t : Int) - 1)) ∧ e 10 = (.int .i64 ((low : Int))) ∧ e 11 = (.pointer (some ⟨g85, 0, none⟩)) ∧ e 12 = (.int .i64 ((j : Int))) ∧ Frm (fun b => b = g43) w91 w_ ∧ Blk w_ g43 68 (cellsI L1) ∧ (low + 1 ≤ j ∧ j ≤ nr_11 - d) ∧ (L1.length = nr_11 - d) ∧ (AllN w_ (fun b => w.heap.size ≤ b ∧ b ≠ qr_11 ∧ b ≠ g43 ∧ b ≠ g32 ∧ b ≠ g85) (B + Mg + 4) L1) ∧ (∀ i r, j ≤ i → L1[i]? = some r → r.n ≤ B) ∧ (∀ i, co (zs L1) i = if i < j then co (zs LQ) i * ldP (zs lg) else co (zs LQ) i)) (nr_11 - d - (low + 1)) ?_ ?_
        · refine ⟨(low + 1), (LQ), rfl, rfl, rfl, rfl, rfl, rfl, rfl, rfl, rfl, cI, (Frm.refl _ _), ?_, ?_, ?_, ?_, ?_, ?_⟩
          · exact hB99
          · omega
          · exact hLQ
          · exact AllN.le (AllN.sub h100 q5) (by omega)
          · exact fun i r _ hr => (h100 r (List.mem_of_getElem? hr)).2
          · exact mulq_start fun i hi => hq0 i (by omega)
        · rintro m97 e114 w101 ⟨j, L1, hm113, hs102, hs103, hs104, hs105, hs106, hs107, hs108, hs109, hs110, hF111, hB112, hj, hL1, hA1, hD1, hz1⟩
          obtain ⟨r115, rfl⟩ := sq (e := e114) (t := 1) hs102
          obtain ⟨r116, rfl⟩ := sq (e := r115) (t := 4) hs103
          obtain ⟨r117, rfl⟩ := sq (e := r116) (t := 5) hs104
          obtain ⟨r118, rfl⟩ := sq (e := r117) (t := 7) hs105
          obtain ⟨r119, rfl⟩ := sq (e := r118) (t := 8) hs106
          obtain ⟨r120, rfl⟩ := sq (e := r119) (t := 9) hs107
          obtain ⟨r121, rfl⟩ := sq (e := r120) (t := 10) hs108
          obtain ⟨r122, rfl⟩ := sq (e := r121) (t := 11) hs109
          obtain ⟨r123, rfl⟩ := sq (e := r122) (t := 12) hs110
          have hz124 := hF111.size
          refine wp_seq_k fun K125 hK125 => rS fun K126 hK126 => sMi rfl (sMs rfl (sV (evLen Tryz.underlying32 rfl) ?_))
          by_cases hc127 : ((j : Int)) < (((nr_11 - d : Nat) : Int))
          · refine sV (evLss true rfl rfl (dT hc127)) (sK hK126 (cT rfl (wp_skip (xN (hK125 _ _ (wp_seq_k fun K128 hK128 => wp_block (dBegin (fun b => b = g43) mixed (fun w129 hE130 hz131 => dMs 0 rfl rfl (dMi 1 rfl rfl (dMs 2 rfl rfl (dMi 3 rfl rfl (dV 4 rfl (fun _ _ => evIx j Tryz.underlying32 sz68 rfl rfl (j * 2)) ?_))))))))))))
            have hR132 := ((((hE46.rx hF63).xr hE88).tr hU92).tr hF111).xr hE130
            have hB133 := (hB41.frm hR132 q1)
            refine dV 6 rfl (fun _ hf => evLoadAB [(.bool gr_26), (.slice Ar_26 nr_26 cr_26)] agg68 sz68 rfl (hB133.frm hf q1) rfl) ?_
            have hB134 := (hB112.ext hE130)
            have h136 := (hA1.ext hE130)
            obtain ⟨g_135, A_135, n_135, c_135, d_135, he_135, hp_135, hq_135, z_135⟩ := hB134.int (i := j) (by exact lq)
            have hx_135 := h136 _ (List.mem_of_getElem? he_135)
            dsimp only at hx_135
            have h_135 := hx_135.1; have hM_135 := hx_135.2
            have ⟨l_135, k_135, m_135⟩ := h_135.lkm
            refine dOp 5 rfl rfl (by kernel_rfl) (oEv (v := (.agg #[(.bool g_135), (.slice A_135 n_135 c_135)])) (evLoadA [(.bool g_135), (.slice A_135 n_135 c_135)] agg68 sz68 rfl (cell2 hp_135 hq_135)) rfl ⟨Frm.refl _ _, ?_⟩)
            have hn1 := hD1 j _ (Nat.le_refl _) he_135; dsimp only at hn1
            have hR138 := ((((((hE35.rx hU39).xr hE46).tr hF63).xr hE88).tr hU92).tr hF111).xr hE130
            have h139 := (h31.frmB hR138 q3)
            refine dOp 7 rfl rfl (by kernel_rfl) (oCall rfl call60 (integer_Mul h_135 h139 (by omega)) rfl ?_)
            rintro _ w141 ⟨gr_140, Ar_140, nr_140, cr_140, dr_140, rfl, hE142, hr_140, v_140, cn_140, le_140⟩
            refine ⟨(Frm.of_ext hE142), ?_⟩
            have hz143 := hE142.size
            have ⟨lr_140, kr_140, mr_140⟩ := hr_140.lkm
            refine dV 8 rfl (fun _ _ => evIx j Tryz.underlying32 sz68 rfl rfl (j * 2)) ?_
            have hB145 := (hB134.ext hE142)
            refine dOp 9 rfl rfl (by kernel_rfl) (oStore [(.bool gr_140), (.slice Ar_140 nr_140 cr_140)] rfl rfl rfl sz68 rfl hB145 (by rw [cellsI_len]; simp only [List.length_cons, List.length_nil]; exact lq) (fun w146 hU147 hz148 hB149 => ?_))
            replace hB149 := (cellsI_set (l := L1) (i := j) ⟨gr_140, Ar_140, nr_140, cr_140, dr_140⟩ (by exact lq)) ▸ hB149
            refine ⟨hU147, dDone (by kernel_rfl) (bN (xN (hK128 _ _ (wp_region_lit (sMi rfl (sV (evAdd (((j : Int)) + 1) rfl rfl wI) (sAi rfl (sDone ?_))))))))⟩
            have hR150 := (hE130.trans hE142).rx hU147
            have hR151 := hE142.rx hU147
            have h152 := (h136.frmB hR151 q3)
            have h153 := (hr_140.frmB hU147 q3)
            refine again (nr_11 - d - (j + 1)) (by omega) ⟨(j + 1), ((L1).set j ⟨gr_140, Ar_140, nr_140, cr_140, dr_140⟩), rfl, rfl, rfl, rfl, rfl, rfl, rfl, rfl, rfl, cI, (hF111.trans hR150), ?_, ?_, ?_, ?_, ?_, ?_⟩
            · exact hB149
            · omega
            · rw [List.length_set]; exact hL1
            · exact AllN.set h152 (NatR.sub h153 q5) (by (try dsimp only); omega)
            · exact small_set hD1
            · rw [zs_set]; exact mulq_step hz1 (by rw [zlen]; omega) (by show zval _ _ = _; rw [v_140, z_135, hLd])
          · refine sV (evLss false rfl rfl (dF hc127)) (sK hK126 (cF rfl (wp_exit (xE (xE (bE (xN (hK95 _ _ (rS fun K154 hK154 => sMs rfl (sMi rfl ?_))))))))))
            have hB155 := (hB94.frm hF111 q1)
            refine sV (evLoadAB [(.bool g_83), (.slice A_83 n_83 c_83)] agg68 sz68 rfl hB155 rfl) (sV (evIx low Tryz.underlying32 sz68 rfl rfl (low * 2)) (sO (oStore [(.bool g_83), (.slice A_83 n_83 c_83)] rfl rfl rfl sz68 rfl hB112 (by rw [cellsI_len]; simp only [List.length_cons, List.length_nil]; exact lq) (fun w156 hU157 hz158 hB159 => ?_))))
            replace hB159 := (cellsI_set (l := L1) (i := low) ⟨g_83, A_83, n_83, c_83, d_83⟩ (by exact lq)) ▸ hB159
            refine sK hK154 (wp_seq_k fun K160 hK160 => ?_)
            have h161 := (hA1.frmB hU157 q3)
            have hR162 := (hR98.tr hF111).tr hU157
            have h163 := (h_83.frmB hR162 q3)
            have hAq164 : AllN w156 (fun b => w.heap.size ≤ b ∧ b ≠ qr_11 ∧ b ≠ g43 ∧ b ≠ g32 ∧ b ≠ g85) (B + Mg + 4) (L1.set low ⟨g_83, A_83, n_83, c_83, d_83⟩) := AllN.set h161 (NatR.sub h163 q5) (by (try dsimp only); omega)
            refine wp_region_lit (sMs rfl (sMi rfl (sV (evSliceHi (t - 1) Tryz.underlying32 sz68 rfl rfl (by omega) (by omega)) (sAs rfl (sK hK160 (rS fun K165 hK165 => sMs rfl (sV (evLen Tryz.underlying32 rfl) (sMi rfl (sK hK165 (wp_block ?_))))))))))
            have hB167 := (hB64.frm hR162 q1)
            have h168 := (h81.frmB hR162 q3)
            refine lLoop (fun m e w_ => ∃ (j : Nat) (L2 : List RI), m = t - 1 - j ∧ e 1 = (.slice Ag ng cg) ∧ e 4 = (.slice (some ⟨g43, 0, none⟩) (nr_11 - d) (nr_11 - d)) ∧ e 5 = (.slice (some ⟨qr_11, 0, none⟩) (t - 1) nr_11) ∧ e 7 = (.int .i64 ((d : Int))) ∧ e 8 = (.pointer (some ⟨g32, 0, none⟩)) ∧ e 9 = (.int .i64 ((t : Int) - 1)) ∧ e 10 = (.int .i64 ((low : Int))) ∧ e 11 = (.pointer (some ⟨g85, 0, none⟩)) ∧ e 72 = (.int .i64 (((t - 1 : Nat) : Int))) ∧ e 73 = (.int .i64 ((j : Int))) ∧ Frm (fun b => b = qr_11) w156 w_ ∧ Blk w_ qr_11 68 (cellsI L2) ∧ (j ≤ t - 1) ∧ (L2.length = nr_11) ∧ (AllN w_ (fun b => w.heap.size ≤ b ∧ b ≠ qr_11 ∧ b ≠ g43 ∧ b ≠ g32 ∧ b ≠ g85) (B + Mg + 4) L2) ∧ (∀ i r, j ≤ i → L2[i]? = some r → r.n ≤ B) ∧ (∀ i, co (zs L2) i = if i < j then co (zs LR) i * ldP (zs lg) - zval g_83 d_83 * cs (zs lg) low i else co (zs LR) i)) (t - 1 - (0)) ?_ ?_
            · refine ⟨(0), (LR), rfl, rfl, rfl, rfl, rfl, rfl, rfl, rfl, rfl, rfl, cI, (Frm.refl _ _), ?_, ?_, ?_, ?_, ?_, ?_⟩
              · exact hB167
              · omega
              · exact hLR
              · exact AllN.le (AllN.sub h168 q5) (by omega)
              · exact fun i r _ hr => (h168 r (List.mem_of_getElem? hr)).2
              · intro i; rw [if_neg (by omega)]
            · rintro m166 e183 w169 ⟨j, L2, hm182, hs170, hs171, hs172, hs173, hs174, hs175, hs176, hs177, hs178, hs179, hF180, hB181, hj2, hL2, hA2, hD2, hz2⟩
              obtain ⟨r184, rfl⟩ := sq (e := e183) (t := 1) hs170
              obtain ⟨r185, rfl⟩ := sq (e := r184) (t := 4) hs171
              obtain ⟨r186, rfl⟩ := sq (e := r185) (t := 5) hs172
              obtain ⟨r187, rfl⟩ := sq (e := r186) (t := 7) hs173
              obtain ⟨r188, rfl⟩ := sq (e := r187) (t := 8) hs174
              obtain ⟨r189, rfl⟩ := sq (e := r188) (t := 9) hs175
              obtain ⟨r190, rfl⟩ := sq (e := r189) (t := 10) hs176
              obtain ⟨r191, rfl⟩ := sq (e := r190) (t := 11) hs177
              obtain ⟨r192, rfl⟩ := sq (e := r191) (t := 72) hs178
              obtain ⟨r193, rfl⟩ := sq (e := r192) (t := 73) hs179
              have hz194 := hF180.size
              refine rS fun K195 hK195 => ?_
              by_cases hc196 : ((j : Int)) < (((t - 1 : Nat) : Int))
              · refine sV (evLss true rfl rfl (dT hc196)) (sK hK195 (wp_seq_k fun K197 hK197 => cT rfl (wp_skip (xN (hK197 _ _ (wp_seq_k fun K198 hK198 => wp_block (rS fun K199 hK199 => sMi rfl (sAi rfl (sK hK199 (wp_seq_k fun K200 hK200 => dBegin (fun b => b = qr_11) mixed (fun w201 hE202 hz203 => dMs 0 rfl rfl (dMi 1 rfl rfl (dMs 2 rfl rfl (dMi 3 rfl rfl (dV 4 rfl (fun _ _ => evIx j Tryz.underlying32 sz68 rfl rfl (j * 2)) ?_)))))))))))))))
                have hR204 := ((((((hE46.rx hF63).xr hE88).tr hU92).tr hF111).tr hU157).tr hF180).xr hE202
                have hB205 := (hB41.frm hR204 q1)
                refine dV 6 rfl (fun _ hf => evLoadAB [(.bool gr_26), (.slice Ar_26 nr_26 cr_26)] agg68 sz68 rfl (hB205.frm hf q1) rfl) ?_
                have hB206 := (hB181.ext hE202)
                have h208 := (hA2.ext hE202)
                obtain ⟨g_207, A_207, n_207, c_207, d_207, he_207, hp_207, hq_207, z_207⟩ := hB206.int (i := j) (by exact lq)
                have hx_207 := h208 _ (List.mem_of_getElem? he_207)
                dsimp only at hx_207
                have h_207 := hx_207.1; have hM_207 := hx_207.2
                have ⟨l_207, k_207, m_207⟩ := h_207.lkm
                refine dOp 5 rfl rfl (by kernel_rfl) (oEv (v := (.agg #[(.bool g_207), (.slice A_207 n_207 c_207)])) (evLoadA [(.bool g_207), (.slice A_207 n_207 c_207)] agg68 sz68 rfl (cell2 hp_207 hq_207)) rfl ⟨Frm.refl _ _, ?_⟩)
                have hn2 := hD2 j _ (Nat.le_refl _) he_207; dsimp only at hn2
                have hR210 := ((((((((hE35.rx hU39).xr hE46).tr hF63).xr hE88).tr hU92).tr hF111).tr hU157).tr hF180).xr hE202
                have h211 := (h31.frmB hR210 q3)
                refine dOp 7 rfl rfl (by kernel_rfl) (oCall rfl call60 (integer_Mul h_207 h211 (by omega)) rfl ?_)
                rintro _ w213 ⟨gr_212, Ar_212, nr_212, cr_212, dr_212, rfl, hE214, hr_212, v_212, cn_212, le_212⟩
                refine ⟨(Frm.of_ext hE214), ?_⟩
                have hz215 := hE214.size
                have ⟨lr_212, kr_212, mr_212⟩ := hr_212.lkm
                refine dV 8 rfl (fun _ _ => evIx j Tryz.underlying32 sz68 rfl rfl (j * 2)) ?_
                have hB217 := (hB206.ext hE214)
                refine dOp 9 rfl rfl (by kernel_rfl) (oStore [(.bool gr_212), (.slice Ar_212 nr_212 cr_212)] rfl rfl rfl sz68 rfl hB217 (by rw [cellsI_len]; simp only [List.length_cons, List.length_nil]; exact lq) (fun w218 hU219 hz220 hB221 => ?_))
                replace hB221 := (cellsI_set (l := L2) (i := j) ⟨gr_212, Ar_212, nr_212, cr_212, dr_212⟩ (by exact lq)) ▸ hB221
                refine ⟨hU219, dDone (by kernel_rfl) (xN (hK200 _ _ (wp_seq_k fun K222 hK222 => ?_)))⟩
                have hR223 := hE214.rx hU219
                have h224 := (h208.frmB hR223 q3)
                have h225 := (hr_212.frmB hU219 q3)
                have hAs226 : AllN w218 (fun b => w.heap.size ≤ b ∧ b ≠ qr_11 ∧ b ≠ g43 ∧ b ≠ g32 ∧ b ≠ g85) (B + Mg + 4) (L2.set j ⟨gr_212, Ar_212, nr_212, cr_212, dr_212⟩) := AllN.set h224 (NatR.sub h225 q5) (by (try dsimp only); omega)
                refine wp_region_lit (sMi rfl (sMi rfl ?_))
                by_cases hc227 : ((j : Int)) ≥ ((low : Int))
                · refine sV (evGeq true rfl rfl (dT hc227)) (sK hK222 (cT rfl (dBegin (fun b => b = qr_11) mixed (fun w228 hE229 hz230 => dMs 0 rfl rfl (dMi 1 rfl rfl (dMs 2 rfl rfl (dMi 3 rfl rfl (dV 4 rfl (fun _ _ => evIx j Tryz.underlying32 sz68 rfl rfl (j * 2)) ?_))))))))
                  have hR231 := ((((hU157.tr hF180).xr hE202).xr hE214).tr hU219).xr hE229
                  have hB232 := (hB155.frm hR231 q1)
                  refine dV 6 rfl (fun _ hf => evLoadAB [(.bool g_83), (.slice A_83 n_83 c_83)] agg68 sz68 rfl (hB232.frm hf q1) rfl) (dMs 7 rfl rfl (dMi 8 rfl rfl (dMi 9 rfl rfl (dV 10 rfl (fun _ _ => evSub (((j - low : Nat) : Int)) rfl rfl (wI64 (by omega))) ?_))))
                  have hR233 := (((((((((hR53.tr hF63).xr hE88).tr hU92).tr hF111).tr hU157).tr hF180).xr hE202).xr hE214).tr hU219).xr hE229
                  have h234 := (h25.frmB hR233 q3)
                  obtain ⟨b235, o236, rfl⟩ := h234.base (by omega)
                  refine dV 11 rfl (fun _ _ => evIx (j - low) Tryz.underlying32 sz68 rfl rfl (o236 + ((j - low) * 2))) ?_
                  obtain ⟨g_237, A_237, n_237, c_237, d_237, he_237, hp_237, hq_237, h_237, hM_237, hS_237, hb_237, z_237⟩ := h234.at_ (i := j - low) (by omega)
                  have ⟨l_237, k_237, m_237⟩ := h_237.lkm
                  refine dV 12 rfl (fun _ hf => evLoadA [(.bool g_237), (.slice A_237 n_237 c_237)] agg68 sz68 rfl (cell2F hp_237 hq_237 hf hb_237 (by (try dsimp only at hS_237 ⊢); omega))) (dTwo 5 13 (by kernel_rfl) ?_ ?_)
                  · have hB239 := (hB221.ext hE229)
                    have h241 := (hAs226.ext hE229)
                    obtain ⟨g_240, A_240, n_240, c_240, d_240, he_240, hp_240, hq_240, z_240⟩ := hB239.int (i := j) (by exact lq)
                    have hx_240 := h241 _ (List.mem_of_getElem? he_240)
                    dsimp only at hx_240
                    have h_240 := hx_240.1; have hM_240 := hx_240.2
                    have ⟨l_240, k_240, m_240⟩ := h_240.lkm
                    refine dWp (i := 5) rfl rfl (oEv (v := (.agg #[(.bool g_240), (.slice A_240 n_240 c_240)])) (evLoadA [(.bool g_240), (.slice A_240 n_240 c_240)] agg68 sz68 rfl (cell2 hp_240 hq_240)) rfl ⟨Frm.refl _ _, ?_⟩)
                    have he3 := he_240; rw [List.getElem?_set_self (by omega)] at he3; injection he3 with he3; injection he3 with x1 x2 x3 x4 x5; have hn3 := le_212
                    have hR243 := (((hF180.xr hE202).xr hE214).trans hU219).xr hE229
                    have h244 := (h163.frmB hR243 q3)
                    refine dOp 13 rfl rfl (by kernel_rfl) (oCall rfl call60 (integer_Mul h244 h_237 (by omega)) rfl ?_)
                    rintro _ w246 ⟨gr_245, Ar_245, nr_245, cr_245, dr_245, rfl, hE247, hr_245, v_245, cn_245, le_245⟩
                    refine ⟨(Frm.of_ext hE247), ?_⟩
                    have hz248 := hE247.size
                    have ⟨lr_245, kr_245, mr_245⟩ := hr_245.lkm
                    have h250 := (h_240.ext hE247)
                    refine dOp 14 rfl rfl (by kernel_rfl) (oCall rfl call77 (integer_Sub h250 hr_245 (by omega) (by omega)) rfl ?_)
                    rintro _ w252 ⟨gr_251, Ar_251, nr_251, cr_251, dr_251, rfl, hE253, hr_251, v_251, cn_251, le_251⟩
                    refine ⟨(Frm.of_ext hE253), ?_⟩
                    have hz254 := hE253.size
                    have ⟨lr_251, kr_251, mr_251⟩ := hr_251.lkm
                    refine dV 15 rfl (fun _ _ => evIx j Tryz.underlying32 sz68 rfl rfl (j * 2)) ?_
                    have hR256 := hE247.trans hE253
                    have hB257 := (hB239.ext hR256)
                    refine dOp 16 rfl rfl (by kernel_rfl) (oStore [(.bool gr_251), (.slice Ar_251 nr_251 cr_251)] rfl rfl rfl sz68 rfl hB257 (by rw [cellsI_len]; simp only [List.length_cons, List.length_nil]; exact lq) (fun w258 hU259 hz260 hB261 => ?_))
                    replace hB261 := (cellsI_set (l := (L2).set j ⟨gr_212, Ar_212, nr_212, cr_212, dr_212⟩) (i := j) ⟨gr_251, Ar_251, nr_251, cr_251, dr_251⟩ (by exact lq)) ▸ hB261
                    replace hB261 : Blk w258 qr_11 68 (cellsI (L2.set j ⟨gr_251, Ar_251, nr_251, cr_251, dr_251⟩)) := (by simp : ((L2).set j ⟨gr_212, Ar_212, nr_212, cr_212, dr_212⟩).set j ⟨gr_251, Ar_251, nr_251, cr_251, dr_251⟩ = L2.set j ⟨gr_251, Ar_251, nr_251, cr_251, dr_251⟩) ▸ hB261
                    refine ⟨hU259, dDone (by kernel_rfl) (bN (xN (hK198 _ _ (wp_region_lit (sV (evAdd (((j : Int)) + 1) rfl rfl wI) (sMi rfl (sDone ?_)))))))⟩
                    have hR262 := (((((hE202.trans hE214).rx hU219).xr hE229).xr hE247).xr hE253).trans hU259
                    have hR263 := ((hE229.trans hE247).trans hE253).rx hU259
                    have h264 := (h224.frmB hR263 q3)
                    have h265 := (hr_251.frmB hU259 q3)
                    refine again (t - 1 - (j + 1)) (by omega) ⟨(j + 1), (L2.set j ⟨gr_251, Ar_251, nr_251, cr_251, dr_251⟩), rfl, rfl, rfl, rfl, rfl, rfl, rfl, rfl, rfl, rfl, cI, (hF180.trans hR262), ?_, ?_, ?_, ?_, ?_, ?_⟩
                    · exact hB261
                    · omega
                    · rw [List.length_set]; exact hL2
                    · exact AllN.set h264 (NatR.sub h265 q5) (by (try dsimp only); omega)
                    · exact small_set hD2
                    · rw [zs_set]; exact rem_step hz2 (by rw [zlen]; omega) (by show zval _ _ = _; rw [v_251, v_245, z_240, z_237, zs_set, co_setZ (by rw [zlen]; omega), if_pos rfl]; show zval _ _ - _ = _; rw [v_212, z_207, hLd]; unfold cs; rw [if_pos (show low ≤ j by omega)])
                  · have hR266 := (((hF180.xr hE202).xr hE214).trans hU219).xr hE229
                    have h267 := (h163.frmB hR266 q3)
                    refine dWp (i := 13) rfl rfl (oCall rfl call60 (integer_Mul h267 h_237 (by omega)) rfl ?_)
                    rintro _ w269 ⟨gr_268, Ar_268, nr_268, cr_268, dr_268, rfl, hE270, hr_268, v_268, cn_268, le_268⟩
                    refine ⟨(Frm.of_ext hE270), ?_⟩
                    have hz271 := hE270.size
                    have ⟨lr_268, kr_268, mr_268⟩ := hr_268.lkm
                    have hR273 := hE229.trans hE270
                    have hB274 := (hB221.ext hR273)
                    have h276 := (hAs226.ext hR273)
                    obtain ⟨g_275, A_275, n_275, c_275, d_275, he_275, hp_275, hq_275, z_275⟩ := hB274.int (i := j) (by exact lq)
                    have hx_275 := h276 _ (List.mem_of_getElem? he_275)
                    dsimp only at hx_275
                    have h_275 := hx_275.1; have hM_275 := hx_275.2
                    have ⟨l_275, k_275, m_275⟩ := h_275.lkm
                    refine dOp 5 rfl rfl (by kernel_rfl) (oEv (v := (.agg #[(.bool g_275), (.slice A_275 n_275 c_275)])) (evLoadA [(.bool g_275), (.slice A_275 n_275 c_275)] agg68 sz68 rfl (cell2 hp_275 hq_275)) rfl ⟨Frm.refl _ _, ?_⟩)
                    have he3 := he_275; rw [List.getElem?_set_self (by omega)] at he3; injection he3 with he3; injection he3 with x1 x2 x3 x4 x5; have hn3 := le_212
                    refine dOp 14 rfl rfl (by kernel_rfl) (oCall rfl call77 (integer_Sub h_275 hr_268 (by omega) (by omega)) rfl ?_)
                    rintro _ w279 ⟨gr_278, Ar_278, nr_278, cr_278, dr_278, rfl, hE280, hr_278, v_278, cn_278, le_278⟩
                    refine ⟨(Frm.of_ext hE280), ?_⟩
                    have hz281 := hE280.size
                    have ⟨lr_278, kr_278, mr_278⟩ := hr_278.lkm
                    refine dV 15 rfl (fun _ _ => evIx j Tryz.underlying32 sz68 rfl rfl (j * 2)) ?_
                    have hB283 := (hB274.ext hE280)
                    refine dOp 16 rfl rfl (by kernel_rfl) (oStore [(.bool gr_278), (.slice Ar_278 nr_278 cr_278)] rfl rfl rfl sz68 rfl hB283 (by rw [cellsI_len]; simp only [List.length_cons, List.length_nil]; exact lq) (fun w284 hU285 hz286 hB287 => ?_))
                    replace hB287 := (cellsI_set (l := (L2).set j ⟨gr_212, Ar_212, nr_212, cr_212, dr_212⟩) (i := j) ⟨gr_278, Ar_278, nr_278, cr_278, dr_278⟩ (by exact lq)) ▸ hB287
                    replace hB287 : Blk w284 qr_11 68 (cellsI (L2.set j ⟨gr_278, Ar_278, nr_278, cr_278, dr_278⟩)) := (by simp : ((L2).set j ⟨gr_212, Ar_212, nr_212, cr_212, dr_212⟩).set j ⟨gr_278, Ar_278, nr_278, cr_278, dr_278⟩ = L2.set j ⟨gr_278, Ar_278, nr_278, cr_278, dr_278⟩) ▸ hB287
                    refine ⟨hU285, dDone (by kernel_rfl) (bN (xN (hK198 _ _ (wp_region_lit (sV (evAdd (((j : Int)) + 1) rfl rfl wI) (sMi rfl (sDone ?_)))))))⟩
                    have hR288 := (((((hE202.trans hE214).rx hU219).xr hE229).xr hE270).xr hE280).trans hU285
                    have hR289 := (hR273.trans hE280).rx hU285
                    have h290 := (h224.frmB hR289 q3)
                    have h291 := (hr_278.frmB hU285 q3)
                    refine again (t - 1 - (j + 1)) (by omega) ⟨(j + 1), (L2.set j ⟨gr_278, Ar_278, nr_278, cr_278, dr_278⟩), rfl, rfl, rfl, rfl, rfl, rfl, rfl, rfl, rfl, rfl, cI, (hF180.trans hR288), ?_, ?_, ?_, ?_, ?_, ?_⟩
                    · exact hB287
                    · omega
                    · rw [List.length_set]; exact hL2
                    · exact AllN.set h290 (NatR.sub h291 q5) (by (try dsimp only); omega)
                    · exact small_set hD2
                    · rw [zs_set]; exact rem_step hz2 (by rw [zlen]; omega) (by show zval _ _ = _; rw [v_278, v_268, z_275, z_237, zs_set, co_setZ (by rw [zlen]; omega), if_pos rfl]; show zval _ _ - _ = _; rw [v_212, z_207, hLd]; unfold cs; rw [if_pos (show low ≤ j by omega)])
                · refine sV (evGeq false rfl rfl (dF hc227)) (sK hK222 (cF rfl (wp_skip (bN (xN (hK198 _ _ (wp_region_lit (sV (evAdd (((j : Int)) + 1) rfl rfl wI) (sMi rfl (sDone ?_))))))))))
                  have hR292 := (hE202.trans hE214).rx hU219
                  refine again (t - 1 - (j + 1)) (by omega) ⟨(j + 1), ((L2).set j ⟨gr_212, Ar_212, nr_212, cr_212, dr_212⟩), rfl, rfl, rfl, rfl, rfl, rfl, rfl, rfl, rfl, rfl, cI, (hF180.trans hR292), ?_, ?_, ?_, ?_, ?_, ?_⟩
                  · exact hB221
                  · omega
                  · rw [List.length_set]; exact hL2
                  · exact AllN.set h224 (NatR.sub h225 q5) (by (try dsimp only); omega)
                  · exact small_set hD2
                  · rw [zs_set]; exact rem_step hz2 (by rw [zlen]; omega) (by show zval _ _ = _; rw [v_212, z_207, hLd]; unfold cs; rw [if_neg (show ¬ low ≤ j by omega)]; simp)
              · refine sV (evLss false rfl rfl (dF hc196)) (sK hK195 (wp_seq_k fun K293 hK293 => cF rfl (wp_exit (xE (xE (bE (bN (xN (hK78 _ _ (wp_region_lit (sMi rfl (sV (evSub (((t : Int) - 1) - 1) rfl rfl wI) (sAi rfl (sDone ?_))))))))))))))
                have hR294 := hR162.tr hF180
                have hB295 := (hB159.frm hF180 q1)
                have h296 := (hAq164.frmB hF180 q3)
                refine again ((t - 1)) (by omega) ⟨(t - 1), (L2), ((L1).set low ⟨g_83, A_83, n_83, c_83, d_83⟩), (B + (Mg + 6)), rfl, rfl, rfl, rfl, rfl, rfl, cI, (Frm.mono (hF63.tr hR294) q4), ?_, ?_, ?_, ?_, ?_, ?_, ?_, ?_, ?_, ?_⟩
                · exact hB181
                · exact hB295
                · omega
                · exact bud_step hB (by omega)
                · exact hL2
                · rw [List.length_set]; exact hL1
                · exact AllN.le (AllN.sub hA2 q5) (by omega)
                · exact AllN.le (AllN.sub h296 q5) (by omega)
                · intro i hi; rw [zs_set, pq2 hz1 (by rw [zlen]; omega) (by rw [zlen]; omega), if_neg (by omega), hq0 i (by omega), Int.zero_mul]
                · rw [show nr_11 - (t - 1) = nr_11 - t + 1 by omega, zs_set]; exact pseudo_step (f := zval g_83 d_83) hI (hq0 low (by omega)) (pq2 hz1 (by rw [zlen]; omega) (by rw [zlen]; omega)) (fun i hi => by rw [hz2 i, if_pos (by omega)]) hfa hdL hdz (by omega)
      · refine sV (evGeq false rfl rfl (dF hc77)) (sK hK76 (cF rfl (wp_exit (xE (xE (bE (xN (hK50 _ _ (wp_seq_k fun K297 hK297 => ?_)))))))))
        have h298 := (PolyR.of_blk (S := fun b => w.heap.size ≤ b) (M := B) (n := nr_11) (c := nr_11) hB64 (AllN.sub hAR q5) (by (try dsimp only); omega) (by omega) (Nat.le_refl _) (by unfold CapMax; omega)).take (m := t) (by omega)
        refine wp_region_lit (sMs rfl ?_)
        have h300 : PolyR w56 (fun b => w.heap.size ≤ b) (some ⟨g43, 0, none⟩) (nr_11 - d) (nr_11 - d) (LQ) (B) := PolyR.of_blk hB65 (AllN.sub hAQ q5) (by (try dsimp only); omega) (by exact lq) (by omega) (by unfold CapMax; omega)
        refine sO (oCall rfl call69 (unipoly_Normal h300 (by omega) (by omega)) rfl ?_)
        rintro _ w302 ⟨qr_301, nr_301, lr_301, rfl, hE303, hgr_301, Br_301, hAr_301, kr_301, mr_301, e_301, ln_301, cn_301⟩
        have hz304 := hE303.size
        have hhr_301 : w56.heap.size ≤ qr_301 := hgr_301; have ltr_301 := Br_301.lt
        refine sMs rfl ?_
        have h306 := (h298.ext hE303)
        refine sO (oCall rfl call69 (unipoly_Normal h306 (by omega) (by omega)) rfl ?_)
        rintro _ w308 ⟨qr_307, nr_307, lr_307, rfl, hE309, hgr_307, Br_307, hAr_307, kr_307, mr_307, e_307, ln_307, cn_307⟩
        have hz310 := hE309.size
        have hhr_307 : w302.heap.size ≤ qr_307 := hgr_307; have ltr_307 := Br_307.lt
        refine sAs rfl (sAs rfl (sAi rfl (sK hK297 (wp_ret (ret3 (.slice (some ⟨qr_301, 0, none⟩) nr_301 nr_301) (.slice (some ⟨qr_307, 0, none⟩) nr_307 nr_307) (.int .i64 (0)) Tryz.results97 (resT rfl) (resT rfl) (resT rfl) ?_)))))
        have hBE : B ≤ psM Mf Mg ((trimZ (zs lf)).length - ((trimZ (zs lg)).length - 1)) := psM_le hB (by omega)
        have hB312 := (Br_301.ext hE309)
        have h314 := (hAr_301.ext hE309)
        have h313 : PolyR w308 (fun b => qr_301 ≤ b) (some ⟨qr_301, 0, none⟩) nr_301 nr_301 (lr_301) ((B)) := PolyR.of_blk hB312 (AllN.sub h314 q5) (by (try dsimp only); omega) (by exact lq) (by omega) (by unfold CapMax; omega)
        have h315 : PolyR w308 (fun b => qr_307 ≤ b) (some ⟨qr_307, 0, none⟩) nr_307 nr_307 (lr_307) ((B)) := PolyR.of_blk Br_307 (AllN.sub hAr_307 q5) (by (try dsimp only); omega) (by exact lq) (by omega) (by unfold CapMax; omega)
        have hR316 := ((((((hR24.trans hE28).trans hE35).rx hU39).xr hE46).tr hF63).xr hE303).xr hE309
        exact ⟨(some ⟨qr_301, 0, none⟩), nr_301, nr_301, lr_301, (some ⟨qr_307, 0, none⟩), nr_307, nr_307, lr_307, (0), rfl, (Frm.mono hR316 q4), (PolyR.le (PolyR.sub h313 q5) (by omega)), (PolyR.le (PolyR.sub h315 q5) (by omega)), rfl, (by intro x; rw [hFl, hd, e_301, e_307, evQ_trim, evQ_trim, show nr_11 - (d + 1 - 1) = nr_11 - t by omega, hI x, show zs (LR.take t) = (zs LR).take t from List.map_take]), (by omega), (by rw [e_307]; exact canon_trim isZI _), (by omega), (by omega)⟩
end Go.Proofs.YtbniolgfaeiedaaGreat
