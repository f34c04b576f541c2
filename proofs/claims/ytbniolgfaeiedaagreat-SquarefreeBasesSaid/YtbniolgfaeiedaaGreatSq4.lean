/-
  Walk of package unidiv: exact division.
-/
import Derived.Test.YtbniolgfaeiedaaGreatSq2
import Derived.Test.YtbniolgfaeiedaaGreatLibB
namespace Go.Proofs.YtbniolgfaeiedaaGreat
open Go.RowKit Go.Gx
set_option maxHeartbeats 4000000 in
theorem unidiv_Exact {w : World} {Sf : Nat → Prop} {Af : Option Addr} {nf cf Mf : Nat} {lf : List RI} {Sg : Nat → Prop} {Ag : Option Addr} {ng cg Mg : Nat} {lg : List RI} (hf : PolyR w Sf Af nf cf lf Mf) (hg : PolyR w Sg Ag ng cg lg Mg) (hnf : nf ≤ 64) (hMf : Mf ≤ 268435456) (hng : ng ≤ 64) (hMg : Mg ≤ 1048576) (hg0 : ldP (zs lg) ≠ 0) : Calls Tryz.prog 66 #[(.slice Af nf cf), (.slice Ag ng cg)] w (Ret fun v w' => ∃ (Aq : Option Addr) (nq : Nat) (cq : Nat) (lq : List RI) (xe : Int), v = (.tuple #[(.slice Aq nq cq), (.int .i64 (xe))]) ∧ Ext w w' ∧ PolyR w' (fun b => w.heap.size ≤ b) Aq nq cq lq (exM Mf Mg ((trimZ (zs lf)).length - ((trimZ (zs lg)).length - 1))) ∧ ((xe = 0 ∧ ∀ x : Rat, evQ (zs lf) x = evQ (zs lq) x * evQ (zs lg) x) ∨ (xe = 3 ∧ exFail (zs lf) (zs lg))) ∧ (AllC lq) ∧ (nq ≤ nf) ∧ (xe = 0 → nq = (trimZ (zs lf)).length - ((trimZ (zs lg)).length - 1))) := by
  have ⟨kf, jf, mf⟩ := hf.lkm
  replace hf := hf.low
  have ⟨kg, jg, mg⟩ := hg.lkm
  replace hg := hg.low
  refine enter Tryz.func66 rfl Tryz.ntmps66 rfl (rS fun K1 hK1 => sAs rfl (sAi rfl (sK hK1 (rS fun K2 hK2 => sMs rfl (sO (oCall rfl call19 (unipoly_Degree hg (by omega) (by omega)) rfl ?_))))))
  rintro _ w4 ⟨xr_3, rfl, hE5, e_3⟩
  have hz6 := hE5.size
  obtain ⟨d, hd⟩ := ld_len hg0
  obtain rfl : xr_3 = (d : Int) := by omega
  have ⟨hdL, hdz, _⟩ := ld_deg hd; have hdn : d + 1 ≤ ng := by have h := trimZ_len (zs lg); rw [zlen] at h; omega
  refine sAi rfl (sK hK2 (wp_seq_k fun K7 hK7 => rS fun K8 hK8 => sMi rfl (sV (evLss false rfl rfl (dF (by omega))) (sK hK8 (cF rfl (wp_skip (xN (hK7 _ _ (rS fun K9 hK9 => sMs rfl ?_)))))))))
  have h10 := (hg.ext hE5)
  refine sO (oCall rfl call53 (unipoly_Lead h10 (by omega) (by omega)) rfl ?_)
  rintro _ w12 ⟨gr_11, Ar_11, nr_11, cr_11, dr_11, rfl, hE13, hr_11, v_11, cn_11, le_11⟩
  have hz14 := hE13.size
  have ⟨lr_11, kr_11, mr_11⟩ := hr_11.lkm
  have h16 := hr_11.sub (S' := fun b => (w4.heap.size ≤ b) ∧ b < w12.heap.size) fun _ hb hs => ⟨hs, hb⟩
  have hLd : zval gr_11 dr_11 = ldP (zs lg) := v_11
  refine sO (oAlloc [(.bool false), (.slice none 0 0)] zero68 rfl (fun g17 w18 hg19 hE20 hz21 hB22 => sO (oStore [(.bool gr_11), (.slice Ar_11 nr_11 cr_11)] rfl rfl rfl sz68 rfl hB22 (Nat.le_of_ble_eq_true rfl) (fun w23 hU24 hz25 hB26 => ?_))))
  replace hB26 : Blk w23 g17 68 [(.bool gr_11), (.slice Ar_11 nr_11 cr_11)] := hB26
  refine sK hK9 (rS fun K27 hK27 => sMs rfl ?_)
  have hR28 := ((hE5.trans hE13).trans hE20).rx hU24
  have h29 := (hf.frmB hR28 q3)
  refine sO (oCall rfl call69 (unipoly_Normal h29 (by omega) (by omega)) rfl ?_)
  rintro _ w31 ⟨qr_30, nr_30, lr_30, rfl, hE32, hgr_30, Br_30, hAr_30, kr_30, mr_30, e_30, ln_30, cn_30⟩
  have hz33 := hE32.size
  have hhr_30 : w23.heap.size ≤ qr_30 := hgr_30; have ltr_30 := Br_30.lt
  have h35 := hAr_30.sub (S' := fun b => (qr_30 < b) ∧ b < w31.heap.size) fun _ hb hs => ⟨hs, hb⟩
  refine sAs rfl (sK hK27 (rS fun K36 hK36 => sMs rfl (sV (evLen Tryz.underlying32 rfl) (sMi rfl (sV (evSub (((nr_30 : Int)) - ((d : Int))) rfl rfl wI) (sV (evMax (((nr_30 - d : Nat) : Int)) rfl rfl (by split <;> omega)) (sO (oMake2 (nr_30 - d) Tryz.underlying32 inf68 cI cI (by omega) (by omega) (fun g37 w38 hg39 hE40 hz41 hB42 => ?_)))))))))
  have hB43 : Blk w38 g37 68 (cellsI (List.replicate (nr_30 - d) RI.zero)) := hB42
  refine sAs rfl (sK hK36 (wp_seq_k fun K44 hK44 => rS fun K45 hK45 => sMs rfl (sV (evLen Tryz.underlying32 rfl) (sV (evSub ((((nr_30 - d : Nat) : Int)) - 1) rfl rfl wI) (sAi rfl (sK hK45 (wp_block ?_)))))))
  have hB47 := (Br_30.ext hE40)
  have h48 := (h35.ext hE40)
  refine lLoop (fun m e w_ => ∃ (s : Nat) (LR : List RI) (LQ : List RI) (B : Nat), m = s ∧ e 1 = (.slice Ag ng cg) ∧ e 6 = (.int .i64 ((d : Int))) ∧ e 7 = (.pointer (some ⟨g17, 0, none⟩)) ∧ e 8 = (.slice (some ⟨qr_30, 0, none⟩) nr_30 nr_30) ∧ e 9 = (.slice (some ⟨g37, 0, none⟩) (nr_30 - d) (nr_30 - d)) ∧ e 10 = (.int .i64 ((s : Int) - 1)) ∧ Frm (fun b => b = qr_30 ∨ b = g37) w38 w_ ∧ Blk w_ qr_30 68 (cellsI LR) ∧ Blk w_ g37 68 (cellsI LQ) ∧ (s ≤ (nr_30 - d)) ∧ (B + (Mg + 14) * s ≤ Mf + (Mg + 14) * (nr_30 - d)) ∧ (LR.length = nr_30) ∧ (LQ.length = (nr_30 - d)) ∧ (AllN w_ (fun b => w.heap.size ≤ b ∧ b ≠ qr_30 ∧ b ≠ g37 ∧ b ≠ g17) (B) LR) ∧ (AllN w_ (fun b => w.heap.size ≤ b ∧ b ≠ qr_30 ∧ b ≠ g37 ∧ b ≠ g17) (B + 2) LQ) ∧ (AllC LQ) ∧ (∀ i, i < s → co (zs LQ) i = 0) ∧ (∀ i, s + d ≤ i → co (zs LR) i = 0) ∧ (∀ x : Rat, evQ (zs lf) x = evQ (zs LQ) x * evQ (zs lg) x + evQ (zs LR) x)) (((nr_30 - d))) ?_ ?_
  · refine ⟨((nr_30 - d)), (lr_30), (List.replicate (nr_30 - d) RI.zero), (Mf), rfl, rfl, rfl, rfl, rfl, rfl, cI, (Frm.refl _ _), ?_, ?_, ?_, ?_, ?_, ?_, ?_, ?_, ?_, ?_, ?_, ?_⟩
    · exact hB47
    · exact hB43
    · omega
    · exact Nat.le_refl _
    · omega
    · simp
    · exact AllN.le (AllN.sub h48 q5) (by omega)
    · exact AllN.zeros _
    · exact AllC.zeros _
    · intro i _; exact co_zeros _ i
    · intro i hi; exact zget_ge (n := nr_30) (by rw [zlen]; omega) i (by omega)
    · intro x; rw [evQ_zeros, e_30, evQ_trim]; grind
  · rintro m46 e60 w49 ⟨s, LR, LQ, B, hm59, hs50, hs51, hs52, hs53, hs54, hs55, hF56, hB57, hB58, hs, hB, hLR, hLQ, hAR, hAQ, hCQ, hq0, hR0, hI⟩
    obtain ⟨r61, rfl⟩ := sq (e := e60) (t := 1) hs50
    obtain ⟨r62, rfl⟩ := sq (e := r61) (t := 6) hs51
    obtain ⟨r63, rfl⟩ := sq (e := r62) (t := 7) hs52
    obtain ⟨r64, rfl⟩ := sq (e := r63) (t := 8) hs53
    obtain ⟨r65, rfl⟩ := sq (e := r64) (t := 9) hs54
    obtain ⟨r66, rfl⟩ := sq (e := r65) (t := 10) hs55
    have hz67 := hF56.size
    have hBK : (Mg + 14) * (nr_30 - d) ≤ (Mg + 14) * 64 := Nat.mul_le_mul_left _ (by omega)
    refine wp_seq_k fun K68 hK68 => rS fun K69 hK69 => sMi rfl ?_
    by_cases hc70 : ((s : Int) - 1) ≥ 0
    · refine sV (evGeq true rfl rfl (dT hc70)) (sK hK69 (cT rfl (wp_skip (xN (hK68 _ _ (wp_seq_k fun K71 hK71 => wp_block (wp_seq_k fun K72 hK72 => ?_)))))))
      obtain ⟨low, hlow⟩ : ∃ low, s = low + 1 := ⟨s - 1, by omega⟩
      have h73 := hAR.sub (S' := fun b => (w.heap.size ≤ b ∧ b ≠ qr_30 ∧ b ≠ g37 ∧ b ≠ g17) ∧ b < w49.heap.size) fun _ hb hs => ⟨hs, hb⟩
      have h74 := hAQ.sub (S' := fun b => (w.heap.size ≤ b ∧ b ≠ qr_30 ∧ b ≠ g37 ∧ b ≠ g17) ∧ b < w49.heap.size) fun _ hb hs => ⟨hs, hb⟩
      refine dBegin (fun b => w49.heap.size ≤ b) mixed (fun w75 hE76 hz77 => dMs 0 rfl rfl (dMi 1 rfl rfl (dMi 2 rfl rfl (dV 3 rfl (fun _ _ => evAdd (((s : Int) - 1) + ((d : Int))) rfl rfl wI) (dV 4 rfl (fun _ _ => evIx ((s - 1) + d) Tryz.underlying32 sz68 rfl rfl (((s - 1) + d) * 2)) ?_)))))
      have hB78 := (hB57.ext hE76)
      have h80 := (h73.ext hE76)
      obtain ⟨g_79, A_79, n_79, c_79, d_79, he_79, hp_79, hq_79, z_79⟩ := hB78.int (i := (s - 1) + d) (by exact lq)
      have hx_79 := h80 _ (List.mem_of_getElem? he_79)
      dsimp only at hx_79
      have h_79 := hx_79.1; have hM_79 := hx_79.2
      have ⟨l_79, k_79, m_79⟩ := h_79.lkm
      refine dV 5 rfl (fun _ hf => evLoadA [(.bool g_79), (.slice A_79 n_79 c_79)] agg68 sz68 rfl (cell2F hp_79 hq_79 hf hB78.lt (by (try dsimp only); omega))) ?_
      have hR82 := ((hE32.trans hE40).rx hF56).xr hE76
      have hB83 := (hB26.frm hR82 q1)
      refine dV 6 rfl (fun _ hf => evLoadAB [(.bool gr_11), (.slice Ar_11 nr_11 cr_11)] agg68 sz68 rfl (hB83.frm hf q1) rfl) (wAl1 (fun _ => (11, 68, [(.bool false), (.slice none 0 0)])) 11 (alOp rfl rfl zero68 rfl) fun F84 => wOp F84 7 (by kernel_rfl) fun fl85 w86 hE87 => ?_)
      have hz88 := hE87.size
      have h89 := (h_79.ext hE87)
      have hR90 := (((((hE20.rx hU24).xr hE32).xr hE40).tr hF56).xr hE76).xr hE87
      have h91 := (h16.frmB hR90 q3)
      refine dWp (i := 7) rfl rfl (oCall rfl call100 (division_Exact h89 h91 (by omega) (by omega) (by omega)) rfl ?_)
      rintro _ w93 ⟨gr_92, Ar_92, nr_92, cr_92, dr_92, xe_92, rfl, hE94, hr_92, ex_92, cn_92, le_92⟩
      refine ⟨hE94, wNext rfl ?_⟩
      have hz95 := hE94.size
      have ⟨lr_92, kr_92, mr_92⟩ := hr_92.lkm
      have h97 := hr_92.sub (S' := fun b => w86.heap.size ≤ b ∧ b < w93.heap.size) fun _ hb hs => ⟨hs, hb⟩
      refine wEv 8 rfl (v := (.tuple #[(.agg #[(.bool gr_92), (.slice Ar_92 nr_92 cr_92)]), (.int .i64 (xe_92))])) (fun _ => (fun _ _ => rfl)) rfl (fun _ => rfl) (by kernel_rfl) (wEv 9 rfl (v := (.agg #[(.bool gr_92), (.slice Ar_92 nr_92 cr_92)])) (fun _ => (fun _ _ => rfl)) rfl (fun _ => rfl) (by kernel_rfl) (wEv 10 rfl (v := (.int .i64 (xe_92))) (fun _ => (fun _ _ => rfl)) rfl (fun _ => rfl) (by kernel_rfl) (wEnd1 F84 #[true, true, true, true, true, true, true, true, true, true, true, true, false, false] (by kernel_rfl) fun g98 w99 hE100 hb101 hB102 ho103 => ?_)))
      have hz104 := hE100.size
      have lt105 := hB102.lt
      have h106 := (h97.ext hE100)
      have h107 := h106.sub (S' := fun b => (w86.heap.size ≤ b ∧ b < w93.heap.size) ∧ b ≠ g98) fun b _ hs => ⟨hs, ho103.ne w86.heap.size w93.heap.size (by simp) b hs.1 hs.2⟩
      refine dOp 12 rfl rfl (by kernel_rfl) (oStore [(.bool gr_92), (.slice Ar_92 nr_92 cr_92)] rfl rfl rfl sz68 rfl hB102 (Nat.le_of_ble_eq_true rfl) (fun w108 hU109 hz110 hB111 => ?_))
      replace hB111 : Blk w108 g98 68 [(.bool gr_92), (.slice Ar_92 nr_92 cr_92)] := hB111
      refine ⟨(hU109.mono q4), dAi 13 rfl rfl (dDone (by kernel_rfl) (xN (hK72 _ _ (wp_seq_k fun K112 hK112 => rS fun K113 hK113 => sMi rfl ?_))))⟩
      by_cases hc114 : xe_92 ≠ 0
      · refine sV (evNeq true rfl rfl (dT hc114)) ?_
        have hbad := (ex_92.resolve_left fun hh => hc114 hh.1)
        refine sK hK113 (cT rfl (rS fun K115 hK115 => sAs rfl (sAi rfl (sK hK115 (wp_ret (xR (bR (xR (xR (bR (xR (ret2 (.slice none 0 0) (.int .i64 (3)) Tryz.results66 (resT rfl) (resT rfl) ?_))))))))))))
        have hFl : (trimZ (zs lf)).length = nr_30 := by rw [← e_30, zlen]; omega
        have hR116 := (((((((hR28.xr hE32).xr hE40).tr hF56).xr hE76).xr hE87).xr hE94).xr hE100).tr hU109
        exact ⟨none, 0, 0, [], (3), rfl, (Frm.mono hR116 q4), PolyR.nil, (.inr ⟨rfl, zs LQ, zs LR, s, hI, fun i hi => hR0 i (by omega), .inl ⟨by omega, by have h := hbad.2; rw [hLd, z_79] at h; rw [hd, show s - 1 + (d + 1 - 1) = s - 1 + d by omega]; exact h⟩⟩), AllC.nil, (by omega), (fun h => absurd h (by decide))⟩
      · refine sV (evNeq false rfl rfl (dF hc114)) ?_
        have hgood := (ex_92.resolve_right fun hh => hc114 (by have h3 := hh.1; omega)).2
        have hfe : co (zs LR) (low + d) = ldP (zs lg) * zval gr_92 dr_92 := by rw [← hLd, ← hgood, z_79]; congr 1; omega
        refine sK hK113 (cF rfl (wp_skip (xN (hK112 _ _ (rS fun K117 hK117 => sMs rfl (sMi rfl (sV (evLoadAB [(.bool gr_92), (.slice Ar_92 nr_92 cr_92)] agg68 sz68 rfl hB111 rfl) (sV (evIx (s - 1) Tryz.underlying32 sz68 rfl rfl ((s - 1) * 2)) ?_))))))))
        have hR118 := (((hE76.trans hE87).trans hE94).trans hE100).rx hU109
        have hB119 := (hB58.frm hR118 q1)
        refine sO (oStore [(.bool gr_92), (.slice Ar_92 nr_92 cr_92)] rfl rfl rfl sz68 rfl hB119 (by rw [cellsI_len]; simp only [List.length_cons, List.length_nil]; exact lq) (fun w120 hU121 hz122 hB123 => ?_))
        replace hB123 := (cellsI_set (l := LQ) (i := s - 1) ⟨gr_92, Ar_92, nr_92, cr_92, dr_92⟩ (by exact lq)) ▸ hB123
        replace hB123 : Blk w120 g37 68 (cellsI (LQ.set low ⟨gr_92, Ar_92, nr_92, cr_92, dr_92⟩)) := (by rw [show s - 1 = low by omega] : (LQ).set (s - 1) ⟨gr_92, Ar_92, nr_92, cr_92, dr_92⟩ = LQ.set low ⟨gr_92, Ar_92, nr_92, cr_92, dr_92⟩) ▸ hB123
        refine sK hK117 (wp_seq_k fun K124 hK124 => ?_)
        have hR125 := hR118.tr hU121
        have h126 := (h74.frmB hR125 q3)
        have hR127 := hU109.tr hU121
        have h128 := (h107.frmB hR127 q3)
        have hAq129 : AllN w120 (fun b => w.heap.size ≤ b ∧ b ≠ qr_30 ∧ b ≠ g37 ∧ b ≠ g17 ∧ b ≠ g98) (B + 2) (LQ.set low ⟨gr_92, Ar_92, nr_92, cr_92, dr_92⟩) := AllN.set (AllN.sub h126 q5) (NatR.sub h128 q5) (by (try dsimp only); omega)
        refine wp_region_lit (sAi rfl (sK hK124 (wp_block ?_)))
        have hR131 := (((hE87.trans hE94).trans hE100).rx hU109).tr hU121
        have hB132 := (hB78.frm hR131 q1)
        have h133 := (h80.frmB hR131 q3)
        refine lLoop (fun m e w_ => ∃ (j : Nat) (L2 : List RI), m = d + 1 - j ∧ e 1 = (.slice Ag ng cg) ∧ e 6 = (.int .i64 ((d : Int))) ∧ e 7 = (.pointer (some ⟨g17, 0, none⟩)) ∧ e 8 = (.slice (some ⟨qr_30, 0, none⟩) nr_30 nr_30) ∧ e 9 = (.slice (some ⟨g37, 0, none⟩) (nr_30 - d) (nr_30 - d)) ∧ e 10 = (.int .i64 ((s : Int) - 1)) ∧ e 11 = (.pointer (some ⟨g98, 0, none⟩)) ∧ e 13 = (.int .i64 ((j : Int))) ∧ Frm (fun b => b = qr_30) w120 w_ ∧ Blk w_ qr_30 68 (cellsI L2) ∧ (j ≤ d + 1) ∧ (L2.length = nr_30) ∧ (AllN w_ (fun b => w.heap.size ≤ b ∧ b ≠ qr_30 ∧ b ≠ g37 ∧ b ≠ g17 ∧ b ≠ g98) (B + Mg + 13) L2) ∧ (∀ i r, low + j ≤ i → L2[i]? = some r → r.n ≤ B) ∧ (∀ i, co (zs L2) i = if i < low + j then co (zs LR) i - zval gr_92 dr_92 * cs (zs lg) low i else co (zs LR) i)) (d + 1 - (0)) ?_ ?_
        · refine ⟨(0), (LR), rfl, rfl, rfl, rfl, rfl, rfl, rfl, rfl, cI, (Frm.refl _ _), ?_, ?_, ?_, ?_, ?_, ?_⟩
          · exact hB132
          · omega
          · exact hLR
          · exact AllN.le (AllN.sub h133 q5) (by omega)
          · exact fun i r _ hr => (h133 r (List.mem_of_getElem? hr)).2
          · exact xsub_start
        · rintro m130 e146 w134 ⟨j, L2, hm145, hs135, hs136, hs137, hs138, hs139, hs140, hs141, hs142, hF143, hB144, hj2, hL2, hA2, hD2, hz2⟩
          obtain ⟨r147, rfl⟩ := sq (e := e146) (t := 1) hs135
          obtain ⟨r148, rfl⟩ := sq (e := r147) (t := 6) hs136
          obtain ⟨r149, rfl⟩ := sq (e := r148) (t := 7) hs137
          obtain ⟨r150, rfl⟩ := sq (e := r149) (t := 8) hs138
          obtain ⟨r151, rfl⟩ := sq (e := r150) (t := 9) hs139
          obtain ⟨r152, rfl⟩ := sq (e := r151) (t := 10) hs140
          obtain ⟨r153, rfl⟩ := sq (e := r152) (t := 11) hs141
          obtain ⟨r154, rfl⟩ := sq (e := r153) (t := 13) hs142
          have hz155 := hF143.size
          refine wp_seq_k fun K156 hK156 => rS fun K157 hK157 => sMi rfl (sMi rfl ?_)
          by_cases hc158 : ((j : Int)) ≤ ((d : Int))
          · refine sV (evLeq true rfl rfl (dT hc158)) (sK hK157 (cT rfl (wp_skip (xN (hK156 _ _ (wp_seq_k fun K159 hK159 => wp_block (dBegin (fun b => b = qr_30) mixed (fun w160 hE161 hz162 => dMs 0 rfl rfl (dMi 1 rfl rfl (dMi 2 rfl rfl (dV 3 rfl (fun _ _ => evAdd (((low + j : Nat) : Int)) rfl rfl (wI64 (by omega))) (dMs 4 rfl rfl (dMi 5 rfl rfl (dMi 6 rfl rfl (dV 7 rfl (fun _ _ => evAdd (((low + j : Nat) : Int)) rfl rfl (wI64 (by omega))) (dV 8 rfl (fun _ _ => evIx (low + j) Tryz.underlying32 sz68 rfl rfl ((low + j) * 2)) ?_))))))))))))))))
            have hR163 := (hU121.tr hF143).xr hE161
            have hB164 := (hB111.frm hR163 q1)
            refine dV 10 rfl (fun _ hf => evLoadAB [(.bool gr_92), (.slice Ar_92 nr_92 cr_92)] agg68 sz68 rfl (hB164.frm hf q1) rfl) (dMs 11 rfl rfl (dMi 12 rfl rfl ?_))
            have hR165 := ((((((((((((hE13.trans hE20).rx hU24).xr hE32).xr hE40).tr hF56).xr hE76).xr hE87).xr hE94).xr hE100).tr hU109).tr hU121).tr hF143).xr hE161
            have h166 := (h10.frmB hR165 q3)
            obtain ⟨b167, o168, rfl⟩ := h166.base (by omega)
            refine dV 13 rfl (fun _ _ => evIx j Tryz.underlying32 sz68 rfl rfl (o168 + (j * 2))) ?_
            obtain ⟨g_169, A_169, n_169, c_169, d_169, he_169, hp_169, hq_169, h_169, hM_169, hS_169, hb_169, z_169⟩ := h166.at_ (i := j) (by omega)
            have ⟨l_169, k_169, m_169⟩ := h_169.lkm
            refine dV 14 rfl (fun _ hf => evLoadA [(.bool g_169), (.slice A_169 n_169 c_169)] agg68 sz68 rfl (cell2F hp_169 hq_169 hf hb_169 (by (try dsimp only at hS_169 ⊢); omega))) (dTwo 9 15 (by kernel_rfl) ?_ ?_)
            · have hB171 := (hB144.ext hE161)
              have h173 := (hA2.ext hE161)
              obtain ⟨g_172, A_172, n_172, c_172, d_172, he_172, hp_172, hq_172, z_172⟩ := hB171.int (i := low + j) (by exact lq)
              have hx_172 := h173 _ (List.mem_of_getElem? he_172)
              dsimp only at hx_172
              have h_172 := hx_172.1; have hM_172 := hx_172.2
              have ⟨l_172, k_172, m_172⟩ := h_172.lkm
              refine dWp (i := 9) rfl rfl (oEv (v := (.agg #[(.bool g_172), (.slice A_172 n_172 c_172)])) (evLoadA [(.bool g_172), (.slice A_172 n_172 c_172)] agg68 sz68 rfl (cell2 hp_172 hq_172)) rfl ⟨Frm.refl _ _, ?_⟩)
              have hn2 := hD2 (low + j) _ (Nat.le_refl _) he_172; dsimp only at hn2
              have hR175 := hF143.xr hE161
              have h176 := (h128.frmB hR175 q3)
              refine dOp 15 rfl rfl (by kernel_rfl) (oCall rfl call60 (integer_Mul h176 h_169 (by omega)) rfl ?_)
              rintro _ w178 ⟨gr_177, Ar_177, nr_177, cr_177, dr_177, rfl, hE179, hr_177, v_177, cn_177, le_177⟩
              refine ⟨(Frm.of_ext hE179), ?_⟩
              have hz180 := hE179.size
              have ⟨lr_177, kr_177, mr_177⟩ := hr_177.lkm
              have h182 := (h_172.ext hE179)
              refine dOp 16 rfl rfl (by kernel_rfl) (oCall rfl call77 (integer_Sub h182 hr_177 (by omega) (by omega)) rfl ?_)
              rintro _ w184 ⟨gr_183, Ar_183, nr_183, cr_183, dr_183, rfl, hE185, hr_183, v_183, cn_183, le_183⟩
              refine ⟨(Frm.of_ext hE185), ?_⟩
              have hz186 := hE185.size
              have ⟨lr_183, kr_183, mr_183⟩ := hr_183.lkm
              refine dV 17 rfl (fun _ _ => evIx (low + j) Tryz.underlying32 sz68 rfl rfl ((low + j) * 2)) ?_
              have hR188 := hE179.trans hE185
              have hB189 := (hB171.ext hR188)
              refine dOp 18 rfl rfl (by kernel_rfl) (oStore [(.bool gr_183), (.slice Ar_183 nr_183 cr_183)] rfl rfl rfl sz68 rfl hB189 (by rw [cellsI_len]; simp only [List.length_cons, List.length_nil]; exact lq) (fun w190 hU191 hz192 hB193 => ?_))
              replace hB193 := (cellsI_set (l := L2) (i := low + j) ⟨gr_183, Ar_183, nr_183, cr_183, dr_183⟩ (by exact lq)) ▸ hB193
              refine ⟨hU191, dDone (by kernel_rfl) (bN (xN (hK159 _ _ (wp_region_lit (sMi rfl (sV (evAdd (((j : Int)) + 1) rfl rfl wI) (sAi rfl (sDone ?_))))))))⟩
              have hR194 := ((hE161.trans hE179).trans hE185).rx hU191
              have hR195 := hR188.rx hU191
              have h196 := (h173.frmB hR195 q3)
              have h197 := (hr_183.frmB hU191 q3)
              refine again (d + 1 - (j + 1)) (by omega) ⟨(j + 1), ((L2).set (low + j) ⟨gr_183, Ar_183, nr_183, cr_183, dr_183⟩), rfl, rfl, rfl, rfl, rfl, rfl, rfl, rfl, cI, (hF143.trans hR194), ?_, ?_, ?_, ?_, ?_, ?_⟩
              · exact hB193
              · omega
              · rw [List.length_set]; exact hL2
              · exact AllN.set h196 (NatR.sub h197 q5) (by (try dsimp only); omega)
              · exact small_set (k := low + j) hD2
              · rw [zs_set]; exact xsub_step hz2 (by rw [zlen]; omega) (by show zval _ _ = _; rw [v_183, v_177, z_172, z_169])
            · have hR198 := hF143.xr hE161
              have h199 := (h128.frmB hR198 q3)
              refine dWp (i := 15) rfl rfl (oCall rfl call60 (integer_Mul h199 h_169 (by omega)) rfl ?_)
              rintro _ w201 ⟨gr_200, Ar_200, nr_200, cr_200, dr_200, rfl, hE202, hr_200, v_200, cn_200, le_200⟩
              refine ⟨(Frm.of_ext hE202), ?_⟩
              have hz203 := hE202.size
              have ⟨lr_200, kr_200, mr_200⟩ := hr_200.lkm
              have hR205 := hE161.trans hE202
              have hB206 := (hB144.ext hR205)
              have h208 := (hA2.ext hR205)
              obtain ⟨g_207, A_207, n_207, c_207, d_207, he_207, hp_207, hq_207, z_207⟩ := hB206.int (i := low + j) (by exact lq)
              have hx_207 := h208 _ (List.mem_of_getElem? he_207)
              dsimp only at hx_207
              have h_207 := hx_207.1; have hM_207 := hx_207.2
              have ⟨l_207, k_207, m_207⟩ := h_207.lkm
              refine dOp 9 rfl rfl (by kernel_rfl) (oEv (v := (.agg #[(.bool g_207), (.slice A_207 n_207 c_207)])) (evLoadA [(.bool g_207), (.slice A_207 n_207 c_207)] agg68 sz68 rfl (cell2 hp_207 hq_207)) rfl ⟨Frm.refl _ _, ?_⟩)
              have hn2 := hD2 (low + j) _ (Nat.le_refl _) he_207; dsimp only at hn2
              refine dOp 16 rfl rfl (by kernel_rfl) (oCall rfl call77 (integer_Sub h_207 hr_200 (by omega) (by omega)) rfl ?_)
              rintro _ w211 ⟨gr_210, Ar_210, nr_210, cr_210, dr_210, rfl, hE212, hr_210, v_210, cn_210, le_210⟩
              refine ⟨(Frm.of_ext hE212), ?_⟩
              have hz213 := hE212.size
              have ⟨lr_210, kr_210, mr_210⟩ := hr_210.lkm
              refine dV 17 rfl (fun _ _ => evIx (low + j) Tryz.underlying32 sz68 rfl rfl ((low + j) * 2)) ?_
              have hB215 := (hB206.ext hE212)
              refine dOp 18 rfl rfl (by kernel_rfl) (oStore [(.bool gr_210), (.slice Ar_210 nr_210 cr_210)] rfl rfl rfl sz68 rfl hB215 (by rw [cellsI_len]; simp only [List.length_cons, List.length_nil]; exact lq) (fun w216 hU217 hz218 hB219 => ?_))
              replace hB219 := (cellsI_set (l := L2) (i := low + j) ⟨gr_210, Ar_210, nr_210, cr_210, dr_210⟩ (by exact lq)) ▸ hB219
              refine ⟨hU217, dDone (by kernel_rfl) (bN (xN (hK159 _ _ (wp_region_lit (sMi rfl (sV (evAdd (((j : Int)) + 1) rfl rfl wI) (sAi rfl (sDone ?_))))))))⟩
              have hR220 := (hR205.trans hE212).rx hU217
              have hR221 := hE212.rx hU217
              have h222 := (h208.frmB hR221 q3)
              have h223 := (hr_210.frmB hU217 q3)
              refine again (d + 1 - (j + 1)) (by omega) ⟨(j + 1), ((L2).set (low + j) ⟨gr_210, Ar_210, nr_210, cr_210, dr_210⟩), rfl, rfl, rfl, rfl, rfl, rfl, rfl, rfl, cI, (hF143.trans hR220), ?_, ?_, ?_, ?_, ?_, ?_⟩
              · exact hB219
              · omega
              · rw [List.length_set]; exact hL2
              · exact AllN.set h222 (NatR.sub h223 q5) (by (try dsimp only); omega)
              · exact small_set (k := low + j) hD2
              · rw [zs_set]; exact xsub_step hz2 (by rw [zlen]; omega) (by show zval _ _ = _; rw [v_210, v_200, z_207, z_169])
          · refine sV (evLeq false rfl rfl (dF hc158)) (sK hK157 (cF rfl (wp_exit (xE (xE (bE (bN (xN (hK71 _ _ (wp_region_lit (sMi rfl (sV (evSub (((s : Int) - 1) - 1) rfl rfl wI) (sAi rfl (sDone ?_))))))))))))))
            have hR224 := hR125.tr hF143
            have hB225 := (hB123.frm hF143 q1)
            have h226 := (hAq129.frmB hF143 q3)
            refine again ((s - 1)) (by omega) ⟨(s - 1), (L2), (LQ.set low ⟨gr_92, Ar_92, nr_92, cr_92, dr_92⟩), (B + (Mg + 14)), rfl, rfl, rfl, rfl, rfl, rfl, cI, (Frm.mono (hF56.tr hR224) q4), ?_, ?_, ?_, ?_, ?_, ?_, ?_, ?_, ?_, ?_, ?_, ?_⟩
            · exact hB144
            · exact hB225
            · omega
            · exact bud_step hB (by omega)
            · exact hL2
            · rw [List.length_set]; exact hLQ
            · exact AllN.le (AllN.sub hA2 q5) (by omega)
            · exact AllN.le (AllN.sub h226 q5) (by omega)
            · exact AllC.set hCQ cn_92
            · intro i hi; rw [zs_set, co_setZ (by rw [zlen]; omega), if_neg (by omega)]; exact hq0 i (by omega)
            · exact xsub_top (xsub_all hz2 (by omega) hdz) hlow hR0 hdL hdz hfe
            · rw [zs_set]; exact exact_step hI (hq0 low (by omega)) (co_setZ (by rw [zlen]; omega)) (xsub_all hz2 (by omega) hdz)
    · refine sV (evGeq false rfl rfl (dF hc70)) (sK hK69 (cF rfl (wp_exit (xE (xE (bE (xN (hK44 _ _ (wp_seq_k fun K227 hK227 => rS fun K228 hK228 => sMs rfl ?_)))))))))
      have h229 : PolyR w49 (fun b => w.heap.size ≤ b) (some ⟨qr_30, 0, none⟩) nr_30 nr_30 (LR) (B) := PolyR.of_blk hB57 (AllN.sub hAR q5) (by (try dsimp only); omega) (by exact lq) (by omega) (by unfold CapMax; omega)
      refine sO (oCall rfl call19 (unipoly_Degree h229 (by omega) (by omega)) rfl ?_)
      rintro _ w231 ⟨xr_230, rfl, hE232, e_230⟩
      have hz233 := hE232.size
      by_cases hc234 : xr_230 ≥ 0
      · refine sV (evGeq true rfl rfl (dT hc234)) (sK hK228 (cT rfl (rS fun K235 hK235 => sAs rfl (sAi rfl (sK hK235 (wp_ret (xR (ret2 (.slice none 0 0) (.int .i64 (3)) Tryz.results66 (resT rfl) (resT rfl) ?_))))))))
        have hFl : (trimZ (zs lf)).length = nr_30 := by rw [← e_30, zlen]; omega
        have hR236 := (((hR28.xr hE32).xr hE40).tr hF56).xr hE232
        exact ⟨none, 0, 0, [], (3), rfl, (Frm.mono hR236 q4), PolyR.nil, (.inr ⟨rfl, zs LQ, zs LR, 0, hI, fun i hi => hR0 i (by omega), .inr ⟨rfl, co_ne_of (R := zs LR) (by have h := e_230; omega)⟩⟩), AllC.nil, (by omega), (fun h => absurd h (by decide))⟩
      · refine sV (evGeq false rfl rfl (dF hc234)) (sK hK228 (cF rfl (wp_skip (xN (hK227 _ _ (rS fun K237 hK237 => sMs rfl (sAs rfl (sAi rfl (sK hK237 (wp_ret (ret2 (.slice (some ⟨g37, 0, none⟩) (nr_30 - d) (nr_30 - d)) (.int .i64 (0)) Tryz.results66 (resT rfl) (resT rfl) ?_)))))))))))
        have hFl : (trimZ (zs lf)).length = nr_30 := by rw [← e_30, zlen]; omega
        have hBE : B + 2 ≤ exM Mf Mg ((trimZ (zs lf)).length - ((trimZ (zs lg)).length - 1)) := exM_le hB (by omega)
        have hB238 := (hB58.ext hE232)
        have h240 := (hAQ.ext hE232)
        have h239 : PolyR w231 (fun b => w.heap.size ≤ b) (some ⟨g37, 0, none⟩) (nr_30 - d) (nr_30 - d) (LQ) (B + 2) := PolyR.of_blk hB238 (AllN.sub h240 q5) (by (try dsimp only); omega) (by exact lq) (by omega) (by unfold CapMax; omega)
        have hR241 := (((hR28.xr hE32).xr hE40).tr hF56).xr hE232
        exact ⟨(some ⟨g37, 0, none⟩), (nr_30 - d), (nr_30 - d), LQ, (0), rfl, (Frm.mono hR241 q4), (PolyR.le (PolyR.sub h239 q5) (by omega)), (.inl ⟨rfl, fun x => by rw [hI x, evQ_nil_of (R := zs LR) (by have h := e_230; omega)]; grind⟩), hCQ, (by omega), (fun _ => by omega)⟩
end Go.Proofs.YtbniolgfaeiedaaGreat
