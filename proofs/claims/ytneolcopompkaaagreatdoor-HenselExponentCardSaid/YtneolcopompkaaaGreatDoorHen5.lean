/-
  Walk of package hensel: the remainder by a monic polynomial.
-/
import Derived.Test.YtneolcopompkaaaGreatDoorHen4
namespace Go.Proofs.YtneolcopompkaaaGreatDoor
open Go.RowKit Go.Gx
set_option maxHeartbeats 4000000 in
theorem hensel_remainder {w : World} {Sf : Nat → Prop} {Af : Option Addr} {nf cf Mf : Nat} {lf : List RI} {Sg : Nat → Prop} {Ag : Option Addr} {ng cg Mg : Nat} {lg : List RI} {gm : Bool} {Sm : Nat → Prop} {Am : Option Addr} {nm cm : Nat} {dm : List Nat} (hf : PolyR w Sf Af nf cf lf Mf) (hg : PolyR w Sg Ag ng cg lg Mg) (hm : NatR w Sm Am nm cm dm) (hnf : nf ≤ 1024) (hMf : Mf ≤ 16777216) (hng : ng ≤ 128) (hMg : Mg ≤ 65536) (hnm : nm ≤ 65536) (hm0 : zval gm dm ≠ 0) (hgd : 0 < (trimZ (zs lg)).length) : Calls Tryz.prog 101 #[(.slice Af nf cf), (.slice Ag ng cg), (.agg #[(.bool gm), (.slice Am nm cm)])] w (Ret fun v w' => ∃ (Ar : Option Addr) (nr : Nat) (cr : Nat) (lr : List RI), v = (.slice Ar nr cr) ∧ Ext w w' ∧ PolyR w' (fun b => w.heap.size ≤ b) Ar nr cr lr (nm + 2) ∧ (zs lr = remZ (zval gm dm).natAbs (zs lf) (zs lg)) ∧ (nr < (trimZ (zs lg)).length) ∧ (nr ≤ nf) ∧ (AllC lr)) := by
  have ⟨kf, jf, mf⟩ := hf.lkm
  replace hf := hf.low
  have ⟨kg, jg, mg⟩ := hg.lkm
  replace hg := hg.low
  have ⟨lm, km, mm⟩ := hm.lkm
  replace hm := hm.low
  refine enter Tryz.func101 rfl Tryz.ntmps101 rfl (rS fun K1 hK1 => sO (oBox [(.bool gm), (.slice Am nm cm)] rfl rfl (fun g2 w3 hg4 hE5 hz6 hB7 => sAs rfl (sK hK1 (rS fun K8 hK8 => sMs rfl (sV (evLoadAB [(.bool gm), (.slice Am nm cm)] agg25 sz25 rfl hB7 rfl) ?_))))))
  have h9 := (hf.ext hE5)
  have h10 := (hm.ext hE5)
  refine sO (oCall rfl call68 (hensel_reduce_own h9 h10 (by omega) (by omega) (by omega) (by omega)) rfl ?_)
  rintro _ w12 ⟨qr_11, nr_11, lr_11, rfl, hE13, hgr_11, Br_11, hAr_11, kr_11, mr_11, e_11, le_11, cn_11⟩
  have hz14 := hE13.size
  have hhr_11 : w3.heap.size ≤ qr_11 := hgr_11; have ltr_11 := Br_11.lt
  have h16 := hAr_11.sub (S' := fun b => (qr_11 < b) ∧ b < w12.heap.size) fun _ hb hs => ⟨hs, hb⟩
  refine sAs rfl (sK hK8 (rS fun K17 hK17 => sMs rfl ?_))
  have hR18 := hE5.trans hE13
  have h19 := (hg.ext hR18)
  refine sO (oCall rfl call32 (unipoly_Degree h19 (by omega) (by omega)) rfl ?_)
  rintro _ w21 ⟨xr_20, rfl, hE22, e_20⟩
  have hz23 := hE22.size
  obtain ⟨d, hd⟩ : ∃ d, (trimZ (zs lg)).length = d + 1 := ⟨(trimZ (zs lg)).length - 1, by omega⟩
  obtain rfl : xr_20 = (d : Int) := by omega
  have hdn : d + 1 ≤ ng := by have h := trimZ_len (zs lg); rw [zlen] at h; omega
  refine sAi rfl (sK hK17 (wp_seq_k fun K24 hK24 => rS fun K25 hK25 => sMs rfl (sV (evLen Tryz.underlying39 rfl) (sV (evSub (((nr_11 : Int)) - 1) rfl rfl wI) (sAi rfl (sK hK25 (wp_block ?_)))))))
  have hB27 := (Br_11.ext hE22)
  have h28 := (h16.ext hE22)
  refine lLoop (fun m e w_ => ∃ (u : Nat) (LR : List RI), m = u ∧ e 1 = (.slice Ag ng cg) ∧ e 5 = (.pointer (some ⟨g2, 0, none⟩)) ∧ e 7 = (.slice (some ⟨qr_11, 0, none⟩) nr_11 nr_11) ∧ e 8 = (.int .i64 ((d : Int))) ∧ e 9 = (.int .i64 ((u : Int) - 1)) ∧ Frm (fun b => b = qr_11) w21 w_ ∧ Blk w_ qr_11 25 (cellsI LR) ∧ (u ≤ nr_11) ∧ (LR.length = nr_11) ∧ (AllN w_ (fun b => w.heap.size ≤ b ∧ b ≠ qr_11) (nm + Mg + 4 + (nr_11 - u)) LR) ∧ (remGo (zval gm dm).natAbs (zs lg) d (u - d) (zs LR) = remGo (zval gm dm).natAbs (zs lg) d (nr_11 - d) (zs lr_11))) ((nr_11)) ?_ ?_
  · refine ⟨(nr_11), (lr_11), rfl, rfl, rfl, rfl, rfl, cI, (Frm.refl _ _), ?_, ?_, ?_, ?_, ?_⟩
    · exact hB27
    · omega
    · omega
    · exact AllN.le (AllN.sub h28 q5) (by omega)
    · rfl
  · rintro m26 e38 w29 ⟨u, LR, hm37, hs30, hs31, hs32, hs33, hs34, hF35, hB36, hu, hLR, hAR, hG⟩
    obtain ⟨r39, rfl⟩ := sq (e := e38) (t := 1) hs30
    obtain ⟨r40, rfl⟩ := sq (e := r39) (t := 5) hs31
    obtain ⟨r41, rfl⟩ := sq (e := r40) (t := 7) hs32
    obtain ⟨r42, rfl⟩ := sq (e := r41) (t := 8) hs33
    obtain ⟨r43, rfl⟩ := sq (e := r42) (t := 9) hs34
    have hz44 := hF35.size
    refine wp_seq_k fun K45 hK45 => rS fun K46 hK46 => sMi rfl (sMi rfl ?_)
    by_cases hc47 : ((u : Int) - 1) ≥ ((d : Int))
    · refine sV (evGeq true rfl rfl (dT hc47)) (sK hK46 (cT rfl (wp_skip (xN (hK45 _ _ (wp_seq_k fun K48 hK48 => wp_block (wp_seq_k fun K49 hK49 => ?_)))))))
      have hR50 := (hE13.trans hE22).rx hF35
      have hB51 := (hB7.frm hR50 q1)
      refine wpJoin (dfs := []) (n := 73) (fun e w_ => ∃ (b10 : Nat) (gC : Bool) (AC : Option Addr) (nC : Nat) (cC : Nat) (dC : List Nat), e 1 = (.slice Ag ng cg) ∧ e 5 = (.pointer (some ⟨g2, 0, none⟩)) ∧ e 7 = (.slice (some ⟨qr_11, 0, none⟩) nr_11 nr_11) ∧ e 8 = (.int .i64 ((d : Int))) ∧ e 9 = (.int .i64 ((u : Int) - 1)) ∧ e 10 = (.pointer (some ⟨b10, 0, none⟩)) ∧ Frm (fun _ => False) w29 w_ ∧ Blk w_ b10 25 ([.bool gC, .slice AC nC cC]) ∧ (w29.heap.size ≤ b10) ∧ (NatR w_ (fun b => w29.heap.size ≤ b) AC nC cC dC) ∧ (zval gC dC = symZ (zval gm dm).natAbs (co (zs LR) (u - 1))) ∧ (nC ≤ nm + 2)) ?_ ?_
      · refine dBegin (fun b => w29.heap.size ≤ b) mixed (fun w52 hE53 hz54 => dMs 0 rfl rfl (dMi 1 rfl rfl (dV 2 rfl (fun _ _ => evIx (u - 1) Tryz.underlying39 sz25 rfl rfl ((u - 1) * 2)) ?_)))
        have hB55 := (hB36.ext hE53)
        have h57 := (hAR.ext hE53)
        obtain ⟨g_56, A_56, n_56, c_56, d_56, he_56, hp_56, hq_56, z_56⟩ := hB55.int (i := u - 1) (by exact lq)
        have hx_56 := h57 _ (List.mem_of_getElem? he_56)
        dsimp only at hx_56
        have h_56 := hx_56.1; have hM_56 := hx_56.2
        have ⟨l_56, k_56, m_56⟩ := h_56.lkm
        refine dV 3 rfl (fun _ hf => evLoadA [(.bool g_56), (.slice A_56 n_56 c_56)] agg25 sz25 rfl (cell2F hp_56 hq_56 hf hB55.lt (by (try dsimp only); omega))) ?_
        have hB59 := (hB51.ext hE53)
        refine dV 4 rfl (fun _ hf => evLoadAB [(.bool gm), (.slice Am nm cm)] agg25 sz25 rfl (hB59.frm hf q1) rfl) (wAl1 (fun _ => (10, 25, [(.bool false), (.slice none 0 0)])) 9 (alOp rfl rfl zero25 rfl) fun F60 => wOp F60 5 (by kernel_rfl) fun fl61 w62 hE63 => ?_)
        have hz64 := hE63.size
        have h65 := (h_56.ext hE63)
        have hR66 := (hR50.xr hE53).xr hE63
        have h67 := (h10.frmB hR66 q3)
        refine dWp (i := 5) rfl rfl (oCall rfl call70 (division_Symmetric h65 h67 (by omega) (by omega) (by omega)) rfl ?_)
        rintro _ w69 ⟨gr_68, Ar_68, nr_68, cr_68, dr_68, xo_68, rfl, hE70, hr_68, v_68, cn_68, ok_68, le_68⟩
        refine ⟨hE70, wNext rfl ?_⟩
        have hz71 := hE70.size
        have ⟨lr_68, kr_68, mr_68⟩ := hr_68.lkm
        have h73 := hr_68.sub (S' := fun b => w62.heap.size ≤ b ∧ b < w69.heap.size) fun _ hb hs => ⟨hs, hb⟩
        refine wEv 6 rfl (v := (.tuple #[(.agg #[(.bool gr_68), (.slice Ar_68 nr_68 cr_68)]), (.int .i64 (xo_68))])) (fun _ => (fun _ _ => rfl)) rfl (fun _ => rfl) (by kernel_rfl) (wEv 7 rfl (v := (.agg #[(.bool gr_68), (.slice Ar_68 nr_68 cr_68)])) (fun _ => (fun _ _ => rfl)) rfl (fun _ => rfl) (by kernel_rfl) (wEv 8 rfl (v := (.int .i64 (xo_68))) (fun _ => (fun _ _ => rfl)) rfl (fun _ => rfl) (by kernel_rfl) (wEnd1 F60 #[true, true, true, true, true, true, true, true, true, true, false, false] (by kernel_rfl) fun g74 w75 hE76 hb77 hB78 ho79 => ?_)))
        have hz80 := hE76.size
        have lt81 := hB78.lt
        have h82 := (h73.ext hE76)
        have h83 := h82.sub (S' := fun b => (w62.heap.size ≤ b ∧ b < w69.heap.size) ∧ b ≠ g74) fun b _ hs => ⟨hs, ho79.ne w62.heap.size w69.heap.size (by simp) b hs.1 hs.2⟩
        refine dOp 10 rfl rfl (by kernel_rfl) (oStore [(.bool gr_68), (.slice Ar_68 nr_68 cr_68)] rfl rfl rfl sz25 rfl hB78 (Nat.le_of_ble_eq_true rfl) (fun w84 hU85 hz86 hB87 => ?_))
        replace hB87 : Blk w84 g74 25 [(.bool gr_68), (.slice Ar_68 nr_68 cr_68)] := hB87
        refine ⟨(hU85.mono q4), dAi 11 rfl rfl (dDone (by kernel_rfl) ?_)⟩
        have h88 := (h83.frmB hU85 q3)
        have hR89 := (((hE53.trans hE63).trans hE70).trans hE76).rx hU85
        exact ⟨rfl, _, rfl, (g74), (gr_68), (Ar_68), (nr_68), (cr_68), (dr_68), rfl, rfl, rfl, rfl, rfl, rfl, (Frm.mono hR89 q4), hB87, (by omega), (NatR.sub h88 q5), (by rw [v_68, z_56]), (by omega)⟩
      · rintro e91 w90 ⟨b10, gC, AC, nC, cC, dC, hs93, hs94, hs95, hs96, hs97, hs98, hF92, hB99, hb10, hC, hC0, hnC⟩
        obtain ⟨r100, rfl⟩ := sq (e := e91) (t := 1) hs93
        obtain ⟨r101, rfl⟩ := sq (e := r100) (t := 5) hs94
        obtain ⟨r102, rfl⟩ := sq (e := r101) (t := 7) hs95
        obtain ⟨r103, rfl⟩ := sq (e := r102) (t := 8) hs96
        obtain ⟨r104, rfl⟩ := sq (e := r103) (t := 9) hs97
        obtain ⟨r105, rfl⟩ := sq (e := r104) (t := 10) hs98
        have hz106 := hF92.size
        have ⟨lC, kC, mC⟩ := hC.lkm; have hbl : b10 < w90.heap.size := hB99.lt
        refine xN (hK49 _ _ (wp_seq_k fun K107 hK107 => rS fun K108 hK108 => sV (evLoadAB [(.bool gC), (.slice AC nC cC)] agg25 sz25 rfl hB99 rfl) (sO (oCall rfl call29 (integer_Sign hC) rfl ?_))))
        rintro _ w110 ⟨xr_109, rfl, hE111, e_109⟩
        have hz112 := hE111.size
        have hsg := sgn_rng e_109
        by_cases hc113 : xr_109 = 0
        · refine sV (evEql true rfl rfl (dT hc113)) ?_
          have hcz : zval gC dC = 0 := by omega
          refine sK hK108 (cT rfl (wp_exit (xE (bE (xN (hK48 _ _ (wp_region_lit (sMi rfl (sV (evSub (((u : Int) - 1) - 1) rfl rfl wI) (sAi rfl (sDone ?_)))))))))))
          have hR114 := hF92.trans hE111
          have hB115 := (hB36.ext hR114)
          have h116 := (hAR.ext hR114)
          refine again ((u - 1)) (by omega) ⟨(u - 1), (LR), rfl, rfl, rfl, rfl, rfl, cI, (hF35.xr hR114), ?_, ?_, ?_, ?_, ?_⟩
          · exact hB115
          · omega
          · exact hLR
          · exact AllN.le (AllN.sub h116 q5) (by omega)
          · exact remL_zero hG (by omega) (by omega) (hC0 ▸ hcz)
        · refine sV (evEql false rfl rfl (dF hc113)) ?_
          have hcz : zval gC dC ≠ 0 := by omega
          refine sK hK108 (cF rfl (wp_skip (xN (hK107 _ _ (rS fun K117 hK117 => sAi rfl (sK hK117 (wp_block ?_)))))))
          have hR119 := hF92.trans hE111
          have hB120 := (hB36.ext hR119)
          have h121 := (hAR.ext hR119)
          refine lLoop (fun m e w_ => ∃ (j : Nat) (L2 : List RI), m = d - j ∧ e 1 = (.slice Ag ng cg) ∧ e 5 = (.pointer (some ⟨g2, 0, none⟩)) ∧ e 7 = (.slice (some ⟨qr_11, 0, none⟩) nr_11 nr_11) ∧ e 8 = (.int .i64 ((d : Int))) ∧ e 9 = (.int .i64 ((u : Int) - 1)) ∧ e 10 = (.pointer (some ⟨b10, 0, none⟩)) ∧ e 12 = (.int .i64 ((j : Int))) ∧ Frm (fun b => b = qr_11) w110 w_ ∧ Blk w_ qr_11 25 (cellsI L2) ∧ (j ≤ d) ∧ (L2.length = nr_11) ∧ (AllN w_ (fun b => (w.heap.size ≤ b ∧ b ≠ qr_11)) (nm + Mg + 4 + (nr_11 - u) + 1) L2) ∧ (∀ i r, (u - 1 - d) + j ≤ i → L2[i]? = some r → r.n ≤ nm + Mg + 4 + (nr_11 - u)) ∧ (zs L2 = subAt (zs LR) (zs lg) (u - 1 - d) j (zval gC dC))) (d - (0)) ?_ ?_
          · refine ⟨(0), (LR), rfl, rfl, rfl, rfl, rfl, rfl, rfl, cI, (Frm.refl _ _), ?_, ?_, ?_, ?_, ?_, ?_⟩
            · exact hB120
            · omega
            · exact hLR
            · exact AllN.le (AllN.sub h121 q5) (by omega)
            · exact fun i r _ hr => (h121 r (List.mem_of_getElem? hr)).2
            · exact subAt_zero
          · rintro m118 e133 w122 ⟨j, L2, hm132, hs123, hs124, hs125, hs126, hs127, hs128, hs129, hF130, hB131, hj2, hL2, hA2, hD2, hz2⟩
            obtain ⟨r134, rfl⟩ := sq (e := e133) (t := 1) hs123
            obtain ⟨r135, rfl⟩ := sq (e := r134) (t := 5) hs124
            obtain ⟨r136, rfl⟩ := sq (e := r135) (t := 7) hs125
            obtain ⟨r137, rfl⟩ := sq (e := r136) (t := 8) hs126
            obtain ⟨r138, rfl⟩ := sq (e := r137) (t := 9) hs127
            obtain ⟨r139, rfl⟩ := sq (e := r138) (t := 10) hs128
            obtain ⟨r140, rfl⟩ := sq (e := r139) (t := 12) hs129
            have hz141 := hF130.size
            refine wp_seq_k fun K142 hK142 => rS fun K143 hK143 => sMi rfl (sMi rfl ?_)
            by_cases hc144 : ((j : Int)) < ((d : Int))
            · refine sV (evLss true rfl rfl (dT hc144)) (sK hK143 (cT rfl (wp_skip (xN (hK142 _ _ (wp_seq_k fun K145 hK145 => wp_block (dBegin (fun b => b = qr_11) mixed (fun w146 hE147 hz148 => dMs 0 rfl rfl (dMi 1 rfl rfl (dMi 2 rfl rfl (dV 3 rfl (fun _ _ => evSub (((u : Int) - 1) - ((d : Int))) rfl rfl wI) (dMi 4 rfl rfl (dV 5 rfl (fun _ _ => evAdd ((((u : Int) - 1) - ((d : Int))) + ((j : Int))) rfl rfl wI) (dMs 6 rfl rfl (dMi 7 rfl rfl (dMi 8 rfl rfl (dV 9 rfl (fun _ _ => evSub (((u : Int) - 1) - ((d : Int))) rfl rfl wI) (dMi 10 rfl rfl (dV 11 rfl (fun _ _ => evAdd ((((u : Int) - 1) - ((d : Int))) + ((j : Int))) rfl rfl wI) (dV 12 rfl (fun _ _ => evIx (((u - 1) - d) + j) Tryz.underlying39 sz25 rfl rfl ((((u - 1) - d) + j) * 2)) ?_))))))))))))))))))))
              have hR149 := (hE111.rx hF130).xr hE147
              have hB150 := (hB99.frm hR149 q1)
              refine dV 14 rfl (fun _ hf => evLoadAB [(.bool gC), (.slice AC nC cC)] agg25 sz25 rfl (hB150.frm hf q1) rfl) (dMs 15 rfl rfl (dMi 16 rfl rfl ?_))
              have hR151 := ((((hE22.rx hF35).xr hF92).xr hE111).trans hF130).xr hE147
              have h152 := (h19.frmB hR151 q3)
              obtain ⟨b153, o154, rfl⟩ := h152.base (by omega)
              refine dV 17 rfl (fun _ _ => evIx j Tryz.underlying39 sz25 rfl rfl (o154 + (j * 2))) ?_
              obtain ⟨g_155, A_155, n_155, c_155, d_155, he_155, hp_155, hq_155, h_155, hM_155, hS_155, hb_155, z_155⟩ := h152.at_ (i := j) (by omega)
              have ⟨l_155, k_155, m_155⟩ := h_155.lkm
              refine dV 18 rfl (fun _ hf => evLoadA [(.bool g_155), (.slice A_155 n_155 c_155)] agg25 sz25 rfl (cell2F hp_155 hq_155 hf hb_155 (by (try dsimp only at hS_155 ⊢); omega))) (dTwo 13 19 (by kernel_rfl) ?_ ?_)
              · have hB157 := (hB131.ext hE147)
                have h159 := (hA2.ext hE147)
                obtain ⟨g_158, A_158, n_158, c_158, d_158, he_158, hp_158, hq_158, z_158⟩ := hB157.int (i := ((u - 1) - d) + j) (by exact lq)
                have hx_158 := h159 _ (List.mem_of_getElem? he_158)
                dsimp only at hx_158
                have h_158 := hx_158.1; have hM_158 := hx_158.2
                have ⟨l_158, k_158, m_158⟩ := h_158.lkm
                refine dWp (i := 13) rfl rfl (oEv (v := (.agg #[(.bool g_158), (.slice A_158 n_158 c_158)])) (evLoadA [(.bool g_158), (.slice A_158 n_158 c_158)] agg25 sz25 rfl (cell2 hp_158 hq_158)) rfl ⟨Frm.refl _ _, ?_⟩)
                have hn2 := hD2 (u - 1 - d + j) _ (Nat.le_refl _) he_158; dsimp only at hn2
                have h161 := (hC.frmB hR149 q3)
                refine dOp 19 rfl rfl (by kernel_rfl) (oCall rfl call33 (integer_Mul h161 h_155 (by omega)) rfl ?_)
                rintro _ w163 ⟨gr_162, Ar_162, nr_162, cr_162, dr_162, rfl, hE164, hr_162, v_162, cn_162, le_162⟩
                refine ⟨(Frm.of_ext hE164), ?_⟩
                have hz165 := hE164.size
                have ⟨lr_162, kr_162, mr_162⟩ := hr_162.lkm
                have h167 := (h_158.ext hE164)
                refine dOp 20 rfl rfl (by kernel_rfl) (oCall rfl call106 (integer_Sub h167 hr_162 (by omega) (by omega)) rfl ?_)
                rintro _ w169 ⟨gr_168, Ar_168, nr_168, cr_168, dr_168, rfl, hE170, hr_168, v_168, cn_168, le_168⟩
                refine ⟨(Frm.of_ext hE170), ?_⟩
                have hz171 := hE170.size
                have ⟨lr_168, kr_168, mr_168⟩ := hr_168.lkm
                refine dV 21 rfl (fun _ _ => evIx (((u - 1) - d) + j) Tryz.underlying39 sz25 rfl rfl ((((u - 1) - d) + j) * 2)) ?_
                have hR173 := hE164.trans hE170
                have hB174 := (hB157.ext hR173)
                refine dOp 22 rfl rfl (by kernel_rfl) (oStore [(.bool gr_168), (.slice Ar_168 nr_168 cr_168)] rfl rfl rfl sz25 rfl hB174 (by rw [cellsI_len]; simp only [List.length_cons, List.length_nil]; exact lq) (fun w175 hU176 hz177 hB178 => ?_))
                replace hB178 := (cellsI_set (l := L2) (i := ((u - 1) - d) + j) ⟨gr_168, Ar_168, nr_168, cr_168, dr_168⟩ (by exact lq)) ▸ hB178
                replace hB178 : Blk w175 qr_11 25 (cellsI (L2.set (u - 1 - d + j) ⟨gr_168, Ar_168, nr_168, cr_168, dr_168⟩)) := (rfl : (L2).set (((u - 1) - d) + j) ⟨gr_168, Ar_168, nr_168, cr_168, dr_168⟩ = L2.set (u - 1 - d + j) ⟨gr_168, Ar_168, nr_168, cr_168, dr_168⟩) ▸ hB178
                refine ⟨hU176, dDone (by kernel_rfl) (bN (xN (hK145 _ _ (wp_region_lit (sMi rfl (sV (evAdd (((j : Int)) + 1) rfl rfl wI) (sAi rfl (sDone ?_))))))))⟩
                have hR179 := ((hE147.trans hE164).trans hE170).rx hU176
                have hR180 := hR173.rx hU176
                have h181 := (h159.frmB hR180 q3)
                have h182 := (hr_168.frmB hU176 q3)
                refine again (d - (j + 1)) (by omega) ⟨(j + 1), (L2.set (u - 1 - d + j) ⟨gr_168, Ar_168, nr_168, cr_168, dr_168⟩), rfl, rfl, rfl, rfl, rfl, rfl, rfl, cI, (hF130.trans hR179), ?_, ?_, ?_, ?_, ?_, ?_⟩
                · exact hB178
                · omega
                · rw [List.length_set]; exact hL2
                · exact AllN.set h181 (NatR.sub h182 q5) (by (try dsimp only); omega)
                · exact small_set hD2
                · rw [zs_set]; exact subAt_step hz2 (by rw [zlen]; omega) (by show zval _ _ = _; rw [v_168, v_162, z_158, z_155])
              · have h183 := (hC.frmB hR149 q3)
                refine dWp (i := 19) rfl rfl (oCall rfl call33 (integer_Mul h183 h_155 (by omega)) rfl ?_)
                rintro _ w185 ⟨gr_184, Ar_184, nr_184, cr_184, dr_184, rfl, hE186, hr_184, v_184, cn_184, le_184⟩
                refine ⟨(Frm.of_ext hE186), ?_⟩
                have hz187 := hE186.size
                have ⟨lr_184, kr_184, mr_184⟩ := hr_184.lkm
                have hR189 := hE147.trans hE186
                have hB190 := (hB131.ext hR189)
                have h192 := (hA2.ext hR189)
                obtain ⟨g_191, A_191, n_191, c_191, d_191, he_191, hp_191, hq_191, z_191⟩ := hB190.int (i := ((u - 1) - d) + j) (by exact lq)
                have hx_191 := h192 _ (List.mem_of_getElem? he_191)
                dsimp only at hx_191
                have h_191 := hx_191.1; have hM_191 := hx_191.2
                have ⟨l_191, k_191, m_191⟩ := h_191.lkm
                refine dOp 13 rfl rfl (by kernel_rfl) (oEv (v := (.agg #[(.bool g_191), (.slice A_191 n_191 c_191)])) (evLoadA [(.bool g_191), (.slice A_191 n_191 c_191)] agg25 sz25 rfl (cell2 hp_191 hq_191)) rfl ⟨Frm.refl _ _, ?_⟩)
                have hn2 := hD2 (u - 1 - d + j) _ (Nat.le_refl _) he_191; dsimp only at hn2
                refine dOp 20 rfl rfl (by kernel_rfl) (oCall rfl call106 (integer_Sub h_191 hr_184 (by omega) (by omega)) rfl ?_)
                rintro _ w195 ⟨gr_194, Ar_194, nr_194, cr_194, dr_194, rfl, hE196, hr_194, v_194, cn_194, le_194⟩
                refine ⟨(Frm.of_ext hE196), ?_⟩
                have hz197 := hE196.size
                have ⟨lr_194, kr_194, mr_194⟩ := hr_194.lkm
                refine dV 21 rfl (fun _ _ => evIx (((u - 1) - d) + j) Tryz.underlying39 sz25 rfl rfl ((((u - 1) - d) + j) * 2)) ?_
                have hB199 := (hB190.ext hE196)
                refine dOp 22 rfl rfl (by kernel_rfl) (oStore [(.bool gr_194), (.slice Ar_194 nr_194 cr_194)] rfl rfl rfl sz25 rfl hB199 (by rw [cellsI_len]; simp only [List.length_cons, List.length_nil]; exact lq) (fun w200 hU201 hz202 hB203 => ?_))
                replace hB203 := (cellsI_set (l := L2) (i := ((u - 1) - d) + j) ⟨gr_194, Ar_194, nr_194, cr_194, dr_194⟩ (by exact lq)) ▸ hB203
                replace hB203 : Blk w200 qr_11 25 (cellsI (L2.set (u - 1 - d + j) ⟨gr_194, Ar_194, nr_194, cr_194, dr_194⟩)) := (rfl : (L2).set (((u - 1) - d) + j) ⟨gr_194, Ar_194, nr_194, cr_194, dr_194⟩ = L2.set (u - 1 - d + j) ⟨gr_194, Ar_194, nr_194, cr_194, dr_194⟩) ▸ hB203
                refine ⟨hU201, dDone (by kernel_rfl) (bN (xN (hK145 _ _ (wp_region_lit (sMi rfl (sV (evAdd (((j : Int)) + 1) rfl rfl wI) (sAi rfl (sDone ?_))))))))⟩
                have hR204 := (hR189.trans hE196).rx hU201
                have hR205 := hE196.rx hU201
                have h206 := (h192.frmB hR205 q3)
                have h207 := (hr_194.frmB hU201 q3)
                refine again (d - (j + 1)) (by omega) ⟨(j + 1), (L2.set (u - 1 - d + j) ⟨gr_194, Ar_194, nr_194, cr_194, dr_194⟩), rfl, rfl, rfl, rfl, rfl, rfl, rfl, cI, (hF130.trans hR204), ?_, ?_, ?_, ?_, ?_, ?_⟩
                · exact hB203
                · omega
                · rw [List.length_set]; exact hL2
                · exact AllN.set h206 (NatR.sub h207 q5) (by (try dsimp only); omega)
                · exact small_set hD2
                · rw [zs_set]; exact subAt_step hz2 (by rw [zlen]; omega) (by show zval _ _ = _; rw [v_194, v_184, z_191, z_155])
            · refine sV (evLss false rfl rfl (dF hc144)) (sK hK143 (cF rfl (wp_exit (xE (xE (bE (bN (xN (hK48 _ _ (wp_region_lit (sMi rfl (sV (evSub (((u : Int) - 1) - 1) rfl rfl wI) (sAi rfl (sDone ?_))))))))))))))
              have hR208 := hR119.rx hF130
              refine again ((u - 1)) (by omega) ⟨(u - 1), (L2), rfl, rfl, rfl, rfl, rfl, cI, (hF35.trans hR208), ?_, ?_, ?_, ?_, ?_⟩
              · exact hB131
              · omega
              · exact hL2
              · exact AllN.le (AllN.sub hA2 q5) (by omega)
              · rw [show u - 1 - d = u - 1 - d from rfl]; exact remL_sub hG (by omega) (by omega) hC0 hcz hz2 (by omega)
    · refine sV (evGeq false rfl rfl (dF hc47)) (sK hK46 (cF rfl (wp_exit (xE (xE (bE (xN (hK24 _ _ (wp_seq_k fun K209 hK209 => ?_)))))))))
      have hRP := PolyR.of_blk (S := fun b => w.heap.size ≤ b) (n := nr_11) (c := nr_11) hB36 (AllN.sub hAR q5) (by (try dsimp only); omega) hLR (Nat.le_refl _) (by unfold CapMax; omega)
      refine dBegin (fun _ => False) mixed (fun w210 hE211 hz212 => dMs 0 rfl rfl (dMs 1 rfl rfl (dV 2 rfl (fun _ _ => evLen Tryz.underlying39 rfl) (dMi 3 rfl rfl (dV 4 rfl (fun _ _ => evMin (((min nr_11 d : Nat) : Int)) rfl rfl (by split <;> omega)) ?_)))))
      have h213 := (hRP.ext hE211)
      have h214 := h213.take (m := min nr_11 d) (by omega)
      refine dV 5 rfl (fun _ _ => evSliceHi (min nr_11 d) Tryz.underlying39 sz25 rfl rfl (by omega) (by omega)) ?_
      have hR216 := ((hE13.trans hE22).rx hF35).xr hE211
      have hB217 := (hB7.frm hR216 q1)
      refine dV 6 rfl (fun _ hf => evLoadAB [(.bool gm), (.slice Am nm cm)] agg25 sz25 rfl (hB217.ext hf) rfl) ?_
      have h218 := (h10.frmB hR216 q3)
      refine dOp 7 rfl rfl (by kernel_rfl) (oCall rfl call68 (hensel_reduce h214 h218 (by omega) (by omega) (by omega) (by omega)) rfl ?_)
      rintro _ w220 ⟨Ar_219, nr_219, cr_219, lr_219, rfl, hE221, hr_219, e_219, le_219, cn_219⟩
      refine ⟨(Frm.of_ext hE221), ?_⟩
      have hz222 := hE221.size
      have ⟨kr_219, jr_219, mr_219⟩ := hr_219.lkm
      refine dAs 8 rfl rfl (dDone (by kernel_rfl) (xN (hK209 _ _ (wp_ret (ret1 (.slice Ar_219 nr_219 cr_219) Tryz.results101 (resT rfl) ?_)))))
      have heq : zs lr_219 = remZ (zval gm dm).natAbs (zs lf) (zs lg) := remL_fin (N := nr_11) hd e_11 (by rw [zlen]; omega) hG (by omega) (by rw [e_219]; show redZ _ (List.map RI.z (List.take _ _)) = _; rw [List.map_take])
      have hR224 := (((hR18.trans hE22).rx hF35).xr hE211).xr hE221
      exact ⟨Ar_219, nr_219, cr_219, lr_219, rfl, (Frm.mono hR224 q4), (PolyR.le (PolyR.sub hr_219 q5) (by omega)), heq, (by omega), (by omega), cn_219⟩
end Go.Proofs.YtneolcopompkaaaGreatDoor
