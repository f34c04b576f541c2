/-
  Walks of package unipoly: values at fractions.
-/
import Derived.Test.YtppegjbdencefaaUni4
import Derived.Test.YtppegjbdencefaaRat1
import Derived.Test.YtppegjbdencefaaEvMath
namespace Go.Proofs.Ytppegjbdencefaa
open Go.RowKit Go.Gx
set_option maxHeartbeats 2000000 in
theorem unipoly_scaled {w : World} {Sf : Nat → Prop} {Af : Option Addr} {nf cf Mf : Nat} {lf : List RI} {ga : Bool} {Sa : Nat → Prop} {Aa : Option Addr} {na ca : Nat} {da : List Nat} {Sav : Nat → Prop} {Aav : Option Addr} {nav cav : Nat} {dav : List Nat} (hf : PolyR w Sf Af nf cf lf Mf) (ha : NatR w Sa Aa na ca da) (hav : NatR w Sav Aav nav cav dav) (hnf : nf ≤ 1024) (hMf : Mf ≤ 65536) (hna : na ≤ 128) (hnav : nav ≤ 128) : Calls Try.prog 86 #[(.slice Af nf cf), (.agg #[(.bool ga), (.slice Aa na ca), (.slice Aav nav cav)])] w (Ret fun v w' => ∃ (gv : Bool) (Av : Option Addr) (nv : Nat) (cv : Nat) (dv : List Nat) (gp : Bool) (Ap : Option Addr) (np : Nat) (cp : Nat) (dp : List Nat), v = (.tuple #[(.agg #[(.bool gv), (.slice Av nv cv)]), (.agg #[(.bool gp), (.slice Ap np cp)])]) ∧ Ext w w' ∧ NatR w' (fun b => w.heap.size ≤ b) Av nv cv dv ∧ NatR w' (fun b => w.heap.size ≤ b) Ap np cp dp ∧ (((zval gv dv : Int) : Rat) = evQ (zs lf) (rv (zval ga da) (val dav)) * ((zval gp dp : Int) : Rat)) ∧ (0 < zval gp dp) ∧ (nv ≤ 536870912) ∧ (np ≤ 536870912)) := by
  have ⟨kf, jf, mf⟩ := hf.lkm
  replace hf := hf.low
  have ⟨la, ka, ma⟩ := ha.lkm
  replace ha := ha.low
  have ⟨lav, kav, mav⟩ := hav.lkm
  replace hav := hav.low
  refine enter Try.func86 rfl Try.ntmps86 rfl (rS fun K1 hK1 => sO (oBox [(.bool ga), (.slice Aa na ca), (.slice Aav nav cav)] rfl rfl (fun g2 w3 hg4 hE5 hz6 hB7 => sO (oAlloc [(.bool false), (.slice none 0 0)] zero46 rfl (fun g8 w9 hg10 hE11 hz12 hB13 => sO (oAlloc [(.bool false), (.slice none 0 0)] zero46 rfl (fun g14 w15 hg16 hE17 hz18 hB19 => sK hK1 (rS fun K20 hK20 => sMs rfl ?_))))))))
  have hR21 := (hE5.trans hE11).trans hE17
  have h22 := (hf.ext hR21)
  refine sO (oCall rfl call68 (unipoly_trim h22) rfl ?_)
  rintro _ w24 ⟨Ar_23, nr_23, cr_23, lr_23, rfl, hE25, hr_23, e_23, le_23⟩
  have hz26 := hE25.size
  have ⟨kr_23, jr_23, mr_23⟩ := hr_23.lkm
  refine sAs rfl (sK hK20 (rS fun K28 hK28 => ?_))
  have hR29 := (hE11.trans hE17).trans hE25
  have hB30 := (hB7.ext hR29)
  refine sV (evLoadAB [(.bool ga), (.slice Aa na ca), (.slice Aav nav cav)] agg64 sz64 rfl hB30 rfl) ?_
  have hR31 := hR21.trans hE25
  have h32 := (ha.ext hR31)
  have h33 := (hav.ext hR31)
  refine sO (oCall rfl call107 (rational_Normal h32 h33 (by omega) (by omega)) rfl ?_)
  rintro _ w35 ⟨gr_34, Ar_34, nr_34, cr_34, dr_34, Arv_34, nrv_34, crv_34, drv_34, rfl, hE36, hr_34, hrv_34, x_34, p_34, cn_34, cv_34, co_34, bn_34, bd_34⟩
  have hz37 := hE36.size
  have ⟨lr_34, kr_34, mr_34⟩ := hr_34.lkm
  have ⟨lrv_34, krv_34, mrv_34⟩ := hrv_34.lkm
  have hB40 := (hB30.ext hE36)
  refine sO (oStore [(.bool gr_34), (.slice Ar_34 nr_34 cr_34), (.slice Arv_34 nrv_34 crv_34)] rfl rfl rfl sz64 rfl hB40 (Nat.le_of_ble_eq_true rfl) (fun w41 hU42 hz43 hB44 => ?_))
  replace hB44 : Blk w41 g2 64 [(.bool gr_34), (.slice Ar_34 nr_34 cr_34), (.slice Arv_34 nrv_34 crv_34)] := hB44
  refine sK hK28 (rS fun K45 hK45 => sV (evFA 2 fa64_1 rfl rfl) (sV (evLoadB one44 rfl hB44 rfl) (sV (v := (.agg #[(.bool false), (.slice Arv_34 nrv_34 crv_34)])) (evK (by kernel_rfl)) (sO (oAlloc [(.bool false), (.slice none 0 0)] zero46 rfl (fun g46 w47 hg48 hE49 hz50 hB51 => sO (oStore [(.bool false), (.slice Arv_34 nrv_34 crv_34)] rfl rfl rfl sz46 rfl hB51 (Nat.le_of_ble_eq_true rfl) (fun w52 hU53 hz54 hB55 => ?_))))))))
  replace hB55 : Blk w52 g46 46 [(.bool false), (.slice Arv_34 nrv_34 crv_34)] := hB55
  refine sK hK45 (rS fun K56 hK56 => sO (oCall rfl call48 (integer_Of (by omega)) rfl ?_))
  rintro _ w58 ⟨gr_57, Ar_57, nr_57, cr_57, dr_57, rfl, hE59, hr_57, v_57, cn_57, le_57⟩
  have hz60 := hE59.size
  have ⟨lr_57, kr_57, mr_57⟩ := hr_57.lkm
  have hR62 := ((((hE25.trans hE36).rx hU42).xr hE49).tr hU53).xr hE59
  have hB63 := (hB19.frm hR62 q1)
  refine sO (oStore [(.bool gr_57), (.slice Ar_57 nr_57 cr_57)] rfl rfl rfl sz46 rfl hB63 (Nat.le_of_ble_eq_true rfl) (fun w64 hU65 hz66 hB67 => ?_))
  replace hB67 : Blk w64 g14 46 [(.bool gr_57), (.slice Ar_57 nr_57 cr_57)] := hB67
  refine sK hK56 (wp_seq_k fun K68 hK68 => rS fun K69 hK69 => sMs rfl (sV (evLen Try.underlying23 rfl) (sV (evSub (((nr_23 : Int)) - 1) rfl rfl wI) (sAi rfl (sK hK69 (wp_block ?_))))))
  have hR71 := ((((((hE17.trans hE25).trans hE36).rx hU42).xr hE49).tr hU53).xr hE59).tr hU65
  have hB72 := (hB13.frm hR71 q1)
  have h73 := (hr_57.frmB hU65 q3)
  refine lLoop (fun m e w_ => ∃ (k : Nat) (gv_ : Bool) (Av : Option Addr) (nv_ : Nat) (cv_ : Nat) (dv_ : List Nat) (gp_ : Bool) (Ap : Option Addr) (np_ : Nat) (cp_ : Nat) (dp_ : List Nat), m = k ∧ e 0 = (.slice Ar_23 nr_23 cr_23) ∧ e 3 = (.pointer (some ⟨g2, 0, none⟩)) ∧ e 4 = (.pointer (some ⟨g8, 0, none⟩)) ∧ e 5 = (.pointer (some ⟨g14, 0, none⟩)) ∧ e 6 = (.pointer (some ⟨g46, 0, none⟩)) ∧ e 7 = (.int .i64 ((k : Int) - 1)) ∧ Frm (fun b => b = g8 ∨ b = g14) w64 w_ ∧ Blk w_ g8 46 ([.bool gv_, .slice Av nv_ cv_]) ∧ Blk w_ g14 46 ([.bool gp_, .slice Ap np_ cp_]) ∧ (k ≤ nr_23) ∧ (nv_ ≤ 524288 * (nr_23 - k)) ∧ (np_ ≤ 2 + 256 * (nr_23 - k)) ∧ (NatR w_ (fun b => w.heap.size ≤ b ∧ b ≠ g8 ∧ b ≠ g14) Av nv_ cv_ dv_) ∧ (NatR w_ (fun b => w.heap.size ≤ b ∧ b ≠ g8 ∧ b ≠ g14) Ap np_ cp_ dp_) ∧ (zval gp_ dp_ = (val drv_34 : Int) ^ ((zs lr_23).length - 1 - k)) ∧ (zval gv_ dv_ = evZ (zval gr_34 dr_34) (val drv_34 : Int) ((zs lr_23).drop k))) ((nr_23)) ?_ ?_
  · refine ⟨(nr_23), (false), (none), (0), (0), ([]), (gr_57), (Ar_57), (nr_57), (cr_57), (dr_57), rfl, rfl, rfl, rfl, rfl, rfl, cI, (Frm.refl _ _), ?_, ?_, ?_, ?_, ?_, ?_, ?_, ?_, ?_⟩
    · exact hB72
    · exact hB67
    · omega
    · omega
    · omega
    · exact NatR.nil
    · exact NatR.sub h73 q5
    · rw [v_57, zlen, show lr_23.length - 1 - nr_23 = 0 by omega]; rfl
    · rw [List.drop_of_length_le (by rw [zlen]; omega)]; rfl
  · rintro m70 e85 w74 ⟨k, gv_, Av, nv_, cv_, dv_, gp_, Ap, np_, cp_, dp_, hm84, hs75, hs76, hs77, hs78, hs79, hs80, hF81, hB82, hB83, hk, bnv, bnp, hVf, hPf, hp, hv⟩
    obtain ⟨r86, rfl⟩ := sq (e := e85) (t := 0) hs75
    obtain ⟨r87, rfl⟩ := sq (e := r86) (t := 3) hs76
    obtain ⟨r88, rfl⟩ := sq (e := r87) (t := 4) hs77
    obtain ⟨r89, rfl⟩ := sq (e := r88) (t := 5) hs78
    obtain ⟨r90, rfl⟩ := sq (e := r89) (t := 6) hs79
    obtain ⟨r91, rfl⟩ := sq (e := r90) (t := 7) hs80
    have hz92 := hF81.size
    have ⟨lV, kV, mV⟩ := hVf.lkm; have ⟨lP, kP, mP⟩ := hPf.lkm
    refine wp_seq_k fun K93 hK93 => rS fun K94 hK94 => sMi rfl ?_
    by_cases hc95 : ((k : Int) - 1) ≥ 0
    · refine sV (evGeq true rfl rfl (dT hc95)) (sK hK94 (cT rfl (wp_skip (xN (hK93 _ _ (wp_seq_k fun K96 hK96 => wp_block (wp_seq_k fun K97 hK97 => rS fun K98 hK98 => sMi rfl (sMs rfl (sV (evLen Try.underlying23 rfl) (sV (evSub (((nr_23 : Int)) - 1) rfl rfl wI) ?_))))))))))
      by_cases hc99 : ((k : Int) - 1) < (((nr_23 : Int)) - 1)
      · refine sV (evLss true rfl rfl (dT hc99)) (sK hK98 (cT rfl (wp_region_lit (sV (evLoadAB [(.bool gp_), (.slice Ap np_ cp_)] agg46 sz46 rfl hB83 rfl) ?_))))
        have hR100 := (hE59.rx hU65).tr hF81
        have hB101 := (hB55.frm hR100 q1)
        refine sV (evLoadAB [(.bool false), (.slice Arv_34 nrv_34 crv_34)] agg46 sz46 rfl hB101 rfl) ?_
        have hR102 := ((((hU42.xr hE49).tr hU53).xr hE59).tr hU65).tr hF81
        have h103 := (hrv_34.frmB hR102 q3)
        refine sO (oCall rfl call69 (integer_Mul hPf h103 (by omega)) rfl ?_)
        rintro _ w105 ⟨gr_104, Ar_104, nr_104, cr_104, dr_104, rfl, hE106, hr_104, v_104, cn_104, le_104⟩
        have hz107 := hE106.size
        have ⟨lr_104, kr_104, mr_104⟩ := hr_104.lkm
        have hB109 := (hB83.ext hE106)
        refine sO (oStore [(.bool gr_104), (.slice Ar_104 nr_104 cr_104)] rfl rfl rfl sz46 rfl hB109 (Nat.le_of_ble_eq_true rfl) (fun w110 hU111 hz112 hB113 => ?_))
        replace hB113 : Blk w110 g14 46 [(.bool gr_104), (.slice Ar_104 nr_104 cr_104)] := hB113
        refine sK hK97 (dBegin (fun b => b = g8) mixed (fun w114 hE115 hz116 => dV 1 rfl (fun _ _ => evFA 0 fa64_0 rfl rfl) ?_))
        have hR117 := ((((((hE49.rx hU53).xr hE59).tr hU65).tr hF81).xr hE106).tr hU111).xr hE115
        have hB118 := (hB44.frm hR117 q1)
        refine dV 2 rfl (fun _ hf => evLoadAB [(.bool gr_34), (.slice Ar_34 nr_34 cr_34)] agg46 sz46 rfl (hB118.frm hf q1) rfl) (dMs 4 rfl rfl (dMi 5 rfl rfl ?_))
        have hR119 := ((((((((hE36.rx hU42).xr hE49).tr hU53).xr hE59).tr hU65).tr hF81).xr hE106).tr hU111).xr hE115
        have h120 := (hr_23.frmB hR119 q3)
        obtain ⟨b121, o122, rfl⟩ := h120.base (by omega)
        refine dV 6 rfl (fun _ _ => evIx (k - 1) Try.underlying23 sz46 rfl rfl (o122 + ((k - 1) * 2))) ?_
        obtain ⟨g_123, A_123, n_123, c_123, d_123, he_123, hp_123, hq_123, h_123, hM_123, hS_123, hb_123, z_123⟩ := h120.at_ (i := k - 1) (by omega)
        have ⟨l_123, k_123, m_123⟩ := h_123.lkm
        refine dV 7 rfl (fun _ hf => evLoadA [(.bool g_123), (.slice A_123 n_123 c_123)] agg46 sz46 rfl (cell2F hp_123 hq_123 hf hb_123 (by (try dsimp only at hS_123 ⊢); omega))) ?_
        have hB125 := (hB113.ext hE115)
        refine dV 8 rfl (fun _ hf => evLoadAB [(.bool gr_104), (.slice Ar_104 nr_104 cr_104)] agg46 sz46 rfl (hB125.frm hf q1) rfl) ?_
        have hR126 := (hE106.rx hU111).xr hE115
        have hB127 := (hB82.frm hR126 q1)
        refine dOp 0 rfl rfl (by kernel_rfl) (oEv (v := (.agg #[(.bool gv_), (.slice Av nv_ cv_)])) (evLoadAB [(.bool gv_), (.slice Av nv_ cv_)] agg46 sz46 rfl hB127 rfl) rfl ⟨Frm.refl _ _, ?_⟩)
        have h128 := (hVf.frmB hR126 q3)
        have hR129 := ((hR102.xr hE106).tr hU111).xr hE115
        have h130 := (hr_34.frmB hR129 q3)
        refine dOp 3 rfl rfl (by kernel_rfl) (oCall rfl call69 (integer_Mul h128 h130 (by omega)) rfl ?_)
        rintro _ w132 ⟨gr_131, Ar_131, nr_131, cr_131, dr_131, rfl, hE133, hr_131, v_131, cn_131, le_131⟩
        refine ⟨(Frm.of_ext hE133), ?_⟩
        have hz134 := hE133.size
        have ⟨lr_131, kr_131, mr_131⟩ := hr_131.lkm
        have h136 := (h_123.ext hE133)
        have hR137 := (hU111.xr hE115).xr hE133
        have h138 := (hr_104.frmB hR137 q3)
        refine dOp 9 rfl rfl (by kernel_rfl) (oCall rfl call69 (integer_Mul h136 h138 (by omega)) rfl ?_)
        rintro _ w140 ⟨gr_139, Ar_139, nr_139, cr_139, dr_139, rfl, hE141, hr_139, v_139, cn_139, le_139⟩
        refine ⟨(Frm.of_ext hE141), ?_⟩
        have hz142 := hE141.size
        have ⟨lr_139, kr_139, mr_139⟩ := hr_139.lkm
        have h144 := (hr_131.ext hE141)
        refine dOp 10 rfl rfl (by kernel_rfl) (oCall rfl call56 (integer_Add h144 hr_139 (by omega) (by omega)) rfl ?_)
        rintro _ w146 ⟨gr_145, Ar_145, nr_145, cr_145, dr_145, rfl, hE147, hr_145, v_145, cn_145, le_145⟩
        refine ⟨(Frm.of_ext hE147), ?_⟩
        have hz148 := hE147.size
        have ⟨lr_145, kr_145, mr_145⟩ := hr_145.lkm
        have hR150 := (hE133.trans hE141).trans hE147
        have hB151 := (hB127.ext hR150)
        refine dOp 11 rfl rfl (by kernel_rfl) (oStore [(.bool gr_145), (.slice Ar_145 nr_145 cr_145)] rfl rfl rfl sz46 rfl hB151 (Nat.le_of_ble_eq_true rfl) (fun w152 hU153 hz154 hB155 => ?_))
        replace hB155 : Blk w152 g8 46 [(.bool gr_145), (.slice Ar_145 nr_145 cr_145)] := hB155
        refine ⟨hU153, dDone (by kernel_rfl) (bN (xN (hK96 _ _ (wp_region_lit (sMi rfl (sV (evSub (((k : Int) - 1) - 1) rfl rfl wI) (sAi rfl (sDone ?_))))))))⟩
        have hR156 := (((hR126.xr hE133).xr hE141).xr hE147).tr hU153
        have hR157 := hR150.rx hU153
        have hB158 := (hB125.frm hR157 q1)
        have h159 := (hr_145.frmB hU153 q3)
        have hR160 := (hE141.trans hE147).rx hU153
        have h161 := (h138.frmB hR160 q3)
        refine again ((k - 1)) (by omega) ⟨(k - 1), (gr_145), (Ar_145), (nr_145), (cr_145), (dr_145), (gr_104), (Ar_104), (nr_104), (cr_104), (dr_104), rfl, rfl, rfl, rfl, rfl, rfl, cI, (Frm.mono (hF81.tr hR156) q4), ?_, ?_, ?_, ?_, ?_, ?_, ?_, ?_, ?_⟩
        · exact hB155
        · exact hB158
        · omega
        · omega
        · omega
        · exact NatR.sub h159 q5
        · exact NatR.sub h161 q5
        · rw [v_104, hp, zval_false]; exact pow_more (by omega) (by rw [zlen]; omega)
        · rw [v_145, v_131, v_139, z_123, v_104, hp, zval_false, pow_more (N := (zs lr_23).length) (d := (val drv_34 : Int)) (k := k) (by omega) (by rw [zlen]; omega)]; exact evZ_step (by omega) (by rw [zlen]; omega) hv
      · refine sV (evLss false rfl rfl (dF hc99)) (sK hK98 (cF rfl (wp_skip (xN (hK97 _ _ (dBegin (fun b => b = g8) mixed (fun w162 hE163 hz164 => dV 1 rfl (fun _ _ => evFA 0 fa64_0 rfl rfl) ?_)))))))
        have hR165 := ((((hE49.rx hU53).xr hE59).tr hU65).tr hF81).xr hE163
        have hB166 := (hB44.frm hR165 q1)
        refine dV 2 rfl (fun _ hf => evLoadAB [(.bool gr_34), (.slice Ar_34 nr_34 cr_34)] agg46 sz46 rfl (hB166.frm hf q1) rfl) (dMs 4 rfl rfl (dMi 5 rfl rfl ?_))
        have hR167 := ((((((hE36.rx hU42).xr hE49).tr hU53).xr hE59).tr hU65).tr hF81).xr hE163
        have h168 := (hr_23.frmB hR167 q3)
        obtain ⟨b169, o170, rfl⟩ := h168.base (by omega)
        refine dV 6 rfl (fun _ _ => evIx (k - 1) Try.underlying23 sz46 rfl rfl (o170 + ((k - 1) * 2))) ?_
        obtain ⟨g_171, A_171, n_171, c_171, d_171, he_171, hp_171, hq_171, h_171, hM_171, hS_171, hb_171, z_171⟩ := h168.at_ (i := k - 1) (by omega)
        have ⟨l_171, k_171, m_171⟩ := h_171.lkm
        refine dV 7 rfl (fun _ hf => evLoadA [(.bool g_171), (.slice A_171 n_171 c_171)] agg46 sz46 rfl (cell2F hp_171 hq_171 hf hb_171 (by (try dsimp only at hS_171 ⊢); omega))) ?_
        have hB173 := (hB83.ext hE163)
        refine dV 8 rfl (fun _ hf => evLoadAB [(.bool gp_), (.slice Ap np_ cp_)] agg46 sz46 rfl (hB173.frm hf q1) rfl) ?_
        have hB174 := (hB82.ext hE163)
        refine dOp 0 rfl rfl (by kernel_rfl) (oEv (v := (.agg #[(.bool gv_), (.slice Av nv_ cv_)])) (evLoadAB [(.bool gv_), (.slice Av nv_ cv_)] agg46 sz46 rfl hB174 rfl) rfl ⟨Frm.refl _ _, ?_⟩)
        have h175 := (hVf.ext hE163)
        have hR176 := (((((hU42.xr hE49).tr hU53).xr hE59).tr hU65).tr hF81).xr hE163
        have h177 := (hr_34.frmB hR176 q3)
        refine dOp 3 rfl rfl (by kernel_rfl) (oCall rfl call69 (integer_Mul h175 h177 (by omega)) rfl ?_)
        rintro _ w179 ⟨gr_178, Ar_178, nr_178, cr_178, dr_178, rfl, hE180, hr_178, v_178, cn_178, le_178⟩
        refine ⟨(Frm.of_ext hE180), ?_⟩
        have hz181 := hE180.size
        have ⟨lr_178, kr_178, mr_178⟩ := hr_178.lkm
        have h183 := (h_171.ext hE180)
        have hR184 := hE163.trans hE180
        have h185 := (hPf.ext hR184)
        refine dOp 9 rfl rfl (by kernel_rfl) (oCall rfl call69 (integer_Mul h183 h185 (by omega)) rfl ?_)
        rintro _ w187 ⟨gr_186, Ar_186, nr_186, cr_186, dr_186, rfl, hE188, hr_186, v_186, cn_186, le_186⟩
        refine ⟨(Frm.of_ext hE188), ?_⟩
        have hz189 := hE188.size
        have ⟨lr_186, kr_186, mr_186⟩ := hr_186.lkm
        have h191 := (hr_178.ext hE188)
        refine dOp 10 rfl rfl (by kernel_rfl) (oCall rfl call56 (integer_Add h191 hr_186 (by omega) (by omega)) rfl ?_)
        rintro _ w193 ⟨gr_192, Ar_192, nr_192, cr_192, dr_192, rfl, hE194, hr_192, v_192, cn_192, le_192⟩
        refine ⟨(Frm.of_ext hE194), ?_⟩
        have hz195 := hE194.size
        have ⟨lr_192, kr_192, mr_192⟩ := hr_192.lkm
        have hR197 := (hE180.trans hE188).trans hE194
        have hB198 := (hB174.ext hR197)
        refine dOp 11 rfl rfl (by kernel_rfl) (oStore [(.bool gr_192), (.slice Ar_192 nr_192 cr_192)] rfl rfl rfl sz46 rfl hB198 (Nat.le_of_ble_eq_true rfl) (fun w199 hU200 hz201 hB202 => ?_))
        replace hB202 : Blk w199 g8 46 [(.bool gr_192), (.slice Ar_192 nr_192 cr_192)] := hB202
        refine ⟨hU200, dDone (by kernel_rfl) (bN (xN (hK96 _ _ (wp_region_lit (sMi rfl (sV (evSub (((k : Int) - 1) - 1) rfl rfl wI) (sAi rfl (sDone ?_))))))))⟩
        have hR203 := ((hR184.trans hE188).trans hE194).rx hU200
        have hR204 := hR197.rx hU200
        have hB205 := (hB173.frm hR204 q1)
        have h206 := (hr_192.frmB hU200 q3)
        have hR207 := (hE188.trans hE194).rx hU200
        have h208 := (h185.frmB hR207 q3)
        refine again ((k - 1)) (by omega) ⟨(k - 1), (gr_192), (Ar_192), (nr_192), (cr_192), (dr_192), (gp_), (Ap), (np_), (cp_), (dp_), rfl, rfl, rfl, rfl, rfl, rfl, cI, (Frm.mono (hF81.tr hR203) q4), ?_, ?_, ?_, ?_, ?_, ?_, ?_, ?_, ?_⟩
        · exact hB202
        · exact hB205
        · omega
        · omega
        · omega
        · exact NatR.sub h206 q5
        · exact NatR.sub h208 q5
        · rw [hp]; exact pow_keep (by rw [zlen]; omega)
        · rw [v_192, v_178, v_186, z_171, hp, pow_keep (N := (zs lr_23).length) (d := (val drv_34 : Int)) (k := k) (by rw [zlen]; omega)]; exact evZ_step (by omega) (by rw [zlen]; omega) hv
    · refine sV (evGeq false rfl rfl (dF hc95)) (sK hK94 (cF rfl (wp_exit (xE (xE (bE (xN (hK68 _ _ (wp_seq_k fun K209 hK209 => dBegin (fun b => b = g14 ∨ b = g8) mixed (fun w210 hE211 hz212 => dTwo 0 1 (by kernel_rfl) ?_ ?_))))))))))
      · have hB213 := (hB82.ext hE211)
        refine dWp (i := 0) rfl rfl (oEv (v := (.agg #[(.bool gv_), (.slice Av nv_ cv_)])) (evLoadAB [(.bool gv_), (.slice Av nv_ cv_)] agg46 sz46 rfl hB213 rfl) rfl ⟨Frm.refl _ _, dTwo 1 2 (by kernel_rfl) ?_ ?_⟩)
        · have hB214 := (hB83.ext hE211)
          refine dWp (i := 1) rfl rfl (oEv (v := (.agg #[(.bool gp_), (.slice Ap np_ cp_)])) (evLoadAB [(.bool gp_), (.slice Ap np_ cp_)] agg46 sz46 rfl hB214 rfl) rfl ⟨Frm.refl _ _, dOp 2 rfl rfl (by kernel_rfl) (oStore [(.bool gv_), (.slice Av nv_ cv_)] rfl rfl rfl sz46 rfl hB213 (Nat.le_of_ble_eq_true rfl) (fun w215 hU216 hz217 hB218 => ?_))⟩)
          replace hB218 : Blk w215 g8 46 [(.bool gv_), (.slice Av nv_ cv_)] := hB218
          refine ⟨(hU216.mono q4), ?_⟩
          have hB219 := (hB214.frm hU216 q1)
          refine dOp 3 rfl rfl (by kernel_rfl) (oStore [(.bool gp_), (.slice Ap np_ cp_)] rfl rfl rfl sz46 rfl hB219 (Nat.le_of_ble_eq_true rfl) (fun w220 hU221 hz222 hB223 => ?_))
          replace hB223 : Blk w220 g14 46 [(.bool gp_), (.slice Ap np_ cp_)] := hB223
          refine ⟨(hU221.mono q4), dDone (by kernel_rfl) (xN (hK209 _ _ (wp_ret ?_)))⟩
          have hB224 := (hB218.frm hU221 q1)
          refine ret2 (.agg #[(.bool gv_), (.slice Av nv_ cv_)]) (.agg #[(.bool gp_), (.slice Ap np_ cp_)]) Try.results86 (resB [(.bool gv_), (.slice Av nv_ cv_)] agg46 sz46 rfl hB224) (resB [(.bool gp_), (.slice Ap np_ cp_)] agg46 sz46 rfl hB223) ?_
          have hend := scaled_end (v := zval gv_ dv_) (p := zval gp_ dp_) (q := rv (zval ga da) (val dav)) (F := (zs lr_23)) (rv_mul x_34 (by have h := p_34; omega)) (by have h := p_34; omega) (by rw [hv, show k = 0 by omega, List.drop_zero]) (by rw [hp, show k = 0 by omega, Nat.sub_zero])
          have hR225 := (hE211.rx hU216).tr hU221
          have h226 := (hVf.frmB hR225 q3)
          have h227 := (hPf.frmB hR225 q3)
          have hR228 := (((((((((hR31.trans hE36).rx hU42).xr hE49).tr hU53).xr hE59).tr hU65).tr hF81).xr hE211).tr hU216).tr hU221
          exact ⟨gv_, Av, nv_, cv_, dv_, gp_, Ap, np_, cp_, dp_, rfl, (Frm.mono hR228 q4), (NatR.sub h226 q5), (NatR.sub h227 q5), (by rw [hend.1, e_23, zs_trim, evQ_trim]), hend.2, (by omega), (by omega)⟩
        · refine dWp (i := 2) rfl rfl (oStore [(.bool gv_), (.slice Av nv_ cv_)] rfl rfl rfl sz46 rfl hB213 (Nat.le_of_ble_eq_true rfl) (fun w229 hU230 hz231 hB232 => ?_))
          replace hB232 : Blk w229 g8 46 [(.bool gv_), (.slice Av nv_ cv_)] := hB232
          refine ⟨(hU230.mono q4), ?_⟩
          have hR233 := hE211.rx hU230
          have hB234 := (hB83.frm hR233 q1)
          refine dOp 1 rfl rfl (by kernel_rfl) (oEv (v := (.agg #[(.bool gp_), (.slice Ap np_ cp_)])) (evLoadAB [(.bool gp_), (.slice Ap np_ cp_)] agg46 sz46 rfl hB234 rfl) rfl ⟨Frm.refl _ _, dOp 3 rfl rfl (by kernel_rfl) (oStore [(.bool gp_), (.slice Ap np_ cp_)] rfl rfl rfl sz46 rfl hB234 (Nat.le_of_ble_eq_true rfl) (fun w235 hU236 hz237 hB238 => ?_))⟩)
          replace hB238 : Blk w235 g14 46 [(.bool gp_), (.slice Ap np_ cp_)] := hB238
          refine ⟨(hU236.mono q4), dDone (by kernel_rfl) (xN (hK209 _ _ (wp_ret ?_)))⟩
          have hB239 := (hB232.frm hU236 q1)
          refine ret2 (.agg #[(.bool gv_), (.slice Av nv_ cv_)]) (.agg #[(.bool gp_), (.slice Ap np_ cp_)]) Try.results86 (resB [(.bool gv_), (.slice Av nv_ cv_)] agg46 sz46 rfl hB239) (resB [(.bool gp_), (.slice Ap np_ cp_)] agg46 sz46 rfl hB238) ?_
          have hend := scaled_end (v := zval gv_ dv_) (p := zval gp_ dp_) (q := rv (zval ga da) (val dav)) (F := (zs lr_23)) (rv_mul x_34 (by have h := p_34; omega)) (by have h := p_34; omega) (by rw [hv, show k = 0 by omega, List.drop_zero]) (by rw [hp, show k = 0 by omega, Nat.sub_zero])
          have hR240 := hR233.tr hU236
          have h241 := (hVf.frmB hR240 q3)
          have h242 := (hPf.frmB hR240 q3)
          have hR243 := (((((((((hR31.trans hE36).rx hU42).xr hE49).tr hU53).xr hE59).tr hU65).tr hF81).xr hE211).tr hU230).tr hU236
          exact ⟨gv_, Av, nv_, cv_, dv_, gp_, Ap, np_, cp_, dp_, rfl, (Frm.mono hR243 q4), (NatR.sub h241 q5), (NatR.sub h242 q5), (by rw [hend.1, e_23, zs_trim, evQ_trim]), hend.2, (by omega), (by omega)⟩
      · have hB244 := (hB83.ext hE211)
        refine dWp (i := 1) rfl rfl (oEv (v := (.agg #[(.bool gp_), (.slice Ap np_ cp_)])) (evLoadAB [(.bool gp_), (.slice Ap np_ cp_)] agg46 sz46 rfl hB244 rfl) rfl ⟨Frm.refl _ _, ?_⟩)
        have hB245 := (hB82.ext hE211)
        refine dOp 0 rfl rfl (by kernel_rfl) (oEv (v := (.agg #[(.bool gv_), (.slice Av nv_ cv_)])) (evLoadAB [(.bool gv_), (.slice Av nv_ cv_)] agg46 sz46 rfl hB245 rfl) rfl ⟨Frm.refl _ _, dOp 2 rfl rfl (by kernel_rfl) (oStore [(.bool gv_), (.slice Av nv_ cv_)] rfl rfl rfl sz46 rfl hB245 (Nat.le_of_ble_eq_true rfl) (fun w246 hU247 hz248 hB249 => ?_))⟩)
        replace hB249 : Blk w246 g8 46 [(.bool gv_), (.slice Av nv_ cv_)] := hB249
        refine ⟨(hU247.mono q4), ?_⟩
        have hB250 := (hB244.frm hU247 q1)
        refine dOp 3 rfl rfl (by kernel_rfl) (oStore [(.bool gp_), (.slice Ap np_ cp_)] rfl rfl rfl sz46 rfl hB250 (Nat.le_of_ble_eq_true rfl) (fun w251 hU252 hz253 hB254 => ?_))
        replace hB254 : Blk w251 g14 46 [(.bool gp_), (.slice Ap np_ cp_)] := hB254
        refine ⟨(hU252.mono q4), dDone (by kernel_rfl) (xN (hK209 _ _ (wp_ret ?_)))⟩
        have hB255 := (hB249.frm hU252 q1)
        refine ret2 (.agg #[(.bool gv_), (.slice Av nv_ cv_)]) (.agg #[(.bool gp_), (.slice Ap np_ cp_)]) Try.results86 (resB [(.bool gv_), (.slice Av nv_ cv_)] agg46 sz46 rfl hB255) (resB [(.bool gp_), (.slice Ap np_ cp_)] agg46 sz46 rfl hB254) ?_
        have hend := scaled_end (v := zval gv_ dv_) (p := zval gp_ dp_) (q := rv (zval ga da) (val dav)) (F := (zs lr_23)) (rv_mul x_34 (by have h := p_34; omega)) (by have h := p_34; omega) (by rw [hv, show k = 0 by omega, List.drop_zero]) (by rw [hp, show k = 0 by omega, Nat.sub_zero])
        have hR256 := (hE211.rx hU247).tr hU252
        have h257 := (hVf.frmB hR256 q3)
        have h258 := (hPf.frmB hR256 q3)
        have hR259 := (((((((((hR31.trans hE36).rx hU42).xr hE49).tr hU53).xr hE59).tr hU65).tr hF81).xr hE211).tr hU247).tr hU252
        exact ⟨gv_, Av, nv_, cv_, dv_, gp_, Ap, np_, cp_, dp_, rfl, (Frm.mono hR259 q4), (NatR.sub h257 q5), (NatR.sub h258 q5), (by rw [hend.1, e_23, zs_trim, evQ_trim]), hend.2, (by omega), (by omega)⟩

theorem unipoly_EvalRat {w : World} {Sf : Nat → Prop} {Af : Option Addr} {nf cf Mf : Nat} {lf : List RI} {ga : Bool} {Sa : Nat → Prop} {Aa : Option Addr} {na ca : Nat} {da : List Nat} {Sav : Nat → Prop} {Aav : Option Addr} {nav cav : Nat} {dav : List Nat} (hf : PolyR w Sf Af nf cf lf Mf) (ha : NatR w Sa Aa na ca da) (hav : NatR w Sav Aav nav cav dav) (hnf : nf ≤ 1024) (hMf : Mf ≤ 65536) (hna : na ≤ 128) (hnav : nav ≤ 128) : Calls Try.prog 52 #[(.slice Af nf cf), (.agg #[(.bool ga), (.slice Aa na ca), (.slice Aav nav cav)])] w (Ret fun v w' => ∃ (gr : Bool) (Ar : Option Addr) (nr : Nat) (cr : Nat) (dr : List Nat) (Arv : Option Addr) (nrv : Nat) (crv : Nat) (drv : List Nat), v = (.agg #[(.bool gr), (.slice Ar nr cr), (.slice Arv nrv crv)]) ∧ Ext w w' ∧ NatR w' (fun b => w.heap.size ≤ b) Ar nr cr dr ∧ NatR w' (fun b => w.heap.size ≤ b) Arv nrv crv drv ∧ (rv (zval gr dr) (val drv) = evQ (zs lf) (rv (zval ga da) (val dav))) ∧ (0 < val drv) ∧ (nr ≤ 536870913) ∧ (nrv ≤ 536870913) ∧ (ICan gr dr) ∧ (Canon isZ drv) ∧ (Nat.gcd (val dr) (val drv) = 1)) := by
  have ⟨kf, jf, mf⟩ := hf.lkm
  replace hf := hf.low
  have ⟨la, ka, ma⟩ := ha.lkm
  replace ha := ha.low
  have ⟨lav, kav, mav⟩ := hav.lkm
  replace hav := hav.low
  refine enter Try.func52 rfl Try.ntmps52 rfl (rS fun K1 hK1 => sO (oBox [(.bool ga), (.slice Aa na ca), (.slice Aav nav cav)] rfl rfl (fun g2 w3 hg4 hE5 hz6 hB7 => sO (oAlloc [(.bool false), (.slice none 0 0), (.slice none 0 0)] zero64 rfl (fun g8 w9 hg10 hE11 hz12 hB13 => sK hK1 (rS fun K14 hK14 => sMs rfl ?_))))))
  have hB15 := (hB7.ext hE11)
  refine sV (evLoadAB [(.bool ga), (.slice Aa na ca), (.slice Aav nav cav)] agg64 sz64 rfl hB15 rfl) ?_
  have hR16 := hE5.trans hE11
  have h17 := (hf.ext hR16)
  have h18 := (ha.ext hR16)
  have h19 := (hav.ext hR16)
  refine sO (oCall rfl call86 (unipoly_scaled h17 h18 h19 (by omega) (by omega) (by omega) (by omega)) rfl ?_)
  rintro _ w21 ⟨gv_20, Av_20, nv_20, cv_20, dv_20, gp_20, Ap_20, np_20, cp_20, dp_20, rfl, hE22, hv_20, hp_20, e_20, po_20, bv_20, bp_20⟩
  have hz23 := hE22.size
  have ⟨lv_20, kv_20, mv_20⟩ := hv_20.lkm
  have ⟨lp_20, kp_20, mp_20⟩ := hp_20.lkm
  have hpn : zval gp_20 dp_20 ≠ 0 := by have h := po_20; omega
  refine sV (v := (.agg #[(.bool gv_20), (.slice Av_20 nv_20 cv_20)])) (rfl) (sV (v := (.agg #[(.bool gp_20), (.slice Ap_20 np_20 cp_20)])) (rfl) (sO (oCall rfl call85 (rational_Make hv_20 hp_20 (by omega) (by omega) (by omega)) rfl ?_)))
  rintro _ w27 ⟨gr_26, Ar_26, nr_26, cr_26, dr_26, Arv_26, nrv_26, crv_26, drv_26, xe_26, rfl, hE28, hr_26, hrv_26, x_26, p_26, cn_26, cv_26, co_26, ok_26, bn_26, bd_26⟩
  have hz29 := hE28.size
  have ⟨lr_26, kr_26, mr_26⟩ := hr_26.lkm
  have ⟨lrv_26, krv_26, mrv_26⟩ := hrv_26.lkm
  refine sV (v := (.tuple #[(.agg #[(.bool gr_26), (.slice Ar_26 nr_26 cr_26), (.slice Arv_26 nrv_26 crv_26)]), (.int .i64 (xe_26))])) (rfl) (sV (v := (.agg #[(.bool gr_26), (.slice Ar_26 nr_26 cr_26), (.slice Arv_26 nrv_26 crv_26)])) (rfl) (sV (v := (.int .i64 (xe_26))) (rfl) (sO (oAlloc [(.bool false), (.slice none 0 0), (.slice none 0 0)] zero64 rfl (fun g32 w33 hg34 hE35 hz36 hB37 => sO (oStore [(.bool gr_26), (.slice Ar_26 nr_26 cr_26), (.slice Arv_26 nrv_26 crv_26)] rfl rfl rfl sz64 rfl hB37 (Nat.le_of_ble_eq_true rfl) (fun w38 hU39 hz40 hB41 => ?_)))))))
  replace hB41 : Blk w38 g32 64 [(.bool gr_26), (.slice Ar_26 nr_26 cr_26), (.slice Arv_26 nrv_26 crv_26)] := hB41
  refine sAi rfl (sK hK14 (rS fun K42 hK42 => sV (evLoadAB [(.bool gr_26), (.slice Ar_26 nr_26 cr_26), (.slice Arv_26 nrv_26 crv_26)] agg64 sz64 rfl hB41 rfl) ?_))
  have hR43 := ((hE22.trans hE28).trans hE35).rx hU39
  have hB44 := (hB13.frm hR43 q1)
  refine sO (oStore [(.bool gr_26), (.slice Ar_26 nr_26 cr_26), (.slice Arv_26 nrv_26 crv_26)] rfl rfl rfl sz64 rfl hB44 (Nat.le_of_ble_eq_true rfl) (fun w45 hU46 hz47 hB48 => ?_))
  replace hB48 : Blk w45 g8 64 [(.bool gr_26), (.slice Ar_26 nr_26 cr_26), (.slice Arv_26 nrv_26 crv_26)] := hB48
  refine sK hK42 (wp_ret (ret1 (.agg #[(.bool gr_26), (.slice Ar_26 nr_26 cr_26), (.slice Arv_26 nrv_26 crv_26)]) Try.results52 (resB [(.bool gr_26), (.slice Ar_26 nr_26 cr_26), (.slice Arv_26 nrv_26 crv_26)] agg64 sz64 rfl hB48) ?_))
  have hR49 := (hE35.rx hU39).tr hU46
  have h50 := (hr_26.frmB hR49 q3)
  have h51 := (hrv_26.frmB hR49 q3)
  have hR52 := ((((hR16.trans hE22).trans hE28).trans hE35).rx hU39).tr hU46
  exact ⟨(gr_26), Ar_26, nr_26, cr_26, dr_26, Arv_26, nrv_26, crv_26, drv_26, rfl, (Frm.mono hR52 q4), (NatR.sub h50 q5), (NatR.sub h51 q5), (evalrat_end e_20 po_20 x_26 p_26), p_26, (by omega), (by omega), cn_26, cv_26, co_26⟩

theorem unipoly_SignAt {w : World} {Sf : Nat → Prop} {Af : Option Addr} {nf cf Mf : Nat} {lf : List RI} {ga : Bool} {Sa : Nat → Prop} {Aa : Option Addr} {na ca : Nat} {da : List Nat} {Sav : Nat → Prop} {Aav : Option Addr} {nav cav : Nat} {dav : List Nat} (hf : PolyR w Sf Af nf cf lf Mf) (ha : NatR w Sa Aa na ca da) (hav : NatR w Sav Aav nav cav dav) (hnf : nf ≤ 1024) (hMf : Mf ≤ 65536) (hna : na ≤ 128) (hnav : nav ≤ 128) : Calls Try.prog 55 #[(.slice Af nf cf), (.agg #[(.bool ga), (.slice Aa na ca), (.slice Aav nav cav)])] w (Ret fun v w' => ∃ (xr : Int) (zv : Int) (zp : Int), v = (.int .i64 (xr)) ∧ Ext w w' ∧ (xr = zv.sign) ∧ (((zv : Int) : Rat) = evQ (zs lf) (rv (zval ga da) (val dav)) * ((zp : Int) : Rat)) ∧ (0 < zp)) := by
  have ⟨kf, jf, mf⟩ := hf.lkm
  replace hf := hf.low
  have ⟨la, ka, ma⟩ := ha.lkm
  replace ha := ha.low
  have ⟨lav, kav, mav⟩ := hav.lkm
  replace hav := hav.low
  refine enter Try.func55 rfl Try.ntmps55 rfl (rS fun K1 hK1 => sO (oBox [(.bool ga), (.slice Aa na ca), (.slice Aav nav cav)] rfl rfl (fun g2 w3 hg4 hE5 hz6 hB7 => sAi rfl (sK hK1 (rS fun K8 hK8 => sMs rfl (sV (evLoadAB [(.bool ga), (.slice Aa na ca), (.slice Aav nav cav)] agg64 sz64 rfl hB7 rfl) ?_))))))
  have h9 := (hf.ext hE5)
  have h10 := (ha.ext hE5)
  have h11 := (hav.ext hE5)
  refine sO (oCall rfl call86 (unipoly_scaled h9 h10 h11 (by omega) (by omega) (by omega) (by omega)) rfl ?_)
  rintro _ w13 ⟨gv_12, Av_12, nv_12, cv_12, dv_12, gp_12, Ap_12, np_12, cp_12, dp_12, rfl, hE14, hv_12, hp_12, e_12, po_12, bv_12, bp_12⟩
  have hz15 := hE14.size
  have ⟨lv_12, kv_12, mv_12⟩ := hv_12.lkm
  have ⟨lp_12, kp_12, mp_12⟩ := hp_12.lkm
  refine sV (v := (.tuple #[(.agg #[(.bool gv_12), (.slice Av_12 nv_12 cv_12)]), (.agg #[(.bool gp_12), (.slice Ap_12 np_12 cp_12)])])) (rfl) (sV (v := (.agg #[(.bool gv_12), (.slice Av_12 nv_12 cv_12)])) (rfl) (sV (v := (.agg #[(.bool gp_12), (.slice Ap_12 np_12 cp_12)])) (rfl) (sO (oAlloc [(.bool false), (.slice none 0 0)] zero46 rfl (fun g18 w19 hg20 hE21 hz22 hB23 => sO (oAlloc [(.bool false), (.slice none 0 0)] zero46 rfl (fun g24 w25 hg26 hE27 hz28 hB29 => ?_)))))))
  have hB30 := (hB23.ext hE27)
  refine sO (oStore [(.bool gv_12), (.slice Av_12 nv_12 cv_12)] rfl rfl rfl sz46 rfl hB30 (Nat.le_of_ble_eq_true rfl) (fun w31 hU32 hz33 hB34 => ?_))
  replace hB34 : Blk w31 g18 46 [(.bool gv_12), (.slice Av_12 nv_12 cv_12)] := hB34
  have hB35 := (hB29.frm hU32 q1)
  refine sO (oStore [(.bool gp_12), (.slice Ap_12 np_12 cp_12)] rfl rfl rfl sz46 rfl hB35 (Nat.le_of_ble_eq_true rfl) (fun w36 hU37 hz38 hB39 => ?_))
  replace hB39 : Blk w36 g24 46 [(.bool gp_12), (.slice Ap_12 np_12 cp_12)] := hB39
  refine sK hK8 (rS fun K40 hK40 => ?_)
  have hB41 := (hB34.frm hU37 q1)
  refine sV (evLoadAB [(.bool gv_12), (.slice Av_12 nv_12 cv_12)] agg46 sz46 rfl hB41 rfl) ?_
  have hR42 := ((hE21.trans hE27).rx hU32).tr hU37
  have h43 := (hv_12.frmB hR42 q3)
  refine sO (oCall rfl call62 (integer_Sign h43) rfl ?_)
  rintro _ w45 ⟨xr_44, rfl, hE46, e_44⟩
  have hz47 := hE46.size
  refine sAi rfl (sK hK40 (wp_ret (ret1 (.int .i64 (xr_44)) Try.results55 (resT rfl) ?_)))
  have hR48 := (((((hE5.trans hE14).trans hE21).trans hE27).rx hU32).tr hU37).xr hE46
  exact ⟨(xr_44), (zval gv_12 dv_12), (zval gp_12 dp_12), rfl, (Frm.mono hR48 q4), e_44, e_12, po_12⟩

end Go.Proofs.Ytppegjbdencefaa
