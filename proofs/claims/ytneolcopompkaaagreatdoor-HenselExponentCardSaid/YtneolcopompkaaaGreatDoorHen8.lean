/-
  Walk of package hensel: one step of the lift.
-/
import Derived.Test.YtneolcopompkaaaGreatDoorHen6
import Derived.Test.YtneolcopompkaaaGreatDoorHen5
import Derived.Test.YtneolcopompkaaaGreatDoorLibB
namespace Go.Proofs.YtneolcopompkaaaGreatDoor
open Go.RowKit Go.Gx
set_option maxHeartbeats 4000000 in
theorem hensel_step {w : World} {Sf : Nat → Prop} {Af : Option Addr} {nf cf Mf : Nat} {lf : List RI} {Ss0 : Nat → Prop} {As0 : Option Addr} {ns0 cs0 Ms0 : Nat} {fs0 : List PE} {Ss1 : Nat → Prop} {As1 : Option Addr} {ns1 cs1 Ms1 : Nat} {fs1 : List PE} {gm : Bool} {Sm : Nat → Prop} {Am : Option Addr} {nm cm : Nat} {dm : List Nat} (hf : PolyR w Sf Af nf cf lf Mf) (hs0 : PolysR w Ss0 As0 ns0 cs0 fs0 Ms0) (hs1 : PolysR w Ss1 As1 ns1 cs1 fs1 Ms1) (hm : NatR w Sm Am nm cm dm) (hnf : nf ≤ 64) (hMf : Mf ≤ 4096) (hnl : ns0 ≤ 8 ∧ ns1 = ns0) (hMl : Ms0 ≤ 4096 ∧ Ms1 ≤ 4096) (hnm : nm ≤ 4096) (hm0 : zval gm dm ≠ 0) (hle : (∀ x ∈ fs0, x.n ≤ 64) ∧ ∀ x ∈ fs1, x.n ≤ 64) (hcp : Int.gcd (ldP (zs lf)) (zval gm dm) = 1) (hgd : ∀ x ∈ fs0, 0 < (trimZ (zs x.l)).length) (hg1 : ∀ x k : Int, x * ldP (zs lf) = 1 + zval gm dm * k → x = symZ (zval gm dm).natAbs x → ∀ u ∈ step0 (zval gm dm).natAbs x (zs lf) (zsL fs0) (zsL fs1), 0 < (trimZ u).length) : Calls Tryz.prog 61 #[(.slice Af nf cf), (.agg #[(.slice As0 ns0 cs0), (.slice As1 ns1 cs1)]), (.agg #[(.bool gm), (.slice Am nm cm)])] w (Ret fun v w' => ∃ (Ar0 : Option Addr) (nr0 : Nat) (cr0 : Nat) (fr0 : List PE) (Ar1 : Option Addr) (nr1 : Nat) (cr1 : Nat) (fr1 : List PE), v = (.agg #[(.slice Ar0 nr0 cr0), (.slice Ar1 nr1 cr1)]) ∧ Ext w w' ∧ PolysR w' (fun b => w.heap.size ≤ b) Ar0 nr0 cr0 fr0 (nm + 2) ∧ PolysR w' (fun b => w.heap.size ≤ b) Ar1 nr1 cr1 fr1 (nm + 2) ∧ (∃ x k : Int, x * ldP (zs lf) = 1 + zval gm dm * k ∧ x = symZ (zval gm dm).natAbs x ∧ zsL fr0 = step0 (zval gm dm).natAbs x (zs lf) (zsL fs0) (zsL fs1) ∧ zsL fr1 = step1 (zval gm dm).natAbs x (zs lf) (zsL fs0) (zsL fs1)) ∧ (nr0 = ns0 ∧ nr1 = ns0) ∧ ((∀ x ∈ fr0, x.n ≤ 64) ∧ ∀ x ∈ fr1, x.n ≤ 64)) := by
  have ⟨kf, jf, mf⟩ := hf.lkm
  replace hf := hf.low
  have ⟨ks0, js0, ms0⟩ := hs0.lkm; replace hs0 := hs0.low
  have ⟨ks1, js1, ms1⟩ := hs1.lkm; replace hs1 := hs1.low
  have ⟨lm, km, mm⟩ := hm.lkm
  replace hm := hm.low
  refine enter Tryz.func61 rfl Tryz.ntmps61 rfl (rS fun K1 hK1 => sO (oBox [(.slice As0 ns0 cs0), (.slice As1 ns1 cs1)] rfl rfl (fun g2 w3 hg4 hE5 hz6 hB7 => sO (oBox [(.bool gm), (.slice Am nm cm)] rfl rfl (fun g8 w9 hg10 hE11 hz12 hB13 => sO (oAlloc [(.slice none 0 0), (.slice none 0 0)] zero92 rfl (fun g14 w15 hg16 hE17 hz18 hB19 => sK hK1 (rS fun K20 hK20 => sO (oAlloc [(.slice none 0 0), (.slice none 0 0)] zero92 rfl (fun g21 w22 hg23 hE24 hz25 hB26 => sK hK20 (rS fun K27 hK27 => sMs rfl ?_)))))))))))
  have hR28 := ((hE5.trans hE11).trans hE17).trans hE24
  have h29 := (hf.ext hR28)
  refine sO (oCall rfl call41 (unipoly_Lead h29 (by omega) (by omega)) rfl ?_)
  rintro _ w31 ⟨gr_30, Ar_30, nr_30, cr_30, dr_30, rfl, hE32, hr_30, v_30, cn_30, le_30⟩
  have hz33 := hE32.size
  have ⟨lr_30, kr_30, mr_30⟩ := hr_30.lkm
  have hld : zval gr_30 dr_30 = ldP (zs lf) := v_30
  refine sO (oAlloc [(.bool false), (.slice none 0 0)] zero25 rfl (fun g35 w36 hg37 hE38 hz39 hB40 => sO (oStore [(.bool gr_30), (.slice Ar_30 nr_30 cr_30)] rfl rfl rfl sz25 rfl hB40 (Nat.le_of_ble_eq_true rfl) (fun w41 hU42 hz43 hB44 => ?_))))
  replace hB44 : Blk w41 g35 25 [(.bool gr_30), (.slice Ar_30 nr_30 cr_30)] := hB44
  refine sK hK27 (rS fun K45 hK45 => sV (evLoadAB [(.bool gr_30), (.slice Ar_30 nr_30 cr_30)] agg25 sz25 rfl hB44 rfl) ?_)
  have hR46 := (((hE17.trans hE24).trans hE32).trans hE38).rx hU42
  have hB47 := (hB13.frm hR46 q1)
  refine sV (evLoadAB [(.bool gm), (.slice Am nm cm)] agg25 sz25 rfl hB47 rfl) ?_
  have hR48 := hE38.rx hU42
  have h49 := (hr_30.frmB hR48 q3)
  have hR50 := ((hR28.trans hE32).trans hE38).rx hU42
  have h51 := (hm.frmB hR50 q3)
  refine sO (oCall rfl call99 (division_Xgcd h49 h51 (by omega) (by omega) hm0 (by rw [hld]; exact hcp)) rfl ?_)
  rintro _ w53 ⟨gt_52, At_52, nt_52, ct_52, dt_52, gx_52, Ax_52, nx_52, cx_52, dx_52, gy_52, Ay_52, ny_52, cy_52, dy_52, rfl, hE54, ht_52, hx_52, hy_52, x_52, xs_52, lx_52⟩
  have hz55 := hE54.size
  have ⟨lt_52, kt_52, mt_52⟩ := ht_52.lkm
  have ⟨lx_52, kx_52, mx_52⟩ := hx_52.lkm
  have ⟨ly_52, ky_52, my_52⟩ := hy_52.lkm
  obtain ⟨kx, hkx⟩ := x_52; rw [hld] at hkx
  refine sV (v := (.tuple #[(.agg #[(.bool gt_52), (.slice At_52 nt_52 ct_52)]), (.agg #[(.bool gx_52), (.slice Ax_52 nx_52 cx_52)]), (.agg #[(.bool gy_52), (.slice Ay_52 ny_52 cy_52)])])) (rfl) (sV (v := (.agg #[(.bool gt_52), (.slice At_52 nt_52 ct_52)])) (rfl) (sV (v := (.agg #[(.bool gx_52), (.slice Ax_52 nx_52 cx_52)])) (rfl) (sV (v := (.agg #[(.bool gy_52), (.slice Ay_52 ny_52 cy_52)])) (rfl) (sO (oAlloc [(.bool false), (.slice none 0 0)] zero25 rfl (fun g59 w60 hg61 hE62 hz63 hB64 => sO (oAlloc [(.bool false), (.slice none 0 0)] zero25 rfl (fun g65 w66 hg67 hE68 hz69 hB70 => sO (oAlloc [(.bool false), (.slice none 0 0)] zero25 rfl (fun g71 w72 hg73 hE74 hz75 hB76 => ?_))))))))))
  have hR77 := hE68.trans hE74
  have hB78 := (hB64.ext hR77)
  refine sO (oStore [(.bool gt_52), (.slice At_52 nt_52 ct_52)] rfl rfl rfl sz25 rfl hB78 (Nat.le_of_ble_eq_true rfl) (fun w79 hU80 hz81 hB82 => ?_))
  replace hB82 : Blk w79 g59 25 [(.bool gt_52), (.slice At_52 nt_52 ct_52)] := hB82
  have hR83 := hE74.rx hU80
  have hB84 := (hB70.frm hR83 q1)
  refine sO (oStore [(.bool gx_52), (.slice Ax_52 nx_52 cx_52)] rfl rfl rfl sz25 rfl hB84 (Nat.le_of_ble_eq_true rfl) (fun w85 hU86 hz87 hB88 => ?_))
  replace hB88 : Blk w85 g65 25 [(.bool gx_52), (.slice Ax_52 nx_52 cx_52)] := hB88
  have hR89 := hU80.tr hU86
  have hB90 := (hB76.frm hR89 q1)
  refine sO (oStore [(.bool gy_52), (.slice Ay_52 ny_52 cy_52)] rfl rfl rfl sz25 rfl hB90 (Nat.le_of_ble_eq_true rfl) (fun w91 hU92 hz93 hB94 => ?_))
  replace hB94 : Blk w91 g71 25 [(.bool gy_52), (.slice Ay_52 ny_52 cy_52)] := hB94
  refine sK hK45 (rS fun K95 hK95 => ?_)
  have hR96 := (((((((((((hE11.trans hE17).trans hE24).trans hE32).trans hE38).rx hU42).xr hE54).xr hE62).xr hE68).xr hE74).tr hU80).tr hU86).tr hU92
  have hB97 := (hB7.frm hR96 q1)
  refine sV (evLoadAB [(.slice As0 ns0 cs0), (.slice As1 ns1 cs1)] agg92 sz92 rfl hB97 rfl) ?_
  have hR98 := (((((hE54.trans hE62).trans hE68).trans hE74).rx hU80).tr hU86).tr hU92
  have hB99 := (hB47.frm hR98 q1)
  refine sV (evLoadAB [(.bool gm), (.slice Am nm cm)] agg25 sz25 rfl hB99 rfl) ?_
  have hR100 := ((((((hR50.xr hE54).xr hE62).xr hE68).xr hE74).tr hU80).tr hU86).tr hU92
  have h101 := (hs0.frmB hR100 q3)
  have h102 := (hs1.frmB hR100 q3)
  have h103 := (h51.frmB hR98 q3)
  refine sO (oCall rfl call100 (hensel_sum h101 h102 h103 (by omega) (by omega) (by omega) hm0 hle) rfl ?_)
  rintro _ w105 ⟨At_104, nt_104, ct_104, lt_104, Ar_104, nr_104, cr_104, lr_104, rfl, hE106, ht_104, hr_104, e_104, bt_104, br_104, cn_104⟩
  have hz107 := hE106.size
  have ⟨kt_104, jt_104, mt_104⟩ := ht_104.lkm
  have ⟨kr_104, jr_104, mr_104⟩ := hr_104.lkm
  refine sV (v := (.tuple #[(.slice At_104 nt_104 ct_104), (.slice Ar_104 nr_104 cr_104)])) (rfl) (sV (v := (.slice At_104 nt_104 ct_104)) (rfl) (sV (v := (.slice Ar_104 nr_104 cr_104)) (rfl) (sAs rfl (sAs rfl (sK hK95 (rS fun K110 hK110 => sMs rfl (sMs rfl ?_)))))))
  have hR111 := hR98.xr hE106
  have hB112 := (hB44.frm hR111 q1)
  refine sV (evLoadAB [(.bool gr_30), (.slice Ar_30 nr_30 cr_30)] agg25 sz25 rfl hB112 rfl) ?_
  have h113 := (h49.frmB hR111 q3)
  refine sO (oCall rfl call16 (unipoly_Scale hr_104 h113 (by omega) (by omega) (by omega)) rfl ?_)
  rintro _ w115 ⟨Ar_114, nr_114, cr_114, lr_114, rfl, hE116, hr_114, e_114, ln_114, cn_114⟩
  have hz117 := hE116.size
  have ⟨kr_114, jr_114, mr_114⟩ := hr_114.lkm
  have hR119 := ((((((((((hE32.trans hE38).rx hU42).xr hE54).xr hE62).xr hE68).xr hE74).tr hU80).tr hU86).tr hU92).xr hE106).xr hE116
  have h120 := (h29.frmB hR119 q3)
  refine sO (oCall rfl call71 (unipoly_Sub h120 hr_114 (by omega) (by omega) (by omega) (by omega)) rfl ?_)
  rintro _ w122 ⟨Ar_121, nr_121, cr_121, lr_121, rfl, hE123, hr_121, e_121, ln_121, cn_121⟩
  have hz124 := hE123.size
  have ⟨kr_121, jr_121, mr_121⟩ := hr_121.lkm
  refine sAs rfl (sK hK110 (wp_seq_k fun K126 hK126 => dBegin (fun _ => False) mixed (fun w127 hE128 hz129 => dMs 0 rfl rfl ?_)))
  have hR130 := ((hE106.trans hE116).trans hE123).trans hE128
  have hB131 := (hB99.ext hR130)
  refine dV 1 rfl (fun _ hf => evLoadAB [(.bool gm), (.slice Am nm cm)] agg25 sz25 rfl (hB131.ext hf) rfl) ?_
  have hR132 := (((hU92.xr hE106).xr hE116).xr hE123).xr hE128
  have hB133 := (hB88.frm hR132 q1)
  refine dV 3 rfl (fun _ hf => evLoadAB [(.bool gx_52), (.slice Ax_52 nx_52 cx_52)] agg25 sz25 rfl (hB133.ext hf) rfl) (dV 5 rfl (fun _ hf => evLoadAB [(.bool gm), (.slice Am nm cm)] agg25 sz25 rfl (hB131.ext hf) rfl) ?_)
  have h134 := (hr_121.ext hE128)
  have h135 := (h103.ext hR130)
  refine dOp 2 rfl rfl (by kernel_rfl) (oCall rfl call68 (hensel_reduce h134 h135 (by omega) (by omega) (by omega) hm0) rfl ?_)
  rintro _ w137 ⟨Ar_136, nr_136, cr_136, lr_136, rfl, hE138, hr_136, e_136, le_136, cn_136⟩
  refine ⟨(Frm.of_ext hE138), ?_⟩
  have hz139 := hE138.size
  have ⟨kr_136, jr_136, mr_136⟩ := hr_136.lkm
  have hR141 := (((((((((hE62.trans hE68).trans hE74).rx hU80).tr hU86).tr hU92).xr hE106).xr hE116).xr hE123).xr hE128).xr hE138
  have h142 := (hx_52.frmB hR141 q3)
  refine dOp 4 rfl rfl (by kernel_rfl) (oCall rfl call16 (unipoly_Scale hr_136 h142 (by omega) (by omega) (by omega)) rfl ?_)
  rintro _ w144 ⟨Ar_143, nr_143, cr_143, lr_143, rfl, hE145, hr_143, e_143, ln_143, cn_143⟩
  refine ⟨(Frm.of_ext hE145), ?_⟩
  have hz146 := hE145.size
  have ⟨kr_143, jr_143, mr_143⟩ := hr_143.lkm
  have hR148 := hE138.trans hE145
  have h149 := (h135.ext hR148)
  refine dOp 6 rfl rfl (by kernel_rfl) (oCall rfl call68 (hensel_reduce hr_143 h149 (by omega) (by omega) (by omega) hm0) rfl ?_)
  rintro _ w151 ⟨Ar_150, nr_150, cr_150, lr_150, rfl, hE152, hr_150, e_150, le_150, cn_150⟩
  refine ⟨(Frm.of_ext hE152), ?_⟩
  have hz153 := hE152.size
  have ⟨kr_150, jr_150, mr_150⟩ := hr_150.lkm
  refine dAs 7 rfl rfl (dDone (by kernel_rfl) (xN (hK126 _ _ (wp_seq_k fun K155 hK155 => rS fun K156 hK156 => sV (evArr 0 Tryz.underlying92 sz43 rfl rfl 0) ?_))))
  have hR157 := ((hR130.trans hE138).trans hE145).trans hE152
  have hB158 := (hB97.ext hR157)
  refine sV (evLoadB one43 rfl hB158 rfl) (sV (evLen Tryz.underlying43 rfl) (sMi rfl (sK hK156 (wp_block ?_))))
  have hR160 := ((((hR119.xr hE123).xr hE128).xr hE138).xr hE145).xr hE152
  have hB161 := (hB26.frm hR160 q1)
  refine lLoop (fun m e w_ => ∃ (i : Nat) (nO0 : Nat) (Ao0 : Option Addr) (cO0 : Nat) (fo0 : List PE), m = ns0 - i ∧ e 4 = (.pointer (some ⟨g2, 0, none⟩)) ∧ e 5 = (.pointer (some ⟨g8, 0, none⟩)) ∧ e 6 = (.pointer (some ⟨g14, 0, none⟩)) ∧ e 7 = (.pointer (some ⟨g21, 0, none⟩)) ∧ e 14 = (.slice Ar_150 nr_150 cr_150) ∧ e 52 = (.slice As0 ns0 cs0) ∧ e 53 = (.int .i64 ((ns0 : Int))) ∧ e 54 = (.int .i64 ((i : Int))) ∧ Frm (fun b => w151.heap.size ≤ b ∨ b = g21) w151 w_ ∧ Blk w_ g21 92 ([(.slice Ao0 nO0 cO0), (.slice none 0 0)]) ∧ (i ≤ ns0) ∧ (OwnX (nm + 2) g21 w_ w151.heap.size 39 Ao0 nO0 cO0 fo0) ∧ (nO0 = i) ∧ (∀ x ∈ fo0, x.n ≤ 64) ∧ (zsL fo0 = ((zsL (fs0.take i)).zip (zsL (fs1.take i))).map (fun p => nxt0 (zval gm dm).natAbs (zs lr_150) p.1 p.2))) (ns0 - (0)) ?_ ?_
  · refine ⟨(0), (0), (none), (0), ([]), rfl, rfl, rfl, rfl, rfl, rfl, rfl, rfl, cI, (Frm.refl _ _), ?_, ?_, ?_, ?_, ?_, ?_⟩
    · exact hB161
    · omega
    · exact OwnX.nil (by omega)
    · rfl
    · exact fun x hx => (by cases hx)
    · rfl
  · rintro m159 e174 w162 ⟨i, nO0, Ao0, cO0, fo0, hm173, hs163, hs164, hs165, hs166, hs167, hs168, hs169, hs170, hF171, hB172, hi, hO0, hnO0, hl0, hac0⟩
    obtain ⟨r175, rfl⟩ := sq (e := e174) (t := 4) hs163
    obtain ⟨r176, rfl⟩ := sq (e := r175) (t := 5) hs164
    obtain ⟨r177, rfl⟩ := sq (e := r176) (t := 6) hs165
    obtain ⟨r178, rfl⟩ := sq (e := r177) (t := 7) hs166
    obtain ⟨r179, rfl⟩ := sq (e := r178) (t := 14) hs167
    obtain ⟨r180, rfl⟩ := sq (e := r179) (t := 52) hs168
    obtain ⟨r181, rfl⟩ := sq (e := r180) (t := 53) hs169
    obtain ⟨r182, rfl⟩ := sq (e := r181) (t := 54) hs170
    have hz183 := hF171.size
    have ⟨hOa0, hOb0, hOc0⟩ := hO0.lkm
    refine rS fun K184 hK184 => ?_
    by_cases hc185 : ((i : Int)) < ((ns0 : Int))
    · refine sV (evLss true rfl rfl (dT hc185)) (sK hK184 (wp_seq_k fun K186 hK186 => cT rfl (wp_skip (xN (hK186 _ _ (wp_seq_k fun K187 hK187 => wp_block (rS fun K188 hK188 => sMi rfl ?_)))))))
      have hR189 := hR157.rx hF171
      have h190 := (h101.frmB hR189 q3)
      obtain ⟨b191, o192, rfl⟩ := h190.base (by omega)
      refine sV (evIx i Tryz.underlying43 sz39 rfl rfl (o192 + i)) ?_
      obtain ⟨⟨A_193, n_193, c_193, l_193⟩, he_193, hp_193, hP_193, hS_193, hb_193⟩ := h190.at_ (i := i) (by omega)
      dsimp only at hp_193 hP_193; have ⟨q1_193, q2_193, q3_193⟩ := hP_193.lkm
      have h64_193 := hle.1 _ (List.mem_of_getElem? he_193); dsimp only at h64_193
      have hgd_193 := hgd _ (List.mem_of_getElem? he_193); dsimp only at hgd_193
      refine sV (evLoad one39 rfl hp_193) (sAi rfl (sAs rfl (sK hK188 (wp_seq_k fun K195 hK195 => dBegin (fun _ => False) mixed (fun w196 hE197 hz198 => dV 0 rfl (fun _ _ => evArr 1 Tryz.underlying92 sz43 rfl rfl 1) ?_)))))
      have hR199 := hF171.xr hE197
      have hB200 := (hB158.frm hR199 q1)
      refine dV 1 rfl (fun _ hf => evLoadB one43 rfl (hB200.ext hf) rfl) (dMi 2 rfl rfl ?_)
      have hR201 := hR189.xr hE197
      have h202 := (h102.frmB hR201 q3)
      obtain ⟨b203, o204, rfl⟩ := h202.base (by omega)
      refine dV 3 rfl (fun _ _ => evIx i Tryz.underlying43 sz39 rfl rfl (o204 + i)) ?_
      obtain ⟨⟨A_205, n_205, c_205, l_205⟩, he_205, hp_205, hP_205, hS_205, hb_205⟩ := h202.at_ (i := i) (by omega)
      dsimp only at hp_205 hP_205; have ⟨q1_205, q2_205, q3_205⟩ := hP_205.lkm
      have h64_205 := hle.2 _ (List.mem_of_getElem? he_205); dsimp only at h64_205
      refine dV 4 rfl (fun _ hf => evLoad one39 rfl ((hf.cell (p := ⟨_, _, none⟩) hb_205 (fun h => h)).trans hp_205)) (dMs 5 rfl rfl (dMs 7 rfl rfl ?_))
      have hR207 := ((hR148.trans hE152).rx hF171).xr hE197
      have hB208 := (hB131.frm hR207 q1)
      refine dV 8 rfl (fun _ hf => evLoadAB [(.bool gm), (.slice Am nm cm)] agg25 sz25 rfl (hB208.ext hf) rfl) ?_
      have h209 := (hr_150.frmB hR199 q3)
      refine dOp 6 rfl rfl (by kernel_rfl) (oCall rfl call19 (unipoly_Mul hP_205 h209 (by omega) (by omega) (by omega) (by omega)) rfl ?_)
      rintro _ w211 ⟨Ar_210, nr_210, cr_210, lr_210, rfl, hE212, hr_210, e_210, ln_210, cn_210⟩
      refine ⟨(Frm.of_ext hE212), ?_⟩
      have hz213 := hE212.size
      have ⟨kr_210, jr_210, mr_210⟩ := hr_210.lkm
      have hR215 := hE197.trans hE212
      have h216 := (hP_193.ext hR215)
      have hR217 := ((hE152.rx hF171).xr hE197).xr hE212
      have h218 := (h149.frmB hR217 q3)
      refine dOp 9 rfl rfl (by kernel_rfl) (oCall rfl call101 (hensel_remainder hr_210 h216 h218 (by omega) (by omega) (by omega) (by omega) (by omega) hm0 hgd_193) rfl ?_)
      rintro _ w220 ⟨Ar_219, nr_219, cr_219, lr_219, rfl, hE221, hr_219, e_219, lr_219, lf_219, cn_219⟩
      refine ⟨(Frm.of_ext hE221), ?_⟩
      have hz222 := hE221.size
      have ⟨kr_219, jr_219, mr_219⟩ := hr_219.lkm
      have htl_193 : (trimZ (zs l_193)).length ≤ 64 := by have h := trimZ_len (zs l_193); rw [zlen] at h; omega
      refine dAs 10 rfl rfl (dDone (by kernel_rfl) (xN (hK195 _ _ (dBegin (fun b => w151.heap.size ≤ b ∨ b = g21) mixed (fun w224 hE225 hz226 => dV 0 rfl (fun _ _ => evArr 0 Tryz.underlying92 sz43 rfl rfl 0) (dMs 2 rfl rfl (dMs 3 rfl rfl ?_)))))))
      have hR227 := (hE212.trans hE221).trans hE225
      have hB228 := (hB208.ext hR227)
      refine dV 5 rfl (fun _ hf => evLoadAB [(.bool gm), (.slice Am nm cm)] agg25 sz25 rfl (hB228.frm hf q1) rfl) (dTwo 1 4 (by kernel_rfl) ?_ ?_)
      · have hR229 := (hR215.trans hE221).trans hE225
        have hB230 := (hB172.ext hR229)
        refine dWp (i := 1) rfl rfl (oEv (v := (.slice Ao0 nO0 cO0)) (evLoadB one43 rfl hB230 rfl) rfl ⟨Frm.refl _ _, ?_⟩)
        have hR231 := hE221.trans hE225
        have h232 := (h216.ext hR231)
        have h233 := (hr_219.ext hE225)
        refine dOp 4 rfl rfl (by kernel_rfl) (oCall rfl call102 (unipoly_Add h232 h233 (by omega) (by omega) (by omega) (by omega)) rfl ?_)
        rintro _ w235 ⟨Ar_234, nr_234, cr_234, lr_234, rfl, hE236, hr_234, e_234, ln_234, cn_234⟩
        refine ⟨(Frm.of_ext hE236), ?_⟩
        have hz237 := hE236.size
        have ⟨kr_234, jr_234, mr_234⟩ := hr_234.lkm
        have hR239 := hR231.trans hE236
        have h240 := (h218.ext hR239)
        refine dOp 6 rfl rfl (by kernel_rfl) (oCall rfl call68 (hensel_reduce hr_234 h240 (by omega) (by omega) (by omega) hm0) rfl ?_)
        rintro _ w242 ⟨Ar_241, nr_241, cr_241, lr_241, rfl, hE243, hr_241, e_241, le_241, cn_241⟩
        refine ⟨(Frm.of_ext hE243), ?_⟩
        have hz244 := hE243.size
        have ⟨kr_241, jr_241, mr_241⟩ := hr_241.lkm
        refine dOp 7 rfl rfl (by kernel_rfl) (oBuildSlice [(.slice Ar_241 nr_241 cr_241)] [[(.slice Ar_241 nr_241 cr_241)]] Tryz.underlying43 inf39 rfl rfl rfl rfl rfl (fun g246 w247 hg248 hE249 hz250 hB251 => ⟨(Frm.of_ext hE249), ?_⟩))
        replace hB251 : Blk w247 g246 39 [(.slice Ar_241 nr_241 cr_241)] := hB251
        have hR252 := ((hR229.trans hE236).trans hE243).trans hE249
        have hO253 := (hO0.ext hR252)
        have h254 := (hr_241.ext hE249)
        refine dOp 8 rfl rfl (by kernel_rfl) (oAppG (L := LPx (nm + 2) g21) (f := (⟨Ar_241, nr_241, cr_241, lr_241⟩ : PE)) (S := fun b => (fun b => w235.heap.size ≤ b) b) (B := w151.heap.size) Tryz.underlying43 inf39 rfl rfl rfl hO253.2 hB251 (PolyR.le (PolyR.sub h254 (fun b hb_ hs => ⟨hs, by (try dsimp only at hs); omega⟩)) (by omega)) (fun b hb_ hs a ha e => by have h9 := hO0.2.1.lt a ha; (try dsimp only at hs); omega) (by omega) (by omega) (by omega) (fun A255 c256 w257 hO258 hF259 _ hn260 => ⟨(hF259.mono q4), ?_⟩))
        replace hO258 : OwnX (nm + 2) g21 w257 w151.heap.size 39 A255 (nO0 + 1) c256 (fo0 ++ [(⟨Ar_241, nr_241, cr_241, lr_241⟩ : PE)]) := ⟨hO253.1, hO258⟩
        have hz261 := hF259.size; have ⟨_, _, _⟩ := hO258.lkm
        refine dV 9 rfl (fun _ _ => evArr 0 Tryz.underlying92 sz43 rfl rfl 0) ?_
        have hR262 := ((hE236.trans hE243).trans hE249).rx hF259
        have hB263 := (hB230.frm hR262 q1)
        refine dOp 10 rfl rfl (by kernel_rfl) (oStore [(.slice A255 (nO0 + 1) c256)] rfl rfl rfl sz43 rfl hB263 (Nat.le_of_ble_eq_true rfl) (fun w264 hU265 hz266 hB267 => ?_))
        replace hB267 : Blk w264 g21 92 [(.slice A255 (nO0 + 1) c256), (.slice none 0 0)] := hB267
        refine ⟨(hU265.mono q4), dDone (by kernel_rfl) (bN (xN (hK187 _ _ (wp_region_lit (sV (evAdd (((i : Int)) + 1) rfl rfl wI) (sMi rfl (sDone ?_)))))))⟩
        have hR268 := (hR252.rx hF259).tr hU265
        have hO269 := (hO258.frmB hU265 q3)
        refine again (ns0 - (i + 1)) (by omega) ⟨(i + 1), (nO0 + 1), (A255), (c256), (fo0 ++ [(⟨Ar_241, nr_241, cr_241, lr_241⟩ : PE)]), rfl, rfl, rfl, rfl, rfl, rfl, rfl, rfl, cI, (Frm.mono (hF171.tr hR268) q4), ?_, ?_, ?_, ?_, ?_, ?_⟩
        · exact hB267
        · omega
        · exact hO269
        · omega
        · exact lenL_snoc hl0 (by (try dsimp only); omega)
        · exact zmap_next hac0 he_193 he_205 (by show zs _ = _; rw [e_241, e_234, e_219, e_210]; rfl)
      · have hR270 := hE221.trans hE225
        have h271 := (h216.ext hR270)
        have h272 := (hr_219.ext hE225)
        refine dWp (i := 4) rfl rfl (oCall rfl call102 (unipoly_Add h271 h272 (by omega) (by omega) (by omega) (by omega)) rfl ?_)
        rintro _ w274 ⟨Ar_273, nr_273, cr_273, lr_273, rfl, hE275, hr_273, e_273, ln_273, cn_273⟩
        refine ⟨(Frm.of_ext hE275), ?_⟩
        have hz276 := hE275.size
        have ⟨kr_273, jr_273, mr_273⟩ := hr_273.lkm
        refine dTwo 1 6 (by kernel_rfl) ?_ ?_
        · have hR278 := ((hR215.trans hE221).trans hE225).trans hE275
          have hB279 := (hB172.ext hR278)
          refine dWp (i := 1) rfl rfl (oEv (v := (.slice Ao0 nO0 cO0)) (evLoadB one43 rfl hB279 rfl) rfl ⟨Frm.refl _ _, ?_⟩)
          have hR280 := hR270.trans hE275
          have h281 := (h218.ext hR280)
          refine dOp 6 rfl rfl (by kernel_rfl) (oCall rfl call68 (hensel_reduce hr_273 h281 (by omega) (by omega) (by omega) hm0) rfl ?_)
          rintro _ w283 ⟨Ar_282, nr_282, cr_282, lr_282, rfl, hE284, hr_282, e_282, le_282, cn_282⟩
          refine ⟨(Frm.of_ext hE284), ?_⟩
          have hz285 := hE284.size
          have ⟨kr_282, jr_282, mr_282⟩ := hr_282.lkm
          refine dOp 7 rfl rfl (by kernel_rfl) (oBuildSlice [(.slice Ar_282 nr_282 cr_282)] [[(.slice Ar_282 nr_282 cr_282)]] Tryz.underlying43 inf39 rfl rfl rfl rfl rfl (fun g287 w288 hg289 hE290 hz291 hB292 => ⟨(Frm.of_ext hE290), ?_⟩))
          replace hB292 : Blk w288 g287 39 [(.slice Ar_282 nr_282 cr_282)] := hB292
          have hR293 := (hR278.trans hE284).trans hE290
          have hO294 := (hO0.ext hR293)
          have h295 := (hr_282.ext hE290)
          refine dOp 8 rfl rfl (by kernel_rfl) (oAppG (L := LPx (nm + 2) g21) (f := (⟨Ar_282, nr_282, cr_282, lr_282⟩ : PE)) (S := fun b => (fun b => w274.heap.size ≤ b) b) (B := w151.heap.size) Tryz.underlying43 inf39 rfl rfl rfl hO294.2 hB292 (PolyR.le (PolyR.sub h295 (fun b hb_ hs => ⟨hs, by (try dsimp only at hs); omega⟩)) (by omega)) (fun b hb_ hs a ha e => by have h9 := hO0.2.1.lt a ha; (try dsimp only at hs); omega) (by omega) (by omega) (by omega) (fun A296 c297 w298 hO299 hF300 _ hn301 => ⟨(hF300.mono q4), ?_⟩))
          replace hO299 : OwnX (nm + 2) g21 w298 w151.heap.size 39 A296 (nO0 + 1) c297 (fo0 ++ [(⟨Ar_282, nr_282, cr_282, lr_282⟩ : PE)]) := ⟨hO294.1, hO299⟩
          have hz302 := hF300.size; have ⟨_, _, _⟩ := hO299.lkm
          refine dV 9 rfl (fun _ _ => evArr 0 Tryz.underlying92 sz43 rfl rfl 0) ?_
          have hR303 := (hE284.trans hE290).rx hF300
          have hB304 := (hB279.frm hR303 q1)
          refine dOp 10 rfl rfl (by kernel_rfl) (oStore [(.slice A296 (nO0 + 1) c297)] rfl rfl rfl sz43 rfl hB304 (Nat.le_of_ble_eq_true rfl) (fun w305 hU306 hz307 hB308 => ?_))
          replace hB308 : Blk w305 g21 92 [(.slice A296 (nO0 + 1) c297), (.slice none 0 0)] := hB308
          refine ⟨(hU306.mono q4), dDone (by kernel_rfl) (bN (xN (hK187 _ _ (wp_region_lit (sV (evAdd (((i : Int)) + 1) rfl rfl wI) (sMi rfl (sDone ?_)))))))⟩
          have hR309 := (hR293.rx hF300).tr hU306
          have hO310 := (hO299.frmB hU306 q3)
          refine again (ns0 - (i + 1)) (by omega) ⟨(i + 1), (nO0 + 1), (A296), (c297), (fo0 ++ [(⟨Ar_282, nr_282, cr_282, lr_282⟩ : PE)]), rfl, rfl, rfl, rfl, rfl, rfl, rfl, rfl, cI, (Frm.mono (hF171.tr hR309) q4), ?_, ?_, ?_, ?_, ?_, ?_⟩
          · exact hB308
          · omega
          · exact hO310
          · omega
          · exact lenL_snoc hl0 (by (try dsimp only); omega)
          · exact zmap_next hac0 he_193 he_205 (by show zs _ = _; rw [e_282, e_273, e_219, e_210]; rfl)
        · have hR311 := hR270.trans hE275
          have h312 := (h218.ext hR311)
          refine dWp (i := 6) rfl rfl (oCall rfl call68 (hensel_reduce hr_273 h312 (by omega) (by omega) (by omega) hm0) rfl ?_)
          rintro _ w314 ⟨Ar_313, nr_313, cr_313, lr_313, rfl, hE315, hr_313, e_313, le_313, cn_313⟩
          refine ⟨(Frm.of_ext hE315), ?_⟩
          have hz316 := hE315.size
          have ⟨kr_313, jr_313, mr_313⟩ := hr_313.lkm
          refine dTwo 1 7 (by kernel_rfl) ?_ ?_
          · have hR318 := (((hR215.trans hE221).trans hE225).trans hE275).trans hE315
            have hB319 := (hB172.ext hR318)
            refine dWp (i := 1) rfl rfl (oEv (v := (.slice Ao0 nO0 cO0)) (evLoadB one43 rfl hB319 rfl) rfl ⟨Frm.refl _ _, dOp 7 rfl rfl (by kernel_rfl) (oBuildSlice [(.slice Ar_313 nr_313 cr_313)] [[(.slice Ar_313 nr_313 cr_313)]] Tryz.underlying43 inf39 rfl rfl rfl rfl rfl (fun g320 w321 hg322 hE323 hz324 hB325 => ⟨(Frm.of_ext hE323), ?_⟩))⟩)
            replace hB325 : Blk w321 g320 39 [(.slice Ar_313 nr_313 cr_313)] := hB325
            have hR326 := hR318.trans hE323
            have hO327 := (hO0.ext hR326)
            have h328 := (hr_313.ext hE323)
            refine dOp 8 rfl rfl (by kernel_rfl) (oAppG (L := LPx (nm + 2) g21) (f := (⟨Ar_313, nr_313, cr_313, lr_313⟩ : PE)) (S := fun b => (fun b => w274.heap.size ≤ b) b) (B := w151.heap.size) Tryz.underlying43 inf39 rfl rfl rfl hO327.2 hB325 (PolyR.le (PolyR.sub h328 (fun b hb_ hs => ⟨hs, by (try dsimp only at hs); omega⟩)) (by omega)) (fun b hb_ hs a ha e => by have h9 := hO0.2.1.lt a ha; (try dsimp only at hs); omega) (by omega) (by omega) (by omega) (fun A329 c330 w331 hO332 hF333 _ hn334 => ⟨(hF333.mono q4), ?_⟩))
            replace hO332 : OwnX (nm + 2) g21 w331 w151.heap.size 39 A329 (nO0 + 1) c330 (fo0 ++ [(⟨Ar_313, nr_313, cr_313, lr_313⟩ : PE)]) := ⟨hO327.1, hO332⟩
            have hz335 := hF333.size; have ⟨_, _, _⟩ := hO332.lkm
            refine dV 9 rfl (fun _ _ => evArr 0 Tryz.underlying92 sz43 rfl rfl 0) ?_
            have hR336 := hE323.rx hF333
            have hB337 := (hB319.frm hR336 q1)
            refine dOp 10 rfl rfl (by kernel_rfl) (oStore [(.slice A329 (nO0 + 1) c330)] rfl rfl rfl sz43 rfl hB337 (Nat.le_of_ble_eq_true rfl) (fun w338 hU339 hz340 hB341 => ?_))
            replace hB341 : Blk w338 g21 92 [(.slice A329 (nO0 + 1) c330), (.slice none 0 0)] := hB341
            refine ⟨(hU339.mono q4), dDone (by kernel_rfl) (bN (xN (hK187 _ _ (wp_region_lit (sV (evAdd (((i : Int)) + 1) rfl rfl wI) (sMi rfl (sDone ?_)))))))⟩
            have hR342 := (hR326.rx hF333).tr hU339
            have hO343 := (hO332.frmB hU339 q3)
            refine again (ns0 - (i + 1)) (by omega) ⟨(i + 1), (nO0 + 1), (A329), (c330), (fo0 ++ [(⟨Ar_313, nr_313, cr_313, lr_313⟩ : PE)]), rfl, rfl, rfl, rfl, rfl, rfl, rfl, rfl, cI, (Frm.mono (hF171.tr hR342) q4), ?_, ?_, ?_, ?_, ?_, ?_⟩
            · exact hB341
            · omega
            · exact hO343
            · omega
            · exact lenL_snoc hl0 (by (try dsimp only); omega)
            · exact zmap_next hac0 he_193 he_205 (by show zs _ = _; rw [e_313, e_273, e_219, e_210]; rfl)
          · refine dWp (i := 7) rfl rfl (oBuildSlice [(.slice Ar_313 nr_313 cr_313)] [[(.slice Ar_313 nr_313 cr_313)]] Tryz.underlying43 inf39 rfl rfl rfl rfl rfl (fun g344 w345 hg346 hE347 hz348 hB349 => ⟨(Frm.of_ext hE347), ?_⟩))
            replace hB349 : Blk w345 g344 39 [(.slice Ar_313 nr_313 cr_313)] := hB349
            have hR350 := ((((hR215.trans hE221).trans hE225).trans hE275).trans hE315).trans hE347
            have hB351 := (hB172.ext hR350)
            refine dOp 1 rfl rfl (by kernel_rfl) (oEv (v := (.slice Ao0 nO0 cO0)) (evLoadB one43 rfl hB351 rfl) rfl ⟨Frm.refl _ _, ?_⟩)
            have hO352 := (hO0.ext hR350)
            have h353 := (hr_313.ext hE347)
            refine dOp 8 rfl rfl (by kernel_rfl) (oAppG (L := LPx (nm + 2) g21) (f := (⟨Ar_313, nr_313, cr_313, lr_313⟩ : PE)) (S := fun b => (fun b => w274.heap.size ≤ b) b) (B := w151.heap.size) Tryz.underlying43 inf39 rfl rfl rfl hO352.2 hB349 (PolyR.le (PolyR.sub h353 (fun b hb_ hs => ⟨hs, by (try dsimp only at hs); omega⟩)) (by omega)) (fun b hb_ hs a ha e => by have h9 := hO0.2.1.lt a ha; (try dsimp only at hs); omega) (by omega) (by omega) (by omega) (fun A354 c355 w356 hO357 hF358 _ hn359 => ⟨(hF358.mono q4), ?_⟩))
            replace hO357 : OwnX (nm + 2) g21 w356 w151.heap.size 39 A354 (nO0 + 1) c355 (fo0 ++ [(⟨Ar_313, nr_313, cr_313, lr_313⟩ : PE)]) := ⟨hO352.1, hO357⟩
            have hz360 := hF358.size; have ⟨_, _, _⟩ := hO357.lkm
            refine dV 9 rfl (fun _ _ => evArr 0 Tryz.underlying92 sz43 rfl rfl 0) ?_
            have hB361 := (hB351.frm hF358 q1)
            refine dOp 10 rfl rfl (by kernel_rfl) (oStore [(.slice A354 (nO0 + 1) c355)] rfl rfl rfl sz43 rfl hB361 (Nat.le_of_ble_eq_true rfl) (fun w362 hU363 hz364 hB365 => ?_))
            replace hB365 : Blk w362 g21 92 [(.slice A354 (nO0 + 1) c355), (.slice none 0 0)] := hB365
            refine ⟨(hU363.mono q4), dDone (by kernel_rfl) (bN (xN (hK187 _ _ (wp_region_lit (sV (evAdd (((i : Int)) + 1) rfl rfl wI) (sMi rfl (sDone ?_)))))))⟩
            have hR366 := (hR350.rx hF358).tr hU363
            have hO367 := (hO357.frmB hU363 q3)
            refine again (ns0 - (i + 1)) (by omega) ⟨(i + 1), (nO0 + 1), (A354), (c355), (fo0 ++ [(⟨Ar_313, nr_313, cr_313, lr_313⟩ : PE)]), rfl, rfl, rfl, rfl, rfl, rfl, rfl, rfl, cI, (Frm.mono (hF171.tr hR366) q4), ?_, ?_, ?_, ?_, ?_, ?_⟩
            · exact hB365
            · omega
            · exact hO367
            · omega
            · exact lenL_snoc hl0 (by (try dsimp only); omega)
            · exact zmap_next hac0 he_193 he_205 (by show zs _ = _; rw [e_313, e_273, e_219, e_210]; rfl)
    · refine sV (evLss false rfl rfl (dF hc185)) (sK hK184 (wp_seq_k fun K368 hK368 => cF rfl (wp_exit (xE (xE (bE (xN (hK155 _ _ (wp_seq_k fun K369 hK369 => ?_)))))))))
      have hN0 := OwnX.polys hO0; have ⟨hkN1, hkN2, hkN3⟩ := hN0.lkm
      have hmis : zs lr_150 = missZ (zval gm dm).natAbs (zval gx_52 dx_52) (zs lf) (ldP (zs lf)) (sumZ (zval gm dm).natAbs (zsL fs0) (zsL fs1)).2 := by rw [e_150, e_143, e_136, e_121, e_114, hld, show zs lr_104 = (sumZ (zval gm dm).natAbs (zsL fs0) (zsL fs1)).2 from congrArg Prod.snd e_104]; rfl
      have hst0 : zsL fo0 = step0 (zval gm dm).natAbs (zval gx_52 dx_52) (zs lf) (zsL fs0) (zsL fs1) := by rw [zmap_end (i := i) hac0 (by omega) (by omega), hmis]; rfl
      have hgn : ∀ u ∈ zsL fo0, 0 < (trimZ u).length := fun u hu => hg1 _ _ hkx xs_52 u (hst0 ▸ hu)
      refine wp_region_lit (sV (evArr 0 Tryz.underlying92 sz43 rfl rfl 0) (sV (evLoadB one43 rfl hB172 rfl) (sV (evArr 1 Tryz.underlying92 sz43 rfl rfl 1) ?_)))
      have hB371 := (hB158.frm hF171 q1)
      refine sV (evLoadB one43 rfl hB371 rfl) (sV (v := (.agg #[(.slice Ao0 nO0 cO0), (.slice As1 ns1 cs1)])) (evK (by kernel_rfl)) ?_)
      have hR372 := (hR148.trans hE152).rx hF171
      have hB373 := (hB131.frm hR372 q1)
      refine sV (evLoadAB [(.bool gm), (.slice Am nm cm)] agg25 sz25 rfl hB373 rfl) ?_
      have hR374 := hR157.rx hF171
      have h375 := (h102.frmB hR374 q3)
      have hR376 := hE152.rx hF171
      have h377 := (h149.frmB hR376 q3)
      refine sO (oCall rfl call100 (hensel_sum hN0 h375 h377 (by omega) (by omega) (by omega) hm0 ⟨hl0, hle.2⟩) rfl ?_)
      rintro _ w379 ⟨At_378, nt_378, ct_378, lt_378, Ar_378, nr_378, cr_378, lr_378, rfl, hE380, ht_378, hr_378, e_378, bt_378, br_378, cn_378⟩
      have hz381 := hE380.size
      have ⟨kt_378, jt_378, mt_378⟩ := ht_378.lkm
      have ⟨kr_378, jr_378, mr_378⟩ := hr_378.lkm
      refine sV (v := (.tuple #[(.slice At_378 nt_378 ct_378), (.slice Ar_378 nr_378 cr_378)])) (rfl) (sV (v := (.slice At_378 nt_378 ct_378)) (rfl) (sV (v := (.slice Ar_378 nr_378 cr_378)) (rfl) (sAs rfl (sAs rfl (sK hK369 (wp_seq_k fun K384 hK384 => dBegin (fun _ => False) mixed (fun w385 hE386 hz387 => dMs 0 rfl rfl ?_)))))))
      have hR388 := hE380.trans hE386
      have hB389 := (hB373.ext hR388)
      refine dV 4 rfl (fun _ hf => evLoadAB [(.bool gm), (.slice Am nm cm)] agg25 sz25 rfl (hB389.ext hf) rfl) (dOp 1 rfl rfl (by kernel_rfl) (oBuildSlice [(.int .i64 (1))] [[(.int .i64 (1))]] Tryz.underlying82 inf2 rfl rfl rfl rfl rfl (fun g390 w391 hg392 hE393 hz394 hB395 => ⟨(Frm.of_ext hE393), ?_⟩)))
      replace hB395 : Blk w391 g390 2 [(.int .i64 (1))] := hB395
      refine dOp 2 rfl rfl (by kernel_rfl) (oCall rfl call17 (unipoly_Of (IntsR.of_blk (S := fun b => b = g390) (n := 1) (c := 1) (xs := [1]) hB395 rfl (by decide) rfl (Nat.le_refl _) (by decide)) (by omega)) rfl ?_)
      rintro _ w397 ⟨Ar_396, nr_396, cr_396, lr_396, rfl, hE398, hr_396, e_396, le_396, cn_396⟩
      refine ⟨(Frm.of_ext hE398), ?_⟩
      have hz399 := hE398.size
      have ⟨kr_396, jr_396, mr_396⟩ := hr_396.lkm
      have hR401 := (hE386.trans hE393).trans hE398
      have h402 := (ht_378.ext hR401)
      refine dOp 3 rfl rfl (by kernel_rfl) (oCall rfl call71 (unipoly_Sub h402 hr_396 (by omega) (by omega) (by omega) (by omega)) rfl ?_)
      rintro _ w404 ⟨Ar_403, nr_403, cr_403, lr_403, rfl, hE405, hr_403, e_403, ln_403, cn_403⟩
      refine ⟨(Frm.of_ext hE405), ?_⟩
      have hz406 := hE405.size
      have ⟨kr_403, jr_403, mr_403⟩ := hr_403.lkm
      have hR408 := ((hR388.trans hE393).trans hE398).trans hE405
      have h409 := (h377.ext hR408)
      refine dOp 5 rfl rfl (by kernel_rfl) (oCall rfl call68 (hensel_reduce hr_403 h409 (by omega) (by omega) (by omega) hm0) rfl ?_)
      rintro _ w411 ⟨Ar_410, nr_410, cr_410, lr_410, rfl, hE412, hr_410, e_410, le_410, cn_410⟩
      refine ⟨(Frm.of_ext hE412), ?_⟩
      have hz413 := hE412.size
      have ⟨kr_410, jr_410, mr_410⟩ := hr_410.lkm
      refine dAs 6 rfl rfl (dDone (by kernel_rfl) (xN (hK384 _ _ (wp_seq_k fun K415 hK415 => rS fun K416 hK416 => sV (evArr 1 Tryz.underlying92 sz43 rfl rfl 1) ?_))))
      have hR417 := hR408.trans hE412
      have hB418 := (hB371.ext hR417)
      refine sV (evLoadB one43 rfl hB418 rfl) (sV (evLen Tryz.underlying43 rfl) (sMi rfl (sK hK416 (wp_block ?_))))
      have hB420 := (hB172.ext hR417)
      refine lLoop (fun m e w_ => ∃ (i : Nat) (nO1 : Nat) (Ao1 : Option Addr) (cO1 : Nat) (fo1 : List PE), m = ns0 - i ∧ e 5 = (.pointer (some ⟨g8, 0, none⟩)) ∧ e 6 = (.pointer (some ⟨g14, 0, none⟩)) ∧ e 7 = (.pointer (some ⟨g21, 0, none⟩)) ∧ e 20 = (.slice Ar_410 nr_410 cr_410) ∧ e 97 = (.slice As1 ns1 cs1) ∧ e 98 = (.int .i64 ((ns1 : Int))) ∧ e 99 = (.int .i64 ((i : Int))) ∧ Frm (fun b => w411.heap.size ≤ b ∨ b = g21) w411 w_ ∧ Blk w_ g21 92 ([(.slice Ao0 nO0 cO0), (.slice Ao1 nO1 cO1)]) ∧ (i ≤ ns0) ∧ (OwnX (nm + 2) g21 w_ w411.heap.size 39 Ao1 nO1 cO1 fo1) ∧ (nO1 = i) ∧ (∀ x ∈ fo1, x.n ≤ 64) ∧ (zsL fo1 = ((zsL (fs1.take i)).zip (zsL (fo0.take i))).map (fun p => nxt1 (zval gm dm).natAbs (zs lr_410) p.1 p.2))) (ns0 - (0)) ?_ ?_
      · refine ⟨(0), (0), (none), (0), ([]), rfl, rfl, rfl, rfl, rfl, rfl, rfl, cI, (Frm.refl _ _), ?_, ?_, ?_, ?_, ?_, ?_⟩
        · exact hB420
        · omega
        · exact OwnX.nil (by omega)
        · rfl
        · exact fun x hx => (by cases hx)
        · rfl
      · rintro m419 e432 w421 ⟨i, nO1, Ao1, cO1, fo1, hm431, hs422, hs423, hs424, hs425, hs426, hs427, hs428, hF429, hB430, hi, hO1, hnO1, hl1, hac1⟩
        obtain ⟨r433, rfl⟩ := sq (e := e432) (t := 5) hs422
        obtain ⟨r434, rfl⟩ := sq (e := r433) (t := 6) hs423
        obtain ⟨r435, rfl⟩ := sq (e := r434) (t := 7) hs424
        obtain ⟨r436, rfl⟩ := sq (e := r435) (t := 20) hs425
        obtain ⟨r437, rfl⟩ := sq (e := r436) (t := 97) hs426
        obtain ⟨r438, rfl⟩ := sq (e := r437) (t := 98) hs427
        obtain ⟨r439, rfl⟩ := sq (e := r438) (t := 99) hs428
        have hz440 := hF429.size
        have ⟨hOa1, hOb1, hOc1⟩ := hO1.lkm
        refine rS fun K441 hK441 => ?_
        by_cases hc442 : ((i : Int)) < ((ns1 : Int))
        · refine sV (evLss true rfl rfl (dT hc442)) (sK hK441 (wp_seq_k fun K443 hK443 => cT rfl (wp_skip (xN (hK443 _ _ (wp_seq_k fun K444 hK444 => wp_block (rS fun K445 hK445 => sMi rfl ?_)))))))
          have hR446 := hR417.rx hF429
          have h447 := (h375.frmB hR446 q3)
          obtain ⟨b448, o449, rfl⟩ := h447.base (by omega)
          refine sV (evIx i Tryz.underlying43 sz39 rfl rfl (o449 + i)) ?_
          obtain ⟨⟨A_450, n_450, c_450, l_450⟩, he_450, hp_450, hP_450, hS_450, hb_450⟩ := h447.at_ (i := i) (by omega)
          dsimp only at hp_450 hP_450; have ⟨q1_450, q2_450, q3_450⟩ := hP_450.lkm
          have h64_450 := hle.2 _ (List.mem_of_getElem? he_450); dsimp only at h64_450
          refine sV (evLoad one39 rfl hp_450) (sAi rfl (sAs rfl (sK hK445 (wp_seq_k fun K452 hK452 => dBegin (fun _ => False) mixed (fun w453 hE454 hz455 => dMs 0 rfl rfl (dMs 1 rfl rfl (dV 3 rfl (fun _ _ => evArr 0 Tryz.underlying92 sz43 rfl rfl 0) ?_)))))))
          have hB456 := (hB430.ext hE454)
          refine dV 4 rfl (fun _ hf => evLoadB one43 rfl (hB456.ext hf) rfl) (dMi 5 rfl rfl ?_)
          have hR457 := hR446.xr hE454
          have h458 := (hN0.frmB hR457 q3)
          obtain ⟨b459, o460, rfl⟩ := h458.base (by omega)
          refine dV 6 rfl (fun _ _ => evIx i Tryz.underlying43 sz39 rfl rfl (o460 + i)) ?_
          obtain ⟨⟨A_461, n_461, c_461, l_461⟩, he_461, hp_461, hP_461, hS_461, hb_461⟩ := h458.at_ (i := i) (by omega)
          dsimp only at hp_461 hP_461; have ⟨q1_461, q2_461, q3_461⟩ := hP_461.lkm
          have h64_461 := hl0 _ (List.mem_of_getElem? he_461); dsimp only at h64_461
          have hgd_461 : 0 < (trimZ (zs l_461)).length := hgn _ (List.mem_map_of_mem (f := fun f : PE => zs f.l) (List.mem_of_getElem? he_461))
          refine dV 7 rfl (fun _ hf => evLoad one39 rfl ((hf.cell (p := ⟨_, _, none⟩) hb_461 (fun h => h)).trans hp_461)) ?_
          have hR463 := ((((hE393.trans hE398).trans hE405).trans hE412).rx hF429).xr hE454
          have hB464 := (hB389.frm hR463 q1)
          refine dV 8 rfl (fun _ hf => evLoadAB [(.bool gm), (.slice Am nm cm)] agg25 sz25 rfl (hB464.ext hf) rfl) ?_
          have h465 := (hP_450.ext hE454)
          have hR466 := hF429.xr hE454
          have h467 := (hr_410.frmB hR466 q3)
          refine dOp 2 rfl rfl (by kernel_rfl) (oCall rfl call19 (unipoly_Mul h465 h467 (by omega) (by omega) (by omega) (by omega)) rfl ?_)
          rintro _ w469 ⟨Ar_468, nr_468, cr_468, lr_468, rfl, hE470, hr_468, e_468, ln_468, cn_468⟩
          refine ⟨(Frm.of_ext hE470), ?_⟩
          have hz471 := hE470.size
          have ⟨kr_468, jr_468, mr_468⟩ := hr_468.lkm
          have h473 := (hP_461.ext hE470)
          have hR474 := ((hE412.rx hF429).xr hE454).xr hE470
          have h475 := (h409.frmB hR474 q3)
          refine dOp 9 rfl rfl (by kernel_rfl) (oCall rfl call101 (hensel_remainder hr_468 h473 h475 (by omega) (by omega) (by omega) (by omega) (by omega) hm0 hgd_461) rfl ?_)
          rintro _ w477 ⟨Ar_476, nr_476, cr_476, lr_476, rfl, hE478, hr_476, e_476, lr_476, lf_476, cn_476⟩
          refine ⟨(Frm.of_ext hE478), ?_⟩
          have hz479 := hE478.size
          have ⟨kr_476, jr_476, mr_476⟩ := hr_476.lkm
          have htl_461 : (trimZ (zs l_461)).length ≤ 64 := by have h := trimZ_len (zs l_461); rw [zlen] at h; omega
          refine dAs 10 rfl rfl (dDone (by kernel_rfl) (xN (hK452 _ _ (dBegin (fun b => w411.heap.size ≤ b ∨ b = g21) mixed (fun w481 hE482 hz483 => dV 0 rfl (fun _ _ => evArr 1 Tryz.underlying92 sz43 rfl rfl 1) (dMs 2 rfl rfl (dMs 3 rfl rfl ?_)))))))
          have hR484 := (hE470.trans hE478).trans hE482
          have hB485 := (hB464.ext hR484)
          refine dV 5 rfl (fun _ hf => evLoadAB [(.bool gm), (.slice Am nm cm)] agg25 sz25 rfl (hB485.frm hf q1) rfl) (dTwo 1 4 (by kernel_rfl) ?_ ?_)
          · have hB486 := (hB456.ext hR484)
            refine dWp (i := 1) rfl rfl (oEv (v := (.slice Ao1 nO1 cO1)) (evLoadB one43 rfl hB486 rfl) rfl ⟨Frm.refl _ _, ?_⟩)
            have h487 := (h465.ext hR484)
            have h488 := (hr_476.ext hE482)
            refine dOp 4 rfl rfl (by kernel_rfl) (oCall rfl call71 (unipoly_Sub h487 h488 (by omega) (by omega) (by omega) (by omega)) rfl ?_)
            rintro _ w490 ⟨Ar_489, nr_489, cr_489, lr_489, rfl, hE491, hr_489, e_489, ln_489, cn_489⟩
            refine ⟨(Frm.of_ext hE491), ?_⟩
            have hz492 := hE491.size
            have ⟨kr_489, jr_489, mr_489⟩ := hr_489.lkm
            have hR494 := (hE478.trans hE482).trans hE491
            have h495 := (h475.ext hR494)
            refine dOp 6 rfl rfl (by kernel_rfl) (oCall rfl call68 (hensel_reduce hr_489 h495 (by omega) (by omega) (by omega) hm0) rfl ?_)
            rintro _ w497 ⟨Ar_496, nr_496, cr_496, lr_496, rfl, hE498, hr_496, e_496, le_496, cn_496⟩
            refine ⟨(Frm.of_ext hE498), ?_⟩
            have hz499 := hE498.size
            have ⟨kr_496, jr_496, mr_496⟩ := hr_496.lkm
            refine dOp 7 rfl rfl (by kernel_rfl) (oBuildSlice [(.slice Ar_496 nr_496 cr_496)] [[(.slice Ar_496 nr_496 cr_496)]] Tryz.underlying43 inf39 rfl rfl rfl rfl rfl (fun g501 w502 hg503 hE504 hz505 hB506 => ⟨(Frm.of_ext hE504), ?_⟩))
            replace hB506 : Blk w502 g501 39 [(.slice Ar_496 nr_496 cr_496)] := hB506
            have hR507 := (((((hE454.trans hE470).trans hE478).trans hE482).trans hE491).trans hE498).trans hE504
            have hO508 := (hO1.ext hR507)
            have h509 := (hr_496.ext hE504)
            refine dOp 8 rfl rfl (by kernel_rfl) (oAppG (L := LPx (nm + 2) g21) (f := (⟨Ar_496, nr_496, cr_496, lr_496⟩ : PE)) (S := fun b => (fun b => w490.heap.size ≤ b) b) (B := w411.heap.size) Tryz.underlying43 inf39 rfl rfl rfl hO508.2 hB506 (PolyR.le (PolyR.sub h509 (fun b hb_ hs => ⟨hs, by (try dsimp only at hs); omega⟩)) (by omega)) (fun b hb_ hs a ha e => by have h9 := hO1.2.1.lt a ha; (try dsimp only at hs); omega) (by omega) (by omega) (by omega) (fun A510 c511 w512 hO513 hF514 _ hn515 => ⟨(hF514.mono q4), ?_⟩))
            replace hO513 : OwnX (nm + 2) g21 w512 w411.heap.size 39 A510 (nO1 + 1) c511 (fo1 ++ [(⟨Ar_496, nr_496, cr_496, lr_496⟩ : PE)]) := ⟨hO508.1, hO513⟩
            have hz516 := hF514.size; have ⟨_, _, _⟩ := hO513.lkm
            refine dV 9 rfl (fun _ _ => evArr 1 Tryz.underlying92 sz43 rfl rfl 1) ?_
            have hR517 := ((hE491.trans hE498).trans hE504).rx hF514
            have hB518 := (hB486.frm hR517 q1)
            refine dOp 10 rfl rfl (by kernel_rfl) (oStore [(.slice A510 (nO1 + 1) c511)] rfl rfl rfl sz43 rfl hB518 (Nat.le_of_ble_eq_true rfl) (fun w519 hU520 hz521 hB522 => ?_))
            replace hB522 : Blk w519 g21 92 [(.slice (some ⟨b459, o460, none⟩) nO0 cO0), (.slice A510 (nO1 + 1) c511)] := hB522
            refine ⟨(hU520.mono q4), dDone (by kernel_rfl) (bN (xN (hK444 _ _ (wp_region_lit (sV (evAdd (((i : Int)) + 1) rfl rfl wI) (sMi rfl (sDone ?_)))))))⟩
            have hR523 := (hR507.rx hF514).tr hU520
            have hO524 := (hO513.frmB hU520 q3)
            refine again (ns0 - (i + 1)) (by omega) ⟨(i + 1), (nO1 + 1), (A510), (c511), (fo1 ++ [(⟨Ar_496, nr_496, cr_496, lr_496⟩ : PE)]), rfl, rfl, rfl, rfl, rfl, rfl, rfl, cI, (Frm.mono (hF429.tr hR523) q4), ?_, ?_, ?_, ?_, ?_, ?_⟩
            · exact hB522
            · omega
            · exact hO524
            · omega
            · exact lenL_snoc hl1 (by (try dsimp only); omega)
            · exact zmap_next hac1 he_450 he_461 (by show zs _ = _; rw [e_496, e_489, e_476, e_468]; rfl)
          · have h525 := (h465.ext hR484)
            have h526 := (hr_476.ext hE482)
            refine dWp (i := 4) rfl rfl (oCall rfl call71 (unipoly_Sub h525 h526 (by omega) (by omega) (by omega) (by omega)) rfl ?_)
            rintro _ w528 ⟨Ar_527, nr_527, cr_527, lr_527, rfl, hE529, hr_527, e_527, ln_527, cn_527⟩
            refine ⟨(Frm.of_ext hE529), ?_⟩
            have hz530 := hE529.size
            have ⟨kr_527, jr_527, mr_527⟩ := hr_527.lkm
            refine dTwo 1 6 (by kernel_rfl) ?_ ?_
            · have hR532 := hR484.trans hE529
              have hB533 := (hB456.ext hR532)
              refine dWp (i := 1) rfl rfl (oEv (v := (.slice Ao1 nO1 cO1)) (evLoadB one43 rfl hB533 rfl) rfl ⟨Frm.refl _ _, ?_⟩)
              have hR534 := (hE478.trans hE482).trans hE529
              have h535 := (h475.ext hR534)
              refine dOp 6 rfl rfl (by kernel_rfl) (oCall rfl call68 (hensel_reduce hr_527 h535 (by omega) (by omega) (by omega) hm0) rfl ?_)
              rintro _ w537 ⟨Ar_536, nr_536, cr_536, lr_536, rfl, hE538, hr_536, e_536, le_536, cn_536⟩
              refine ⟨(Frm.of_ext hE538), ?_⟩
              have hz539 := hE538.size
              have ⟨kr_536, jr_536, mr_536⟩ := hr_536.lkm
              refine dOp 7 rfl rfl (by kernel_rfl) (oBuildSlice [(.slice Ar_536 nr_536 cr_536)] [[(.slice Ar_536 nr_536 cr_536)]] Tryz.underlying43 inf39 rfl rfl rfl rfl rfl (fun g541 w542 hg543 hE544 hz545 hB546 => ⟨(Frm.of_ext hE544), ?_⟩))
              replace hB546 : Blk w542 g541 39 [(.slice Ar_536 nr_536 cr_536)] := hB546
              have hR547 := (((((hE454.trans hE470).trans hE478).trans hE482).trans hE529).trans hE538).trans hE544
              have hO548 := (hO1.ext hR547)
              have h549 := (hr_536.ext hE544)
              refine dOp 8 rfl rfl (by kernel_rfl) (oAppG (L := LPx (nm + 2) g21) (f := (⟨Ar_536, nr_536, cr_536, lr_536⟩ : PE)) (S := fun b => (fun b => w528.heap.size ≤ b) b) (B := w411.heap.size) Tryz.underlying43 inf39 rfl rfl rfl hO548.2 hB546 (PolyR.le (PolyR.sub h549 (fun b hb_ hs => ⟨hs, by (try dsimp only at hs); omega⟩)) (by omega)) (fun b hb_ hs a ha e => by have h9 := hO1.2.1.lt a ha; (try dsimp only at hs); omega) (by omega) (by omega) (by omega) (fun A550 c551 w552 hO553 hF554 _ hn555 => ⟨(hF554.mono q4), ?_⟩))
              replace hO553 : OwnX (nm + 2) g21 w552 w411.heap.size 39 A550 (nO1 + 1) c551 (fo1 ++ [(⟨Ar_536, nr_536, cr_536, lr_536⟩ : PE)]) := ⟨hO548.1, hO553⟩
              have hz556 := hF554.size; have ⟨_, _, _⟩ := hO553.lkm
              refine dV 9 rfl (fun _ _ => evArr 1 Tryz.underlying92 sz43 rfl rfl 1) ?_
              have hR557 := (hE538.trans hE544).rx hF554
              have hB558 := (hB533.frm hR557 q1)
              refine dOp 10 rfl rfl (by kernel_rfl) (oStore [(.slice A550 (nO1 + 1) c551)] rfl rfl rfl sz43 rfl hB558 (Nat.le_of_ble_eq_true rfl) (fun w559 hU560 hz561 hB562 => ?_))
              replace hB562 : Blk w559 g21 92 [(.slice (some ⟨b459, o460, none⟩) nO0 cO0), (.slice A550 (nO1 + 1) c551)] := hB562
              refine ⟨(hU560.mono q4), dDone (by kernel_rfl) (bN (xN (hK444 _ _ (wp_region_lit (sV (evAdd (((i : Int)) + 1) rfl rfl wI) (sMi rfl (sDone ?_)))))))⟩
              have hR563 := (hR547.rx hF554).tr hU560
              have hO564 := (hO553.frmB hU560 q3)
              refine again (ns0 - (i + 1)) (by omega) ⟨(i + 1), (nO1 + 1), (A550), (c551), (fo1 ++ [(⟨Ar_536, nr_536, cr_536, lr_536⟩ : PE)]), rfl, rfl, rfl, rfl, rfl, rfl, rfl, cI, (Frm.mono (hF429.tr hR563) q4), ?_, ?_, ?_, ?_, ?_, ?_⟩
              · exact hB562
              · omega
              · exact hO564
              · omega
              · exact lenL_snoc hl1 (by (try dsimp only); omega)
              · exact zmap_next hac1 he_450 he_461 (by show zs _ = _; rw [e_536, e_527, e_476, e_468]; rfl)
            · have hR565 := (hE478.trans hE482).trans hE529
              have h566 := (h475.ext hR565)
              refine dWp (i := 6) rfl rfl (oCall rfl call68 (hensel_reduce hr_527 h566 (by omega) (by omega) (by omega) hm0) rfl ?_)
              rintro _ w568 ⟨Ar_567, nr_567, cr_567, lr_567, rfl, hE569, hr_567, e_567, le_567, cn_567⟩
              refine ⟨(Frm.of_ext hE569), ?_⟩
              have hz570 := hE569.size
              have ⟨kr_567, jr_567, mr_567⟩ := hr_567.lkm
              refine dTwo 1 7 (by kernel_rfl) ?_ ?_
              · have hR572 := (hR484.trans hE529).trans hE569
                have hB573 := (hB456.ext hR572)
                refine dWp (i := 1) rfl rfl (oEv (v := (.slice Ao1 nO1 cO1)) (evLoadB one43 rfl hB573 rfl) rfl ⟨Frm.refl _ _, dOp 7 rfl rfl (by kernel_rfl) (oBuildSlice [(.slice Ar_567 nr_567 cr_567)] [[(.slice Ar_567 nr_567 cr_567)]] Tryz.underlying43 inf39 rfl rfl rfl rfl rfl (fun g574 w575 hg576 hE577 hz578 hB579 => ⟨(Frm.of_ext hE577), ?_⟩))⟩)
                replace hB579 : Blk w575 g574 39 [(.slice Ar_567 nr_567 cr_567)] := hB579
                have hR580 := (((((hE454.trans hE470).trans hE478).trans hE482).trans hE529).trans hE569).trans hE577
                have hO581 := (hO1.ext hR580)
                have h582 := (hr_567.ext hE577)
                refine dOp 8 rfl rfl (by kernel_rfl) (oAppG (L := LPx (nm + 2) g21) (f := (⟨Ar_567, nr_567, cr_567, lr_567⟩ : PE)) (S := fun b => (fun b => w528.heap.size ≤ b) b) (B := w411.heap.size) Tryz.underlying43 inf39 rfl rfl rfl hO581.2 hB579 (PolyR.le (PolyR.sub h582 (fun b hb_ hs => ⟨hs, by (try dsimp only at hs); omega⟩)) (by omega)) (fun b hb_ hs a ha e => by have h9 := hO1.2.1.lt a ha; (try dsimp only at hs); omega) (by omega) (by omega) (by omega) (fun A583 c584 w585 hO586 hF587 _ hn588 => ⟨(hF587.mono q4), ?_⟩))
                replace hO586 : OwnX (nm + 2) g21 w585 w411.heap.size 39 A583 (nO1 + 1) c584 (fo1 ++ [(⟨Ar_567, nr_567, cr_567, lr_567⟩ : PE)]) := ⟨hO581.1, hO586⟩
                have hz589 := hF587.size; have ⟨_, _, _⟩ := hO586.lkm
                refine dV 9 rfl (fun _ _ => evArr 1 Tryz.underlying92 sz43 rfl rfl 1) ?_
                have hR590 := hE577.rx hF587
                have hB591 := (hB573.frm hR590 q1)
                refine dOp 10 rfl rfl (by kernel_rfl) (oStore [(.slice A583 (nO1 + 1) c584)] rfl rfl rfl sz43 rfl hB591 (Nat.le_of_ble_eq_true rfl) (fun w592 hU593 hz594 hB595 => ?_))
                replace hB595 : Blk w592 g21 92 [(.slice (some ⟨b459, o460, none⟩) nO0 cO0), (.slice A583 (nO1 + 1) c584)] := hB595
                refine ⟨(hU593.mono q4), dDone (by kernel_rfl) (bN (xN (hK444 _ _ (wp_region_lit (sV (evAdd (((i : Int)) + 1) rfl rfl wI) (sMi rfl (sDone ?_)))))))⟩
                have hR596 := (hR580.rx hF587).tr hU593
                have hO597 := (hO586.frmB hU593 q3)
                refine again (ns0 - (i + 1)) (by omega) ⟨(i + 1), (nO1 + 1), (A583), (c584), (fo1 ++ [(⟨Ar_567, nr_567, cr_567, lr_567⟩ : PE)]), rfl, rfl, rfl, rfl, rfl, rfl, rfl, cI, (Frm.mono (hF429.tr hR596) q4), ?_, ?_, ?_, ?_, ?_, ?_⟩
                · exact hB595
                · omega
                · exact hO597
                · omega
                · exact lenL_snoc hl1 (by (try dsimp only); omega)
                · exact zmap_next hac1 he_450 he_461 (by show zs _ = _; rw [e_567, e_527, e_476, e_468]; rfl)
              · refine dWp (i := 7) rfl rfl (oBuildSlice [(.slice Ar_567 nr_567 cr_567)] [[(.slice Ar_567 nr_567 cr_567)]] Tryz.underlying43 inf39 rfl rfl rfl rfl rfl (fun g598 w599 hg600 hE601 hz602 hB603 => ⟨(Frm.of_ext hE601), ?_⟩))
                replace hB603 : Blk w599 g598 39 [(.slice Ar_567 nr_567 cr_567)] := hB603
                have hR604 := ((hR484.trans hE529).trans hE569).trans hE601
                have hB605 := (hB456.ext hR604)
                refine dOp 1 rfl rfl (by kernel_rfl) (oEv (v := (.slice Ao1 nO1 cO1)) (evLoadB one43 rfl hB605 rfl) rfl ⟨Frm.refl _ _, ?_⟩)
                have hR606 := (((((hE454.trans hE470).trans hE478).trans hE482).trans hE529).trans hE569).trans hE601
                have hO607 := (hO1.ext hR606)
                have h608 := (hr_567.ext hE601)
                refine dOp 8 rfl rfl (by kernel_rfl) (oAppG (L := LPx (nm + 2) g21) (f := (⟨Ar_567, nr_567, cr_567, lr_567⟩ : PE)) (S := fun b => (fun b => w528.heap.size ≤ b) b) (B := w411.heap.size) Tryz.underlying43 inf39 rfl rfl rfl hO607.2 hB603 (PolyR.le (PolyR.sub h608 (fun b hb_ hs => ⟨hs, by (try dsimp only at hs); omega⟩)) (by omega)) (fun b hb_ hs a ha e => by have h9 := hO1.2.1.lt a ha; (try dsimp only at hs); omega) (by omega) (by omega) (by omega) (fun A609 c610 w611 hO612 hF613 _ hn614 => ⟨(hF613.mono q4), ?_⟩))
                replace hO612 : OwnX (nm + 2) g21 w611 w411.heap.size 39 A609 (nO1 + 1) c610 (fo1 ++ [(⟨Ar_567, nr_567, cr_567, lr_567⟩ : PE)]) := ⟨hO607.1, hO612⟩
                have hz615 := hF613.size; have ⟨_, _, _⟩ := hO612.lkm
                refine dV 9 rfl (fun _ _ => evArr 1 Tryz.underlying92 sz43 rfl rfl 1) ?_
                have hB616 := (hB605.frm hF613 q1)
                refine dOp 10 rfl rfl (by kernel_rfl) (oStore [(.slice A609 (nO1 + 1) c610)] rfl rfl rfl sz43 rfl hB616 (Nat.le_of_ble_eq_true rfl) (fun w617 hU618 hz619 hB620 => ?_))
                replace hB620 : Blk w617 g21 92 [(.slice (some ⟨b459, o460, none⟩) nO0 cO0), (.slice A609 (nO1 + 1) c610)] := hB620
                refine ⟨(hU618.mono q4), dDone (by kernel_rfl) (bN (xN (hK444 _ _ (wp_region_lit (sV (evAdd (((i : Int)) + 1) rfl rfl wI) (sMi rfl (sDone ?_)))))))⟩
                have hR621 := (hR606.rx hF613).tr hU618
                have hO622 := (hO612.frmB hU618 q3)
                refine again (ns0 - (i + 1)) (by omega) ⟨(i + 1), (nO1 + 1), (A609), (c610), (fo1 ++ [(⟨Ar_567, nr_567, cr_567, lr_567⟩ : PE)]), rfl, rfl, rfl, rfl, rfl, rfl, rfl, cI, (Frm.mono (hF429.tr hR621) q4), ?_, ?_, ?_, ?_, ?_, ?_⟩
                · exact hB620
                · omega
                · exact hO622
                · omega
                · exact lenL_snoc hl1 (by (try dsimp only); omega)
                · exact zmap_next hac1 he_450 he_461 (by show zs _ = _; rw [e_567, e_527, e_476, e_468]; rfl)
        · refine sV (evLss false rfl rfl (dF hc442)) (sK hK441 (wp_seq_k fun K623 hK623 => cF rfl (wp_exit (xE (xE (bE (xN (hK415 _ _ (rS fun K624 hK624 => sV (evLoadAB [(.slice Ao0 nO0 cO0), (.slice Ao1 nO1 cO1)] agg92 sz92 rfl hB430 rfl) ?_)))))))))
          have hR625 := ((((((((((((((((((((((((hE24.trans hE32).trans hE38).rx hU42).xr hE54).xr hE62).xr hE68).xr hE74).tr hU80).tr hU86).tr hU92).xr hE106).xr hE116).xr hE123).xr hE128).xr hE138).xr hE145).xr hE152).tr hF171).xr hE380).xr hE386).xr hE393).xr hE398).xr hE405).xr hE412).tr hF429
          have hB626 := (hB19.frm hR625 q1)
          refine sO (oStore [(.slice Ao0 nO0 cO0), (.slice Ao1 nO1 cO1)] rfl rfl rfl sz92 rfl hB626 (Nat.le_of_ble_eq_true rfl) (fun w627 hU628 hz629 hB630 => ?_))
          replace hB630 : Blk w627 g14 92 [(.slice Ao0 nO0 cO0), (.slice Ao1 nO1 cO1)] := hB630
          refine sK hK624 (wp_ret (ret1 (.agg #[(.slice Ao0 nO0 cO0), (.slice Ao1 nO1 cO1)]) Tryz.results61 (resB [(.slice Ao0 nO0 cO0), (.slice Ao1 nO1 cO1)] agg92 sz92 rfl hB630) ?_))
          have hex : zs lr_410 = exZ (zval gm dm).natAbs (sumZ (zval gm dm).natAbs (step0 (zval gm dm).natAbs (zval gx_52 dx_52) (zs lf) (zsL fs0) (zsL fs1)) (zsL fs1)).1 := by rw [e_410, e_403, e_396, ← hst0, show zs lt_378 = (sumZ (zval gm dm).natAbs (zsL fo0) (zsL fs1)).1 from congrArg Prod.fst e_378]; rfl
          have he9 : ∃ x k : Int, x * ldP (zs lf) = 1 + zval gm dm * k ∧ x = symZ (zval gm dm).natAbs x ∧ zsL fo0 = step0 (zval gm dm).natAbs x (zs lf) (zsL fs0) (zsL fs1) ∧ zsL fo1 = step1 (zval gm dm).natAbs x (zs lf) (zsL fs0) (zsL fs1) := ⟨_, kx, hkx, xs_52, hst0, by rw [zmap_end (i := i) hac1 (by omega) (by omega), hst0, hex]; rfl⟩
          have hR631 := (hR417.rx hF429).tr hU628
          have h632 := (hN0.frmB hR631 q3)
          have hO633 := (hO1.frmB hU628 q3)
          have hR634 := (((((((((((((((hR100.xr hE106).xr hE116).xr hE123).xr hE128).xr hE138).xr hE145).xr hE152).tr hF171).xr hE380).xr hE386).xr hE393).xr hE398).xr hE405).xr hE412).tr hF429).tr hU628
          exact ⟨Ao0, nO0, cO0, fo0, Ao1, nO1, cO1, fo1, rfl, (Frm.mono hR634 q4), (PolysR.sub h632 q5), (PolysR.sub (OwnX.polys hO633) q5), he9, (by omega), ⟨hl0, hl1⟩⟩
end Go.Proofs.YtneolcopompkaaaGreatDoor
