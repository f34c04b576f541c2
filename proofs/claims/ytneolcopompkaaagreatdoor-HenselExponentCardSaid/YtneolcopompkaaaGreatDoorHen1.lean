/-
  Walks of packages integer and division: shifts, remainders.
-/
import Derived.Test.YtneolcopompkaaaGreatDoorDiv3
import Derived.Test.YtneolcopompkaaaGreatDoorNat6
import Derived.Test.YtneolcopompkaaaGreatDoorLibA
namespace Go.Proofs.YtneolcopompkaaaGreatDoor
open Go.RowKit Go.Gx
theorem integer_Shl {w : World} {ga : Bool} {Sa : Nat → Prop} {Aa : Option Addr} {na ca : Nat} {da : List Nat} {xn : Nat} (ha : NatR w Sa Aa na ca da) (bn : xn ≤ 9223372036854775807) (hna : na ≤ 268435456) (hxn : xn ≤ 16777216) : Calls Tryz.prog 34 #[(.agg #[(.bool ga), (.slice Aa na ca)]), (.int .i64 ((xn : Int)))] w (Ret fun v w' => ∃ (gr : Bool) (Ar : Option Addr) (nr : Nat) (cr : Nat) (dr : List Nat), v = (.agg #[(.bool gr), (.slice Ar nr cr)]) ∧ Ext w w' ∧ NatR w' (fun b => w.heap.size ≤ b) Ar nr cr dr ∧ (zval gr dr = zval ga da * (2 ^ xn : Nat)) ∧ (ICan gr dr) ∧ (nr ≤ na + xn / 32 + 1)) := by
  have ⟨la, ka, ma⟩ := ha.lkm
  replace ha := ha.low
  refine enter Tryz.func34 rfl Tryz.ntmps34 rfl (rS fun K1 hK1 => sO (oBox [(.bool ga), (.slice Aa na ca)] rfl rfl (fun g2 w3 hg4 hE5 hz6 hB7 => sO (oAlloc [(.bool false), (.slice none 0 0)] zero25 rfl (fun g8 w9 hg10 hE11 hz12 hB13 => sK hK1 (wp_seq_k fun K14 hK14 => dBegin (fun b => b = g8) mixed (fun w15 hE16 hz17 => dV 0 rfl (fun _ _ => evFA 0 fa25_0 rfl rfl) ?_)))))))
  have hR18 := hE11.trans hE16
  have hB19 := (hB7.ext hR18)
  refine dV 1 rfl (fun _ hf => evLoadB one4 rfl (hB19.frm hf q1) rfl) (dV 2 rfl (fun _ _ => evFA 1 fa25_1 rfl rfl) (dV 3 rfl (fun _ hf => evLoadB one23 rfl (hB19.frm hf q1) rfl) (dMi 4 rfl rfl ?_)))
  have hR20 := (hE5.trans hE11).trans hE16
  have h21 := (ha.ext hR20)
  refine dOp 5 rfl rfl (by kernel_rfl) (oCall rfl call74 (natural_Shl h21 (xn := xn) (by omega) (by omega) (by omega)) rfl ?_)
  rintro _ w23 ⟨Ar_22, nr_22, cr_22, dr_22, rfl, hE24, hr_22, v_22, cn_22, le_22⟩
  refine ⟨(Frm.of_ext hE24), ?_⟩
  have hz25 := hE24.size
  have ⟨lr_22, kr_22, mr_22⟩ := hr_22.lkm
  refine dOp 6 rfl rfl (by kernel_rfl) (oCall rfl call45 (integer_signed hr_22) rfl ?_)
  rintro _ w28 ⟨gr_27, Ar_27, nr_27, cr_27, dr_27, rfl, hE29, hr_27, e_27, d_27, ln_27⟩
  refine ⟨(Frm.of_ext hE29), ?_⟩
  have hz30 := hE29.size
  have ⟨lr_27, kr_27, mr_27⟩ := hr_27.lkm
  have hR32 := (hE16.trans hE24).trans hE29
  have hB33 := (hB13.ext hR32)
  refine dOp 7 rfl rfl (by kernel_rfl) (oStore [(.bool gr_27), (.slice Ar_27 nr_27 cr_27)] rfl rfl rfl sz25 rfl hB33 (Nat.le_of_ble_eq_true rfl) (fun w34 hU35 hz36 hB37 => ?_))
  replace hB37 : Blk w34 g8 25 [(.bool gr_27), (.slice Ar_27 nr_27 cr_27)] := hB37
  refine ⟨hU35, dDone (by kernel_rfl) (xN (hK14 _ _ (wp_ret (ret1 (.agg #[(.bool gr_27), (.slice Ar_27 nr_27 cr_27)]) Tryz.results34 (resB [(.bool gr_27), (.slice Ar_27 nr_27 cr_27)] agg25 sz25 rfl hB37) ?_))))⟩
  have h38 := (hr_27.frmB hU35 q3)
  have hR39 := ((hR20.trans hE24).trans hE29).rx hU35
  exact ⟨gr_27, Ar_27, nr_27, cr_27, dr_27, rfl, (Frm.mono hR39 q4), (NatR.sub h38 q5), (zval_mulN e_27 (by omega) (by rw [d_27]; exact v_22)), (signed_can e_27 d_27 lr_22 cn_22), (by omega)⟩
set_option maxHeartbeats 1000000 in
theorem division_Floor {w : World} {ga : Bool} {Sa : Nat → Prop} {Aa : Option Addr} {na ca : Nat} {da : List Nat} {gb : Bool} {Sb : Nat → Prop} {Ab : Option Addr} {nb cb : Nat} {db : List Nat} (ha : NatR w Sa Aa na ca da) (hb : NatR w Sb Ab nb cb db) (hna : na ≤ 268435456) (hnb : nb ≤ 268435456) (hb0 : 0 < zval gb db) : Calls Tryz.prog 124 #[(.agg #[(.bool ga), (.slice Aa na ca)]), (.agg #[(.bool gb), (.slice Ab nb cb)])] w (Ret fun v w' => ∃ (gq : Bool) (Aq : Option Addr) (nq : Nat) (cq : Nat) (dq : List Nat) (gr : Bool) (Ar : Option Addr) (nr : Nat) (cr : Nat) (dr : List Nat) (xo : Int), v = (.tuple #[(.agg #[(.bool gq), (.slice Aq nq cq)]), (.agg #[(.bool gr), (.slice Ar nr cr)]), (.int .i64 (xo))]) ∧ Ext w w' ∧ NatR w' (fun b => w.heap.size ≤ b) Aq nq cq dq ∧ NatR w' (fun b => w.heap.size ≤ b) Ar nr cr dr ∧ (zval gr dr = zval ga da % zval gb db) ∧ (ICan gr dr) ∧ (xo = 0) ∧ (nr ≤ nb + 1)) := by
  have ⟨la, ka, ma⟩ := ha.lkm
  replace ha := ha.low
  have ⟨lb, kb, mb⟩ := hb.lkm
  replace hb := hb.low
  refine enter Tryz.func124 rfl Tryz.ntmps124 rfl (rS fun K1 hK1 => sO (oBox [(.bool ga), (.slice Aa na ca)] rfl rfl (fun g2 w3 hg4 hE5 hz6 hB7 => sO (oBox [(.bool gb), (.slice Ab nb cb)] rfl rfl (fun g8 w9 hg10 hE11 hz12 hB13 => sO (oAlloc [(.bool false), (.slice none 0 0)] zero25 rfl (fun g14 w15 hg16 hE17 hz18 hB19 => sO (oAlloc [(.bool false), (.slice none 0 0)] zero25 rfl (fun g20 w21 hg22 hE23 hz24 hB25 => sAi rfl (sK hK1 (rS fun K26 hK26 => ?_)))))))))))
  have hR27 := (hE11.trans hE17).trans hE23
  have hB28 := (hB7.ext hR27)
  refine sV (evLoadAB [(.bool ga), (.slice Aa na ca)] agg25 sz25 rfl hB28 rfl) ?_
  have hR29 := hE17.trans hE23
  have hB30 := (hB13.ext hR29)
  refine sV (evLoadAB [(.bool gb), (.slice Ab nb cb)] agg25 sz25 rfl hB30 rfl) ?_
  have hR31 := ((hE5.trans hE11).trans hE17).trans hE23
  have h32 := (ha.ext hR31)
  have h33 := (hb.ext hR31)
  refine sO (oCall rfl call109 (division_Quo h32 h33 (by omega) (by omega) (by omega)) rfl ?_)
  rintro _ w35 ⟨gq_34, Aq_34, nq_34, cq_34, dq_34, gr_34, Ar_34, nr_34, cr_34, dr_34, xe_34, rfl, hE36, hq_34, hr_34, v_34, m_34, cnq_34, cnr_34, ok_34, leq_34, ler_34⟩
  have hz37 := hE36.size
  have ⟨lq_34, kq_34, mq_34⟩ := hq_34.lkm
  have ⟨lr_34, kr_34, mr_34⟩ := hr_34.lkm
  refine sV (v := (.tuple #[(.agg #[(.bool gq_34), (.slice Aq_34 nq_34 cq_34)]), (.agg #[(.bool gr_34), (.slice Ar_34 nr_34 cr_34)]), (.int .i64 (xe_34))])) (rfl) (sV (v := (.agg #[(.bool gq_34), (.slice Aq_34 nq_34 cq_34)])) (rfl) (sV (v := (.agg #[(.bool gr_34), (.slice Ar_34 nr_34 cr_34)])) (rfl) (sV (v := (.int .i64 (xe_34))) (rfl) ?_)))
  have hR40 := hE23.trans hE36
  have hB41 := (hB19.ext hR40)
  refine sO (oStore [(.bool gq_34), (.slice Aq_34 nq_34 cq_34)] rfl rfl rfl sz25 rfl hB41 (Nat.le_of_ble_eq_true rfl) (fun w42 hU43 hz44 hB45 => ?_))
  replace hB45 : Blk w42 g14 25 [(.bool gq_34), (.slice Aq_34 nq_34 cq_34)] := hB45
  have hR46 := hE36.rx hU43
  have hB47 := (hB25.frm hR46 q1)
  refine sO (oStore [(.bool gr_34), (.slice Ar_34 nr_34 cr_34)] rfl rfl rfl sz25 rfl hB47 (Nat.le_of_ble_eq_true rfl) (fun w48 hU49 hz50 hB51 => ?_))
  replace hB51 : Blk w48 g20 25 [(.bool gr_34), (.slice Ar_34 nr_34 cr_34)] := hB51
  refine sAi rfl (sK hK26 (wp_seq_k fun K52 hK52 => rS fun K53 hK53 => sMi rfl (sV (evNeq false rfl rfl (dF (by omega))) (sK hK53 (cF rfl (wp_skip (xN (hK52 _ _ (wp_seq_k fun K54 hK54 => wp_seq_k fun K55 hK55 => dBegin (fun _ => False) mixed (fun w56 hE57 hz58 => ?_))))))))))
  have hB59 := (hB51.ext hE57)
  refine dV 0 rfl (fun _ hf => evLoadAB [(.bool gr_34), (.slice Ar_34 nr_34 cr_34)] agg25 sz25 rfl (hB59.ext hf) rfl) ?_
  have hR60 := (hR46.tr hU49).xr hE57
  have hB61 := (hB30.frm hR60 q1)
  refine dV 2 rfl (fun _ hf => evLoadAB [(.bool gb), (.slice Ab nb cb)] agg25 sz25 rfl (hB61.ext hf) rfl) ?_
  have hR62 := (hU43.tr hU49).xr hE57
  have h63 := (hr_34.frmB hR62 q3)
  refine dOp 1 rfl rfl (by kernel_rfl) (oCall rfl call29 (integer_Sign h63) rfl ?_)
  rintro _ w65 ⟨xr_64, rfl, hE66, e_64⟩
  refine ⟨(Frm.of_ext hE66), ?_⟩
  have hz67 := hE66.size
  have hR68 := hR60.xr hE66
  have h69 := (h33.frmB hR68 q3)
  refine dOp 3 rfl rfl (by kernel_rfl) (oCall rfl call29 (integer_Sign h69) rfl ?_)
  rintro _ w71 ⟨xr_70, rfl, hE72, e_70⟩
  refine ⟨(Frm.of_ext hE72), ?_⟩
  have hz73 := hE72.size
  have hb1 : xr_70 = 1 := (by have h9 := sgn_rng e_70; omega); have hs1 := sgn_rng e_64
  refine dV 4 rfl (fun _ _ => evMul xr_64 rfl rfl (wI64 ⟨by rw [hb1]; omega, by omega, by omega⟩)) ?_
  by_cases hc74 : xr_64 < 0
  · refine dV 5 rfl (fun _ _ => evLss true rfl rfl (dT hc74)) (dDone (by kernel_rfl) (xN (hK55 _ _ (cT rfl (wp_seq_k fun K75 hK75 => dBegin (fun b => b = g14) mixed (fun w76 hE77 hz78 => dTwo 0 1 (by kernel_rfl) ?_ ?_))))))
    · have hR79 := (((hU49.xr hE57).xr hE66).xr hE72).xr hE77
      have hB80 := (hB45.frm hR79 q1)
      refine dWp (i := 0) rfl rfl (oEv (v := (.agg #[(.bool gq_34), (.slice Aq_34 nq_34 cq_34)])) (evLoadAB [(.bool gq_34), (.slice Aq_34 nq_34 cq_34)] agg25 sz25 rfl hB80 rfl) rfl ⟨Frm.refl _ _, dOp 1 rfl rfl (by kernel_rfl) (oCall rfl call35 (integer_Of (by omega)) rfl ?_)⟩)
      rintro _ w82 ⟨gr_81, Ar_81, nr_81, cr_81, dr_81, rfl, hE83, hr_81, v_81, cn_81, le_81⟩
      refine ⟨(Frm.of_ext hE83), ?_⟩
      have hz84 := hE83.size
      have ⟨lr_81, kr_81, mr_81⟩ := hr_81.lkm
      have hR86 := (((hR62.xr hE66).xr hE72).xr hE77).xr hE83
      have h87 := (hq_34.frmB hR86 q3)
      refine dOp 2 rfl rfl (by kernel_rfl) (oCall rfl call106 (integer_Sub h87 hr_81 (by omega) (by omega)) rfl ?_)
      rintro _ w89 ⟨gr_88, Ar_88, nr_88, cr_88, dr_88, rfl, hE90, hr_88, v_88, cn_88, le_88⟩
      refine ⟨(Frm.of_ext hE90), ?_⟩
      have hz91 := hE90.size
      have ⟨lr_88, kr_88, mr_88⟩ := hr_88.lkm
      have hR93 := hE83.trans hE90
      have hB94 := (hB80.ext hR93)
      refine dOp 3 rfl rfl (by kernel_rfl) (oStore [(.bool gr_88), (.slice Ar_88 nr_88 cr_88)] rfl rfl rfl sz25 rfl hB94 (Nat.le_of_ble_eq_true rfl) (fun w95 hU96 hz97 hB98 => ?_))
      replace hB98 : Blk w95 g14 25 [(.bool gr_88), (.slice Ar_88 nr_88 cr_88)] := hB98
      refine ⟨hU96, dDone (by kernel_rfl) (xN (hK75 _ _ (wp_region_lit ?_)))⟩
      have hR99 := ((((hE66.trans hE72).trans hE77).trans hE83).trans hE90).rx hU96
      have hB100 := (hB59.frm hR99 q1)
      refine sV (evLoadAB [(.bool gr_34), (.slice Ar_34 nr_34 cr_34)] agg25 sz25 rfl hB100 rfl) ?_
      have hB101 := (hB61.frm hR99 q1)
      refine sV (evLoadAB [(.bool gb), (.slice Ab nb cb)] agg25 sz25 rfl hB101 rfl) ?_
      have h102 := (h63.frmB hR99 q3)
      have hR103 := (((hE72.trans hE77).trans hE83).trans hE90).rx hU96
      have h104 := (h69.frmB hR103 q3)
      refine sO (oCall rfl call12 (integer_Add h102 h104 (by omega) (by omega)) rfl ?_)
      rintro _ w106 ⟨gr_105, Ar_105, nr_105, cr_105, dr_105, rfl, hE107, hr_105, v_105, cn_105, le_105⟩
      have hz108 := hE107.size
      have ⟨lr_105, kr_105, mr_105⟩ := hr_105.lkm
      have hB110 := (hB100.ext hE107)
      refine sO (oStore [(.bool gr_105), (.slice Ar_105 nr_105 cr_105)] rfl rfl rfl sz25 rfl hB110 (Nat.le_of_ble_eq_true rfl) (fun w111 hU112 hz113 hB114 => ?_))
      replace hB114 : Blk w111 g20 25 [(.bool gr_105), (.slice Ar_105 nr_105 cr_105)] := hB114
      refine sK hK54 (wp_seq_k fun K115 hK115 => dBegin (fun b => b = g14 ∨ b = g20) mixed (fun w116 hE117 hz118 => dTwo 0 1 (by kernel_rfl) ?_ ?_))
      · have hR119 := (hE107.rx hU112).xr hE117
        have hB120 := (hB98.frm hR119 q1)
        refine dWp (i := 0) rfl rfl (oEv (v := (.agg #[(.bool gr_88), (.slice Ar_88 nr_88 cr_88)])) (evLoadAB [(.bool gr_88), (.slice Ar_88 nr_88 cr_88)] agg25 sz25 rfl hB120 rfl) rfl ⟨Frm.refl _ _, dTwo 1 2 (by kernel_rfl) ?_ ?_⟩)
        · have hB121 := (hB114.ext hE117)
          refine dWp (i := 1) rfl rfl (oEv (v := (.agg #[(.bool gr_105), (.slice Ar_105 nr_105 cr_105)])) (evLoadAB [(.bool gr_105), (.slice Ar_105 nr_105 cr_105)] agg25 sz25 rfl hB121 rfl) rfl ⟨Frm.refl _ _, dOp 2 rfl rfl (by kernel_rfl) (oStore [(.bool gr_88), (.slice Ar_88 nr_88 cr_88)] rfl rfl rfl sz25 rfl hB120 (Nat.le_of_ble_eq_true rfl) (fun w122 hU123 hz124 hB125 => ?_))⟩)
          replace hB125 : Blk w122 g14 25 [(.bool gr_88), (.slice Ar_88 nr_88 cr_88)] := hB125
          refine ⟨(hU123.mono q4), ?_⟩
          have hB126 := (hB121.frm hU123 q1)
          refine dOp 3 rfl rfl (by kernel_rfl) (oStore [(.bool gr_105), (.slice Ar_105 nr_105 cr_105)] rfl rfl rfl sz25 rfl hB126 (Nat.le_of_ble_eq_true rfl) (fun w127 hU128 hz129 hB130 => ?_))
          replace hB130 : Blk w127 g20 25 [(.bool gr_105), (.slice Ar_105 nr_105 cr_105)] := hB130
          refine ⟨(hU128.mono q4), dAi 4 rfl rfl (dDone (by kernel_rfl) (xN (hK115 _ _ (wp_ret ?_))))⟩
          have hB131 := (hB125.frm hU128 q1)
          refine ret3 (.agg #[(.bool gr_88), (.slice Ar_88 nr_88 cr_88)]) (.agg #[(.bool gr_105), (.slice Ar_105 nr_105 cr_105)]) (.int .i64 (0)) Tryz.results124 (resB [(.bool gr_88), (.slice Ar_88 nr_88 cr_88)] agg25 sz25 rfl hB131) (resB [(.bool gr_105), (.slice Ar_105 nr_105 cr_105)] agg25 sz25 rfl hB130) (resT rfl) ?_
          have hR132 := ((((hU96.xr hE107).tr hU112).xr hE117).tr hU123).tr hU128
          have h133 := (hr_88.frmB hR132 q3)
          have hR134 := ((hU112.xr hE117).tr hU123).tr hU128
          have h135 := (hr_105.frmB hR134 q3)
          have hR136 := ((((((((((((((hR31.trans hE36).rx hU43).tr hU49).xr hE57).xr hE66).xr hE72).xr hE77).xr hE83).xr hE90).tr hU96).xr hE107).tr hU112).xr hE117).tr hU123).tr hU128
          exact ⟨gr_88, Ar_88, nr_88, cr_88, dr_88, gr_105, Ar_105, nr_105, cr_105, dr_105, (0), rfl, (Frm.mono hR136 q4), (NatR.sub h133 q5), (NatR.sub h135 q5), (by rw [v_105]; exact floor_neg hb0 m_34 e_64 hc74), cn_105, rfl, (by omega)⟩
        · refine dWp (i := 2) rfl rfl (oStore [(.bool gr_88), (.slice Ar_88 nr_88 cr_88)] rfl rfl rfl sz25 rfl hB120 (Nat.le_of_ble_eq_true rfl) (fun w137 hU138 hz139 hB140 => ?_))
          replace hB140 : Blk w137 g14 25 [(.bool gr_88), (.slice Ar_88 nr_88 cr_88)] := hB140
          refine ⟨(hU138.mono q4), ?_⟩
          have hR141 := hE117.rx hU138
          have hB142 := (hB114.frm hR141 q1)
          refine dOp 1 rfl rfl (by kernel_rfl) (oEv (v := (.agg #[(.bool gr_105), (.slice Ar_105 nr_105 cr_105)])) (evLoadAB [(.bool gr_105), (.slice Ar_105 nr_105 cr_105)] agg25 sz25 rfl hB142 rfl) rfl ⟨Frm.refl _ _, dOp 3 rfl rfl (by kernel_rfl) (oStore [(.bool gr_105), (.slice Ar_105 nr_105 cr_105)] rfl rfl rfl sz25 rfl hB142 (Nat.le_of_ble_eq_true rfl) (fun w143 hU144 hz145 hB146 => ?_))⟩)
          replace hB146 : Blk w143 g20 25 [(.bool gr_105), (.slice Ar_105 nr_105 cr_105)] := hB146
          refine ⟨(hU144.mono q4), dAi 4 rfl rfl (dDone (by kernel_rfl) (xN (hK115 _ _ (wp_ret ?_))))⟩
          have hB147 := (hB140.frm hU144 q1)
          refine ret3 (.agg #[(.bool gr_88), (.slice Ar_88 nr_88 cr_88)]) (.agg #[(.bool gr_105), (.slice Ar_105 nr_105 cr_105)]) (.int .i64 (0)) Tryz.results124 (resB [(.bool gr_88), (.slice Ar_88 nr_88 cr_88)] agg25 sz25 rfl hB147) (resB [(.bool gr_105), (.slice Ar_105 nr_105 cr_105)] agg25 sz25 rfl hB146) (resT rfl) ?_
          have hR148 := ((((hU96.xr hE107).tr hU112).xr hE117).tr hU138).tr hU144
          have h149 := (hr_88.frmB hR148 q3)
          have hR150 := ((hU112.xr hE117).tr hU138).tr hU144
          have h151 := (hr_105.frmB hR150 q3)
          have hR152 := ((((((((((((((hR31.trans hE36).rx hU43).tr hU49).xr hE57).xr hE66).xr hE72).xr hE77).xr hE83).xr hE90).tr hU96).xr hE107).tr hU112).xr hE117).tr hU138).tr hU144
          exact ⟨gr_88, Ar_88, nr_88, cr_88, dr_88, gr_105, Ar_105, nr_105, cr_105, dr_105, (0), rfl, (Frm.mono hR152 q4), (NatR.sub h149 q5), (NatR.sub h151 q5), (by rw [v_105]; exact floor_neg hb0 m_34 e_64 hc74), cn_105, rfl, (by omega)⟩
      · have hB153 := (hB114.ext hE117)
        refine dWp (i := 1) rfl rfl (oEv (v := (.agg #[(.bool gr_105), (.slice Ar_105 nr_105 cr_105)])) (evLoadAB [(.bool gr_105), (.slice Ar_105 nr_105 cr_105)] agg25 sz25 rfl hB153 rfl) rfl ⟨Frm.refl _ _, ?_⟩)
        have hR154 := (hE107.rx hU112).xr hE117
        have hB155 := (hB98.frm hR154 q1)
        refine dOp 0 rfl rfl (by kernel_rfl) (oEv (v := (.agg #[(.bool gr_88), (.slice Ar_88 nr_88 cr_88)])) (evLoadAB [(.bool gr_88), (.slice Ar_88 nr_88 cr_88)] agg25 sz25 rfl hB155 rfl) rfl ⟨Frm.refl _ _, dOp 2 rfl rfl (by kernel_rfl) (oStore [(.bool gr_88), (.slice Ar_88 nr_88 cr_88)] rfl rfl rfl sz25 rfl hB155 (Nat.le_of_ble_eq_true rfl) (fun w156 hU157 hz158 hB159 => ?_))⟩)
        replace hB159 : Blk w156 g14 25 [(.bool gr_88), (.slice Ar_88 nr_88 cr_88)] := hB159
        refine ⟨(hU157.mono q4), ?_⟩
        have hB160 := (hB153.frm hU157 q1)
        refine dOp 3 rfl rfl (by kernel_rfl) (oStore [(.bool gr_105), (.slice Ar_105 nr_105 cr_105)] rfl rfl rfl sz25 rfl hB160 (Nat.le_of_ble_eq_true rfl) (fun w161 hU162 hz163 hB164 => ?_))
        replace hB164 : Blk w161 g20 25 [(.bool gr_105), (.slice Ar_105 nr_105 cr_105)] := hB164
        refine ⟨(hU162.mono q4), dAi 4 rfl rfl (dDone (by kernel_rfl) (xN (hK115 _ _ (wp_ret ?_))))⟩
        have hB165 := (hB159.frm hU162 q1)
        refine ret3 (.agg #[(.bool gr_88), (.slice Ar_88 nr_88 cr_88)]) (.agg #[(.bool gr_105), (.slice Ar_105 nr_105 cr_105)]) (.int .i64 (0)) Tryz.results124 (resB [(.bool gr_88), (.slice Ar_88 nr_88 cr_88)] agg25 sz25 rfl hB165) (resB [(.bool gr_105), (.slice Ar_105 nr_105 cr_105)] agg25 sz25 rfl hB164) (resT rfl) ?_
        have hR166 := ((((hU96.xr hE107).tr hU112).xr hE117).tr hU157).tr hU162
        have h167 := (hr_88.frmB hR166 q3)
        have hR168 := ((hU112.xr hE117).tr hU157).tr hU162
        have h169 := (hr_105.frmB hR168 q3)
        have hR170 := ((((((((((((((hR31.trans hE36).rx hU43).tr hU49).xr hE57).xr hE66).xr hE72).xr hE77).xr hE83).xr hE90).tr hU96).xr hE107).tr hU112).xr hE117).tr hU157).tr hU162
        exact ⟨gr_88, Ar_88, nr_88, cr_88, dr_88, gr_105, Ar_105, nr_105, cr_105, dr_105, (0), rfl, (Frm.mono hR170 q4), (NatR.sub h167 q5), (NatR.sub h169 q5), (by rw [v_105]; exact floor_neg hb0 m_34 e_64 hc74), cn_105, rfl, (by omega)⟩
    · refine dWp (i := 1) rfl rfl (oCall rfl call35 (integer_Of (by omega)) rfl ?_)
      rintro _ w172 ⟨gr_171, Ar_171, nr_171, cr_171, dr_171, rfl, hE173, hr_171, v_171, cn_171, le_171⟩
      refine ⟨(Frm.of_ext hE173), ?_⟩
      have hz174 := hE173.size
      have ⟨lr_171, kr_171, mr_171⟩ := hr_171.lkm
      have hR176 := ((((hU49.xr hE57).xr hE66).xr hE72).xr hE77).xr hE173
      have hB177 := (hB45.frm hR176 q1)
      refine dOp 0 rfl rfl (by kernel_rfl) (oEv (v := (.agg #[(.bool gq_34), (.slice Aq_34 nq_34 cq_34)])) (evLoadAB [(.bool gq_34), (.slice Aq_34 nq_34 cq_34)] agg25 sz25 rfl hB177 rfl) rfl ⟨Frm.refl _ _, ?_⟩)
      have hR178 := (((hR62.xr hE66).xr hE72).xr hE77).xr hE173
      have h179 := (hq_34.frmB hR178 q3)
      refine dOp 2 rfl rfl (by kernel_rfl) (oCall rfl call106 (integer_Sub h179 hr_171 (by omega) (by omega)) rfl ?_)
      rintro _ w181 ⟨gr_180, Ar_180, nr_180, cr_180, dr_180, rfl, hE182, hr_180, v_180, cn_180, le_180⟩
      refine ⟨(Frm.of_ext hE182), ?_⟩
      have hz183 := hE182.size
      have ⟨lr_180, kr_180, mr_180⟩ := hr_180.lkm
      have hB185 := (hB177.ext hE182)
      refine dOp 3 rfl rfl (by kernel_rfl) (oStore [(.bool gr_180), (.slice Ar_180 nr_180 cr_180)] rfl rfl rfl sz25 rfl hB185 (Nat.le_of_ble_eq_true rfl) (fun w186 hU187 hz188 hB189 => ?_))
      replace hB189 : Blk w186 g14 25 [(.bool gr_180), (.slice Ar_180 nr_180 cr_180)] := hB189
      refine ⟨hU187, dDone (by kernel_rfl) (xN (hK75 _ _ (wp_region_lit ?_)))⟩
      have hR190 := ((((hE66.trans hE72).trans hE77).trans hE173).trans hE182).rx hU187
      have hB191 := (hB59.frm hR190 q1)
      refine sV (evLoadAB [(.bool gr_34), (.slice Ar_34 nr_34 cr_34)] agg25 sz25 rfl hB191 rfl) ?_
      have hB192 := (hB61.frm hR190 q1)
      refine sV (evLoadAB [(.bool gb), (.slice Ab nb cb)] agg25 sz25 rfl hB192 rfl) ?_
      have h193 := (h63.frmB hR190 q3)
      have hR194 := (((hE72.trans hE77).trans hE173).trans hE182).rx hU187
      have h195 := (h69.frmB hR194 q3)
      refine sO (oCall rfl call12 (integer_Add h193 h195 (by omega) (by omega)) rfl ?_)
      rintro _ w197 ⟨gr_196, Ar_196, nr_196, cr_196, dr_196, rfl, hE198, hr_196, v_196, cn_196, le_196⟩
      have hz199 := hE198.size
      have ⟨lr_196, kr_196, mr_196⟩ := hr_196.lkm
      have hB201 := (hB191.ext hE198)
      refine sO (oStore [(.bool gr_196), (.slice Ar_196 nr_196 cr_196)] rfl rfl rfl sz25 rfl hB201 (Nat.le_of_ble_eq_true rfl) (fun w202 hU203 hz204 hB205 => ?_))
      replace hB205 : Blk w202 g20 25 [(.bool gr_196), (.slice Ar_196 nr_196 cr_196)] := hB205
      refine sK hK54 (wp_seq_k fun K206 hK206 => dBegin (fun b => b = g14 ∨ b = g20) mixed (fun w207 hE208 hz209 => dTwo 0 1 (by kernel_rfl) ?_ ?_))
      · have hR210 := (hE198.rx hU203).xr hE208
        have hB211 := (hB189.frm hR210 q1)
        refine dWp (i := 0) rfl rfl (oEv (v := (.agg #[(.bool gr_180), (.slice Ar_180 nr_180 cr_180)])) (evLoadAB [(.bool gr_180), (.slice Ar_180 nr_180 cr_180)] agg25 sz25 rfl hB211 rfl) rfl ⟨Frm.refl _ _, dTwo 1 2 (by kernel_rfl) ?_ ?_⟩)
        · have hB212 := (hB205.ext hE208)
          refine dWp (i := 1) rfl rfl (oEv (v := (.agg #[(.bool gr_196), (.slice Ar_196 nr_196 cr_196)])) (evLoadAB [(.bool gr_196), (.slice Ar_196 nr_196 cr_196)] agg25 sz25 rfl hB212 rfl) rfl ⟨Frm.refl _ _, dOp 2 rfl rfl (by kernel_rfl) (oStore [(.bool gr_180), (.slice Ar_180 nr_180 cr_180)] rfl rfl rfl sz25 rfl hB211 (Nat.le_of_ble_eq_true rfl) (fun w213 hU214 hz215 hB216 => ?_))⟩)
          replace hB216 : Blk w213 g14 25 [(.bool gr_180), (.slice Ar_180 nr_180 cr_180)] := hB216
          refine ⟨(hU214.mono q4), ?_⟩
          have hB217 := (hB212.frm hU214 q1)
          refine dOp 3 rfl rfl (by kernel_rfl) (oStore [(.bool gr_196), (.slice Ar_196 nr_196 cr_196)] rfl rfl rfl sz25 rfl hB217 (Nat.le_of_ble_eq_true rfl) (fun w218 hU219 hz220 hB221 => ?_))
          replace hB221 : Blk w218 g20 25 [(.bool gr_196), (.slice Ar_196 nr_196 cr_196)] := hB221
          refine ⟨(hU219.mono q4), dAi 4 rfl rfl (dDone (by kernel_rfl) (xN (hK206 _ _ (wp_ret ?_))))⟩
          have hB222 := (hB216.frm hU219 q1)
          refine ret3 (.agg #[(.bool gr_180), (.slice Ar_180 nr_180 cr_180)]) (.agg #[(.bool gr_196), (.slice Ar_196 nr_196 cr_196)]) (.int .i64 (0)) Tryz.results124 (resB [(.bool gr_180), (.slice Ar_180 nr_180 cr_180)] agg25 sz25 rfl hB222) (resB [(.bool gr_196), (.slice Ar_196 nr_196 cr_196)] agg25 sz25 rfl hB221) (resT rfl) ?_
          have hR223 := ((((hU187.xr hE198).tr hU203).xr hE208).tr hU214).tr hU219
          have h224 := (hr_180.frmB hR223 q3)
          have hR225 := ((hU203.xr hE208).tr hU214).tr hU219
          have h226 := (hr_196.frmB hR225 q3)
          have hR227 := ((((((((((((((hR31.trans hE36).rx hU43).tr hU49).xr hE57).xr hE66).xr hE72).xr hE77).xr hE173).xr hE182).tr hU187).xr hE198).tr hU203).xr hE208).tr hU214).tr hU219
          exact ⟨gr_180, Ar_180, nr_180, cr_180, dr_180, gr_196, Ar_196, nr_196, cr_196, dr_196, (0), rfl, (Frm.mono hR227 q4), (NatR.sub h224 q5), (NatR.sub h226 q5), (by rw [v_196]; exact floor_neg hb0 m_34 e_64 hc74), cn_196, rfl, (by omega)⟩
        · refine dWp (i := 2) rfl rfl (oStore [(.bool gr_180), (.slice Ar_180 nr_180 cr_180)] rfl rfl rfl sz25 rfl hB211 (Nat.le_of_ble_eq_true rfl) (fun w228 hU229 hz230 hB231 => ?_))
          replace hB231 : Blk w228 g14 25 [(.bool gr_180), (.slice Ar_180 nr_180 cr_180)] := hB231
          refine ⟨(hU229.mono q4), ?_⟩
          have hR232 := hE208.rx hU229
          have hB233 := (hB205.frm hR232 q1)
          refine dOp 1 rfl rfl (by kernel_rfl) (oEv (v := (.agg #[(.bool gr_196), (.slice Ar_196 nr_196 cr_196)])) (evLoadAB [(.bool gr_196), (.slice Ar_196 nr_196 cr_196)] agg25 sz25 rfl hB233 rfl) rfl ⟨Frm.refl _ _, dOp 3 rfl rfl (by kernel_rfl) (oStore [(.bool gr_196), (.slice Ar_196 nr_196 cr_196)] rfl rfl rfl sz25 rfl hB233 (Nat.le_of_ble_eq_true rfl) (fun w234 hU235 hz236 hB237 => ?_))⟩)
          replace hB237 : Blk w234 g20 25 [(.bool gr_196), (.slice Ar_196 nr_196 cr_196)] := hB237
          refine ⟨(hU235.mono q4), dAi 4 rfl rfl (dDone (by kernel_rfl) (xN (hK206 _ _ (wp_ret ?_))))⟩
          have hB238 := (hB231.frm hU235 q1)
          refine ret3 (.agg #[(.bool gr_180), (.slice Ar_180 nr_180 cr_180)]) (.agg #[(.bool gr_196), (.slice Ar_196 nr_196 cr_196)]) (.int .i64 (0)) Tryz.results124 (resB [(.bool gr_180), (.slice Ar_180 nr_180 cr_180)] agg25 sz25 rfl hB238) (resB [(.bool gr_196), (.slice Ar_196 nr_196 cr_196)] agg25 sz25 rfl hB237) (resT rfl) ?_
          have hR239 := ((((hU187.xr hE198).tr hU203).xr hE208).tr hU229).tr hU235
          have h240 := (hr_180.frmB hR239 q3)
          have hR241 := ((hU203.xr hE208).tr hU229).tr hU235
          have h242 := (hr_196.frmB hR241 q3)
          have hR243 := ((((((((((((((hR31.trans hE36).rx hU43).tr hU49).xr hE57).xr hE66).xr hE72).xr hE77).xr hE173).xr hE182).tr hU187).xr hE198).tr hU203).xr hE208).tr hU229).tr hU235
          exact ⟨gr_180, Ar_180, nr_180, cr_180, dr_180, gr_196, Ar_196, nr_196, cr_196, dr_196, (0), rfl, (Frm.mono hR243 q4), (NatR.sub h240 q5), (NatR.sub h242 q5), (by rw [v_196]; exact floor_neg hb0 m_34 e_64 hc74), cn_196, rfl, (by omega)⟩
      · have hB244 := (hB205.ext hE208)
        refine dWp (i := 1) rfl rfl (oEv (v := (.agg #[(.bool gr_196), (.slice Ar_196 nr_196 cr_196)])) (evLoadAB [(.bool gr_196), (.slice Ar_196 nr_196 cr_196)] agg25 sz25 rfl hB244 rfl) rfl ⟨Frm.refl _ _, ?_⟩)
        have hR245 := (hE198.rx hU203).xr hE208
        have hB246 := (hB189.frm hR245 q1)
        refine dOp 0 rfl rfl (by kernel_rfl) (oEv (v := (.agg #[(.bool gr_180), (.slice Ar_180 nr_180 cr_180)])) (evLoadAB [(.bool gr_180), (.slice Ar_180 nr_180 cr_180)] agg25 sz25 rfl hB246 rfl) rfl ⟨Frm.refl _ _, dOp 2 rfl rfl (by kernel_rfl) (oStore [(.bool gr_180), (.slice Ar_180 nr_180 cr_180)] rfl rfl rfl sz25 rfl hB246 (Nat.le_of_ble_eq_true rfl) (fun w247 hU248 hz249 hB250 => ?_))⟩)
        replace hB250 : Blk w247 g14 25 [(.bool gr_180), (.slice Ar_180 nr_180 cr_180)] := hB250
        refine ⟨(hU248.mono q4), ?_⟩
        have hB251 := (hB244.frm hU248 q1)
        refine dOp 3 rfl rfl (by kernel_rfl) (oStore [(.bool gr_196), (.slice Ar_196 nr_196 cr_196)] rfl rfl rfl sz25 rfl hB251 (Nat.le_of_ble_eq_true rfl) (fun w252 hU253 hz254 hB255 => ?_))
        replace hB255 : Blk w252 g20 25 [(.bool gr_196), (.slice Ar_196 nr_196 cr_196)] := hB255
        refine ⟨(hU253.mono q4), dAi 4 rfl rfl (dDone (by kernel_rfl) (xN (hK206 _ _ (wp_ret ?_))))⟩
        have hB256 := (hB250.frm hU253 q1)
        refine ret3 (.agg #[(.bool gr_180), (.slice Ar_180 nr_180 cr_180)]) (.agg #[(.bool gr_196), (.slice Ar_196 nr_196 cr_196)]) (.int .i64 (0)) Tryz.results124 (resB [(.bool gr_180), (.slice Ar_180 nr_180 cr_180)] agg25 sz25 rfl hB256) (resB [(.bool gr_196), (.slice Ar_196 nr_196 cr_196)] agg25 sz25 rfl hB255) (resT rfl) ?_
        have hR257 := ((((hU187.xr hE198).tr hU203).xr hE208).tr hU248).tr hU253
        have h258 := (hr_180.frmB hR257 q3)
        have hR259 := ((hU203.xr hE208).tr hU248).tr hU253
        have h260 := (hr_196.frmB hR259 q3)
        have hR261 := ((((((((((((((hR31.trans hE36).rx hU43).tr hU49).xr hE57).xr hE66).xr hE72).xr hE77).xr hE173).xr hE182).tr hU187).xr hE198).tr hU203).xr hE208).tr hU248).tr hU253
        exact ⟨gr_180, Ar_180, nr_180, cr_180, dr_180, gr_196, Ar_196, nr_196, cr_196, dr_196, (0), rfl, (Frm.mono hR261 q4), (NatR.sub h258 q5), (NatR.sub h260 q5), (by rw [v_196]; exact floor_neg hb0 m_34 e_64 hc74), cn_196, rfl, (by omega)⟩
  · refine dV 5 rfl (fun _ _ => evLss false rfl rfl (dF hc74)) (dDone (by kernel_rfl) (xN (hK55 _ _ (cF rfl (wp_skip (xN (hK54 _ _ (wp_seq_k fun K262 hK262 => dBegin (fun b => b = g14 ∨ b = g20) mixed (fun w263 hE264 hz265 => dTwo 0 1 (by kernel_rfl) ?_ ?_)))))))))
    · have hR266 := (((hU49.xr hE57).xr hE66).xr hE72).xr hE264
      have hB267 := (hB45.frm hR266 q1)
      refine dWp (i := 0) rfl rfl (oEv (v := (.agg #[(.bool gq_34), (.slice Aq_34 nq_34 cq_34)])) (evLoadAB [(.bool gq_34), (.slice Aq_34 nq_34 cq_34)] agg25 sz25 rfl hB267 rfl) rfl ⟨Frm.refl _ _, dTwo 1 2 (by kernel_rfl) ?_ ?_⟩)
      · have hR268 := (hE66.trans hE72).trans hE264
        have hB269 := (hB59.ext hR268)
        refine dWp (i := 1) rfl rfl (oEv (v := (.agg #[(.bool gr_34), (.slice Ar_34 nr_34 cr_34)])) (evLoadAB [(.bool gr_34), (.slice Ar_34 nr_34 cr_34)] agg25 sz25 rfl hB269 rfl) rfl ⟨Frm.refl _ _, dOp 2 rfl rfl (by kernel_rfl) (oStore [(.bool gq_34), (.slice Aq_34 nq_34 cq_34)] rfl rfl rfl sz25 rfl hB267 (Nat.le_of_ble_eq_true rfl) (fun w270 hU271 hz272 hB273 => ?_))⟩)
        replace hB273 : Blk w270 g14 25 [(.bool gq_34), (.slice Aq_34 nq_34 cq_34)] := hB273
        refine ⟨(hU271.mono q4), ?_⟩
        have hB274 := (hB269.frm hU271 q1)
        refine dOp 3 rfl rfl (by kernel_rfl) (oStore [(.bool gr_34), (.slice Ar_34 nr_34 cr_34)] rfl rfl rfl sz25 rfl hB274 (Nat.le_of_ble_eq_true rfl) (fun w275 hU276 hz277 hB278 => ?_))
        replace hB278 : Blk w275 g20 25 [(.bool gr_34), (.slice Ar_34 nr_34 cr_34)] := hB278
        refine ⟨(hU276.mono q4), dAi 4 rfl rfl (dDone (by kernel_rfl) (xN (hK262 _ _ (wp_ret ?_))))⟩
        have hB279 := (hB273.frm hU276 q1)
        refine ret3 (.agg #[(.bool gq_34), (.slice Aq_34 nq_34 cq_34)]) (.agg #[(.bool gr_34), (.slice Ar_34 nr_34 cr_34)]) (.int .i64 (0)) Tryz.results124 (resB [(.bool gq_34), (.slice Aq_34 nq_34 cq_34)] agg25 sz25 rfl hB279) (resB [(.bool gr_34), (.slice Ar_34 nr_34 cr_34)] agg25 sz25 rfl hB278) (resT rfl) ?_
        have hR280 := ((((hR62.xr hE66).xr hE72).xr hE264).tr hU271).tr hU276
        have h281 := (hq_34.frmB hR280 q3)
        have hR282 := (hR268.rx hU271).tr hU276
        have h283 := (h63.frmB hR282 q3)
        have hR284 := ((((((((hR31.trans hE36).rx hU43).tr hU49).xr hE57).xr hE66).xr hE72).xr hE264).tr hU271).tr hU276
        exact ⟨gq_34, Aq_34, nq_34, cq_34, dq_34, gr_34, Ar_34, nr_34, cr_34, dr_34, (0), rfl, (Frm.mono hR284 q4), (NatR.sub h281 q5), (NatR.sub h283 q5), (floor_pos hb0 m_34 e_64 hc74), cnr_34, rfl, (by omega)⟩
      · refine dWp (i := 2) rfl rfl (oStore [(.bool gq_34), (.slice Aq_34 nq_34 cq_34)] rfl rfl rfl sz25 rfl hB267 (Nat.le_of_ble_eq_true rfl) (fun w285 hU286 hz287 hB288 => ?_))
        replace hB288 : Blk w285 g14 25 [(.bool gq_34), (.slice Aq_34 nq_34 cq_34)] := hB288
        refine ⟨(hU286.mono q4), ?_⟩
        have hR289 := ((hE66.trans hE72).trans hE264).rx hU286
        have hB290 := (hB59.frm hR289 q1)
        refine dOp 1 rfl rfl (by kernel_rfl) (oEv (v := (.agg #[(.bool gr_34), (.slice Ar_34 nr_34 cr_34)])) (evLoadAB [(.bool gr_34), (.slice Ar_34 nr_34 cr_34)] agg25 sz25 rfl hB290 rfl) rfl ⟨Frm.refl _ _, dOp 3 rfl rfl (by kernel_rfl) (oStore [(.bool gr_34), (.slice Ar_34 nr_34 cr_34)] rfl rfl rfl sz25 rfl hB290 (Nat.le_of_ble_eq_true rfl) (fun w291 hU292 hz293 hB294 => ?_))⟩)
        replace hB294 : Blk w291 g20 25 [(.bool gr_34), (.slice Ar_34 nr_34 cr_34)] := hB294
        refine ⟨(hU292.mono q4), dAi 4 rfl rfl (dDone (by kernel_rfl) (xN (hK262 _ _ (wp_ret ?_))))⟩
        have hB295 := (hB288.frm hU292 q1)
        refine ret3 (.agg #[(.bool gq_34), (.slice Aq_34 nq_34 cq_34)]) (.agg #[(.bool gr_34), (.slice Ar_34 nr_34 cr_34)]) (.int .i64 (0)) Tryz.results124 (resB [(.bool gq_34), (.slice Aq_34 nq_34 cq_34)] agg25 sz25 rfl hB295) (resB [(.bool gr_34), (.slice Ar_34 nr_34 cr_34)] agg25 sz25 rfl hB294) (resT rfl) ?_
        have hR296 := ((((hR62.xr hE66).xr hE72).xr hE264).tr hU286).tr hU292
        have h297 := (hq_34.frmB hR296 q3)
        have hR298 := hR289.tr hU292
        have h299 := (h63.frmB hR298 q3)
        have hR300 := ((((((((hR31.trans hE36).rx hU43).tr hU49).xr hE57).xr hE66).xr hE72).xr hE264).tr hU286).tr hU292
        exact ⟨gq_34, Aq_34, nq_34, cq_34, dq_34, gr_34, Ar_34, nr_34, cr_34, dr_34, (0), rfl, (Frm.mono hR300 q4), (NatR.sub h297 q5), (NatR.sub h299 q5), (floor_pos hb0 m_34 e_64 hc74), cnr_34, rfl, (by omega)⟩
    · have hR301 := (hE66.trans hE72).trans hE264
      have hB302 := (hB59.ext hR301)
      refine dWp (i := 1) rfl rfl (oEv (v := (.agg #[(.bool gr_34), (.slice Ar_34 nr_34 cr_34)])) (evLoadAB [(.bool gr_34), (.slice Ar_34 nr_34 cr_34)] agg25 sz25 rfl hB302 rfl) rfl ⟨Frm.refl _ _, ?_⟩)
      have hR303 := (((hU49.xr hE57).xr hE66).xr hE72).xr hE264
      have hB304 := (hB45.frm hR303 q1)
      refine dOp 0 rfl rfl (by kernel_rfl) (oEv (v := (.agg #[(.bool gq_34), (.slice Aq_34 nq_34 cq_34)])) (evLoadAB [(.bool gq_34), (.slice Aq_34 nq_34 cq_34)] agg25 sz25 rfl hB304 rfl) rfl ⟨Frm.refl _ _, dOp 2 rfl rfl (by kernel_rfl) (oStore [(.bool gq_34), (.slice Aq_34 nq_34 cq_34)] rfl rfl rfl sz25 rfl hB304 (Nat.le_of_ble_eq_true rfl) (fun w305 hU306 hz307 hB308 => ?_))⟩)
      replace hB308 : Blk w305 g14 25 [(.bool gq_34), (.slice Aq_34 nq_34 cq_34)] := hB308
      refine ⟨(hU306.mono q4), ?_⟩
      have hB309 := (hB302.frm hU306 q1)
      refine dOp 3 rfl rfl (by kernel_rfl) (oStore [(.bool gr_34), (.slice Ar_34 nr_34 cr_34)] rfl rfl rfl sz25 rfl hB309 (Nat.le_of_ble_eq_true rfl) (fun w310 hU311 hz312 hB313 => ?_))
      replace hB313 : Blk w310 g20 25 [(.bool gr_34), (.slice Ar_34 nr_34 cr_34)] := hB313
      refine ⟨(hU311.mono q4), dAi 4 rfl rfl (dDone (by kernel_rfl) (xN (hK262 _ _ (wp_ret ?_))))⟩
      have hB314 := (hB308.frm hU311 q1)
      refine ret3 (.agg #[(.bool gq_34), (.slice Aq_34 nq_34 cq_34)]) (.agg #[(.bool gr_34), (.slice Ar_34 nr_34 cr_34)]) (.int .i64 (0)) Tryz.results124 (resB [(.bool gq_34), (.slice Aq_34 nq_34 cq_34)] agg25 sz25 rfl hB314) (resB [(.bool gr_34), (.slice Ar_34 nr_34 cr_34)] agg25 sz25 rfl hB313) (resT rfl) ?_
      have hR315 := ((((hR62.xr hE66).xr hE72).xr hE264).tr hU306).tr hU311
      have h316 := (hq_34.frmB hR315 q3)
      have hR317 := (hR301.rx hU306).tr hU311
      have h318 := (h63.frmB hR317 q3)
      have hR319 := ((((((((hR31.trans hE36).rx hU43).tr hU49).xr hE57).xr hE66).xr hE72).xr hE264).tr hU306).tr hU311
      exact ⟨gq_34, Aq_34, nq_34, cq_34, dq_34, gr_34, Ar_34, nr_34, cr_34, dr_34, (0), rfl, (Frm.mono hR319 q4), (NatR.sub h316 q5), (NatR.sub h318 q5), (floor_pos hb0 m_34 e_64 hc74), cnr_34, rfl, (by omega)⟩
set_option maxHeartbeats 1000000 in
theorem division_Mod {w : World} {ga : Bool} {Sa : Nat → Prop} {Aa : Option Addr} {na ca : Nat} {da : List Nat} {gm : Bool} {Sm : Nat → Prop} {Am : Option Addr} {nm cm : Nat} {dm : List Nat} (ha : NatR w Sa Aa na ca da) (hm : NatR w Sm Am nm cm dm) (hna : na ≤ 268435456) (hnm : nm ≤ 268435456) (hm0 : zval gm dm ≠ 0) : Calls Tryz.prog 105 #[(.agg #[(.bool ga), (.slice Aa na ca)]), (.agg #[(.bool gm), (.slice Am nm cm)])] w (Ret fun v w' => ∃ (gr : Bool) (Ar : Option Addr) (nr : Nat) (cr : Nat) (dr : List Nat) (xo : Int), v = (.tuple #[(.agg #[(.bool gr), (.slice Ar nr cr)]), (.int .i64 (xo))]) ∧ Ext w w' ∧ NatR w' (fun b => w.heap.size ≤ b) Ar nr cr dr ∧ (zval gr dr = zval ga da % ((zval gm dm).natAbs : Int)) ∧ (ICan gr dr) ∧ (xo = 0) ∧ (nr ≤ nm + 1)) := by
  have ⟨la, ka, ma⟩ := ha.lkm
  replace ha := ha.low
  have ⟨lm, km, mm⟩ := hm.lkm
  replace hm := hm.low
  refine enter Tryz.func105 rfl Tryz.ntmps105 rfl (rS fun K1 hK1 => sO (oBox [(.bool ga), (.slice Aa na ca)] rfl rfl (fun g2 w3 hg4 hE5 hz6 hB7 => sO (oBox [(.bool gm), (.slice Am nm cm)] rfl rfl (fun g8 w9 hg10 hE11 hz12 hB13 => sO (oAlloc [(.bool false), (.slice none 0 0)] zero25 rfl (fun g14 w15 hg16 hE17 hz18 hB19 => sAi rfl (sK hK1 (wp_seq_k fun K20 hK20 => ?_)))))))))
  have hR21 := hE11.trans hE17
  have hB22 := (hB7.ext hR21)
  have hB23 := (hB13.ext hE17)
  refine wpJoin (dfs := []) (n := 19) (fun e w_ => ∃ (b7 : Nat) (gR : Bool) (AR : Option Addr) (nR : Nat) (cR : Nat) (dR : List Nat) (xE : Int), e 4 = (.pointer (some ⟨g14, 0, none⟩)) ∧ e 7 = (.pointer (some ⟨b7, 0, none⟩)) ∧ e 8 = (.int .i64 (xE)) ∧ Frm (fun _ => False) w15 w_ ∧ Blk w_ b7 25 ([.bool gR, .slice AR nR cR]) ∧ (w15.heap.size ≤ b7) ∧ (NatR w_ (fun b => w15.heap.size ≤ b) AR nR cR dR) ∧ (zval gR dR = zval ga da % ((zval gm dm).natAbs : Int)) ∧ (ICan gR dR) ∧ (xE = 0) ∧ (nR ≤ nm + 1)) ?_ ?_
  · refine dBegin (fun b => w15.heap.size ≤ b) mixed (fun w24 hE25 hz26 => ?_)
    have hB27 := (hB22.ext hE25)
    refine dV 0 rfl (fun _ hf => evLoadAB [(.bool ga), (.slice Aa na ca)] agg25 sz25 rfl (hB27.frm hf q1) rfl) ?_
    have hB28 := (hB23.ext hE25)
    refine dV 1 rfl (fun _ hf => evLoadAB [(.bool gm), (.slice Am nm cm)] agg25 sz25 rfl (hB28.frm hf q1) rfl) (wAl2 (fun k => bif Nat.beq k 8 then (6, 25, [(.bool false), (.slice none 0 0)]) else (7, 25, [(.bool false), (.slice none 0 0)])) 8 9 (alOp rfl rfl zero25 rfl) (alOp rfl rfl zero25 rfl) rfl fun F29 => wOp F29 2 (by kernel_rfl) fun fl30 w31 hE32 => ?_)
    have hz33 := hE32.size
    have hR34 := (((hE5.trans hE11).trans hE17).trans hE25).trans hE32
    have h35 := (hm.ext hR34)
    refine dWp (i := 2) rfl rfl (oCall rfl call11 (integer_Abs h35 (by omega)) rfl ?_)
    rintro _ w37 ⟨gr_36, Ar_36, nr_36, cr_36, dr_36, rfl, hE38, hr_36, v_36, cn_36, le_36⟩
    refine ⟨hE38, wNext rfl ?_⟩
    have hz39 := hE38.size
    have ⟨lr_36, kr_36, mr_36⟩ := hr_36.lkm
    have h41 := hr_36.sub (S' := fun b => w31.heap.size ≤ b ∧ b < w37.heap.size) fun _ hb hs => ⟨hs, hb⟩
    have hab_36 : zval gr_36 dr_36 = ((zval gm dm).natAbs : Int) := by rw [v_36, natAbs_val gm dm]
    refine wOp F29 3 (by kernel_rfl) fun fl42 w43 hE44 => ?_
    have hz45 := hE44.size
    have hR46 := (hR34.trans hE38).trans hE44
    have h47 := (ha.ext hR46)
    have h48 := (h41.ext hE44)
    refine dWp (i := 3) rfl rfl (oCall rfl call124 (division_Floor h47 h48 (by omega) (by omega) (by omega)) rfl ?_)
    rintro _ w50 ⟨gq_49, Aq_49, nq_49, cq_49, dq_49, gr_49, Ar_49, nr_49, cr_49, dr_49, xo_49, rfl, hE51, hq_49, hr_49, m_49, cn_49, ok_49, le_49⟩
    refine ⟨hE51, wNext rfl ?_⟩
    have hz52 := hE51.size
    have ⟨lq_49, kq_49, mq_49⟩ := hq_49.lkm
    have ⟨lr_49, kr_49, mr_49⟩ := hr_49.lkm
    have h55 := hq_49.sub (S' := fun b => w43.heap.size ≤ b ∧ b < w50.heap.size) fun _ hb hs => ⟨hs, hb⟩
    have h56 := hr_49.sub (S' := fun b => w43.heap.size ≤ b ∧ b < w50.heap.size) fun _ hb hs => ⟨hs, hb⟩
    refine wEv 4 rfl (v := (.tuple #[(.agg #[(.bool gq_49), (.slice Aq_49 nq_49 cq_49)]), (.agg #[(.bool gr_49), (.slice Ar_49 nr_49 cr_49)]), (.int .i64 (xo_49))])) (fun _ => (fun _ _ => rfl)) rfl (fun _ => rfl) (by kernel_rfl) (wEv 5 rfl (v := (.agg #[(.bool gq_49), (.slice Aq_49 nq_49 cq_49)])) (fun _ => (fun _ _ => rfl)) rfl (fun _ => rfl) (by kernel_rfl) (wEv 6 rfl (v := (.agg #[(.bool gr_49), (.slice Ar_49 nr_49 cr_49)])) (fun _ => (fun _ _ => rfl)) rfl (fun _ => rfl) (by kernel_rfl) (wEv 7 rfl (v := (.int .i64 (xo_49))) (fun _ => (fun _ _ => rfl)) rfl (fun _ => rfl) (by kernel_rfl) (wEnd2 F29 #[true, true, true, true, true, true, true, true, true, true, false, false, false] (by kernel_rfl) fun g57 g58 w59 hE60 hb61 hb62 hne67 hB63 hB64 ho65 ho66 => ?_))))
    have hz68 := hE60.size
    have lt69 := hB63.lt
    have lt70 := hB64.lt
    have hR71 := hE51.trans hE60
    have h72 := (h48.ext hR71)
    have h73 := h72.sub (S' := fun b => (w31.heap.size ≤ b ∧ b < w37.heap.size) ∧ b ≠ g57 ∧ b ≠ g58) fun b _ hs => ⟨hs, ho65.ne w31.heap.size w37.heap.size (by simp) b hs.1 hs.2, ho66.ne w31.heap.size w37.heap.size (by simp) b hs.1 hs.2⟩
    have h74 := (h55.ext hE60)
    have h75 := h74.sub (S' := fun b => (w43.heap.size ≤ b ∧ b < w50.heap.size) ∧ b ≠ g57 ∧ b ≠ g58) fun b _ hs => ⟨hs, ho65.ne w43.heap.size w50.heap.size (by simp) b hs.1 hs.2, ho66.ne w43.heap.size w50.heap.size (by simp) b hs.1 hs.2⟩
    have h76 := (h56.ext hE60)
    have h77 := h76.sub (S' := fun b => (w43.heap.size ≤ b ∧ b < w50.heap.size) ∧ b ≠ g57 ∧ b ≠ g58) fun b _ hs => ⟨hs, ho65.ne w43.heap.size w50.heap.size (by simp) b hs.1 hs.2, ho66.ne w43.heap.size w50.heap.size (by simp) b hs.1 hs.2⟩
    refine dOp 10 rfl rfl (by kernel_rfl) (oStore [(.bool gq_49), (.slice Aq_49 nq_49 cq_49)] rfl rfl rfl sz25 rfl hB63 (Nat.le_of_ble_eq_true rfl) (fun w78 hU79 hz80 hB81 => ?_))
    replace hB81 : Blk w78 g57 25 [(.bool gq_49), (.slice Aq_49 nq_49 cq_49)] := hB81
    refine ⟨(hU79.mono q4), ?_⟩
    have hB82 := (hB64.frm hU79 q1)
    refine dOp 11 rfl rfl (by kernel_rfl) (oStore [(.bool gr_49), (.slice Ar_49 nr_49 cr_49)] rfl rfl rfl sz25 rfl hB82 (Nat.le_of_ble_eq_true rfl) (fun w83 hU84 hz85 hB86 => ?_))
    replace hB86 : Blk w83 g58 25 [(.bool gr_49), (.slice Ar_49 nr_49 cr_49)] := hB86
    refine ⟨(hU84.mono q4), dAi 12 rfl rfl (dDone (by kernel_rfl) ?_)⟩
    have hR87 := hU79.tr hU84
    have h88 := (h77.frmB hR87 q3)
    have hR89 := ((((((hE25.trans hE32).trans hE38).trans hE44).trans hE51).trans hE60).rx hU79).tr hU84
    exact ⟨rfl, _, rfl, (g58), (gr_49), (Ar_49), (nr_49), (cr_49), (dr_49), (xo_49), rfl, rfl, rfl, (Frm.mono hR89 q4), hB86, (by omega), (NatR.sub h88 q5), (by rw [m_49, hab_36]), (cn_49), (ok_49), (by omega)⟩
  · rintro e91 w90 ⟨b7, gR, AR, nR, cR, dR, xE, hs93, hs94, hs95, hF92, hB96, hb7, hR, hv, hcR, hE, hl⟩
    obtain ⟨r97, rfl⟩ := sq (e := e91) (t := 4) hs93
    obtain ⟨r98, rfl⟩ := sq (e := r97) (t := 7) hs94
    obtain ⟨r99, rfl⟩ := sq (e := r98) (t := 8) hs95
    have hz100 := hF92.size
    have ⟨lR, kR, mR⟩ := hR.lkm
    refine xN (hK20 _ _ (rS fun K101 hK101 => sV (evLoadAB [(.bool gR), (.slice AR nR cR)] agg25 sz25 rfl hB96 rfl) (sMi rfl ?_)))
    have hB102 := (hB19.ext hF92)
    refine sO (oStore [(.bool gR), (.slice AR nR cR)] rfl rfl rfl sz25 rfl hB102 (Nat.le_of_ble_eq_true rfl) (fun w103 hU104 hz105 hB106 => ?_))
    replace hB106 : Blk w103 g14 25 [(.bool gR), (.slice AR nR cR)] := hB106
    refine sAi rfl (sK hK101 (wp_ret (ret2 (.agg #[(.bool gR), (.slice AR nR cR)]) (.int .i64 (xE)) Tryz.results105 (resB [(.bool gR), (.slice AR nR cR)] agg25 sz25 rfl hB106) (resT rfl) ?_)))
    have h107 := (hR.frmB hU104 q3)
    have hR108 := (((hE5.trans hE11).trans hE17).trans hF92).rx hU104
    exact ⟨gR, AR, nR, cR, dR, (xE), rfl, (Frm.mono hR108 q4), (NatR.sub h107 q5), hv, hcR, hE, hl⟩
set_option maxHeartbeats 1000000 in
theorem division_Symmetric {w : World} {ga : Bool} {Sa : Nat → Prop} {Aa : Option Addr} {na ca : Nat} {da : List Nat} {gm : Bool} {Sm : Nat → Prop} {Am : Option Addr} {nm cm : Nat} {dm : List Nat} (ha : NatR w Sa Aa na ca da) (hm : NatR w Sm Am nm cm dm) (hna : na ≤ 268435456) (hnm : nm ≤ 134217728) (hm0 : zval gm dm ≠ 0) : Calls Tryz.prog 70 #[(.agg #[(.bool ga), (.slice Aa na ca)]), (.agg #[(.bool gm), (.slice Am nm cm)])] w (Ret fun v w' => ∃ (gr : Bool) (Ar : Option Addr) (nr : Nat) (cr : Nat) (dr : List Nat) (xo : Int), v = (.tuple #[(.agg #[(.bool gr), (.slice Ar nr cr)]), (.int .i64 (xo))]) ∧ Ext w w' ∧ NatR w' (fun b => w.heap.size ≤ b) Ar nr cr dr ∧ (zval gr dr = symZ (zval gm dm).natAbs (zval ga da)) ∧ (ICan gr dr) ∧ (xo = 0) ∧ (nr ≤ nm + 2)) := by
  have ⟨la, ka, ma⟩ := ha.lkm
  replace ha := ha.low
  have ⟨lm, km, mm⟩ := hm.lkm
  replace hm := hm.low
  refine enter Tryz.func70 rfl Tryz.ntmps70 rfl (rS fun K1 hK1 => sO (oBox [(.bool ga), (.slice Aa na ca)] rfl rfl (fun g2 w3 hg4 hE5 hz6 hB7 => sO (oBox [(.bool gm), (.slice Am nm cm)] rfl rfl (fun g8 w9 hg10 hE11 hz12 hB13 => sO (oAlloc [(.bool false), (.slice none 0 0)] zero25 rfl (fun g14 w15 hg16 hE17 hz18 hB19 => sAi rfl (sK hK1 (rS fun K20 hK20 => ?_)))))))))
  have hR21 := hE11.trans hE17
  have hB22 := (hB7.ext hR21)
  refine sV (evLoadAB [(.bool ga), (.slice Aa na ca)] agg25 sz25 rfl hB22 rfl) ?_
  have hB23 := (hB13.ext hE17)
  refine sV (evLoadAB [(.bool gm), (.slice Am nm cm)] agg25 sz25 rfl hB23 rfl) ?_
  have hR24 := (hE5.trans hE11).trans hE17
  have h25 := (ha.ext hR24)
  have h26 := (hm.ext hR24)
  refine sO (oCall rfl call105 (division_Mod h25 h26 (by omega) (by omega) (by omega)) rfl ?_)
  rintro _ w28 ⟨gr_27, Ar_27, nr_27, cr_27, dr_27, xo_27, rfl, hE29, hr_27, m_27, cn_27, ok_27, le_27⟩
  have hz30 := hE29.size
  have ⟨lr_27, kr_27, mr_27⟩ := hr_27.lkm
  refine sV (v := (.tuple #[(.agg #[(.bool gr_27), (.slice Ar_27 nr_27 cr_27)]), (.int .i64 (xo_27))])) (rfl) (sV (v := (.agg #[(.bool gr_27), (.slice Ar_27 nr_27 cr_27)])) (rfl) (sV (v := (.int .i64 (xo_27))) (rfl) (sO (oAlloc [(.bool false), (.slice none 0 0)] zero25 rfl (fun g32 w33 hg34 hE35 hz36 hB37 => sO (oStore [(.bool gr_27), (.slice Ar_27 nr_27 cr_27)] rfl rfl rfl sz25 rfl hB37 (Nat.le_of_ble_eq_true rfl) (fun w38 hU39 hz40 hB41 => ?_)))))))
  replace hB41 : Blk w38 g32 25 [(.bool gr_27), (.slice Ar_27 nr_27 cr_27)] := hB41
  refine sAi rfl (sK hK20 (wp_seq_k fun K42 hK42 => rS fun K43 hK43 => sMi rfl (sV (evNeq false rfl rfl (dF (by omega))) (sK hK43 (cF rfl (wp_skip (xN (hK42 _ _ (rS fun K44 hK44 => ?_)))))))))
  have hR45 := (hE29.trans hE35).rx hU39
  have hB46 := (hB23.frm hR45 q1)
  refine sV (evLoadAB [(.bool gm), (.slice Am nm cm)] agg25 sz25 rfl hB46 rfl) ?_
  have h47 := (h26.frmB hR45 q3)
  refine sO (oCall rfl call11 (integer_Abs h47 (by omega)) rfl ?_)
  rintro _ w49 ⟨gr_48, Ar_48, nr_48, cr_48, dr_48, rfl, hE50, hr_48, v_48, cn_48, le_48⟩
  have hz51 := hE50.size
  have ⟨lr_48, kr_48, mr_48⟩ := hr_48.lkm
  have hab : zval gr_48 dr_48 = ((zval gm dm).natAbs : Int) := by rw [v_48, natAbs_val gm dm]
  refine sO (oAlloc [(.bool false), (.slice none 0 0)] zero25 rfl (fun g53 w54 hg55 hE56 hz57 hB58 => sO (oStore [(.bool gr_48), (.slice Ar_48 nr_48 cr_48)] rfl rfl rfl sz25 rfl hB58 (Nat.le_of_ble_eq_true rfl) (fun w59 hU60 hz61 hB62 => ?_))))
  replace hB62 : Blk w59 g53 25 [(.bool gr_48), (.slice Ar_48 nr_48 cr_48)] := hB62
  refine sK hK44 (wp_seq_k fun K63 hK63 => wp_seq_k fun K64 hK64 => dBegin (fun _ => False) mixed (fun w65 hE66 hz67 => ?_))
  have hR68 := ((hE50.trans hE56).rx hU60).xr hE66
  have hB69 := (hB41.frm hR68 q1)
  refine dV 0 rfl (fun _ hf => evLoadAB [(.bool gr_27), (.slice Ar_27 nr_27 cr_27)] agg25 sz25 rfl (hB69.ext hf) rfl) ?_
  have hB70 := (hB62.ext hE66)
  refine dV 2 rfl (fun _ hf => evLoadAB [(.bool gr_48), (.slice Ar_48 nr_48 cr_48)] agg25 sz25 rfl (hB70.ext hf) rfl) ?_
  have hR71 := ((((hE35.rx hU39).xr hE50).xr hE56).tr hU60).xr hE66
  have h72 := (hr_27.frmB hR71 q3)
  refine dOp 1 rfl rfl (by kernel_rfl) (oCall rfl call34 (integer_Shl h72 (xn := 1) (by omega) (by omega) (by omega)) rfl ?_)
  rintro _ w74 ⟨gr_73, Ar_73, nr_73, cr_73, dr_73, rfl, hE75, hr_73, v_73, cn_73, le_73⟩
  refine ⟨(Frm.of_ext hE75), ?_⟩
  have hz76 := hE75.size
  have ⟨lr_73, kr_73, mr_73⟩ := hr_73.lkm
  have hR78 := ((hE56.rx hU60).xr hE66).xr hE75
  have h79 := (hr_48.frmB hR78 q3)
  refine dOp 3 rfl rfl (by kernel_rfl) (oCall rfl call13 (integer_Cmp hr_73 h79) rfl ?_)
  rintro _ w81 ⟨xr_80, rfl, hE82, e_80⟩
  refine ⟨(Frm.of_ext hE82), ?_⟩
  have hz83 := hE82.size
  have ⟨hy, hn⟩ := symZ_val (u := 0) m_27 v_73 hab e_80
  by_cases hc84 : xr_80 > 0
  · refine dV 4 rfl (fun _ _ => evGtr true rfl rfl (dT hc84)) (dDone (by kernel_rfl) (xN (hK64 _ _ (cT rfl (wp_region_lit ?_)))))
    have hR85 := hE75.trans hE82
    have hB86 := (hB69.ext hR85)
    refine sV (evLoadAB [(.bool gr_27), (.slice Ar_27 nr_27 cr_27)] agg25 sz25 rfl hB86 rfl) ?_
    have hB87 := (hB70.ext hR85)
    refine sV (evLoadAB [(.bool gr_48), (.slice Ar_48 nr_48 cr_48)] agg25 sz25 rfl hB87 rfl) ?_
    have h88 := (h72.ext hR85)
    have h89 := (h79.ext hE82)
    refine sO (oCall rfl call106 (integer_Sub h88 h89 (by omega) (by omega)) rfl ?_)
    rintro _ w91 ⟨gr_90, Ar_90, nr_90, cr_90, dr_90, rfl, hE92, hr_90, v_90, cn_90, le_90⟩
    have hz93 := hE92.size
    have ⟨lr_90, kr_90, mr_90⟩ := hr_90.lkm
    have hB95 := (hB86.ext hE92)
    refine sO (oStore [(.bool gr_90), (.slice Ar_90 nr_90 cr_90)] rfl rfl rfl sz25 rfl hB95 (Nat.le_of_ble_eq_true rfl) (fun w96 hU97 hz98 hB99 => ?_))
    replace hB99 : Blk w96 g32 25 [(.bool gr_90), (.slice Ar_90 nr_90 cr_90)] := hB99
    refine sK hK63 (rS fun K100 hK100 => sV (evLoadAB [(.bool gr_90), (.slice Ar_90 nr_90 cr_90)] agg25 sz25 rfl hB99 rfl) ?_)
    have hR101 := (((((((hR45.xr hE50).xr hE56).tr hU60).xr hE66).xr hE75).xr hE82).xr hE92).tr hU97
    have hB102 := (hB19.frm hR101 q1)
    refine sO (oStore [(.bool gr_90), (.slice Ar_90 nr_90 cr_90)] rfl rfl rfl sz25 rfl hB102 (Nat.le_of_ble_eq_true rfl) (fun w103 hU104 hz105 hB106 => ?_))
    replace hB106 : Blk w103 g14 25 [(.bool gr_90), (.slice Ar_90 nr_90 cr_90)] := hB106
    refine sAi rfl (sK hK100 (wp_ret (ret2 (.agg #[(.bool gr_90), (.slice Ar_90 nr_90 cr_90)]) (.int .i64 (0)) Tryz.results70 (resB [(.bool gr_90), (.slice Ar_90 nr_90 cr_90)] agg25 sz25 rfl hB106) (resT rfl) ?_)))
    have hR107 := hU97.tr hU104
    have h108 := (hr_90.frmB hR107 q3)
    have hR109 := (((((((((((hR24.trans hE29).trans hE35).rx hU39).xr hE50).xr hE56).tr hU60).xr hE66).xr hE75).xr hE82).xr hE92).tr hU97).tr hU104
    exact ⟨gr_90, Ar_90, nr_90, cr_90, dr_90, (0), rfl, (Frm.mono hR109 q4), (NatR.sub h108 q5), (by rw [v_90]; exact hy hc84), cn_90, rfl, (by omega)⟩
  · refine dV 4 rfl (fun _ _ => evGtr false rfl rfl (dF hc84)) (dDone (by kernel_rfl) (xN (hK64 _ _ (cF rfl (wp_skip (xN (hK63 _ _ (rS fun K110 hK110 => ?_))))))))
    have hR111 := hE75.trans hE82
    have hB112 := (hB69.ext hR111)
    refine sV (evLoadAB [(.bool gr_27), (.slice Ar_27 nr_27 cr_27)] agg25 sz25 rfl hB112 rfl) ?_
    have hR113 := (((((hR45.xr hE50).xr hE56).tr hU60).xr hE66).xr hE75).xr hE82
    have hB114 := (hB19.frm hR113 q1)
    refine sO (oStore [(.bool gr_27), (.slice Ar_27 nr_27 cr_27)] rfl rfl rfl sz25 rfl hB114 (Nat.le_of_ble_eq_true rfl) (fun w115 hU116 hz117 hB118 => ?_))
    replace hB118 : Blk w115 g14 25 [(.bool gr_27), (.slice Ar_27 nr_27 cr_27)] := hB118
    refine sAi rfl (sK hK110 (wp_ret (ret2 (.agg #[(.bool gr_27), (.slice Ar_27 nr_27 cr_27)]) (.int .i64 (0)) Tryz.results70 (resB [(.bool gr_27), (.slice Ar_27 nr_27 cr_27)] agg25 sz25 rfl hB118) (resT rfl) ?_)))
    have hR119 := hR111.rx hU116
    have h120 := (h72.frmB hR119 q3)
    have hR121 := (((((((((hR24.trans hE29).trans hE35).rx hU39).xr hE50).xr hE56).tr hU60).xr hE66).xr hE75).xr hE82).tr hU116
    exact ⟨gr_27, Ar_27, nr_27, cr_27, dr_27, (0), rfl, (Frm.mono hR121 q4), (NatR.sub h120 q5), (hn hc84), cn_27, rfl, (by omega)⟩
end Go.Proofs.YtneolcopompkaaaGreatDoor
