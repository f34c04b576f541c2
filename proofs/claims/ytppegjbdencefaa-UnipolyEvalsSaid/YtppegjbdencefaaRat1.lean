/-
  Walks of package rational: parts, lowest terms, comparison, sums, products.
-/
import Derived.Test.YtppegjbdencefaaDiv3
import Derived.Test.YtppegjbdencefaaRatMath
namespace Go.Proofs.Ytppegjbdencefaa
open Go.RowKit Go.Gx
theorem rational_parts {w : World} {ga : Bool} {Sa : Nat → Prop} {Aa : Option Addr} {na ca : Nat} {da : List Nat} {Sav : Nat → Prop} {Aav : Option Addr} {nav cav : Nat} {dav : List Nat} (ha : NatR w Sa Aa na ca da) (hav : NatR w Sav Aav nav cav dav)  : Calls Try.prog 92 #[(.agg #[(.bool ga), (.slice Aa na ca), (.slice Aav nav cav)])] w (Ret fun v w' => ∃ (gn : Bool) (An : Option Addr) (nn : Nat) (cn : Nat) (dn : List Nat) (gd : Bool) (Ad : Option Addr) (nd : Nat) (cd : Nat) (dd : List Nat), v = (.tuple #[(.agg #[(.bool gn), (.slice An nn cn)]), (.agg #[(.bool gd), (.slice Ad nd cd)])]) ∧ Ext w w' ∧ NatR w' (fun _ => True) An nn cn dn ∧ NatR w' (fun _ => True) Ad nd cd dd ∧ (zval gn dn = rnum (zval ga da) (val dav)) ∧ (zval gd dd = (rden (val dav) : Int)) ∧ (nn ≤ na) ∧ (nd ≤ nav + 2)) := by
  have ⟨la, ka, ma⟩ := ha.lkm
  replace ha := ha.low
  have ⟨lav, kav, mav⟩ := hav.lkm
  replace hav := hav.low
  refine enter Try.func92 rfl Try.ntmps92 rfl (rS fun K1 hK1 => sO (oBox [(.bool ga), (.slice Aa na ca), (.slice Aav nav cav)] rfl rfl (fun g2 w3 hg4 hE5 hz6 hB7 => sO (oAlloc [(.bool false), (.slice none 0 0)] zero46 rfl (fun g8 w9 hg10 hE11 hz12 hB13 => sO (oAlloc [(.bool false), (.slice none 0 0)] zero46 rfl (fun g14 w15 hg16 hE17 hz18 hB19 => sK hK1 (wp_seq_k fun K20 hK20 => rS fun K21 hK21 => sV (evFA 2 fa64_1 rfl rfl) ?_))))))))
  have hR22 := hE11.trans hE17
  have hB23 := (hB7.ext hR22)
  refine sV (evLoadB one44 rfl hB23 rfl) ?_
  have hR24 := (hE5.trans hE11).trans hE17
  have h25 := (hav.ext hR24)
  refine sO (oCall rfl call94 (natural_IsZero h25) rfl ?_)
  rintro _ w27 ⟨gr_26, rfl, hE28, e_26⟩
  have hz29 := hE28.size
  refine sK hK21 (cB gr_26 rfl ?_ ?_)
  · intro hc30
    subst hc30
    refine rS fun K31 hK31 => sV (v := (.agg #[(.bool false), (.slice none 0 0)])) (evK (by kernel_rfl)) (sO (oCall rfl call48 (integer_Of (by omega)) rfl ?_))
    rintro _ w33 ⟨gr_32, Ar_32, nr_32, cr_32, dr_32, rfl, hE34, hr_32, v_32, cn_32, le_32⟩
    have hz35 := hE34.size
    have ⟨lr_32, kr_32, mr_32⟩ := hr_32.lkm
    have hR37 := (hE17.trans hE28).trans hE34
    have hB38 := (hB13.ext hR37)
    refine sO (oStore [(.bool false), (.slice none 0 0)] rfl rfl rfl sz46 rfl hB38 (Nat.le_of_ble_eq_true rfl) (fun w39 hU40 hz41 hB42 => ?_))
    replace hB42 : Blk w39 g8 46 [(.bool false), (.slice none 0 0)] := hB42
    have hR43 := (hE28.trans hE34).rx hU40
    have hB44 := (hB19.frm hR43 q1)
    refine sO (oStore [(.bool gr_32), (.slice Ar_32 nr_32 cr_32)] rfl rfl rfl sz46 rfl hB44 (Nat.le_of_ble_eq_true rfl) (fun w45 hU46 hz47 hB48 => ?_))
    replace hB48 : Blk w45 g14 46 [(.bool gr_32), (.slice Ar_32 nr_32 cr_32)] := hB48
    refine sK hK31 (wp_ret (xR ?_))
    have hB49 := (hB42.frm hU46 q1)
    refine ret2 (.agg #[(.bool false), (.slice none 0 0)]) (.agg #[(.bool gr_32), (.slice Ar_32 nr_32 cr_32)]) Try.results92 (resB [(.bool false), (.slice none 0 0)] agg46 sz46 rfl hB49) (resB [(.bool gr_32), (.slice Ar_32 nr_32 cr_32)] agg46 sz46 rfl hB48) ?_
    have hz0 : val dav = 0 := by simpa using e_26.symm
    have hR50 := hU40.tr hU46
    have h51 := (hr_32.frmB hR50 q3)
    have hR52 := (((hR24.trans hE28).trans hE34).rx hU40).tr hU46
    exact ⟨false, none, 0, 0, ([]), gr_32, Ar_32, nr_32, cr_32, dr_32, rfl, (Frm.mono hR52 q4), NatR.nil, (NatR.sub h51 (fun _ _ _ => trivial)), (by rw [zval_nil]; unfold rnum; rw [if_pos hz0]), (by rw [v_32]; unfold rden; rw [if_pos hz0]; rfl), (by omega), (by omega)⟩
  · intro hc30
    subst hc30
    refine wp_skip (xN (hK20 _ _ (wp_seq_k fun K53 hK53 => dBegin (fun b => b = g14 ∨ b = g8) mixed (fun w54 hE55 hz56 => dV 0 rfl (fun _ _ => evFA 0 fa64_0 rfl rfl) ?_))))
    have hR57 := hE28.trans hE55
    have hB58 := (hB23.ext hR57)
    refine dV 1 rfl (fun _ hf => evLoadAB [(.bool ga), (.slice Aa na ca)] agg46 sz46 rfl (hB58.frm hf q1) rfl) (dV 2 rfl (fun _ _ => evFA 2 fa64_1 rfl rfl) (dV 3 rfl (fun _ hf => evLoadB one44 rfl (hB58.frm hf q1) rfl) (dV 4 rfl (v := (.agg #[(.bool false), (.slice Aav nav cav)])) (fun _ _ => evK (by kernel_rfl)) ?_)))
    have hR59 := (hE17.trans hE28).trans hE55
    have hB60 := (hB13.ext hR59)
    refine dOp 5 rfl rfl (by kernel_rfl) (oStore [(.bool ga), (.slice Aa na ca)] rfl rfl rfl sz46 rfl hB60 (Nat.le_of_ble_eq_true rfl) (fun w61 hU62 hz63 hB64 => ?_))
    replace hB64 : Blk w61 g8 46 [(.bool ga), (.slice Aa na ca)] := hB64
    refine ⟨(hU62.mono q4), ?_⟩
    have hR65 := hR57.rx hU62
    have hB66 := (hB19.frm hR65 q1)
    refine dOp 6 rfl rfl (by kernel_rfl) (oStore [(.bool false), (.slice Aav nav cav)] rfl rfl rfl sz46 rfl hB66 (Nat.le_of_ble_eq_true rfl) (fun w67 hU68 hz69 hB70 => ?_))
    replace hB70 : Blk w67 g14 46 [(.bool false), (.slice Aav nav cav)] := hB70
    refine ⟨(hU68.mono q4), dDone (by kernel_rfl) (xN (hK53 _ _ (wp_ret ?_)))⟩
    have hB71 := (hB64.frm hU68 q1)
    refine ret2 (.agg #[(.bool ga), (.slice Aa na ca)]) (.agg #[(.bool false), (.slice Aav nav cav)]) Try.results92 (resB [(.bool ga), (.slice Aa na ca)] agg46 sz46 rfl hB71) (resB [(.bool false), (.slice Aav nav cav)] agg46 sz46 rfl hB70) ?_
    have hz0 : val dav ≠ 0 := by simpa using e_26.symm
    have hR72 := (((hR24.trans hE28).trans hE55).rx hU62).tr hU68
    have h73 := (ha.frmB hR72 q3)
    have hR74 := hR65.tr hU68
    have h75 := (h25.frmB hR74 q3)
    exact ⟨ga, Aa, na, ca, da, false, Aav, nav, cav, dav, rfl, (Frm.mono hR72 q4), (NatR.sub h73 (fun _ _ _ => trivial)), (NatR.sub h75 (fun _ _ _ => trivial)), (by unfold rnum; rw [if_neg hz0]), (by rw [zval_false]; unfold rden; rw [if_neg hz0]), (by omega), (by omega)⟩

theorem rational_reduce {w : World} {gn : Bool} {Sn : Nat → Prop} {An : Option Addr} {nn cn : Nat} {dn : List Nat} {gd : Bool} {Sd : Nat → Prop} {Ad : Option Addr} {nd cd : Nat} {dd : List Nat} (hn : NatR w Sn An nn cn dn) (hd : NatR w Sd Ad nd cd dd) (hnn : nn ≤ 34359738368) (hnd : nd ≤ 34359738368) (hd0 : 0 < zval gd dd) : Calls Try.prog 93 #[(.agg #[(.bool gn), (.slice An nn cn)]), (.agg #[(.bool gd), (.slice Ad nd cd)])] w (Ret fun v w' => ∃ (gr : Bool) (Ar : Option Addr) (nr : Nat) (cr : Nat) (dr : List Nat) (Arv : Option Addr) (nrv : Nat) (crv : Nat) (drv : List Nat), v = (.agg #[(.bool gr), (.slice Ar nr cr), (.slice Arv nrv crv)]) ∧ Ext w w' ∧ NatR w' (fun b => w.heap.size ≤ b) Ar nr cr dr ∧ NatR w' (fun b => w.heap.size ≤ b) Arv nrv crv drv ∧ (zval gr dr * zval gd dd = zval gn dn * (val drv : Int)) ∧ (0 < val drv) ∧ (ICan gr dr) ∧ (Canon isZ drv) ∧ (Nat.gcd (val dr) (val drv) = 1) ∧ (nr ≤ nn + 1) ∧ (nrv ≤ nd + 1)) := by
  have ⟨ln, kn, mn⟩ := hn.lkm
  replace hn := hn.low
  have ⟨ld, kd, md⟩ := hd.lkm
  replace hd := hd.low
  refine enter Try.func93 rfl Try.ntmps93 rfl (rS fun K1 hK1 => sO (oBox [(.bool gn), (.slice An nn cn)] rfl rfl (fun g2 w3 hg4 hE5 hz6 hB7 => sO (oBox [(.bool gd), (.slice Ad nd cd)] rfl rfl (fun g8 w9 hg10 hE11 hz12 hB13 => sO (oAlloc [(.bool false), (.slice none 0 0), (.slice none 0 0)] zero64 rfl (fun g14 w15 hg16 hE17 hz18 hB19 => sK hK1 (rS fun K20 hK20 => ?_))))))))
  have hR21 := hE11.trans hE17
  have hB22 := (hB7.ext hR21)
  refine sV (evLoadAB [(.bool gn), (.slice An nn cn)] agg46 sz46 rfl hB22 rfl) ?_
  have hB23 := (hB13.ext hE17)
  refine sV (evLoadAB [(.bool gd), (.slice Ad nd cd)] agg46 sz46 rfl hB23 rfl) ?_
  have hR24 := (hE5.trans hE11).trans hE17
  have h25 := (hn.ext hR24)
  have h26 := (hd.ext hR24)
  refine sO (oCall rfl call114 (division_Gcd h25 h26 (by omega) (by omega)) rfl ?_)
  rintro _ w28 ⟨gr_27, Ar_27, nr_27, cr_27, dr_27, rfl, hE29, hr_27, v_27, cn_27, le_27⟩
  have hz30 := hE29.size
  have ⟨lr_27, kr_27, mr_27⟩ := hr_27.lkm
  have hgp : 0 < Nat.gcd (val dn) (val dd) := Nat.gcd_pos_of_pos_right _ (by have h := natAbs_val gd dd; omega)
  have hg0 : zval gr_27 dr_27 ≠ 0 := by rw [v_27]; omega
  refine sO (oAlloc [(.bool false), (.slice none 0 0)] zero46 rfl (fun g32 w33 hg34 hE35 hz36 hB37 => sO (oStore [(.bool gr_27), (.slice Ar_27 nr_27 cr_27)] rfl rfl rfl sz46 rfl hB37 (Nat.le_of_ble_eq_true rfl) (fun w38 hU39 hz40 hB41 => ?_))))
  replace hB41 : Blk w38 g32 46 [(.bool gr_27), (.slice Ar_27 nr_27 cr_27)] := hB41
  refine sK hK20 (rS fun K42 hK42 => ?_)
  have hR43 := (hE29.trans hE35).rx hU39
  have hB44 := (hB22.frm hR43 q1)
  refine sV (evLoadAB [(.bool gn), (.slice An nn cn)] agg46 sz46 rfl hB44 rfl) (sV (evLoadAB [(.bool gr_27), (.slice Ar_27 nr_27 cr_27)] agg46 sz46 rfl hB41 rfl) ?_)
  have h45 := (h25.frmB hR43 q3)
  have hR46 := hE35.rx hU39
  have h47 := (hr_27.frmB hR46 q3)
  refine sO (oCall rfl call115 (division_Quo h45 h47 (by omega) (by omega) (by omega)) rfl ?_)
  rintro _ w49 ⟨gq_48, Aq_48, nq_48, cq_48, dq_48, gr_48, Ar_48, nr_48, cr_48, dr_48, xe_48, rfl, hE50, hq_48, hr_48, v_48, m_48, cnq_48, cnr_48, ok_48, leq_48, ler_48⟩
  have hz51 := hE50.size
  have ⟨lq_48, kq_48, mq_48⟩ := hq_48.lkm
  have ⟨lr_48, kr_48, mr_48⟩ := hr_48.lkm
  refine sV (v := (.tuple #[(.agg #[(.bool gq_48), (.slice Aq_48 nq_48 cq_48)]), (.agg #[(.bool gr_48), (.slice Ar_48 nr_48 cr_48)]), (.int .i64 (xe_48))])) (rfl) (sV (v := (.agg #[(.bool gq_48), (.slice Aq_48 nq_48 cq_48)])) (rfl) (sV (v := (.agg #[(.bool gr_48), (.slice Ar_48 nr_48 cr_48)])) (rfl) (sV (v := (.int .i64 (xe_48))) (rfl) ?_)))
  have hB54 := (hB44.ext hE50)
  refine sO (oStore [(.bool gq_48), (.slice Aq_48 nq_48 cq_48)] rfl rfl rfl sz46 rfl hB54 (Nat.le_of_ble_eq_true rfl) (fun w55 hU56 hz57 hB58 => ?_))
  replace hB58 : Blk w55 g2 46 [(.bool gq_48), (.slice Aq_48 nq_48 cq_48)] := hB58
  refine sK hK42 (rS fun K59 hK59 => ?_)
  have hR60 := (hR43.xr hE50).tr hU56
  have hB61 := (hB23.frm hR60 q1)
  refine sV (evLoadAB [(.bool gd), (.slice Ad nd cd)] agg46 sz46 rfl hB61 rfl) ?_
  have hR62 := hE50.rx hU56
  have hB63 := (hB41.frm hR62 q1)
  refine sV (evLoadAB [(.bool gr_27), (.slice Ar_27 nr_27 cr_27)] agg46 sz46 rfl hB63 rfl) ?_
  have h64 := (h26.frmB hR60 q3)
  have h65 := (h47.frmB hR62 q3)
  refine sO (oCall rfl call115 (division_Quo h64 h65 (by omega) (by omega) (by omega)) rfl ?_)
  rintro _ w67 ⟨gq_66, Aq_66, nq_66, cq_66, dq_66, gr_66, Ar_66, nr_66, cr_66, dr_66, xe_66, rfl, hE68, hq_66, hr_66, v_66, m_66, cnq_66, cnr_66, ok_66, leq_66, ler_66⟩
  have hz69 := hE68.size
  have ⟨lq_66, kq_66, mq_66⟩ := hq_66.lkm
  have ⟨lr_66, kr_66, mr_66⟩ := hr_66.lkm
  refine sV (v := (.tuple #[(.agg #[(.bool gq_66), (.slice Aq_66 nq_66 cq_66)]), (.agg #[(.bool gr_66), (.slice Ar_66 nr_66 cr_66)]), (.int .i64 (xe_66))])) (rfl) (sV (v := (.agg #[(.bool gq_66), (.slice Aq_66 nq_66 cq_66)])) (rfl) (sV (v := (.agg #[(.bool gr_66), (.slice Ar_66 nr_66 cr_66)])) (rfl) (sV (v := (.int .i64 (xe_66))) (rfl) ?_)))
  have hB72 := (hB61.ext hE68)
  refine sO (oStore [(.bool gq_66), (.slice Aq_66 nq_66 cq_66)] rfl rfl rfl sz46 rfl hB72 (Nat.le_of_ble_eq_true rfl) (fun w73 hU74 hz75 hB76 => ?_))
  replace hB76 : Blk w73 g8 46 [(.bool gq_66), (.slice Aq_66 nq_66 cq_66)] := hB76
  refine sK hK59 (rS fun K77 hK77 => ?_)
  have hR78 := hE68.rx hU74
  have hB79 := (hB58.frm hR78 q1)
  refine sV (evLoadAB [(.bool gq_48), (.slice Aq_48 nq_48 cq_48)] agg46 sz46 rfl hB79 rfl) (sV (evFA 1 fa46_1 rfl rfl) (sV (evLoadB one44 rfl hB76 rfl) (sV (v := (.agg #[(.bool gq_48), (.slice Aq_48 nq_48 cq_48), (.slice Aq_66 nq_66 cq_66)])) (evK (by kernel_rfl)) ?_)))
  have hR80 := (hR60.xr hE68).tr hU74
  have hB81 := (hB19.frm hR80 q1)
  refine sO (oStore [(.bool gq_48), (.slice Aq_48 nq_48 cq_48), (.slice Aq_66 nq_66 cq_66)] rfl rfl rfl sz64 rfl hB81 (Nat.le_of_ble_eq_true rfl) (fun w82 hU83 hz84 hB85 => ?_))
  replace hB85 : Blk w82 g14 64 [(.bool gq_48), (.slice Aq_48 nq_48 cq_48), (.slice Aq_66 nq_66 cq_66)] := hB85
  refine sK hK77 (wp_ret (ret1 (.agg #[(.bool gq_48), (.slice Aq_48 nq_48 cq_48), (.slice Aq_66 nq_66 cq_66)]) Try.results93 (resB [(.bool gq_48), (.slice Aq_48 nq_48 cq_48), (.slice Aq_66 nq_66 cq_66)] agg64 sz64 rfl hB85) ?_))
  have hrm := reduce_math (natAbs_val gn dn) (natAbs_val gd dd) v_27 hd0 v_48 v_66
  have hvv : (val dq_66 : Int) = zval gq_66 dq_66 := by have h := natAbs_val gq_66 dq_66; have h2 := hrm.2.1; omega
  have hR86 := ((hU56.xr hE68).tr hU74).tr hU83
  have h87 := (hq_48.frmB hR86 q3)
  have hR88 := hU74.tr hU83
  have h89 := (hq_66.frmB hR88 q3)
  have hR90 := (((((((hR24.trans hE29).trans hE35).rx hU39).xr hE50).tr hU56).xr hE68).tr hU74).tr hU83
  exact ⟨(gq_48), Aq_48, nq_48, cq_48, dq_48, Aq_66, nq_66, cq_66, dq_66, rfl, (Frm.mono hR90 q4), (NatR.sub h87 q5), (NatR.sub h89 q5), (by rw [hvv]; exact hrm.1), (by have h := hrm.2.1; omega), cnq_48, cnq_66.1, (by rw [natAbs_val gq_48 dq_48, natAbs_val gq_66 dq_66]; exact hrm.2.2), (by omega), (by omega)⟩

theorem rational_From {w : World} {ga : Bool} {Sa : Nat → Prop} {Aa : Option Addr} {na ca : Nat} {da : List Nat} (ha : NatR w Sa Aa na ca da) (hna : na ≤ 34359738368) : Calls Try.prog 59 #[(.agg #[(.bool ga), (.slice Aa na ca)])] w (Ret fun v w' => ∃ (gr : Bool) (Ar : Option Addr) (nr : Nat) (cr : Nat) (dr : List Nat) (Arv : Option Addr) (nrv : Nat) (crv : Nat) (drv : List Nat), v = (.agg #[(.bool gr), (.slice Ar nr cr), (.slice Arv nrv crv)]) ∧ Ext w w' ∧ NatR w' (fun b => w.heap.size ≤ b) Ar nr cr dr ∧ NatR w' (fun b => w.heap.size ≤ b) Arv nrv crv drv ∧ (zval gr dr = zval ga da) ∧ (val drv = 1) ∧ (ICan gr dr) ∧ (nr ≤ na) ∧ (nrv ≤ 2)) := by
  have ⟨la, ka, ma⟩ := ha.lkm
  replace ha := ha.low
  refine enter Try.func59 rfl Try.ntmps59 rfl (rS fun K1 hK1 => sO (oBox [(.bool ga), (.slice Aa na ca)] rfl rfl (fun g2 w3 hg4 hE5 hz6 hB7 => sO (oAlloc [(.bool false), (.slice none 0 0), (.slice none 0 0)] zero64 rfl (fun g8 w9 hg10 hE11 hz12 hB13 => sK hK1 (rS fun K14 hK14 => ?_))))))
  have hB15 := (hB7.ext hE11)
  refine sV (evLoadAB [(.bool ga), (.slice Aa na ca)] agg46 sz46 rfl hB15 rfl) ?_
  have hR16 := hE5.trans hE11
  have h17 := (ha.ext hR16)
  refine sO (oCall rfl call73 (integer_Normal h17 (by omega)) rfl ?_)
  rintro _ w19 ⟨gr_18, Ar_18, nr_18, cr_18, dr_18, rfl, hE20, hr_18, v_18, cn_18, le_18⟩
  have hz21 := hE20.size
  have ⟨lr_18, kr_18, mr_18⟩ := hr_18.lkm
  refine sO (oCall rfl call83 (natural_Of (x1 := 1) (by omega)) rfl ?_)
  rintro _ w24 ⟨Ar_23, nr_23, cr_23, dr_23, rfl, hE25, hr_23, v_23, cn_23, le_23⟩
  have hz26 := hE25.size
  have ⟨lr_23, kr_23, mr_23⟩ := hr_23.lkm
  refine sV (v := (.agg #[(.bool gr_18), (.slice Ar_18 nr_18 cr_18), (.slice Ar_23 nr_23 cr_23)])) (evK (by kernel_rfl)) ?_
  have hR28 := hE20.trans hE25
  have hB29 := (hB13.ext hR28)
  refine sO (oStore [(.bool gr_18), (.slice Ar_18 nr_18 cr_18), (.slice Ar_23 nr_23 cr_23)] rfl rfl rfl sz64 rfl hB29 (Nat.le_of_ble_eq_true rfl) (fun w30 hU31 hz32 hB33 => ?_))
  replace hB33 : Blk w30 g8 64 [(.bool gr_18), (.slice Ar_18 nr_18 cr_18), (.slice Ar_23 nr_23 cr_23)] := hB33
  refine sK hK14 (wp_ret (ret1 (.agg #[(.bool gr_18), (.slice Ar_18 nr_18 cr_18), (.slice Ar_23 nr_23 cr_23)]) Try.results59 (resB [(.bool gr_18), (.slice Ar_18 nr_18 cr_18), (.slice Ar_23 nr_23 cr_23)] agg64 sz64 rfl hB33) ?_))
  have hR34 := hE25.rx hU31
  have h35 := (hr_18.frmB hR34 q3)
  have h36 := (hr_23.frmB hU31 q3)
  have hR37 := ((hR16.trans hE20).trans hE25).rx hU31
  exact ⟨(gr_18), Ar_18, nr_18, cr_18, dr_18, Ar_23, nr_23, cr_23, dr_23, rfl, (Frm.mono hR37 q4), (NatR.sub h35 q5), (NatR.sub h36 q5), v_18, v_23, cn_18, (by omega), (by omega)⟩

theorem rational_Make {w : World} {gn : Bool} {Sn : Nat → Prop} {An : Option Addr} {nn cn : Nat} {dn : List Nat} {gd : Bool} {Sd : Nat → Prop} {Ad : Option Addr} {nd cd : Nat} {dd : List Nat} (hn : NatR w Sn An nn cn dn) (hd : NatR w Sd Ad nd cd dd) (hnn : nn ≤ 34359738368) (hnd : nd ≤ 34359738368) (hd0 : zval gd dd ≠ 0) : Calls Try.prog 85 #[(.agg #[(.bool gn), (.slice An nn cn)]), (.agg #[(.bool gd), (.slice Ad nd cd)])] w (Ret fun v w' => ∃ (gr : Bool) (Ar : Option Addr) (nr : Nat) (cr : Nat) (dr : List Nat) (Arv : Option Addr) (nrv : Nat) (crv : Nat) (drv : List Nat) (xe : Int), v = (.tuple #[(.agg #[(.bool gr), (.slice Ar nr cr), (.slice Arv nrv crv)]), (.int .i64 (xe))]) ∧ Ext w w' ∧ NatR w' (fun b => w.heap.size ≤ b) Ar nr cr dr ∧ NatR w' (fun b => w.heap.size ≤ b) Arv nrv crv drv ∧ (zval gr dr * zval gd dd = zval gn dn * (val drv : Int)) ∧ (0 < val drv) ∧ (ICan gr dr) ∧ (Canon isZ drv) ∧ (Nat.gcd (val dr) (val drv) = 1) ∧ (xe = 0) ∧ (nr ≤ nn + 1) ∧ (nrv ≤ nd + 1)) := by
  have ⟨ln, kn, mn⟩ := hn.lkm
  replace hn := hn.low
  have ⟨ld, kd, md⟩ := hd.lkm
  replace hd := hd.low
  refine enter Try.func85 rfl Try.ntmps85 rfl (rS fun K1 hK1 => sO (oBox [(.bool gn), (.slice An nn cn)] rfl rfl (fun g2 w3 hg4 hE5 hz6 hB7 => sO (oBox [(.bool gd), (.slice Ad nd cd)] rfl rfl (fun g8 w9 hg10 hE11 hz12 hB13 => sO (oAlloc [(.bool false), (.slice none 0 0), (.slice none 0 0)] zero64 rfl (fun g14 w15 hg16 hE17 hz18 hB19 => sAi rfl (sK hK1 (wp_seq_k fun K20 hK20 => rS fun K21 hK21 => ?_)))))))))
  have hB22 := (hB13.ext hE17)
  refine sV (evLoadAB [(.bool gd), (.slice Ad nd cd)] agg46 sz46 rfl hB22 rfl) ?_
  have hR23 := (hE5.trans hE11).trans hE17
  have h24 := (hd.ext hR23)
  refine sO (oCall rfl call62 (integer_Sign h24) rfl ?_)
  rintro _ w26 ⟨xr_25, rfl, hE27, e_25⟩
  have hz28 := hE27.size
  refine sK hK21 (wp_block (rS fun K29 hK29 => sV (evEql false rfl rfl (dF (by have h := (sign0_iff e_25).1; intro hh; exact hd0 (h hh)))) (sAb rfl (sK hK29 (cF rfl (rS fun K30 hK30 => ?_))))))
  by_cases hc31 : xr_25 = ((-1))
  · refine sV (evEql true rfl rfl (dT hc31)) (sAb rfl (sK hK30 (cT rfl (wp_region_lit ?_))))
    have hR32 := (hE11.trans hE17).trans hE27
    have hB33 := (hB7.ext hR32)
    refine sV (evLoadAB [(.bool gn), (.slice An nn cn)] agg46 sz46 rfl hB33 rfl) ?_
    have hR34 := hR23.trans hE27
    have h35 := (hn.ext hR34)
    refine sO (oCall rfl call57 (integer_Neg h35 (by omega)) rfl ?_)
    rintro _ w37 ⟨gr_36, Ar_36, nr_36, cr_36, dr_36, rfl, hE38, hr_36, v_36, cn_36, le_36⟩
    have hz39 := hE38.size
    have ⟨lr_36, kr_36, mr_36⟩ := hr_36.lkm
    have hB41 := (hB33.ext hE38)
    refine sO (oStore [(.bool gr_36), (.slice Ar_36 nr_36 cr_36)] rfl rfl rfl sz46 rfl hB41 (Nat.le_of_ble_eq_true rfl) (fun w42 hU43 hz44 hB45 => ?_))
    replace hB45 : Blk w42 g2 46 [(.bool gr_36), (.slice Ar_36 nr_36 cr_36)] := hB45
    refine sDone (bN (xN (hK20 _ _ (wp_seq_k fun K46 hK46 => ?_))))
    have hsr := sign_cases (zval gd dd)
    have hab := natAbs_val gd dd
    refine dBegin (fun b => b = g14) mixed (fun w47 hE48 hz49 => ?_)
    have hB50 := (hB45.ext hE48)
    refine dV 0 rfl (fun _ hf => evLoadAB [(.bool gr_36), (.slice Ar_36 nr_36 cr_36)] agg46 sz46 rfl (hB50.frm hf q1) rfl) ?_
    have hR51 := ((hE27.trans hE38).rx hU43).xr hE48
    have hB52 := (hB22.frm hR51 q1)
    refine dV 1 rfl (fun _ hf => evLoadAB [(.bool gd), (.slice Ad nd cd)] agg46 sz46 rfl (hB52.frm hf q1) rfl) ?_
    have h53 := (h24.frmB hR51 q3)
    refine dOp 2 rfl rfl (by kernel_rfl) (oCall rfl call77 (integer_Abs h53 (by omega)) rfl ?_)
    rintro _ w55 ⟨gr_54, Ar_54, nr_54, cr_54, dr_54, rfl, hE56, hr_54, v_54, cn_54, le_54⟩
    refine ⟨(Frm.of_ext hE56), ?_⟩
    have hz57 := hE56.size
    have ⟨lr_54, kr_54, mr_54⟩ := hr_54.lkm
    have hda : zval gr_54 dr_54 = (val dd : Int) := v_54
    have hR59 := (hU43.xr hE48).xr hE56
    have h60 := (hr_36.frmB hR59 q3)
    refine dOp 3 rfl rfl (by kernel_rfl) (oCall rfl call93 (rational_reduce h60 hr_54 (by omega) (by omega) (by omega)) rfl ?_)
    rintro _ w62 ⟨gr_61, Ar_61, nr_61, cr_61, dr_61, Arv_61, nrv_61, crv_61, drv_61, rfl, hE63, hr_61, hrv_61, x_61, p_61, cn_61, cv_61, co_61, bn_61, bd_61⟩
    refine ⟨(Frm.of_ext hE63), ?_⟩
    have hz64 := hE63.size
    have ⟨lr_61, kr_61, mr_61⟩ := hr_61.lkm
    have ⟨lrv_61, krv_61, mrv_61⟩ := hrv_61.lkm
    have hR67 := (hR51.xr hE56).xr hE63
    have hB68 := (hB19.frm hR67 q1)
    refine dOp 4 rfl rfl (by kernel_rfl) (oStore [(.bool gr_61), (.slice Ar_61 nr_61 cr_61), (.slice Arv_61 nrv_61 crv_61)] rfl rfl rfl sz64 rfl hB68 (Nat.le_of_ble_eq_true rfl) (fun w69 hU70 hz71 hB72 => ?_))
    replace hB72 : Blk w69 g14 64 [(.bool gr_61), (.slice Ar_61 nr_61 cr_61), (.slice Arv_61 nrv_61 crv_61)] := hB72
    refine ⟨hU70, dAi 5 rfl rfl (dDone (by kernel_rfl) (xN (hK46 _ _ (wp_ret (ret2 (.agg #[(.bool gr_61), (.slice Ar_61 nr_61 cr_61), (.slice Arv_61 nrv_61 crv_61)]) (.int .i64 (0)) Try.results85 (resB [(.bool gr_61), (.slice Ar_61 nr_61 cr_61), (.slice Arv_61 nrv_61 crv_61)] agg64 sz64 rfl hB72) (resT rfl) ?_)))))⟩
    have h73 := (hr_61.frmB hU70 q3)
    have h74 := (hrv_61.frmB hU70 q3)
    have hR75 := (((((hR34.trans hE38).rx hU43).xr hE48).xr hE56).xr hE63).tr hU70
    exact ⟨(gr_61), Ar_61, nr_61, cr_61, dr_61, Arv_61, nrv_61, crv_61, drv_61, (0), rfl, (Frm.mono hR75 q4), (NatR.sub h73 q5), (NatR.sub h74 q5), (make_math x_61 (.inr ⟨v_36, by omega⟩)), p_61, cn_61, cv_61, co_61, rfl, (by omega), (by omega)⟩
  · refine sV (evEql false rfl rfl (dF hc31)) (sAb rfl (sK hK30 (cF rfl (wp_skip (bN (xN (hK20 _ _ (wp_seq_k fun K76 hK76 => ?_))))))))
    have hsr := sign_cases (zval gd dd)
    have hab := natAbs_val gd dd
    refine dBegin (fun b => b = g14) mixed (fun w77 hE78 hz79 => ?_)
    have hR80 := ((hE11.trans hE17).trans hE27).trans hE78
    have hB81 := (hB7.ext hR80)
    refine dV 0 rfl (fun _ hf => evLoadAB [(.bool gn), (.slice An nn cn)] agg46 sz46 rfl (hB81.frm hf q1) rfl) ?_
    have hR82 := hE27.trans hE78
    have hB83 := (hB22.ext hR82)
    refine dV 1 rfl (fun _ hf => evLoadAB [(.bool gd), (.slice Ad nd cd)] agg46 sz46 rfl (hB83.frm hf q1) rfl) ?_
    have h84 := (h24.ext hR82)
    refine dOp 2 rfl rfl (by kernel_rfl) (oCall rfl call77 (integer_Abs h84 (by omega)) rfl ?_)
    rintro _ w86 ⟨gr_85, Ar_85, nr_85, cr_85, dr_85, rfl, hE87, hr_85, v_85, cn_85, le_85⟩
    refine ⟨(Frm.of_ext hE87), ?_⟩
    have hz88 := hE87.size
    have ⟨lr_85, kr_85, mr_85⟩ := hr_85.lkm
    have hda : zval gr_85 dr_85 = (val dd : Int) := v_85
    have hR90 := ((hR23.trans hE27).trans hE78).trans hE87
    have h91 := (hn.ext hR90)
    refine dOp 3 rfl rfl (by kernel_rfl) (oCall rfl call93 (rational_reduce h91 hr_85 (by omega) (by omega) (by omega)) rfl ?_)
    rintro _ w93 ⟨gr_92, Ar_92, nr_92, cr_92, dr_92, Arv_92, nrv_92, crv_92, drv_92, rfl, hE94, hr_92, hrv_92, x_92, p_92, cn_92, cv_92, co_92, bn_92, bd_92⟩
    refine ⟨(Frm.of_ext hE94), ?_⟩
    have hz95 := hE94.size
    have ⟨lr_92, kr_92, mr_92⟩ := hr_92.lkm
    have ⟨lrv_92, krv_92, mrv_92⟩ := hrv_92.lkm
    have hR98 := (hR82.trans hE87).trans hE94
    have hB99 := (hB19.ext hR98)
    refine dOp 4 rfl rfl (by kernel_rfl) (oStore [(.bool gr_92), (.slice Ar_92 nr_92 cr_92), (.slice Arv_92 nrv_92 crv_92)] rfl rfl rfl sz64 rfl hB99 (Nat.le_of_ble_eq_true rfl) (fun w100 hU101 hz102 hB103 => ?_))
    replace hB103 : Blk w100 g14 64 [(.bool gr_92), (.slice Ar_92 nr_92 cr_92), (.slice Arv_92 nrv_92 crv_92)] := hB103
    refine ⟨hU101, dAi 5 rfl rfl (dDone (by kernel_rfl) (xN (hK76 _ _ (wp_ret (ret2 (.agg #[(.bool gr_92), (.slice Ar_92 nr_92 cr_92), (.slice Arv_92 nrv_92 crv_92)]) (.int .i64 (0)) Try.results85 (resB [(.bool gr_92), (.slice Ar_92 nr_92 cr_92), (.slice Arv_92 nrv_92 crv_92)] agg64 sz64 rfl hB103) (resT rfl) ?_)))))⟩
    have h104 := (hr_92.frmB hU101 q3)
    have h105 := (hrv_92.frmB hU101 q3)
    have hR106 := (hR90.trans hE94).rx hU101
    exact ⟨(gr_92), Ar_92, nr_92, cr_92, dr_92, Arv_92, nrv_92, crv_92, drv_92, (0), rfl, (Frm.mono hR106 q4), (NatR.sub h104 q5), (NatR.sub h105 q5), (make_math x_92 (.inl ⟨rfl, by omega⟩)), p_92, cn_92, cv_92, co_92, rfl, (by omega), (by omega)⟩

theorem rational_Normal {w : World} {ga : Bool} {Sa : Nat → Prop} {Aa : Option Addr} {na ca : Nat} {da : List Nat} {Sav : Nat → Prop} {Aav : Option Addr} {nav cav : Nat} {dav : List Nat} (ha : NatR w Sa Aa na ca da) (hav : NatR w Sav Aav nav cav dav) (hna : na ≤ 8589934592) (hnav : nav ≤ 8589934592) : Calls Try.prog 107 #[(.agg #[(.bool ga), (.slice Aa na ca), (.slice Aav nav cav)])] w (Ret fun v w' => ∃ (gr : Bool) (Ar : Option Addr) (nr : Nat) (cr : Nat) (dr : List Nat) (Arv : Option Addr) (nrv : Nat) (crv : Nat) (drv : List Nat), v = (.agg #[(.bool gr), (.slice Ar nr cr), (.slice Arv nrv crv)]) ∧ Ext w w' ∧ NatR w' (fun b => w.heap.size ≤ b) Ar nr cr dr ∧ NatR w' (fun b => w.heap.size ≤ b) Arv nrv crv drv ∧ (zval gr dr * (rden (val dav) : Int) = rnum (zval ga da) (val dav) * (val drv : Int)) ∧ (0 < val drv) ∧ (ICan gr dr) ∧ (Canon isZ drv) ∧ (Nat.gcd (val dr) (val drv) = 1) ∧ (nr ≤ na + 1) ∧ (nrv ≤ nav + 3)) := by
  have ⟨la, ka, ma⟩ := ha.lkm
  replace ha := ha.low
  have ⟨lav, kav, mav⟩ := hav.lkm
  replace hav := hav.low
  refine enter Try.func107 rfl Try.ntmps107 rfl (rS fun K1 hK1 => sO (oBox [(.bool ga), (.slice Aa na ca), (.slice Aav nav cav)] rfl rfl (fun g2 w3 hg4 hE5 hz6 hB7 => sO (oAlloc [(.bool false), (.slice none 0 0), (.slice none 0 0)] zero64 rfl (fun g8 w9 hg10 hE11 hz12 hB13 => sK hK1 (rS fun K14 hK14 => ?_))))))
  have hB15 := (hB7.ext hE11)
  refine sV (evLoadAB [(.bool ga), (.slice Aa na ca), (.slice Aav nav cav)] agg64 sz64 rfl hB15 rfl) ?_
  have hR16 := hE5.trans hE11
  have h17 := (ha.ext hR16)
  have h18 := (hav.ext hR16)
  refine sO (oCall rfl call92 (rational_parts h17 h18) rfl ?_)
  rintro _ w20 ⟨gn_19, An_19, nn_19, cn_19, dn_19, gd_19, Ad_19, nd_19, cd_19, dd_19, rfl, hE21, hn_19, hd_19, vn_19, vd_19, bn_19, bd_19⟩
  have hz22 := hE21.size
  have ⟨ln_19, kn_19, mn_19⟩ := hn_19.lkm
  replace hn_19 := hn_19.low
  have ⟨ld_19, kd_19, md_19⟩ := hd_19.lkm
  replace hd_19 := hd_19.low
  have hdp_19 : 0 < zval gd_19 dd_19 := by rw [vd_19]; have h := rden_pos (val dav); omega
  refine sV (v := (.agg #[(.bool gn_19), (.slice An_19 nn_19 cn_19)])) (rfl) (sV (v := (.agg #[(.bool gd_19), (.slice Ad_19 nd_19 cd_19)])) (rfl) (sO (oCall rfl call93 (rational_reduce hn_19 hd_19 (by omega) (by omega) (by omega)) rfl ?_)))
  rintro _ w26 ⟨gr_25, Ar_25, nr_25, cr_25, dr_25, Arv_25, nrv_25, crv_25, drv_25, rfl, hE27, hr_25, hrv_25, x_25, p_25, cn_25, cv_25, co_25, bn_25, bd_25⟩
  have hz28 := hE27.size
  have ⟨lr_25, kr_25, mr_25⟩ := hr_25.lkm
  have ⟨lrv_25, krv_25, mrv_25⟩ := hrv_25.lkm
  have hR31 := hE21.trans hE27
  have hB32 := (hB13.ext hR31)
  refine sO (oStore [(.bool gr_25), (.slice Ar_25 nr_25 cr_25), (.slice Arv_25 nrv_25 crv_25)] rfl rfl rfl sz64 rfl hB32 (Nat.le_of_ble_eq_true rfl) (fun w33 hU34 hz35 hB36 => ?_))
  replace hB36 : Blk w33 g8 64 [(.bool gr_25), (.slice Ar_25 nr_25 cr_25), (.slice Arv_25 nrv_25 crv_25)] := hB36
  refine sK hK14 (wp_ret (ret1 (.agg #[(.bool gr_25), (.slice Ar_25 nr_25 cr_25), (.slice Arv_25 nrv_25 crv_25)]) Try.results107 (resB [(.bool gr_25), (.slice Ar_25 nr_25 cr_25), (.slice Arv_25 nrv_25 crv_25)] agg64 sz64 rfl hB36) ?_))
  have h37 := (hr_25.frmB hU34 q3)
  have h38 := (hrv_25.frmB hU34 q3)
  have hR39 := ((hR16.trans hE21).trans hE27).rx hU34
  exact ⟨(gr_25), Ar_25, nr_25, cr_25, dr_25, Arv_25, nrv_25, crv_25, drv_25, rfl, (Frm.mono hR39 q4), (NatR.sub h37 q5), (NatR.sub h38 q5), (by rw [← vn_19, ← vd_19]; exact x_25), p_25, cn_25, cv_25, co_25, (by omega), (by omega)⟩

theorem rational_Cmp {w : World} {ga : Bool} {Sa : Nat → Prop} {Aa : Option Addr} {na ca : Nat} {da : List Nat} {Sav : Nat → Prop} {Aav : Option Addr} {nav cav : Nat} {dav : List Nat} {gb : Bool} {Sb : Nat → Prop} {Ab : Option Addr} {nb cb : Nat} {db : List Nat} {Sbv : Nat → Prop} {Abv : Option Addr} {nbv cbv : Nat} {dbv : List Nat} (ha : NatR w Sa Aa na ca da) (hav : NatR w Sav Aav nav cav dav) (hb : NatR w Sb Ab nb cb db) (hbv : NatR w Sbv Abv nbv cbv dbv) (hna : na ≤ 8589934592) (hnav : nav ≤ 8589934592) (hnb : nb ≤ 8589934592) (hnbv : nbv ≤ 8589934592) : Calls Try.prog 60 #[(.agg #[(.bool ga), (.slice Aa na ca), (.slice Aav nav cav)]), (.agg #[(.bool gb), (.slice Ab nb cb), (.slice Abv nbv cbv)])] w (Ret fun v w' => ∃ (xr : Int), v = (.int .i64 (xr)) ∧ Ext w w' ∧ (xr = cmpZ (rnum (zval ga da) (val dav) * (rden (val dbv) : Int)) (rnum (zval gb db) (val dbv) * (rden (val dav) : Int)))) := by
  have ⟨la, ka, ma⟩ := ha.lkm
  replace ha := ha.low
  have ⟨lav, kav, mav⟩ := hav.lkm
  replace hav := hav.low
  have ⟨lb, kb, mb⟩ := hb.lkm
  replace hb := hb.low
  have ⟨lbv, kbv, mbv⟩ := hbv.lkm
  replace hbv := hbv.low
  refine enter Try.func60 rfl Try.ntmps60 rfl (rS fun K1 hK1 => sO (oBox [(.bool ga), (.slice Aa na ca), (.slice Aav nav cav)] rfl rfl (fun g2 w3 hg4 hE5 hz6 hB7 => sO (oBox [(.bool gb), (.slice Ab nb cb), (.slice Abv nbv cbv)] rfl rfl (fun g8 w9 hg10 hE11 hz12 hB13 => sAi rfl (sK hK1 (rS fun K14 hK14 => ?_)))))))
  have hB15 := (hB7.ext hE11)
  refine sV (evLoadAB [(.bool ga), (.slice Aa na ca), (.slice Aav nav cav)] agg64 sz64 rfl hB15 rfl) ?_
  have hR16 := hE5.trans hE11
  have h17 := (ha.ext hR16)
  have h18 := (hav.ext hR16)
  refine sO (oCall rfl call92 (rational_parts h17 h18) rfl ?_)
  rintro _ w20 ⟨gn_19, An_19, nn_19, cn_19, dn_19, gd_19, Ad_19, nd_19, cd_19, dd_19, rfl, hE21, hn_19, hd_19, vn_19, vd_19, bn_19, bd_19⟩
  have hz22 := hE21.size
  have ⟨ln_19, kn_19, mn_19⟩ := hn_19.lkm
  replace hn_19 := hn_19.low
  have ⟨ld_19, kd_19, md_19⟩ := hd_19.lkm
  replace hd_19 := hd_19.low
  have hdp_19 : 0 < zval gd_19 dd_19 := by rw [vd_19]; have h := rden_pos (val dav); omega
  refine sV (v := (.tuple #[(.agg #[(.bool gn_19), (.slice An_19 nn_19 cn_19)]), (.agg #[(.bool gd_19), (.slice Ad_19 nd_19 cd_19)])])) (rfl) (sV (v := (.agg #[(.bool gn_19), (.slice An_19 nn_19 cn_19)])) (rfl) (sV (v := (.agg #[(.bool gd_19), (.slice Ad_19 nd_19 cd_19)])) (rfl) (sO (oAlloc [(.bool false), (.slice none 0 0)] zero46 rfl (fun g25 w26 hg27 hE28 hz29 hB30 => sO (oAlloc [(.bool false), (.slice none 0 0)] zero46 rfl (fun g31 w32 hg33 hE34 hz35 hB36 => ?_)))))))
  have hB37 := (hB30.ext hE34)
  refine sO (oStore [(.bool gn_19), (.slice An_19 nn_19 cn_19)] rfl rfl rfl sz46 rfl hB37 (Nat.le_of_ble_eq_true rfl) (fun w38 hU39 hz40 hB41 => ?_))
  replace hB41 : Blk w38 g25 46 [(.bool gn_19), (.slice An_19 nn_19 cn_19)] := hB41
  have hB42 := (hB36.frm hU39 q1)
  refine sO (oStore [(.bool gd_19), (.slice Ad_19 nd_19 cd_19)] rfl rfl rfl sz46 rfl hB42 (Nat.le_of_ble_eq_true rfl) (fun w43 hU44 hz45 hB46 => ?_))
  replace hB46 : Blk w43 g31 46 [(.bool gd_19), (.slice Ad_19 nd_19 cd_19)] := hB46
  refine sK hK14 (rS fun K47 hK47 => ?_)
  have hR48 := (((hE21.trans hE28).trans hE34).rx hU39).tr hU44
  have hB49 := (hB13.frm hR48 q1)
  refine sV (evLoadAB [(.bool gb), (.slice Ab nb cb), (.slice Abv nbv cbv)] agg64 sz64 rfl hB49 rfl) ?_
  have hR50 := ((((hR16.trans hE21).trans hE28).trans hE34).rx hU39).tr hU44
  have h51 := (hb.frmB hR50 q3)
  have h52 := (hbv.frmB hR50 q3)
  refine sO (oCall rfl call92 (rational_parts h51 h52) rfl ?_)
  rintro _ w54 ⟨gn_53, An_53, nn_53, cn_53, dn_53, gd_53, Ad_53, nd_53, cd_53, dd_53, rfl, hE55, hn_53, hd_53, vn_53, vd_53, bn_53, bd_53⟩
  have hz56 := hE55.size
  have ⟨ln_53, kn_53, mn_53⟩ := hn_53.lkm
  replace hn_53 := hn_53.low
  have ⟨ld_53, kd_53, md_53⟩ := hd_53.lkm
  replace hd_53 := hd_53.low
  have hdp_53 : 0 < zval gd_53 dd_53 := by rw [vd_53]; have h := rden_pos (val dbv); omega
  refine sV (v := (.tuple #[(.agg #[(.bool gn_53), (.slice An_53 nn_53 cn_53)]), (.agg #[(.bool gd_53), (.slice Ad_53 nd_53 cd_53)])])) (rfl) (sV (v := (.agg #[(.bool gn_53), (.slice An_53 nn_53 cn_53)])) (rfl) (sV (v := (.agg #[(.bool gd_53), (.slice Ad_53 nd_53 cd_53)])) (rfl) (sO (oAlloc [(.bool false), (.slice none 0 0)] zero46 rfl (fun g59 w60 hg61 hE62 hz63 hB64 => sO (oAlloc [(.bool false), (.slice none 0 0)] zero46 rfl (fun g65 w66 hg67 hE68 hz69 hB70 => ?_)))))))
  have hB71 := (hB64.ext hE68)
  refine sO (oStore [(.bool gn_53), (.slice An_53 nn_53 cn_53)] rfl rfl rfl sz46 rfl hB71 (Nat.le_of_ble_eq_true rfl) (fun w72 hU73 hz74 hB75 => ?_))
  replace hB75 : Blk w72 g59 46 [(.bool gn_53), (.slice An_53 nn_53 cn_53)] := hB75
  have hB76 := (hB70.frm hU73 q1)
  refine sO (oStore [(.bool gd_53), (.slice Ad_53 nd_53 cd_53)] rfl rfl rfl sz46 rfl hB76 (Nat.le_of_ble_eq_true rfl) (fun w77 hU78 hz79 hB80 => ?_))
  replace hB80 : Blk w77 g65 46 [(.bool gd_53), (.slice Ad_53 nd_53 cd_53)] := hB80
  refine sK hK47 (wp_seq_k fun K81 hK81 => dBegin (fun _ => False) mixed (fun w82 hE83 hz84 => ?_))
  have hR85 := (((((hU44.xr hE55).xr hE62).xr hE68).tr hU73).tr hU78).xr hE83
  have hB86 := (hB41.frm hR85 q1)
  refine dV 0 rfl (fun _ hf => evLoadAB [(.bool gn_19), (.slice An_19 nn_19 cn_19)] agg46 sz46 rfl (hB86.ext hf) rfl) ?_
  have hB87 := (hB80.ext hE83)
  refine dV 1 rfl (fun _ hf => evLoadAB [(.bool gd_53), (.slice Ad_53 nd_53 cd_53)] agg46 sz46 rfl (hB87.ext hf) rfl) ?_
  have hR88 := hU78.xr hE83
  have hB89 := (hB75.frm hR88 q1)
  refine dV 3 rfl (fun _ hf => evLoadAB [(.bool gn_53), (.slice An_53 nn_53 cn_53)] agg46 sz46 rfl (hB89.ext hf) rfl) ?_
  have hR90 := ((((hE55.trans hE62).trans hE68).rx hU73).tr hU78).xr hE83
  have hB91 := (hB46.frm hR90 q1)
  refine dV 4 rfl (fun _ hf => evLoadAB [(.bool gd_19), (.slice Ad_19 nd_19 cd_19)] agg46 sz46 rfl (hB91.ext hf) rfl) ?_
  have hR92 := ((((((((hE28.trans hE34).rx hU39).tr hU44).xr hE55).xr hE62).xr hE68).tr hU73).tr hU78).xr hE83
  have h93 := (hn_19.frmB hR92 q3)
  have hR94 := (((hE62.trans hE68).rx hU73).tr hU78).xr hE83
  have h95 := (hd_53.frmB hR94 q3)
  refine dOp 2 rfl rfl (by kernel_rfl) (oCall rfl call69 (integer_Mul h93 h95 (by omega)) rfl ?_)
  rintro _ w97 ⟨gr_96, Ar_96, nr_96, cr_96, dr_96, rfl, hE98, hr_96, v_96, cn_96, le_96⟩
  refine ⟨(Frm.of_ext hE98), ?_⟩
  have hz99 := hE98.size
  have ⟨lr_96, kr_96, mr_96⟩ := hr_96.lkm
  have hR101 := hR94.xr hE98
  have h102 := (hn_53.frmB hR101 q3)
  have hR103 := hR92.xr hE98
  have h104 := (hd_19.frmB hR103 q3)
  refine dOp 5 rfl rfl (by kernel_rfl) (oCall rfl call69 (integer_Mul h102 h104 (by omega)) rfl ?_)
  rintro _ w106 ⟨gr_105, Ar_105, nr_105, cr_105, dr_105, rfl, hE107, hr_105, v_105, cn_105, le_105⟩
  refine ⟨(Frm.of_ext hE107), ?_⟩
  have hz108 := hE107.size
  have ⟨lr_105, kr_105, mr_105⟩ := hr_105.lkm
  have h110 := (hr_96.ext hE107)
  refine dOp 6 rfl rfl (by kernel_rfl) (oCall rfl call82 (integer_Cmp h110 hr_105) rfl ?_)
  rintro _ w112 ⟨xr_111, rfl, hE113, e_111⟩
  refine ⟨(Frm.of_ext hE113), ?_⟩
  have hz114 := hE113.size
  refine dAi 7 rfl rfl (dDone (by kernel_rfl) (xN (hK81 _ _ (wp_ret (ret1 (.int .i64 (xr_111)) Try.results60 (resT rfl) ?_)))))
  have hR115 := ((((((((hR50.xr hE55).xr hE62).xr hE68).tr hU73).tr hU78).xr hE83).xr hE98).xr hE107).xr hE113
  exact ⟨(xr_111), rfl, (Frm.mono hR115 q4), (by rw [e_111, v_96, v_105, vn_19, vn_53, vd_19, vd_53])⟩

theorem rational_Add {w : World} {ga : Bool} {Sa : Nat → Prop} {Aa : Option Addr} {na ca : Nat} {da : List Nat} {Sav : Nat → Prop} {Aav : Option Addr} {nav cav : Nat} {dav : List Nat} {gb : Bool} {Sb : Nat → Prop} {Ab : Option Addr} {nb cb : Nat} {db : List Nat} {Sbv : Nat → Prop} {Abv : Option Addr} {nbv cbv : Nat} {dbv : List Nat} (ha : NatR w Sa Aa na ca da) (hav : NatR w Sav Aav nav cav dav) (hb : NatR w Sb Ab nb cb db) (hbv : NatR w Sbv Abv nbv cbv dbv) (hna : na ≤ 8589934592) (hnav : nav ≤ 8589934592) (hnb : nb ≤ 8589934592) (hnbv : nbv ≤ 8589934592) : Calls Try.prog 61 #[(.agg #[(.bool ga), (.slice Aa na ca), (.slice Aav nav cav)]), (.agg #[(.bool gb), (.slice Ab nb cb), (.slice Abv nbv cbv)])] w (Ret fun v w' => ∃ (gr : Bool) (Ar : Option Addr) (nr : Nat) (cr : Nat) (dr : List Nat) (Arv : Option Addr) (nrv : Nat) (crv : Nat) (drv : List Nat), v = (.agg #[(.bool gr), (.slice Ar nr cr), (.slice Arv nrv crv)]) ∧ Ext w w' ∧ NatR w' (fun b => w.heap.size ≤ b) Ar nr cr dr ∧ NatR w' (fun b => w.heap.size ≤ b) Arv nrv crv drv ∧ (zval gr dr * ((rden (val dav) : Int) * (rden (val dbv) : Int)) = (rnum (zval ga da) (val dav) * (rden (val dbv) : Int) + rnum (zval gb db) (val dbv) * (rden (val dav) : Int)) * (val drv : Int)) ∧ (0 < val drv) ∧ (ICan gr dr) ∧ (Canon isZ drv) ∧ (Nat.gcd (val dr) (val drv) = 1) ∧ (nr ≤ na + nb + nav + nbv + 8) ∧ (nrv ≤ nav + nbv + 8)) := by
  have ⟨la, ka, ma⟩ := ha.lkm
  replace ha := ha.low
  have ⟨lav, kav, mav⟩ := hav.lkm
  replace hav := hav.low
  have ⟨lb, kb, mb⟩ := hb.lkm
  replace hb := hb.low
  have ⟨lbv, kbv, mbv⟩ := hbv.lkm
  replace hbv := hbv.low
  refine enter Try.func61 rfl Try.ntmps61 rfl (rS fun K1 hK1 => sO (oBox [(.bool ga), (.slice Aa na ca), (.slice Aav nav cav)] rfl rfl (fun g2 w3 hg4 hE5 hz6 hB7 => sO (oBox [(.bool gb), (.slice Ab nb cb), (.slice Abv nbv cbv)] rfl rfl (fun g8 w9 hg10 hE11 hz12 hB13 => sO (oAlloc [(.bool false), (.slice none 0 0), (.slice none 0 0)] zero64 rfl (fun g14 w15 hg16 hE17 hz18 hB19 => sK hK1 (rS fun K20 hK20 => ?_))))))))
  have hR21 := hE11.trans hE17
  have hB22 := (hB7.ext hR21)
  refine sV (evLoadAB [(.bool ga), (.slice Aa na ca), (.slice Aav nav cav)] agg64 sz64 rfl hB22 rfl) ?_
  have hR23 := (hE5.trans hE11).trans hE17
  have h24 := (ha.ext hR23)
  have h25 := (hav.ext hR23)
  refine sO (oCall rfl call92 (rational_parts h24 h25) rfl ?_)
  rintro _ w27 ⟨gn_26, An_26, nn_26, cn_26, dn_26, gd_26, Ad_26, nd_26, cd_26, dd_26, rfl, hE28, hn_26, hd_26, vn_26, vd_26, bn_26, bd_26⟩
  have hz29 := hE28.size
  have ⟨ln_26, kn_26, mn_26⟩ := hn_26.lkm
  replace hn_26 := hn_26.low
  have ⟨ld_26, kd_26, md_26⟩ := hd_26.lkm
  replace hd_26 := hd_26.low
  have hdp_26 : 0 < zval gd_26 dd_26 := by rw [vd_26]; have h := rden_pos (val dav); omega
  refine sV (v := (.tuple #[(.agg #[(.bool gn_26), (.slice An_26 nn_26 cn_26)]), (.agg #[(.bool gd_26), (.slice Ad_26 nd_26 cd_26)])])) (rfl) (sV (v := (.agg #[(.bool gn_26), (.slice An_26 nn_26 cn_26)])) (rfl) (sV (v := (.agg #[(.bool gd_26), (.slice Ad_26 nd_26 cd_26)])) (rfl) (sO (oAlloc [(.bool false), (.slice none 0 0)] zero46 rfl (fun g32 w33 hg34 hE35 hz36 hB37 => sO (oAlloc [(.bool false), (.slice none 0 0)] zero46 rfl (fun g38 w39 hg40 hE41 hz42 hB43 => ?_)))))))
  have hB44 := (hB37.ext hE41)
  refine sO (oStore [(.bool gn_26), (.slice An_26 nn_26 cn_26)] rfl rfl rfl sz46 rfl hB44 (Nat.le_of_ble_eq_true rfl) (fun w45 hU46 hz47 hB48 => ?_))
  replace hB48 : Blk w45 g32 46 [(.bool gn_26), (.slice An_26 nn_26 cn_26)] := hB48
  have hB49 := (hB43.frm hU46 q1)
  refine sO (oStore [(.bool gd_26), (.slice Ad_26 nd_26 cd_26)] rfl rfl rfl sz46 rfl hB49 (Nat.le_of_ble_eq_true rfl) (fun w50 hU51 hz52 hB53 => ?_))
  replace hB53 : Blk w50 g38 46 [(.bool gd_26), (.slice Ad_26 nd_26 cd_26)] := hB53
  refine sK hK20 (rS fun K54 hK54 => ?_)
  have hR55 := ((((hE17.trans hE28).trans hE35).trans hE41).rx hU46).tr hU51
  have hB56 := (hB13.frm hR55 q1)
  refine sV (evLoadAB [(.bool gb), (.slice Ab nb cb), (.slice Abv nbv cbv)] agg64 sz64 rfl hB56 rfl) ?_
  have hR57 := ((((hR23.trans hE28).trans hE35).trans hE41).rx hU46).tr hU51
  have h58 := (hb.frmB hR57 q3)
  have h59 := (hbv.frmB hR57 q3)
  refine sO (oCall rfl call92 (rational_parts h58 h59) rfl ?_)
  rintro _ w61 ⟨gn_60, An_60, nn_60, cn_60, dn_60, gd_60, Ad_60, nd_60, cd_60, dd_60, rfl, hE62, hn_60, hd_60, vn_60, vd_60, bn_60, bd_60⟩
  have hz63 := hE62.size
  have ⟨ln_60, kn_60, mn_60⟩ := hn_60.lkm
  replace hn_60 := hn_60.low
  have ⟨ld_60, kd_60, md_60⟩ := hd_60.lkm
  replace hd_60 := hd_60.low
  have hdp_60 : 0 < zval gd_60 dd_60 := by rw [vd_60]; have h := rden_pos (val dbv); omega
  refine sV (v := (.tuple #[(.agg #[(.bool gn_60), (.slice An_60 nn_60 cn_60)]), (.agg #[(.bool gd_60), (.slice Ad_60 nd_60 cd_60)])])) (rfl) (sV (v := (.agg #[(.bool gn_60), (.slice An_60 nn_60 cn_60)])) (rfl) (sV (v := (.agg #[(.bool gd_60), (.slice Ad_60 nd_60 cd_60)])) (rfl) (sO (oAlloc [(.bool false), (.slice none 0 0)] zero46 rfl (fun g66 w67 hg68 hE69 hz70 hB71 => sO (oAlloc [(.bool false), (.slice none 0 0)] zero46 rfl (fun g72 w73 hg74 hE75 hz76 hB77 => ?_)))))))
  have hB78 := (hB71.ext hE75)
  refine sO (oStore [(.bool gn_60), (.slice An_60 nn_60 cn_60)] rfl rfl rfl sz46 rfl hB78 (Nat.le_of_ble_eq_true rfl) (fun w79 hU80 hz81 hB82 => ?_))
  replace hB82 : Blk w79 g66 46 [(.bool gn_60), (.slice An_60 nn_60 cn_60)] := hB82
  have hB83 := (hB77.frm hU80 q1)
  refine sO (oStore [(.bool gd_60), (.slice Ad_60 nd_60 cd_60)] rfl rfl rfl sz46 rfl hB83 (Nat.le_of_ble_eq_true rfl) (fun w84 hU85 hz86 hB87 => ?_))
  replace hB87 : Blk w84 g72 46 [(.bool gd_60), (.slice Ad_60 nd_60 cd_60)] := hB87
  refine sK hK54 (wp_seq_k fun K88 hK88 => dBegin (fun b => b = g14) mixed (fun w89 hE90 hz91 => ?_))
  have hR92 := (((((hU51.xr hE62).xr hE69).xr hE75).tr hU80).tr hU85).xr hE90
  have hB93 := (hB48.frm hR92 q1)
  refine dV 0 rfl (fun _ hf => evLoadAB [(.bool gn_26), (.slice An_26 nn_26 cn_26)] agg46 sz46 rfl (hB93.frm hf q1) rfl) ?_
  have hB94 := (hB87.ext hE90)
  refine dV 1 rfl (fun _ hf => evLoadAB [(.bool gd_60), (.slice Ad_60 nd_60 cd_60)] agg46 sz46 rfl (hB94.frm hf q1) rfl) ?_
  have hR95 := hU85.xr hE90
  have hB96 := (hB82.frm hR95 q1)
  refine dV 3 rfl (fun _ hf => evLoadAB [(.bool gn_60), (.slice An_60 nn_60 cn_60)] agg46 sz46 rfl (hB96.frm hf q1) rfl) ?_
  have hR97 := ((((hE62.trans hE69).trans hE75).rx hU80).tr hU85).xr hE90
  have hB98 := (hB53.frm hR97 q1)
  refine dV 4 rfl (fun _ hf => evLoadAB [(.bool gd_26), (.slice Ad_26 nd_26 cd_26)] agg46 sz46 rfl (hB98.frm hf q1) rfl) (dV 7 rfl (fun _ hf => evLoadAB [(.bool gd_26), (.slice Ad_26 nd_26 cd_26)] agg46 sz46 rfl (hB98.frm hf q1) rfl) (dV 8 rfl (fun _ hf => evLoadAB [(.bool gd_60), (.slice Ad_60 nd_60 cd_60)] agg46 sz46 rfl (hB94.frm hf q1) rfl) ?_))
  have hR99 := ((((((((hE35.trans hE41).rx hU46).tr hU51).xr hE62).xr hE69).xr hE75).tr hU80).tr hU85).xr hE90
  have h100 := (hn_26.frmB hR99 q3)
  have hR101 := (((hE69.trans hE75).rx hU80).tr hU85).xr hE90
  have h102 := (hd_60.frmB hR101 q3)
  refine dOp 2 rfl rfl (by kernel_rfl) (oCall rfl call69 (integer_Mul h100 h102 (by omega)) rfl ?_)
  rintro _ w104 ⟨gr_103, Ar_103, nr_103, cr_103, dr_103, rfl, hE105, hr_103, v_103, cn_103, le_103⟩
  refine ⟨(Frm.of_ext hE105), ?_⟩
  have hz106 := hE105.size
  have ⟨lr_103, kr_103, mr_103⟩ := hr_103.lkm
  have hR108 := hR101.xr hE105
  have h109 := (hn_60.frmB hR108 q3)
  have hR110 := hR99.xr hE105
  have h111 := (hd_26.frmB hR110 q3)
  refine dOp 5 rfl rfl (by kernel_rfl) (oCall rfl call69 (integer_Mul h109 h111 (by omega)) rfl ?_)
  rintro _ w113 ⟨gr_112, Ar_112, nr_112, cr_112, dr_112, rfl, hE114, hr_112, v_112, cn_112, le_112⟩
  refine ⟨(Frm.of_ext hE114), ?_⟩
  have hz115 := hE114.size
  have ⟨lr_112, kr_112, mr_112⟩ := hr_112.lkm
  have h117 := (hr_103.ext hE114)
  refine dOp 6 rfl rfl (by kernel_rfl) (oCall rfl call56 (integer_Add h117 hr_112 (by omega) (by omega)) rfl ?_)
  rintro _ w119 ⟨gr_118, Ar_118, nr_118, cr_118, dr_118, rfl, hE120, hr_118, v_118, cn_118, le_118⟩
  refine ⟨(Frm.of_ext hE120), ?_⟩
  have hz121 := hE120.size
  have ⟨lr_118, kr_118, mr_118⟩ := hr_118.lkm
  have hR123 := hE114.trans hE120
  have h124 := (h111.ext hR123)
  have hR125 := (hE105.trans hE114).trans hE120
  have h126 := (h102.ext hR125)
  refine dOp 9 rfl rfl (by kernel_rfl) (oCall rfl call69 (integer_Mul h124 h126 (by omega)) rfl ?_)
  rintro _ w128 ⟨gr_127, Ar_127, nr_127, cr_127, dr_127, rfl, hE129, hr_127, v_127, cn_127, le_127⟩
  refine ⟨(Frm.of_ext hE129), ?_⟩
  have hz130 := hE129.size
  have ⟨lr_127, kr_127, mr_127⟩ := hr_127.lkm
  have hdd : 0 < zval gr_127 dr_127 := by rw [v_127]; exact Int.mul_pos hdp_26 hdp_60
  have h132 := (hr_118.ext hE129)
  refine dOp 10 rfl rfl (by kernel_rfl) (oCall rfl call93 (rational_reduce h132 hr_127 (by omega) (by omega) (by omega)) rfl ?_)
  rintro _ w134 ⟨gr_133, Ar_133, nr_133, cr_133, dr_133, Arv_133, nrv_133, crv_133, drv_133, rfl, hE135, hr_133, hrv_133, x_133, p_133, cn_133, cv_133, co_133, bn_133, bd_133⟩
  refine ⟨(Frm.of_ext hE135), ?_⟩
  have hz136 := hE135.size
  have ⟨lr_133, kr_133, mr_133⟩ := hr_133.lkm
  have ⟨lrv_133, krv_133, mrv_133⟩ := hrv_133.lkm
  have hR139 := ((((((((((((((hE28.trans hE35).trans hE41).rx hU46).tr hU51).xr hE62).xr hE69).xr hE75).tr hU80).tr hU85).xr hE90).xr hE105).xr hE114).xr hE120).xr hE129).xr hE135
  have hB140 := (hB19.frm hR139 q1)
  refine dOp 11 rfl rfl (by kernel_rfl) (oStore [(.bool gr_133), (.slice Ar_133 nr_133 cr_133), (.slice Arv_133 nrv_133 crv_133)] rfl rfl rfl sz64 rfl hB140 (Nat.le_of_ble_eq_true rfl) (fun w141 hU142 hz143 hB144 => ?_))
  replace hB144 : Blk w141 g14 64 [(.bool gr_133), (.slice Ar_133 nr_133 cr_133), (.slice Arv_133 nrv_133 crv_133)] := hB144
  refine ⟨hU142, dDone (by kernel_rfl) (xN (hK88 _ _ (wp_ret (ret1 (.agg #[(.bool gr_133), (.slice Ar_133 nr_133 cr_133), (.slice Arv_133 nrv_133 crv_133)]) Try.results61 (resB [(.bool gr_133), (.slice Ar_133 nr_133 cr_133), (.slice Arv_133 nrv_133 crv_133)] agg64 sz64 rfl hB144) ?_))))⟩
  have h145 := (hr_133.frmB hU142 q3)
  have h146 := (hrv_133.frmB hU142 q3)
  have hR147 := (((((((((((hR57.xr hE62).xr hE69).xr hE75).tr hU80).tr hU85).xr hE90).xr hE105).xr hE114).xr hE120).xr hE129).xr hE135).tr hU142
  exact ⟨(gr_133), Ar_133, nr_133, cr_133, dr_133, Arv_133, nrv_133, crv_133, drv_133, rfl, (Frm.mono hR147 q4), (NatR.sub h145 q5), (NatR.sub h146 q5), (by rw [← vd_26, ← vd_60, ← vn_26, ← vn_60, ← v_127, ← v_103, ← v_112, ← v_118]; exact x_133), p_133, cn_133, cv_133, co_133, (by omega), (by omega)⟩

theorem rational_Mul {w : World} {ga : Bool} {Sa : Nat → Prop} {Aa : Option Addr} {na ca : Nat} {da : List Nat} {Sav : Nat → Prop} {Aav : Option Addr} {nav cav : Nat} {dav : List Nat} {gb : Bool} {Sb : Nat → Prop} {Ab : Option Addr} {nb cb : Nat} {db : List Nat} {Sbv : Nat → Prop} {Abv : Option Addr} {nbv cbv : Nat} {dbv : List Nat} (ha : NatR w Sa Aa na ca da) (hav : NatR w Sav Aav nav cav dav) (hb : NatR w Sb Ab nb cb db) (hbv : NatR w Sbv Abv nbv cbv dbv) (hna : na ≤ 8589934592) (hnav : nav ≤ 8589934592) (hnb : nb ≤ 8589934592) (hnbv : nbv ≤ 8589934592) : Calls Try.prog 63 #[(.agg #[(.bool ga), (.slice Aa na ca), (.slice Aav nav cav)]), (.agg #[(.bool gb), (.slice Ab nb cb), (.slice Abv nbv cbv)])] w (Ret fun v w' => ∃ (gr : Bool) (Ar : Option Addr) (nr : Nat) (cr : Nat) (dr : List Nat) (Arv : Option Addr) (nrv : Nat) (crv : Nat) (drv : List Nat), v = (.agg #[(.bool gr), (.slice Ar nr cr), (.slice Arv nrv crv)]) ∧ Ext w w' ∧ NatR w' (fun b => w.heap.size ≤ b) Ar nr cr dr ∧ NatR w' (fun b => w.heap.size ≤ b) Arv nrv crv drv ∧ (zval gr dr * ((rden (val dav) : Int) * (rden (val dbv) : Int)) = (rnum (zval ga da) (val dav) * rnum (zval gb db) (val dbv)) * (val drv : Int)) ∧ (0 < val drv) ∧ (ICan gr dr) ∧ (Canon isZ drv) ∧ (Nat.gcd (val dr) (val drv) = 1) ∧ (nr ≤ na + nb + nav + nbv + 8) ∧ (nrv ≤ nav + nbv + 8)) := by
  have ⟨la, ka, ma⟩ := ha.lkm
  replace ha := ha.low
  have ⟨lav, kav, mav⟩ := hav.lkm
  replace hav := hav.low
  have ⟨lb, kb, mb⟩ := hb.lkm
  replace hb := hb.low
  have ⟨lbv, kbv, mbv⟩ := hbv.lkm
  replace hbv := hbv.low
  refine enter Try.func63 rfl Try.ntmps63 rfl (rS fun K1 hK1 => sO (oBox [(.bool ga), (.slice Aa na ca), (.slice Aav nav cav)] rfl rfl (fun g2 w3 hg4 hE5 hz6 hB7 => sO (oBox [(.bool gb), (.slice Ab nb cb), (.slice Abv nbv cbv)] rfl rfl (fun g8 w9 hg10 hE11 hz12 hB13 => sO (oAlloc [(.bool false), (.slice none 0 0), (.slice none 0 0)] zero64 rfl (fun g14 w15 hg16 hE17 hz18 hB19 => sK hK1 (rS fun K20 hK20 => ?_))))))))
  have hR21 := hE11.trans hE17
  have hB22 := (hB7.ext hR21)
  refine sV (evLoadAB [(.bool ga), (.slice Aa na ca), (.slice Aav nav cav)] agg64 sz64 rfl hB22 rfl) ?_
  have hR23 := (hE5.trans hE11).trans hE17
  have h24 := (ha.ext hR23)
  have h25 := (hav.ext hR23)
  refine sO (oCall rfl call92 (rational_parts h24 h25) rfl ?_)
  rintro _ w27 ⟨gn_26, An_26, nn_26, cn_26, dn_26, gd_26, Ad_26, nd_26, cd_26, dd_26, rfl, hE28, hn_26, hd_26, vn_26, vd_26, bn_26, bd_26⟩
  have hz29 := hE28.size
  have ⟨ln_26, kn_26, mn_26⟩ := hn_26.lkm
  replace hn_26 := hn_26.low
  have ⟨ld_26, kd_26, md_26⟩ := hd_26.lkm
  replace hd_26 := hd_26.low
  have hdp_26 : 0 < zval gd_26 dd_26 := by rw [vd_26]; have h := rden_pos (val dav); omega
  refine sV (v := (.tuple #[(.agg #[(.bool gn_26), (.slice An_26 nn_26 cn_26)]), (.agg #[(.bool gd_26), (.slice Ad_26 nd_26 cd_26)])])) (rfl) (sV (v := (.agg #[(.bool gn_26), (.slice An_26 nn_26 cn_26)])) (rfl) (sV (v := (.agg #[(.bool gd_26), (.slice Ad_26 nd_26 cd_26)])) (rfl) (sO (oAlloc [(.bool false), (.slice none 0 0)] zero46 rfl (fun g32 w33 hg34 hE35 hz36 hB37 => sO (oAlloc [(.bool false), (.slice none 0 0)] zero46 rfl (fun g38 w39 hg40 hE41 hz42 hB43 => ?_)))))))
  have hB44 := (hB37.ext hE41)
  refine sO (oStore [(.bool gn_26), (.slice An_26 nn_26 cn_26)] rfl rfl rfl sz46 rfl hB44 (Nat.le_of_ble_eq_true rfl) (fun w45 hU46 hz47 hB48 => ?_))
  replace hB48 : Blk w45 g32 46 [(.bool gn_26), (.slice An_26 nn_26 cn_26)] := hB48
  have hB49 := (hB43.frm hU46 q1)
  refine sO (oStore [(.bool gd_26), (.slice Ad_26 nd_26 cd_26)] rfl rfl rfl sz46 rfl hB49 (Nat.le_of_ble_eq_true rfl) (fun w50 hU51 hz52 hB53 => ?_))
  replace hB53 : Blk w50 g38 46 [(.bool gd_26), (.slice Ad_26 nd_26 cd_26)] := hB53
  refine sK hK20 (rS fun K54 hK54 => ?_)
  have hR55 := ((((hE17.trans hE28).trans hE35).trans hE41).rx hU46).tr hU51
  have hB56 := (hB13.frm hR55 q1)
  refine sV (evLoadAB [(.bool gb), (.slice Ab nb cb), (.slice Abv nbv cbv)] agg64 sz64 rfl hB56 rfl) ?_
  have hR57 := ((((hR23.trans hE28).trans hE35).trans hE41).rx hU46).tr hU51
  have h58 := (hb.frmB hR57 q3)
  have h59 := (hbv.frmB hR57 q3)
  refine sO (oCall rfl call92 (rational_parts h58 h59) rfl ?_)
  rintro _ w61 ⟨gn_60, An_60, nn_60, cn_60, dn_60, gd_60, Ad_60, nd_60, cd_60, dd_60, rfl, hE62, hn_60, hd_60, vn_60, vd_60, bn_60, bd_60⟩
  have hz63 := hE62.size
  have ⟨ln_60, kn_60, mn_60⟩ := hn_60.lkm
  replace hn_60 := hn_60.low
  have ⟨ld_60, kd_60, md_60⟩ := hd_60.lkm
  replace hd_60 := hd_60.low
  have hdp_60 : 0 < zval gd_60 dd_60 := by rw [vd_60]; have h := rden_pos (val dbv); omega
  refine sV (v := (.tuple #[(.agg #[(.bool gn_60), (.slice An_60 nn_60 cn_60)]), (.agg #[(.bool gd_60), (.slice Ad_60 nd_60 cd_60)])])) (rfl) (sV (v := (.agg #[(.bool gn_60), (.slice An_60 nn_60 cn_60)])) (rfl) (sV (v := (.agg #[(.bool gd_60), (.slice Ad_60 nd_60 cd_60)])) (rfl) (sO (oAlloc [(.bool false), (.slice none 0 0)] zero46 rfl (fun g66 w67 hg68 hE69 hz70 hB71 => sO (oAlloc [(.bool false), (.slice none 0 0)] zero46 rfl (fun g72 w73 hg74 hE75 hz76 hB77 => ?_)))))))
  have hB78 := (hB71.ext hE75)
  refine sO (oStore [(.bool gn_60), (.slice An_60 nn_60 cn_60)] rfl rfl rfl sz46 rfl hB78 (Nat.le_of_ble_eq_true rfl) (fun w79 hU80 hz81 hB82 => ?_))
  replace hB82 : Blk w79 g66 46 [(.bool gn_60), (.slice An_60 nn_60 cn_60)] := hB82
  have hB83 := (hB77.frm hU80 q1)
  refine sO (oStore [(.bool gd_60), (.slice Ad_60 nd_60 cd_60)] rfl rfl rfl sz46 rfl hB83 (Nat.le_of_ble_eq_true rfl) (fun w84 hU85 hz86 hB87 => ?_))
  replace hB87 : Blk w84 g72 46 [(.bool gd_60), (.slice Ad_60 nd_60 cd_60)] := hB87
  refine sK hK54 (wp_seq_k fun K88 hK88 => dBegin (fun b => b = g14) mixed (fun w89 hE90 hz91 => ?_))
  have hR92 := (((((hU51.xr hE62).xr hE69).xr hE75).tr hU80).tr hU85).xr hE90
  have hB93 := (hB48.frm hR92 q1)
  refine dV 0 rfl (fun _ hf => evLoadAB [(.bool gn_26), (.slice An_26 nn_26 cn_26)] agg46 sz46 rfl (hB93.frm hf q1) rfl) ?_
  have hR94 := hU85.xr hE90
  have hB95 := (hB82.frm hR94 q1)
  refine dV 1 rfl (fun _ hf => evLoadAB [(.bool gn_60), (.slice An_60 nn_60 cn_60)] agg46 sz46 rfl (hB95.frm hf q1) rfl) ?_
  have hR96 := ((((hE62.trans hE69).trans hE75).rx hU80).tr hU85).xr hE90
  have hB97 := (hB53.frm hR96 q1)
  refine dV 3 rfl (fun _ hf => evLoadAB [(.bool gd_26), (.slice Ad_26 nd_26 cd_26)] agg46 sz46 rfl (hB97.frm hf q1) rfl) ?_
  have hB98 := (hB87.ext hE90)
  refine dV 4 rfl (fun _ hf => evLoadAB [(.bool gd_60), (.slice Ad_60 nd_60 cd_60)] agg46 sz46 rfl (hB98.frm hf q1) rfl) ?_
  have hR99 := ((((((((hE35.trans hE41).rx hU46).tr hU51).xr hE62).xr hE69).xr hE75).tr hU80).tr hU85).xr hE90
  have h100 := (hn_26.frmB hR99 q3)
  have hR101 := (((hE69.trans hE75).rx hU80).tr hU85).xr hE90
  have h102 := (hn_60.frmB hR101 q3)
  refine dOp 2 rfl rfl (by kernel_rfl) (oCall rfl call69 (integer_Mul h100 h102 (by omega)) rfl ?_)
  rintro _ w104 ⟨gr_103, Ar_103, nr_103, cr_103, dr_103, rfl, hE105, hr_103, v_103, cn_103, le_103⟩
  refine ⟨(Frm.of_ext hE105), ?_⟩
  have hz106 := hE105.size
  have ⟨lr_103, kr_103, mr_103⟩ := hr_103.lkm
  have hR108 := hR99.xr hE105
  have h109 := (hd_26.frmB hR108 q3)
  have hR110 := hR101.xr hE105
  have h111 := (hd_60.frmB hR110 q3)
  refine dOp 5 rfl rfl (by kernel_rfl) (oCall rfl call69 (integer_Mul h109 h111 (by omega)) rfl ?_)
  rintro _ w113 ⟨gr_112, Ar_112, nr_112, cr_112, dr_112, rfl, hE114, hr_112, v_112, cn_112, le_112⟩
  refine ⟨(Frm.of_ext hE114), ?_⟩
  have hz115 := hE114.size
  have ⟨lr_112, kr_112, mr_112⟩ := hr_112.lkm
  have hdd : 0 < zval gr_112 dr_112 := by rw [v_112]; exact Int.mul_pos hdp_26 hdp_60
  have h117 := (hr_103.ext hE114)
  refine dOp 6 rfl rfl (by kernel_rfl) (oCall rfl call93 (rational_reduce h117 hr_112 (by omega) (by omega) (by omega)) rfl ?_)
  rintro _ w119 ⟨gr_118, Ar_118, nr_118, cr_118, dr_118, Arv_118, nrv_118, crv_118, drv_118, rfl, hE120, hr_118, hrv_118, x_118, p_118, cn_118, cv_118, co_118, bn_118, bd_118⟩
  refine ⟨(Frm.of_ext hE120), ?_⟩
  have hz121 := hE120.size
  have ⟨lr_118, kr_118, mr_118⟩ := hr_118.lkm
  have ⟨lrv_118, krv_118, mrv_118⟩ := hrv_118.lkm
  have hR124 := ((((((((((((hE28.trans hE35).trans hE41).rx hU46).tr hU51).xr hE62).xr hE69).xr hE75).tr hU80).tr hU85).xr hE90).xr hE105).xr hE114).xr hE120
  have hB125 := (hB19.frm hR124 q1)
  refine dOp 7 rfl rfl (by kernel_rfl) (oStore [(.bool gr_118), (.slice Ar_118 nr_118 cr_118), (.slice Arv_118 nrv_118 crv_118)] rfl rfl rfl sz64 rfl hB125 (Nat.le_of_ble_eq_true rfl) (fun w126 hU127 hz128 hB129 => ?_))
  replace hB129 : Blk w126 g14 64 [(.bool gr_118), (.slice Ar_118 nr_118 cr_118), (.slice Arv_118 nrv_118 crv_118)] := hB129
  refine ⟨hU127, dDone (by kernel_rfl) (xN (hK88 _ _ (wp_ret (ret1 (.agg #[(.bool gr_118), (.slice Ar_118 nr_118 cr_118), (.slice Arv_118 nrv_118 crv_118)]) Try.results63 (resB [(.bool gr_118), (.slice Ar_118 nr_118 cr_118), (.slice Arv_118 nrv_118 crv_118)] agg64 sz64 rfl hB129) ?_))))⟩
  have h130 := (hr_118.frmB hU127 q3)
  have h131 := (hrv_118.frmB hU127 q3)
  have hR132 := (((((((((hR57.xr hE62).xr hE69).xr hE75).tr hU80).tr hU85).xr hE90).xr hE105).xr hE114).xr hE120).tr hU127
  exact ⟨(gr_118), Ar_118, nr_118, cr_118, dr_118, Arv_118, nrv_118, crv_118, drv_118, rfl, (Frm.mono hR132 q4), (NatR.sub h130 q5), (NatR.sub h131 q5), (by rw [← vd_26, ← vd_60, ← vn_26, ← vn_60, ← v_112, ← v_103]; exact x_118), p_118, cn_118, cv_118, co_118, (by omega), (by omega)⟩

end Go.Proofs.Ytppegjbdencefaa
