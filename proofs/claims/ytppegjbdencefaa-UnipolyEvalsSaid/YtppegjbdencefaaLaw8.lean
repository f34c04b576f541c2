/-
  Walk of the law UnipolyEvals.
-/
import Derived.Test.YtppegjbdencefaaLaw2
import Derived.Test.YtppegjbdencefaaLaw6
import Derived.Test.YtppegjbdencefaaUni7
import Derived.Test.YtppegjbdencefaaUni9
import Derived.Test.YtppegjbdencefaaRef8
import Derived.Test.YtppegjbdencefaaEndMath
namespace Go.Proofs.Ytppegjbdencefaa
open Go.RowKit Go.Gx
set_option maxHeartbeats 2000000 in
theorem law08_evals {w : World} {Sf : Nat → Prop} {Af : Option Addr} {nf cf Mf : Nat} {lf : List RI} {ga : Bool} {Sa : Nat → Prop} {Aa : Option Addr} {na ca : Nat} {da : List Nat} {Sav : Nat → Prop} {Aav : Option Addr} {nav cav : Nat} {dav : List Nat} (hf : PolyR w Sf Af nf cf lf Mf) (ha : NatR w Sa Aa na ca da) (hav : NatR w Sav Aav nav cav dav)  : Calls Try.prog 8 #[(.slice Af nf cf), (.agg #[(.bool ga), (.slice Aa na ca), (.slice Aav nav cav)])] w (Ret fun v w' => ∃ (gr : Bool), v = (.bool gr) ∧ Ext w w' ∧ (gr = true)) := by
  have ⟨kf, jf, mf⟩ := hf.lkm
  replace hf := hf.low
  have ⟨la, ka, ma⟩ := ha.lkm
  replace ha := ha.low
  have ⟨lav, kav, mav⟩ := hav.lkm
  replace hav := hav.low
  refine enter Try.func8 rfl Try.ntmps8 rfl (rS fun K1 hK1 => sO (oBox [(.bool ga), (.slice Aa na ca), (.slice Aav nav cav)] rfl rfl (fun g2 w3 hg4 hE5 hz6 hB7 => sAb rfl (sK hK1 (wp_seq_k fun K8 hK8 => rS fun K9 hK9 => sO (oCall rfl call12 (law08_awake) rfl ?_))))))
  rintro _ w11 ⟨gr_10, rfl, hE12, e_10⟩
  have hz13 := hE12.size
  obtain rfl : gr_10 = true := e_10
  refine sV (evNot _ rfl rfl) (sMb rfl (sEv (v := (.slice Af nf cf)) (rfl) rfl rfl ?_))
  have hR14 := hE5.trans hE12
  have h15 := (hf.ext hR14)
  refine sOp rfl (oCall rfl call13 (cylinderlaw08_Few h15) rfl ?_)
  rintro _ w17 ⟨gr_16, rfl, hE18, e_16⟩
  have hz19 := hE18.size
  refine sEv (v := (.bool (!gr_16))) (evNot _ rfl rfl) rfl rfl (sV (v := (.bool (!gr_16))) (rfl) (sMb rfl ?_))
  cases gr_16
  · refine sSkip rfl rfl (sSkip rfl rfl (sSkip rfl rfl (sSkip rfl rfl (sSkip rfl rfl (sSkip rfl rfl (sSkip rfl rfl (sSkip rfl rfl (sV (v := (.bool true)) (rfl) (sK hK9 (cT rfl (rS fun K20 hK20 => sO (oCall rfl call12 (law08_awake) rfl ?_))))))))))))
    rintro _ w22 ⟨gr_21, rfl, hE23, e_21⟩
    have hz24 := hE23.size
    obtain rfl : gr_21 = true := e_21
    refine sAb rfl (sK hK20 (wp_ret (xR (ret1 (.bool true) Try.results8 (resT rfl) ?_))))
    have hR25 := (hR14.trans hE18).trans hE23
    exact ⟨(true), rfl, hR25, rfl⟩
  · refine sEv (v := (.pointer (some ⟨g2, 0, none⟩))) (evFA 0 fa64_0 rfl rfl) rfl rfl (sEv (v := (.pointer (some ⟨g2, 1, none⟩))) (evFA 1 fa46_1 rfl rfl) rfl rfl ?_)
    have hR26 := hE12.trans hE18
    have hB27 := (hB7.ext hR26)
    refine sEv (v := (.slice Aa na ca)) (evLoadB one44 rfl hB27 rfl) rfl rfl (sEv (v := (.pointer (some ⟨g2, 2, none⟩))) (evFA 2 fa64_1 rfl rfl) rfl rfl (sEv (v := (.slice Aav nav cav)) (evLoadB one44 rfl hB27 rfl) rfl rfl (sOp rfl (oBuildSlice [(.slice Aa na ca), (.slice Aav nav cav)] [[(.slice Aa na ca)], [(.slice Aav nav cav)]] Try.underlying102 inf43 rfl rfl rfl rfl rfl (fun g28 w29 hg30 hE31 hz32 hB33 => ?_)))))
    replace hB33 : Blk w29 g28 43 [(.slice Aa na ca), (.slice Aav nav cav)] := hB33
    refine sOp rfl (oCall rfl call49 (ref01_Few hB33) rfl ?_)
    rintro _ w35 ⟨gr_34, rfl, hE36, e_34⟩
    have hz37 := hE36.size
    refine sEv (v := (.bool (!gr_34))) (evNot _ rfl rfl) rfl rfl (sV (v := (.bool (!gr_34))) (rfl) (sK hK9 ?_))
    cases gr_34
    · refine cT rfl (rS fun K38 hK38 => sO (oCall rfl call12 (law08_awake) rfl ?_))
      rintro _ w40 ⟨gr_39, rfl, hE41, e_39⟩
      have hz42 := hE41.size
      obtain rfl : gr_39 = true := e_39
      refine sAb rfl (sK hK38 (wp_ret (xR (ret1 (.bool true) Try.results8 (resT rfl) ?_))))
      have hR43 := (((hR14.trans hE18).trans hE31).trans hE36).trans hE41
      exact ⟨(true), rfl, hR43, rfl⟩
    · refine cF rfl (wp_skip (xN (hK8 _ _ (rS fun K44 hK44 => sMs rfl ?_))))
      have qf := e_16 rfl
      have qnf := qf.1
      have hf2 := hf.reM (M' := 3) (by intro r hr; have := qf.2 r hr; omega)
      have hfw := e_34 rfl
      have hR45 := ((hR14.trans hE18).trans hE31).trans hE36
      have h46 := (hf2.ext hR45)
      refine sO (oCall rfl call14 (law08_Of h46 (by omega) (by omega)) rfl ?_)
      rintro _ w48 ⟨Ar_47, nr_47, cr_47, fr_47, rfl, hE49, hr_47, e_47, ln_47⟩
      have hz50 := hE49.size
      have ⟨lr_47, kr_47, mr_47⟩ := hr_47.lkm
      replace hr_47 := hr_47.sub (S' := fun b => w35.heap.size ≤ b ∧ b < w48.heap.size) fun _ hb hs => ⟨hs, hb⟩
      refine sAs rfl (sK hK44 (rS fun K52 hK52 => sMs rfl (sV (evFA 0 fa64_0 rfl rfl) (sV (evFA 0 fa46_0 rfl rfl) ?_))))
      have hR53 := (hE31.trans hE36).trans hE49
      have hB54 := (hB27.ext hR53)
      refine sV (evLoadB one4 rfl hB54 rfl) (sV (evFA 0 fa64_0 rfl rfl) (sV (evFA 1 fa46_1 rfl rfl) (sV (evLoadB one44 rfl hB54 rfl) (sV (evFA 2 fa64_1 rfl rfl) (sV (evLoadB one44 rfl hB54 rfl) ?_)))))
      have hR55 := hR45.trans hE49
      have h56 := (ha.ext hR55)
      have h57 := (hav.ext hR55)
      refine sO (oCall rfl call51 (ref05_Of h56 h57 (by omega) (by omega)) rfl ?_)
      rintro _ w59 ⟨sr_58, Ar_58, nr_58, cr_58, zr_58, srv_58, Arv_58, nrv_58, crv_58, zrv_58, rfl, hE60, hr_58, hrv_58, v_58, d_58, le_58, lv_58⟩
      have hz61 := hE60.size
      have ⟨sgr_58, kr_58, mr_58⟩ := hr_58.lkm
      have ⟨sgrv_58, krv_58, mrv_58⟩ := hrv_58.lkm
      have hdp : 0 < zrv_58 := by rw [d_58]; have h := rden_pos (val dav); omega
      have h64 := (hr_47.ext hE60)
      refine sO (oCall rfl call50 (ref08_Value h64 hr_58 hrv_58 (by omega) (by omega) (by omega) (by omega) (by omega)) rfl ?_)
      rintro _ w66 ⟨sr_65, Ar_65, nr_65, cr_65, zr_65, srv_65, Arv_65, nrv_65, crv_65, zrv_65, rfl, hE67, hr_65, hrv_65, e_65, d_65, le_65, lv_65⟩
      have hz68 := hE67.size
      have ⟨sgr_65, kr_65, mr_65⟩ := hr_65.lkm
      have ⟨sgrv_65, krv_65, mrv_65⟩ := hrv_65.lkm
      have hwp : 0 < zrv_65 := by rw [d_65]; exact Int.pow_pos hdp
      have hwe : ((zr_65 : Int) : Rat) = evQ (zs lf) (rv (zval ga da) (val dav)) * ((zrv_65 : Int) : Rat) := by rw [e_65, e_47, evQ_trim, v_58, d_58]; rfl
      refine sO (oAlloc [(.int .i64 (0)), (.slice none 0 0), (.int .i64 (0)), (.slice none 0 0)] zero67 rfl (fun g71 w72 hg73 hE74 hz75 hB76 => sO (oStore [(.int .i64 (sr_65)), (.slice Ar_65 nr_65 cr_65), (.int .i64 (srv_65)), (.slice Arv_65 nrv_65 crv_65)] rfl rfl rfl sz67 rfl hB76 (Nat.le_of_ble_eq_true rfl) (fun w77 hU78 hz79 hB80 => ?_))))
      replace hB80 : Blk w77 g71 67 [(.int .i64 (sr_65)), (.slice Ar_65 nr_65 cr_65), (.int .i64 (srv_65)), (.slice Arv_65 nrv_65 crv_65)] := hB80
      refine sK hK52 (rS fun K81 hK81 => sMs rfl ?_)
      have hR82 := ((hE60.trans hE67).trans hE74).rx hU78
      have hB83 := (hB54.frm hR82 q1)
      refine sV (evLoadAB [(.bool ga), (.slice Aa na ca), (.slice Aav nav cav)] agg64 sz64 rfl hB83 rfl) ?_
      have hR84 := (((hE49.trans hE60).trans hE67).trans hE74).rx hU78
      have h85 := (h46.frmB hR84 q3)
      have h86 := (h56.frmB hR82 q3)
      have h87 := (h57.frmB hR82 q3)
      refine sO (oCall rfl call52 (unipoly_EvalRat h85 h86 h87 (by omega) (by omega) (by omega) (by omega)) rfl ?_)
      rintro _ w89 ⟨gr_88, Ar_88, nr_88, cr_88, dr_88, Arv_88, nrv_88, crv_88, drv_88, rfl, hE90, hr_88, hrv_88, e_88, p_88, bn_88, bd_88, cn_88, cv_88, co_88⟩
      have hz91 := hE90.size
      have ⟨lr_88, kr_88, mr_88⟩ := hr_88.lkm
      have ⟨lrv_88, krv_88, mrv_88⟩ := hrv_88.lkm
      have hcx := cross_of p_88 e_88 hwe
      refine sO (oAlloc [(.bool false), (.slice none 0 0), (.slice none 0 0)] zero64 rfl (fun g94 w95 hg96 hE97 hz98 hB99 => sO (oStore [(.bool gr_88), (.slice Ar_88 nr_88 cr_88), (.slice Arv_88 nrv_88 crv_88)] rfl rfl rfl sz64 rfl hB99 (Nat.le_of_ble_eq_true rfl) (fun w100 hU101 hz102 hB103 => ?_))))
      replace hB103 : Blk w100 g94 64 [(.bool gr_88), (.slice Ar_88 nr_88 cr_88), (.slice Arv_88 nrv_88 crv_88)] := hB103
      refine sK hK81 (rS fun K104 hK104 => sMs rfl (sV (evFA 0 fa64_0 rfl rfl) ?_))
      have hR105 := (hE90.trans hE97).rx hU101
      have hB106 := (hB83.frm hR105 q1)
      refine sV (evLoadAB [(.bool ga), (.slice Aa na ca)] agg46 sz46 rfl hB106 rfl) ?_
      have h107 := (h85.frmB hR105 q3)
      have h108 := (h86.frmB hR105 q3)
      refine sO (oCall rfl call53 (unipoly_Eval h107 h108 (by omega) (by omega) (by omega)) rfl ?_)
      rintro _ w110 ⟨gr_109, Ar_109, nr_109, cr_109, dr_109, rfl, hE111, hr_109, e_109, cn_109, le_109⟩
      have hz112 := hE111.size
      have ⟨lr_109, kr_109, mr_109⟩ := hr_109.lkm
      refine sO (oAlloc [(.bool false), (.slice none 0 0)] zero46 rfl (fun g114 w115 hg116 hE117 hz118 hB119 => sO (oStore [(.bool gr_109), (.slice Ar_109 nr_109 cr_109)] rfl rfl rfl sz46 rfl hB119 (Nat.le_of_ble_eq_true rfl) (fun w120 hU121 hz122 hB123 => ?_))))
      replace hB123 : Blk w120 g114 46 [(.bool gr_109), (.slice Ar_109 nr_109 cr_109)] := hB123
      refine sK hK104 (rS fun K124 hK124 => sMs rfl (sV (evFA 0 fa64_0 rfl rfl) ?_))
      have hR125 := (hE111.trans hE117).rx hU121
      have hB126 := (hB106.frm hR125 q1)
      refine sV (evLoadAB [(.bool ga), (.slice Aa na ca)] agg46 sz46 rfl hB126 rfl) ?_
      have h127 := (h108.frmB hR125 q3)
      refine sO (oCall rfl call26 (law08_z h127 (by omega)) rfl ?_)
      rintro _ w129 ⟨sr_128, Ar_128, nr_128, cr_128, zr_128, rfl, hE130, hr_128, v_128, le_128⟩
      have hz131 := hE130.size
      have ⟨sgr_128, kr_128, mr_128⟩ := hr_128.lkm
      refine sO (oCall rfl call15 (ref02_Small (by omega)) rfl ?_)
      rintro _ w134 ⟨sr_133, Ar_133, nr_133, cr_133, zr_133, rfl, hE135, hr_133, v_133, le_133⟩
      have hz136 := hE135.size
      have ⟨sgr_133, kr_133, mr_133⟩ := hr_133.lkm
      refine sV (v := (.agg #[(.int .i64 (sr_128)), (.slice Ar_128 nr_128 cr_128), (.int .i64 (sr_133)), (.slice Ar_133 nr_133 cr_133)])) (evK (by kernel_rfl)) ?_
      have hR138 := (((((((((hE67.trans hE74).rx hU78).xr hE90).xr hE97).tr hU101).xr hE111).xr hE117).tr hU121).xr hE130).xr hE135
      have h139 := (h64.frmB hR138 q3)
      have h140 := (hr_128.ext hE135)
      refine sO (oCall rfl call50 (ref08_Value h139 h140 hr_133 (by omega) (by omega) (by omega) (by omega) (by omega)) rfl ?_)
      rintro _ w142 ⟨sr_141, Ar_141, nr_141, cr_141, zr_141, srv_141, Arv_141, nrv_141, crv_141, zrv_141, rfl, hE143, hr_141, hrv_141, e_141, d_141, le_141, lv_141⟩
      have hz144 := hE143.size
      have ⟨sgr_141, kr_141, mr_141⟩ := hr_141.lkm
      have ⟨sgrv_141, krv_141, mrv_141⟩ := hrv_141.lkm
      have hwz := whole e_109 (by rw [← e_47]; exact e_141) d_141 v_128 v_133
      refine sO (oAlloc [(.int .i64 (0)), (.slice none 0 0), (.int .i64 (0)), (.slice none 0 0)] zero67 rfl (fun g147 w148 hg149 hE150 hz151 hB152 => sO (oStore [(.int .i64 (sr_141)), (.slice Ar_141 nr_141 cr_141), (.int .i64 (srv_141)), (.slice Arv_141 nrv_141 crv_141)] rfl rfl rfl sz67 rfl hB152 (Nat.le_of_ble_eq_true rfl) (fun w153 hU154 hz155 hB156 => ?_))))
      replace hB156 : Blk w153 g147 67 [(.int .i64 (sr_141)), (.slice Ar_141 nr_141 cr_141), (.int .i64 (srv_141)), (.slice Arv_141 nrv_141 crv_141)] := hB156
      refine sK hK124 (wp_seq_k fun K157 hK157 => dBegin (fun _ => False) mixed (fun w158 hE159 hz160 => dV 0 rfl (fun _ _ => evFA 0 fa64_0 rfl rfl) (dV 1 rfl (fun _ _ => evFA 0 fa46_0 rfl rfl) ?_)))
      have hR161 := (((((hR125.xr hE130).xr hE135).xr hE143).xr hE150).tr hU154).xr hE159
      have hB162 := (hB103.frm hR161 q1)
      refine dV 2 rfl (fun _ hf => evLoadB one4 rfl (hB162.ext hf) rfl) (dV 3 rfl (fun _ _ => evFA 0 fa64_0 rfl rfl) (dV 4 rfl (fun _ _ => evFA 1 fa46_1 rfl rfl) (dV 5 rfl (fun _ hf => evLoadB one44 rfl (hB162.ext hf) rfl) (dV 6 rfl (fun _ _ => evFA 2 fa64_1 rfl rfl) (dV 7 rfl (fun _ hf => evLoadB one44 rfl (hB162.ext hf) rfl) ?_)))))
      have hR163 := ((((((((hR105.xr hE111).xr hE117).tr hU121).xr hE130).xr hE135).xr hE143).xr hE150).tr hU154).xr hE159
      have hB164 := (hB80.frm hR163 q1)
      refine dV 8 rfl (fun _ hf => evLoadAB [(.int .i64 (sr_65)), (.slice Ar_65 nr_65 cr_65), (.int .i64 (srv_65)), (.slice Arv_65 nrv_65 crv_65)] agg67 sz67 rfl (hB164.ext hf) rfl) ?_
      have hR165 := (((((((((hE97.rx hU101).xr hE111).xr hE117).tr hU121).xr hE130).xr hE135).xr hE143).xr hE150).tr hU154).xr hE159
      have h166 := (hr_88.frmB hR165 q3)
      have h167 := (hrv_88.frmB hR165 q3)
      have hR168 := ((((((((((((hE74.rx hU78).xr hE90).xr hE97).tr hU101).xr hE111).xr hE117).tr hU121).xr hE130).xr hE135).xr hE143).xr hE150).tr hU154).xr hE159
      have h169 := (hr_65.frmB hR168 q3)
      have h170 := (hrv_65.frmB hR168 q3)
      refine dOp 9 rfl rfl (by kernel_rfl) (oCall rfl call54 (ref05_Is h166 h167 h169 h170 (by omega) (by omega) (by omega) (by assumption) (by assumption) (by assumption) (by assumption) (by assumption)) rfl ?_)
      rintro _ w172 ⟨gr_171, rfl, hE173, e_171⟩
      refine ⟨(Frm.of_ext hE173), ?_⟩
      have hz174 := hE173.size
      obtain rfl : gr_171 = true := e_171
      refine dMb 10 rfl rfl (dEv 11 rfl (v := (.slice Af nf cf)) (fun _ _ => rfl) rfl rfl (by kernel_rfl) ?_)
      have hR175 := (((((hE130.trans hE135).trans hE143).trans hE150).rx hU154).xr hE159).xr hE173
      have hB176 := (hB126.frm hR175 q1)
      refine dEv 12 rfl (v := (.agg #[(.bool ga), (.slice Aa na ca), (.slice Aav nav cav)])) (fun _ hf => evLoadAB [(.bool ga), (.slice Aa na ca), (.slice Aav nav cav)] agg64 sz64 rfl (hB176.ext hf) rfl) rfl rfl (by kernel_rfl) (dEv 14 rfl (v := (.pointer (some ⟨g71, 0, none⟩))) (fun _ _ => evFA 0 fa67_0 rfl rfl) rfl rfl (by kernel_rfl) (dEv 15 rfl (v := (.pointer (some ⟨g71, 0, none⟩))) (fun _ _ => evFA 0 fa31_0 rfl rfl) rfl rfl (by kernel_rfl) ?_))
      have hB177 := (hB164.ext hE173)
      refine dEv 16 rfl (v := (.int .i64 (sr_65))) (fun _ hf => evLoadB one3 rfl (hB177.ext hf) rfl) rfl rfl (by kernel_rfl) ?_
      have hR178 := hR161.xr hE173
      have h179 := (h107.frmB hR178 q3)
      have h180 := (h127.frmB hR175 q3)
      have hR181 := hR163.xr hE173
      have h182 := (h87.frmB hR181 q3)
      refine dOp 13 rfl rfl (by kernel_rfl) (oCall rfl call55 (unipoly_SignAt h179 h180 h182 (by omega) (by omega) (by omega) (by omega)) rfl ?_)
      rintro _ w184 ⟨xr_183, zv_183, zp_183, rfl, hE185, e_183, v_183, po_183⟩
      refine ⟨(Frm.of_ext hE185), ?_⟩
      have hz186 := hE185.size
      refine dEv 17 rfl (v := (.bool true)) (fun _ _ => evEql true rfl rfl (dT (by rw [e_183]; exact (same_sign v_183 hwe po_183 hwp).trans sgr_65.symm))) rfl rfl (by kernel_rfl) (dV 18 rfl (v := (.bool true)) (fun _ _ => rfl) (dMb 19 rfl rfl (dEv 20 rfl (v := (.pointer (some ⟨g114, 0, none⟩))) (fun _ _ => evFA 0 fa46_0 rfl rfl) rfl rfl (by kernel_rfl) ?_)))
      have hR187 := hR175.xr hE185
      have hB188 := (hB123.frm hR187 q1)
      refine dEv 21 rfl (v := (.bool gr_109)) (fun _ hf => evLoadB one4 rfl (hB188.ext hf) rfl) rfl rfl (by kernel_rfl) (dEv 22 rfl (v := (.pointer (some ⟨g114, 1, none⟩))) (fun _ _ => evFA 1 fa46_1 rfl rfl) rfl rfl (by kernel_rfl) (dEv 23 rfl (v := (.slice Ar_109 nr_109 cr_109)) (fun _ hf => evLoadB one44 rfl (hB188.ext hf) rfl) rfl rfl (by kernel_rfl) (dEv 24 rfl (v := (.pointer (some ⟨g147, 0, none⟩))) (fun _ _ => evFA 0 fa67_0 rfl rfl) rfl rfl (by kernel_rfl) ?_)))
      have hR189 := (hE159.trans hE173).trans hE185
      have hB190 := (hB156.ext hR189)
      refine dEv 25 rfl (v := (.agg #[(.int .i64 (sr_141)), (.slice Ar_141 nr_141 cr_141)])) (fun _ hf => evLoadAB [(.int .i64 (sr_141)), (.slice Ar_141 nr_141 cr_141)] agg31 sz31 rfl (hB190.ext hf) rfl) rfl rfl (by kernel_rfl) ?_
      have hR191 := ((((((((hE117.rx hU121).xr hE130).xr hE135).xr hE143).xr hE150).tr hU154).xr hE159).xr hE173).xr hE185
      have h192 := (hr_109.frmB hR191 q3)
      have hR193 := (((hE150.rx hU154).xr hE159).xr hE173).xr hE185
      have h194 := (hr_141.frmB hR193 q3)
      refine dOp 26 rfl rfl (by kernel_rfl) (oCall rfl call43 (ref02_Is h192 h194 (by omega) (by assumption) (by assumption)) rfl ?_)
      rintro _ w196 ⟨gr_195, rfl, hE197, e_195⟩
      refine ⟨(Frm.of_ext hE197), ?_⟩
      have hz198 := hE197.size
      obtain rfl : gr_195 = true := e_195
      refine dV 27 rfl (v := (.bool true)) (fun _ _ => rfl) (dAb 28 rfl rfl (dDone (by kernel_rfl) (xN (hK157 _ _ (wp_ret (ret1 (.bool true) Try.results8 (resT rfl) ?_))))))
      have hR199 := ((((((((((((((((((hR55.trans hE60).trans hE67).trans hE74).rx hU78).xr hE90).xr hE97).tr hU101).xr hE111).xr hE117).tr hU121).xr hE130).xr hE135).xr hE143).xr hE150).tr hU154).xr hE159).xr hE173).xr hE185).xr hE197
      exact ⟨(true), rfl, (Frm.mono hR199 q4), rfl⟩

end Go.Proofs.Ytppegjbdencefaa
