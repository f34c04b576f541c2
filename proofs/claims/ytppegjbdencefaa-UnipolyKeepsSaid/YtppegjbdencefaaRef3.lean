/-
  Walks of package cylinderref02: integers.
-/
import Derived.Test.YtppegjbdencefaaRef2
import Derived.Test.YtppegjbdencefaaZPreds
namespace Go.Proofs.Ytppegjbdencefaa
open Go.RowKit Go.Gx
theorem ref02_Make {w : World} {gn : Bool} {Sb : Nat → Prop} {Ab : Option Addr} {nb cb : Nat} {db : List Nat} (hb : DigR 2 w Sb Ab nb cb db)  : Calls Try.prog 33 #[(.bool gn), (.slice Ab nb cb)] w (Ret fun v w' => ∃ (sr : Int) (Ar : Option Addr) (nr : Nat) (cr : Nat) (zr : Int), v = (.agg #[(.int .i64 (sr)), (.slice Ar nr cr)]) ∧ Ext w w' ∧ ZR w' (Sb) sr Ar nr cr zr ∧ (zr = sgnv gn (vb 2 db)) ∧ (nr ≤ nb)) := by
  have ⟨lb, kb, mb⟩ := hb.lkm
  replace hb := hb.sub (S' := fun b => Sb b ∧ b < w.heap.size) fun _ hb hs => ⟨hs, hb⟩
  refine enter Try.func33 rfl Try.ntmps33 rfl (rS fun K1 hK1 => sO (oAlloc [(.int .i64 (0)), (.slice none 0 0)] zero31 rfl (fun g2 w3 hg4 hE5 hz6 hB7 => sK hK1 (rS fun K8 hK8 => sMs rfl ?_))))
  have h9 := (hb.ext hE5)
  refine sO (oCall rfl call74 (ref01_Trim h9) rfl ?_)
  rintro _ w11 ⟨Ar_10, nr_10, cr_10, dr_10, rfl, hE12, hr_10, e_10, le_10⟩
  have hz13 := hE12.size
  have ⟨lr_10, kr_10, mr_10⟩ := hr_10.lkm
  refine sAs rfl (sK hK8 (wp_seq_k fun K15 hK15 => rS fun K16 hK16 => sMs rfl (sV (evLen Try.underlying29 rfl) ?_)))
  by_cases hc17 : ((nr_10 : Int)) = 0
  · refine sV (evEql true rfl rfl (dT hc17)) (sK hK16 (cT rfl (rS fun K18 hK18 => sV (v := (.agg #[(.int .i64 (0)), (.slice none 0 0)])) (evK (by kernel_rfl)) ?_)))
    have hB19 := (hB7.ext hE12)
    refine sO (oStore [(.int .i64 (0)), (.slice none 0 0)] rfl rfl rfl sz31 rfl hB19 (Nat.le_of_ble_eq_true rfl) (fun w20 hU21 hz22 hB23 => ?_))
    replace hB23 : Blk w20 g2 31 [(.int .i64 (0)), (.slice none 0 0)] := hB23
    refine sK hK18 (wp_ret (xR (ret1 (.agg #[(.int .i64 (0)), (.slice none 0 0)]) Try.results33 (resB [(.int .i64 (0)), (.slice none 0 0)] agg31 sz31 rfl hB23) ?_)))
    have hR24 := (hE5.trans hE12).rx hU21
    exact ⟨0, none, 0, 0, 0, rfl, (Frm.mono hR24 q4), ZR.zero, (sgnv_zero e_10 (by omega)), (by omega)⟩
  · refine sV (evEql false rfl rfl (dF hc17)) (sK hK16 (cF rfl (wp_skip (xN (hK15 _ _ (wp_seq_k fun K25 hK25 => rS fun K26 hK26 => sMb rfl (sK hK26 (cB gn rfl ?_ ?_))))))))
    · intro hc27
      subst hc27
      refine rS fun K28 hK28 => sMs rfl (sV (v := (.agg #[(.int .i64 ((-1))), (.slice Ar_10 nr_10 cr_10)])) (evK (by kernel_rfl)) ?_)
      have hB29 := (hB7.ext hE12)
      refine sO (oStore [(.int .i64 ((-1))), (.slice Ar_10 nr_10 cr_10)] rfl rfl rfl sz31 rfl hB29 (Nat.le_of_ble_eq_true rfl) (fun w30 hU31 hz32 hB33 => ?_))
      replace hB33 : Blk w30 g2 31 [(.int .i64 ((-1))), (.slice Ar_10 nr_10 cr_10)] := hB33
      refine sK hK28 (wp_ret (xR (ret1 (.agg #[(.int .i64 ((-1))), (.slice Ar_10 nr_10 cr_10)]) Try.results33 (resB [(.int .i64 ((-1))), (.slice Ar_10 nr_10 cr_10)] agg31 sz31 rfl hB33) ?_)))
      have h34 := (hr_10.frmB hU31 q3)
      have hR35 := (hE5.trans hE12).rx hU31
      exact ⟨((-1)), Ar_10, nr_10, cr_10, (sgnv true (vb 2 db)), rfl, (Frm.mono hR35 q4), (ZR.sub (ZR.make h34 e_10 (by omega) rfl) fun _ _ h => h.1), rfl, (by omega)⟩
    · intro hc27
      subst hc27
      refine wp_skip (xN (hK25 _ _ (rS fun K36 hK36 => sMs rfl (sV (v := (.agg #[(.int .i64 (1)), (.slice Ar_10 nr_10 cr_10)])) (evK (by kernel_rfl)) ?_))))
      have hB37 := (hB7.ext hE12)
      refine sO (oStore [(.int .i64 (1)), (.slice Ar_10 nr_10 cr_10)] rfl rfl rfl sz31 rfl hB37 (Nat.le_of_ble_eq_true rfl) (fun w38 hU39 hz40 hB41 => ?_))
      replace hB41 : Blk w38 g2 31 [(.int .i64 (1)), (.slice Ar_10 nr_10 cr_10)] := hB41
      refine sK hK36 (wp_ret (ret1 (.agg #[(.int .i64 (1)), (.slice Ar_10 nr_10 cr_10)]) Try.results33 (resB [(.int .i64 (1)), (.slice Ar_10 nr_10 cr_10)] agg31 sz31 rfl hB41) ?_))
      have h42 := (hr_10.frmB hU39 q3)
      have hR43 := (hE5.trans hE12).rx hU39
      exact ⟨(1), Ar_10, nr_10, cr_10, (sgnv false (vb 2 db)), rfl, (Frm.mono hR43 q4), (ZR.sub (ZR.make h42 e_10 (by omega) rfl) fun _ _ h => h.1), rfl, (by omega)⟩

theorem ref02_Of {w : World} {gn : Bool} {Sa : Nat → Prop} {Aa : Option Addr} {na ca : Nat} {da : List Nat} (ha : NatR w Sa Aa na ca da) (hna : na ≤ 1048576) : Calls Try.prog 65 #[(.bool gn), (.slice Aa na ca)] w (Ret fun v w' => ∃ (sr : Int) (Ar : Option Addr) (nr : Nat) (cr : Nat) (zr : Int), v = (.agg #[(.int .i64 (sr)), (.slice Ar nr cr)]) ∧ Ext w w' ∧ ZR w' (fun b => w.heap.size ≤ b) sr Ar nr cr zr ∧ (zr = zval gn da) ∧ (nr ≤ 32 * na)) := by
  have ⟨la, ka, ma⟩ := ha.lkm
  replace ha := ha.low
  refine enter Try.func65 rfl Try.ntmps65 rfl (rS fun K1 hK1 => sO (oAlloc [(.int .i64 (0)), (.slice none 0 0)] zero31 rfl (fun g2 w3 hg4 hE5 hz6 hB7 => sK hK1 (rS fun K8 hK8 => sMb rfl (sMs rfl ?_)))))
  have h9 := (ha.ext hE5)
  refine sO (oCall rfl call95 (ref01_Of h9 (by omega)) rfl ?_)
  rintro _ w11 ⟨Ar_10, nr_10, cr_10, dr_10, rfl, hE12, hr_10, v_10, cn_10, le_10⟩
  have hz13 := hE12.size
  have ⟨lr_10, kr_10, mr_10⟩ := hr_10.lkm
  refine sO (oCall rfl call33 (ref02_Make hr_10) rfl ?_)
  rintro _ w16 ⟨sr_15, Ar_15, nr_15, cr_15, zr_15, rfl, hE17, hr_15, v_15, le_15⟩
  have hz18 := hE17.size
  have ⟨sgr_15, kr_15, mr_15⟩ := hr_15.lkm
  have hR20 := hE12.trans hE17
  have hB21 := (hB7.ext hR20)
  refine sO (oStore [(.int .i64 (sr_15)), (.slice Ar_15 nr_15 cr_15)] rfl rfl rfl sz31 rfl hB21 (Nat.le_of_ble_eq_true rfl) (fun w22 hU23 hz24 hB25 => ?_))
  replace hB25 : Blk w22 g2 31 [(.int .i64 (sr_15)), (.slice Ar_15 nr_15 cr_15)] := hB25
  refine sK hK8 (wp_ret (ret1 (.agg #[(.int .i64 (sr_15)), (.slice Ar_15 nr_15 cr_15)]) Try.results65 (resB [(.int .i64 (sr_15)), (.slice Ar_15 nr_15 cr_15)] agg31 sz31 rfl hB25) ?_))
  have h26 := (hr_15.frmB hU23 q3)
  have hR27 := ((hE5.trans hE12).trans hE17).rx hU23
  exact ⟨(sr_15), Ar_15, nr_15, cr_15, (zr_15), rfl, (Frm.mono hR27 q4), (ZR.sub h26 q5), (by rw [v_15, v_10]; rfl), (by omega)⟩

theorem ref02_Is {w : World} {gn : Bool} {Sa : Nat → Prop} {Aa : Option Addr} {na ca : Nat} {da : List Nat} {Sz : Nat → Prop} {sz : Int} {Az : Option Addr} {nz cz : Nat} {zz : Int} (ha : NatR w Sa Aa na ca da) (hz : ZR w Sz sz Az nz cz zz) (hnz : nz ≤ 1073741824) (hc : ICan gn da) (hv : zval gn da = zz) : Calls Try.prog 43 #[(.bool gn), (.slice Aa na ca), (.agg #[(.int .i64 (sz)), (.slice Az nz cz)])] w (Ret fun v w' => ∃ (gr : Bool), v = (.bool gr) ∧ Ext w w' ∧ (gr = true)) := by
  have ⟨la, ka, ma⟩ := ha.lkm
  replace ha := ha.low
  have ⟨sgz, kz, mz⟩ := hz.lkm
  replace hz := hz.low
  refine enter Try.func43 rfl Try.ntmps43 rfl (rS fun K1 hK1 => sO (oBox [(.int .i64 (sz)), (.slice Az nz cz)] rfl rfl (fun g2 w3 hg4 hE5 hz6 hB7 => sAb rfl (sK hK1 (rS fun K8 hK8 => sMb rfl (sV (evFA 0 fa31_0 rfl rfl) (sV (evLoadB one3 rfl hB7 rfl) (sV (evLss (decide (sz < 0)) rfl rfl (rfl)) (sV (evEqlB _ Try.underlying4 rfl rfl rfl) ?_)))))))))
  have htt : (gn == decide (sz < 0)) = true := by rw [is_neg sgz hc hv]; simp
  rw [htt]
  refine sMb rfl (sEv (v := (.slice Aa na ca)) (rfl) rfl rfl (sEv (v := (.pointer (some ⟨g2, 1, none⟩))) (evFA 1 fa31_1 rfl rfl) rfl rfl (sEv (v := (.slice Az nz cz)) (evLoadB one29 rfl hB7 rfl) rfl rfl ?_)))
  have h9 := (hz.ext hE5)
  obtain ⟨bs_10, hb_10, cb_10, vb_10⟩ := h9.2
  have lb_10 := hb_10.len
  have hval := is_val hv vb_10; have hcan := hc.1
  have h12 := (ha.ext hE5)
  refine sOp rfl (oCall rfl call81 (ref01_Is h12 hb_10 (by omega) (by assumption) (by assumption)) rfl ?_)
  rintro _ w14 ⟨gr_13, rfl, hE15, e_13⟩
  have hz16 := hE15.size
  refine sV (v := (.bool gr_13)) (rfl) (sAb rfl (sK hK8 (wp_ret (ret1 (.bool gr_13) Try.results43 (resT rfl) ?_))))
  have hR17 := hE5.trans hE15
  exact ⟨(gr_13), rfl, hR17, e_13⟩

theorem ref02_Cmp {w : World} {Sa : Nat → Prop} {sa : Int} {Aa : Option Addr} {na ca : Nat} {za : Int} {Sb : Nat → Prop} {sb : Int} {Ab : Option Addr} {nb cb : Nat} {zb : Int} (ha : ZR w Sa sa Aa na ca za) (hb : ZR w Sb sb Ab nb cb zb) (hna : na ≤ 1073741824) (hnb : nb ≤ 1073741824) : Calls Try.prog 34 #[(.agg #[(.int .i64 (sa)), (.slice Aa na ca)]), (.agg #[(.int .i64 (sb)), (.slice Ab nb cb)])] w (Ret fun v w' => ∃ (xr : Int), v = (.int .i64 (xr)) ∧ Ext w w' ∧ (xr = cmpZ za zb)) := by
  have ⟨sga, ka, ma⟩ := ha.lkm
  replace ha := ha.low
  have ⟨sgb, kb, mb⟩ := hb.lkm
  replace hb := hb.low
  refine enter Try.func34 rfl Try.ntmps34 rfl (rS fun K1 hK1 => sO (oBox [(.int .i64 (sa)), (.slice Aa na ca)] rfl rfl (fun g2 w3 hg4 hE5 hz6 hB7 => sO (oBox [(.int .i64 (sb)), (.slice Ab nb cb)] rfl rfl (fun g8 w9 hg10 hE11 hz12 hB13 => sAi rfl (sK hK1 (wp_seq_k fun K14 hK14 => rS fun K15 hK15 => sV (evFA 0 fa31_0 rfl rfl) ?_)))))))
  have hB16 := (hB7.ext hE11)
  refine sV (evLoadB one3 rfl hB16 rfl) (sV (evFA 0 fa31_0 rfl rfl) (sV (evLoadB one3 rfl hB13 rfl) ?_))
  by_cases hc17 : sa ≠ sb
  · refine sV (evNeq true rfl rfl (dT hc17)) (sK hK15 (cT rfl (wp_seq_k fun K18 hK18 => rS fun K19 hK19 => sV (evFA 0 fa31_0 rfl rfl) (sV (evLoadB one3 rfl hB16 rfl) (sV (evFA 0 fa31_0 rfl rfl) (sV (evLoadB one3 rfl hB13 rfl) ?_))))))
    by_cases hc20 : sa < sb
    · refine sV (evLss true rfl rfl (dT hc20)) (sK hK19 (cT rfl (rS fun K21 hK21 => sAi rfl (sK hK21 (wp_ret (xR (xR (ret1 (.int .i64 ((-1))) Try.results34 (resT rfl) ?_))))))))
      have hR22 := hE5.trans hE11
      exact ⟨((-1)), rfl, hR22, ((zcmp_ne sga sgb hc17).1 hc20)⟩
    · refine sV (evLss false rfl rfl (dF hc20)) (sK hK19 (cF rfl (wp_skip (xN (hK18 _ _ (rS fun K23 hK23 => sAi rfl (sK hK23 (wp_ret (xR (ret1 (.int .i64 (1)) Try.results34 (resT rfl) ?_))))))))))
      have hR24 := hE5.trans hE11
      exact ⟨(1), rfl, hR24, ((zcmp_ne sga sgb hc17).2 hc20)⟩
  · refine sV (evNeq false rfl rfl (dF hc17)) (sK hK15 (cF rfl (wp_skip (xN (hK14 _ _ (wp_seq_k fun K25 hK25 => dBegin (fun _ => False) mixed (fun w26 hE27 hz28 => dV 0 rfl (fun _ _ => evFA 0 fa31_0 rfl rfl) ?_)))))))
    have hB29 := (hB16.ext hE27)
    refine dV 1 rfl (fun _ hf => evLoadB one3 rfl (hB29.ext hf) rfl) (dV 2 rfl (fun _ _ => evFA 1 fa31_1 rfl rfl) (dV 3 rfl (fun _ hf => evLoadB one29 rfl (hB29.ext hf) rfl) (dV 4 rfl (fun _ _ => evFA 1 fa31_1 rfl rfl) ?_)))
    have hB30 := (hB13.ext hE27)
    refine dV 5 rfl (fun _ hf => evLoadB one29 rfl (hB30.ext hf) rfl) ?_
    have hR31 := (hE5.trans hE11).trans hE27
    have h32 := (ha.ext hR31)
    obtain ⟨bs_33, hb_33, cb_33, vb_33⟩ := h32.2
    have lb_33 := hb_33.len
    have h35 := (hb.ext hR31)
    obtain ⟨bs_36, hb_36, cb_36, vb_36⟩ := h35.2
    have lb_36 := hb_36.len
    refine dOp 6 rfl rfl (by kernel_rfl) (oCall rfl call75 (ref01_Cmp hb_33 hb_36 (by omega) (by omega)) rfl ?_)
    rintro _ w39 ⟨xr_38, rfl, hE40, e_38⟩
    refine ⟨(Frm.of_ext hE40), ?_⟩
    have hz41 := hE40.size
    have h42 := (hb_33.ext hE40)
    have h43 := (hb_36.ext hE40)
    refine dV 7 rfl (fun _ _ => evMul (cmpZ za zb) rfl rfl (zcmp_mul sga sgb hc17 vb_33 vb_36 e_38)) (dAi 8 rfl rfl (dDone (by kernel_rfl) (xN (hK25 _ _ (wp_ret (ret1 (.int .i64 (cmpZ za zb)) Try.results34 (resT rfl) ?_))))))
    have hR44 := hR31.trans hE40
    exact ⟨(cmpZ za zb), rfl, hR44, rfl⟩

theorem ref02_Add {w : World} {Sa : Nat → Prop} {sa : Int} {Aa : Option Addr} {na ca : Nat} {za : Int} {Sb : Nat → Prop} {sb : Int} {Ab : Option Addr} {nb cb : Nat} {zb : Int} (ha : ZR w Sa sa Aa na ca za) (hb : ZR w Sb sb Ab nb cb zb) (hna : na ≤ 1073741824) (hnb : nb ≤ 1073741824) : Calls Try.prog 79 #[(.agg #[(.int .i64 (sa)), (.slice Aa na ca)]), (.agg #[(.int .i64 (sb)), (.slice Ab nb cb)])] w (Ret fun v w' => ∃ (sr : Int) (Ar : Option Addr) (nr : Nat) (cr : Nat) (zr : Int), v = (.agg #[(.int .i64 (sr)), (.slice Ar nr cr)]) ∧ Ext w w' ∧ ZR w' (fun b => w.heap.size ≤ b) sr Ar nr cr zr ∧ (zr = za + zb) ∧ (nr ≤ max na nb + 1)) := by
  have ⟨sga, ka, ma⟩ := ha.lkm
  replace ha := ha.low
  have ⟨sgb, kb, mb⟩ := hb.lkm
  replace hb := hb.low
  refine enter Try.func79 rfl Try.ntmps79 rfl ?_
  have hss := mul_sign_rng sga sgb; have hra := sign_rng sga; have hrb := sign_rng sgb
  refine rS fun K1 hK1 => sO (oBox [(.int .i64 (sa)), (.slice Aa na ca)] rfl rfl (fun g2 w3 hg4 hE5 hz6 hB7 => sO (oBox [(.int .i64 (sb)), (.slice Ab nb cb)] rfl rfl (fun g8 w9 hg10 hE11 hz12 hB13 => sO (oAlloc [(.int .i64 (0)), (.slice none 0 0)] zero31 rfl (fun g14 w15 hg16 hE17 hz18 hB19 => sK hK1 (wp_seq_k fun K20 hK20 => rS fun K21 hK21 => sV (evFA 0 fa31_0 rfl rfl) ?_)))))))
  have hR22 := hE11.trans hE17
  have hB23 := (hB7.ext hR22)
  refine sV (evLoadB one3 rfl hB23 rfl) (sV (evFA 0 fa31_0 rfl rfl) ?_)
  have hB24 := (hB13.ext hE17)
  refine sV (evLoadB one3 rfl hB24 rfl) (sV (evMul (sa * sb) rfl rfl (wI64 (by omega))) ?_)
  by_cases hc25 : (sa * sb) ≥ 0
  · refine sV (evGeq true rfl rfl (dT hc25)) (sK hK21 (cT rfl (wp_seq_k fun K26 hK26 => dBegin (fun b => b = g14) mixed (fun w27 hE28 hz29 => dV 0 rfl (fun _ _ => evFA 0 fa31_0 rfl rfl) ?_))))
    have hB30 := (hB23.ext hE28)
    refine dV 1 rfl (fun _ hf => evLoadB one3 rfl (hB30.frm hf q1) rfl) (dV 2 rfl (fun _ _ => evFA 0 fa31_0 rfl rfl) ?_)
    have hB31 := (hB24.ext hE28)
    refine dV 3 rfl (fun _ hf => evLoadB one3 rfl (hB31.frm hf q1) rfl) (dV 4 rfl (fun _ _ => evAdd (sa + sb) rfl rfl wI) (dV 5 rfl (fun _ _ => evLss (decide (sa + sb < 0)) rfl rfl (rfl)) (dV 6 rfl (fun _ _ => evFA 1 fa31_1 rfl rfl) (dV 7 rfl (fun _ hf => evLoadB one29 rfl (hB30.frm hf q1) rfl) (dV 8 rfl (fun _ _ => evFA 1 fa31_1 rfl rfl) (dV 9 rfl (fun _ hf => evLoadB one29 rfl (hB31.frm hf q1) rfl) ?_))))))
    have hR32 := ((hE5.trans hE11).trans hE17).trans hE28
    have h33 := (ha.ext hR32)
    obtain ⟨bs_34, hb_34, cb_34, vb_34⟩ := h33.2
    have lb_34 := hb_34.len
    have h36 := (hb.ext hR32)
    obtain ⟨bs_37, hb_37, cb_37, vb_37⟩ := h36.2
    have lb_37 := hb_37.len
    refine dOp 10 rfl rfl (by kernel_rfl) (oCall rfl call100 (ref01_Add hb_34 hb_37 (by omega) (by omega)) rfl ?_)
    rintro _ w40 ⟨Ar_39, nr_39, cr_39, dr_39, rfl, hE41, hr_39, v_39, cn_39, le_39⟩
    refine ⟨(Frm.of_ext hE41), ?_⟩
    have hz42 := hE41.size
    have ⟨lr_39, kr_39, mr_39⟩ := hr_39.lkm
    refine dOp 11 rfl rfl (by kernel_rfl) (oCall rfl call33 (ref02_Make hr_39) rfl ?_)
    rintro _ w45 ⟨sr_44, Ar_44, nr_44, cr_44, zr_44, rfl, hE46, hr_44, v_44, le_44⟩
    refine ⟨(Frm.of_ext hE46), ?_⟩
    have hz47 := hE46.size
    have ⟨sgr_44, kr_44, mr_44⟩ := hr_44.lkm
    have hR49 := (hE28.trans hE41).trans hE46
    have hB50 := (hB19.ext hR49)
    refine dOp 12 rfl rfl (by kernel_rfl) (oStore [(.int .i64 (sr_44)), (.slice Ar_44 nr_44 cr_44)] rfl rfl rfl sz31 rfl hB50 (Nat.le_of_ble_eq_true rfl) (fun w51 hU52 hz53 hB54 => ?_))
    replace hB54 : Blk w51 g14 31 [(.int .i64 (sr_44)), (.slice Ar_44 nr_44 cr_44)] := hB54
    refine ⟨hU52, dDone (by kernel_rfl) (xN (hK26 _ _ (wp_ret (xR (ret1 (.agg #[(.int .i64 (sr_44)), (.slice Ar_44 nr_44 cr_44)]) Try.results79 (resB [(.int .i64 (sr_44)), (.slice Ar_44 nr_44 cr_44)] agg31 sz31 rfl hB54) ?_)))))⟩
    have hR55 := (hE41.trans hE46).rx hU52
    have h56 := (hb_34.frmB hR55 q3)
    have h57 := (hb_37.frmB hR55 q3)
    have h58 := (hr_44.frmB hU52 q3)
    have hR59 := ((hR32.trans hE41).trans hE46).rx hU52
    exact ⟨(sr_44), Ar_44, nr_44, cr_44, (zr_44), rfl, (Frm.mono hR59 q4), (ZR.sub h58 q5), (by rw [v_44, v_39]; exact zadd_same sga sgb hc25 vb_34 vb_37), (by omega)⟩
  · refine sV (evGeq false rfl rfl (dF hc25)) (sK hK21 (cF rfl (wp_skip (xN (hK20 _ _ (wp_seq_k fun K60 hK60 => rS fun K61 hK61 => sV (evFA 1 fa31_1 rfl rfl) (sV (evLoadB one29 rfl hB23 rfl) (sV (evFA 1 fa31_1 rfl rfl) (sV (evLoadB one29 rfl hB24 rfl) ?_)))))))))
    have hR62 := (hE5.trans hE11).trans hE17
    have h63 := (ha.ext hR62)
    obtain ⟨bs_64, hb_64, cb_64, vb_64⟩ := h63.2
    have lb_64 := hb_64.len
    have h66 := (hb.ext hR62)
    obtain ⟨bs_67, hb_67, cb_67, vb_67⟩ := h66.2
    have lb_67 := hb_67.len
    refine sO (oCall rfl call75 (ref01_Cmp hb_64 hb_67 (by omega) (by omega)) rfl ?_)
    rintro _ w70 ⟨xr_69, rfl, hE71, e_69⟩
    have hz72 := hE71.size
    by_cases hc73 : xr_69 ≥ 0
    · refine sV (evGeq true rfl rfl (dT hc73)) ?_
      have hle := cmpN_nn e_69 (by omega)
      refine sK hK61 (cT rfl (wp_seq_k fun K74 hK74 => dBegin (fun b => b = g14) mixed (fun w75 hE76 hz77 => dV 0 rfl (fun _ _ => evFA 0 fa31_0 rfl rfl) ?_)))
      have hR78 := hE71.trans hE76
      have hB79 := (hB23.ext hR78)
      refine dV 1 rfl (fun _ hf => evLoadB one3 rfl (hB79.frm hf q1) rfl) (dV 2 rfl (fun _ _ => evLss (decide (sa < 0)) rfl rfl (rfl)) (dV 3 rfl (fun _ _ => evFA 1 fa31_1 rfl rfl) (dV 4 rfl (fun _ hf => evLoadB one29 rfl (hB79.frm hf q1) rfl) (dV 5 rfl (fun _ _ => evFA 1 fa31_1 rfl rfl) ?_))))
      have hB80 := (hB24.ext hR78)
      refine dV 6 rfl (fun _ hf => evLoadB one29 rfl (hB80.frm hf q1) rfl) ?_
      have h81 := (hb_64.ext hR78)
      have h82 := (hb_67.ext hR78)
      refine dOp 7 rfl rfl (by kernel_rfl) (oCall rfl call101 (ref01_Sub h81 h82 (by omega) (by omega)) rfl ?_)
      rintro _ w84 ⟨Ar_83, nr_83, cr_83, dr_83, rfl, hE85, hr_83, v_83, cn_83, le_83⟩
      refine ⟨(Frm.of_ext hE85), ?_⟩
      have hz86 := hE85.size
      have ⟨lr_83, kr_83, mr_83⟩ := hr_83.lkm
      refine dOp 8 rfl rfl (by kernel_rfl) (oCall rfl call33 (ref02_Make hr_83) rfl ?_)
      rintro _ w89 ⟨sr_88, Ar_88, nr_88, cr_88, zr_88, rfl, hE90, hr_88, v_88, le_88⟩
      refine ⟨(Frm.of_ext hE90), ?_⟩
      have hz91 := hE90.size
      have ⟨sgr_88, kr_88, mr_88⟩ := hr_88.lkm
      have hR93 := (hR78.trans hE85).trans hE90
      have hB94 := (hB19.ext hR93)
      refine dOp 9 rfl rfl (by kernel_rfl) (oStore [(.int .i64 (sr_88)), (.slice Ar_88 nr_88 cr_88)] rfl rfl rfl sz31 rfl hB94 (Nat.le_of_ble_eq_true rfl) (fun w95 hU96 hz97 hB98 => ?_))
      replace hB98 : Blk w95 g14 31 [(.int .i64 (sr_88)), (.slice Ar_88 nr_88 cr_88)] := hB98
      refine ⟨hU96, dDone (by kernel_rfl) (xN (hK74 _ _ (wp_ret (xR (ret1 (.agg #[(.int .i64 (sr_88)), (.slice Ar_88 nr_88 cr_88)]) Try.results79 (resB [(.int .i64 (sr_88)), (.slice Ar_88 nr_88 cr_88)] agg31 sz31 rfl hB98) ?_)))))⟩
      have hR99 := (hE85.trans hE90).rx hU96
      have h100 := (h81.frmB hR99 q3)
      have h101 := (h82.frmB hR99 q3)
      have h102 := (hr_88.frmB hU96 q3)
      have hR103 := ((((hR62.trans hE71).trans hE76).trans hE85).trans hE90).rx hU96
      exact ⟨(sr_88), Ar_88, nr_88, cr_88, (zr_88), rfl, (Frm.mono hR103 q4), (ZR.sub h102 q5), (by rw [v_88, v_83]; exact zadd_ge sga sgb hc25 vb_64 vb_67 e_69 hc73), (by omega)⟩
    · refine sV (evGeq false rfl rfl (dF hc73)) ?_
      have hle := cmpN_neg e_69 (by omega)
      refine sK hK61 (cF rfl (wp_skip (xN (hK60 _ _ (wp_seq_k fun K104 hK104 => dBegin (fun b => b = g14) mixed (fun w105 hE106 hz107 => dV 0 rfl (fun _ _ => evFA 0 fa31_0 rfl rfl) ?_))))))
      have hR108 := hE71.trans hE106
      have hB109 := (hB24.ext hR108)
      refine dV 1 rfl (fun _ hf => evLoadB one3 rfl (hB109.frm hf q1) rfl) (dV 2 rfl (fun _ _ => evLss (decide (sb < 0)) rfl rfl (rfl)) (dV 3 rfl (fun _ _ => evFA 1 fa31_1 rfl rfl) (dV 4 rfl (fun _ hf => evLoadB one29 rfl (hB109.frm hf q1) rfl) (dV 5 rfl (fun _ _ => evFA 1 fa31_1 rfl rfl) ?_))))
      have hB110 := (hB23.ext hR108)
      refine dV 6 rfl (fun _ hf => evLoadB one29 rfl (hB110.frm hf q1) rfl) ?_
      have h111 := (hb_67.ext hR108)
      have h112 := (hb_64.ext hR108)
      refine dOp 7 rfl rfl (by kernel_rfl) (oCall rfl call101 (ref01_Sub h111 h112 (by omega) (by omega)) rfl ?_)
      rintro _ w114 ⟨Ar_113, nr_113, cr_113, dr_113, rfl, hE115, hr_113, v_113, cn_113, le_113⟩
      refine ⟨(Frm.of_ext hE115), ?_⟩
      have hz116 := hE115.size
      have ⟨lr_113, kr_113, mr_113⟩ := hr_113.lkm
      refine dOp 8 rfl rfl (by kernel_rfl) (oCall rfl call33 (ref02_Make hr_113) rfl ?_)
      rintro _ w119 ⟨sr_118, Ar_118, nr_118, cr_118, zr_118, rfl, hE120, hr_118, v_118, le_118⟩
      refine ⟨(Frm.of_ext hE120), ?_⟩
      have hz121 := hE120.size
      have ⟨sgr_118, kr_118, mr_118⟩ := hr_118.lkm
      have hR123 := (hR108.trans hE115).trans hE120
      have hB124 := (hB19.ext hR123)
      refine dOp 9 rfl rfl (by kernel_rfl) (oStore [(.int .i64 (sr_118)), (.slice Ar_118 nr_118 cr_118)] rfl rfl rfl sz31 rfl hB124 (Nat.le_of_ble_eq_true rfl) (fun w125 hU126 hz127 hB128 => ?_))
      replace hB128 : Blk w125 g14 31 [(.int .i64 (sr_118)), (.slice Ar_118 nr_118 cr_118)] := hB128
      refine ⟨hU126, dDone (by kernel_rfl) (xN (hK104 _ _ (wp_ret (ret1 (.agg #[(.int .i64 (sr_118)), (.slice Ar_118 nr_118 cr_118)]) Try.results79 (resB [(.int .i64 (sr_118)), (.slice Ar_118 nr_118 cr_118)] agg31 sz31 rfl hB128) ?_))))⟩
      have hR129 := (hE115.trans hE120).rx hU126
      have h130 := (h112.frmB hR129 q3)
      have h131 := (h111.frmB hR129 q3)
      have h132 := (hr_118.frmB hU126 q3)
      have hR133 := ((((hR62.trans hE71).trans hE106).trans hE115).trans hE120).rx hU126
      exact ⟨(sr_118), Ar_118, nr_118, cr_118, (zr_118), rfl, (Frm.mono hR133 q4), (ZR.sub h132 q5), (by rw [v_118, v_113]; exact zadd_lt sga sgb hc25 vb_64 vb_67 e_69 hc73), (by omega)⟩

theorem ref02_Mul {w : World} {Sa : Nat → Prop} {sa : Int} {Aa : Option Addr} {na ca : Nat} {za : Int} {Sb : Nat → Prop} {sb : Int} {Ab : Option Addr} {nb cb : Nat} {zb : Int} (ha : ZR w Sa sa Aa na ca za) (hb : ZR w Sb sb Ab nb cb zb) (hna : na ≤ 1073741824) (hnb : nb ≤ 1073741824) : Calls Try.prog 70 #[(.agg #[(.int .i64 (sa)), (.slice Aa na ca)]), (.agg #[(.int .i64 (sb)), (.slice Ab nb cb)])] w (Ret fun v w' => ∃ (sr : Int) (Ar : Option Addr) (nr : Nat) (cr : Nat) (zr : Int), v = (.agg #[(.int .i64 (sr)), (.slice Ar nr cr)]) ∧ Ext w w' ∧ ZR w' (fun b => w.heap.size ≤ b) sr Ar nr cr zr ∧ (zr = za * zb) ∧ (nr ≤ na + nb)) := by
  have ⟨sga, ka, ma⟩ := ha.lkm
  replace ha := ha.low
  have ⟨sgb, kb, mb⟩ := hb.lkm
  replace hb := hb.low
  refine enter Try.func70 rfl Try.ntmps70 rfl ?_
  have hss := mul_sign_rng sga sgb; have hra := sign_rng sga; have hrb := sign_rng sgb
  refine rS fun K1 hK1 => sO (oBox [(.int .i64 (sa)), (.slice Aa na ca)] rfl rfl (fun g2 w3 hg4 hE5 hz6 hB7 => sO (oBox [(.int .i64 (sb)), (.slice Ab nb cb)] rfl rfl (fun g8 w9 hg10 hE11 hz12 hB13 => sO (oAlloc [(.int .i64 (0)), (.slice none 0 0)] zero31 rfl (fun g14 w15 hg16 hE17 hz18 hB19 => sK hK1 (wp_seq_k fun K20 hK20 => dBegin (fun b => b = g14) mixed (fun w21 hE22 hz23 => dV 0 rfl (fun _ _ => evFA 0 fa31_0 rfl rfl) ?_))))))))
  have hR24 := (hE11.trans hE17).trans hE22
  have hB25 := (hB7.ext hR24)
  refine dV 1 rfl (fun _ hf => evLoadB one3 rfl (hB25.frm hf q1) rfl) (dV 2 rfl (fun _ _ => evFA 0 fa31_0 rfl rfl) ?_)
  have hR26 := hE17.trans hE22
  have hB27 := (hB13.ext hR26)
  refine dV 3 rfl (fun _ hf => evLoadB one3 rfl (hB27.frm hf q1) rfl) (dV 4 rfl (fun _ _ => evMul (sa * sb) rfl rfl (wI64 (by omega))) (dV 5 rfl (fun _ _ => evLss (decide (sa * sb < 0)) rfl rfl (rfl)) (dV 6 rfl (fun _ _ => evFA 1 fa31_1 rfl rfl) (dV 7 rfl (fun _ hf => evLoadB one29 rfl (hB25.frm hf q1) rfl) (dV 8 rfl (fun _ _ => evFA 1 fa31_1 rfl rfl) (dV 9 rfl (fun _ hf => evLoadB one29 rfl (hB27.frm hf q1) rfl) ?_))))))
  have hR28 := ((hE5.trans hE11).trans hE17).trans hE22
  have h29 := (ha.ext hR28)
  obtain ⟨bs_30, hb_30, cb_30, vb_30⟩ := h29.2
  have lb_30 := hb_30.len
  have h32 := (hb.ext hR28)
  obtain ⟨bs_33, hb_33, cb_33, vb_33⟩ := h32.2
  have lb_33 := hb_33.len
  refine dOp 10 rfl rfl (by kernel_rfl) (oCall rfl call97 (ref01_Mul hb_30 hb_33 (by omega) (by omega)) rfl ?_)
  rintro _ w36 ⟨Ar_35, nr_35, cr_35, dr_35, rfl, hE37, hr_35, v_35, cn_35, le_35⟩
  refine ⟨(Frm.of_ext hE37), ?_⟩
  have hz38 := hE37.size
  have ⟨lr_35, kr_35, mr_35⟩ := hr_35.lkm
  refine dOp 11 rfl rfl (by kernel_rfl) (oCall rfl call33 (ref02_Make hr_35) rfl ?_)
  rintro _ w41 ⟨sr_40, Ar_40, nr_40, cr_40, zr_40, rfl, hE42, hr_40, v_40, le_40⟩
  refine ⟨(Frm.of_ext hE42), ?_⟩
  have hz43 := hE42.size
  have ⟨sgr_40, kr_40, mr_40⟩ := hr_40.lkm
  have hR45 := (hE22.trans hE37).trans hE42
  have hB46 := (hB19.ext hR45)
  refine dOp 12 rfl rfl (by kernel_rfl) (oStore [(.int .i64 (sr_40)), (.slice Ar_40 nr_40 cr_40)] rfl rfl rfl sz31 rfl hB46 (Nat.le_of_ble_eq_true rfl) (fun w47 hU48 hz49 hB50 => ?_))
  replace hB50 : Blk w47 g14 31 [(.int .i64 (sr_40)), (.slice Ar_40 nr_40 cr_40)] := hB50
  refine ⟨hU48, dDone (by kernel_rfl) (xN (hK20 _ _ (wp_ret (ret1 (.agg #[(.int .i64 (sr_40)), (.slice Ar_40 nr_40 cr_40)]) Try.results70 (resB [(.int .i64 (sr_40)), (.slice Ar_40 nr_40 cr_40)] agg31 sz31 rfl hB50) ?_))))⟩
  have hR51 := (hE37.trans hE42).rx hU48
  have h52 := (hb_30.frmB hR51 q3)
  have h53 := (hb_33.frmB hR51 q3)
  have h54 := (hr_40.frmB hU48 q3)
  have hR55 := ((hR28.trans hE37).trans hE42).rx hU48
  exact ⟨(sr_40), Ar_40, nr_40, cr_40, (zr_40), rfl, (Frm.mono hR55 q4), (ZR.sub h54 q5), (by rw [v_40, v_35]; exact zmul_sgn sga sgb vb_30 vb_33), (by omega)⟩

theorem ref02_Small {w : World} {xn : Int}  (hx : -1099511627776 ≤ xn ∧ xn ≤ 1099511627776) : Calls Try.prog 15 #[(.int .i64 (xn))] w (Ret fun v w' => ∃ (sr : Int) (Ar : Option Addr) (nr : Nat) (cr : Nat) (zr : Int), v = (.agg #[(.int .i64 (sr)), (.slice Ar nr cr)]) ∧ Ext w w' ∧ ZR w' (fun b => w.heap.size ≤ b) sr Ar nr cr zr ∧ (zr = xn) ∧ (nr ≤ 41)) := by
  refine enter Try.func15 rfl Try.ntmps15 rfl (rS fun K1 hK1 => sO (oAlloc [(.int .i64 (0)), (.slice none 0 0)] zero31 rfl (fun g2 w3 hg4 hE5 hz6 hB7 => sK hK1 (rS fun K8 hK8 => sMi rfl ?_))))
  by_cases hc9 : xn < 0
  · refine sV (evLss true rfl rfl (dT hc9)) (sAb rfl (sK hK8 (wp_seq_k fun K10 hK10 => rS fun K11 hK11 => sMb rfl (sK hK11 (cT rfl (wp_region_lit (sMi rfl (sV (evNeg (-(xn)) rfl (wI64 (by omega))) (sAi rfl (sK hK10 (rS fun K12 hK12 => sAs rfl (sK hK12 (wp_seq_k fun K13 hK13 => wp_block ?_)))))))))))))
    refine lLoop (fun m e w_ => ∃ (k : Nat) (P : List Nat) (u : Nat) (Ao : Option Addr) (co : Nat), m = u ∧ e 0 = (.int .i64 ((u : Int))) ∧ e 2 = (.pointer (some ⟨g2, 0, none⟩)) ∧ e 3 = (.bool true) ∧ e 4 = (.slice Ao k co) ∧ Frm (fun b => w3.heap.size ≤ b) w3 w_ ∧ (k + u ≤ (-xn).toNat) ∧ (P.length = k) ∧ (∀ d ∈ P, d < 2) ∧ (vb 2 P + 2 ^ k * u = (-xn).toNat) ∧ (Own w_ w3.heap.size 3 1 Ao k co (P.map i64n))) (((-xn).toNat)) ?_ ?_
    · refine ⟨(0), ([]), ((-xn).toNat), (none), (0), rfl, cI, rfl, rfl, rfl, (Frm.refl _ _), ?_, ?_, ?_, ?_, ?_⟩
      · omega
      · rfl
      · simp
      · simp [vb]
      · exact Own.nil
    · rintro m14 e22 w15 ⟨k, P, u, Ao, co, hm21, hs16, hs17, hs18, hs19, hF20, hk, hP, hlt, hv, hO⟩
      obtain ⟨r23, rfl⟩ := sq (e := e22) (t := 0) hs16
      obtain ⟨r24, rfl⟩ := sq (e := r23) (t := 2) hs17
      obtain ⟨r25, rfl⟩ := sq (e := r24) (t := 3) hs18
      obtain ⟨r26, rfl⟩ := sq (e := r25) (t := 4) hs19
      have hz27 := hF20.size
      refine wp_seq_k fun K28 hK28 => rS fun K29 hK29 => sMi rfl ?_
      by_cases hc30 : ((u : Int)) > 0
      · refine sV (evGtr true rfl rfl (dT hc30)) (sK hK29 (cT rfl (wp_skip (xN (hK28 _ _ (wp_block (rS fun K31 hK31 => sMs rfl (sMi rfl (sV (evRem (((u % 2 : Nat) : Int)) rfl rfl (by omega) (remE (by omega) (by omega))) (sO (oBuildSlice [(.int .i64 (((u % 2 : Nat) : Int)))] [[(.int .i64 (((u % 2 : Nat) : Int)))]] Try.underlying29 inf3 rfl rfl rfl rfl rfl (fun g32 w33 hg34 hE35 hz36 hB37 => ?_))))))))))))
        replace hB37 : Blk w33 g32 3 [(.int .i64 (((u % 2 : Nat) : Int)))] := hB37
        have hO38 := (hO.ext hE35)
        refine sO (oApp (B := w3.heap.size) (cs := (P).map i64n) Try.underlying29 inf3 rfl (by decide) rfl rfl hO38 hB37 rfl rfl (by omega) (by omega) (by omega) (fun A39 c40 w41 hO42 hF43 _ _ => ?_))
        replace hO42 : Own w41 w3.heap.size 3 1 A39 (k + 1) c40 ((P ++ [u % 2]).map i64n) := by rw [List.map_append]; exact hO42
        refine sAs rfl (sK hK31 (wp_region_lit (sMi rfl (sV (evQuo (((u / 2 : Nat) : Int)) rfl rfl (by omega) (quoEi64 (by omega) (by omega) (by omega))) (sAi rfl (sDone (bN ?_)))))))
        have hR44 := hE35.rx hF43
        refine again ((u / 2)) (by omega) ⟨(k + 1), (P ++ [u % 2]), (u / 2), (A39), (c40), rfl, cI, rfl, rfl, rfl, (hF20.trans hR44), ?_, ?_, ?_, ?_, ?_⟩
        · omega
        · simp [hP]
        · exact vlt_snoc hlt (by omega)
        · exact small_step hv hP
        · exact hO42
      · refine sV (evGtr false rfl rfl (dF hc30)) (sK hK29 (cF rfl (wp_exit (xE (xE (bE (xN (hK13 _ _ (rS fun K45 hK45 => sMb rfl (sMs rfl (sO (oCall rfl call33 (ref02_Make (Own.digR hO hlt)) rfl ?_))))))))))))
        rintro _ w47 ⟨sr_46, Ar_46, nr_46, cr_46, zr_46, rfl, hE48, hr_46, v_46, le_46⟩
        have hz49 := hE48.size
        have ⟨sgr_46, kr_46, mr_46⟩ := hr_46.lkm
        have hR51 := hF20.xr hE48
        have hB52 := (hB7.frm hR51 q1)
        refine sO (oStore [(.int .i64 (sr_46)), (.slice Ar_46 nr_46 cr_46)] rfl rfl rfl sz31 rfl hB52 (Nat.le_of_ble_eq_true rfl) (fun w53 hU54 hz55 hB56 => ?_))
        replace hB56 : Blk w53 g2 31 [(.int .i64 (sr_46)), (.slice Ar_46 nr_46 cr_46)] := hB56
        refine sK hK45 (wp_ret (ret1 (.agg #[(.int .i64 (sr_46)), (.slice Ar_46 nr_46 cr_46)]) Try.results15 (resB [(.int .i64 (sr_46)), (.slice Ar_46 nr_46 cr_46)] agg31 sz31 rfl hB56) ?_))
        have hzz : zr_46 = xn := by rw [v_46, small_end hv (by omega), sgnv_true]; omega
        have h57 := (hr_46.frmB hU54 q3)
        have hR58 := ((hE5.rx hF20).xr hE48).tr hU54
        exact ⟨(sr_46), Ar_46, nr_46, cr_46, (zr_46), rfl, (Frm.mono hR58 q4), (ZR.sub h57 q5), hzz, (hr_46.len (m := 41) (by rw [hzz]; show _ < 2199023255552; omega))⟩
  · refine sV (evLss false rfl rfl (dF hc9)) (sAb rfl (sK hK8 (wp_seq_k fun K59 hK59 => rS fun K60 hK60 => sMb rfl (sK hK60 (cF rfl (wp_skip (xN (hK59 _ _ (rS fun K61 hK61 => sAs rfl (sK hK61 (wp_seq_k fun K62 hK62 => wp_block ?_)))))))))))
    refine lLoop (fun m e w_ => ∃ (k : Nat) (P : List Nat) (u : Nat) (Ao : Option Addr) (co : Nat), m = u ∧ e 0 = (.int .i64 ((u : Int))) ∧ e 2 = (.pointer (some ⟨g2, 0, none⟩)) ∧ e 3 = (.bool false) ∧ e 4 = (.slice Ao k co) ∧ Frm (fun b => w3.heap.size ≤ b) w3 w_ ∧ (k + u ≤ xn.toNat) ∧ (P.length = k) ∧ (∀ d ∈ P, d < 2) ∧ (vb 2 P + 2 ^ k * u = xn.toNat) ∧ (Own w_ w3.heap.size 3 1 Ao k co (P.map i64n))) ((xn.toNat)) ?_ ?_
    · refine ⟨(0), ([]), (xn.toNat), (none), (0), rfl, cI, rfl, rfl, rfl, (Frm.refl _ _), ?_, ?_, ?_, ?_, ?_⟩
      · omega
      · rfl
      · simp
      · simp [vb]
      · exact Own.nil
    · rintro m63 e71 w64 ⟨k, P, u, Ao, co, hm70, hs65, hs66, hs67, hs68, hF69, hk, hP, hlt, hv, hO⟩
      obtain ⟨r72, rfl⟩ := sq (e := e71) (t := 0) hs65
      obtain ⟨r73, rfl⟩ := sq (e := r72) (t := 2) hs66
      obtain ⟨r74, rfl⟩ := sq (e := r73) (t := 3) hs67
      obtain ⟨r75, rfl⟩ := sq (e := r74) (t := 4) hs68
      have hz76 := hF69.size
      refine wp_seq_k fun K77 hK77 => rS fun K78 hK78 => sMi rfl ?_
      by_cases hc79 : ((u : Int)) > 0
      · refine sV (evGtr true rfl rfl (dT hc79)) (sK hK78 (cT rfl (wp_skip (xN (hK77 _ _ (wp_block (rS fun K80 hK80 => sMs rfl (sMi rfl (sV (evRem (((u % 2 : Nat) : Int)) rfl rfl (by omega) (remE (by omega) (by omega))) (sO (oBuildSlice [(.int .i64 (((u % 2 : Nat) : Int)))] [[(.int .i64 (((u % 2 : Nat) : Int)))]] Try.underlying29 inf3 rfl rfl rfl rfl rfl (fun g81 w82 hg83 hE84 hz85 hB86 => ?_))))))))))))
        replace hB86 : Blk w82 g81 3 [(.int .i64 (((u % 2 : Nat) : Int)))] := hB86
        have hO87 := (hO.ext hE84)
        refine sO (oApp (B := w3.heap.size) (cs := (P).map i64n) Try.underlying29 inf3 rfl (by decide) rfl rfl hO87 hB86 rfl rfl (by omega) (by omega) (by omega) (fun A88 c89 w90 hO91 hF92 _ _ => ?_))
        replace hO91 : Own w90 w3.heap.size 3 1 A88 (k + 1) c89 ((P ++ [u % 2]).map i64n) := by rw [List.map_append]; exact hO91
        refine sAs rfl (sK hK80 (wp_region_lit (sMi rfl (sV (evQuo (((u / 2 : Nat) : Int)) rfl rfl (by omega) (quoEi64 (by omega) (by omega) (by omega))) (sAi rfl (sDone (bN ?_)))))))
        have hR93 := hE84.rx hF92
        refine again ((u / 2)) (by omega) ⟨(k + 1), (P ++ [u % 2]), (u / 2), (A88), (c89), rfl, cI, rfl, rfl, rfl, (hF69.trans hR93), ?_, ?_, ?_, ?_, ?_⟩
        · omega
        · simp [hP]
        · exact vlt_snoc hlt (by omega)
        · exact small_step hv hP
        · exact hO91
      · refine sV (evGtr false rfl rfl (dF hc79)) (sK hK78 (cF rfl (wp_exit (xE (xE (bE (xN (hK62 _ _ (rS fun K94 hK94 => sMb rfl (sMs rfl (sO (oCall rfl call33 (ref02_Make (Own.digR hO hlt)) rfl ?_))))))))))))
        rintro _ w96 ⟨sr_95, Ar_95, nr_95, cr_95, zr_95, rfl, hE97, hr_95, v_95, le_95⟩
        have hz98 := hE97.size
        have ⟨sgr_95, kr_95, mr_95⟩ := hr_95.lkm
        have hR100 := hF69.xr hE97
        have hB101 := (hB7.frm hR100 q1)
        refine sO (oStore [(.int .i64 (sr_95)), (.slice Ar_95 nr_95 cr_95)] rfl rfl rfl sz31 rfl hB101 (Nat.le_of_ble_eq_true rfl) (fun w102 hU103 hz104 hB105 => ?_))
        replace hB105 : Blk w102 g2 31 [(.int .i64 (sr_95)), (.slice Ar_95 nr_95 cr_95)] := hB105
        refine sK hK94 (wp_ret (ret1 (.agg #[(.int .i64 (sr_95)), (.slice Ar_95 nr_95 cr_95)]) Try.results15 (resB [(.int .i64 (sr_95)), (.slice Ar_95 nr_95 cr_95)] agg31 sz31 rfl hB105) ?_))
        have hzz : zr_95 = xn := by rw [v_95, small_end hv (by omega), sgnv_false]; omega
        have h106 := (hr_95.frmB hU103 q3)
        have hR107 := ((hE5.rx hF69).xr hE97).tr hU103
        exact ⟨(sr_95), Ar_95, nr_95, cr_95, (zr_95), rfl, (Frm.mono hR107 q4), (ZR.sub h106 q5), hzz, (hr_95.len (m := 41) (by rw [hzz]; show _ < 2199023255552; omega))⟩

end Go.Proofs.Ytppegjbdencefaa
