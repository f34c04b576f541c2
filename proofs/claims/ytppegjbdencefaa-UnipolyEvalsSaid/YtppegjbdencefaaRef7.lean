/-
  Walks of packages cylinderref03, cylinderref05: quotients, common divisors, fractions.
-/
import Derived.Test.YtppegjbdencefaaRef6
import Derived.Test.YtppegjbdencefaaRef3
import Derived.Test.YtppegjbdencefaaQPreds
namespace Go.Proofs.Ytppegjbdencefaa
open Go.RowKit Go.Gx
theorem ref03_Quo {w : World} {Sa : Nat → Prop} {sa : Int} {Aa : Option Addr} {na ca : Nat} {za : Int} {Sb : Nat → Prop} {sb : Int} {Ab : Option Addr} {nb cb : Nat} {zb : Int} (ha : ZR w Sa sa Aa na ca za) (hb : ZR w Sb sb Ab nb cb zb) (hna : na ≤ 1073741824) (hnb : nb ≤ 1073741824) (hb0 : zb ≠ 0) : Calls Try.prog 109 #[(.agg #[(.int .i64 (sa)), (.slice Aa na ca)]), (.agg #[(.int .i64 (sb)), (.slice Ab nb cb)])] w (Ret fun v w' => ∃ (sq : Int) (Aq : Option Addr) (nq : Nat) (cq : Nat) (zq : Int) (sr : Int) (Ar : Option Addr) (nr : Nat) (cr : Nat) (zr : Int), v = (.tuple #[(.agg #[(.int .i64 (sq)), (.slice Aq nq cq)]), (.agg #[(.int .i64 (sr)), (.slice Ar nr cr)])]) ∧ Ext w w' ∧ ZR w' (fun b => w.heap.size ≤ b) sq Aq nq cq zq ∧ ZR w' (fun b => w.heap.size ≤ b) sr Ar nr cr zr ∧ (zq = za.tdiv zb) ∧ (zr = za.tmod zb) ∧ (nq ≤ na) ∧ (nr ≤ nb)) := by
  have ⟨sga, ka, ma⟩ := ha.lkm
  replace ha := ha.low
  have ⟨sgb, kb, mb⟩ := hb.lkm
  replace hb := hb.low
  refine enter Try.func109 rfl Try.ntmps109 rfl ?_
  have hss := mul_sign_rng sga sgb; have hra := sign_rng sga; have hrb := sign_rng sgb
  refine rS fun K1 hK1 => sO (oBox [(.int .i64 (sa)), (.slice Aa na ca)] rfl rfl (fun g2 w3 hg4 hE5 hz6 hB7 => sO (oBox [(.int .i64 (sb)), (.slice Ab nb cb)] rfl rfl (fun g8 w9 hg10 hE11 hz12 hB13 => sO (oAlloc [(.int .i64 (0)), (.slice none 0 0)] zero31 rfl (fun g14 w15 hg16 hE17 hz18 hB19 => sO (oAlloc [(.int .i64 (0)), (.slice none 0 0)] zero31 rfl (fun g20 w21 hg22 hE23 hz24 hB25 => sK hK1 (rS fun K26 hK26 => sV (evFA 1 fa31_1 rfl rfl) ?_)))))))))
  have hR27 := (hE11.trans hE17).trans hE23
  have hB28 := (hB7.ext hR27)
  refine sV (evLoadB one29 rfl hB28 rfl) (sV (evFA 1 fa31_1 rfl rfl) ?_)
  have hR29 := hE17.trans hE23
  have hB30 := (hB13.ext hR29)
  refine sV (evLoadB one29 rfl hB30 rfl) ?_
  have hR31 := ((hE5.trans hE11).trans hE17).trans hE23
  have h32 := (ha.ext hR31)
  obtain ⟨bs_33, hb_33, cb_33, vb_33⟩ := h32.2
  have lb_33 := hb_33.len
  have h35 := (hb.ext hR31)
  obtain ⟨bs_36, hb_36, cb_36, vb_36⟩ := h35.2
  have lb_36 := hb_36.len
  refine sO (oCall rfl call120 (ref01_DivMod hb_33 hb_36 (by omega) (by omega) (by omega)) rfl ?_)
  rintro _ w39 ⟨Aq_38, nq_38, cq_38, dq_38, Ar_38, nr_38, cr_38, dr_38, rfl, hE40, hq_38, hr_38, vq_38, vr_38, cnq_38, cnr_38, leq_38, ler_38⟩
  have hz41 := hE40.size
  have ⟨lq_38, kq_38, mq_38⟩ := hq_38.lkm
  have ⟨lr_38, kr_38, mr_38⟩ := hr_38.lkm
  refine sV (v := (.tuple #[(.slice Aq_38 nq_38 cq_38), (.slice Ar_38 nr_38 cr_38)])) (rfl) (sV (v := (.slice Aq_38 nq_38 cq_38)) (rfl) (sV (v := (.slice Ar_38 nr_38 cr_38)) (rfl) (sAs rfl (sAs rfl (sK hK26 (wp_seq_k fun K44 hK44 => dBegin (fun b => b = g14 ∨ b = g20) mixed (fun w45 hE46 hz47 => dV 0 rfl (fun _ _ => evFA 0 fa31_0 rfl rfl) ?_)))))))
  have hR48 := hE40.trans hE46
  have hB49 := (hB28.ext hR48)
  refine dV 1 rfl (fun _ hf => evLoadB one3 rfl (hB49.frm hf q1) rfl) (dV 2 rfl (fun _ _ => evFA 0 fa31_0 rfl rfl) ?_)
  have hB50 := (hB30.ext hR48)
  refine dV 3 rfl (fun _ hf => evLoadB one3 rfl (hB50.frm hf q1) rfl) (dV 4 rfl (fun _ _ => evMul (sa * sb) rfl rfl (wI64 (by omega))) (dV 5 rfl (fun _ _ => evLss (decide (sa * sb < 0)) rfl rfl (rfl)) (dMs 6 rfl rfl (dV 8 rfl (fun _ _ => evFA 0 fa31_0 rfl rfl) (dV 9 rfl (fun _ hf => evLoadB one3 rfl (hB49.frm hf q1) rfl) (dV 10 rfl (fun _ _ => evLss (decide (sa < 0)) rfl rfl (rfl)) (dMs 11 rfl rfl ?_)))))))
  have h51 := (hq_38.ext hE46)
  refine dOp 7 rfl rfl (by kernel_rfl) (oCall rfl call33 (ref02_Make h51) rfl ?_)
  rintro _ w53 ⟨sr_52, Ar_52, nr_52, cr_52, zr_52, rfl, hE54, hr_52, v_52, le_52⟩
  refine ⟨(Frm.of_ext hE54), ?_⟩
  have hz55 := hE54.size
  have ⟨sgr_52, kr_52, mr_52⟩ := hr_52.lkm
  have hR57 := hE46.trans hE54
  have h58 := (hr_38.ext hR57)
  refine dOp 12 rfl rfl (by kernel_rfl) (oCall rfl call33 (ref02_Make h58) rfl ?_)
  rintro _ w60 ⟨sr_59, Ar_59, nr_59, cr_59, zr_59, rfl, hE61, hr_59, v_59, le_59⟩
  refine ⟨(Frm.of_ext hE61), ?_⟩
  have hz62 := hE61.size
  have ⟨sgr_59, kr_59, mr_59⟩ := hr_59.lkm
  have hR64 := (((hE23.trans hE40).trans hE46).trans hE54).trans hE61
  have hB65 := (hB19.ext hR64)
  refine dOp 13 rfl rfl (by kernel_rfl) (oStore [(.int .i64 (sr_52)), (.slice Ar_52 nr_52 cr_52)] rfl rfl rfl sz31 rfl hB65 (Nat.le_of_ble_eq_true rfl) (fun w66 hU67 hz68 hB69 => ?_))
  replace hB69 : Blk w66 g14 31 [(.int .i64 (sr_52)), (.slice Ar_52 nr_52 cr_52)] := hB69
  refine ⟨(hU67.mono q4), ?_⟩
  have hR70 := ((hR48.trans hE54).trans hE61).rx hU67
  have hB71 := (hB25.frm hR70 q1)
  refine dOp 14 rfl rfl (by kernel_rfl) (oStore [(.int .i64 (sr_59)), (.slice Ar_59 nr_59 cr_59)] rfl rfl rfl sz31 rfl hB71 (Nat.le_of_ble_eq_true rfl) (fun w72 hU73 hz74 hB75 => ?_))
  replace hB75 : Blk w72 g20 31 [(.int .i64 (sr_59)), (.slice Ar_59 nr_59 cr_59)] := hB75
  refine ⟨(hU73.mono q4), dDone (by kernel_rfl) (xN (hK44 _ _ (wp_ret ?_)))⟩
  have hB76 := (hB69.frm hU73 q1)
  refine ret2 (.agg #[(.int .i64 (sr_52)), (.slice Ar_52 nr_52 cr_52)]) (.agg #[(.int .i64 (sr_59)), (.slice Ar_59 nr_59 cr_59)]) Try.results109 (resB [(.int .i64 (sr_52)), (.slice Ar_52 nr_52 cr_52)] agg31 sz31 rfl hB76) (resB [(.int .i64 (sr_59)), (.slice Ar_59 nr_59 cr_59)] agg31 sz31 rfl hB75) ?_
  have hR77 := (hE61.rx hU67).tr hU73
  have h78 := (hr_52.frmB hR77 q3)
  have hR79 := hU67.tr hU73
  have h80 := (hr_59.frmB hR79 q3)
  have hR81 := (((((hR31.trans hE40).trans hE46).trans hE54).trans hE61).rx hU67).tr hU73
  exact ⟨(sr_52), Ar_52, nr_52, cr_52, (zr_52), (sr_59), Ar_59, nr_59, cr_59, (zr_59), rfl, (Frm.mono hR81 q4), (ZR.sub h78 q5), (ZR.sub h80 q5), (by rw [v_52, vq_38]; exact quo_sgn sga sgb vb_33 vb_36), (by rw [v_59, vr_38]; exact rem_sgn sga vb_33 vb_36), (by omega), (by omega)⟩

theorem ref03_Abs {w : World} {Sa : Nat → Prop} {sa : Int} {Aa : Option Addr} {na ca : Nat} {za : Int} (ha : ZR w Sa sa Aa na ca za)  : Calls Try.prog 119 #[(.agg #[(.int .i64 (sa)), (.slice Aa na ca)])] w (Ret fun v w' => ∃ (sr : Int) (Ar : Option Addr) (nr : Nat) (cr : Nat) (zr : Int), v = (.agg #[(.int .i64 (sr)), (.slice Ar nr cr)]) ∧ Ext w w' ∧ ZR w' (Sa) sr Ar nr cr zr ∧ (zr = (za.natAbs : Int)) ∧ (nr ≤ na)) := by
  have ⟨sga, ka, ma⟩ := ha.lkm
  replace ha := ha.sub (S' := fun b => Sa b ∧ b < w.heap.size) fun _ hb hs => ⟨hs, hb⟩
  refine enter Try.func119 rfl Try.ntmps119 rfl (rS fun K1 hK1 => sO (oBox [(.int .i64 (sa)), (.slice Aa na ca)] rfl rfl (fun g2 w3 hg4 hE5 hz6 hB7 => sO (oAlloc [(.int .i64 (0)), (.slice none 0 0)] zero31 rfl (fun g8 w9 hg10 hE11 hz12 hB13 => sK hK1 (rS fun K14 hK14 => sV (evFA 1 fa31_1 rfl rfl) ?_))))))
  have hB15 := (hB7.ext hE11)
  refine sV (evLoadB one29 rfl hB15 rfl) ?_
  have hR16 := hE5.trans hE11
  have h17 := (ha.ext hR16)
  obtain ⟨bs_18, hb_18, cb_18, vb_18⟩ := h17.2
  have lb_18 := hb_18.len
  refine sO (oCall rfl call33 (ref02_Make hb_18) rfl ?_)
  rintro _ w21 ⟨sr_20, Ar_20, nr_20, cr_20, zr_20, rfl, hE22, hr_20, v_20, le_20⟩
  have hz23 := hE22.size
  have ⟨sgr_20, kr_20, mr_20⟩ := hr_20.lkm
  have hB25 := (hB13.ext hE22)
  refine sO (oStore [(.int .i64 (sr_20)), (.slice Ar_20 nr_20 cr_20)] rfl rfl rfl sz31 rfl hB25 (Nat.le_of_ble_eq_true rfl) (fun w26 hU27 hz28 hB29 => ?_))
  replace hB29 : Blk w26 g8 31 [(.int .i64 (sr_20)), (.slice Ar_20 nr_20 cr_20)] := hB29
  refine sK hK14 (wp_ret (ret1 (.agg #[(.int .i64 (sr_20)), (.slice Ar_20 nr_20 cr_20)]) Try.results119 (resB [(.int .i64 (sr_20)), (.slice Ar_20 nr_20 cr_20)] agg31 sz31 rfl hB29) ?_))
  have h30 := (hr_20.frmB hU27 q3)
  have hR31 := (hR16.trans hE22).rx hU27
  exact ⟨(sr_20), Ar_20, nr_20, cr_20, (zr_20), rfl, (Frm.mono hR31 q4), (ZR.sub h30 fun _ _ h => h.1), (by rw [v_20, vb_18]; rfl), (by omega)⟩

theorem ref03_Gcd {w : World} {Sa : Nat → Prop} {sa : Int} {Aa : Option Addr} {na ca : Nat} {za : Int} {Sb : Nat → Prop} {sb : Int} {Ab : Option Addr} {nb cb : Nat} {zb : Int} (ha : ZR w Sa sa Aa na ca za) (hb : ZR w Sb sb Ab nb cb zb) (hna : na ≤ 268435456) (hnb : nb ≤ 268435456) : Calls Try.prog 108 #[(.agg #[(.int .i64 (sa)), (.slice Aa na ca)]), (.agg #[(.int .i64 (sb)), (.slice Ab nb cb)])] w (Ret fun v w' => ∃ (sr : Int) (Ar : Option Addr) (nr : Nat) (cr : Nat) (zr : Int), v = (.agg #[(.int .i64 (sr)), (.slice Ar nr cr)]) ∧ Ext w w' ∧ ZR w' (fun _ => True) sr Ar nr cr zr ∧ (zr = (Nat.gcd za.natAbs zb.natAbs : Int)) ∧ (nr ≤ na + nb)) := by
  have ⟨sga, ka, ma⟩ := ha.lkm
  replace ha := ha.low
  have ⟨sgb, kb, mb⟩ := hb.lkm
  replace hb := hb.low
  refine enter Try.func108 rfl Try.ntmps108 rfl (rS fun K1 hK1 => sO (oBox [(.int .i64 (sa)), (.slice Aa na ca)] rfl rfl (fun g2 w3 hg4 hE5 hz6 hB7 => sO (oBox [(.int .i64 (sb)), (.slice Ab nb cb)] rfl rfl (fun g8 w9 hg10 hE11 hz12 hB13 => sO (oAlloc [(.int .i64 (0)), (.slice none 0 0)] zero31 rfl (fun g14 w15 hg16 hE17 hz18 hB19 => sK hK1 (wp_seq_k fun K20 hK20 => dBegin (fun b => w15.heap.size ≤ b) mixed (fun w21 hE22 hz23 => ?_)))))))))
  have hR24 := (hE11.trans hE17).trans hE22
  have hB25 := (hB7.ext hR24)
  refine dV 0 rfl (fun _ hf => evLoadAB [(.int .i64 (sa)), (.slice Aa na ca)] agg31 sz31 rfl (hB25.frm hf q1) rfl) ?_
  have hR26 := hE17.trans hE22
  have hB27 := (hB13.ext hR26)
  refine dV 2 rfl (fun _ hf => evLoadAB [(.int .i64 (sb)), (.slice Ab nb cb)] agg31 sz31 rfl (hB27.frm hf q1) rfl) (wAl2 (fun k => bif Nat.beq k 4 then (5, 31, [(.int .i64 (0)), (.slice none 0 0)]) else (6, 31, [(.int .i64 (0)), (.slice none 0 0)])) 4 5 (alOp rfl rfl zero31 rfl) (alOp rfl rfl zero31 rfl) rfl fun F28 => wOp F28 1 (by kernel_rfl) fun fl29 w30 hE31 => ?_)
  have hz32 := hE31.size
  have hR33 := (((hE5.trans hE11).trans hE17).trans hE22).trans hE31
  have h34 := (ha.ext hR33)
  refine dWp (i := 1) rfl rfl (oCall rfl call119 (ref03_Abs h34) rfl ?_)
  rintro _ w36 ⟨sr_35, Ar_35, nr_35, cr_35, zr_35, rfl, hE37, hr_35, v_35, le_35⟩
  refine ⟨hE37, wNext rfl ?_⟩
  have hz38 := hE37.size
  have ⟨sgr_35, kr_35, mr_35⟩ := hr_35.lkm
  refine wOp F28 3 (by kernel_rfl) fun fl40 w41 hE42 => ?_
  have hz43 := hE42.size
  have hR44 := (hR33.trans hE37).trans hE42
  have h45 := (hb.ext hR44)
  refine dWp (i := 3) rfl rfl (oCall rfl call119 (ref03_Abs h45) rfl ?_)
  rintro _ w47 ⟨sr_46, Ar_46, nr_46, cr_46, zr_46, rfl, hE48, hr_46, v_46, le_46⟩
  refine ⟨hE48, wNext rfl ?_⟩
  have hz49 := hE48.size
  have ⟨sgr_46, kr_46, mr_46⟩ := hr_46.lkm
  refine wEnd2 F28 #[true, true, true, true, true, true, false, false] (by kernel_rfl) fun g51 g52 w53 hE54 hb55 hb56 hne61 hB57 hB58 ho59 ho60 => ?_
  have hz62 := hE54.size
  have lt63 := hB57.lt
  have lt64 := hB58.lt
  refine dOp 6 rfl rfl (by kernel_rfl) (oStore [(.int .i64 (sr_35)), (.slice Ar_35 nr_35 cr_35)] rfl rfl rfl sz31 rfl hB57 (Nat.le_of_ble_eq_true rfl) (fun w65 hU66 hz67 hB68 => ?_))
  replace hB68 : Blk w65 g51 31 [(.int .i64 (sr_35)), (.slice Ar_35 nr_35 cr_35)] := hB68
  refine ⟨(hU66.mono q4), ?_⟩
  have hB69 := (hB58.frm hU66 q1)
  refine dOp 7 rfl rfl (by kernel_rfl) (oStore [(.int .i64 (sr_46)), (.slice Ar_46 nr_46 cr_46)] rfl rfl rfl sz31 rfl hB69 (Nat.le_of_ble_eq_true rfl) (fun w70 hU71 hz72 hB73 => ?_))
  replace hB73 : Blk w70 g52 31 [(.int .i64 (sr_46)), (.slice Ar_46 nr_46 cr_46)] := hB73
  refine ⟨(hU71.mono q4), dDone (by kernel_rfl) (xN (hK20 _ _ (wp_seq_k fun K74 hK74 => wp_block ?_)))⟩
  have hB76 := (hB68.frm hU71 q1)
  have hR77 := (((hE42.trans hE48).trans hE54).rx hU66).tr hU71
  have h78 := (hr_35.frmB hR77 q3)
  have hR79 := (hE54.rx hU66).tr hU71
  have h80 := (hr_46.frmB hR79 q3)
  refine lLoop (fun m e w_ => ∃ (sx : Int) (Ax : Option Addr) (nx : Nat) (cx : Nat) (zx : Int) (sy : Int) (Ay : Option Addr) (ny : Nat) (cy : Nat) (zy : Int), m = zy.natAbs ∧ e 4 = (.pointer (some ⟨g14, 0, none⟩)) ∧ e 5 = (.pointer (some ⟨g51, 0, none⟩)) ∧ e 6 = (.pointer (some ⟨g52, 0, none⟩)) ∧ Frm (fun b => b = g51 ∨ b = g52) w70 w_ ∧ Blk w_ g51 31 ([.int .i64 sx, .slice Ax nx cx]) ∧ Blk w_ g52 31 ([.int .i64 sy, .slice Ay ny cy]) ∧ (nx ≤ na + nb) ∧ (ny ≤ na + nb) ∧ (0 ≤ zx) ∧ (0 ≤ zy) ∧ (Nat.gcd zx.natAbs zy.natAbs = Nat.gcd za.natAbs zb.natAbs) ∧ (ZR w_ (fun b => b ≠ g51 ∧ b ≠ g52 ∧ b ≠ g14) sx Ax nx cx zx) ∧ (ZR w_ (fun b => b ≠ g51 ∧ b ≠ g52 ∧ b ≠ g14) sy Ay ny cy zy)) ((zr_46).natAbs) ?_ ?_
  · refine ⟨(sr_35), (Ar_35), (nr_35), (cr_35), (zr_35), (sr_46), (Ar_46), (nr_46), (cr_46), (zr_46), rfl, rfl, rfl, rfl, (Frm.refl _ _), ?_, ?_, ?_, ?_, ?_, ?_, ?_, ?_, ?_⟩
    · exact hB76
    · exact hB73
    · omega
    · omega
    · rw [v_35]; omega
    · rw [v_46]; omega
    · rw [v_35, v_46]; rfl
    · exact ZR.sub h78 q5
    · exact ZR.sub h80 q5
  · rintro m75 e89 w81 ⟨sx, Ax, nx, cx, zx, sy, Ay, ny, cy, zy, hm88, hs82, hs83, hs84, hF85, hB86, hB87, bnx, bny, hx0, hy0, hg, hX, hY⟩
    obtain ⟨r90, rfl⟩ := sq (e := e89) (t := 4) hs82
    obtain ⟨r91, rfl⟩ := sq (e := r90) (t := 5) hs83
    obtain ⟨r92, rfl⟩ := sq (e := r91) (t := 6) hs84
    have hz93 := hF85.size
    have ⟨sgx, kx, mx⟩ := hX.lkm; have ⟨sgy, ky, my⟩ := hY.lkm
    refine wp_seq_k fun K94 hK94 => rS fun K95 hK95 => sV (evFA 0 fa31_0 rfl rfl) (sV (evLoadB one3 rfl hB87 rfl) ?_)
    by_cases hc96 : sy ≠ 0
    · refine sV (evNeq true rfl rfl (dT hc96)) ?_
      have hyn : zy ≠ 0 := by rcases sign_rng sgy with h | h | h <;> omega
      refine sK hK95 (cT rfl (wp_skip (xN (hK94 _ _ (wp_block (rS fun K97 hK97 => sV (evLoadAB [(.int .i64 (sx)), (.slice Ax nx cx)] agg31 sz31 rfl hB86 rfl) (sV (evLoadAB [(.int .i64 (sy)), (.slice Ay ny cy)] agg31 sz31 rfl hB87 rfl) (sO (oCall rfl call109 (ref03_Quo hX hY (by omega) (by omega) (by omega)) rfl ?_)))))))))
      rintro _ w99 ⟨sq_98, Aq_98, nq_98, cq_98, zq_98, sr_98, Ar_98, nr_98, cr_98, zr_98, rfl, hE100, hq_98, hr_98, vq_98, vr_98, leq_98, ler_98⟩
      have hz101 := hE100.size
      have ⟨sgq_98, kq_98, mq_98⟩ := hq_98.lkm
      have ⟨sgr_98, kr_98, mr_98⟩ := hr_98.lkm
      have hlt := tmod_less hyn vr_98
      have h104 := hq_98.sub (S' := fun b => (w81.heap.size ≤ b) ∧ b < w99.heap.size) fun _ hb hs => ⟨hs, hb⟩
      have h105 := hr_98.sub (S' := fun b => (w81.heap.size ≤ b) ∧ b < w99.heap.size) fun _ hb hs => ⟨hs, hb⟩
      refine sV (v := (.tuple #[(.agg #[(.int .i64 (sq_98)), (.slice Aq_98 nq_98 cq_98)]), (.agg #[(.int .i64 (sr_98)), (.slice Ar_98 nr_98 cr_98)])])) (rfl) (sV (v := (.agg #[(.int .i64 (sq_98)), (.slice Aq_98 nq_98 cq_98)])) (rfl) (sV (v := (.agg #[(.int .i64 (sr_98)), (.slice Ar_98 nr_98 cr_98)])) (rfl) (sO (oAlloc [(.int .i64 (0)), (.slice none 0 0)] zero31 rfl (fun g106 w107 hg108 hE109 hz110 hB111 => sO (oAlloc [(.int .i64 (0)), (.slice none 0 0)] zero31 rfl (fun g112 w113 hg114 hE115 hz116 hB117 => ?_)))))))
      have hB118 := (hB111.ext hE115)
      refine sO (oStore [(.int .i64 (sq_98)), (.slice Aq_98 nq_98 cq_98)] rfl rfl rfl sz31 rfl hB118 (Nat.le_of_ble_eq_true rfl) (fun w119 hU120 hz121 hB122 => ?_))
      replace hB122 : Blk w119 g106 31 [(.int .i64 (sq_98)), (.slice Aq_98 nq_98 cq_98)] := hB122
      have hB123 := (hB117.frm hU120 q1)
      refine sO (oStore [(.int .i64 (sr_98)), (.slice Ar_98 nr_98 cr_98)] rfl rfl rfl sz31 rfl hB123 (Nat.le_of_ble_eq_true rfl) (fun w124 hU125 hz126 hB127 => ?_))
      replace hB127 : Blk w124 g112 31 [(.int .i64 (sr_98)), (.slice Ar_98 nr_98 cr_98)] := hB127
      refine sK hK97 (rS fun K128 hK128 => ?_)
      have hR129 := (((hE100.trans hE109).trans hE115).rx hU120).tr hU125
      have hB130 := (hB87.frm hR129 q1)
      refine sV (evLoadAB [(.int .i64 (sy)), (.slice Ay ny cy)] agg31 sz31 rfl hB130 rfl) ?_
      have hB131 := (hB86.frm hR129 q1)
      refine sO (oStore [(.int .i64 (sy)), (.slice Ay ny cy)] rfl rfl rfl sz31 rfl hB131 (Nat.le_of_ble_eq_true rfl) (fun w132 hU133 hz134 hB135 => ?_))
      replace hB135 : Blk w132 g51 31 [(.int .i64 (sy)), (.slice Ay ny cy)] := hB135
      refine sK hK128 (wp_region_lit ?_)
      have hB136 := (hB127.frm hU133 q1)
      refine sV (evLoadAB [(.int .i64 (sr_98)), (.slice Ar_98 nr_98 cr_98)] agg31 sz31 rfl hB136 rfl) ?_
      have hB137 := (hB130.frm hU133 q1)
      refine sO (oStore [(.int .i64 (sr_98)), (.slice Ar_98 nr_98 cr_98)] rfl rfl rfl sz31 rfl hB137 (Nat.le_of_ble_eq_true rfl) (fun w138 hU139 hz140 hB141 => ?_))
      replace hB141 : Blk w138 g52 31 [(.int .i64 (sr_98)), (.slice Ar_98 nr_98 cr_98)] := hB141
      refine sDone (bN ?_)
      have hR142 := (hR129.tr hU133).tr hU139
      have hB143 := (hB135.frm hU139 q1)
      have h144 := (hY.frmB hR142 q3)
      have hR145 := ((((hE109.trans hE115).rx hU120).tr hU125).tr hU133).tr hU139
      have h146 := (h105.frmB hR145 q3)
      refine again ((zr_98).natAbs) (by omega) ⟨(sy), (Ay), (ny), (cy), (zy), (sr_98), (Ar_98), (nr_98), (cr_98), (zr_98), rfl, rfl, rfl, rfl, (Frm.mono (hF85.tr hR142) q4), ?_, ?_, ?_, ?_, ?_, ?_, ?_, ?_, ?_⟩
      · exact hB143
      · exact hB141
      · omega
      · omega
      · omega
      · rw [vr_98]; exact Int.tmod_nonneg _ hx0
      · rw [← hg]; exact gcd_down vr_98
      · exact ZR.sub h144 q5
      · exact ZR.sub h146 q5
    · refine sV (evNeq false rfl rfl (dF hc96)) ?_
      have hyz : zy = 0 := by rcases sign_rng sgy with h | h | h <;> omega
      refine sK hK95 (cF rfl (wp_exit (xE (xE (bE (xN (hK74 _ _ (rS fun K147 hK147 => sV (evLoadAB [(.int .i64 (sx)), (.slice Ax nx cx)] agg31 sz31 rfl hB86 rfl) ?_))))))))
      have hR148 := (((((((hE22.trans hE31).trans hE37).trans hE42).trans hE48).trans hE54).rx hU66).tr hU71).tr hF85
      have hB149 := (hB19.frm hR148 q1)
      refine sO (oStore [(.int .i64 (sx)), (.slice Ax nx cx)] rfl rfl rfl sz31 rfl hB149 (Nat.le_of_ble_eq_true rfl) (fun w150 hU151 hz152 hB153 => ?_))
      replace hB153 : Blk w150 g14 31 [(.int .i64 (sx)), (.slice Ax nx cx)] := hB153
      refine sK hK147 (wp_ret (ret1 (.agg #[(.int .i64 (sx)), (.slice Ax nx cx)]) Try.results108 (resB [(.int .i64 (sx)), (.slice Ax nx cx)] agg31 sz31 rfl hB153) ?_))
      have h154 := (hX.frmB hU151 q3)
      have hR155 := (((((hR44.trans hE48).trans hE54).rx hU66).tr hU71).tr hF85).tr hU151
      exact ⟨(sx), Ax, nx, cx, (zx), rfl, (Frm.mono hR155 q4), (ZR.sub h154 fun _ _ _ => trivial), (by rw [← hg, hyz]; simp; omega), (by omega)⟩

theorem ref05_Of {w : World} {gn : Bool} {Sa : Nat → Prop} {Aa : Option Addr} {na ca : Nat} {da : List Nat} {Sd : Nat → Prop} {Ad : Option Addr} {nd cd : Nat} {dd : List Nat} (ha : NatR w Sa Aa na ca da) (hd : NatR w Sd Ad nd cd dd) (hna : na ≤ 1048576) (hnd : nd ≤ 1048576) : Calls Try.prog 51 #[(.bool gn), (.slice Aa na ca), (.slice Ad nd cd)] w (Ret fun v w' => ∃ (sr : Int) (Ar : Option Addr) (nr : Nat) (cr : Nat) (zr : Int) (srv : Int) (Arv : Option Addr) (nrv : Nat) (crv : Nat) (zrv : Int), v = (.agg #[(.int .i64 (sr)), (.slice Ar nr cr), (.int .i64 (srv)), (.slice Arv nrv crv)]) ∧ Ext w w' ∧ ZR w' (fun b => w.heap.size ≤ b) sr Ar nr cr zr ∧ ZR w' (fun b => w.heap.size ≤ b) srv Arv nrv crv zrv ∧ (zr = rnum (zval gn da) (val dd)) ∧ (zrv = (rden (val dd) : Int)) ∧ (nr ≤ 32 * na) ∧ (nrv ≤ 32 * nd + 41)) := by
  have ⟨la, ka, ma⟩ := ha.lkm
  replace ha := ha.low
  have ⟨ld, kd, md⟩ := hd.lkm
  replace hd := hd.low
  refine enter Try.func51 rfl Try.ntmps51 rfl (rS fun K1 hK1 => sO (oAlloc [(.int .i64 (0)), (.slice none 0 0), (.int .i64 (0)), (.slice none 0 0)] zero67 rfl (fun g2 w3 hg4 hE5 hz6 hB7 => sK hK1 (rS fun K8 hK8 => sMs rfl ?_))))
  have h9 := (hd.ext hE5)
  refine sO (oCall rfl call65 (ref02_Of h9 (by omega)) rfl ?_)
  rintro _ w11 ⟨sr_10, Ar_10, nr_10, cr_10, zr_10, rfl, hE12, hr_10, v_10, le_10⟩
  have hz13 := hE12.size
  have ⟨sgr_10, kr_10, mr_10⟩ := hr_10.lkm
  have h15 := hr_10.sub (S' := fun b => (w3.heap.size ≤ b) ∧ b < w11.heap.size) fun _ hb hs => ⟨hs, hb⟩
  refine sO (oAlloc [(.int .i64 (0)), (.slice none 0 0)] zero31 rfl (fun g16 w17 hg18 hE19 hz20 hB21 => sO (oStore [(.int .i64 (sr_10)), (.slice Ar_10 nr_10 cr_10)] rfl rfl rfl sz31 rfl hB21 (Nat.le_of_ble_eq_true rfl) (fun w22 hU23 hz24 hB25 => ?_))))
  replace hB25 : Blk w22 g16 31 [(.int .i64 (sr_10)), (.slice Ar_10 nr_10 cr_10)] := hB25
  refine sK hK8 (wp_seq_k fun K26 hK26 => rS fun K27 hK27 => sV (evFA 0 fa31_0 rfl rfl) (sV (evLoadB one3 rfl hB25 rfl) ?_))
  by_cases hc28 : sr_10 = 0
  · refine sV (evEql true rfl rfl (dT hc28)) ?_
    have hv0 : val dd = 0 := by have h1 := v_10; rw [zval_false] at h1; rcases sign_rng sgr_10 with h | h | h <;> omega
    refine sK hK27 (cT rfl (rS fun K29 hK29 => sO (oCall rfl call15 (ref02_Small (by omega)) rfl ?_)))
    rintro _ w31 ⟨sr_30, Ar_30, nr_30, cr_30, zr_30, rfl, hE32, hr_30, v_30, le_30⟩
    have hz33 := hE32.size
    have ⟨sgr_30, kr_30, mr_30⟩ := hr_30.lkm
    refine sV (v := (.agg #[(.int .i64 (0)), (.slice none 0 0), (.int .i64 (sr_30)), (.slice Ar_30 nr_30 cr_30)])) (evK (by kernel_rfl)) ?_
    have hR35 := ((hE12.trans hE19).rx hU23).xr hE32
    have hB36 := (hB7.frm hR35 q1)
    refine sO (oStore [(.int .i64 (0)), (.slice none 0 0), (.int .i64 (sr_30)), (.slice Ar_30 nr_30 cr_30)] rfl rfl rfl sz67 rfl hB36 (Nat.le_of_ble_eq_true rfl) (fun w37 hU38 hz39 hB40 => ?_))
    replace hB40 : Blk w37 g2 67 [(.int .i64 (0)), (.slice none 0 0), (.int .i64 (sr_30)), (.slice Ar_30 nr_30 cr_30)] := hB40
    refine sK hK29 (wp_ret (xR (ret1 (.agg #[(.int .i64 (0)), (.slice none 0 0), (.int .i64 (sr_30)), (.slice Ar_30 nr_30 cr_30)]) Try.results51 (resB [(.int .i64 (0)), (.slice none 0 0), (.int .i64 (sr_30)), (.slice Ar_30 nr_30 cr_30)] agg67 sz67 rfl hB40) ?_)))
    have h41 := (hr_30.frmB hU38 q3)
    have hR42 := ((((hE5.trans hE12).trans hE19).rx hU23).xr hE32).tr hU38
    exact ⟨0, none, 0, 0, 0, (sr_30), Ar_30, nr_30, cr_30, (zr_30), rfl, (Frm.mono hR42 q4), ZR.zero, (ZR.sub h41 q5), (by unfold rnum; rw [if_pos hv0]), (by rw [v_30]; unfold rden; rw [if_pos hv0]; rfl), (by omega), (by omega)⟩
  · refine sV (evEql false rfl rfl (dF hc28)) ?_
    have hv0 : val dd ≠ 0 := by have h1 := v_10; rw [zval_false] at h1; rcases sign_rng sgr_10 with h | h | h <;> omega
    refine sK hK27 (cF rfl (wp_skip (xN (hK26 _ _ (wp_seq_k fun K43 hK43 => dBegin (fun b => b = g2) mixed (fun w44 hE45 hz46 => dMb 0 rfl rfl (dMs 1 rfl rfl ?_)))))))
    have hB47 := (hB25.ext hE45)
    refine dV 3 rfl (fun _ hf => evLoadAB [(.int .i64 (sr_10)), (.slice Ar_10 nr_10 cr_10)] agg31 sz31 rfl (hB47.frm hf q1) rfl) ?_
    have hR48 := (((hE5.trans hE12).trans hE19).rx hU23).xr hE45
    have h49 := (ha.frmB hR48 q3)
    refine dOp 2 rfl rfl (by kernel_rfl) (oCall rfl call65 (ref02_Of h49 (by omega)) rfl ?_)
    rintro _ w51 ⟨sr_50, Ar_50, nr_50, cr_50, zr_50, rfl, hE52, hr_50, v_50, le_50⟩
    refine ⟨(Frm.of_ext hE52), ?_⟩
    have hz53 := hE52.size
    have ⟨sgr_50, kr_50, mr_50⟩ := hr_50.lkm
    refine dV 4 rfl (v := (.agg #[(.int .i64 (sr_50)), (.slice Ar_50 nr_50 cr_50), (.int .i64 (sr_10)), (.slice Ar_10 nr_10 cr_10)])) (fun _ _ => evK (by kernel_rfl)) ?_
    have hR55 := (((hE12.trans hE19).rx hU23).xr hE45).xr hE52
    have hB56 := (hB7.frm hR55 q1)
    refine dOp 5 rfl rfl (by kernel_rfl) (oStore [(.int .i64 (sr_50)), (.slice Ar_50 nr_50 cr_50), (.int .i64 (sr_10)), (.slice Ar_10 nr_10 cr_10)] rfl rfl rfl sz67 rfl hB56 (Nat.le_of_ble_eq_true rfl) (fun w57 hU58 hz59 hB60 => ?_))
    replace hB60 : Blk w57 g2 67 [(.int .i64 (sr_50)), (.slice Ar_50 nr_50 cr_50), (.int .i64 (sr_10)), (.slice Ar_10 nr_10 cr_10)] := hB60
    refine ⟨hU58, dDone (by kernel_rfl) (xN (hK43 _ _ (wp_ret (ret1 (.agg #[(.int .i64 (sr_50)), (.slice Ar_50 nr_50 cr_50), (.int .i64 (sr_10)), (.slice Ar_10 nr_10 cr_10)]) Try.results51 (resB [(.int .i64 (sr_50)), (.slice Ar_50 nr_50 cr_50), (.int .i64 (sr_10)), (.slice Ar_10 nr_10 cr_10)] agg67 sz67 rfl hB60) ?_))))⟩
    have h61 := (hr_50.frmB hU58 q3)
    have hR62 := (((hE19.rx hU23).xr hE45).xr hE52).tr hU58
    have h63 := (h15.frmB hR62 q3)
    have hR64 := (hR48.xr hE52).tr hU58
    exact ⟨(sr_50), Ar_50, nr_50, cr_50, (zr_50), (sr_10), Ar_10, nr_10, cr_10, (zr_10), rfl, (Frm.mono hR64 q4), (ZR.sub h61 q5), (ZR.sub h63 q5), (by rw [v_50]; unfold rnum; rw [if_neg hv0]), (by rw [v_10, zval_false]; unfold rden; rw [if_neg hv0]), (by omega), (by omega)⟩

theorem ref05_Reduced {w : World} {Sa : Nat → Prop} {sa : Int} {Aa : Option Addr} {na ca : Nat} {za : Int} {Sav : Nat → Prop} {sav : Int} {Aav : Option Addr} {nav cav : Nat} {zav : Int} (ha : ZR w Sa sa Aa na ca za) (hav : ZR w Sav sav Aav nav cav zav) (hna : na ≤ 100000000) (hnav : nav ≤ 100000000) (hd0 : 0 < zav) : Calls Try.prog 87 #[(.agg #[(.int .i64 (sa)), (.slice Aa na ca), (.int .i64 (sav)), (.slice Aav nav cav)])] w (Ret fun v w' => ∃ (sr : Int) (Ar : Option Addr) (nr : Nat) (cr : Nat) (zr : Int) (srv : Int) (Arv : Option Addr) (nrv : Nat) (crv : Nat) (zrv : Int), v = (.agg #[(.int .i64 (sr)), (.slice Ar nr cr), (.int .i64 (srv)), (.slice Arv nrv crv)]) ∧ Ext w w' ∧ ZR w' (fun b => w.heap.size ≤ b) sr Ar nr cr zr ∧ ZR w' (fun b => w.heap.size ≤ b) srv Arv nrv crv zrv ∧ (zr = za.tdiv (Nat.gcd za.natAbs zav.natAbs : Int)) ∧ (zrv = zav.tdiv (Nat.gcd za.natAbs zav.natAbs : Int)) ∧ (nr ≤ na) ∧ (nrv ≤ nav)) := by
  have ⟨sga, ka, ma⟩ := ha.lkm
  replace ha := ha.low
  have ⟨sgav, kav, mav⟩ := hav.lkm
  replace hav := hav.low
  refine enter Try.func87 rfl Try.ntmps87 rfl (rS fun K1 hK1 => sO (oBox [(.int .i64 (sa)), (.slice Aa na ca), (.int .i64 (sav)), (.slice Aav nav cav)] rfl rfl (fun g2 w3 hg4 hE5 hz6 hB7 => sO (oAlloc [(.int .i64 (0)), (.slice none 0 0), (.int .i64 (0)), (.slice none 0 0)] zero67 rfl (fun g8 w9 hg10 hE11 hz12 hB13 => sK hK1 (rS fun K14 hK14 => sV (evFA 0 fa67_0 rfl rfl) ?_))))))
  have hB15 := (hB7.ext hE11)
  refine sV (evLoadAB [(.int .i64 (sa)), (.slice Aa na ca)] agg31 sz31 rfl hB15 rfl) (sV (evFA 2 fa67_1 rfl rfl) (sV (evLoadAB [(.int .i64 (sav)), (.slice Aav nav cav)] agg31 sz31 rfl hB15 rfl) ?_))
  have hR16 := hE5.trans hE11
  have h17 := (ha.ext hR16)
  have h18 := (hav.ext hR16)
  refine sO (oCall rfl call108 (ref03_Gcd h17 h18 (by omega) (by omega)) rfl ?_)
  rintro _ w20 ⟨sr_19, Ar_19, nr_19, cr_19, zr_19, rfl, hE21, hr_19, v_19, le_19⟩
  have hz22 := hE21.size
  have ⟨sgr_19, kr_19, mr_19⟩ := hr_19.lkm
  replace hr_19 := hr_19.low
  have hg0 : zr_19 ≠ 0 := by rw [v_19]; have h := Nat.gcd_pos_of_pos_right za.natAbs (show 0 < zav.natAbs by omega); omega
  refine sO (oAlloc [(.int .i64 (0)), (.slice none 0 0)] zero31 rfl (fun g24 w25 hg26 hE27 hz28 hB29 => sO (oStore [(.int .i64 (sr_19)), (.slice Ar_19 nr_19 cr_19)] rfl rfl rfl sz31 rfl hB29 (Nat.le_of_ble_eq_true rfl) (fun w30 hU31 hz32 hB33 => ?_))))
  replace hB33 : Blk w30 g24 31 [(.int .i64 (sr_19)), (.slice Ar_19 nr_19 cr_19)] := hB33
  refine sK hK14 (rS fun K34 hK34 => sV (evFA 0 fa67_0 rfl rfl) ?_)
  have hR35 := (hE21.trans hE27).rx hU31
  have hB36 := (hB15.frm hR35 q1)
  refine sV (evLoadAB [(.int .i64 (sa)), (.slice Aa na ca)] agg31 sz31 rfl hB36 rfl) (sV (evLoadAB [(.int .i64 (sr_19)), (.slice Ar_19 nr_19 cr_19)] agg31 sz31 rfl hB33 rfl) ?_)
  have h37 := (h17.frmB hR35 q3)
  have hR38 := hE27.rx hU31
  have h39 := (hr_19.frmB hR38 q3)
  refine sO (oCall rfl call109 (ref03_Quo h37 h39 (by omega) (by omega) (by omega)) rfl ?_)
  rintro _ w41 ⟨sq_40, Aq_40, nq_40, cq_40, zq_40, sr_40, Ar_40, nr_40, cr_40, zr_40, rfl, hE42, hq_40, hr_40, vq_40, vr_40, leq_40, ler_40⟩
  have hz43 := hE42.size
  have ⟨sgq_40, kq_40, mq_40⟩ := hq_40.lkm
  have ⟨sgr_40, kr_40, mr_40⟩ := hr_40.lkm
  have h46 := hq_40.sub (S' := fun b => (w30.heap.size ≤ b) ∧ b < w41.heap.size) fun _ hb hs => ⟨hs, hb⟩
  have h47 := hr_40.sub (S' := fun b => (w30.heap.size ≤ b) ∧ b < w41.heap.size) fun _ hb hs => ⟨hs, hb⟩
  refine sV (v := (.tuple #[(.agg #[(.int .i64 (sq_40)), (.slice Aq_40 nq_40 cq_40)]), (.agg #[(.int .i64 (sr_40)), (.slice Ar_40 nr_40 cr_40)])])) (rfl) (sV (v := (.agg #[(.int .i64 (sq_40)), (.slice Aq_40 nq_40 cq_40)])) (rfl) (sV (v := (.agg #[(.int .i64 (sr_40)), (.slice Ar_40 nr_40 cr_40)])) (rfl) (sO (oAlloc [(.int .i64 (0)), (.slice none 0 0)] zero31 rfl (fun g48 w49 hg50 hE51 hz52 hB53 => sO (oAlloc [(.int .i64 (0)), (.slice none 0 0)] zero31 rfl (fun g54 w55 hg56 hE57 hz58 hB59 => ?_)))))))
  have hB60 := (hB53.ext hE57)
  refine sO (oStore [(.int .i64 (sq_40)), (.slice Aq_40 nq_40 cq_40)] rfl rfl rfl sz31 rfl hB60 (Nat.le_of_ble_eq_true rfl) (fun w61 hU62 hz63 hB64 => ?_))
  replace hB64 : Blk w61 g48 31 [(.int .i64 (sq_40)), (.slice Aq_40 nq_40 cq_40)] := hB64
  have hB65 := (hB59.frm hU62 q1)
  refine sO (oStore [(.int .i64 (sr_40)), (.slice Ar_40 nr_40 cr_40)] rfl rfl rfl sz31 rfl hB65 (Nat.le_of_ble_eq_true rfl) (fun w66 hU67 hz68 hB69 => ?_))
  replace hB69 : Blk w66 g54 31 [(.int .i64 (sr_40)), (.slice Ar_40 nr_40 cr_40)] := hB69
  refine sK hK34 (rS fun K70 hK70 => sV (evFA 2 fa67_1 rfl rfl) ?_)
  have hR71 := (((hE42.trans hE51).trans hE57).rx hU62).tr hU67
  have hB72 := (hB36.frm hR71 q1)
  refine sV (evLoadAB [(.int .i64 (sav)), (.slice Aav nav cav)] agg31 sz31 rfl hB72 rfl) ?_
  have hB73 := (hB33.frm hR71 q1)
  refine sV (evLoadAB [(.int .i64 (sr_19)), (.slice Ar_19 nr_19 cr_19)] agg31 sz31 rfl hB73 rfl) ?_
  have hR74 := ((((hR35.xr hE42).xr hE51).xr hE57).tr hU62).tr hU67
  have h75 := (h18.frmB hR74 q3)
  have h76 := (h39.frmB hR71 q3)
  refine sO (oCall rfl call109 (ref03_Quo h75 h76 (by omega) (by omega) (by omega)) rfl ?_)
  rintro _ w78 ⟨sq_77, Aq_77, nq_77, cq_77, zq_77, sr_77, Ar_77, nr_77, cr_77, zr_77, rfl, hE79, hq_77, hr_77, vq_77, vr_77, leq_77, ler_77⟩
  have hz80 := hE79.size
  have ⟨sgq_77, kq_77, mq_77⟩ := hq_77.lkm
  have ⟨sgr_77, kr_77, mr_77⟩ := hr_77.lkm
  have h83 := hq_77.sub (S' := fun b => (w66.heap.size ≤ b) ∧ b < w78.heap.size) fun _ hb hs => ⟨hs, hb⟩
  have h84 := hr_77.sub (S' := fun b => (w66.heap.size ≤ b) ∧ b < w78.heap.size) fun _ hb hs => ⟨hs, hb⟩
  refine sV (v := (.tuple #[(.agg #[(.int .i64 (sq_77)), (.slice Aq_77 nq_77 cq_77)]), (.agg #[(.int .i64 (sr_77)), (.slice Ar_77 nr_77 cr_77)])])) (rfl) (sV (v := (.agg #[(.int .i64 (sq_77)), (.slice Aq_77 nq_77 cq_77)])) (rfl) (sV (v := (.agg #[(.int .i64 (sr_77)), (.slice Ar_77 nr_77 cr_77)])) (rfl) (sO (oAlloc [(.int .i64 (0)), (.slice none 0 0)] zero31 rfl (fun g85 w86 hg87 hE88 hz89 hB90 => sO (oAlloc [(.int .i64 (0)), (.slice none 0 0)] zero31 rfl (fun g91 w92 hg93 hE94 hz95 hB96 => ?_)))))))
  have hB97 := (hB90.ext hE94)
  refine sO (oStore [(.int .i64 (sq_77)), (.slice Aq_77 nq_77 cq_77)] rfl rfl rfl sz31 rfl hB97 (Nat.le_of_ble_eq_true rfl) (fun w98 hU99 hz100 hB101 => ?_))
  replace hB101 : Blk w98 g85 31 [(.int .i64 (sq_77)), (.slice Aq_77 nq_77 cq_77)] := hB101
  have hB102 := (hB96.frm hU99 q1)
  refine sO (oStore [(.int .i64 (sr_77)), (.slice Ar_77 nr_77 cr_77)] rfl rfl rfl sz31 rfl hB102 (Nat.le_of_ble_eq_true rfl) (fun w103 hU104 hz105 hB106 => ?_))
  replace hB106 : Blk w103 g91 31 [(.int .i64 (sr_77)), (.slice Ar_77 nr_77 cr_77)] := hB106
  refine sK hK70 (rS fun K107 hK107 => ?_)
  have hR108 := ((((hU67.xr hE79).xr hE88).xr hE94).tr hU99).tr hU104
  have hB109 := (hB64.frm hR108 q1)
  refine sV (evLoadAB [(.int .i64 (sq_40)), (.slice Aq_40 nq_40 cq_40)] agg31 sz31 rfl hB109 rfl) ?_
  have hB110 := (hB101.frm hU104 q1)
  refine sV (evLoadAB [(.int .i64 (sq_77)), (.slice Aq_77 nq_77 cq_77)] agg31 sz31 rfl hB110 rfl) (sV (v := (.agg #[(.int .i64 (sq_40)), (.slice Aq_40 nq_40 cq_40), (.int .i64 (sq_77)), (.slice Aq_77 nq_77 cq_77)])) (evK (by kernel_rfl)) ?_)
  have hR111 := ((((hR74.xr hE79).xr hE88).xr hE94).tr hU99).tr hU104
  have hB112 := (hB13.frm hR111 q1)
  refine sO (oStore [(.int .i64 (sq_40)), (.slice Aq_40 nq_40 cq_40), (.int .i64 (sq_77)), (.slice Aq_77 nq_77 cq_77)] rfl rfl rfl sz67 rfl hB112 (Nat.le_of_ble_eq_true rfl) (fun w113 hU114 hz115 hB116 => ?_))
  replace hB116 : Blk w113 g8 67 [(.int .i64 (sq_40)), (.slice Aq_40 nq_40 cq_40), (.int .i64 (sq_77)), (.slice Aq_77 nq_77 cq_77)] := hB116
  refine sK hK107 (wp_ret (ret1 (.agg #[(.int .i64 (sq_40)), (.slice Aq_40 nq_40 cq_40), (.int .i64 (sq_77)), (.slice Aq_77 nq_77 cq_77)]) Try.results87 (resB [(.int .i64 (sq_40)), (.slice Aq_40 nq_40 cq_40), (.int .i64 (sq_77)), (.slice Aq_77 nq_77 cq_77)] agg67 sz67 rfl hB116) ?_))
  have hR117 := ((((((((hE51.trans hE57).rx hU62).tr hU67).xr hE79).xr hE88).xr hE94).tr hU99).tr hU104).tr hU114
  have h118 := (h46.frmB hR117 q3)
  have hR119 := (((hE88.trans hE94).rx hU99).tr hU104).tr hU114
  have h120 := (h83.frmB hR119 q3)
  have hR121 := (((((((((((((hR16.trans hE21).trans hE27).rx hU31).xr hE42).xr hE51).xr hE57).tr hU62).tr hU67).xr hE79).xr hE88).xr hE94).tr hU99).tr hU104).tr hU114
  exact ⟨(sq_40), Aq_40, nq_40, cq_40, (zq_40), (sq_77), Aq_77, nq_77, cq_77, (zq_77), rfl, (Frm.mono hR121 q4), (ZR.sub h118 q5), (ZR.sub h120 q5), (by rw [vq_40, v_19]), (by rw [vq_77, v_19]), (by omega), (by omega)⟩

theorem ref05_Is {w : World} {gn : Bool} {Sa : Nat → Prop} {Aa : Option Addr} {na ca : Nat} {da : List Nat} {Sd : Nat → Prop} {Ad : Option Addr} {nd cd : Nat} {dd : List Nat} {Sq : Nat → Prop} {sq : Int} {Aq : Option Addr} {nq cq : Nat} {zq : Int} {Sqv : Nat → Prop} {sqv : Int} {Aqv : Option Addr} {nqv cqv : Nat} {zqv : Int} (ha : NatR w Sa Aa na ca da) (hd : NatR w Sd Ad nd cd dd) (hq : ZR w Sq sq Aq nq cq zq) (hqv : ZR w Sqv sqv Aqv nqv cqv zqv) (hnq : nq ≤ 100000000) (hnqv : nqv ≤ 100000000) (hq0 : 0 < zqv) (hca : ICan gn da) (hcd : Canon isZ dd) (hd0 : 0 < val dd) (hco : Nat.gcd (val da) (val dd) = 1) (hx : zval gn da * zqv = zq * (val dd : Int)) : Calls Try.prog 54 #[(.bool gn), (.slice Aa na ca), (.slice Ad nd cd), (.agg #[(.int .i64 (sq)), (.slice Aq nq cq), (.int .i64 (sqv)), (.slice Aqv nqv cqv)])] w (Ret fun v w' => ∃ (gr : Bool), v = (.bool gr) ∧ Ext w w' ∧ (gr = true)) := by
  have ⟨la, ka, ma⟩ := ha.lkm
  replace ha := ha.low
  have ⟨ld, kd, md⟩ := hd.lkm
  replace hd := hd.low
  have ⟨sgq, kq, mq⟩ := hq.lkm
  replace hq := hq.low
  have ⟨sgqv, kqv, mqv⟩ := hqv.lkm
  replace hqv := hqv.low
  refine enter Try.func54 rfl Try.ntmps54 rfl (rS fun K1 hK1 => sO (oBox [(.int .i64 (sq)), (.slice Aq nq cq), (.int .i64 (sqv)), (.slice Aqv nqv cqv)] rfl rfl (fun g2 w3 hg4 hE5 hz6 hB7 => sAb rfl (sK hK1 (rS fun K8 hK8 => sV (evLoadAB [(.int .i64 (sq)), (.slice Aq nq cq), (.int .i64 (sqv)), (.slice Aqv nqv cqv)] agg67 sz67 rfl hB7 rfl) ?_)))))
  have h9 := (hq.ext hE5)
  have h10 := (hqv.ext hE5)
  refine sO (oCall rfl call87 (ref05_Reduced h9 h10 (by omega) (by omega) (by omega)) rfl ?_)
  rintro _ w12 ⟨sr_11, Ar_11, nr_11, cr_11, zr_11, srv_11, Arv_11, nrv_11, crv_11, zrv_11, rfl, hE13, hr_11, hrv_11, v_11, d_11, le_11, lv_11⟩
  have hz14 := hE13.size
  have ⟨sgr_11, kr_11, mr_11⟩ := hr_11.lkm
  have ⟨sgrv_11, krv_11, mrv_11⟩ := hrv_11.lkm
  have hlo := lowest hx hd0 hq0 (by rw [← natAbs_val gn da]; exact hco) v_11 d_11
  have hv1 := hlo.1; have hv2 : zval false dd = zrv_11 := (zval_false dd).trans hlo.2; have hcf : ICan false dd := ⟨hcd, fun h => by cases h⟩
  have h17 := hr_11.sub (S' := fun b => (w3.heap.size ≤ b) ∧ b < w12.heap.size) fun _ hb hs => ⟨hs, hb⟩
  have h18 := hrv_11.sub (S' := fun b => (w3.heap.size ≤ b) ∧ b < w12.heap.size) fun _ hb hs => ⟨hs, hb⟩
  refine sO (oAlloc [(.int .i64 (0)), (.slice none 0 0), (.int .i64 (0)), (.slice none 0 0)] zero67 rfl (fun g19 w20 hg21 hE22 hz23 hB24 => sO (oStore [(.int .i64 (sr_11)), (.slice Ar_11 nr_11 cr_11), (.int .i64 (srv_11)), (.slice Arv_11 nrv_11 crv_11)] rfl rfl rfl sz67 rfl hB24 (Nat.le_of_ble_eq_true rfl) (fun w25 hU26 hz27 hB28 => ?_))))
  replace hB28 : Blk w25 g19 67 [(.int .i64 (sr_11)), (.slice Ar_11 nr_11 cr_11), (.int .i64 (srv_11)), (.slice Arv_11 nrv_11 crv_11)] := hB28
  refine sK hK8 (rS fun K29 hK29 => sMb rfl (sMs rfl (sV (evFA 0 fa67_0 rfl rfl) (sV (evLoadAB [(.int .i64 (sr_11)), (.slice Ar_11 nr_11 cr_11)] agg31 sz31 rfl hB28 rfl) ?_))))
  have hR30 := ((hE5.trans hE13).trans hE22).rx hU26
  have h31 := (ha.frmB hR30 q3)
  have hR32 := hE22.rx hU26
  have h33 := (h17.frmB hR32 q3)
  refine sO (oCall rfl call43 (ref02_Is h31 h33 (by omega) (by assumption) (by assumption)) rfl ?_)
  rintro _ w35 ⟨gr_34, rfl, hE36, e_34⟩
  have hz37 := hE36.size
  obtain rfl : gr_34 = true := e_34
  refine sMb rfl (sEv (v := (.slice Ad nd cd)) (rfl) rfl rfl (sEv (v := (.pointer (some ⟨g19, 2, none⟩))) (evFA 2 fa67_1 rfl rfl) rfl rfl ?_))
  have hB38 := (hB28.ext hE36)
  refine sEv (v := (.agg #[(.int .i64 (srv_11)), (.slice Arv_11 nrv_11 crv_11)])) (evLoadAB [(.int .i64 (srv_11)), (.slice Arv_11 nrv_11 crv_11)] agg31 sz31 rfl hB38 rfl) rfl rfl ?_
  have hR39 := hR30.xr hE36
  have h40 := (hd.frmB hR39 q3)
  have hR41 := hR32.xr hE36
  have h42 := (h18.frmB hR41 q3)
  refine sOp rfl (oCall rfl call43 (ref02_Is h40 h42 (by omega) (by assumption) (by assumption)) rfl ?_)
  rintro _ w44 ⟨gr_43, rfl, hE45, e_43⟩
  have hz46 := hE45.size
  obtain rfl : gr_43 = true := e_43
  refine sV (v := (.bool true)) (rfl) (sAb rfl (sK hK29 (wp_ret (ret1 (.bool true) Try.results54 (resT rfl) ?_))))
  have hR47 := hR39.xr hE45
  exact ⟨(true), rfl, (Frm.mono hR47 q4), rfl⟩

theorem ref05_Add {w : World} {Sa : Nat → Prop} {sa : Int} {Aa : Option Addr} {na ca : Nat} {za : Int} {Sav : Nat → Prop} {sav : Int} {Aav : Option Addr} {nav cav : Nat} {zav : Int} {Sb : Nat → Prop} {sb : Int} {Ab : Option Addr} {nb cb : Nat} {zb : Int} {Sbv : Nat → Prop} {sbv : Int} {Abv : Option Addr} {nbv cbv : Nat} {zbv : Int} (ha : ZR w Sa sa Aa na ca za) (hav : ZR w Sav sav Aav nav cav zav) (hb : ZR w Sb sb Ab nb cb zb) (hbv : ZR w Sbv sbv Abv nbv cbv zbv) (hna : na ≤ 100000000) (hnav : nav ≤ 100000000) (hnb : nb ≤ 100000000) (hnbv : nbv ≤ 100000000) : Calls Try.prog 105 #[(.agg #[(.int .i64 (sa)), (.slice Aa na ca), (.int .i64 (sav)), (.slice Aav nav cav)]), (.agg #[(.int .i64 (sb)), (.slice Ab nb cb), (.int .i64 (sbv)), (.slice Abv nbv cbv)])] w (Ret fun v w' => ∃ (sr : Int) (Ar : Option Addr) (nr : Nat) (cr : Nat) (zr : Int) (srv : Int) (Arv : Option Addr) (nrv : Nat) (crv : Nat) (zrv : Int), v = (.agg #[(.int .i64 (sr)), (.slice Ar nr cr), (.int .i64 (srv)), (.slice Arv nrv crv)]) ∧ Ext w w' ∧ ZR w' (fun b => w.heap.size ≤ b) sr Ar nr cr zr ∧ ZR w' (fun b => w.heap.size ≤ b) srv Arv nrv crv zrv ∧ (zr = za * zbv + zb * zav) ∧ (zrv = zav * zbv) ∧ (nr ≤ max (na + nbv) (nb + nav) + 1) ∧ (nrv ≤ nav + nbv)) := by
  have ⟨sga, ka, ma⟩ := ha.lkm
  replace ha := ha.low
  have ⟨sgav, kav, mav⟩ := hav.lkm
  replace hav := hav.low
  have ⟨sgb, kb, mb⟩ := hb.lkm
  replace hb := hb.low
  have ⟨sgbv, kbv, mbv⟩ := hbv.lkm
  replace hbv := hbv.low
  refine enter Try.func105 rfl Try.ntmps105 rfl (rS fun K1 hK1 => sO (oBox [(.int .i64 (sa)), (.slice Aa na ca), (.int .i64 (sav)), (.slice Aav nav cav)] rfl rfl (fun g2 w3 hg4 hE5 hz6 hB7 => sO (oBox [(.int .i64 (sb)), (.slice Ab nb cb), (.int .i64 (sbv)), (.slice Abv nbv cbv)] rfl rfl (fun g8 w9 hg10 hE11 hz12 hB13 => sO (oAlloc [(.int .i64 (0)), (.slice none 0 0), (.int .i64 (0)), (.slice none 0 0)] zero67 rfl (fun g14 w15 hg16 hE17 hz18 hB19 => sK hK1 (wp_seq_k fun K20 hK20 => dBegin (fun b => w15.heap.size ≤ b) mixed (fun w21 hE22 hz23 => dV 0 rfl (fun _ _ => evFA 0 fa67_0 rfl rfl) ?_)))))))))
  have hR24 := (hE11.trans hE17).trans hE22
  have hB25 := (hB7.ext hR24)
  refine dV 1 rfl (fun _ hf => evLoadAB [(.int .i64 (sa)), (.slice Aa na ca)] agg31 sz31 rfl (hB25.frm hf q1) rfl) (dV 2 rfl (fun _ _ => evFA 2 fa67_1 rfl rfl) ?_)
  have hR26 := hE17.trans hE22
  have hB27 := (hB13.ext hR26)
  refine dV 3 rfl (fun _ hf => evLoadAB [(.int .i64 (sbv)), (.slice Abv nbv cbv)] agg31 sz31 rfl (hB27.frm hf q1) rfl) (dV 5 rfl (fun _ _ => evFA 0 fa67_0 rfl rfl) (dV 6 rfl (fun _ hf => evLoadAB [(.int .i64 (sb)), (.slice Ab nb cb)] agg31 sz31 rfl (hB27.frm hf q1) rfl) (dV 7 rfl (fun _ _ => evFA 2 fa67_1 rfl rfl) (dV 8 rfl (fun _ hf => evLoadAB [(.int .i64 (sav)), (.slice Aav nav cav)] agg31 sz31 rfl (hB25.frm hf q1) rfl) (wAl1 (fun _ => (5, 31, [(.int .i64 (0)), (.slice none 0 0)])) 11 (alOp rfl rfl zero31 rfl) fun F28 => wOp F28 4 (by kernel_rfl) fun fl29 w30 hE31 => ?_)))))
  have hz32 := hE31.size
  have hR33 := (((hE5.trans hE11).trans hE17).trans hE22).trans hE31
  have h34 := (ha.ext hR33)
  have h35 := (hbv.ext hR33)
  refine dWp (i := 4) rfl rfl (oCall rfl call70 (ref02_Mul h34 h35 (by omega) (by omega)) rfl ?_)
  rintro _ w37 ⟨sr_36, Ar_36, nr_36, cr_36, zr_36, rfl, hE38, hr_36, v_36, le_36⟩
  refine ⟨hE38, wNext rfl ?_⟩
  have hz39 := hE38.size
  have ⟨sgr_36, kr_36, mr_36⟩ := hr_36.lkm
  have h41 := hr_36.sub (S' := fun b => w30.heap.size ≤ b ∧ b < w37.heap.size) fun _ hb hs => ⟨hs, hb⟩
  refine wOp F28 9 (by kernel_rfl) fun fl42 w43 hE44 => ?_
  have hz45 := hE44.size
  have hR46 := (hR33.trans hE38).trans hE44
  have h47 := (hb.ext hR46)
  have h48 := (hav.ext hR46)
  refine dWp (i := 9) rfl rfl (oCall rfl call70 (ref02_Mul h47 h48 (by omega) (by omega)) rfl ?_)
  rintro _ w50 ⟨sr_49, Ar_49, nr_49, cr_49, zr_49, rfl, hE51, hr_49, v_49, le_49⟩
  refine ⟨hE51, wNext rfl ?_⟩
  have hz52 := hE51.size
  have ⟨sgr_49, kr_49, mr_49⟩ := hr_49.lkm
  have h54 := hr_49.sub (S' := fun b => w43.heap.size ≤ b ∧ b < w50.heap.size) fun _ hb hs => ⟨hs, hb⟩
  refine wOp F28 10 (by kernel_rfl) fun fl55 w56 hE57 => ?_
  have hz58 := hE57.size
  have hR59 := (hE44.trans hE51).trans hE57
  have h60 := (h41.ext hR59)
  have h61 := (h54.ext hE57)
  refine dWp (i := 10) rfl rfl (oCall rfl call79 (ref02_Add h60 h61 (by omega) (by omega)) rfl ?_)
  rintro _ w63 ⟨sr_62, Ar_62, nr_62, cr_62, zr_62, rfl, hE64, hr_62, v_62, le_62⟩
  refine ⟨hE64, wNext rfl ?_⟩
  have hz65 := hE64.size
  have ⟨sgr_62, kr_62, mr_62⟩ := hr_62.lkm
  have h67 := hr_62.sub (S' := fun b => w56.heap.size ≤ b ∧ b < w63.heap.size) fun _ hb hs => ⟨hs, hb⟩
  refine wEnd1 F28 #[true, true, true, true, true, true, true, true, true, true, true, true, false] (by kernel_rfl) fun g68 w69 hE70 hb71 hB72 ho73 => ?_
  have hz74 := hE70.size
  have lt75 := hB72.lt
  have hR76 := hE64.trans hE70
  have h77 := (h60.ext hR76)
  have h78 := h77.sub (S' := fun b => (w30.heap.size ≤ b ∧ b < w37.heap.size) ∧ b ≠ g68) fun b _ hs => ⟨hs, ho73.ne w30.heap.size w37.heap.size (by simp) b hs.1 hs.2⟩
  have h79 := (h61.ext hR76)
  have h80 := h79.sub (S' := fun b => (w43.heap.size ≤ b ∧ b < w50.heap.size) ∧ b ≠ g68) fun b _ hs => ⟨hs, ho73.ne w43.heap.size w50.heap.size (by simp) b hs.1 hs.2⟩
  have h81 := (h67.ext hE70)
  have h82 := h81.sub (S' := fun b => (w56.heap.size ≤ b ∧ b < w63.heap.size) ∧ b ≠ g68) fun b _ hs => ⟨hs, ho73.ne w56.heap.size w63.heap.size (by simp) b hs.1 hs.2⟩
  refine dOp 12 rfl rfl (by kernel_rfl) (oStore [(.int .i64 (sr_62)), (.slice Ar_62 nr_62 cr_62)] rfl rfl rfl sz31 rfl hB72 (Nat.le_of_ble_eq_true rfl) (fun w83 hU84 hz85 hB86 => ?_))
  replace hB86 : Blk w83 g68 31 [(.int .i64 (sr_62)), (.slice Ar_62 nr_62 cr_62)] := hB86
  refine ⟨(hU84.mono q4), dDone (by kernel_rfl) (xN (hK20 _ _ (wp_seq_k fun K87 hK87 => dBegin (fun b => b = g14) mixed (fun w88 hE89 hz90 => ?_))))⟩
  have hB91 := (hB86.ext hE89)
  refine dV 0 rfl (fun _ hf => evLoadAB [(.int .i64 (sr_62)), (.slice Ar_62 nr_62 cr_62)] agg31 sz31 rfl (hB91.frm hf q1) rfl) (dV 1 rfl (fun _ _ => evFA 2 fa67_1 rfl rfl) ?_)
  have hR92 := (((((((hE31.trans hE38).trans hE44).trans hE51).trans hE57).trans hE64).trans hE70).rx hU84).xr hE89
  have hB93 := (hB25.frm hR92 q1)
  refine dV 2 rfl (fun _ hf => evLoadAB [(.int .i64 (sav)), (.slice Aav nav cav)] agg31 sz31 rfl (hB93.frm hf q1) rfl) (dV 3 rfl (fun _ _ => evFA 2 fa67_1 rfl rfl) ?_)
  have hB94 := (hB27.frm hR92 q1)
  refine dV 4 rfl (fun _ hf => evLoadAB [(.int .i64 (sbv)), (.slice Abv nbv cbv)] agg31 sz31 rfl (hB94.frm hf q1) rfl) ?_
  have hR95 := ((((hE51.trans hE57).trans hE64).trans hE70).rx hU84).xr hE89
  have h96 := (h48.frmB hR95 q3)
  have hR97 := ((((((hE38.trans hE44).trans hE51).trans hE57).trans hE64).trans hE70).rx hU84).xr hE89
  have h98 := (h35.frmB hR97 q3)
  refine dOp 5 rfl rfl (by kernel_rfl) (oCall rfl call70 (ref02_Mul h96 h98 (by omega) (by omega)) rfl ?_)
  rintro _ w100 ⟨sr_99, Ar_99, nr_99, cr_99, zr_99, rfl, hE101, hr_99, v_99, le_99⟩
  refine ⟨(Frm.of_ext hE101), ?_⟩
  have hz102 := hE101.size
  have ⟨sgr_99, kr_99, mr_99⟩ := hr_99.lkm
  refine dV 6 rfl (v := (.agg #[(.int .i64 (sr_62)), (.slice Ar_62 nr_62 cr_62), (.int .i64 (sr_99)), (.slice Ar_99 nr_99 cr_99)])) (fun _ _ => evK (by kernel_rfl)) ?_
  have hR104 := (((((((((hE22.trans hE31).trans hE38).trans hE44).trans hE51).trans hE57).trans hE64).trans hE70).rx hU84).xr hE89).xr hE101
  have hB105 := (hB19.frm hR104 q1)
  refine dOp 7 rfl rfl (by kernel_rfl) (oStore [(.int .i64 (sr_62)), (.slice Ar_62 nr_62 cr_62), (.int .i64 (sr_99)), (.slice Ar_99 nr_99 cr_99)] rfl rfl rfl sz67 rfl hB105 (Nat.le_of_ble_eq_true rfl) (fun w106 hU107 hz108 hB109 => ?_))
  replace hB109 : Blk w106 g14 67 [(.int .i64 (sr_62)), (.slice Ar_62 nr_62 cr_62), (.int .i64 (sr_99)), (.slice Ar_99 nr_99 cr_99)] := hB109
  refine ⟨hU107, dDone (by kernel_rfl) (xN (hK87 _ _ (wp_ret (ret1 (.agg #[(.int .i64 (sr_62)), (.slice Ar_62 nr_62 cr_62), (.int .i64 (sr_99)), (.slice Ar_99 nr_99 cr_99)]) Try.results105 (resB [(.int .i64 (sr_62)), (.slice Ar_62 nr_62 cr_62), (.int .i64 (sr_99)), (.slice Ar_99 nr_99 cr_99)] agg67 sz67 rfl hB109) ?_))))⟩
  have hR110 := ((hU84.xr hE89).xr hE101).tr hU107
  have h111 := (h82.frmB hR110 q3)
  have h112 := (hr_99.frmB hU107 q3)
  have hR113 := (((((((hR46.trans hE51).trans hE57).trans hE64).trans hE70).rx hU84).xr hE89).xr hE101).tr hU107
  exact ⟨(sr_62), Ar_62, nr_62, cr_62, (zr_62), (sr_99), Ar_99, nr_99, cr_99, (zr_99), rfl, (Frm.mono hR113 q4), (ZR.sub h111 q5), (ZR.sub h112 q5), (by rw [v_62, v_36, v_49]), v_99, (by omega), (by omega)⟩

theorem ref05_Mul {w : World} {Sa : Nat → Prop} {sa : Int} {Aa : Option Addr} {na ca : Nat} {za : Int} {Sav : Nat → Prop} {sav : Int} {Aav : Option Addr} {nav cav : Nat} {zav : Int} {Sb : Nat → Prop} {sb : Int} {Ab : Option Addr} {nb cb : Nat} {zb : Int} {Sbv : Nat → Prop} {sbv : Int} {Abv : Option Addr} {nbv cbv : Nat} {zbv : Int} (ha : ZR w Sa sa Aa na ca za) (hav : ZR w Sav sav Aav nav cav zav) (hb : ZR w Sb sb Ab nb cb zb) (hbv : ZR w Sbv sbv Abv nbv cbv zbv) (hna : na ≤ 100000000) (hnav : nav ≤ 100000000) (hnb : nb ≤ 100000000) (hnbv : nbv ≤ 100000000) : Calls Try.prog 106 #[(.agg #[(.int .i64 (sa)), (.slice Aa na ca), (.int .i64 (sav)), (.slice Aav nav cav)]), (.agg #[(.int .i64 (sb)), (.slice Ab nb cb), (.int .i64 (sbv)), (.slice Abv nbv cbv)])] w (Ret fun v w' => ∃ (sr : Int) (Ar : Option Addr) (nr : Nat) (cr : Nat) (zr : Int) (srv : Int) (Arv : Option Addr) (nrv : Nat) (crv : Nat) (zrv : Int), v = (.agg #[(.int .i64 (sr)), (.slice Ar nr cr), (.int .i64 (srv)), (.slice Arv nrv crv)]) ∧ Ext w w' ∧ ZR w' (fun b => w.heap.size ≤ b) sr Ar nr cr zr ∧ ZR w' (fun b => w.heap.size ≤ b) srv Arv nrv crv zrv ∧ (zr = za * zb) ∧ (zrv = zav * zbv) ∧ (nr ≤ na + nb) ∧ (nrv ≤ nav + nbv)) := by
  have ⟨sga, ka, ma⟩ := ha.lkm
  replace ha := ha.low
  have ⟨sgav, kav, mav⟩ := hav.lkm
  replace hav := hav.low
  have ⟨sgb, kb, mb⟩ := hb.lkm
  replace hb := hb.low
  have ⟨sgbv, kbv, mbv⟩ := hbv.lkm
  replace hbv := hbv.low
  refine enter Try.func106 rfl Try.ntmps106 rfl (rS fun K1 hK1 => sO (oBox [(.int .i64 (sa)), (.slice Aa na ca), (.int .i64 (sav)), (.slice Aav nav cav)] rfl rfl (fun g2 w3 hg4 hE5 hz6 hB7 => sO (oBox [(.int .i64 (sb)), (.slice Ab nb cb), (.int .i64 (sbv)), (.slice Abv nbv cbv)] rfl rfl (fun g8 w9 hg10 hE11 hz12 hB13 => sO (oAlloc [(.int .i64 (0)), (.slice none 0 0), (.int .i64 (0)), (.slice none 0 0)] zero67 rfl (fun g14 w15 hg16 hE17 hz18 hB19 => sK hK1 (wp_seq_k fun K20 hK20 => dBegin (fun b => b = g14) mixed (fun w21 hE22 hz23 => dV 0 rfl (fun _ _ => evFA 0 fa67_0 rfl rfl) ?_)))))))))
  have hR24 := (hE11.trans hE17).trans hE22
  have hB25 := (hB7.ext hR24)
  refine dV 1 rfl (fun _ hf => evLoadAB [(.int .i64 (sa)), (.slice Aa na ca)] agg31 sz31 rfl (hB25.frm hf q1) rfl) (dV 2 rfl (fun _ _ => evFA 0 fa67_0 rfl rfl) ?_)
  have hR26 := hE17.trans hE22
  have hB27 := (hB13.ext hR26)
  refine dV 3 rfl (fun _ hf => evLoadAB [(.int .i64 (sb)), (.slice Ab nb cb)] agg31 sz31 rfl (hB27.frm hf q1) rfl) (dV 5 rfl (fun _ _ => evFA 2 fa67_1 rfl rfl) (dV 6 rfl (fun _ hf => evLoadAB [(.int .i64 (sav)), (.slice Aav nav cav)] agg31 sz31 rfl (hB25.frm hf q1) rfl) (dV 7 rfl (fun _ _ => evFA 2 fa67_1 rfl rfl) (dV 8 rfl (fun _ hf => evLoadAB [(.int .i64 (sbv)), (.slice Abv nbv cbv)] agg31 sz31 rfl (hB27.frm hf q1) rfl) ?_))))
  have hR28 := ((hE5.trans hE11).trans hE17).trans hE22
  have h29 := (ha.ext hR28)
  have h30 := (hb.ext hR28)
  refine dOp 4 rfl rfl (by kernel_rfl) (oCall rfl call70 (ref02_Mul h29 h30 (by omega) (by omega)) rfl ?_)
  rintro _ w32 ⟨sr_31, Ar_31, nr_31, cr_31, zr_31, rfl, hE33, hr_31, v_31, le_31⟩
  refine ⟨(Frm.of_ext hE33), ?_⟩
  have hz34 := hE33.size
  have ⟨sgr_31, kr_31, mr_31⟩ := hr_31.lkm
  have hR36 := hR28.trans hE33
  have h37 := (hav.ext hR36)
  have h38 := (hbv.ext hR36)
  refine dOp 9 rfl rfl (by kernel_rfl) (oCall rfl call70 (ref02_Mul h37 h38 (by omega) (by omega)) rfl ?_)
  rintro _ w40 ⟨sr_39, Ar_39, nr_39, cr_39, zr_39, rfl, hE41, hr_39, v_39, le_39⟩
  refine ⟨(Frm.of_ext hE41), ?_⟩
  have hz42 := hE41.size
  have ⟨sgr_39, kr_39, mr_39⟩ := hr_39.lkm
  refine dV 10 rfl (v := (.agg #[(.int .i64 (sr_31)), (.slice Ar_31 nr_31 cr_31), (.int .i64 (sr_39)), (.slice Ar_39 nr_39 cr_39)])) (fun _ _ => evK (by kernel_rfl)) ?_
  have hR44 := (hE22.trans hE33).trans hE41
  have hB45 := (hB19.ext hR44)
  refine dOp 11 rfl rfl (by kernel_rfl) (oStore [(.int .i64 (sr_31)), (.slice Ar_31 nr_31 cr_31), (.int .i64 (sr_39)), (.slice Ar_39 nr_39 cr_39)] rfl rfl rfl sz67 rfl hB45 (Nat.le_of_ble_eq_true rfl) (fun w46 hU47 hz48 hB49 => ?_))
  replace hB49 : Blk w46 g14 67 [(.int .i64 (sr_31)), (.slice Ar_31 nr_31 cr_31), (.int .i64 (sr_39)), (.slice Ar_39 nr_39 cr_39)] := hB49
  refine ⟨hU47, dDone (by kernel_rfl) (xN (hK20 _ _ (wp_ret (ret1 (.agg #[(.int .i64 (sr_31)), (.slice Ar_31 nr_31 cr_31), (.int .i64 (sr_39)), (.slice Ar_39 nr_39 cr_39)]) Try.results106 (resB [(.int .i64 (sr_31)), (.slice Ar_31 nr_31 cr_31), (.int .i64 (sr_39)), (.slice Ar_39 nr_39 cr_39)] agg67 sz67 rfl hB49) ?_))))⟩
  have hR50 := hE41.rx hU47
  have h51 := (hr_31.frmB hR50 q3)
  have h52 := (hr_39.frmB hU47 q3)
  have hR53 := (hR36.trans hE41).rx hU47
  exact ⟨(sr_31), Ar_31, nr_31, cr_31, (zr_31), (sr_39), Ar_39, nr_39, cr_39, (zr_39), rfl, (Frm.mono hR53 q4), (ZR.sub h51 q5), (ZR.sub h52 q5), v_31, v_39, (by omega), (by omega)⟩

end Go.Proofs.Ytppegjbdencefaa
