/-
  Walks of package division: quotients of integers, greatest common divisors.
-/
import Derived.Test.YtneolcopompkaaaGreatDoorDiv2
import Derived.Test.YtneolcopompkaaaGreatDoorInt1
namespace Go.Proofs.YtneolcopompkaaaGreatDoor
open Go.RowKit Go.Gx
theorem division_isZero {w : World} {ga : Bool} {Sa : Nat → Prop} {Aa : Option Addr} {na ca : Nat} {da : List Nat} (ha : NatR w Sa Aa na ca da)  : Calls Tryz.prog 108 #[(.agg #[(.bool ga), (.slice Aa na ca)])] w (Ret fun v w' => ∃ (gr : Bool), v = (.bool gr) ∧ Ext w w' ∧ (gr = decide (zval ga da = 0))) := by
  have ⟨la, ka, ma⟩ := ha.lkm
  replace ha := ha.low
  refine enter Tryz.func108 rfl Tryz.ntmps108 rfl (rS fun K1 hK1 => sO (oBox [(.bool ga), (.slice Aa na ca)] rfl rfl (fun g2 w3 hg4 hE5 hz6 hB7 => sAb rfl (sK hK1 (rS fun K8 hK8 => sV (evLoadAB [(.bool ga), (.slice Aa na ca)] agg25 sz25 rfl hB7 rfl) ?_)))))
  have h9 := (ha.ext hE5)
  refine sO (oCall rfl call29 (integer_Sign h9) rfl ?_)
  rintro _ w11 ⟨xr_10, rfl, hE12, e_10⟩
  have hz13 := hE12.size
  refine sV (evEql (decide (zval ga da = 0)) rfl rfl (sgn0 e_10)) (sAb rfl (sK hK8 (wp_ret (ret1 (.bool (decide (zval ga da = 0))) Tryz.results108 (resT rfl) ?_))))
  have hR14 := hE5.trans hE12
  exact ⟨(decide (zval ga da = 0)), rfl, hR14, rfl⟩
theorem division_Quo {w : World} {ga : Bool} {Sa : Nat → Prop} {Aa : Option Addr} {na ca : Nat} {da : List Nat} {gb : Bool} {Sb : Nat → Prop} {Ab : Option Addr} {nb cb : Nat} {db : List Nat} (ha : NatR w Sa Aa na ca da) (hb : NatR w Sb Ab nb cb db) (hna : na ≤ 137438953472) (hnb : nb ≤ 137438953472) (hb0 : zval gb db ≠ 0) : Calls Tryz.prog 109 #[(.agg #[(.bool ga), (.slice Aa na ca)]), (.agg #[(.bool gb), (.slice Ab nb cb)])] w (Ret fun v w' => ∃ (gq : Bool) (Aq : Option Addr) (nq : Nat) (cq : Nat) (dq : List Nat) (gr : Bool) (Ar : Option Addr) (nr : Nat) (cr : Nat) (dr : List Nat) (xe : Int), v = (.tuple #[(.agg #[(.bool gq), (.slice Aq nq cq)]), (.agg #[(.bool gr), (.slice Ar nr cr)]), (.int .i64 (xe))]) ∧ Ext w w' ∧ NatR w' (fun b => w.heap.size ≤ b) Aq nq cq dq ∧ NatR w' (fun b => w.heap.size ≤ b) Ar nr cr dr ∧ (zval gq dq = (zval ga da).tdiv (zval gb db)) ∧ (zval gr dr = (zval ga da).tmod (zval gb db)) ∧ (ICan gq dq) ∧ (ICan gr dr) ∧ (xe = 0) ∧ (nq ≤ na + 1) ∧ (nr ≤ nb)) := by
  have ⟨la, ka, ma⟩ := ha.lkm
  replace ha := ha.low
  have ⟨lb, kb, mb⟩ := hb.lkm
  replace hb := hb.low
  refine enter Tryz.func109 rfl Tryz.ntmps109 rfl (rS fun K1 hK1 => sO (oBox [(.bool ga), (.slice Aa na ca)] rfl rfl (fun g2 w3 hg4 hE5 hz6 hB7 => sO (oBox [(.bool gb), (.slice Ab nb cb)] rfl rfl (fun g8 w9 hg10 hE11 hz12 hB13 => sO (oAlloc [(.bool false), (.slice none 0 0)] zero25 rfl (fun g14 w15 hg16 hE17 hz18 hB19 => sO (oAlloc [(.bool false), (.slice none 0 0)] zero25 rfl (fun g20 w21 hg22 hE23 hz24 hB25 => sAi rfl (sK hK1 (wp_seq_k fun K26 hK26 => rS fun K27 hK27 => ?_)))))))))))
  have hR28 := hE17.trans hE23
  have hB29 := (hB13.ext hR28)
  refine sV (evLoadAB [(.bool gb), (.slice Ab nb cb)] agg25 sz25 rfl hB29 rfl) ?_
  have hR30 := ((hE5.trans hE11).trans hE17).trans hE23
  have h31 := (hb.ext hR30)
  refine sO (oCall rfl call108 (division_isZero h31) rfl ?_)
  rintro _ w33 ⟨gr_32, rfl, hE34, e_32⟩
  have hz35 := hE34.size
  obtain rfl : gr_32 = false := by rw [e_32]; exact decide_eq_false hb0
  refine sK hK27 (cF rfl (wp_skip (xN (hK26 _ _ (wp_seq_k fun K36 hK36 => ?_)))))
  have hvb0 : 0 < val db := by have h := natAbs_val gb db; omega
  refine wp_region_lit (sV (evFA 1 fa25_1 rfl rfl) ?_)
  have hR37 := ((hE11.trans hE17).trans hE23).trans hE34
  have hB38 := (hB7.ext hR37)
  refine sV (evLoadB one23 rfl hB38 rfl) (sV (evFA 1 fa25_1 rfl rfl) ?_)
  have hB39 := (hB29.ext hE34)
  refine sV (evLoadB one23 rfl hB39 rfl) ?_
  have hR40 := hR30.trans hE34
  have h41 := (ha.ext hR40)
  have h42 := (h31.ext hE34)
  refine sO (oCall rfl call125 (division_divide h41 h42 (by omega) (by omega) (by omega)) rfl ?_)
  rintro _ w44 ⟨Aq_43, nq_43, cq_43, dq_43, Ar_43, nr_43, cr_43, dr_43, rfl, hE45, hq_43, hr_43, e_43, lt_43, cnq_43, cnr_43, leq_43, ler_43⟩
  have hz46 := hE45.size
  have ⟨lq_43, kq_43, mq_43⟩ := hq_43.lkm
  have ⟨lr_43, kr_43, mr_43⟩ := hr_43.lkm
  refine sV (v := (.tuple #[(.slice Aq_43 nq_43 cq_43), (.slice Ar_43 nr_43 cr_43)])) (rfl) (sV (v := (.slice Aq_43 nq_43 cq_43)) (rfl) (sV (v := (.slice Ar_43 nr_43 cr_43)) (rfl) (sAs rfl (sAs rfl (sK hK36 (wp_seq_k fun K49 hK49 => dBegin (fun b => b = g14 ∨ b = g20) mixed (fun w50 hE51 hz52 => dV 0 rfl (fun _ _ => evFA 0 fa25_0 rfl rfl) ?_)))))))
  have hR53 := hE45.trans hE51
  have hB54 := (hB38.ext hR53)
  refine dV 1 rfl (fun _ hf => evLoadB one4 rfl (hB54.frm hf q1) rfl) (dV 2 rfl (fun _ _ => evFA 0 fa25_0 rfl rfl) ?_)
  have hB55 := (hB39.ext hR53)
  refine dV 3 rfl (fun _ hf => evLoadB one4 rfl (hB55.frm hf q1) rfl) (dV 4 rfl (fun _ _ => evNeqB _ Tryz.underlying4 rfl rfl rfl) (dMs 5 rfl rfl (dV 7 rfl (fun _ _ => evFA 0 fa25_0 rfl rfl) (dV 8 rfl (fun _ hf => evLoadB one4 rfl (hB54.frm hf q1) rfl) (dMs 9 rfl rfl ?_)))))
  have h56 := (hq_43.ext hE51)
  refine dOp 6 rfl rfl (by kernel_rfl) (oCall rfl call44 (integer_From h56 (by omega)) rfl ?_)
  rintro _ w58 ⟨gr_57, Ar_57, nr_57, cr_57, dr_57, rfl, hE59, hr_57, v_57, cn_57, le_57⟩
  refine ⟨(Frm.of_ext hE59), ?_⟩
  have hz60 := hE59.size
  have ⟨lr_57, kr_57, mr_57⟩ := hr_57.lkm
  have hR62 := hE51.trans hE59
  have h63 := (hr_43.ext hR62)
  refine dOp 10 rfl rfl (by kernel_rfl) (oCall rfl call44 (integer_From h63 (by omega)) rfl ?_)
  rintro _ w65 ⟨gr_64, Ar_64, nr_64, cr_64, dr_64, rfl, hE66, hr_64, v_64, cn_64, le_64⟩
  refine ⟨(Frm.of_ext hE66), ?_⟩
  have hz67 := hE66.size
  have ⟨lr_64, kr_64, mr_64⟩ := hr_64.lkm
  have hR69 := ((((hE23.trans hE34).trans hE45).trans hE51).trans hE59).trans hE66
  have hB70 := (hB19.ext hR69)
  refine dOp 11 rfl rfl (by kernel_rfl) (oStore [(.bool gr_57), (.slice Ar_57 nr_57 cr_57)] rfl rfl rfl sz25 rfl hB70 (Nat.le_of_ble_eq_true rfl) (fun w71 hU72 hz73 hB74 => ?_))
  replace hB74 : Blk w71 g14 25 [(.bool gr_57), (.slice Ar_57 nr_57 cr_57)] := hB74
  refine ⟨(hU72.mono q4), ?_⟩
  have hR75 := ((((hE34.trans hE45).trans hE51).trans hE59).trans hE66).rx hU72
  have hB76 := (hB25.frm hR75 q1)
  refine dOp 12 rfl rfl (by kernel_rfl) (oStore [(.bool gr_64), (.slice Ar_64 nr_64 cr_64)] rfl rfl rfl sz25 rfl hB76 (Nat.le_of_ble_eq_true rfl) (fun w77 hU78 hz79 hB80 => ?_))
  replace hB80 : Blk w77 g20 25 [(.bool gr_64), (.slice Ar_64 nr_64 cr_64)] := hB80
  refine ⟨(hU78.mono q4), dAi 13 rfl rfl (dDone (by kernel_rfl) (xN (hK49 _ _ (wp_ret ?_))))⟩
  have hB81 := (hB74.frm hU78 q1)
  refine ret3 (.agg #[(.bool gr_57), (.slice Ar_57 nr_57 cr_57)]) (.agg #[(.bool gr_64), (.slice Ar_64 nr_64 cr_64)]) (.int .i64 (0)) Tryz.results109 (resB [(.bool gr_57), (.slice Ar_57 nr_57 cr_57)] agg25 sz25 rfl hB81) (resB [(.bool gr_64), (.slice Ar_64 nr_64 cr_64)] agg25 sz25 rfl hB80) (resT rfl) ?_
  have hR82 := (hE66.rx hU72).tr hU78
  have h83 := (hr_57.frmB hR82 q3)
  have hR84 := hU72.tr hU78
  have h85 := (hr_64.frmB hR84 q3)
  have hR86 := (((((hR40.trans hE45).trans hE51).trans hE59).trans hE66).rx hU72).tr hU78
  exact ⟨gr_57, Ar_57, nr_57, cr_57, dr_57, gr_64, Ar_64, nr_64, cr_64, dr_64, (0), rfl, (Frm.mono hR86 q4), (NatR.sub h83 q5), (NatR.sub h85 q5), (by rw [v_57]; exact quo_val e_43 lt_43), (by rw [v_64]; exact rem_val e_43 lt_43), cn_57, cn_64, rfl, (by omega), (by omega)⟩
end Go.Proofs.YtneolcopompkaaaGreatDoor
