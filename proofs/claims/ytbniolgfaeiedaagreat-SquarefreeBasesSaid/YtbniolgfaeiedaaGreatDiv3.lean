/-
  Walks of package division: quotients of integers, greatest common divisors.
-/
import Derived.Test.YtbniolgfaeiedaaGreatDiv2
import Derived.Test.YtbniolgfaeiedaaGreatInt1
namespace Go.Proofs.YtbniolgfaeiedaaGreat
open Go.RowKit Go.Gx
theorem division_isZero {w : World} {ga : Bool} {Sa : Nat → Prop} {Aa : Option Addr} {na ca : Nat} {da : List Nat} (ha : NatR w Sa Aa na ca da)  : Calls Tryz.prog 109 #[(.agg #[(.bool ga), (.slice Aa na ca)])] w (Ret fun v w' => ∃ (gr : Bool), v = (.bool gr) ∧ Ext w w' ∧ (gr = decide (zval ga da = 0))) := by
  have ⟨la, ka, ma⟩ := ha.lkm
  replace ha := ha.low
  refine enter Tryz.func109 rfl Tryz.ntmps109 rfl (rS fun K1 hK1 => sO (oBox [(.bool ga), (.slice Aa na ca)] rfl rfl (fun g2 w3 hg4 hE5 hz6 hB7 => sAb rfl (sK hK1 (rS fun K8 hK8 => sV (evLoadAB [(.bool ga), (.slice Aa na ca)] agg68 sz68 rfl hB7 rfl) ?_)))))
  have h9 := (ha.ext hE5)
  refine sO (oCall rfl call52 (integer_Sign h9) rfl ?_)
  rintro _ w11 ⟨xr_10, rfl, hE12, e_10⟩
  have hz13 := hE12.size
  refine sV (evEql (decide (zval ga da = 0)) rfl rfl (sgn0 e_10)) (sAb rfl (sK hK8 (wp_ret (ret1 (.bool (decide (zval ga da = 0))) Tryz.results109 (resT rfl) ?_))))
  have hR14 := hE5.trans hE12
  exact ⟨(decide (zval ga da = 0)), rfl, hR14, rfl⟩
theorem division_Quo {w : World} {ga : Bool} {Sa : Nat → Prop} {Aa : Option Addr} {na ca : Nat} {da : List Nat} {gb : Bool} {Sb : Nat → Prop} {Ab : Option Addr} {nb cb : Nat} {db : List Nat} (ha : NatR w Sa Aa na ca da) (hb : NatR w Sb Ab nb cb db) (hna : na ≤ 137438953472) (hnb : nb ≤ 137438953472) (hb0 : zval gb db ≠ 0) : Calls Tryz.prog 88 #[(.agg #[(.bool ga), (.slice Aa na ca)]), (.agg #[(.bool gb), (.slice Ab nb cb)])] w (Ret fun v w' => ∃ (gq : Bool) (Aq : Option Addr) (nq : Nat) (cq : Nat) (dq : List Nat) (gr : Bool) (Ar : Option Addr) (nr : Nat) (cr : Nat) (dr : List Nat) (xe : Int), v = (.tuple #[(.agg #[(.bool gq), (.slice Aq nq cq)]), (.agg #[(.bool gr), (.slice Ar nr cr)]), (.int .i64 (xe))]) ∧ Ext w w' ∧ NatR w' (fun b => w.heap.size ≤ b) Aq nq cq dq ∧ NatR w' (fun b => w.heap.size ≤ b) Ar nr cr dr ∧ (zval gq dq = (zval ga da).tdiv (zval gb db)) ∧ (zval gr dr = (zval ga da).tmod (zval gb db)) ∧ (ICan gq dq) ∧ (ICan gr dr) ∧ (xe = 0) ∧ (nq ≤ na + 1) ∧ (nr ≤ nb)) := by
  have ⟨la, ka, ma⟩ := ha.lkm
  replace ha := ha.low
  have ⟨lb, kb, mb⟩ := hb.lkm
  replace hb := hb.low
  refine enter Tryz.func88 rfl Tryz.ntmps88 rfl (rS fun K1 hK1 => sO (oBox [(.bool ga), (.slice Aa na ca)] rfl rfl (fun g2 w3 hg4 hE5 hz6 hB7 => sO (oBox [(.bool gb), (.slice Ab nb cb)] rfl rfl (fun g8 w9 hg10 hE11 hz12 hB13 => sO (oAlloc [(.bool false), (.slice none 0 0)] zero68 rfl (fun g14 w15 hg16 hE17 hz18 hB19 => sO (oAlloc [(.bool false), (.slice none 0 0)] zero68 rfl (fun g20 w21 hg22 hE23 hz24 hB25 => sAi rfl (sK hK1 (wp_seq_k fun K26 hK26 => rS fun K27 hK27 => ?_)))))))))))
  have hR28 := hE17.trans hE23
  have hB29 := (hB13.ext hR28)
  refine sV (evLoadAB [(.bool gb), (.slice Ab nb cb)] agg68 sz68 rfl hB29 rfl) ?_
  have hR30 := ((hE5.trans hE11).trans hE17).trans hE23
  have h31 := (hb.ext hR30)
  refine sO (oCall rfl call109 (division_isZero h31) rfl ?_)
  rintro _ w33 ⟨gr_32, rfl, hE34, e_32⟩
  have hz35 := hE34.size
  obtain rfl : gr_32 = false := by rw [e_32]; exact decide_eq_false hb0
  refine sK hK27 (cF rfl (wp_skip (xN (hK26 _ _ (wp_seq_k fun K36 hK36 => ?_)))))
  have hvb0 : 0 < val db := by have h := natAbs_val gb db; omega
  refine wp_region_lit (sV (evFA 1 fa68_1 rfl rfl) ?_)
  have hR37 := ((hE11.trans hE17).trans hE23).trans hE34
  have hB38 := (hB7.ext hR37)
  refine sV (evLoadB one66 rfl hB38 rfl) (sV (evFA 1 fa68_1 rfl rfl) ?_)
  have hB39 := (hB29.ext hE34)
  refine sV (evLoadB one66 rfl hB39 rfl) ?_
  have hR40 := hR30.trans hE34
  have h41 := (ha.ext hR40)
  have h42 := (h31.ext hE34)
  refine sO (oCall rfl call110 (division_divide h41 h42 (by omega) (by omega) (by omega)) rfl ?_)
  rintro _ w44 ⟨Aq_43, nq_43, cq_43, dq_43, Ar_43, nr_43, cr_43, dr_43, rfl, hE45, hq_43, hr_43, e_43, lt_43, cnq_43, cnr_43, leq_43, ler_43⟩
  have hz46 := hE45.size
  have ⟨lq_43, kq_43, mq_43⟩ := hq_43.lkm
  have ⟨lr_43, kr_43, mr_43⟩ := hr_43.lkm
  refine sV (v := (.tuple #[(.slice Aq_43 nq_43 cq_43), (.slice Ar_43 nr_43 cr_43)])) (rfl) (sV (v := (.slice Aq_43 nq_43 cq_43)) (rfl) (sV (v := (.slice Ar_43 nr_43 cr_43)) (rfl) (sAs rfl (sAs rfl (sK hK36 (wp_seq_k fun K49 hK49 => dBegin (fun b => b = g14 ∨ b = g20) mixed (fun w50 hE51 hz52 => dV 0 rfl (fun _ _ => evFA 0 fa68_0 rfl rfl) ?_)))))))
  have hR53 := hE45.trans hE51
  have hB54 := (hB38.ext hR53)
  refine dV 1 rfl (fun _ hf => evLoadB one4 rfl (hB54.frm hf q1) rfl) (dV 2 rfl (fun _ _ => evFA 0 fa68_0 rfl rfl) ?_)
  have hB55 := (hB39.ext hR53)
  refine dV 3 rfl (fun _ hf => evLoadB one4 rfl (hB55.frm hf q1) rfl) (dV 4 rfl (fun _ _ => evNeqB _ Tryz.underlying4 rfl rfl rfl) (dMs 5 rfl rfl (dV 7 rfl (fun _ _ => evFA 0 fa68_0 rfl rfl) (dV 8 rfl (fun _ hf => evLoadB one4 rfl (hB54.frm hf q1) rfl) (dMs 9 rfl rfl ?_)))))
  have h56 := (hq_43.ext hE51)
  refine dOp 6 rfl rfl (by kernel_rfl) (oCall rfl call75 (integer_From h56 (by omega)) rfl ?_)
  rintro _ w58 ⟨gr_57, Ar_57, nr_57, cr_57, dr_57, rfl, hE59, hr_57, v_57, cn_57, le_57⟩
  refine ⟨(Frm.of_ext hE59), ?_⟩
  have hz60 := hE59.size
  have ⟨lr_57, kr_57, mr_57⟩ := hr_57.lkm
  have hR62 := hE51.trans hE59
  have h63 := (hr_43.ext hR62)
  refine dOp 10 rfl rfl (by kernel_rfl) (oCall rfl call75 (integer_From h63 (by omega)) rfl ?_)
  rintro _ w65 ⟨gr_64, Ar_64, nr_64, cr_64, dr_64, rfl, hE66, hr_64, v_64, cn_64, le_64⟩
  refine ⟨(Frm.of_ext hE66), ?_⟩
  have hz67 := hE66.size
  have ⟨lr_64, kr_64, mr_64⟩ := hr_64.lkm
  have hR69 := ((((hE23.trans hE34).trans hE45).trans hE51).trans hE59).trans hE66
  have hB70 := (hB19.ext hR69)
  refine dOp 11 rfl rfl (by kernel_rfl) (oStore [(.bool gr_57), (.slice Ar_57 nr_57 cr_57)] rfl rfl rfl sz68 rfl hB70 (Nat.le_of_ble_eq_true rfl) (fun w71 hU72 hz73 hB74 => ?_))
  replace hB74 : Blk w71 g14 68 [(.bool gr_57), (.slice Ar_57 nr_57 cr_57)] := hB74
  refine ⟨(hU72.mono q4), ?_⟩
  have hR75 := ((((hE34.trans hE45).trans hE51).trans hE59).trans hE66).rx hU72
  have hB76 := (hB25.frm hR75 q1)
  refine dOp 12 rfl rfl (by kernel_rfl) (oStore [(.bool gr_64), (.slice Ar_64 nr_64 cr_64)] rfl rfl rfl sz68 rfl hB76 (Nat.le_of_ble_eq_true rfl) (fun w77 hU78 hz79 hB80 => ?_))
  replace hB80 : Blk w77 g20 68 [(.bool gr_64), (.slice Ar_64 nr_64 cr_64)] := hB80
  refine ⟨(hU78.mono q4), dAi 13 rfl rfl (dDone (by kernel_rfl) (xN (hK49 _ _ (wp_ret ?_))))⟩
  have hB81 := (hB74.frm hU78 q1)
  refine ret3 (.agg #[(.bool gr_57), (.slice Ar_57 nr_57 cr_57)]) (.agg #[(.bool gr_64), (.slice Ar_64 nr_64 cr_64)]) (.int .i64 (0)) Tryz.results88 (resB [(.bool gr_57), (.slice Ar_57 nr_57 cr_57)] agg68 sz68 rfl hB81) (resB [(.bool gr_64), (.slice Ar_64 nr_64 cr_64)] agg68 sz68 rfl hB80) (resT rfl) ?_
  have hR82 := (hE66.rx hU72).tr hU78
  have h83 := (hr_57.frmB hR82 q3)
  have hR84 := hU72.tr hU78
  have h85 := (hr_64.frmB hR84 q3)
  have hR86 := (((((hR40.trans hE45).trans hE51).trans hE59).trans hE66).rx hU72).tr hU78
  exact ⟨gr_57, Ar_57, nr_57, cr_57, dr_57, gr_64, Ar_64, nr_64, cr_64, dr_64, (0), rfl, (Frm.mono hR86 q4), (NatR.sub h83 q5), (NatR.sub h85 q5), (by rw [v_57]; exact quo_val e_43 lt_43), (by rw [v_64]; exact rem_val e_43 lt_43), cn_57, cn_64, rfl, (by omega), (by omega)⟩
theorem division_Gcd {w : World} {ga : Bool} {Sa : Nat → Prop} {Aa : Option Addr} {na ca : Nat} {da : List Nat} {gb : Bool} {Sb : Nat → Prop} {Ab : Option Addr} {nb cb : Nat} {db : List Nat} (ha : NatR w Sa Aa na ca da) (hb : NatR w Sb Ab nb cb db) (hna : na ≤ 68719476736) (hnb : nb ≤ 68719476736) : Calls Tryz.prog 93 #[(.agg #[(.bool ga), (.slice Aa na ca)]), (.agg #[(.bool gb), (.slice Ab nb cb)])] w (Ret fun v w' => ∃ (gr : Bool) (Ar : Option Addr) (nr : Nat) (cr : Nat) (dr : List Nat), v = (.agg #[(.bool gr), (.slice Ar nr cr)]) ∧ Ext w w' ∧ NatR w' (fun b => w.heap.size ≤ b) Ar nr cr dr ∧ (zval gr dr = (Nat.gcd (val da) (val db) : Int)) ∧ (ICan gr dr) ∧ (nr ≤ na + nb + 2)) := by
  have ⟨la, ka, ma⟩ := ha.lkm
  replace ha := ha.low
  have ⟨lb, kb, mb⟩ := hb.lkm
  replace hb := hb.low
  refine enter Tryz.func93 rfl Tryz.ntmps93 rfl (rS fun K1 hK1 => sO (oBox [(.bool ga), (.slice Aa na ca)] rfl rfl (fun g2 w3 hg4 hE5 hz6 hB7 => sO (oBox [(.bool gb), (.slice Ab nb cb)] rfl rfl (fun g8 w9 hg10 hE11 hz12 hB13 => sO (oAlloc [(.bool false), (.slice none 0 0)] zero68 rfl (fun g14 w15 hg16 hE17 hz18 hB19 => sK hK1 (wp_seq_k fun K20 hK20 => dBegin (fun _ => False) mixed (fun w21 hE22 hz23 => dV 0 rfl (fun _ _ => evFA 1 fa68_1 rfl rfl) ?_)))))))))
  have hR24 := (hE11.trans hE17).trans hE22
  have hB25 := (hB7.ext hR24)
  refine dV 1 rfl (fun _ hf => evLoadB one66 rfl (hB25.ext hf) rfl) (dV 3 rfl (fun _ _ => evFA 1 fa68_1 rfl rfl) ?_)
  have hR26 := hE17.trans hE22
  have hB27 := (hB13.ext hR26)
  refine dV 4 rfl (fun _ hf => evLoadB one66 rfl (hB27.ext hf) rfl) ?_
  have hR28 := ((hE5.trans hE11).trans hE17).trans hE22
  have h29 := (ha.ext hR28)
  refine dOp 2 rfl rfl (by kernel_rfl) (oCall rfl call103 (natural_Normal h29 (by omega)) rfl ?_)
  rintro _ w31 ⟨Ar_30, nr_30, cr_30, dr_30, rfl, hE32, hr_30, e_30, le_30⟩
  refine ⟨(Frm.of_ext hE32), ?_⟩
  have hz33 := hE32.size
  have ⟨lr_30, kr_30, mr_30⟩ := hr_30.lkm
  have hR35 := hR28.trans hE32
  have h36 := (hb.ext hR35)
  refine dOp 5 rfl rfl (by kernel_rfl) (oCall rfl call103 (natural_Normal h36 (by omega)) rfl ?_)
  rintro _ w38 ⟨Ar_37, nr_37, cr_37, dr_37, rfl, hE39, hr_37, e_37, le_37⟩
  refine ⟨(Frm.of_ext hE39), ?_⟩
  have hz40 := hE39.size
  have ⟨lr_37, kr_37, mr_37⟩ := hr_37.lkm
  refine dAs 6 rfl rfl (dAs 7 rfl rfl (dDone (by kernel_rfl) (xN (hK20 _ _ (wp_seq_k fun K42 hK42 => wp_block ?_)))))
  have h44 := (hr_30.ext hE39)
  refine lLoop (fun m e w_ => ∃ (Ax : Option Addr) (nx : Nat) (cx : Nat) (dx : List Nat) (Ay : Option Addr) (ny : Nat) (cy : Nat) (dy : List Nat), m = val dy ∧ e 4 = (.pointer (some ⟨g14, 0, none⟩)) ∧ e 5 = (.slice Ax nx cx) ∧ e 6 = (.slice Ay ny cy) ∧ Frm (fun b => False) w38 w_ ∧ (nx ≤ na + nb) ∧ (ny ≤ na + nb) ∧ (NatR w_ (fun b => w.heap.size ≤ b) Ax nx cx dx) ∧ (NatR w_ (fun b => w.heap.size ≤ b) Ay ny cy dy) ∧ (Canon isZ dy) ∧ (Nat.gcd (val dx) (val dy) = Nat.gcd (val da) (val db))) (val (dr_37)) ?_ ?_
  · refine ⟨(Ar_30), (nr_30), (cr_30), (dr_30), (Ar_37), (nr_37), (cr_37), (dr_37), rfl, rfl, rfl, rfl, (Frm.refl _ _), ?_, ?_, ?_, ?_, ?_, ?_⟩
    · omega
    · omega
    · exact NatR.sub h44 q5
    · exact NatR.sub hr_37 q5
    · rw [e_37]; exact canon_trim _ _
    · rw [e_30, e_37, val_trim, val_trim]
  · rintro m43 e51 w45 ⟨Ax, nx, cx, dx, Ay, ny, cy, dy, hm50, hs46, hs47, hs48, hF49, hnx, hny, hX, hY, hcy, hG⟩
    obtain ⟨r52, rfl⟩ := sq (e := e51) (t := 4) hs46
    obtain ⟨r53, rfl⟩ := sq (e := r52) (t := 5) hs47
    obtain ⟨r54, rfl⟩ := sq (e := r53) (t := 6) hs48
    have hz55 := hF49.size
    have ⟨lx, kx, mx⟩ := hX.lkm; have ⟨ly, ky, my⟩ := hY.lkm
    refine wp_seq_k fun K56 hK56 => rS fun K57 hK57 => sMs rfl (sV (evLen Tryz.underlying66 rfl) ?_)
    by_cases hc58 : ((nx : Int)) > 2
    · refine sV (evGtr true rfl rfl (dT hc58)) (sMb rfl (sSkip rfl rfl (sSkip rfl rfl (sSkip rfl rfl (sV (v := (.bool true)) (rfl) (sK hK57 (cT rfl (wp_skip (xN (hK56 _ _ (wp_block (wp_seq_k fun K59 hK59 => rS fun K60 hK60 => sMs rfl (sV (evLen Tryz.underlying66 rfl) ?_)))))))))))))
      by_cases hc61 : ((ny : Int)) = 0
      · refine sV (evEql true rfl rfl (dT hc61)) (sK hK60 (cT rfl (rS fun K62 hK62 => sMs rfl (sO (oCall rfl call75 (integer_From hX (by omega)) rfl ?_)))))
        rintro _ w64 ⟨gr_63, Ar_63, nr_63, cr_63, dr_63, rfl, hE65, hr_63, v_63, cn_63, le_63⟩
        have hz66 := hE65.size
        have ⟨lr_63, kr_63, mr_63⟩ := hr_63.lkm
        have hR68 := (((hE22.trans hE32).trans hE39).trans hF49).trans hE65
        have hB69 := (hB19.ext hR68)
        refine sO (oStore [(.bool gr_63), (.slice Ar_63 nr_63 cr_63)] rfl rfl rfl sz68 rfl hB69 (Nat.le_of_ble_eq_true rfl) (fun w70 hU71 hz72 hB73 => ?_))
        replace hB73 : Blk w70 g14 68 [(.bool gr_63), (.slice Ar_63 nr_63 cr_63)] := hB73
        refine sK hK62 (wp_ret (xR (bR (xR (bR (xR (ret1 (.agg #[(.bool gr_63), (.slice Ar_63 nr_63 cr_63)]) Tryz.results93 (resB [(.bool gr_63), (.slice Ar_63 nr_63 cr_63)] agg68 sz68 rfl hB73) ?_)))))))
        have h74 := (hr_63.frmB hU71 q3)
        have hR75 := (((hR35.trans hE39).trans hF49).trans hE65).rx hU71
        exact ⟨gr_63, Ar_63, nr_63, cr_63, dr_63, rfl, (Frm.mono hR75 q4), (NatR.sub h74 q5), (by rw [v_63, zval_false, gcd_stop hG (by rw [show dy = [] from List.eq_nil_of_length_eq_zero (by omega)]; rfl)]), cn_63, (by omega)⟩
      · refine sV (evEql false rfl rfl (dF hc61)) (sK hK60 (cF rfl (wp_skip (xN (hK59 _ _ (wp_seq_k fun K76 hK76 => ?_))))))
        have hvy := canon_pos hcy ly (by omega)
        refine wp_region_lit (sMs rfl (sMs rfl (sO (oCall rfl call110 (division_divide hX hY (by omega) (by omega) (by omega)) rfl ?_))))
        rintro _ w78 ⟨Aq_77, nq_77, cq_77, dq_77, Ar_77, nr_77, cr_77, dr_77, rfl, hE79, hq_77, hr_77, e_77, lt_77, cnq_77, cnr_77, leq_77, ler_77⟩
        have hz80 := hE79.size
        have ⟨lq_77, kq_77, mq_77⟩ := hq_77.lkm
        have ⟨lr_77, kr_77, mr_77⟩ := hr_77.lkm
        refine sV (v := (.tuple #[(.slice Aq_77 nq_77 cq_77), (.slice Ar_77 nr_77 cr_77)])) (rfl) (sV (v := (.slice Aq_77 nq_77 cq_77)) (rfl) (sV (v := (.slice Ar_77 nr_77 cr_77)) (rfl) (sAs rfl (sAs rfl (sK hK76 (wp_region_lit (sMs rfl (sMs rfl (sAs rfl (sAs rfl (sDone (bN ?_))))))))))))
        have h83 := (hY.ext hE79)
        refine again (val (dr_77)) (by omega) ⟨(Ay), (ny), (cy), (dy), (Ar_77), (nr_77), (cr_77), (dr_77), rfl, rfl, rfl, rfl, (hF49.trans hE79), ?_, ?_, ?_, ?_, ?_, ?_⟩
        · omega
        · omega
        · exact NatR.sub h83 q5
        · exact NatR.sub hr_77 q5
        · exact cnr_77
        · exact gcd_step hG e_77 lt_77
    · refine sV (evGtr false rfl rfl (dF hc58)) (sMb rfl (sEv (v := (.slice Ay ny cy)) (rfl) rfl rfl (sEv (v := (.int .i64 ((ny : Int)))) (evLen Tryz.underlying66 rfl) rfl rfl ?_)))
      by_cases hc84 : ((ny : Int)) > 2
      · refine sEv (v := (.bool true)) (evGtr true rfl rfl (dT hc84)) rfl rfl (sV (v := (.bool true)) (rfl) (sK hK57 (cT rfl (wp_skip (xN (hK56 _ _ (wp_block (wp_seq_k fun K85 hK85 => rS fun K86 hK86 => sMs rfl (sV (evLen Tryz.underlying66 rfl) ?_)))))))))
        by_cases hc87 : ((ny : Int)) = 0
        · refine sV (evEql true rfl rfl (dT hc87)) (sK hK86 (cT rfl (rS fun K88 hK88 => sMs rfl (sO (oCall rfl call75 (integer_From hX (by omega)) rfl ?_)))))
          rintro _ w90 ⟨gr_89, Ar_89, nr_89, cr_89, dr_89, rfl, hE91, hr_89, v_89, cn_89, le_89⟩
          have hz92 := hE91.size
          have ⟨lr_89, kr_89, mr_89⟩ := hr_89.lkm
          have hR94 := (((hE22.trans hE32).trans hE39).trans hF49).trans hE91
          have hB95 := (hB19.ext hR94)
          refine sO (oStore [(.bool gr_89), (.slice Ar_89 nr_89 cr_89)] rfl rfl rfl sz68 rfl hB95 (Nat.le_of_ble_eq_true rfl) (fun w96 hU97 hz98 hB99 => ?_))
          replace hB99 : Blk w96 g14 68 [(.bool gr_89), (.slice Ar_89 nr_89 cr_89)] := hB99
          refine sK hK88 (wp_ret (xR (bR (xR (bR (xR (ret1 (.agg #[(.bool gr_89), (.slice Ar_89 nr_89 cr_89)]) Tryz.results93 (resB [(.bool gr_89), (.slice Ar_89 nr_89 cr_89)] agg68 sz68 rfl hB99) ?_)))))))
          have h100 := (hr_89.frmB hU97 q3)
          have hR101 := (((hR35.trans hE39).trans hF49).trans hE91).rx hU97
          exact ⟨gr_89, Ar_89, nr_89, cr_89, dr_89, rfl, (Frm.mono hR101 q4), (NatR.sub h100 q5), (by rw [v_89, zval_false, gcd_stop hG (by rw [show dy = [] from List.eq_nil_of_length_eq_zero (by omega)]; rfl)]), cn_89, (by omega)⟩
        · refine sV (evEql false rfl rfl (dF hc87)) (sK hK86 (cF rfl (wp_skip (xN (hK85 _ _ (wp_seq_k fun K102 hK102 => ?_))))))
          have hvy := canon_pos hcy ly (by omega)
          refine wp_region_lit (sMs rfl (sMs rfl (sO (oCall rfl call110 (division_divide hX hY (by omega) (by omega) (by omega)) rfl ?_))))
          rintro _ w104 ⟨Aq_103, nq_103, cq_103, dq_103, Ar_103, nr_103, cr_103, dr_103, rfl, hE105, hq_103, hr_103, e_103, lt_103, cnq_103, cnr_103, leq_103, ler_103⟩
          have hz106 := hE105.size
          have ⟨lq_103, kq_103, mq_103⟩ := hq_103.lkm
          have ⟨lr_103, kr_103, mr_103⟩ := hr_103.lkm
          refine sV (v := (.tuple #[(.slice Aq_103 nq_103 cq_103), (.slice Ar_103 nr_103 cr_103)])) (rfl) (sV (v := (.slice Aq_103 nq_103 cq_103)) (rfl) (sV (v := (.slice Ar_103 nr_103 cr_103)) (rfl) (sAs rfl (sAs rfl (sK hK102 (wp_region_lit (sMs rfl (sMs rfl (sAs rfl (sAs rfl (sDone (bN ?_))))))))))))
          have h109 := (hY.ext hE105)
          refine again (val (dr_103)) (by omega) ⟨(Ay), (ny), (cy), (dy), (Ar_103), (nr_103), (cr_103), (dr_103), rfl, rfl, rfl, rfl, (hF49.trans hE105), ?_, ?_, ?_, ?_, ?_, ?_⟩
          · omega
          · omega
          · exact NatR.sub h109 q5
          · exact NatR.sub hr_103 q5
          · exact cnr_103
          · exact gcd_step hG e_103 lt_103
      · refine sEv (v := (.bool false)) (evGtr false rfl rfl (dF hc84)) rfl rfl (sV (v := (.bool false)) (rfl) (sK hK57 (cF rfl (wp_exit (xE (xE (bE (xN (hK42 _ _ (rS fun K110 hK110 => sMs rfl (sO (oCall rfl call112 (natural_Uint64 hX) rfl ?_))))))))))))
        rintro _ w112 ⟨xr_111, gk_111, rfl, hE113, br_111, v_111⟩
        have hz114 := hE113.size
        refine sV (v := (.tuple #[(.int .u64 ((xr_111 : Int))), (.bool gk_111)])) (rfl) (sV (v := (.int .u64 ((xr_111 : Int)))) (rfl) (sV (v := (.bool gk_111)) (rfl) (sAi rfl (sAb rfl (sK hK110 (rS fun K115 hK115 => sMs rfl ?_))))))
        have h116 := (hY.ext hE113)
        refine sO (oCall rfl call112 (natural_Uint64 h116) rfl ?_)
        rintro _ w118 ⟨xr_117, gk_117, rfl, hE119, br_117, v_117⟩
        have hz120 := hE119.size
        refine sV (v := (.tuple #[(.int .u64 ((xr_117 : Int))), (.bool gk_117)])) (rfl) (sV (v := (.int .u64 ((xr_117 : Int)))) (rfl) (sV (v := (.bool gk_117)) (rfl) (sAi rfl (sAb rfl (sK hK115 (wp_seq_k fun K121 hK121 => wp_block ?_))))))
        refine lLoop (fun m e w_ => ∃ (um : Nat) (un : Nat), m = un ∧ e 4 = (.pointer (some ⟨g14, 0, none⟩)) ∧ e 9 = (.int .u64 ((um : Int))) ∧ e 11 = (.int .u64 ((un : Int))) ∧ Frm (fun b => False) w118 w_ ∧ (um < 18446744073709551616) ∧ (un < 18446744073709551616) ∧ (Nat.gcd um un = Nat.gcd (val da) (val db))) ((xr_117)) ?_ ?_
        · refine ⟨(xr_111), (xr_117), rfl, rfl, cI, cI, (Frm.refl _ _), ?_, ?_, ?_⟩
          · omega
          · omega
          · rw [v_111 (by omega), v_117 (by omega)]; exact hG
        · rintro m122 e129 w123 ⟨um, un, hm128, hs124, hs125, hs126, hF127, hum, hun, hU⟩
          obtain ⟨r130, rfl⟩ := sq (e := e129) (t := 4) hs124
          obtain ⟨r131, rfl⟩ := sq (e := r130) (t := 9) hs125
          obtain ⟨r132, rfl⟩ := sq (e := r131) (t := 11) hs126
          have hz133 := hF127.size
          refine wp_seq_k fun K134 hK134 => rS fun K135 hK135 => sMi rfl ?_
          by_cases hc136 : ((un : Int)) ≠ 0
          · refine sV (evNeq true rfl rfl (dT hc136)) (sK hK135 (cT rfl (wp_skip (xN (hK134 _ _ (wp_block (dBegin (fun _ => False) mixed (fun w137 hE138 hz139 => dMi 0 rfl rfl (dMi 1 rfl rfl (dMi 2 rfl rfl ?_))))))))))
            have hml := Nat.mod_lt um (show 0 < un by omega)
            refine dV 3 rfl (fun _ _ => evRem (((um % un : Nat) : Int)) rfl rfl (by omega) (remE (by omega) (by omega))) (dAi 4 rfl rfl (dAi 5 rfl rfl (dDone (by kernel_rfl) (bN (again ((um % un)) (by omega) ⟨(un), (um % un), rfl, rfl, cI, cI, (hF127.trans hE138), ?_, ?_, ?_⟩)))))
            · omega
            · exact Nat.lt_of_le_of_lt (Nat.mod_le _ _) hum
            · exact gcd_mod hU
          · refine sV (evNeq false rfl rfl (dF hc136)) (sK hK135 (cF rfl (wp_exit (xE (xE (bE (xN (hK121 _ _ (rS fun K140 hK140 => sMi rfl (sO (oCall rfl call70 (natural_Of (x1 := um) (by omega)) rfl ?_)))))))))))
            rintro _ w142 ⟨Ar_141, nr_141, cr_141, dr_141, rfl, hE143, hr_141, v_141, cn_141, le_141⟩
            have hz144 := hE143.size
            have ⟨lr_141, kr_141, mr_141⟩ := hr_141.lkm
            refine sO (oCall rfl call75 (integer_From hr_141 (by omega)) rfl ?_)
            rintro _ w147 ⟨gr_146, Ar_146, nr_146, cr_146, dr_146, rfl, hE148, hr_146, v_146, cn_146, le_146⟩
            have hz149 := hE148.size
            have ⟨lr_146, kr_146, mr_146⟩ := hr_146.lkm
            have hR151 := (((((((hE22.trans hE32).trans hE39).trans hF49).trans hE113).trans hE119).trans hF127).trans hE143).trans hE148
            have hB152 := (hB19.ext hR151)
            refine sO (oStore [(.bool gr_146), (.slice Ar_146 nr_146 cr_146)] rfl rfl rfl sz68 rfl hB152 (Nat.le_of_ble_eq_true rfl) (fun w153 hU154 hz155 hB156 => ?_))
            replace hB156 : Blk w153 g14 68 [(.bool gr_146), (.slice Ar_146 nr_146 cr_146)] := hB156
            refine sK hK140 (wp_ret (ret1 (.agg #[(.bool gr_146), (.slice Ar_146 nr_146 cr_146)]) Tryz.results93 (resB [(.bool gr_146), (.slice Ar_146 nr_146 cr_146)] agg68 sz68 rfl hB156) ?_))
            have h157 := (hr_146.frmB hU154 q3)
            have hR158 := (((((((hR35.trans hE39).trans hF49).trans hE113).trans hE119).trans hF127).trans hE143).trans hE148).rx hU154
            exact ⟨gr_146, Ar_146, nr_146, cr_146, dr_146, rfl, (Frm.mono hR158 q4), (NatR.sub h157 q5), (by rw [v_146, zval_false, v_141, gcd_stop hU (by omega)]), cn_146, (by omega)⟩
end Go.Proofs.YtbniolgfaeiedaaGreat
