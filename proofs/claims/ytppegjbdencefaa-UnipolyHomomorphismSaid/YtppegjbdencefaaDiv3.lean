/-
  Walks of package division: quotients of integers, greatest common divisors.
-/
import Derived.Test.YtppegjbdencefaaDiv2
import Derived.Test.YtppegjbdencefaaInt1
namespace Go.Proofs.Ytppegjbdencefaa
open Go.RowKit Go.Gx
theorem division_isZero {w : World} {ga : Bool} {Sa : Nat → Prop} {Aa : Option Addr} {na ca : Nat} {da : List Nat} (ha : NatR w Sa Aa na ca da)  : Calls Try.prog 123 #[(.agg #[(.bool ga), (.slice Aa na ca)])] w (Ret fun v w' => ∃ (gr : Bool), v = (.bool gr) ∧ Ext w w' ∧ (gr = decide (zval ga da = 0))) := by
  have la := ha.len; have ka := ha.cap; have ma := ha.max
  replace ha := ha.low
  refine enter Try.func123 rfl Try.ntmps123 rfl ?_
  refine wp_seq_k fun K1 hK1 => ?_
  refine wp_region_lit ?_
  refine sOp rfl (oBox [(.bool ga), (.slice Aa na ca)] rfl rfl ?_)
  intro g2 w3 hg4 hE5 hz6 hB7
  refine sEv (v := (.bool false)) (rfl) rfl rfl ?_
  refine sDone ?_
  refine xN (hK1 _ _ ?_)
  refine wp_seq_k fun K8 hK8 => ?_
  refine wp_region_lit ?_
  refine sEv (v := (.agg #[(.bool ga), (.slice Aa na ca)])) (evLoadAB [(.bool ga), (.slice Aa na ca)] agg46 sz46 rfl hB7 rfl) rfl rfl ?_
  have h9 := (ha.ext hE5)
  refine sOp rfl (oCall rfl call62 (integer_Sign h9) rfl ?_)
  rintro _ w11 ⟨xr_10, rfl, hE12, e_10⟩
  have hz13 := hE12.size
  refine sEv (v := (.bool (decide (zval ga da = 0)))) (evEql (decide (zval ga da = 0)) rfl rfl (sgn0 e_10)) rfl rfl ?_
  refine sEv (v := (.bool (decide (zval ga da = 0)))) (rfl) rfl rfl ?_
  refine sDone ?_
  refine xN (hK8 _ _ ?_)
  refine wp_ret ?_
  refine ret1 (.bool (decide (zval ga da = 0))) Try.results123 (resT rfl) ?_
  exact ⟨(decide (zval ga da = 0)), rfl, (hE5.trans hE12), rfl⟩

theorem division_Quo {w : World} {ga : Bool} {Sa : Nat → Prop} {Aa : Option Addr} {na ca : Nat} {da : List Nat} {gb : Bool} {Sb : Nat → Prop} {Ab : Option Addr} {nb cb : Nat} {db : List Nat} (ha : NatR w Sa Aa na ca da) (hb : NatR w Sb Ab nb cb db) (hna : na ≤ 137438953472) (hnb : nb ≤ 137438953472) (hb0 : zval gb db ≠ 0) : Calls Try.prog 115 #[(.agg #[(.bool ga), (.slice Aa na ca)]), (.agg #[(.bool gb), (.slice Ab nb cb)])] w (Ret fun v w' => ∃ (gq : Bool) (Aq : Option Addr) (nq : Nat) (cq : Nat) (dq : List Nat) (gr : Bool) (Ar : Option Addr) (nr : Nat) (cr : Nat) (dr : List Nat) (xe : Int), v = (.tuple #[(.agg #[(.bool gq), (.slice Aq nq cq)]), (.agg #[(.bool gr), (.slice Ar nr cr)]), (.int .i64 (xe))]) ∧ Ext w w' ∧ NatR w' (fun b => w.heap.size ≤ b) Aq nq cq dq ∧ NatR w' (fun b => w.heap.size ≤ b) Ar nr cr dr ∧ (zval gq dq = (zval ga da).tdiv (zval gb db)) ∧ (zval gr dr = (zval ga da).tmod (zval gb db)) ∧ (ICan gq dq) ∧ (ICan gr dr) ∧ (xe = 0) ∧ (nq ≤ na + 1) ∧ (nr ≤ nb)) := by
  have la := ha.len; have ka := ha.cap; have ma := ha.max
  replace ha := ha.low
  have lb := hb.len; have kb := hb.cap; have mb := hb.max
  replace hb := hb.low
  refine enter Try.func115 rfl Try.ntmps115 rfl ?_
  refine wp_seq_k fun K1 hK1 => ?_
  refine wp_region_lit ?_
  refine sOp rfl (oBox [(.bool ga), (.slice Aa na ca)] rfl rfl ?_)
  intro g2 w3 hg4 hE5 hz6 hB7
  refine sOp rfl (oBox [(.bool gb), (.slice Ab nb cb)] rfl rfl ?_)
  intro g8 w9 hg10 hE11 hz12 hB13
  refine sOp rfl (oAlloc [(.bool false), (.slice none 0 0)] zero46 rfl ?_)
  intro g14 w15 hg16 hE17 hz18 hB19
  refine sOp rfl (oAlloc [(.bool false), (.slice none 0 0)] zero46 rfl ?_)
  intro g20 w21 hg22 hE23 hz24 hB25
  refine sEv (v := (.int .i64 (0))) (rfl) rfl rfl ?_
  refine sDone ?_
  refine xN (hK1 _ _ ?_)
  refine wp_seq_k fun K26 hK26 => ?_
  refine wp_seq_k fun K27 hK27 => ?_
  refine wp_region_lit ?_
  have hB28 := (hB13.ext (hE17.trans hE23))
  refine sEv (v := (.agg #[(.bool gb), (.slice Ab nb cb)])) (evLoadAB [(.bool gb), (.slice Ab nb cb)] agg46 sz46 rfl hB28 rfl) rfl rfl ?_
  have h29 := (hb.ext (((hE5.trans hE11).trans hE17).trans hE23))
  refine sOp rfl (oCall rfl call123 (division_isZero h29) rfl ?_)
  rintro _ w31 ⟨gr_30, rfl, hE32, e_30⟩
  have hz33 := hE32.size
  obtain rfl : gr_30 = false := by rw [e_30]; exact decide_eq_false hb0
  refine sDone ?_
  refine xN (hK27 _ _ ?_)
  refine cF rfl ?_
  refine wp_skip ?_
  refine xN (hK26 _ _ ?_)
  refine wp_seq_k fun K34 hK34 => ?_
  have hvb0 : 0 < val db := by have h := natAbs_val gb db; omega
  refine wp_region_lit ?_
  refine sEv (v := (.pointer (some ⟨g2, 1, none⟩))) (evFA 1 fa46_1 rfl rfl) rfl rfl ?_
  have hB35 := (hB7.ext (((hE11.trans hE17).trans hE23).trans hE32))
  refine sEv (v := (.slice Aa na ca)) (evLoadB one44 rfl hB35 rfl) rfl rfl ?_
  refine sEv (v := (.pointer (some ⟨g8, 1, none⟩))) (evFA 1 fa46_1 rfl rfl) rfl rfl ?_
  have hB36 := (hB28.ext hE32)
  refine sEv (v := (.slice Ab nb cb)) (evLoadB one44 rfl hB36 rfl) rfl rfl ?_
  have h37 := (ha.ext ((((hE5.trans hE11).trans hE17).trans hE23).trans hE32))
  have h38 := (h29.ext hE32)
  refine sOp rfl (oCall rfl call121 (division_divide h37 h38 (by omega) (by omega) (by omega)) rfl ?_)
  rintro _ w40 ⟨Aq_39, nq_39, cq_39, dq_39, Ar_39, nr_39, cr_39, dr_39, rfl, hE41, hq_39, hr_39, e_39, lt_39, cnq_39, cnr_39, leq_39, ler_39⟩
  have hz42 := hE41.size
  have lq_39 := hq_39.len; have kq_39 := hq_39.cap; have mq_39 := hq_39.max
  have lr_39 := hr_39.len; have kr_39 := hr_39.cap; have mr_39 := hr_39.max
  refine sEv (v := (.tuple #[(.slice Aq_39 nq_39 cq_39), (.slice Ar_39 nr_39 cr_39)])) (rfl) rfl rfl ?_
  refine sEv (v := (.slice Aq_39 nq_39 cq_39)) (rfl) rfl rfl ?_
  refine sEv (v := (.slice Ar_39 nr_39 cr_39)) (rfl) rfl rfl ?_
  refine sEv (v := (.slice Aq_39 nq_39 cq_39)) (rfl) rfl rfl ?_
  refine sEv (v := (.slice Ar_39 nr_39 cr_39)) (rfl) rfl rfl ?_
  refine sDone ?_
  refine xN (hK34 _ _ ?_)
  refine wp_seq_k fun K45 hK45 => ?_
  refine dBegin (fun b => b = g14 ∨ b = g20) mixed ?_
  intro w46 hE47 hz48
  refine dEv 0 rfl (v := (.pointer (some ⟨g2, 0, none⟩))) (fun _ _ => evFA 0 fa46_0 rfl rfl) rfl rfl (by kernel_rfl) ?_
  have hB49 := (hB35.ext (hE41.trans hE47))
  refine dEv 1 rfl (v := (.bool ga)) (fun _ hf => evLoadB one4 rfl (hB49.frm hf q1) rfl) rfl rfl (by kernel_rfl) ?_
  refine dEv 2 rfl (v := (.pointer (some ⟨g8, 0, none⟩))) (fun _ _ => evFA 0 fa46_0 rfl rfl) rfl rfl (by kernel_rfl) ?_
  have hB50 := (hB36.ext (hE41.trans hE47))
  refine dEv 3 rfl (v := (.bool gb)) (fun _ hf => evLoadB one4 rfl (hB50.frm hf q1) rfl) rfl rfl (by kernel_rfl) ?_
  refine dEv 4 rfl (v := (.bool (ga != gb))) (fun _ _ => evNeqB _ Try.underlying4 rfl rfl rfl) rfl rfl (by kernel_rfl) ?_
  refine dEv 5 rfl (v := (.slice Aq_39 nq_39 cq_39)) (fun _ _ => rfl) rfl rfl (by kernel_rfl) ?_
  refine dEv 7 rfl (v := (.pointer (some ⟨g2, 0, none⟩))) (fun _ _ => evFA 0 fa46_0 rfl rfl) rfl rfl (by kernel_rfl) ?_
  refine dEv 8 rfl (v := (.bool ga)) (fun _ hf => evLoadB one4 rfl (hB49.frm hf q1) rfl) rfl rfl (by kernel_rfl) ?_
  refine dEv 9 rfl (v := (.slice Ar_39 nr_39 cr_39)) (fun _ _ => rfl) rfl rfl (by kernel_rfl) ?_
  have h51 := (hq_39.ext hE47)
  refine dOp 6 rfl rfl (by kernel_rfl) (oCall rfl call91 (integer_From h51 (by omega)) rfl ?_)
  rintro _ w53 ⟨gr_52, Ar_52, nr_52, cr_52, dr_52, rfl, hE54, hr_52, v_52, cn_52, le_52⟩
  refine ⟨(Frm.of_ext hE54), ?_⟩
  have hz55 := hE54.size
  have lr_52 := hr_52.len; have kr_52 := hr_52.cap; have mr_52 := hr_52.max
  have h57 := (hr_39.ext (hE47.trans hE54))
  refine dOp 10 rfl rfl (by kernel_rfl) (oCall rfl call91 (integer_From h57 (by omega)) rfl ?_)
  rintro _ w59 ⟨gr_58, Ar_58, nr_58, cr_58, dr_58, rfl, hE60, hr_58, v_58, cn_58, le_58⟩
  refine ⟨(Frm.of_ext hE60), ?_⟩
  have hz61 := hE60.size
  have lr_58 := hr_58.len; have kr_58 := hr_58.cap; have mr_58 := hr_58.max
  have hB63 := (hB19.ext (((((hE23.trans hE32).trans hE41).trans hE47).trans hE54).trans hE60))
  refine dOp 11 rfl rfl (by kernel_rfl) (oStore [(.bool gr_52), (.slice Ar_52 nr_52 cr_52)] rfl rfl rfl sz46 rfl hB63 (Nat.le_of_ble_eq_true rfl) ?_)
  intro w64 hU65 hz66 hB67
  replace hB67 : Blk w64 g14 46 [(.bool gr_52), (.slice Ar_52 nr_52 cr_52)] := hB67
  refine ⟨(hU65.mono q4), ?_⟩
  have hB68 := (hB25.frm ((((((Frm.of_ext (G := fun b => (b = g14)) hE32).trans (Frm.of_ext (G := fun b => (b = g14)) hE41)).trans (Frm.of_ext (G := fun b => (b = g14)) hE47)).trans (Frm.of_ext (G := fun b => (b = g14)) hE54)).trans (Frm.of_ext (G := fun b => (b = g14)) hE60)).trans hU65) q1)
  refine dOp 12 rfl rfl (by kernel_rfl) (oStore [(.bool gr_58), (.slice Ar_58 nr_58 cr_58)] rfl rfl rfl sz46 rfl hB68 (Nat.le_of_ble_eq_true rfl) ?_)
  intro w69 hU70 hz71 hB72
  replace hB72 : Blk w69 g20 46 [(.bool gr_58), (.slice Ar_58 nr_58 cr_58)] := hB72
  refine ⟨(hU70.mono q4), ?_⟩
  refine dEv 13 rfl (v := (.int .i64 (0))) (fun _ _ => rfl) rfl rfl (by kernel_rfl) ?_
  refine dDone (by kernel_rfl) ?_
  refine xN (hK45 _ _ ?_)
  refine wp_ret ?_
  have hB73 := (hB67.frm hU70 q1)
  refine ret3 (.agg #[(.bool gr_52), (.slice Ar_52 nr_52 cr_52)]) (.agg #[(.bool gr_58), (.slice Ar_58 nr_58 cr_58)]) (.int .i64 (0)) Try.results115 (resB [(.bool gr_52), (.slice Ar_52 nr_52 cr_52)] agg46 sz46 rfl hB73) (resB [(.bool gr_58), (.slice Ar_58 nr_58 cr_58)] agg46 sz46 rfl hB72) (resT rfl) ?_
  have h74 := (hr_52.frmB (((Frm.of_ext (G := fun b => (b = g14) ∨ (b = g20)) hE60).trans (hU65.mono (G' := fun b => (b = g14) ∨ (b = g20)) fun _ _ h => .inl h)).trans (hU70.mono (G' := fun b => (b = g14) ∨ (b = g20)) fun _ _ h => .inr h)) q3)
  have h75 := (hr_58.frmB ((hU65.mono (G' := fun b => (b = g14) ∨ (b = g20)) fun _ _ h => .inl h).trans (hU70.mono (G' := fun b => (b = g14) ∨ (b = g20)) fun _ _ h => .inr h)) q3)
  exact ⟨gr_52, Ar_52, nr_52, cr_52, dr_52, gr_58, Ar_58, nr_58, cr_58, dr_58, (0), rfl, (Frm.mono (((((((((((Frm.of_ext (G := fun b => (b = g14) ∨ (b = g20)) hE5).trans (Frm.of_ext (G := fun b => (b = g14) ∨ (b = g20)) hE11)).trans (Frm.of_ext (G := fun b => (b = g14) ∨ (b = g20)) hE17)).trans (Frm.of_ext (G := fun b => (b = g14) ∨ (b = g20)) hE23)).trans (Frm.of_ext (G := fun b => (b = g14) ∨ (b = g20)) hE32)).trans (Frm.of_ext (G := fun b => (b = g14) ∨ (b = g20)) hE41)).trans (Frm.of_ext (G := fun b => (b = g14) ∨ (b = g20)) hE47)).trans (Frm.of_ext (G := fun b => (b = g14) ∨ (b = g20)) hE54)).trans (Frm.of_ext (G := fun b => (b = g14) ∨ (b = g20)) hE60)).trans (hU65.mono (G' := fun b => (b = g14) ∨ (b = g20)) fun _ _ h => .inl h)).trans (hU70.mono (G' := fun b => (b = g14) ∨ (b = g20)) fun _ _ h => .inr h)) q4), (NatR.sub h74 q5), (NatR.sub h75 q5), (by rw [v_52]; exact quo_val e_39 lt_39), (by rw [v_58]; exact rem_val e_39 lt_39), cn_52, cn_58, rfl, (by omega), (by omega)⟩

theorem division_Gcd {w : World} {ga : Bool} {Sa : Nat → Prop} {Aa : Option Addr} {na ca : Nat} {da : List Nat} {gb : Bool} {Sb : Nat → Prop} {Ab : Option Addr} {nb cb : Nat} {db : List Nat} (ha : NatR w Sa Aa na ca da) (hb : NatR w Sb Ab nb cb db) (hna : na ≤ 68719476736) (hnb : nb ≤ 68719476736) : Calls Try.prog 114 #[(.agg #[(.bool ga), (.slice Aa na ca)]), (.agg #[(.bool gb), (.slice Ab nb cb)])] w (Ret fun v w' => ∃ (gr : Bool) (Ar : Option Addr) (nr : Nat) (cr : Nat) (dr : List Nat), v = (.agg #[(.bool gr), (.slice Ar nr cr)]) ∧ Ext w w' ∧ NatR w' (fun b => w.heap.size ≤ b) Ar nr cr dr ∧ (zval gr dr = (Nat.gcd (val da) (val db) : Int)) ∧ (ICan gr dr) ∧ (nr ≤ na + nb + 2)) := by
  have la := ha.len; have ka := ha.cap; have ma := ha.max
  replace ha := ha.low
  have lb := hb.len; have kb := hb.cap; have mb := hb.max
  replace hb := hb.low
  refine enter Try.func114 rfl Try.ntmps114 rfl ?_
  refine wp_seq_k fun K1 hK1 => ?_
  refine wp_region_lit ?_
  refine sOp rfl (oBox [(.bool ga), (.slice Aa na ca)] rfl rfl ?_)
  intro g2 w3 hg4 hE5 hz6 hB7
  refine sOp rfl (oBox [(.bool gb), (.slice Ab nb cb)] rfl rfl ?_)
  intro g8 w9 hg10 hE11 hz12 hB13
  refine sOp rfl (oAlloc [(.bool false), (.slice none 0 0)] zero46 rfl ?_)
  intro g14 w15 hg16 hE17 hz18 hB19
  refine sDone ?_
  refine xN (hK1 _ _ ?_)
  refine wp_seq_k fun K20 hK20 => ?_
  refine dBegin (fun _ => False) mixed ?_
  intro w21 hE22 hz23
  refine dEv 0 rfl (v := (.pointer (some ⟨g2, 1, none⟩))) (fun _ _ => evFA 1 fa46_1 rfl rfl) rfl rfl (by kernel_rfl) ?_
  have hB24 := (hB7.ext ((hE11.trans hE17).trans hE22))
  refine dEv 1 rfl (v := (.slice Aa na ca)) (fun _ hf => evLoadB one44 rfl (hB24.ext hf) rfl) rfl rfl (by kernel_rfl) ?_
  refine dEv 3 rfl (v := (.pointer (some ⟨g8, 1, none⟩))) (fun _ _ => evFA 1 fa46_1 rfl rfl) rfl rfl (by kernel_rfl) ?_
  have hB25 := (hB13.ext (hE17.trans hE22))
  refine dEv 4 rfl (v := (.slice Ab nb cb)) (fun _ hf => evLoadB one44 rfl (hB25.ext hf) rfl) rfl rfl (by kernel_rfl) ?_
  have h26 := (ha.ext (((hE5.trans hE11).trans hE17).trans hE22))
  refine dOp 2 rfl rfl (by kernel_rfl) (oCall rfl call103 (natural_Normal h26 (by omega)) rfl ?_)
  rintro _ w28 ⟨Ar_27, nr_27, cr_27, dr_27, rfl, hE29, hr_27, e_27, le_27⟩
  refine ⟨(Frm.of_ext hE29), ?_⟩
  have hz30 := hE29.size
  have lr_27 := hr_27.len; have kr_27 := hr_27.cap; have mr_27 := hr_27.max
  have h32 := (hb.ext ((((hE5.trans hE11).trans hE17).trans hE22).trans hE29))
  refine dOp 5 rfl rfl (by kernel_rfl) (oCall rfl call103 (natural_Normal h32 (by omega)) rfl ?_)
  rintro _ w34 ⟨Ar_33, nr_33, cr_33, dr_33, rfl, hE35, hr_33, e_33, le_33⟩
  refine ⟨(Frm.of_ext hE35), ?_⟩
  have hz36 := hE35.size
  have lr_33 := hr_33.len; have kr_33 := hr_33.cap; have mr_33 := hr_33.max
  refine dEv 6 rfl (v := (.slice Ar_27 nr_27 cr_27)) (fun _ _ => rfl) rfl rfl (by kernel_rfl) ?_
  refine dEv 7 rfl (v := (.slice Ar_33 nr_33 cr_33)) (fun _ _ => rfl) rfl rfl (by kernel_rfl) ?_
  refine dDone (by kernel_rfl) ?_
  refine xN (hK20 _ _ ?_)
  refine wp_seq_k fun K38 hK38 => ?_
  refine wp_block ?_
  have h40 := (hr_27.ext hE35)
  refine lLoop (fun m e w_ => ∃ (Ax : Option Addr) (nx : Nat) (cx : Nat) (dx : List Nat) (Ay : Option Addr) (ny : Nat) (cy : Nat) (dy : List Nat), m = val dy ∧ e 4 = (.pointer (some ⟨g14, 0, none⟩)) ∧ e 5 = (.slice Ax nx cx) ∧ e 6 = (.slice Ay ny cy) ∧ Frm (fun b => False) w34 w_ ∧ (nx ≤ na + nb) ∧ (ny ≤ na + nb) ∧ (NatR w_ (fun b => w.heap.size ≤ b) Ax nx cx dx) ∧ (NatR w_ (fun b => w.heap.size ≤ b) Ay ny cy dy) ∧ (Canon isZ dy) ∧ (Nat.gcd (val dx) (val dy) = Nat.gcd (val da) (val db))) (val (dr_33)) ?_ ?_
  · refine ⟨(Ar_27), (nr_27), (cr_27), (dr_27), (Ar_33), (nr_33), (cr_33), (dr_33), rfl, rfl, rfl, rfl, (Frm.refl _ _), ?_, ?_, ?_, ?_, ?_, ?_⟩
    · omega
    · omega
    · exact NatR.sub h40 q5
    · exact NatR.sub hr_33 q5
    · rw [e_33]; exact canon_trim _ _
    · rw [e_27, e_33, val_trim, val_trim]
  · rintro m39 e47 w41 ⟨Ax, nx, cx, dx, Ay, ny, cy, dy, hm46, hs42, hs43, hs44, hF45, hnx, hny, hX, hY, hcy, hG⟩
    obtain ⟨r48, rfl⟩ := sq (e := e47) (t := 4) hs42
    obtain ⟨r49, rfl⟩ := sq (e := r48) (t := 5) hs43
    obtain ⟨r50, rfl⟩ := sq (e := r49) (t := 6) hs44
    have hz51 := hF45.size
    have lx := hX.len; have kx := hX.cap; have mx := hX.max; have ly := hY.len; have ky := hY.cap; have my := hY.max
    refine wp_seq_k fun K52 hK52 => ?_
    refine wp_seq_k fun K53 hK53 => ?_
    refine wp_region_lit ?_
    refine sEv (v := (.slice Ax nx cx)) (rfl) rfl rfl ?_
    refine sEv (v := (.int .i64 ((nx : Int)))) (evLen Try.underlying44 rfl) rfl rfl ?_
    by_cases hc54 : ((nx : Int)) > 2
    · refine sEv (v := (.bool true)) (evGtr true rfl rfl (dT hc54)) rfl rfl ?_
      refine sEv (v := (.bool true)) (rfl) rfl rfl ?_
      refine sSkip rfl rfl ?_
      refine sSkip rfl rfl ?_
      refine sSkip rfl rfl ?_
      refine sEv (v := (.bool true)) (rfl) rfl rfl ?_
      refine sDone ?_
      refine xN (hK53 _ _ ?_)
      refine cT rfl ?_
      refine wp_skip ?_
      refine xN (hK52 _ _ ?_)
      refine wp_block ?_
      refine wp_seq_k fun K55 hK55 => ?_
      refine wp_seq_k fun K56 hK56 => ?_
      refine wp_region_lit ?_
      refine sEv (v := (.slice Ay ny cy)) (rfl) rfl rfl ?_
      refine sEv (v := (.int .i64 ((ny : Int)))) (evLen Try.underlying44 rfl) rfl rfl ?_
      by_cases hc57 : ((ny : Int)) = 0
      · refine sEv (v := (.bool true)) (evEql true rfl rfl (dT hc57)) rfl rfl ?_
        refine sDone ?_
        refine xN (hK56 _ _ ?_)
        refine cT rfl ?_
        refine wp_seq_k fun K58 hK58 => ?_
        refine wp_region_lit ?_
        refine sEv (v := (.slice Ax nx cx)) (rfl) rfl rfl ?_
        refine sOp rfl (oCall rfl call91 (integer_From hX (by omega)) rfl ?_)
        rintro _ w60 ⟨gr_59, Ar_59, nr_59, cr_59, dr_59, rfl, hE61, hr_59, v_59, cn_59, le_59⟩
        have hz62 := hE61.size
        have lr_59 := hr_59.len; have kr_59 := hr_59.cap; have mr_59 := hr_59.max
        have hB64 := (hB19.ext ((((hE22.trans hE29).trans hE35).trans hF45).trans hE61))
        refine sOp rfl (oStore [(.bool gr_59), (.slice Ar_59 nr_59 cr_59)] rfl rfl rfl sz46 rfl hB64 (Nat.le_of_ble_eq_true rfl) ?_)
        intro w65 hU66 hz67 hB68
        replace hB68 : Blk w65 g14 46 [(.bool gr_59), (.slice Ar_59 nr_59 cr_59)] := hB68
        refine sDone ?_
        refine xN (hK58 _ _ ?_)
        refine wp_ret (xR (bR (xR (bR (xR ?_)))))
        refine ret1 (.agg #[(.bool gr_59), (.slice Ar_59 nr_59 cr_59)]) Try.results114 (resB [(.bool gr_59), (.slice Ar_59 nr_59 cr_59)] agg46 sz46 rfl hB68) ?_
        have h69 := (hr_59.frmB hU66 q3)
        exact ⟨gr_59, Ar_59, nr_59, cr_59, dr_59, rfl, (Frm.mono (((((((((Frm.of_ext (G := fun b => (b = g14)) hE5).trans (Frm.of_ext (G := fun b => (b = g14)) hE11)).trans (Frm.of_ext (G := fun b => (b = g14)) hE17)).trans (Frm.of_ext (G := fun b => (b = g14)) hE22)).trans (Frm.of_ext (G := fun b => (b = g14)) hE29)).trans (Frm.of_ext (G := fun b => (b = g14)) hE35)).trans (Frm.of_ext (G := fun b => (b = g14)) hF45)).trans (Frm.of_ext (G := fun b => (b = g14)) hE61)).trans hU66) q4), (NatR.sub h69 q5), (by rw [v_59, zval_false, gcd_stop hG (by rw [show dy = [] from List.eq_nil_of_length_eq_zero (by omega)]; rfl)]), cn_59, (by omega)⟩
      · refine sEv (v := (.bool false)) (evEql false rfl rfl (dF hc57)) rfl rfl ?_
        refine sDone ?_
        refine xN (hK56 _ _ ?_)
        refine cF rfl ?_
        refine wp_skip ?_
        refine xN (hK55 _ _ ?_)
        refine wp_seq_k fun K70 hK70 => ?_
        have hvy := canon_pos hcy ly (by omega)
        refine wp_region_lit ?_
        refine sEv (v := (.slice Ax nx cx)) (rfl) rfl rfl ?_
        refine sEv (v := (.slice Ay ny cy)) (rfl) rfl rfl ?_
        refine sOp rfl (oCall rfl call121 (division_divide hX hY (by omega) (by omega) (by omega)) rfl ?_)
        rintro _ w72 ⟨Aq_71, nq_71, cq_71, dq_71, Ar_71, nr_71, cr_71, dr_71, rfl, hE73, hq_71, hr_71, e_71, lt_71, cnq_71, cnr_71, leq_71, ler_71⟩
        have hz74 := hE73.size
        have lq_71 := hq_71.len; have kq_71 := hq_71.cap; have mq_71 := hq_71.max
        have lr_71 := hr_71.len; have kr_71 := hr_71.cap; have mr_71 := hr_71.max
        refine sEv (v := (.tuple #[(.slice Aq_71 nq_71 cq_71), (.slice Ar_71 nr_71 cr_71)])) (rfl) rfl rfl ?_
        refine sEv (v := (.slice Aq_71 nq_71 cq_71)) (rfl) rfl rfl ?_
        refine sEv (v := (.slice Ar_71 nr_71 cr_71)) (rfl) rfl rfl ?_
        refine sEv (v := (.slice Aq_71 nq_71 cq_71)) (rfl) rfl rfl ?_
        refine sEv (v := (.slice Ar_71 nr_71 cr_71)) (rfl) rfl rfl ?_
        refine sDone ?_
        refine xN (hK70 _ _ ?_)
        refine wp_region_lit ?_
        refine sEv (v := (.slice Ay ny cy)) (rfl) rfl rfl ?_
        refine sEv (v := (.slice Ar_71 nr_71 cr_71)) (rfl) rfl rfl ?_
        refine sEv (v := (.slice Ay ny cy)) (rfl) rfl rfl ?_
        refine sEv (v := (.slice Ar_71 nr_71 cr_71)) (rfl) rfl rfl ?_
        refine sDone ?_
        refine bN ?_
        have h77 := (hY.ext hE73)
        refine again (val (dr_71)) (by omega) ⟨(Ay), (ny), (cy), (dy), (Ar_71), (nr_71), (cr_71), (dr_71), rfl, rfl, rfl, rfl, (hF45.trans hE73), ?_, ?_, ?_, ?_, ?_, ?_⟩
        · omega
        · omega
        · exact NatR.sub h77 q5
        · exact NatR.sub hr_71 q5
        · exact cnr_71
        · exact gcd_step hG e_71 lt_71
    · refine sEv (v := (.bool false)) (evGtr false rfl rfl (dF hc54)) rfl rfl ?_
      refine sEv (v := (.bool false)) (rfl) rfl rfl ?_
      refine sEv (v := (.slice Ay ny cy)) (rfl) rfl rfl ?_
      refine sEv (v := (.int .i64 ((ny : Int)))) (evLen Try.underlying44 rfl) rfl rfl ?_
      by_cases hc78 : ((ny : Int)) > 2
      · refine sEv (v := (.bool true)) (evGtr true rfl rfl (dT hc78)) rfl rfl ?_
        refine sEv (v := (.bool true)) (rfl) rfl rfl ?_
        refine sDone ?_
        refine xN (hK53 _ _ ?_)
        refine cT rfl ?_
        refine wp_skip ?_
        refine xN (hK52 _ _ ?_)
        refine wp_block ?_
        refine wp_seq_k fun K79 hK79 => ?_
        refine wp_seq_k fun K80 hK80 => ?_
        refine wp_region_lit ?_
        refine sEv (v := (.slice Ay ny cy)) (rfl) rfl rfl ?_
        refine sEv (v := (.int .i64 ((ny : Int)))) (evLen Try.underlying44 rfl) rfl rfl ?_
        by_cases hc81 : ((ny : Int)) = 0
        · refine sEv (v := (.bool true)) (evEql true rfl rfl (dT hc81)) rfl rfl ?_
          refine sDone ?_
          refine xN (hK80 _ _ ?_)
          refine cT rfl ?_
          refine wp_seq_k fun K82 hK82 => ?_
          refine wp_region_lit ?_
          refine sEv (v := (.slice Ax nx cx)) (rfl) rfl rfl ?_
          refine sOp rfl (oCall rfl call91 (integer_From hX (by omega)) rfl ?_)
          rintro _ w84 ⟨gr_83, Ar_83, nr_83, cr_83, dr_83, rfl, hE85, hr_83, v_83, cn_83, le_83⟩
          have hz86 := hE85.size
          have lr_83 := hr_83.len; have kr_83 := hr_83.cap; have mr_83 := hr_83.max
          have hB88 := (hB19.ext ((((hE22.trans hE29).trans hE35).trans hF45).trans hE85))
          refine sOp rfl (oStore [(.bool gr_83), (.slice Ar_83 nr_83 cr_83)] rfl rfl rfl sz46 rfl hB88 (Nat.le_of_ble_eq_true rfl) ?_)
          intro w89 hU90 hz91 hB92
          replace hB92 : Blk w89 g14 46 [(.bool gr_83), (.slice Ar_83 nr_83 cr_83)] := hB92
          refine sDone ?_
          refine xN (hK82 _ _ ?_)
          refine wp_ret (xR (bR (xR (bR (xR ?_)))))
          refine ret1 (.agg #[(.bool gr_83), (.slice Ar_83 nr_83 cr_83)]) Try.results114 (resB [(.bool gr_83), (.slice Ar_83 nr_83 cr_83)] agg46 sz46 rfl hB92) ?_
          have h93 := (hr_83.frmB hU90 q3)
          exact ⟨gr_83, Ar_83, nr_83, cr_83, dr_83, rfl, (Frm.mono (((((((((Frm.of_ext (G := fun b => (b = g14)) hE5).trans (Frm.of_ext (G := fun b => (b = g14)) hE11)).trans (Frm.of_ext (G := fun b => (b = g14)) hE17)).trans (Frm.of_ext (G := fun b => (b = g14)) hE22)).trans (Frm.of_ext (G := fun b => (b = g14)) hE29)).trans (Frm.of_ext (G := fun b => (b = g14)) hE35)).trans (Frm.of_ext (G := fun b => (b = g14)) hF45)).trans (Frm.of_ext (G := fun b => (b = g14)) hE85)).trans hU90) q4), (NatR.sub h93 q5), (by rw [v_83, zval_false, gcd_stop hG (by rw [show dy = [] from List.eq_nil_of_length_eq_zero (by omega)]; rfl)]), cn_83, (by omega)⟩
        · refine sEv (v := (.bool false)) (evEql false rfl rfl (dF hc81)) rfl rfl ?_
          refine sDone ?_
          refine xN (hK80 _ _ ?_)
          refine cF rfl ?_
          refine wp_skip ?_
          refine xN (hK79 _ _ ?_)
          refine wp_seq_k fun K94 hK94 => ?_
          have hvy := canon_pos hcy ly (by omega)
          refine wp_region_lit ?_
          refine sEv (v := (.slice Ax nx cx)) (rfl) rfl rfl ?_
          refine sEv (v := (.slice Ay ny cy)) (rfl) rfl rfl ?_
          refine sOp rfl (oCall rfl call121 (division_divide hX hY (by omega) (by omega) (by omega)) rfl ?_)
          rintro _ w96 ⟨Aq_95, nq_95, cq_95, dq_95, Ar_95, nr_95, cr_95, dr_95, rfl, hE97, hq_95, hr_95, e_95, lt_95, cnq_95, cnr_95, leq_95, ler_95⟩
          have hz98 := hE97.size
          have lq_95 := hq_95.len; have kq_95 := hq_95.cap; have mq_95 := hq_95.max
          have lr_95 := hr_95.len; have kr_95 := hr_95.cap; have mr_95 := hr_95.max
          refine sEv (v := (.tuple #[(.slice Aq_95 nq_95 cq_95), (.slice Ar_95 nr_95 cr_95)])) (rfl) rfl rfl ?_
          refine sEv (v := (.slice Aq_95 nq_95 cq_95)) (rfl) rfl rfl ?_
          refine sEv (v := (.slice Ar_95 nr_95 cr_95)) (rfl) rfl rfl ?_
          refine sEv (v := (.slice Aq_95 nq_95 cq_95)) (rfl) rfl rfl ?_
          refine sEv (v := (.slice Ar_95 nr_95 cr_95)) (rfl) rfl rfl ?_
          refine sDone ?_
          refine xN (hK94 _ _ ?_)
          refine wp_region_lit ?_
          refine sEv (v := (.slice Ay ny cy)) (rfl) rfl rfl ?_
          refine sEv (v := (.slice Ar_95 nr_95 cr_95)) (rfl) rfl rfl ?_
          refine sEv (v := (.slice Ay ny cy)) (rfl) rfl rfl ?_
          refine sEv (v := (.slice Ar_95 nr_95 cr_95)) (rfl) rfl rfl ?_
          refine sDone ?_
          refine bN ?_
          have h101 := (hY.ext hE97)
          refine again (val (dr_95)) (by omega) ⟨(Ay), (ny), (cy), (dy), (Ar_95), (nr_95), (cr_95), (dr_95), rfl, rfl, rfl, rfl, (hF45.trans hE97), ?_, ?_, ?_, ?_, ?_, ?_⟩
          · omega
          · omega
          · exact NatR.sub h101 q5
          · exact NatR.sub hr_95 q5
          · exact cnr_95
          · exact gcd_step hG e_95 lt_95
      · refine sEv (v := (.bool false)) (evGtr false rfl rfl (dF hc78)) rfl rfl ?_
        refine sEv (v := (.bool false)) (rfl) rfl rfl ?_
        refine sDone ?_
        refine xN (hK53 _ _ ?_)
        refine cF rfl ?_
        refine wp_exit (xE (xE (bE ?_)))
        refine xN (hK38 _ _ ?_)
        refine wp_seq_k fun K102 hK102 => ?_
        refine wp_region_lit ?_
        refine sEv (v := (.slice Ax nx cx)) (rfl) rfl rfl ?_
        refine sOp rfl (oCall rfl call122 (natural_Uint64 hX) rfl ?_)
        rintro _ w104 ⟨xr_103, gk_103, rfl, hE105, br_103, v_103⟩
        have hz106 := hE105.size
        refine sEv (v := (.tuple #[(.int .u64 ((xr_103 : Int))), (.bool gk_103)])) (rfl) rfl rfl ?_
        refine sEv (v := (.int .u64 ((xr_103 : Int)))) (rfl) rfl rfl ?_
        refine sEv (v := (.bool gk_103)) (rfl) rfl rfl ?_
        refine sEv (v := (.int .u64 ((xr_103 : Int)))) (rfl) rfl rfl ?_
        refine sEv (v := (.bool gk_103)) (rfl) rfl rfl ?_
        refine sDone ?_
        refine xN (hK102 _ _ ?_)
        refine wp_seq_k fun K107 hK107 => ?_
        refine wp_region_lit ?_
        refine sEv (v := (.slice Ay ny cy)) (rfl) rfl rfl ?_
        have h108 := (hY.ext hE105)
        refine sOp rfl (oCall rfl call122 (natural_Uint64 h108) rfl ?_)
        rintro _ w110 ⟨xr_109, gk_109, rfl, hE111, br_109, v_109⟩
        have hz112 := hE111.size
        refine sEv (v := (.tuple #[(.int .u64 ((xr_109 : Int))), (.bool gk_109)])) (rfl) rfl rfl ?_
        refine sEv (v := (.int .u64 ((xr_109 : Int)))) (rfl) rfl rfl ?_
        refine sEv (v := (.bool gk_109)) (rfl) rfl rfl ?_
        refine sEv (v := (.int .u64 ((xr_109 : Int)))) (rfl) rfl rfl ?_
        refine sEv (v := (.bool gk_109)) (rfl) rfl rfl ?_
        refine sDone ?_
        refine xN (hK107 _ _ ?_)
        refine wp_seq_k fun K113 hK113 => ?_
        refine wp_block ?_
        refine lLoop (fun m e w_ => ∃ (um : Nat) (un : Nat), m = un ∧ e 4 = (.pointer (some ⟨g14, 0, none⟩)) ∧ e 9 = (.int .u64 ((um : Int))) ∧ e 11 = (.int .u64 ((un : Int))) ∧ Frm (fun b => False) w110 w_ ∧ (um < 18446744073709551616) ∧ (un < 18446744073709551616) ∧ (Nat.gcd um un = Nat.gcd (val da) (val db))) ((xr_109)) ?_ ?_
        · refine ⟨(xr_103), (xr_109), rfl, rfl, (congrArg (Value.int .u64) (by omega)), (congrArg (Value.int .u64) (by omega)), (Frm.refl _ _), ?_, ?_, ?_⟩
          · omega
          · omega
          · rw [v_103 (by omega), v_109 (by omega)]; exact hG
        · rintro m114 e121 w115 ⟨um, un, hm120, hs116, hs117, hs118, hF119, hum, hun, hU⟩
          obtain ⟨r122, rfl⟩ := sq (e := e121) (t := 4) hs116
          obtain ⟨r123, rfl⟩ := sq (e := r122) (t := 9) hs117
          obtain ⟨r124, rfl⟩ := sq (e := r123) (t := 11) hs118
          have hz125 := hF119.size
          refine wp_seq_k fun K126 hK126 => ?_
          refine wp_seq_k fun K127 hK127 => ?_
          refine wp_region_lit ?_
          refine sEv (v := (.int .u64 ((un : Int)))) (rfl) rfl rfl ?_
          by_cases hc128 : ((un : Int)) ≠ 0
          · refine sEv (v := (.bool true)) (evNeq true rfl rfl (dT hc128)) rfl rfl ?_
            refine sDone ?_
            refine xN (hK127 _ _ ?_)
            refine cT rfl ?_
            refine wp_skip ?_
            refine xN (hK126 _ _ ?_)
            refine wp_block ?_
            refine dBegin (fun _ => False) mixed ?_
            intro w129 hE130 hz131
            refine dEv 0 rfl (v := (.int .u64 ((un : Int)))) (fun _ _ => rfl) rfl rfl (by kernel_rfl) ?_
            refine dEv 1 rfl (v := (.int .u64 ((um : Int)))) (fun _ _ => rfl) rfl rfl (by kernel_rfl) ?_
            refine dEv 2 rfl (v := (.int .u64 ((un : Int)))) (fun _ _ => rfl) rfl rfl (by kernel_rfl) ?_
            have hml := Nat.mod_lt um (show 0 < un by omega)
            refine dEv 3 rfl (v := (.int .u64 (((um % un : Nat) : Int)))) (fun _ _ => evRem (((um % un : Nat) : Int)) rfl rfl (by omega) (remE (by omega) (by omega))) rfl rfl (by kernel_rfl) ?_
            refine dEv 4 rfl (v := (.int .u64 ((un : Int)))) (fun _ _ => rfl) rfl rfl (by kernel_rfl) ?_
            refine dEv 5 rfl (v := (.int .u64 (((um % un : Nat) : Int)))) (fun _ _ => rfl) rfl rfl (by kernel_rfl) ?_
            refine dDone (by kernel_rfl) ?_
            refine bN ?_
            refine again ((um % un)) (by omega) ⟨(un), (um % un), rfl, rfl, (congrArg (Value.int .u64) (by omega)), (congrArg (Value.int .u64) (by omega)), (hF119.trans hE130), ?_, ?_, ?_⟩
            · omega
            · exact Nat.lt_of_le_of_lt (Nat.mod_le _ _) hum
            · exact gcd_mod hU
          · refine sEv (v := (.bool false)) (evNeq false rfl rfl (dF hc128)) rfl rfl ?_
            refine sDone ?_
            refine xN (hK127 _ _ ?_)
            refine cF rfl ?_
            refine wp_exit (xE (xE (bE ?_)))
            refine xN (hK113 _ _ ?_)
            refine wp_seq_k fun K132 hK132 => ?_
            refine wp_region_lit ?_
            refine sEv (v := (.int .u64 ((um : Int)))) (rfl) rfl rfl ?_
            refine sOp rfl (oCall rfl call83 (natural_Of (x1 := um) (by omega)) rfl ?_)
            rintro _ w134 ⟨Ar_133, nr_133, cr_133, dr_133, rfl, hE135, hr_133, v_133, cn_133, le_133⟩
            have hz136 := hE135.size
            have lr_133 := hr_133.len; have kr_133 := hr_133.cap; have mr_133 := hr_133.max
            refine sOp rfl (oCall rfl call91 (integer_From hr_133 (by omega)) rfl ?_)
            rintro _ w139 ⟨gr_138, Ar_138, nr_138, cr_138, dr_138, rfl, hE140, hr_138, v_138, cn_138, le_138⟩
            have hz141 := hE140.size
            have lr_138 := hr_138.len; have kr_138 := hr_138.cap; have mr_138 := hr_138.max
            have hB143 := (hB19.ext ((((((((hE22.trans hE29).trans hE35).trans hF45).trans hE105).trans hE111).trans hF119).trans hE135).trans hE140))
            refine sOp rfl (oStore [(.bool gr_138), (.slice Ar_138 nr_138 cr_138)] rfl rfl rfl sz46 rfl hB143 (Nat.le_of_ble_eq_true rfl) ?_)
            intro w144 hU145 hz146 hB147
            replace hB147 : Blk w144 g14 46 [(.bool gr_138), (.slice Ar_138 nr_138 cr_138)] := hB147
            refine sDone ?_
            refine xN (hK132 _ _ ?_)
            refine wp_ret ?_
            refine ret1 (.agg #[(.bool gr_138), (.slice Ar_138 nr_138 cr_138)]) Try.results114 (resB [(.bool gr_138), (.slice Ar_138 nr_138 cr_138)] agg46 sz46 rfl hB147) ?_
            have h148 := (hr_138.frmB hU145 q3)
            exact ⟨gr_138, Ar_138, nr_138, cr_138, dr_138, rfl, (Frm.mono (((((((((((((Frm.of_ext (G := fun b => (b = g14)) hE5).trans (Frm.of_ext (G := fun b => (b = g14)) hE11)).trans (Frm.of_ext (G := fun b => (b = g14)) hE17)).trans (Frm.of_ext (G := fun b => (b = g14)) hE22)).trans (Frm.of_ext (G := fun b => (b = g14)) hE29)).trans (Frm.of_ext (G := fun b => (b = g14)) hE35)).trans (Frm.of_ext (G := fun b => (b = g14)) hF45)).trans (Frm.of_ext (G := fun b => (b = g14)) hE105)).trans (Frm.of_ext (G := fun b => (b = g14)) hE111)).trans (Frm.of_ext (G := fun b => (b = g14)) hF119)).trans (Frm.of_ext (G := fun b => (b = g14)) hE135)).trans (Frm.of_ext (G := fun b => (b = g14)) hE140)).trans hU145) q4), (NatR.sub h148 q5), (by rw [v_138, zval_false, v_133, gcd_stop hU (by omega)]), cn_138, (by omega)⟩

end Go.Proofs.Ytppegjbdencefaa
