/-
  Walk of package division: long division.
-/
import Derived.Test.YtppegjbdencefaaDiv1
import Derived.Test.YtppegjbdencefaaNat6
import Derived.Test.YtppegjbdencefaaDivMath2
namespace Go.Proofs.Ytppegjbdencefaa
open Go.RowKit Go.Gx
set_option maxHeartbeats 2000000 in
theorem division_divide {w : World} {Sa : Nat → Prop} {Aa : Option Addr} {na ca : Nat} {da : List Nat} {Sb : Nat → Prop} {Ab : Option Addr} {nb cb : Nat} {db : List Nat} (ha : NatR w Sa Aa na ca da) (hb : NatR w Sb Ab nb cb db) (hna : na ≤ 274877906944) (hnb : nb ≤ 274877906944) (hb0 : 0 < val db) : Calls Try.prog 121 #[(.slice Aa na ca), (.slice Ab nb cb)] w (Ret fun v w' => ∃ (Aq : Option Addr) (nq : Nat) (cq : Nat) (dq : List Nat) (Ar : Option Addr) (nr : Nat) (cr : Nat) (dr : List Nat), v = (.tuple #[(.slice Aq nq cq), (.slice Ar nr cr)]) ∧ Ext w w' ∧ NatR w' (fun b => w.heap.size ≤ b) Aq nq cq dq ∧ NatR w' (fun b => w.heap.size ≤ b) Ar nr cr dr ∧ (val da = val db * val dq + val dr) ∧ (val dr < val db) ∧ (Canon isZ dq) ∧ (Canon isZ dr) ∧ (nq ≤ na + 1) ∧ (nr ≤ nb)) := by
  have la := ha.len; have ka := ha.cap; have ma := ha.max
  replace ha := ha.low
  have lb := hb.len; have kb := hb.cap; have mb := hb.max
  replace hb := hb.low
  refine enter Try.func121 rfl Try.ntmps121 rfl ?_
  refine wp_seq_k fun K1 hK1 => ?_
  refine wp_region_lit ?_
  refine sEv (v := (.slice none 0 0)) (rfl) rfl rfl ?_
  refine sEv (v := (.slice none 0 0)) (rfl) rfl rfl ?_
  refine sDone ?_
  refine xN (hK1 _ _ ?_)
  refine wp_scope_straight ?_
  refine wp_seq_k fun K2 hK2 => ?_
  refine wp_region_lit ?_
  refine sEv (v := (.slice Ab nb cb)) (rfl) rfl rfl ?_
  refine sOp rfl (oCall rfl call103 (natural_Normal hb (by omega)) rfl ?_)
  rintro _ w4 ⟨Ar_3, nr_3, cr_3, dr_3, rfl, hE5, hr_3, e_3, le_3⟩
  have hz6 := hE5.size
  have lr_3 := hr_3.len; have kr_3 := hr_3.cap; have mr_3 := hr_3.max
  have hvb : val dr_3 = val db := by rw [e_3, val_trim]
  have hcb : Canon isZ dr_3 := by rw [e_3]; exact canon_trim _ _
  have hb1 : nr_3 ≠ 0 := by intro h; rw [show dr_3 = [] from List.eq_nil_of_length_eq_zero (by omega)] at hvb; simp [val] at hvb; omega
  refine sEv (v := (.slice Ar_3 nr_3 cr_3)) (rfl) rfl rfl ?_
  refine sDone ?_
  refine xN (hK2 _ _ ?_)
  refine wp_seq_k fun K8 hK8 => ?_
  refine wp_seq_k fun K9 hK9 => ?_
  refine wp_region_lit ?_
  refine sEv (v := (.slice Aa na ca)) (rfl) rfl rfl ?_
  refine sEv (v := (.slice Ar_3 nr_3 cr_3)) (rfl) rfl rfl ?_
  have h10 := (ha.ext hE5)
  refine sOp rfl (oCall rfl call76 (natural_Cmp h10 hr_3) rfl ?_)
  rintro _ w12 ⟨xr_11, rfl, hE13, e_11⟩
  have hz14 := hE13.size
  by_cases hc15 : xr_11 < 0
  · refine sEv (v := (.bool true)) (evLss true rfl rfl (dT hc15)) rfl rfl ?_
    refine sDone ?_
    refine xN (hK9 _ _ ?_)
    refine cT rfl ?_
    refine wp_seq_k fun K16 hK16 => ?_
    refine wp_region_lit ?_
    refine sEv (v := (.slice Aa na ca)) (rfl) rfl rfl ?_
    have h17 := (h10.ext hE13)
    refine sOp rfl (oCall rfl call103 (natural_Normal h17 (by omega)) rfl ?_)
    rintro _ w19 ⟨Ar_18, nr_18, cr_18, dr_18, rfl, hE20, hr_18, e_18, le_18⟩
    have hz21 := hE20.size
    have lr_18 := hr_18.len; have kr_18 := hr_18.cap; have mr_18 := hr_18.max
    refine sEv (v := (.slice none 0 0)) (rfl) rfl rfl ?_
    refine sEv (v := (.slice Ar_18 nr_18 cr_18)) (rfl) rfl rfl ?_
    refine sDone ?_
    refine xN (hK16 _ _ ?_)
    refine wp_ret (xR (nR ?_))
    refine ret2 (.slice none 0 0) (.slice Ar_18 nr_18 cr_18) Try.results121 (resT rfl) (resT rfl) ?_
    have hlt : val dr_18 < val db := by rw [e_18, val_trim, ← hvb]; exact cmpN_neg e_11 hc15
    have hcr : Canon isZ dr_18 := by rw [e_18]; exact canon_trim _ _
    exact ⟨none, 0, 0, ([]), Ar_18, nr_18, cr_18, dr_18, rfl, ((hE5.trans hE13).trans hE20), NatR.nil, (NatR.sub hr_18 q5), (by rw [e_18, val_trim]; simp [val]), hlt, (canon_nil _), hcr, (by omega), (rem_len hcr hlt hb.2 lb lr_18)⟩
  · refine sEv (v := (.bool false)) (evLss false rfl rfl (dF hc15)) rfl rfl ?_
    refine sDone ?_
    refine xN (hK9 _ _ ?_)
    refine cF rfl ?_
    refine wp_skip ?_
    refine xN (hK8 _ _ ?_)
    refine wp_seq_k fun K23 hK23 => ?_
    refine wp_seq_k fun K24 hK24 => ?_
    refine wp_region_lit ?_
    refine sEv (v := (.slice Ar_3 nr_3 cr_3)) (rfl) rfl rfl ?_
    refine sEv (v := (.int .i64 ((nr_3 : Int)))) (evLen Try.underlying44 rfl) rfl rfl ?_
    by_cases hc25 : ((nr_3 : Int)) = 1
    · refine sEv (v := (.bool true)) (evEql true rfl rfl (dT hc25)) rfl rfl ?_
      refine sDone ?_
      refine xN (hK24 _ _ ?_)
      refine cT rfl ?_
      refine wp_seq_k fun K26 hK26 => ?_
      refine wp_region_lit ?_
      refine sEv (v := (.slice Aa na ca)) (rfl) rfl rfl ?_
      refine sEv (v := (.slice Ar_3 nr_3 cr_3)) (rfl) rfl rfl ?_
      have h27 := (hr_3.ext hE13)
      obtain ⟨b28, o29, rfl⟩ := h27.base (by omega)
      refine sEv (v := (.pointer (some ⟨b28, o29 + 0, none⟩))) (evIndex 0 Try.underlying44 sz62 rfl rfl (by omega) (by omega) (o29 + 0) (by omega)) rfl rfl ?_
      have hd30 := h27.lt 0
      refine sEv (v := (.int .u32 (((dr_3.getD 0 0 : Nat) : Int)))) (evLoad one62 rfl (h27.cell (by omega))) rfl rfl ?_
      have hd1 : val dr_3 = dr_3.getD 0 0 := (val2 lr_3).2.1 (by omega)
      have h31 := (h10.ext hE13)
      refine sOp rfl (oCall rfl call126 (natural_DivSmall h31 (xd := dr_3.getD 0 0) (by omega) (by omega) (by omega)) rfl ?_)
      rintro _ w33 ⟨Aq_32, nq_32, cq_32, dq_32, xm_32, gk_32, rfl, hE34, hq_32, bm_32, e_32, lt_32, cn_32, le_32⟩
      have hz35 := hE34.size
      have lq_32 := hq_32.len; have kq_32 := hq_32.cap; have mq_32 := hq_32.max
      refine sEv (v := (.tuple #[(.slice Aq_32 nq_32 cq_32), (.int .u32 ((xm_32 : Int))), (.bool gk_32)])) (rfl) rfl rfl ?_
      refine sEv (v := (.slice Aq_32 nq_32 cq_32)) (rfl) rfl rfl ?_
      refine sEv (v := (.int .u32 ((xm_32 : Int)))) (rfl) rfl rfl ?_
      refine sEv (v := (.bool gk_32)) (rfl) rfl rfl ?_
      refine sEv (v := (.slice Aq_32 nq_32 cq_32)) (rfl) rfl rfl ?_
      refine sEv (v := (.int .u32 ((xm_32 : Int)))) (rfl) rfl rfl ?_
      refine sEv (v := (.bool gk_32)) (rfl) rfl rfl ?_
      refine sDone ?_
      refine xN (hK26 _ _ ?_)
      refine wp_seq_k fun K37 hK37 => ?_
      refine wp_region_lit ?_
      refine sEv (v := (.slice Aq_32 nq_32 cq_32)) (rfl) rfl rfl ?_
      refine sEv (v := (.int .u32 ((xm_32 : Int)))) (rfl) rfl rfl ?_
      refine sEv (v := (.int .u64 ((xm_32 : Int)))) (evConv _ Try.underlying62 Try.underlying101 rfl (wU64 (by omega))) rfl rfl ?_
      refine sOp rfl (oCall rfl call83 (natural_Of (x1 := xm_32) (by omega)) rfl ?_)
      rintro _ w39 ⟨Ar_38, nr_38, cr_38, dr_38, rfl, hE40, hr_38, v_38, cn_38, le_38⟩
      have hz41 := hE40.size
      have lr_38 := hr_38.len; have kr_38 := hr_38.cap; have mr_38 := hr_38.max
      refine sEv (v := (.slice Aq_32 nq_32 cq_32)) (rfl) rfl rfl ?_
      refine sEv (v := (.slice Ar_38 nr_38 cr_38)) (rfl) rfl rfl ?_
      refine sDone ?_
      refine xN (hK37 _ _ ?_)
      refine wp_ret (xR (nR ?_))
      refine ret2 (.slice Aq_32 nq_32 cq_32) (.slice Ar_38 nr_38 cr_38) Try.results121 (resT rfl) (resT rfl) ?_
      have h43 := (hq_32.ext hE40)
      exact ⟨Aq_32, nq_32, cq_32, dq_32, Ar_38, nr_38, cr_38, dr_38, rfl, (((hE5.trans hE13).trans hE34).trans hE40), (NatR.sub h43 q5), (NatR.sub hr_38 q5), (by rw [v_38, ← hvb, hd1]; exact e_32), (by rw [v_38, ← hvb, hd1]; exact lt_32), cn_32, cn_38, (by omega), (rem_len cn_38 (by rw [v_38, ← hvb, hd1]; exact lt_32) hb.2 lb lr_38)⟩
    · refine sEv (v := (.bool false)) (evEql false rfl rfl (dF hc25)) rfl rfl ?_
      refine sDone ?_
      refine xN (hK24 _ _ ?_)
      refine cF rfl ?_
      refine wp_skip ?_
      refine xN (hK23 _ _ ?_)
      refine wp_seq_k fun K44 hK44 => ?_
      refine wp_region_lit ?_
      refine sEv (v := (.slice Ar_3 nr_3 cr_3)) (rfl) rfl rfl ?_
      refine sEv (v := (.slice Ar_3 nr_3 cr_3)) (rfl) rfl rfl ?_
      refine sEv (v := (.int .i64 ((nr_3 : Int)))) (evLen Try.underlying44 rfl) rfl rfl ?_
      refine sEv (v := (.int .i64 (((nr_3 : Int)) - 1))) (evSub (((nr_3 : Int)) - 1) rfl rfl (wI64 (by omega))) rfl rfl ?_
      have h45 := (hr_3.ext hE13)
      obtain ⟨b46, o47, rfl⟩ := h45.base (by omega)
      refine sEv (v := (.pointer (some ⟨b46, o47 + (nr_3 - 1), none⟩))) (evIndex (nr_3 - 1) Try.underlying44 sz62 rfl rfl (by omega) (by omega) (o47 + (nr_3 - 1)) (by omega)) rfl rfl ?_
      have hd48 := h45.lt (nr_3 - 1)
      refine sEv (v := (.int .u32 (((dr_3.getD (nr_3 - 1) 0 : Nat) : Int)))) (evLoad one62 rfl (h45.cell (by omega))) rfl rfl ?_
      have htop : dr_3.getD (nr_3 - 1) 0 ≠ 0 := canon_top hcb lr_3 hb1
      refine sOp rfl (oCall rfl call127 (bits_LeadingZeros32 (x1 := dr_3.getD (nr_3 - 1) 0) (by omega) (by omega)) rfl ?_)
      rintro _ w50 ⟨xr_49, rfl, hE51, br_49, lt_49, ge_49, le_49⟩
      have hz52 := hE51.size
      refine sEv (v := (.int .i64 ((xr_49 : Int)))) (rfl) rfl rfl ?_
      refine sDone ?_
      refine xN (hK44 _ _ ?_)
      refine wp_seq_k fun K53 hK53 => ?_
      refine wp_region_lit ?_
      refine sEv (v := (.slice (some ⟨b46, o47, none⟩) nr_3 cr_3)) (rfl) rfl rfl ?_
      refine sEv (v := (.int .i64 ((xr_49 : Int)))) (rfl) rfl rfl ?_
      have h54 := (h45.ext hE51)
      refine sOp rfl (oCall rfl call128 (natural_Shl h54 (xn := xr_49) (by omega) (by omega) (by omega)) rfl ?_)
      rintro _ w56 ⟨Ar_55, nr_55, cr_55, dr_55, rfl, hE57, hr_55, v_55, cn_55, le_55⟩
      have hz58 := hE57.size
      have lr_55 := hr_55.len; have kr_55 := hr_55.cap; have mr_55 := hr_55.max
      have h60 := hr_55.sub (S' := fun b => (w50.heap.size ≤ b) ∧ b < w56.heap.size) fun _ hb hs => ⟨hs, hb⟩
      have hnl := norm_len hr_3.2 lr_3 (by omega) lt_49 ge_49 le_49 v_55 hr_55.2 cn_55
      have hnv : nr_55 = nr_3 := by rw [← lr_55]; exact hnl.1
      rw [← hnv] at hnl
      refine sEv (v := (.slice Ar_55 nr_55 cr_55)) (rfl) rfl rfl ?_
      refine sDone ?_
      refine xN (hK53 _ _ ?_)
      refine wp_seq_k fun K61 hK61 => ?_
      refine wp_region_lit ?_
      refine sEv (v := (.slice Ar_55 nr_55 cr_55)) (rfl) rfl rfl ?_
      refine sEv (v := (.int .i64 ((nr_55 : Int)))) (evLen Try.underlying44 rfl) rfl rfl ?_
      refine sEv (v := (.int .i64 ((nr_55 : Int)))) (rfl) rfl rfl ?_
      refine sDone ?_
      refine xN (hK61 _ _ ?_)
      refine wp_seq_k fun K62 hK62 => ?_
      refine wp_region_lit ?_
      refine sEv (v := (.slice Aa na ca)) (rfl) rfl rfl ?_
      have h63 := (h10.ext ((hE13.trans hE51).trans hE57))
      refine sOp rfl (oCall rfl call103 (natural_Normal h63 (by omega)) rfl ?_)
      rintro _ w65 ⟨Ar_64, nr_64, cr_64, dr_64, rfl, hE66, hr_64, e_64, le_64⟩
      have hz67 := hE66.size
      have lr_64 := hr_64.len; have kr_64 := hr_64.cap; have mr_64 := hr_64.max
      refine sEv (v := (.int .i64 ((nr_64 : Int)))) (evLen Try.underlying44 rfl) rfl rfl ?_
      refine sEv (v := (.int .i64 (((nr_64 : Int)) + 1))) (evAdd (((nr_64 : Int)) + 1) rfl rfl (wI64 (by omega))) rfl rfl ?_
      refine sOp rfl (oMake1 (nr_64 + 1) Try.underlying44 inf62 rfl (congrArg (Value.int .i64) (by omega)) (congrArg (Value.int .i64) (by omega)) (by omega) (by omega) ?_)
      intro g69 w70 hg71 hE72 hz73 hB74
      have hB75 : Blk w70 g69 62 (((List.replicate (nr_64 + 1) 0)).map u32) := by rw [List.map_replicate]; exact hB74
      refine sEv (v := (.slice (some ⟨g69, 0, none⟩) (nr_64 + 1) (nr_64 + 1))) (rfl) rfl rfl ?_
      refine sDone ?_
      refine xN (hK62 _ _ ?_)
      refine wp_seq_k fun K76 hK76 => ?_
      refine wp_region_lit ?_
      refine sEv (v := (.slice (some ⟨g69, 0, none⟩) (nr_64 + 1) (nr_64 + 1))) (rfl) rfl rfl ?_
      refine sEv (v := (.slice Aa na ca)) (rfl) rfl rfl ?_
      refine sEv (v := (.int .i64 ((xr_49 : Int)))) (rfl) rfl rfl ?_
      have h77 := (h63.ext (hE66.trans hE72))
      refine sOp rfl (oCall rfl call128 (natural_Shl h77 (xn := xr_49) (by omega) (by omega) (by omega)) rfl ?_)
      rintro _ w79 ⟨Ar_78, nr_78, cr_78, dr_78, rfl, hE80, hr_78, v_78, cn_78, le_78⟩
      have hz81 := hE80.size
      have lr_78 := hr_78.len; have kr_78 := hr_78.cap; have mr_78 := hr_78.max
      have hva : val dr_64 = val da := by rw [e_64, val_trim]
      have hcmp := cmpN_nn e_11 hc15
      have hul : nr_78 ≤ nr_64 + 1 := by rw [← lr_78]; exact lt_val_len cn_78 (shl_len hr_64.2 lr_64 hva v_78 le_49)
      have hab : nr_3 ≤ nr_64 := by rw [← lr_64, ← lr_3]; exact canon_len_le hr_64.2 hcb (by rw [hva, hvb]; rw [hvb] at hcmp; exact hcmp)
      have hB83 := (hB75.ext hE80)
      refine sOp rfl (oCopy Try.underlying44 sz62 rfl rfl hr_78.1 (u32s_one _) hB83 (by omega) (by exact lq) ?_)
      intro w84 hU85 hz86 hB87
      replace hB87 : Blk w84 g69 62 ((dr_78 ++ List.replicate (nr_64 + 1 - nr_78) 0).map u32) := by rw [← (copy_first lr_78 (by omega) : (List.replicate (nr_64 + 1) 0).take 0 ++ dr_78 ++ (List.replicate (nr_64 + 1) 0).drop (0 + nr_78) = dr_78 ++ List.replicate (nr_64 + 1 - nr_78) 0), List.map_append, List.map_append, List.map_take, List.map_drop]; exact hB87
      rw [put_mkA]
      refine sDone ?_
      refine xN (hK76 _ _ ?_)
      refine wp_seq_k fun K88 hK88 => ?_
      refine wp_region_lit ?_
      refine sEv (v := (.slice (some ⟨g69, 0, none⟩) (nr_64 + 1) (nr_64 + 1))) (rfl) rfl rfl ?_
      refine sEv (v := (.int .i64 (((nr_64 + 1 : Nat) : Int)))) (evLen Try.underlying44 rfl) rfl rfl ?_
      refine sEv (v := (.int .i64 ((nr_55 : Int)))) (rfl) rfl rfl ?_
      refine sEv (v := (.int .i64 ((((nr_64 + 1 : Nat) : Int)) - ((nr_55 : Int))))) (evSub ((((nr_64 + 1 : Nat) : Int)) - ((nr_55 : Int))) rfl rfl (wI64 (by omega))) rfl rfl ?_
      refine sOp rfl (oMake1 ((nr_64 + 1) - nr_55) Try.underlying44 inf62 rfl (congrArg (Value.int .i64) (by omega)) (congrArg (Value.int .i64) (by omega)) (by omega) (by omega) ?_)
      intro g89 w90 hg91 hE92 hz93 hB94
      have hB95 : Blk w90 g89 62 (((List.replicate ((nr_64 + 1) - nr_55) 0)).map u32) := by rw [List.map_replicate]; exact hB94
      refine sEv (v := (.slice (some ⟨g89, 0, none⟩) ((nr_64 + 1) - nr_55) ((nr_64 + 1) - nr_55))) (rfl) rfl rfl ?_
      refine sDone ?_
      refine xN (hK88 _ _ ?_)
      refine wp_seq_k fun K96 hK96 => ?_
      refine wp_label ?_
      refine xN (hK96 _ _ ?_)
      refine wp_seq_k fun K97 hK97 => ?_
      refine wp_seq_k fun K98 hK98 => ?_
      refine wp_region_lit ?_
      refine sEv (v := (.slice (some ⟨g89, 0, none⟩) ((nr_64 + 1) - nr_55) ((nr_64 + 1) - nr_55))) (rfl) rfl rfl ?_
      refine sEv (v := (.int .i64 ((((nr_64 + 1) - nr_55 : Nat) : Int)))) (evLen Try.underlying44 rfl) rfl rfl ?_
      refine sEv (v := (.int .i64 (((((nr_64 + 1) - nr_55 : Nat) : Int)) - 1))) (evSub (((((nr_64 + 1) - nr_55 : Nat) : Int)) - 1) rfl rfl (wI64 (by omega))) rfl rfl ?_
      refine sEv (v := (.int .i64 (((((nr_64 + 1) - nr_55 : Nat) : Int)) - 1))) (rfl) rfl rfl ?_
      refine sDone ?_
      refine xN (hK98 _ _ ?_)
      refine wp_block ?_
      have hB100 := (hB87.ext hE92)
      refine lLoop (fun m e w_ => ∃ (k : Nat) (Du : List Nat) (Q : List Nat), m = k ∧ e 4 = (.slice (some ⟨g89, 0, none⟩) ((nr_64 + 1) - nr_55) ((nr_64 + 1) - nr_55)) ∧ e 9 = (.int .i64 ((xr_49 : Int))) ∧ e 10 = (.slice Ar_55 nr_55 cr_55) ∧ e 11 = (.int .i64 ((nr_55 : Int))) ∧ e 12 = (.slice (some ⟨g69, 0, none⟩) (nr_64 + 1) (nr_64 + 1)) ∧ e 13 = (.int .i64 ((k : Int) - 1)) ∧ Frm (fun b => b = g69 ∨ b = g89) w90 w_ ∧ Blk w_ g69 62 (Du.map u32) ∧ Blk w_ g89 62 ((List.replicate k 0 ++ Q).map u32) ∧ (k ≤ (nr_64 + 1) - nr_55) ∧ (Du.length = nr_64 + 1) ∧ (∀ d ∈ Du, d < BS) ∧ (Q.length = (nr_64 + 1) - nr_55 - k) ∧ (∀ d ∈ Q, d < BS) ∧ (DivI Du dr_55 Q k (val da * 2 ^ xr_49))) (((nr_64 + 1) - nr_55)) ?_ ?_
      · refine ⟨((nr_64 + 1) - nr_55), (dr_78 ++ List.replicate (nr_64 + 1 - nr_78) 0), ([]), rfl, rfl, rfl, rfl, rfl, rfl, (congrArg (Value.int .i64) (by omega)), (Frm.refl _ _), ?_, ?_, ?_, ?_, ?_, ?_, ?_, ?_⟩
        · exact hB100
        · simpa using hB95
        · omega
        · simp; omega
        · exact lt_fill hr_78.2
        · simp
        · simp
        · exact DivI.start (m := (nr_64 + 1)) (n := nr_55) (s := xr_49) (va := val da) (by rw [val_fill, v_78]) rfl (by rw [← hva]; have h := val_lt _ hr_64.2; rw [lr_64] at h; simpa using h) le_49 (by have h := top_ge (d := dr_55) (n := nr_55) lr_55 (by omega); have h2 : BS ^ (nr_55 - 1) * 2147483648 ≤ BS ^ (nr_55 - 1) * dr_55.getD (nr_55 - 1) 0 := Nat.mul_le_mul_left _ hnl.2; omega) (by omega) rfl (by omega)
      · rintro m99 e112 w101 ⟨k, Du, Q, hm111, hs102, hs103, hs104, hs105, hs106, hs107, hF108, hB109, hB110, hk, hDl, hDt, hQl, hQt, hI⟩
        obtain ⟨r113, rfl⟩ := sq (e := e112) (t := 4) hs102
        obtain ⟨r114, rfl⟩ := sq (e := r113) (t := 9) hs103
        obtain ⟨r115, rfl⟩ := sq (e := r114) (t := 10) hs104
        obtain ⟨r116, rfl⟩ := sq (e := r115) (t := 11) hs105
        obtain ⟨r117, rfl⟩ := sq (e := r116) (t := 12) hs106
        obtain ⟨r118, rfl⟩ := sq (e := r117) (t := 13) hs107
        have hz119 := hF108.size
        refine wp_seq_k fun K120 hK120 => ?_
        refine wp_seq_k fun K121 hK121 => ?_
        refine wp_region_lit ?_
        refine sEv (v := (.int .i64 ((k : Int) - 1))) (rfl) rfl rfl ?_
        by_cases hc122 : ((k : Int) - 1) ≥ 0
        · refine sEv (v := (.bool true)) (evGeq true rfl rfl (dT hc122)) rfl rfl ?_
          refine sDone ?_
          refine xN (hK121 _ _ ?_)
          refine cT rfl ?_
          refine wp_skip ?_
          refine xN (hK120 _ _ ?_)
          refine wp_seq_k fun K123 hK123 => ?_
          refine wp_block ?_
          refine wp_seq_k fun K124 hK124 => ?_
          refine wp_region_lit ?_
          refine sEv (v := (.slice (some ⟨g69, 0, none⟩) (nr_64 + 1) (nr_64 + 1))) (rfl) rfl rfl ?_
          refine sEv (v := (.int .i64 ((k : Int) - 1))) (rfl) rfl rfl ?_
          refine sEv (v := (.int .i64 ((k : Int) - 1))) (rfl) rfl rfl ?_
          refine sEv (v := (.int .i64 ((nr_55 : Int)))) (rfl) rfl rfl ?_
          refine sEv (v := (.int .i64 (((k : Int) - 1) + ((nr_55 : Int))))) (evAdd (((k : Int) - 1) + ((nr_55 : Int))) rfl rfl (wI64 (by omega))) rfl rfl ?_
          refine sEv (v := (.int .i64 ((((k : Int) - 1) + ((nr_55 : Int))) + 1))) (evAdd ((((k : Int) - 1) + ((nr_55 : Int))) + 1) rfl rfl (wI64 (by omega))) rfl rfl ?_
          refine sEv (v := (.slice (some ⟨g69, k - 1, none⟩) ((((k - 1) + nr_55) + 1) - (k - 1)) ((nr_64 + 1) - (k - 1)))) (evSliceLH (k - 1) (((k - 1) + nr_55) + 1) Try.underlying44 sz62 rfl rfl rfl (by omega) (by omega) (by omega) (by omega) (by omega) (k - 1) (by omega)) rfl rfl ?_
          refine sEv (v := (.slice (some ⟨g69, k - 1, none⟩) ((((k - 1) + nr_55) + 1) - (k - 1)) ((nr_64 + 1) - (k - 1)))) (rfl) rfl rfl ?_
          refine sDone ?_
          refine xN (hK124 _ _ ?_)
          refine wp_seq_k fun K125 hK125 => ?_
          have h126 := (h60.frmB ((((((Frm.of_ext (G := fun b => (b = g69) ∨ (b = g69 ∨ b = g89)) hE66).trans (Frm.of_ext (G := fun b => (b = g69) ∨ (b = g69 ∨ b = g89)) hE72)).trans (Frm.of_ext (G := fun b => (b = g69) ∨ (b = g69 ∨ b = g89)) hE80)).trans (hU85.mono (G' := fun b => (b = g69) ∨ (b = g69 ∨ b = g89)) fun _ _ h => .inl h)).trans (Frm.of_ext (G := fun b => (b = g69) ∨ (b = g69 ∨ b = g89)) hE92)).trans (hF108.mono (G' := fun b => (b = g69) ∨ (b = g69 ∨ b = g89)) fun _ _ h => .inr h)) q3)
          have hvlt : val dr_55 < BS ^ nr_55 := by have h := val_lt _ h126.2; rw [lr_55] at h; exact h
          have hpt := hI.part (n := nr_55) (by omega) (by omega) hvlt
          have hpd : ∀ d ∈ (Du.drop (k - 1)).take (nr_55 + 1), d < BS := fun d hd => hDt d (List.mem_of_mem_drop (List.mem_of_mem_take hd))
          have hp3 := drop_three (d := (Du.drop (k - 1)).take (nr_55 + 1)) (n := nr_55) (by omega) (by simp; omega)
          rw [part_getD (by omega), part_getD (by omega), part_getD (by omega)] at hp3
          have hp2 := tops (k := 0) hpd (show 2 ≤ nr_55 by omega) (by simp; omega) hp3
          have hv3 := tops (k := 0) h126.2 (show 2 ≤ nr_55 by omega) (by omega) (drop_two (by omega) lr_55)
          have hE : 0 < BS ^ (nr_55 - 2) := Nat.pow_pos (by decide)
          have hut := top_le hE hv3.2 hp2.1 hpt.2.1 rfl rfl (h126.lt (nr_55 - 2))
          refine dBegin (fun b => b = g89) mixed ?_
          intro w127 hE128 hz129
          refine dEv 0 rfl (v := (.slice (some ⟨g89, 0, none⟩) ((nr_64 + 1) - nr_55) ((nr_64 + 1) - nr_55))) (fun _ _ => rfl) rfl rfl (by kernel_rfl) ?_
          refine dEv 1 rfl (v := (.int .i64 ((k : Int) - 1))) (fun _ _ => rfl) rfl rfl (by kernel_rfl) ?_
          refine dEv 2 rfl (v := (.slice (some ⟨g69, k - 1, none⟩) ((((k - 1) + nr_55) + 1) - (k - 1)) ((nr_64 + 1) - (k - 1)))) (fun _ _ => rfl) rfl rfl (by kernel_rfl) ?_
          refine dEv 3 rfl (v := (.int .i64 ((nr_55 : Int)))) (fun _ _ => rfl) rfl rfl (by kernel_rfl) ?_
          refine dEv 4 rfl (v := (.pointer (some ⟨g69, k - 1 + nr_55, none⟩))) (fun _ _ => evIndex nr_55 Try.underlying44 sz62 rfl rfl (by omega) (by omega) (k - 1 + nr_55) (by omega)) rfl rfl (by kernel_rfl) ?_
          have hB130 := (hB109.ext hE128)
          have hd131 := getD_lt (ds := Du) (i := k - 1 + nr_55) hDt
          refine dEv 5 rfl (v := (.int .u32 (((Du.getD (k - 1 + nr_55) 0 : Nat) : Int)))) (fun _ hf => evLoad one62 rfl ((hB130.frm hf q1).dig (by exact lq))) rfl rfl (by kernel_rfl) ?_
          refine dEv 6 rfl (v := (.slice (some ⟨g69, k - 1, none⟩) ((((k - 1) + nr_55) + 1) - (k - 1)) ((nr_64 + 1) - (k - 1)))) (fun _ _ => rfl) rfl rfl (by kernel_rfl) ?_
          refine dEv 7 rfl (v := (.int .i64 ((nr_55 : Int)))) (fun _ _ => rfl) rfl rfl (by kernel_rfl) ?_
          refine dEv 8 rfl (v := (.int .i64 (((nr_55 : Int)) - 1))) (fun _ _ => evSub (((nr_55 : Int)) - 1) rfl rfl (wI64 (by omega))) rfl rfl (by kernel_rfl) ?_
          refine dEv 9 rfl (v := (.pointer (some ⟨g69, k - 1 + (nr_55 - 1), none⟩))) (fun _ _ => evIndex (nr_55 - 1) Try.underlying44 sz62 rfl rfl (by omega) (by omega) (k - 1 + (nr_55 - 1)) (by omega)) rfl rfl (by kernel_rfl) ?_
          have hd132 := getD_lt (ds := Du) (i := k - 1 + (nr_55 - 1)) hDt
          refine dEv 10 rfl (v := (.int .u32 (((Du.getD (k - 1 + (nr_55 - 1)) 0 : Nat) : Int)))) (fun _ hf => evLoad one62 rfl ((hB130.frm hf q1).dig (by exact lq))) rfl rfl (by kernel_rfl) ?_
          refine dEv 11 rfl (v := (.slice (some ⟨g69, k - 1, none⟩) ((((k - 1) + nr_55) + 1) - (k - 1)) ((nr_64 + 1) - (k - 1)))) (fun _ _ => rfl) rfl rfl (by kernel_rfl) ?_
          refine dEv 12 rfl (v := (.int .i64 ((nr_55 : Int)))) (fun _ _ => rfl) rfl rfl (by kernel_rfl) ?_
          refine dEv 13 rfl (v := (.int .i64 (((nr_55 : Int)) - 2))) (fun _ _ => evSub (((nr_55 : Int)) - 2) rfl rfl (wI64 (by omega))) rfl rfl (by kernel_rfl) ?_
          refine dEv 14 rfl (v := (.pointer (some ⟨g69, k - 1 + (nr_55 - 2), none⟩))) (fun _ _ => evIndex (nr_55 - 2) Try.underlying44 sz62 rfl rfl (by omega) (by omega) (k - 1 + (nr_55 - 2)) (by omega)) rfl rfl (by kernel_rfl) ?_
          have hd133 := getD_lt (ds := Du) (i := k - 1 + (nr_55 - 2)) hDt
          refine dEv 15 rfl (v := (.int .u32 (((Du.getD (k - 1 + (nr_55 - 2)) 0 : Nat) : Int)))) (fun _ hf => evLoad one62 rfl ((hB130.frm hf q1).dig (by exact lq))) rfl rfl (by kernel_rfl) ?_
          refine dEv 16 rfl (v := (.slice Ar_55 nr_55 cr_55)) (fun _ _ => rfl) rfl rfl (by kernel_rfl) ?_
          refine dEv 17 rfl (v := (.int .i64 ((nr_55 : Int)))) (fun _ _ => rfl) rfl rfl (by kernel_rfl) ?_
          refine dEv 18 rfl (v := (.int .i64 (((nr_55 : Int)) - 1))) (fun _ _ => evSub (((nr_55 : Int)) - 1) rfl rfl (wI64 (by omega))) rfl rfl (by kernel_rfl) ?_
          have h134 := (h126.ext hE128)
          obtain ⟨b135, o136, rfl⟩ := h134.base (by omega)
          refine dEv 19 rfl (v := (.pointer (some ⟨b135, o136 + (nr_55 - 1), none⟩))) (fun _ _ => evIndex (nr_55 - 1) Try.underlying44 sz62 rfl rfl (by omega) (by omega) (o136 + (nr_55 - 1)) (by omega)) rfl rfl (by kernel_rfl) ?_
          have hd137 := h134.lt (nr_55 - 1)
          refine dEv 20 rfl (v := (.int .u32 (((dr_55.getD (nr_55 - 1) 0 : Nat) : Int)))) (fun _ hf => evLoad one62 rfl ((h134.frm hf q2).cell (by omega))) rfl rfl (by kernel_rfl) ?_
          refine dEv 21 rfl (v := (.slice (some ⟨b135, o136, none⟩) nr_55 cr_55)) (fun _ _ => rfl) rfl rfl (by kernel_rfl) ?_
          refine dEv 22 rfl (v := (.int .i64 ((nr_55 : Int)))) (fun _ _ => rfl) rfl rfl (by kernel_rfl) ?_
          refine dEv 23 rfl (v := (.int .i64 (((nr_55 : Int)) - 2))) (fun _ _ => evSub (((nr_55 : Int)) - 2) rfl rfl (wI64 (by omega))) rfl rfl (by kernel_rfl) ?_
          refine dEv 24 rfl (v := (.pointer (some ⟨b135, o136 + (nr_55 - 2), none⟩))) (fun _ _ => evIndex (nr_55 - 2) Try.underlying44 sz62 rfl rfl (by omega) (by omega) (o136 + (nr_55 - 2)) (by omega)) rfl rfl (by kernel_rfl) ?_
          have hd138 := h134.lt (nr_55 - 2)
          refine dEv 25 rfl (v := (.int .u32 (((dr_55.getD (nr_55 - 2) 0 : Nat) : Int)))) (fun _ hf => evLoad one62 rfl ((h134.frm hf q2).cell (by omega))) rfl rfl (by kernel_rfl) ?_
          refine dOp 26 rfl rfl (by kernel_rfl) (oCall rfl call129 (division_estimate (xa := Du.getD (k - 1 + nr_55) 0) (by omega) (xb := Du.getD (k - 1 + (nr_55 - 1)) 0) (by omega) (xc := Du.getD (k - 1 + (nr_55 - 2)) 0) (by omega) (xd := dr_55.getD (nr_55 - 1) 0) (by omega) (xe := dr_55.getD (nr_55 - 2) 0) (by omega) (by omega) (by omega)) rfl ?_)
          rintro _ w140 ⟨xr_139, rfl, hE141, br_139, ok_139, mx_139⟩
          refine ⟨(Frm.of_ext hE141), ?_⟩
          have hz142 := hE141.size
          have hbd := est_bound hE hv3.1 hv3.2 hp2.1 hp2.2 ok_139 mx_139 (by omega) hpt.2.1 (by unfold estV; have h := hnl.2; omega)
          refine dEv 27 rfl (v := (.pointer (some ⟨g89, k - 1, none⟩))) (fun _ _ => evIndex (k - 1) Try.underlying44 sz62 rfl rfl (by omega) (by omega) (k - 1) (by omega)) rfl rfl (by kernel_rfl) ?_
          have hB143 := (hB110.ext (hE128.trans hE141))
          refine dOp 28 rfl rfl (by kernel_rfl) (oStore1 rfl rfl rfl sz62 hB143 (by exact lq) ?_)
          intro w144 hU145 hz146 hB147
          replace hB147 : Blk w144 g89 62 ((List.replicate (k - 1) 0 ++ (xr_139 :: Q)).map u32) := by rw [← (revN_set (by omega) (by omega) : (List.replicate k 0 ++ Q).set (k - 1) xr_139 = List.replicate (k - 1) 0 ++ (xr_139 :: Q)), List.map_set]; exact hB147
          refine ⟨hU145, ?_⟩
          refine dDone (by kernel_rfl) ?_
          refine xN (hK125 _ _ ?_)
          refine wp_seq_k fun K148 hK148 => ?_
          refine wp_seq_k fun K149 hK149 => ?_
          refine wp_region_lit ?_
          refine sEv (v := (.slice (some ⟨g69, k - 1, none⟩) ((((k - 1) + nr_55) + 1) - (k - 1)) ((nr_64 + 1) - (k - 1)))) (rfl) rfl rfl ?_
          refine sEv (v := (.slice (some ⟨b135, o136, none⟩) nr_55 cr_55)) (rfl) rfl rfl ?_
          refine sEv (v := (.slice (some ⟨g89, 0, none⟩) ((nr_64 + 1) - nr_55) ((nr_64 + 1) - nr_55))) (rfl) rfl rfl ?_
          refine sEv (v := (.int .i64 ((k : Int) - 1))) (rfl) rfl rfl ?_
          refine sEv (v := (.pointer (some ⟨g89, k - 1, none⟩))) (evIndex (k - 1) Try.underlying44 sz62 rfl rfl (by omega) (by omega) (k - 1) (by omega)) rfl rfl ?_
          have hd150 := getD_lt (ds := List.replicate (k - 1) 0 ++ (xr_139 :: Q)) (i := k - 1) (lt_revfill (lt_cons hQt (by omega)))
          refine sEv (v := (.int .u32 ((((List.replicate (k - 1) 0 ++ (xr_139 :: Q)).getD (k - 1) 0 : Nat) : Int)))) (evLoad one62 rfl (hB147.dig (by exact lq))) rfl rfl ?_
          have hqg : (List.replicate (k - 1) 0 ++ (xr_139 :: Q)).getD (k - 1) 0 = xr_139 := revN_get
          generalize hq113 : (List.replicate (k - 1) 0 ++ (xr_139 :: Q)).getD (k - 1) 0 = q113 at *
          obtain rfl := hqg.symm
          have hB151 := (hB130.frm ((Frm.of_ext (G := fun b => (b = g89)) hE141).trans hU145) q1)
          have h152 := (h134.frmB ((Frm.of_ext (G := fun b => (b = g89)) hE141).trans hU145) q3)
          refine sOp rfl (oCall rfl call130 (division_subtractMultiple (Uz := (Du).take (k - 1)) (Zz := (Du).drop (k - 1)) (by rw [List.take_append_drop]; exact hB151) (by exact lq) (by exact lq) (by rw [List.take_append_drop]; exact hDt) (by omega) (by omega) (NatR.sub h152 q5) (xd := xr_139) (by omega) (by omega)) rfl ?_)
          rintro _ w154 ⟨gr_153, Zr_153, bo_153, rfl, hE155, B_153, ln_153, lt_153, dr_153, e_153, z_153, g_153⟩
          have hz156 := hE155.size
          have hzl : val (Zr_153.take (nr_55 + 1)) < BS ^ (nr_55 + 1) := val_take_lt fun d hd => lt_153 d (by simp [hd])
          have ex : val (Zr_153.take (nr_55 + 1)) + xr_139 * val dr_55 = val ((Du.drop (k - 1)).take (nr_55 + 1)) + BS ^ (nr_55 + 1) * bo_153 := by have h := e_153; rwa [show k - 1 + nr_55 + 1 - (k - 1) = nr_55 + 1 by omega] at h
          have hnb0 := nonneg_of_borrow ex hzl
          have lnz : Zr_153.length = Du.length - (k - 1) := by rw [ln_153, List.length_drop]
          refine sEv (v := (.bool (!gr_153))) (evNot _ rfl rfl) rfl rfl ?_
          refine sDone ?_
          refine xN (hK149 _ _ ?_)
          cases gr_153
          · refine cT rfl ?_
            refine wp_exit (xE (bE ?_))
            refine xN (hK123 _ _ ?_)
            have hdl : Zr_153.drop (nr_55 + 1) = (Du.drop (k - 1)).drop (nr_55 + 1) := by have h := dr_153; rwa [show k - 1 + nr_55 + 1 - (k - 1) = nr_55 + 1 by omega] at h
            have hb00 : bo_153 = 0 := by simpa using g_153.symm
            have hqv := hnb0.1 hb00; rw [hb00, Nat.mul_zero, Nat.add_zero] at ex
            have hstep := hI.step (n := nr_55) (q := xr_139) (by omega) (by omega) hvlt hDt ln_153 hdl ex (by have h := hbd.2.2 hqv; omega)
            have hDl2 : (Du.take (k - 1) ++ Zr_153).length = nr_64 + 1 := by simp [ln_153]; omega
            refine wp_region_lit ?_
            refine sEv (v := (.int .i64 ((k : Int) - 1))) (rfl) rfl rfl ?_
            refine sEv (v := (.int .i64 (((k : Int) - 1) - 1))) (evSub (((k : Int) - 1) - 1) rfl rfl (wI64 (by omega))) rfl rfl ?_
            refine sEv (v := (.int .i64 (((k : Int) - 1) - 1))) (rfl) rfl rfl ?_
            refine sDone ?_
            have hB157 := (hB147.frm hE155 q1)
            refine again ((k - 1)) (by omega) ⟨(k - 1), ((Du).take (k - 1) ++ Zr_153), ((xr_139) :: Q), rfl, rfl, rfl, rfl, rfl, rfl, (congrArg (Value.int .i64) (by omega)), (Frm.mono (((((hF108.mono (G' := fun b => (b = g69 ∨ b = g89) ∨ (b = g89) ∨ (b = g69)) fun _ _ h => .inl h).trans (Frm.of_ext (G := fun b => (b = g69 ∨ b = g89) ∨ (b = g89) ∨ (b = g69)) hE128)).trans (Frm.of_ext (G := fun b => (b = g69 ∨ b = g89) ∨ (b = g89) ∨ (b = g69)) hE141)).trans (hU145.mono (G' := fun b => (b = g69 ∨ b = g89) ∨ (b = g89) ∨ (b = g69)) fun _ _ h => .inr (.inl h))).trans (hE155.mono (G' := fun b => (b = g69 ∨ b = g89) ∨ (b = g89) ∨ (b = g69)) fun _ _ h => .inr (.inr h))) q4), ?_, ?_, ?_, ?_, ?_, ?_, ?_, ?_⟩
            · exact B_153
            · exact hB157
            · omega
            · exact hDl2
            · exact lt_153
            · simp [hQl]; omega
            · exact lt_cons hQt (by omega)
            · exact hstep
          · refine cF rfl ?_
            refine wp_skip ?_
            refine xN (hK148 _ _ ?_)
            refine wp_seq_k fun K158 hK158 => ?_
            have hb01 : bo_153 ≠ 0 := by simpa using g_153.symm
            have hnq : ¬ xr_139 * val dr_55 ≤ val ((Du.drop (k - 1)).take (nr_55 + 1)) := fun h => hb01 (hnb0.2 h)
            have hpos : 0 < xr_139 := by rcases Nat.eq_zero_or_pos xr_139 with h | h; rw [h, Nat.zero_mul] at hnq; omega; exact h
            refine wp_region_lit ?_
            refine sEv (v := (.slice (some ⟨g89, 0, none⟩) ((nr_64 + 1) - nr_55) ((nr_64 + 1) - nr_55))) (rfl) rfl rfl ?_
            refine sEv (v := (.int .i64 ((k : Int) - 1))) (rfl) rfl rfl ?_
            refine sEv (v := (.pointer (some ⟨g89, k - 1, none⟩))) (evIndex (k - 1) Try.underlying44 sz62 rfl rfl (by omega) (by omega) (k - 1) (by omega)) rfl rfl ?_
            have hB159 := (hB147.frm hE155 q1)
            have hd160 := getD_lt (ds := List.replicate (k - 1) 0 ++ (xr_139 :: Q)) (i := k - 1) (lt_revfill (lt_cons hQt (by omega)))
            refine sEv (v := (.int .u32 ((((List.replicate (k - 1) 0 ++ (xr_139 :: Q)).getD (k - 1) 0 : Nat) : Int)))) (evLoad one62 rfl (hB159.dig (by exact lq))) rfl rfl ?_
            have hqg2 : (List.replicate (k - 1) 0 ++ (xr_139 :: Q)).getD (k - 1) 0 = xr_139 := revN_get
            generalize hq119 : (List.replicate (k - 1) 0 ++ (xr_139 :: Q)).getD (k - 1) 0 = q119 at *
            obtain rfl := hqg2.symm
            refine sEv (v := (.int .u32 (((xr_139 - 1 : Nat) : Int)))) (evSub (((xr_139 - 1 : Nat) : Int)) rfl rfl (wU32 (by omega))) rfl rfl ?_
            refine sEv (v := (.pointer (some ⟨g89, k - 1, none⟩))) (evIndex (k - 1) Try.underlying44 sz62 rfl rfl (by omega) (by omega) (k - 1) (by omega)) rfl rfl ?_
            refine sOp rfl (oStore1 rfl rfl rfl sz62 hB159 (by exact lq) ?_)
            intro w161 hU162 hz163 hB164
            replace hB164 : Blk w161 g89 62 ((List.replicate (k - 1) 0 ++ ((xr_139 - 1) :: Q)).map u32) := by rw [← (revN_set2 : (List.replicate (k - 1) 0 ++ (xr_139 :: Q)).set (k - 1) (xr_139 - 1) = List.replicate (k - 1) 0 ++ ((xr_139 - 1) :: Q)), List.map_set]; exact hB164
            refine sDone ?_
            refine xN (hK158 _ _ ?_)
            refine wp_region_lit ?_
            refine sEv (v := (.slice (some ⟨g69, k - 1, none⟩) ((((k - 1) + nr_55) + 1) - (k - 1)) ((nr_64 + 1) - (k - 1)))) (rfl) rfl rfl ?_
            refine sEv (v := (.slice (some ⟨b135, o136, none⟩) nr_55 cr_55)) (rfl) rfl rfl ?_
            have hB165 := (B_153.frm hU162 q1)
            have h166 := (h152.frmB ((hE155.mono (G' := fun b => (b = g69) ∨ (b = g89)) fun _ _ h => .inl h).trans (hU162.mono (G' := fun b => (b = g69) ∨ (b = g89)) fun _ _ h => .inr h)) q3)
            refine sOp rfl (oCall rfl call131 (division_addBack (Uz := ((Du).take (k - 1) ++ Zr_153).take (k - 1)) (Zz := ((Du).take (k - 1) ++ Zr_153).drop (k - 1)) (by rw [List.take_append_drop]; exact hB165) (by exact lq) (by exact lq) (by rw [List.take_append_drop]; exact lt_153) (by omega) (by omega) (NatR.sub h166 q5) (by omega)) rfl ?_)
            rintro _ w168 ⟨Zr_167, cr_167, rfl, hE169, B_167, ln_167, lt_167, dr_167, e_167⟩
            have hz170 := hE169.size
            refine sDone ?_
            refine bN ?_
            refine xN (hK123 _ _ ?_)
            have hta : (Du.take (k - 1) ++ Zr_153).drop (k - 1) = Zr_153 := take_app (by omega)
            have htb : (Du.take (k - 1) ++ Zr_153).take (k - 1) = Du.take (k - 1) := take_app2 (by omega)
            have hdl : Zr_167.drop (nr_55 + 1) = (Du.drop (k - 1)).drop (nr_55 + 1) := by have h := dr_167; have h2 := dr_153; rw [hta] at h; rw [show k - 1 + nr_55 + 1 - (k - 1) = nr_55 + 1 by omega] at h h2; rw [h, h2]
            have hln : Zr_167.length = (Du.drop (k - 1)).length := by have h := ln_167; rw [hta] at h; rw [h]; exact ln_153
            have ez : val (Zr_167.take (nr_55 + 1)) + BS ^ (nr_55 + 1) * cr_167 = val (Zr_153.take (nr_55 + 1)) + val dr_55 := by have h := e_167; rw [hta] at h; rwa [show k - 1 + nr_55 + 1 - (k - 1) = nr_55 + 1 by omega] at h
            have hz2 : val (Zr_167.take (nr_55 + 1)) < BS ^ (nr_55 + 1) := val_take_lt fun d hd => lt_167 d (by simp [hd])
            have hvB : val dr_55 < BS ^ (nr_55 + 1) := Nat.lt_of_lt_of_le hvlt (Nat.pow_le_pow_right (by decide) (by omega))
            have hbk := addback (q := xr_139 - 1) (by rw [show xr_139 - 1 + 1 = xr_139 by omega]; exact ex) hb01 z_153 ez hz2 (hbd.2.1 hpos) (by rw [show xr_139 - 1 + 1 = xr_139 by omega]; omega) hvB
            have hstep := hI.step (n := nr_55) (q := xr_139 - 1) (by omega) (by omega) hvlt hDt hln hdl hbk.1 hbk.2
            rw [htb] at B_167 lt_167
            have hDl2 : (Du.take (k - 1) ++ Zr_167).length = nr_64 + 1 := by simp [hln]; omega
            refine wp_region_lit ?_
            refine sEv (v := (.int .i64 ((k : Int) - 1))) (rfl) rfl rfl ?_
            refine sEv (v := (.int .i64 (((k : Int) - 1) - 1))) (evSub (((k : Int) - 1) - 1) rfl rfl (wI64 (by omega))) rfl rfl ?_
            refine sEv (v := (.int .i64 (((k : Int) - 1) - 1))) (rfl) rfl rfl ?_
            refine sDone ?_
            have hB171 := (hB164.frm hE169 q1)
            refine again ((k - 1)) (by omega) ⟨(k - 1), ((Du).take (k - 1) ++ Zr_167), ((xr_139 - 1) :: Q), rfl, rfl, rfl, rfl, rfl, rfl, (congrArg (Value.int .i64) (by omega)), (Frm.mono (((((((hF108.mono (G' := fun b => (b = g69 ∨ b = g89) ∨ (b = g89) ∨ (b = g69)) fun _ _ h => .inl h).trans (Frm.of_ext (G := fun b => (b = g69 ∨ b = g89) ∨ (b = g89) ∨ (b = g69)) hE128)).trans (Frm.of_ext (G := fun b => (b = g69 ∨ b = g89) ∨ (b = g89) ∨ (b = g69)) hE141)).trans (hU145.mono (G' := fun b => (b = g69 ∨ b = g89) ∨ (b = g89) ∨ (b = g69)) fun _ _ h => .inr (.inl h))).trans (hE155.mono (G' := fun b => (b = g69 ∨ b = g89) ∨ (b = g89) ∨ (b = g69)) fun _ _ h => .inr (.inr h))).trans (hU162.mono (G' := fun b => (b = g69 ∨ b = g89) ∨ (b = g89) ∨ (b = g69)) fun _ _ h => .inr (.inl h))).trans (hE169.mono (G' := fun b => (b = g69 ∨ b = g89) ∨ (b = g89) ∨ (b = g69)) fun _ _ h => .inr (.inr h))) q4), ?_, ?_, ?_, ?_, ?_, ?_, ?_, ?_⟩
            · exact B_167
            · exact hB171
            · omega
            · exact hDl2
            · exact lt_167
            · simp [hQl]; omega
            · exact lt_cons hQt (by omega)
            · exact hstep
        · refine sEv (v := (.bool false)) (evGeq false rfl rfl (dF hc122)) rfl rfl ?_
          refine sDone ?_
          refine xN (hK121 _ _ ?_)
          refine cF rfl ?_
          refine wp_exit (xE (xE (bE ?_)))
          refine xN (hK97 _ _ ?_)
          refine wp_seq_k fun K172 hK172 => ?_
          refine wp_region_lit ?_
          refine sEv (v := (.slice (some ⟨g89, 0, none⟩) ((nr_64 + 1) - nr_55) ((nr_64 + 1) - nr_55))) (rfl) rfl rfl ?_
          have h173 : NatR w101 (fun b => b = g89) (some ⟨g89, 0, none⟩) ((nr_64 + 1) - nr_55) ((nr_64 + 1) - nr_55) (List.replicate k 0 ++ Q) := NatR.of_blk hB110 rfl (lt_revfill hQt) (by exact lq) (by omega) (by unfold CapMax; omega)
          refine sOp rfl (oCall rfl call103 (natural_Normal h173 (by omega)) rfl ?_)
          rintro _ w175 ⟨Ar_174, nr_174, cr_174, dr_174, rfl, hE176, hr_174, e_174, le_174⟩
          have hz177 := hE176.size
          have lr_174 := hr_174.len; have kr_174 := hr_174.cap; have mr_174 := hr_174.max
          refine sEv (v := (.slice (some ⟨g69, 0, none⟩) (nr_64 + 1) (nr_64 + 1))) (rfl) rfl rfl ?_
          refine sEv (v := (.int .i64 ((xr_49 : Int)))) (rfl) rfl rfl ?_
          have hB179 := (hB109.ext hE176)
          have h180 : NatR w175 (fun b => b = g69) (some ⟨g69, 0, none⟩) (nr_64 + 1) (nr_64 + 1) (Du) := NatR.of_blk hB179 rfl hDt (by exact lq) (by omega) (by unfold CapMax; omega)
          refine sOp rfl (oCall rfl call132 (natural_Shr h180 (xn := xr_49) (by omega) (by omega)) rfl ?_)
          rintro _ w182 ⟨Ar_181, nr_181, cr_181, dr_181, rfl, hE183, hr_181, v_181, cn_181, le_181⟩
          have hz184 := hE183.size
          have lr_181 := hr_181.len; have kr_181 := hr_181.cap; have mr_181 := hr_181.max
          refine sEv (v := (.slice Ar_174 nr_174 cr_174)) (rfl) rfl rfl ?_
          refine sEv (v := (.slice Ar_181 nr_181 cr_181)) (rfl) rfl rfl ?_
          refine sDone ?_
          refine xN (hK172 _ _ ?_)
          refine wp_ret (nR ?_)
          refine ret2 (.slice Ar_174 nr_174 cr_174) (.slice Ar_181 nr_181 cr_181) Try.results121 (resT rfl) (resT rfl) ?_
          have hfin := DivI.fin (b := dr_3) (by have h := hI; rw [show k = 0 by omega] at h; exact h) rfl v_55 v_181
          rw [hvb] at hfin
          have h186 := (hr_174.ext hE183)
          exact ⟨Ar_174, nr_174, cr_174, dr_174, Ar_181, nr_181, cr_181, dr_181, rfl, (Frm.mono ((((((((((((Frm.of_ext (G := fun b => (b = g69) ∨ (b = g69 ∨ b = g89)) hE5).trans (Frm.of_ext (G := fun b => (b = g69) ∨ (b = g69 ∨ b = g89)) hE13)).trans (Frm.of_ext (G := fun b => (b = g69) ∨ (b = g69 ∨ b = g89)) hE51)).trans (Frm.of_ext (G := fun b => (b = g69) ∨ (b = g69 ∨ b = g89)) hE57)).trans (Frm.of_ext (G := fun b => (b = g69) ∨ (b = g69 ∨ b = g89)) hE66)).trans (Frm.of_ext (G := fun b => (b = g69) ∨ (b = g69 ∨ b = g89)) hE72)).trans (Frm.of_ext (G := fun b => (b = g69) ∨ (b = g69 ∨ b = g89)) hE80)).trans (hU85.mono (G' := fun b => (b = g69) ∨ (b = g69 ∨ b = g89)) fun _ _ h => .inl h)).trans (Frm.of_ext (G := fun b => (b = g69) ∨ (b = g69 ∨ b = g89)) hE92)).trans (hF108.mono (G' := fun b => (b = g69) ∨ (b = g69 ∨ b = g89)) fun _ _ h => .inr h)).trans (Frm.of_ext (G := fun b => (b = g69) ∨ (b = g69 ∨ b = g89)) hE176)).trans (Frm.of_ext (G := fun b => (b = g69) ∨ (b = g69 ∨ b = g89)) hE183)) q4), (NatR.sub h186 q5), (NatR.sub hr_181 q5), (by rw [e_174, val_trim, show k = 0 by omega, List.replicate_zero, List.nil_append]; exact hfin.1), hfin.2, (by rw [e_174]; exact canon_trim _ _), cn_181, (by omega), (rem_len cn_181 hfin.2 hb.2 lb lr_181)⟩

end Go.Proofs.Ytppegjbdencefaa
