/-
  Walk of package division: long division.
-/
import Derived.Test.YtneolcopompkaaaGreatDoorDiv1
import Derived.Test.YtneolcopompkaaaGreatDoorNat6
import Derived.Test.YtneolcopompkaaaGreatDoorLibA
namespace Go.Proofs.YtneolcopompkaaaGreatDoor
open Go.RowKit Go.Gx
set_option maxHeartbeats 2000000 in
theorem division_divide {w : World} {Sa : Nat → Prop} {Aa : Option Addr} {na ca : Nat} {da : List Nat} {Sb : Nat → Prop} {Ab : Option Addr} {nb cb : Nat} {db : List Nat} (ha : NatR w Sa Aa na ca da) (hb : NatR w Sb Ab nb cb db) (hna : na ≤ 274877906944) (hnb : nb ≤ 274877906944) (hb0 : 0 < val db) : Calls Tryz.prog 125 #[(.slice Aa na ca), (.slice Ab nb cb)] w (Ret fun v w' => ∃ (Aq : Option Addr) (nq : Nat) (cq : Nat) (dq : List Nat) (Ar : Option Addr) (nr : Nat) (cr : Nat) (dr : List Nat), v = (.tuple #[(.slice Aq nq cq), (.slice Ar nr cr)]) ∧ Ext w w' ∧ NatR w' (fun b => w.heap.size ≤ b) Aq nq cq dq ∧ NatR w' (fun b => w.heap.size ≤ b) Ar nr cr dr ∧ (val da = val db * val dq + val dr) ∧ (val dr < val db) ∧ (Canon isZ dq) ∧ (Canon isZ dr) ∧ (nq ≤ na + 1) ∧ (nr ≤ nb)) := by
  have ⟨la, ka, ma⟩ := ha.lkm
  replace ha := ha.low
  have ⟨lb, kb, mb⟩ := hb.lkm
  replace hb := hb.low
  refine enter Tryz.func125 rfl Tryz.ntmps125 rfl (rS fun K1 hK1 => sAs rfl (sAs rfl (sK hK1 (wp_scope_straight (rS fun K2 hK2 => sMs rfl (sO (oCall rfl call86 (natural_Normal hb (by omega)) rfl ?_)))))))
  rintro _ w4 ⟨Ar_3, nr_3, cr_3, dr_3, rfl, hE5, hr_3, e_3, le_3⟩
  have hz6 := hE5.size
  have ⟨lr_3, kr_3, mr_3⟩ := hr_3.lkm
  have hvb : val dr_3 = val db := by rw [e_3, val_trim]
  have hcb : Canon isZ dr_3 := by rw [e_3]; exact canon_trim _ _
  have hb1 : nr_3 ≠ 0 := by intro h; rw [show dr_3 = [] from List.eq_nil_of_length_eq_zero (by omega)] at hvb; simp [val] at hvb; omega
  refine sAs rfl (sK hK2 (wp_seq_k fun K8 hK8 => rS fun K9 hK9 => sMs rfl (sMs rfl ?_)))
  have h10 := (ha.ext hE5)
  refine sO (oCall rfl call47 (natural_Cmp h10 hr_3) rfl ?_)
  rintro _ w12 ⟨xr_11, rfl, hE13, e_11⟩
  have hz14 := hE13.size
  by_cases hc15 : xr_11 < 0
  · refine sV (evLss true rfl rfl (dT hc15)) (sK hK9 (cT rfl (rS fun K16 hK16 => sMs rfl ?_)))
    have h17 := (h10.ext hE13)
    refine sO (oCall rfl call86 (natural_Normal h17 (by omega)) rfl ?_)
    rintro _ w19 ⟨Ar_18, nr_18, cr_18, dr_18, rfl, hE20, hr_18, e_18, le_18⟩
    have hz21 := hE20.size
    have ⟨lr_18, kr_18, mr_18⟩ := hr_18.lkm
    refine sAs rfl (sAs rfl (sK hK16 (wp_ret (xR (nR (ret2 (.slice none 0 0) (.slice Ar_18 nr_18 cr_18) Tryz.results125 (resT rfl) (resT rfl) ?_))))))
    have hlt : val dr_18 < val db := by rw [e_18, val_trim, ← hvb]; exact cmpN_neg e_11 hc15
    have hcr : Canon isZ dr_18 := by rw [e_18]; exact canon_trim _ _
    have hR23 := (hE5.trans hE13).trans hE20
    exact ⟨none, 0, 0, ([]), Ar_18, nr_18, cr_18, dr_18, rfl, hR23, NatR.nil, (NatR.sub hr_18 q5), (by rw [e_18, val_trim]; simp [val]), hlt, (canon_nil _), hcr, (by omega), (rem_len hcr hlt hb.2 lb lr_18)⟩
  · refine sV (evLss false rfl rfl (dF hc15)) (sK hK9 (cF rfl (wp_skip (xN (hK8 _ _ (wp_seq_k fun K24 hK24 => rS fun K25 hK25 => sMs rfl (sV (evLen Tryz.underlying23 rfl) ?_)))))))
    by_cases hc26 : ((nr_3 : Int)) = 1
    · refine sV (evEql true rfl rfl (dT hc26)) (sK hK25 (cT rfl (rS fun K27 hK27 => sMs rfl (sMs rfl ?_))))
      have h28 := (hr_3.ext hE13)
      obtain ⟨b29, o30, rfl⟩ := h28.base (by omega)
      refine sV (evIx 0 Tryz.underlying23 sz26 rfl rfl (o30 + 0)) ?_
      have hd31 := h28.lt 0
      refine sV (evLoad one26 rfl (h28.cell (by omega))) ?_
      have hd1 : val dr_3 = dr_3.getD 0 0 := (val2 lr_3).2.1 (by omega)
      have h32 := (h10.ext hE13)
      refine sO (oCall rfl call64 (natural_DivSmall h32 (xd := dr_3.getD 0 0) (by omega) (by omega) (by omega)) rfl ?_)
      rintro _ w34 ⟨Aq_33, nq_33, cq_33, dq_33, xm_33, gk_33, rfl, hE35, hq_33, bm_33, e_33, lt_33, cn_33, le_33⟩
      have hz36 := hE35.size
      have ⟨lq_33, kq_33, mq_33⟩ := hq_33.lkm
      refine sV (v := (.tuple #[(.slice Aq_33 nq_33 cq_33), (.int .u32 ((xm_33 : Int))), (.bool gk_33)])) (rfl) (sV (v := (.slice Aq_33 nq_33 cq_33)) (rfl) (sV (v := (.int .u32 ((xm_33 : Int)))) (rfl) (sV (v := (.bool gk_33)) (rfl) (sAs rfl (sAi rfl (sAb rfl (sK hK27 (rS fun K38 hK38 => sMs rfl (sMi rfl (sV (evConv ((xm_33 : Int)) Tryz.underlying26 Tryz.underlying100 rfl (wU64 (by omega))) (sO (oCall rfl call75 (natural_Of (x1 := xm_33) (by omega)) rfl ?_))))))))))))
      rintro _ w40 ⟨Ar_39, nr_39, cr_39, dr_39, rfl, hE41, hr_39, v_39, cn_39, le_39⟩
      have hz42 := hE41.size
      have ⟨lr_39, kr_39, mr_39⟩ := hr_39.lkm
      refine sAs rfl (sAs rfl (sK hK38 (wp_ret (xR (nR (ret2 (.slice Aq_33 nq_33 cq_33) (.slice Ar_39 nr_39 cr_39) Tryz.results125 (resT rfl) (resT rfl) ?_))))))
      have h44 := (hq_33.ext hE41)
      have hR45 := ((hE5.trans hE13).trans hE35).trans hE41
      exact ⟨Aq_33, nq_33, cq_33, dq_33, Ar_39, nr_39, cr_39, dr_39, rfl, hR45, (NatR.sub h44 q5), (NatR.sub hr_39 q5), (by rw [v_39, ← hvb, hd1]; exact e_33), (by rw [v_39, ← hvb, hd1]; exact lt_33), cn_33, cn_39, (by omega), (rem_len cn_39 (by rw [v_39, ← hvb, hd1]; exact lt_33) hb.2 lb lr_39)⟩
    · refine sV (evEql false rfl rfl (dF hc26)) (sK hK25 (cF rfl (wp_skip (xN (hK24 _ _ (rS fun K46 hK46 => sMs rfl (sMs rfl (sV (evLen Tryz.underlying23 rfl) (sV (evSub (((nr_3 : Int)) - 1) rfl rfl wI) ?_)))))))))
      have h47 := (hr_3.ext hE13)
      obtain ⟨b48, o49, rfl⟩ := h47.base (by omega)
      refine sV (evIx (nr_3 - 1) Tryz.underlying23 sz26 rfl rfl (o49 + (nr_3 - 1))) ?_
      have hd50 := h47.lt (nr_3 - 1)
      refine sV (evLoad one26 rfl (h47.cell (by omega))) ?_
      have htop : dr_3.getD (nr_3 - 1) 0 ≠ 0 := canon_top hcb lr_3 hb1
      refine sO (oCall rfl call142 (bits_LeadingZeros32 (x1 := dr_3.getD (nr_3 - 1) 0) (by omega) (by omega)) rfl ?_)
      rintro _ w52 ⟨xr_51, rfl, hE53, br_51, lt_51, ge_51, le_51⟩
      have hz54 := hE53.size
      refine sAi rfl (sK hK46 (rS fun K55 hK55 => sMs rfl (sMi rfl ?_)))
      have h56 := (h47.ext hE53)
      refine sO (oCall rfl call74 (natural_Shl h56 (xn := xr_51) (by omega) (by omega) (by omega)) rfl ?_)
      rintro _ w58 ⟨Ar_57, nr_57, cr_57, dr_57, rfl, hE59, hr_57, v_57, cn_57, le_57⟩
      have hz60 := hE59.size
      have ⟨lr_57, kr_57, mr_57⟩ := hr_57.lkm
      have h62 := hr_57.sub (S' := fun b => (w52.heap.size ≤ b) ∧ b < w58.heap.size) fun _ hb hs => ⟨hs, hb⟩
      have hnl := norm_len hr_3.2 lr_3 (by omega) lt_51 ge_51 le_51 v_57 hr_57.2 cn_57
      have hnv : nr_57 = nr_3 := by rw [← lr_57]; exact hnl.1
      rw [← hnv] at hnl
      refine sAs rfl (sK hK55 (rS fun K63 hK63 => sMs rfl (sV (evLen Tryz.underlying23 rfl) (sAi rfl (sK hK63 (rS fun K64 hK64 => sMs rfl ?_))))))
      have hR65 := (hE13.trans hE53).trans hE59
      have h66 := (h10.ext hR65)
      refine sO (oCall rfl call86 (natural_Normal h66 (by omega)) rfl ?_)
      rintro _ w68 ⟨Ar_67, nr_67, cr_67, dr_67, rfl, hE69, hr_67, e_67, le_67⟩
      have hz70 := hE69.size
      have ⟨lr_67, kr_67, mr_67⟩ := hr_67.lkm
      refine sV (evLen Tryz.underlying23 rfl) (sV (evAdd (((nr_67 : Int)) + 1) rfl rfl wI) (sO (oMake1 (nr_67 + 1) Tryz.underlying23 inf26 rfl cI cI (by omega) (by omega) (fun g72 w73 hg74 hE75 hz76 hB77 => ?_))))
      have hB78 : Blk w73 g72 26 (((List.replicate (nr_67 + 1) 0)).map u32) := by rw [List.map_replicate]; exact hB77
      refine sAs rfl (sK hK64 (rS fun K79 hK79 => sMs rfl (sMs rfl (sMi rfl ?_))))
      have hR80 := hE69.trans hE75
      have h81 := (h66.ext hR80)
      refine sO (oCall rfl call74 (natural_Shl h81 (xn := xr_51) (by omega) (by omega) (by omega)) rfl ?_)
      rintro _ w83 ⟨Ar_82, nr_82, cr_82, dr_82, rfl, hE84, hr_82, v_82, cn_82, le_82⟩
      have hz85 := hE84.size
      have ⟨lr_82, kr_82, mr_82⟩ := hr_82.lkm
      have hva : val dr_67 = val da := by rw [e_67, val_trim]
      have hcmp := cmpN_nn e_11 hc15
      have hul : nr_82 ≤ nr_67 + 1 := by rw [← lr_82]; exact lt_val_len cn_82 (shl_len hr_67.2 lr_67 hva v_82 le_51)
      have hab : nr_3 ≤ nr_67 := by rw [← lr_67, ← lr_3]; exact canon_len_le hr_67.2 hcb (by rw [hva, hvb]; rw [hvb] at hcmp; exact hcmp)
      have hB87 := (hB78.ext hE84)
      refine sO (oCopy Tryz.underlying23 sz26 rfl rfl hr_82.1 (u32s_one _) hB87 (by omega) (by exact lq) (fun w88 hU89 hz90 hB91 => ?_))
      replace hB91 : Blk w88 g72 26 ((dr_82 ++ List.replicate (nr_67 + 1 - nr_82) 0).map u32) := by rw [← (copy_first lr_82 (by omega) : (List.replicate (nr_67 + 1) 0).take 0 ++ dr_82 ++ (List.replicate (nr_67 + 1) 0).drop (0 + nr_82) = dr_82 ++ List.replicate (nr_67 + 1 - nr_82) 0), List.map_append, List.map_append, List.map_take, List.map_drop]; exact hB91
      rw [put_mkA]
      refine sK hK79 (rS fun K92 hK92 => sMs rfl (sV (evLen Tryz.underlying23 rfl) (sMi rfl (sV (evSub ((((nr_67 + 1 : Nat) : Int)) - ((nr_57 : Int))) rfl rfl wI) (sO (oMake1 ((nr_67 + 1) - nr_57) Tryz.underlying23 inf26 rfl cI cI (by omega) (by omega) (fun g93 w94 hg95 hE96 hz97 hB98 => ?_)))))))
      have hB99 : Blk w94 g93 26 (((List.replicate ((nr_67 + 1) - nr_57) 0)).map u32) := by rw [List.map_replicate]; exact hB98
      refine sAs rfl (sK hK92 (wp_seq_k fun K100 hK100 => wp_label (xN (hK100 _ _ (wp_seq_k fun K101 hK101 => rS fun K102 hK102 => sMs rfl (sV (evLen Tryz.underlying23 rfl) (sV (evSub (((((nr_67 + 1) - nr_57 : Nat) : Int)) - 1) rfl rfl wI) (sAi rfl (sK hK102 (wp_block ?_))))))))))
      have hB104 := (hB91.ext hE96)
      refine lLoop (fun m e w_ => ∃ (k : Nat) (Du : List Nat) (Q : List Nat), m = k ∧ e 4 = (.slice (some ⟨g93, 0, none⟩) ((nr_67 + 1) - nr_57) ((nr_67 + 1) - nr_57)) ∧ e 9 = (.int .i64 ((xr_51 : Int))) ∧ e 10 = (.slice Ar_57 nr_57 cr_57) ∧ e 11 = (.int .i64 ((nr_57 : Int))) ∧ e 12 = (.slice (some ⟨g72, 0, none⟩) (nr_67 + 1) (nr_67 + 1)) ∧ e 13 = (.int .i64 ((k : Int) - 1)) ∧ Frm (fun b => b = g72 ∨ b = g93) w94 w_ ∧ Blk w_ g72 26 (Du.map u32) ∧ Blk w_ g93 26 ((List.replicate k 0 ++ Q).map u32) ∧ (k ≤ (nr_67 + 1) - nr_57) ∧ (Du.length = nr_67 + 1) ∧ (∀ d ∈ Du, d < BS) ∧ (Q.length = (nr_67 + 1) - nr_57 - k) ∧ (∀ d ∈ Q, d < BS) ∧ (DivI Du dr_57 Q k (val da * 2 ^ xr_51))) (((nr_67 + 1) - nr_57)) ?_ ?_
      · refine ⟨((nr_67 + 1) - nr_57), (dr_82 ++ List.replicate (nr_67 + 1 - nr_82) 0), ([]), rfl, rfl, rfl, rfl, rfl, rfl, cI, (Frm.refl _ _), ?_, ?_, ?_, ?_, ?_, ?_, ?_, ?_⟩
        · exact hB104
        · simpa using hB99
        · omega
        · simp; omega
        · exact lt_fill hr_82.2
        · simp
        · simp
        · exact DivI.start (m := (nr_67 + 1)) (n := nr_57) (s := xr_51) (va := val da) (by rw [val_fill, v_82]) rfl (by rw [← hva]; have h := val_lt _ hr_67.2; rw [lr_67] at h; simpa using h) le_51 (by have h := top_ge (d := dr_57) (n := nr_57) lr_57 (by omega); have h2 : BS ^ (nr_57 - 1) * 2147483648 ≤ BS ^ (nr_57 - 1) * dr_57.getD (nr_57 - 1) 0 := Nat.mul_le_mul_left _ hnl.2; omega) (by omega) rfl (by omega)
      · rintro m103 e116 w105 ⟨k, Du, Q, hm115, hs106, hs107, hs108, hs109, hs110, hs111, hF112, hB113, hB114, hk, hDl, hDt, hQl, hQt, hI⟩
        obtain ⟨r117, rfl⟩ := sq (e := e116) (t := 4) hs106
        obtain ⟨r118, rfl⟩ := sq (e := r117) (t := 9) hs107
        obtain ⟨r119, rfl⟩ := sq (e := r118) (t := 10) hs108
        obtain ⟨r120, rfl⟩ := sq (e := r119) (t := 11) hs109
        obtain ⟨r121, rfl⟩ := sq (e := r120) (t := 12) hs110
        obtain ⟨r122, rfl⟩ := sq (e := r121) (t := 13) hs111
        have hz123 := hF112.size
        refine wp_seq_k fun K124 hK124 => rS fun K125 hK125 => sMi rfl ?_
        by_cases hc126 : ((k : Int) - 1) ≥ 0
        · refine sV (evGeq true rfl rfl (dT hc126)) (sK hK125 (cT rfl (wp_skip (xN (hK124 _ _ (wp_seq_k fun K127 hK127 => wp_block (rS fun K128 hK128 => sMs rfl (sMi rfl (sMi rfl (sMi rfl (sV (evAdd (((k : Int) - 1) + ((nr_57 : Int))) rfl rfl wI) (sV (evAdd ((((k : Int) - 1) + ((nr_57 : Int))) + 1) rfl rfl wI) (sV (evSliceLH (k - 1) (((k - 1) + nr_57) + 1) Tryz.underlying23 sz26 rfl rfl rfl (by omega) (by omega) (by omega) (by omega) (by omega) (k - 1) (by omega)) (sAs rfl (sK hK128 (wp_seq_k fun K129 hK129 => ?_))))))))))))))))
          have hR130 := (((hR80.trans hE84).rx hU89).xr hE96).tr hF112
          have h131 := (h62.frmB hR130 q3)
          have hvlt : val dr_57 < BS ^ nr_57 := by have h := val_lt _ h131.2; rw [lr_57] at h; exact h
          have hpt := hI.part (n := nr_57) (by omega) (by omega) hvlt
          have hpd : ∀ d ∈ (Du.drop (k - 1)).take (nr_57 + 1), d < BS := fun d hd => hDt d (List.mem_of_mem_drop (List.mem_of_mem_take hd))
          have hp3 := drop_three (d := (Du.drop (k - 1)).take (nr_57 + 1)) (n := nr_57) (by omega) (by simp; omega)
          rw [part_getD (by omega), part_getD (by omega), part_getD (by omega)] at hp3
          have hp2 := tops (k := 0) hpd (show 2 ≤ nr_57 by omega) (by simp; omega) hp3
          have hv3 := tops (k := 0) h131.2 (show 2 ≤ nr_57 by omega) (by omega) (drop_two (by omega) lr_57)
          have hE : 0 < BS ^ (nr_57 - 2) := Nat.pow_pos (by decide)
          have hut := top_le hE hv3.2 hp2.1 hpt.2.1 rfl rfl (h131.lt (nr_57 - 2))
          refine dBegin (fun b => b = g93) mixed (fun w132 hE133 hz134 => dMs 0 rfl rfl (dMi 1 rfl rfl (dMs 2 rfl rfl (dMi 3 rfl rfl (dV 4 rfl (fun _ _ => evIx nr_57 Tryz.underlying23 sz26 rfl rfl (k - 1 + nr_57)) ?_)))))
          have hB135 := (hB113.ext hE133)
          have hd136 := getD_lt (ds := Du) (i := k - 1 + nr_57) hDt
          refine dV 5 rfl (fun _ hf => evLoad one26 rfl ((hB135.frm hf q1).dig (by exact lq))) (dMs 6 rfl rfl (dMi 7 rfl rfl (dV 8 rfl (fun _ _ => evSub (((nr_57 : Int)) - 1) rfl rfl wI) (dV 9 rfl (fun _ _ => evIx (nr_57 - 1) Tryz.underlying23 sz26 rfl rfl (k - 1 + (nr_57 - 1))) ?_))))
          have hd137 := getD_lt (ds := Du) (i := k - 1 + (nr_57 - 1)) hDt
          refine dV 10 rfl (fun _ hf => evLoad one26 rfl ((hB135.frm hf q1).dig (by exact lq))) (dMs 11 rfl rfl (dMi 12 rfl rfl (dV 13 rfl (fun _ _ => evSub (((nr_57 : Int)) - 2) rfl rfl wI) (dV 14 rfl (fun _ _ => evIx (nr_57 - 2) Tryz.underlying23 sz26 rfl rfl (k - 1 + (nr_57 - 2))) ?_))))
          have hd138 := getD_lt (ds := Du) (i := k - 1 + (nr_57 - 2)) hDt
          refine dV 15 rfl (fun _ hf => evLoad one26 rfl ((hB135.frm hf q1).dig (by exact lq))) (dMs 16 rfl rfl (dMi 17 rfl rfl (dV 18 rfl (fun _ _ => evSub (((nr_57 : Int)) - 1) rfl rfl wI) ?_)))
          have h139 := (h131.ext hE133)
          obtain ⟨b140, o141, rfl⟩ := h139.base (by omega)
          refine dV 19 rfl (fun _ _ => evIx (nr_57 - 1) Tryz.underlying23 sz26 rfl rfl (o141 + (nr_57 - 1))) ?_
          have hd142 := h139.lt (nr_57 - 1)
          refine dV 20 rfl (fun _ hf => evLoad one26 rfl ((h139.frm hf q2).cell (by omega))) (dMs 21 rfl rfl (dMi 22 rfl rfl (dV 23 rfl (fun _ _ => evSub (((nr_57 : Int)) - 2) rfl rfl wI) (dV 24 rfl (fun _ _ => evIx (nr_57 - 2) Tryz.underlying23 sz26 rfl rfl (o141 + (nr_57 - 2))) ?_))))
          have hd143 := h139.lt (nr_57 - 2)
          refine dV 25 rfl (fun _ hf => evLoad one26 rfl ((h139.frm hf q2).cell (by omega))) (dOp 26 rfl rfl (by kernel_rfl) (oCall rfl call143 (division_estimate (xa := Du.getD (k - 1 + nr_57) 0) (by omega) (xb := Du.getD (k - 1 + (nr_57 - 1)) 0) (by omega) (xc := Du.getD (k - 1 + (nr_57 - 2)) 0) (by omega) (xd := dr_57.getD (nr_57 - 1) 0) (by omega) (xe := dr_57.getD (nr_57 - 2) 0) (by omega) (by omega) (by omega)) rfl ?_))
          rintro _ w145 ⟨xr_144, rfl, hE146, br_144, ok_144, mx_144⟩
          refine ⟨(Frm.of_ext hE146), ?_⟩
          have hz147 := hE146.size
          have hbd := est_bound hE hv3.1 hv3.2 hp2.1 hp2.2 ok_144 mx_144 (by omega) hpt.2.1 (by unfold estV; have h := hnl.2; omega)
          refine dV 27 rfl (fun _ _ => evIx (k - 1) Tryz.underlying23 sz26 rfl rfl (k - 1)) ?_
          have hR148 := hE133.trans hE146
          have hB149 := (hB114.ext hR148)
          refine dOp 28 rfl rfl (by kernel_rfl) (oStore1 rfl rfl rfl sz26 hB149 (by exact lq) (fun w150 hU151 hz152 hB153 => ?_))
          replace hB153 : Blk w150 g93 26 ((List.replicate (k - 1) 0 ++ (xr_144 :: Q)).map u32) := by rw [← (revN_set (by omega) (by omega) : (List.replicate k 0 ++ Q).set (k - 1) xr_144 = List.replicate (k - 1) 0 ++ (xr_144 :: Q)), List.map_set]; exact hB153
          refine ⟨hU151, dDone (by kernel_rfl) (xN (hK129 _ _ (wp_seq_k fun K154 hK154 => rS fun K155 hK155 => sMs rfl (sMs rfl (sMs rfl (sMi rfl (sV (evIx (k - 1) Tryz.underlying23 sz26 rfl rfl (k - 1)) ?_)))))))⟩
          have hd156 := getD_lt (ds := List.replicate (k - 1) 0 ++ (xr_144 :: Q)) (i := k - 1) (lt_revfill (lt_cons hQt (by omega)))
          refine sV (evLoad one26 rfl (hB153.dig (by exact lq))) ?_
          have hqg : (List.replicate (k - 1) 0 ++ (xr_144 :: Q)).getD (k - 1) 0 = xr_144 := revN_get
          generalize hq113 : (List.replicate (k - 1) 0 ++ (xr_144 :: Q)).getD (k - 1) 0 = q113 at *
          obtain rfl := hqg.symm
          have hR157 := hE146.rx hU151
          have hB158 := (hB135.frm hR157 q1)
          have h159 := (h139.frmB hR157 q3)
          refine sO (oCall rfl call144 (division_subtractMultiple (Uz := (Du).take (k - 1)) (Zz := (Du).drop (k - 1)) (by rw [List.take_append_drop]; exact hB158) (by exact lq) (by exact lq) (by rw [List.take_append_drop]; exact hDt) (by omega) (by omega) (NatR.sub h159 q5) (xd := xr_144) (by omega) (by omega)) rfl ?_)
          rintro _ w161 ⟨gr_160, Zr_160, bo_160, rfl, hE162, B_160, ln_160, lt_160, dr_160, e_160, z_160, g_160⟩
          have hz163 := hE162.size
          have hzl : val (Zr_160.take (nr_57 + 1)) < BS ^ (nr_57 + 1) := val_take_lt fun d hd => lt_160 d (by simp [hd])
          have ex : val (Zr_160.take (nr_57 + 1)) + xr_144 * val dr_57 = val ((Du.drop (k - 1)).take (nr_57 + 1)) + BS ^ (nr_57 + 1) * bo_160 := by have h := e_160; rwa [show k - 1 + nr_57 + 1 - (k - 1) = nr_57 + 1 by omega] at h
          have hnb0 := nonneg_of_borrow ex hzl
          have lnz : Zr_160.length = Du.length - (k - 1) := by rw [ln_160, List.length_drop]
          refine sV (evNot _ rfl rfl) (sK hK155 ?_)
          cases gr_160
          · refine cT rfl (wp_exit (xE (bE (xN (hK127 _ _ ?_)))))
            have hdl : Zr_160.drop (nr_57 + 1) = (Du.drop (k - 1)).drop (nr_57 + 1) := by have h := dr_160; rwa [show k - 1 + nr_57 + 1 - (k - 1) = nr_57 + 1 by omega] at h
            have hb00 : bo_160 = 0 := by simpa using g_160.symm
            have hqv := hnb0.1 hb00; rw [hb00, Nat.mul_zero, Nat.add_zero] at ex
            have hstep := hI.step (n := nr_57) (q := xr_144) (by omega) (by omega) hvlt hDt ln_160 hdl ex (by have h := hbd.2.2 hqv; omega)
            have hDl2 : (Du.take (k - 1) ++ Zr_160).length = nr_67 + 1 := by simp [ln_160]; omega
            refine wp_region_lit (sMi rfl (sV (evSub (((k : Int) - 1) - 1) rfl rfl wI) (sAi rfl (sDone ?_))))
            have hR164 := (hR148.rx hU151).tr hE162
            have hB165 := (hB153.frm hE162 q1)
            refine again ((k - 1)) (by omega) ⟨(k - 1), ((Du).take (k - 1) ++ Zr_160), ((xr_144) :: Q), rfl, rfl, rfl, rfl, rfl, rfl, cI, (Frm.mono (hF112.tr hR164) q4), ?_, ?_, ?_, ?_, ?_, ?_, ?_, ?_⟩
            · exact B_160
            · exact hB165
            · omega
            · exact hDl2
            · exact lt_160
            · simp [hQl]; omega
            · exact lt_cons hQt (by omega)
            · exact hstep
          · refine cF rfl (wp_skip (xN (hK154 _ _ (wp_seq_k fun K166 hK166 => ?_))))
            have hb01 : bo_160 ≠ 0 := by simpa using g_160.symm
            have hnq : ¬ xr_144 * val dr_57 ≤ val ((Du.drop (k - 1)).take (nr_57 + 1)) := fun h => hb01 (hnb0.2 h)
            have hpos : 0 < xr_144 := by rcases Nat.eq_zero_or_pos xr_144 with h | h; rw [h, Nat.zero_mul] at hnq; omega; exact h
            refine wp_region_lit (sMs rfl (sMi rfl (sV (evIx (k - 1) Tryz.underlying23 sz26 rfl rfl (k - 1)) ?_)))
            have hB167 := (hB153.frm hE162 q1)
            have hd168 := getD_lt (ds := List.replicate (k - 1) 0 ++ (xr_144 :: Q)) (i := k - 1) (lt_revfill (lt_cons hQt (by omega)))
            refine sV (evLoad one26 rfl (hB167.dig (by exact lq))) ?_
            have hqg2 : (List.replicate (k - 1) 0 ++ (xr_144 :: Q)).getD (k - 1) 0 = xr_144 := revN_get
            generalize hq119 : (List.replicate (k - 1) 0 ++ (xr_144 :: Q)).getD (k - 1) 0 = q119 at *
            obtain rfl := hqg2.symm
            refine sV (evSub (((xr_144 - 1 : Nat) : Int)) rfl rfl (wU32 (by omega))) (sV (evIx (k - 1) Tryz.underlying23 sz26 rfl rfl (k - 1)) (sO (oStore1 rfl rfl rfl sz26 hB167 (by exact lq) (fun w169 hU170 hz171 hB172 => ?_))))
            replace hB172 : Blk w169 g93 26 ((List.replicate (k - 1) 0 ++ ((xr_144 - 1) :: Q)).map u32) := by rw [← (revN_set2 : (List.replicate (k - 1) 0 ++ (xr_144 :: Q)).set (k - 1) (xr_144 - 1) = List.replicate (k - 1) 0 ++ ((xr_144 - 1) :: Q)), List.map_set]; exact hB172
            refine sK hK166 (wp_region_lit (sMs rfl (sMs rfl ?_)))
            have hB173 := (B_160.frm hU170 q1)
            have hR174 := hE162.tr hU170
            have h175 := (h159.frmB hR174 q3)
            refine sO (oCall rfl call145 (division_addBack (Uz := ((Du).take (k - 1) ++ Zr_160).take (k - 1)) (Zz := ((Du).take (k - 1) ++ Zr_160).drop (k - 1)) (by rw [List.take_append_drop]; exact hB173) (by exact lq) (by exact lq) (by rw [List.take_append_drop]; exact lt_160) (by omega) (by omega) (NatR.sub h175 q5) (by omega)) rfl ?_)
            rintro _ w177 ⟨Zr_176, cr_176, rfl, hE178, B_176, ln_176, lt_176, dr_176, e_176⟩
            have hz179 := hE178.size
            refine sDone (bN (xN (hK127 _ _ ?_)))
            have hta : (Du.take (k - 1) ++ Zr_160).drop (k - 1) = Zr_160 := take_app (by omega)
            have htb : (Du.take (k - 1) ++ Zr_160).take (k - 1) = Du.take (k - 1) := take_app2 (by omega)
            have hdl : Zr_176.drop (nr_57 + 1) = (Du.drop (k - 1)).drop (nr_57 + 1) := by have h := dr_176; have h2 := dr_160; rw [hta] at h; rw [show k - 1 + nr_57 + 1 - (k - 1) = nr_57 + 1 by omega] at h h2; rw [h, h2]
            have hln : Zr_176.length = (Du.drop (k - 1)).length := by have h := ln_176; rw [hta] at h; rw [h]; exact ln_160
            have ez : val (Zr_176.take (nr_57 + 1)) + BS ^ (nr_57 + 1) * cr_176 = val (Zr_160.take (nr_57 + 1)) + val dr_57 := by have h := e_176; rw [hta] at h; rwa [show k - 1 + nr_57 + 1 - (k - 1) = nr_57 + 1 by omega] at h
            have hz2 : val (Zr_176.take (nr_57 + 1)) < BS ^ (nr_57 + 1) := val_take_lt fun d hd => lt_176 d (by simp [hd])
            have hvB : val dr_57 < BS ^ (nr_57 + 1) := Nat.lt_of_lt_of_le hvlt (Nat.pow_le_pow_right (by decide) (by omega))
            have hbk := addback (q := xr_144 - 1) (by rw [show xr_144 - 1 + 1 = xr_144 by omega]; exact ex) hb01 z_160 ez hz2 (hbd.2.1 hpos) (by rw [show xr_144 - 1 + 1 = xr_144 by omega]; omega) hvB
            have hstep := hI.step (n := nr_57) (q := xr_144 - 1) (by omega) (by omega) hvlt hDt hln hdl hbk.1 hbk.2
            rw [htb] at B_176 lt_176
            have hDl2 : (Du.take (k - 1) ++ Zr_176).length = nr_67 + 1 := by simp [hln]; omega
            refine wp_region_lit (sMi rfl (sV (evSub (((k : Int) - 1) - 1) rfl rfl wI) (sAi rfl (sDone ?_))))
            have hR180 := (((hR148.rx hU151).tr hE162).tr hU170).tr hE178
            have hB181 := (hB172.frm hE178 q1)
            refine again ((k - 1)) (by omega) ⟨(k - 1), ((Du).take (k - 1) ++ Zr_176), ((xr_144 - 1) :: Q), rfl, rfl, rfl, rfl, rfl, rfl, cI, (Frm.mono (hF112.tr hR180) q4), ?_, ?_, ?_, ?_, ?_, ?_, ?_, ?_⟩
            · exact B_176
            · exact hB181
            · omega
            · exact hDl2
            · exact lt_176
            · simp [hQl]; omega
            · exact lt_cons hQt (by omega)
            · exact hstep
        · refine sV (evGeq false rfl rfl (dF hc126)) (sK hK125 (cF rfl (wp_exit (xE (xE (bE (xN (hK101 _ _ (rS fun K182 hK182 => sMs rfl ?_)))))))))
          have h183 : NatR w105 (fun b => b = g93) (some ⟨g93, 0, none⟩) ((nr_67 + 1) - nr_57) ((nr_67 + 1) - nr_57) (List.replicate k 0 ++ Q) := NatR.of_blk hB114 rfl (lt_revfill hQt) (by exact lq) (by omega) (by unfold CapMax; omega)
          refine sO (oCall rfl call86 (natural_Normal h183 (by omega)) rfl ?_)
          rintro _ w185 ⟨Ar_184, nr_184, cr_184, dr_184, rfl, hE186, hr_184, e_184, le_184⟩
          have hz187 := hE186.size
          have ⟨lr_184, kr_184, mr_184⟩ := hr_184.lkm
          refine sMs rfl (sMi rfl ?_)
          have hB189 := (hB113.ext hE186)
          have h190 : NatR w185 (fun b => b = g72) (some ⟨g72, 0, none⟩) (nr_67 + 1) (nr_67 + 1) (Du) := NatR.of_blk hB189 rfl hDt (by exact lq) (by omega) (by unfold CapMax; omega)
          refine sO (oCall rfl call146 (natural_Shr h190 (xn := xr_51) (by omega) (by omega)) rfl ?_)
          rintro _ w192 ⟨Ar_191, nr_191, cr_191, dr_191, rfl, hE193, hr_191, v_191, cn_191, le_191⟩
          have hz194 := hE193.size
          have ⟨lr_191, kr_191, mr_191⟩ := hr_191.lkm
          refine sAs rfl (sAs rfl (sK hK182 (wp_ret (nR (ret2 (.slice Ar_184 nr_184 cr_184) (.slice Ar_191 nr_191 cr_191) Tryz.results125 (resT rfl) (resT rfl) ?_)))))
          have hfin := DivI.fin (b := dr_3) (by have h := hI; rw [show k = 0 by omega] at h; exact h) rfl v_57 v_191
          rw [hvb] at hfin
          have h196 := (hr_184.ext hE193)
          have hR197 := ((((((((((hE5.trans hE13).trans hE53).trans hE59).trans hE69).trans hE75).trans hE84).rx hU89).xr hE96).tr hF112).xr hE186).xr hE193
          exact ⟨Ar_184, nr_184, cr_184, dr_184, Ar_191, nr_191, cr_191, dr_191, rfl, (Frm.mono hR197 q4), (NatR.sub h196 q5), (NatR.sub hr_191 q5), (by rw [e_184, val_trim, show k = 0 by omega, List.replicate_zero, List.nil_append]; exact hfin.1), hfin.2, (by rw [e_184]; exact canon_trim _ _), cn_191, (by omega), (rem_len cn_191 hfin.2 hb.2 lb lr_191)⟩
end Go.Proofs.YtneolcopompkaaaGreatDoor
