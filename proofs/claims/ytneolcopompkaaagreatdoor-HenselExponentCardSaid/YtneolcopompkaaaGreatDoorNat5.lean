/-
  Walks of package natural: division by a digit; of math/bits: Div32, Len32, LeadingZeros32.
-/
import Derived.Test.YtneolcopompkaaaGreatDoorNat4
import Derived.Test.YtneolcopompkaaaGreatDoorLibA
namespace Go.Proofs.YtneolcopompkaaaGreatDoor
open Go.RowKit Go.Gx
theorem bits_Div32 {w : World} {x1 : Nat} {x2 : Nat} {x3 : Nat} (b1 : x1 < 4294967296) (b2 : x2 < 4294967296) (b3 : x3 < 4294967296) (hlt : x1 < x3) : Calls Tryz.prog 104 #[(.int .u32 ((x1 : Int))), (.int .u32 ((x2 : Int))), (.int .u32 ((x3 : Int)))] w (Ret fun v w' => ∃ (xq : Nat) (xm : Nat), v = (.tuple #[(.int .u32 ((xq : Int))), (.int .u32 ((xm : Int)))]) ∧ Ext w w' ∧ xq < 4294967296 ∧ xm < 4294967296 ∧ (xq * x3 + xm = x1 * 4294967296 + x2) ∧ (xm < x3)) := by
  refine enter Tryz.func104 rfl Tryz.ntmps104 rfl ?_
  have hq := div32_lt hlt b2; have hm := Nat.mod_lt (x1 * 4294967296 + x2) (show 0 < x3 by omega)
  refine rS fun K1 hK1 => sAi rfl (sAi rfl (sK hK1 (wp_seq_k fun K2 hK2 => rS fun K3 hK3 => sMi rfl (sV (evNeq true rfl rfl (dT (by omega))) (sMb rfl (sEv (v := (.int .u32 ((x3 : Int)))) (rfl) rfl rfl (sEv (v := (.int .u32 ((x1 : Int)))) (rfl) rfl rfl (sEv (v := (.bool false)) (evLeq false rfl rfl (dF (by omega))) rfl rfl (sV (v := (.bool false)) (rfl) (sK hK3 (cF rfl (wp_skip (xN (hK2 _ _ (rS fun K4 hK4 => sMi rfl (sV (evConv ((x1 : Int)) Tryz.underlying26 Tryz.underlying100 rfl (wU64 (by omega))) (sV (evShl (((x1 * 4294967296 : Nat) : Int)) rfl rfl (by omega) (shlE64u (x := x1) (s := 32) (by omega) (by omega) (by omega) (by omega))) (sMi rfl (sV (evConv ((x2 : Int)) Tryz.underlying26 Tryz.underlying100 rfl (wU64 (by omega))) ?_)))))))))))))))))))
  refine sV (v := (.int .u64 (((x1 * 4294967296 + x2 : Nat) : Int)))) (evOr64 rfl rfl (by omega) (by omega) (by rw [Nat.mul_comm x1]; exact or_nat x1 x2 32 (by omega))) (sAi rfl (sK hK4 (wp_seq_k fun K5 hK5 => dBegin (fun _ => False) mixed (fun w6 hE7 hz8 => dMi 0 rfl rfl (dMi 1 rfl rfl (dV 2 rfl (fun _ _ => evConv ((x3 : Int)) Tryz.underlying26 Tryz.underlying100 rfl (wU64 (by omega))) (dV 3 rfl (fun _ _ => evQuo ((((x1 * 4294967296 + x2) / x3 : Nat) : Int)) rfl rfl (by omega) (quoEu64 (by omega) (by omega) (by omega))) (dV 4 rfl (fun _ _ => evConv (((((x1 * 4294967296 + x2) / x3) % 4294967296 : Nat) : Int)) Tryz.underlying100 Tryz.underlying26 rfl (wU32m (by omega))) (dMi 5 rfl rfl (dMi 6 rfl rfl (dV 7 rfl (fun _ _ => evConv ((x3 : Int)) Tryz.underlying26 Tryz.underlying100 rfl (wU64 (by omega))) ?_)))))))))))
  refine dV 8 rfl (fun _ _ => evRem ((((x1 * 4294967296 + x2) % x3 : Nat) : Int)) rfl rfl (by omega) (remE (by omega) (by omega))) (dV 9 rfl (fun _ _ => evConv (((((x1 * 4294967296 + x2) % x3) % 4294967296 : Nat) : Int)) Tryz.underlying100 Tryz.underlying26 rfl (wU32m (by omega))) (dAi 10 rfl rfl (dAi 11 rfl rfl (dDone (by kernel_rfl) (xN (hK5 _ _ (wp_ret (ret2 (.int .u32 (((((x1 * 4294967296 + x2) / x3) % 4294967296 : Nat) : Int))) (.int .u32 (((((x1 * 4294967296 + x2) % x3) % 4294967296 : Nat) : Int))) Tryz.results104 (resT rfl) (resT rfl) ?_))))))))
  have hde := div32_e (X := x1 * 4294967296 + x2) (z := x3) (by omega) b3 hq rfl rfl
  exact ⟨(((x1 * 4294967296 + x2) / x3) % 4294967296), (((x1 * 4294967296 + x2) % x3) % 4294967296), rfl, hE7, (by omega), (by omega), hde.1, hde.2⟩
theorem bits_Len32 {w : World} {x1 : Nat} (b1 : x1 < 4294967296)  : Calls Tryz.prog 140 #[(.int .u32 ((x1 : Int)))] w (Ret fun v w' => ∃ (xr : Nat), v = (.int .i64 ((xr : Int))) ∧ Ext w w' ∧ xr ≤ 9223372036854775807 ∧ (x1 < 2 ^ xr) ∧ (x1 = 0 ∨ 2 ^ (xr - 1) ≤ x1) ∧ (xr ≤ 32)) := by
  refine enter Tryz.func140 rfl Tryz.ntmps140 rfl (rS fun K1 hK1 => sAi rfl (sK hK1 (wp_seq_k fun K2 hK2 => rS fun K3 hK3 => sMi rfl ?_)))
  by_cases hc4 : ((x1 : Int)) ≥ 65536
  · refine sV (evGeq true rfl rfl (dT hc4)) (sK hK3 (cT rfl (rS fun K5 hK5 => sMi rfl (sV (evShr (((x1 / 2 ^ 16 : Nat) : Int)) rfl rfl (by omega) (shrE (x := x1) (s := 16) (by omega) (by omega) (by show _ ≤ 32; omega))) (sAi rfl (sK hK5 (wp_region_lit (sAi rfl (sK hK2 (wp_seq_k fun K6 hK6 => rS fun K7 hK7 => sMi rfl ?_))))))))))
    by_cases hc8 : (((x1 / 2 ^ 16 : Nat) : Int)) ≥ 256
    · refine sV (evGeq true rfl rfl (dT hc8)) (sK hK7 (cT rfl (rS fun K9 hK9 => sMi rfl (sV (evShr ((((x1 / 2 ^ 16) / 2 ^ 8 : Nat) : Int)) rfl rfl (by omega) (shrE (x := x1 / 2 ^ 16) (s := 8) (by omega) (by omega) (by show _ ≤ 32; omega))) (sAi rfl (sK hK9 (wp_region_lit (sMi rfl (sV (evAdd 24 rfl rfl wI) (sAi rfl (sK hK6 (rS fun K10 hK10 => sMi rfl (sMi rfl (sV (evConv ((((x1 / 2 ^ 16) / 2 ^ 8 : Nat) : Int)) Tryz.underlying26 Tryz.underlying5 rfl (wU8 (by omega))) (sV (v := (.int .u8 (((bl8 ((x1 / 2 ^ 16) / 2 ^ 8) : Nat) : Int)))) (evTab ((x1 / 2 ^ 16) / 2 ^ 8) Tryz.underlying9 rfl (by kernel_rfl) rfl (by omega) (by omega)) ?_)))))))))))))))
      have hb8 := (bl8_spec (x := (x1 / 2 ^ 16) / 2 ^ 8) (by omega)).2.2.1
      refine sV (evConv (((bl8 ((x1 / 2 ^ 16) / 2 ^ 8) : Nat) : Int)) Tryz.underlying5 Tryz.underlying3 rfl (wI64 (by omega))) (sV (evAdd (24 + (((bl8 ((x1 / 2 ^ 16) / 2 ^ 8) : Nat) : Int))) rfl rfl wI) (sAi rfl (sK hK10 (wp_ret (ret1 (.int .i64 (((24 + (bl8 ((x1 / 2 ^ 16) / 2 ^ 8)) : Nat) : Int))) Tryz.results140 (resT cI) ?_)))))
      have hls := len_sh (x := x1) (s := 24) (y := (x1 / 2 ^ 16) / 2 ^ 8) (n := 24 + (bl8 ((x1 / 2 ^ 16) / 2 ^ 8))) (by rw [Nat.div_div_eq_div_mul]) (by omega) (by omega) (by omega)
      exact ⟨(24 + (bl8 ((x1 / 2 ^ 16) / 2 ^ 8))), rfl, (Frm.refl _ _), (by omega), hls.1, hls.2.1, (by omega)⟩
    · refine sV (evGeq false rfl rfl (dF hc8)) (sK hK7 (cF rfl (wp_skip (xN (hK6 _ _ (rS fun K11 hK11 => sMi rfl (sMi rfl (sV (evConv (((x1 / 2 ^ 16 : Nat) : Int)) Tryz.underlying26 Tryz.underlying5 rfl (wU8 (by omega))) (sV (v := (.int .u8 (((bl8 (x1 / 2 ^ 16) : Nat) : Int)))) (evTab (x1 / 2 ^ 16) Tryz.underlying9 rfl (by kernel_rfl) rfl (by omega) (by omega)) ?_)))))))))
      have hb8 := (bl8_spec (x := x1 / 2 ^ 16) (by omega)).2.2.1
      refine sV (evConv (((bl8 (x1 / 2 ^ 16) : Nat) : Int)) Tryz.underlying5 Tryz.underlying3 rfl (wI64 (by omega))) (sV (evAdd (16 + (((bl8 (x1 / 2 ^ 16) : Nat) : Int))) rfl rfl wI) (sAi rfl (sK hK11 (wp_ret (ret1 (.int .i64 (((16 + (bl8 (x1 / 2 ^ 16)) : Nat) : Int))) Tryz.results140 (resT cI) ?_)))))
      have hls := len_sh (x := x1) (s := 16) (y := x1 / 2 ^ 16) (n := 16 + (bl8 (x1 / 2 ^ 16))) rfl (by omega) (by omega) (by omega)
      exact ⟨(16 + (bl8 (x1 / 2 ^ 16))), rfl, (Frm.refl _ _), (by omega), hls.1, hls.2.1, (by omega)⟩
  · refine sV (evGeq false rfl rfl (dF hc4)) (sK hK3 (cF rfl (wp_skip (xN (hK2 _ _ (wp_seq_k fun K12 hK12 => rS fun K13 hK13 => sMi rfl ?_))))))
    by_cases hc14 : ((x1 : Int)) ≥ 256
    · refine sV (evGeq true rfl rfl (dT hc14)) (sK hK13 (cT rfl (rS fun K15 hK15 => sMi rfl (sV (evShr (((x1 / 2 ^ 8 : Nat) : Int)) rfl rfl (by omega) (shrE (x := x1) (s := 8) (by omega) (by omega) (by show _ ≤ 32; omega))) (sAi rfl (sK hK15 (wp_region_lit (sMi rfl (sV (evAdd 8 rfl rfl wI) (sAi rfl (sK hK12 (rS fun K16 hK16 => sMi rfl (sMi rfl (sV (evConv (((x1 / 2 ^ 8 : Nat) : Int)) Tryz.underlying26 Tryz.underlying5 rfl (wU8 (by omega))) (sV (v := (.int .u8 (((bl8 (x1 / 2 ^ 8) : Nat) : Int)))) (evTab (x1 / 2 ^ 8) Tryz.underlying9 rfl (by kernel_rfl) rfl (by omega) (by omega)) ?_)))))))))))))))
      have hb8 := (bl8_spec (x := x1 / 2 ^ 8) (by omega)).2.2.1
      refine sV (evConv (((bl8 (x1 / 2 ^ 8) : Nat) : Int)) Tryz.underlying5 Tryz.underlying3 rfl (wI64 (by omega))) (sV (evAdd (8 + (((bl8 (x1 / 2 ^ 8) : Nat) : Int))) rfl rfl wI) (sAi rfl (sK hK16 (wp_ret (ret1 (.int .i64 (((8 + (bl8 (x1 / 2 ^ 8)) : Nat) : Int))) Tryz.results140 (resT cI) ?_)))))
      have hls := len_sh (x := x1) (s := 8) (y := x1 / 2 ^ 8) (n := 8 + (bl8 (x1 / 2 ^ 8))) rfl (by omega) (by omega) (by omega)
      exact ⟨(8 + (bl8 (x1 / 2 ^ 8))), rfl, (Frm.refl _ _), (by omega), hls.1, hls.2.1, (by omega)⟩
    · refine sV (evGeq false rfl rfl (dF hc14)) (sK hK13 (cF rfl (wp_skip (xN (hK12 _ _ (rS fun K17 hK17 => sMi rfl (sMi rfl (sV (evConv ((x1 : Int)) Tryz.underlying26 Tryz.underlying5 rfl (wU8 (by omega))) (sV (v := (.int .u8 (((bl8 x1 : Nat) : Int)))) (evTab x1 Tryz.underlying9 rfl (by kernel_rfl) rfl (by omega) (by omega)) ?_)))))))))
      have hb8 := (bl8_spec (x := x1) (by omega)).2.2.1
      refine sV (evConv (((bl8 x1 : Nat) : Int)) Tryz.underlying5 Tryz.underlying3 rfl (wI64 (by omega))) (sV (evAdd (0 + (((bl8 x1 : Nat) : Int))) rfl rfl wI) (sAi rfl (sK hK17 (wp_ret (ret1 (.int .i64 (((0 + (bl8 x1) : Nat) : Int))) Tryz.results140 (resT cI) ?_)))))
      have hls := len_sh (x := x1) (s := 0) (y := x1) (n := 0 + (bl8 x1)) (by simp) (by omega) (by omega) (by omega)
      exact ⟨(0 + (bl8 x1)), rfl, (Frm.refl _ _), (by omega), hls.1, hls.2.1, (by omega)⟩
theorem bits_LeadingZeros32 {w : World} {x1 : Nat} (b1 : x1 < 4294967296) (h0 : x1 ≠ 0) : Calls Tryz.prog 142 #[(.int .u32 ((x1 : Int)))] w (Ret fun v w' => ∃ (xr : Nat), v = (.int .i64 ((xr : Int))) ∧ Ext w w' ∧ xr ≤ 9223372036854775807 ∧ (x1 * 2 ^ xr < 4294967296) ∧ (2147483648 ≤ x1 * 2 ^ xr) ∧ (xr ≤ 31)) := by
  refine enter Tryz.func142 rfl Tryz.ntmps142 rfl (rS fun K1 hK1 => sAi rfl (sK hK1 (rS fun K2 hK2 => sMi rfl (sO (oCall rfl call140 (bits_Len32 (x1 := x1) (by omega)) rfl ?_)))))
  rintro _ w4 ⟨xr_3, rfl, hE5, br_3, lt_3, ge_3, le_3⟩
  have hz6 := hE5.size
  refine sV (evSub (32 - ((xr_3 : Int))) rfl rfl wI) (sAi rfl (sK hK2 (wp_ret (ret1 (.int .i64 (((32 - xr_3 : Nat) : Int))) Tryz.results142 (resT cI) ?_))))
  have hlz := lead_zeros h0 lt_3 ge_3 le_3 (show 32 - xr_3 = 32 - xr_3 by omega)
  exact ⟨(32 - xr_3), rfl, hE5, (by omega), hlz.1, hlz.2.1, hlz.2.2⟩
theorem natural_DivSmall {w : World} {Sa : Nat → Prop} {Aa : Option Addr} {na ca : Nat} {da : List Nat} {xd : Nat} (ha : NatR w Sa Aa na ca da) (bd : xd < 4294967296) (hna : na ≤ 1099511627776) (hd : 0 < xd) : Calls Tryz.prog 64 #[(.slice Aa na ca), (.int .u32 ((xd : Int)))] w (Ret fun v w' => ∃ (Aq : Option Addr) (nq : Nat) (cq : Nat) (dq : List Nat) (xm : Nat) (gk : Bool), v = (.tuple #[(.slice Aq nq cq), (.int .u32 ((xm : Int))), (.bool gk)]) ∧ Ext w w' ∧ NatR w' (fun b => w.heap.size ≤ b) Aq nq cq dq ∧ xm < 4294967296 ∧ (val da = xd * val dq + xm) ∧ (xm < xd) ∧ (Canon isZ dq) ∧ (nq ≤ na)) := by
  have ⟨la, ka, ma⟩ := ha.lkm
  replace ha := ha.low
  refine enter Tryz.func64 rfl Tryz.ntmps64 rfl (rS fun K1 hK1 => sAs rfl (sAi rfl (sAb rfl (sK hK1 (wp_seq_k fun K2 hK2 => rS fun K3 hK3 => sMi rfl (sV (evEql false rfl rfl (dF (by omega))) (sK hK3 (cF rfl (wp_skip (xN (hK2 _ _ (rS fun K4 hK4 => sMs rfl (sO (oCall rfl call87 (natural_trim ha) rfl ?_))))))))))))))
  rintro _ w6 ⟨Ar_5, nr_5, cr_5, dr_5, rfl, hE7, hr_5, e_5, le_5⟩
  have hz8 := hE7.size
  have ⟨lr_5, kr_5, mr_5⟩ := hr_5.lkm
  refine sAs rfl (sK hK4 (rS fun K10 hK10 => sMs rfl (sV (evLen Tryz.underlying23 rfl) (sO (oMake1 nr_5 Tryz.underlying23 inf26 rfl cI cI (by omega) (by omega) (fun g11 w12 hg13 hE14 hz15 hB16 => ?_))))))
  have hB17 : Blk w12 g11 26 (((List.replicate nr_5 0)).map u32) := by rw [List.map_replicate]; exact hB16
  refine sAs rfl (sK hK10 (rS fun K18 hK18 => sAi rfl (sK hK18 (wp_seq_k fun K19 hK19 => rS fun K20 hK20 => sMs rfl (sV (evLen Tryz.underlying23 rfl) (sV (evSub (((nr_5 : Int)) - 1) rfl rfl wI) (sAi rfl (sK hK20 (wp_block ?_)))))))))
  refine lLoop (fun m e w_ => ∃ (k : Nat) (Q : List Nat) (rs : Nat), m = k ∧ e 0 = (.slice Ar_5 nr_5 cr_5) ∧ e 1 = (.int .u32 ((xd : Int))) ∧ e 7 = (.slice (some ⟨g11, 0, none⟩) nr_5 nr_5) ∧ e 8 = (.int .u32 ((rs : Int))) ∧ e 9 = (.int .i64 ((k : Int) - 1)) ∧ Frm (fun b => b = g11) w12 w_ ∧ Blk w_ g11 26 ((List.replicate k 0 ++ Q).map u32) ∧ (k ≤ nr_5) ∧ (Q.length = nr_5 - k) ∧ (∀ d ∈ Q, d < BS) ∧ (rs < xd) ∧ (val (dr_5.drop k) = xd * val Q + rs)) ((nr_5)) ?_ ?_
  · refine ⟨(nr_5), ([]), (0), rfl, rfl, rfl, rfl, cI, cI, (Frm.refl _ _), ?_, ?_, ?_, ?_, ?_, ?_⟩
    · simpa using hB17
    · omega
    · simp
    · simp
    · omega
    · rw [List.drop_of_length_le (by omega)]; rfl
  · rintro m21 e31 w22 ⟨k, Q, rs, hm30, hs23, hs24, hs25, hs26, hs27, hF28, hB29, hk, hQ, hQt, hrs, hv⟩
    obtain ⟨r32, rfl⟩ := sq (e := e31) (t := 0) hs23
    obtain ⟨r33, rfl⟩ := sq (e := r32) (t := 1) hs24
    obtain ⟨r34, rfl⟩ := sq (e := r33) (t := 7) hs25
    obtain ⟨r35, rfl⟩ := sq (e := r34) (t := 8) hs26
    obtain ⟨r36, rfl⟩ := sq (e := r35) (t := 9) hs27
    have hz37 := hF28.size
    refine wp_seq_k fun K38 hK38 => rS fun K39 hK39 => sMi rfl ?_
    by_cases hc40 : ((k : Int) - 1) ≥ 0
    · refine sV (evGeq true rfl rfl (dT hc40)) (sK hK39 (cT rfl (wp_skip (xN (hK38 _ _ (wp_seq_k fun K41 hK41 => wp_block (wp_region_lit (sMs rfl (sMi rfl (sMi rfl (sMs rfl (sMi rfl ?_))))))))))))
      have hR42 := hE14.rx hF28
      have h43 := (hr_5.frmB hR42 q3)
      obtain ⟨b44, o45, rfl⟩ := h43.base (by omega)
      refine sV (evIx (k - 1) Tryz.underlying23 sz26 rfl rfl (o45 + (k - 1))) ?_
      have hd46 := h43.lt (k - 1)
      refine sV (evLoad one26 rfl (h43.cell (by omega))) (sMi rfl (sO (oCall rfl call104 (bits_Div32 (x1 := rs) (by omega) (x2 := dr_5.getD (k - 1) 0) (by omega) (x3 := xd) (by omega) (by omega)) rfl ?_)))
      rintro _ w48 ⟨xq_47, xm_47, rfl, hE49, bq_47, bm_47, e_47, lt_47⟩
      have hz50 := hE49.size
      refine sV (v := (.tuple #[(.int .u32 ((xq_47 : Int))), (.int .u32 ((xm_47 : Int)))])) (rfl) (sV (v := (.int .u32 ((xq_47 : Int)))) (rfl) (sV (v := (.int .u32 ((xm_47 : Int)))) (rfl) (sV (evIx (k - 1) Tryz.underlying23 sz26 rfl rfl (k - 1)) ?_)))
      have hB51 := (hB29.ext hE49)
      refine sO (oStore1 rfl rfl rfl sz26 hB51 (by exact lq) (fun w52 hU53 hz54 hB55 => ?_))
      replace hB55 : Blk w52 g11 26 ((List.replicate (k - 1) 0 ++ (xq_47 :: Q)).map u32) := by rw [← (revN_set (by omega) (by omega) : (List.replicate k 0 ++ Q).set (k - 1) xq_47 = List.replicate (k - 1) 0 ++ (xq_47 :: Q)), List.map_set]; exact hB55
      refine sAi rfl (sDone (bN (xN (hK41 _ _ (wp_region_lit (sMi rfl (sV (evSub (((k : Int) - 1) - 1) rfl rfl wI) (sAi rfl (sDone ?_)))))))))
      have hR56 := hE49.rx hU53
      refine again ((k - 1)) (by omega) ⟨(k - 1), (xq_47 :: Q), (xm_47), rfl, rfl, rfl, rfl, cI, cI, (hF28.trans hR56), ?_, ?_, ?_, ?_, ?_, ?_⟩
      · exact hB55
      · omega
      · simp [hQ]; omega
      · exact lt_cons hQt (by omega)
      · omega
      · exact divs_step (by omega) (by omega) hv e_47
    · refine sV (evGeq false rfl rfl (dF hc40)) (sK hK39 (cF rfl (wp_exit (xE (xE (bE (xN (hK19 _ _ (rS fun K57 hK57 => sMs rfl ?_)))))))))
      have h58 : NatR w22 (fun b => b = g11) (some ⟨g11, 0, none⟩) nr_5 nr_5 (List.replicate k 0 ++ Q) := NatR.of_blk hB29 rfl (lt_revfill hQt) (by exact lq) (by omega) (by unfold CapMax; omega)
      refine sO (oCall rfl call87 (natural_trim h58) rfl ?_)
      rintro _ w60 ⟨Ar_59, nr_59, cr_59, dr_59, rfl, hE61, hr_59, e_59, le_59⟩
      have hz62 := hE61.size
      have ⟨lr_59, kr_59, mr_59⟩ := hr_59.lkm
      refine sMi rfl (sAs rfl (sAi rfl (sAb rfl (sK hK57 (wp_ret (ret3 (.slice Ar_59 nr_59 cr_59) (.int .u32 ((rs : Int))) (.bool true) Tryz.results64 (resT rfl) (resT rfl) (resT rfl) ?_))))))
      have hR64 := ((hE7.trans hE14).rx hF28).xr hE61
      exact ⟨Ar_59, nr_59, cr_59, dr_59, (rs), (true), rfl, (Frm.mono hR64 q4), (NatR.sub hr_59 q5), (by omega), (by rw [e_59, val_trim, show k = 0 by omega, List.replicate_zero, List.nil_append, ← val_trim da, ← e_5, ← hv, show k = 0 by omega, List.drop_zero]), (by omega), (by rw [e_59]; exact canon_trim _ _), (by omega)⟩
end Go.Proofs.YtneolcopompkaaaGreatDoor
