/-
  Walks of package natural: shifts.
-/
import Derived.Test.YtppegjbdencefaaNat5
namespace Go.Proofs.Ytppegjbdencefaa
open Go.RowKit Go.Gx
set_option maxHeartbeats 1000000 in
theorem natural_Shl {w : World} {Sa : Nat → Prop} {Aa : Option Addr} {na ca : Nat} {da : List Nat} {xn : Nat} (ha : NatR w Sa Aa na ca da) (bn : xn ≤ 9223372036854775807) (hna : na ≤ 549755813888) (hxn : xn ≤ 16777216) : Calls Try.prog 128 #[(.slice Aa na ca), (.int .i64 ((xn : Int)))] w (Ret fun v w' => ∃ (Ar : Option Addr) (nr : Nat) (cr : Nat) (dr : List Nat), v = (.slice Ar nr cr) ∧ Ext w w' ∧ NatR w' (fun b => w.heap.size ≤ b) Ar nr cr dr ∧ (val dr = val da * 2 ^ xn) ∧ (Canon isZ dr) ∧ (nr ≤ na + xn / 32 + 1)) := by
  have la := ha.len; have ka := ha.cap; have ma := ha.max
  replace ha := ha.low
  refine enter Try.func128 rfl Try.ntmps128 rfl ?_
  refine wp_seq_k fun K1 hK1 => ?_
  refine wp_region_lit ?_
  refine sEv (v := (.slice none 0 0)) (rfl) rfl rfl ?_
  refine sDone ?_
  refine xN (hK1 _ _ ?_)
  refine wp_seq_k fun K2 hK2 => ?_
  refine wp_region_lit ?_
  refine sEv (v := (.slice Aa na ca)) (rfl) rfl rfl ?_
  refine sOp rfl (oCall rfl call99 (natural_trim ha) rfl ?_)
  rintro _ w4 ⟨Ar_3, nr_3, cr_3, dr_3, rfl, hE5, hr_3, e_3, le_3⟩
  have hz6 := hE5.size
  have lr_3 := hr_3.len; have kr_3 := hr_3.cap; have mr_3 := hr_3.max
  refine sEv (v := (.slice Ar_3 nr_3 cr_3)) (rfl) rfl rfl ?_
  refine sDone ?_
  refine xN (hK2 _ _ ?_)
  refine wp_seq_k fun K8 hK8 => ?_
  refine wp_seq_k fun K9 hK9 => ?_
  refine wp_region_lit ?_
  refine sEv (v := (.slice Ar_3 nr_3 cr_3)) (rfl) rfl rfl ?_
  refine sEv (v := (.int .i64 ((nr_3 : Int)))) (evLen Try.underlying44 rfl) rfl rfl ?_
  by_cases hc10 : ((nr_3 : Int)) = 0
  · refine sEv (v := (.bool true)) (evEql true rfl rfl (dT hc10)) rfl rfl ?_
    refine sDone ?_
    refine xN (hK9 _ _ ?_)
    refine cT rfl ?_
    refine wp_seq_k fun K11 hK11 => ?_
    refine wp_region_lit ?_
    refine sEv (v := (.slice none 0 0)) (rfl) rfl rfl ?_
    refine sDone ?_
    refine xN (hK11 _ _ ?_)
    refine wp_ret (xR ?_)
    refine ret1 (.slice none 0 0) Try.results128 (resT rfl) ?_
    exact ⟨none, 0, 0, ([]), rfl, hE5, NatR.nil, (by rw [← val_trim da, ← e_3, show dr_3 = [] from List.eq_nil_of_length_eq_zero (by omega)]; simp [val]), (canon_nil _), (by omega)⟩
  · refine sEv (v := (.bool false)) (evEql false rfl rfl (dF hc10)) rfl rfl ?_
    refine sDone ?_
    refine xN (hK9 _ _ ?_)
    refine cF rfl ?_
    refine wp_skip ?_
    refine xN (hK8 _ _ ?_)
    refine wp_seq_k fun K12 hK12 => ?_
    refine wp_region_lit ?_
    refine sEv (v := (.int .i64 ((xn : Int)))) (rfl) rfl rfl ?_
    refine sEv (v := (.int .i64 ((xn : Int)))) (evMax ((xn : Int)) rfl rfl (by split <;> omega)) rfl rfl ?_
    refine sEv (v := (.int .i64 ((xn : Int)))) (evMin ((xn : Int)) rfl rfl (by split <;> omega)) rfl rfl ?_
    refine sEv (v := (.int .i64 ((xn : Int)))) (rfl) rfl rfl ?_
    refine sDone ?_
    refine xN (hK12 _ _ ?_)
    refine wp_seq_k fun K13 hK13 => ?_
    refine wp_region_lit ?_
    refine sEv (v := (.int .i64 ((xn : Int)))) (rfl) rfl rfl ?_
    refine sEv (v := (.int .i64 (((xn / 32 : Nat) : Int)))) (evQuo (((xn / 32 : Nat) : Int)) rfl rfl (by omega) (quoEi64 (by omega) (by omega) (by omega))) rfl rfl ?_
    refine sEv (v := (.int .i64 ((xn : Int)))) (rfl) rfl rfl ?_
    refine sEv (v := (.int .i64 (((xn % 32 : Nat) : Int)))) (evRem (((xn % 32 : Nat) : Int)) rfl rfl (by omega) (remE (by omega) (by omega))) rfl rfl ?_
    refine sEv (v := (.int .u64 (((xn % 32 : Nat) : Int)))) (evConv _ Try.underlying3 Try.underlying90 rfl (wU64 (by omega))) rfl rfl ?_
    refine sEv (v := (.int .i64 (((xn / 32 : Nat) : Int)))) (rfl) rfl rfl ?_
    refine sEv (v := (.int .u64 (((xn % 32 : Nat) : Int)))) (rfl) rfl rfl ?_
    refine sDone ?_
    refine xN (hK13 _ _ ?_)
    refine wp_seq_k fun K14 hK14 => ?_
    refine wp_region_lit ?_
    refine sEv (v := (.int .i64 (((xn / 32 : Nat) : Int)))) (rfl) rfl rfl ?_
    refine sEv (v := (.slice Ar_3 nr_3 cr_3)) (rfl) rfl rfl ?_
    refine sEv (v := (.int .i64 ((nr_3 : Int)))) (evLen Try.underlying44 rfl) rfl rfl ?_
    refine sEv (v := (.int .i64 ((((xn / 32 : Nat) : Int)) + ((nr_3 : Int))))) (evAdd ((((xn / 32 : Nat) : Int)) + ((nr_3 : Int))) rfl rfl (wI64 (by omega))) rfl rfl ?_
    refine sEv (v := (.int .i64 (((((xn / 32 : Nat) : Int)) + ((nr_3 : Int))) + 1))) (evAdd (((((xn / 32 : Nat) : Int)) + ((nr_3 : Int))) + 1) rfl rfl (wI64 (by omega))) rfl rfl ?_
    refine sOp rfl (oMake1 (((xn / 32) + nr_3) + 1) Try.underlying44 inf62 rfl (congrArg (Value.int .i64) (by omega)) (congrArg (Value.int .i64) (by omega)) (by omega) (by omega) ?_)
    intro g15 w16 hg17 hE18 hz19 hB20
    have hB21 : Blk w16 g15 62 (((List.replicate (((xn / 32) + nr_3) + 1) 0)).map u32) := by rw [List.map_replicate]; exact hB20
    refine sEv (v := (.slice (some ⟨g15, 0, none⟩) (((xn / 32) + nr_3) + 1) (((xn / 32) + nr_3) + 1))) (rfl) rfl rfl ?_
    refine sDone ?_
    refine xN (hK14 _ _ ?_)
    refine wp_seq_k fun K22 hK22 => ?_
    refine wp_region_lit ?_
    refine sEv (v := (.slice (some ⟨g15, 0, none⟩) (((xn / 32) + nr_3) + 1) (((xn / 32) + nr_3) + 1))) (rfl) rfl rfl ?_
    refine sEv (v := (.int .i64 (((xn / 32 : Nat) : Int)))) (rfl) rfl rfl ?_
    refine sEv (v := (.slice (some ⟨g15, xn / 32, none⟩) ((((xn / 32) + nr_3) + 1) - (xn / 32)) ((((xn / 32) + nr_3) + 1) - (xn / 32)))) (evSliceLoAt (xn / 32) Try.underlying44 sz62 rfl rfl (by omega) (by omega) (by omega) (by omega) (xn / 32) (by omega)) rfl rfl ?_
    refine sEv (v := (.slice (some ⟨g15, xn / 32, none⟩) ((((xn / 32) + nr_3) + 1) - (xn / 32)) ((((xn / 32) + nr_3) + 1) - (xn / 32)))) (rfl) rfl rfl ?_
    refine sDone ?_
    refine xN (hK22 _ _ ?_)
    refine wp_seq_k fun K23 hK23 => ?_
    refine wp_seq_k fun K24 hK24 => ?_
    refine wp_region_lit ?_
    refine sEv (v := (.slice Ar_3 nr_3 cr_3)) (rfl) rfl rfl ?_
    refine sEv (v := (.int .i64 ((nr_3 : Int)))) (evLen Try.underlying44 rfl) rfl rfl ?_
    refine sEv (v := (.int .i64 (0))) (rfl) rfl rfl ?_
    refine sDone ?_
    refine xN (hK24 _ _ ?_)
    refine wp_block ?_
    refine lLoop (fun m e w_ => ∃ (k : Nat) (P : List Nat) (cy : Nat), m = nr_3 - k ∧ e 6 = (.int .u64 (((xn % 32 : Nat) : Int))) ∧ e 7 = (.slice (some ⟨g15, 0, none⟩) (((xn / 32) + nr_3) + 1) (((xn / 32) + nr_3) + 1)) ∧ e 8 = (.slice (some ⟨g15, xn / 32, none⟩) ((((xn / 32) + nr_3) + 1) - (xn / 32)) ((((xn / 32) + nr_3) + 1) - (xn / 32))) ∧ e 34 = (.slice Ar_3 nr_3 cr_3) ∧ e 35 = (.int .i64 ((nr_3 : Int))) ∧ e 36 = (.int .i64 ((k : Int))) ∧ Frm (fun b => b = g15) w16 w_ ∧ Blk w_ g15 62 ((List.replicate (xn / 32) 0 ++ (P ++ (cy :: List.replicate (nr_3 - k) 0))).map u32) ∧ (k ≤ nr_3) ∧ (P.length = k) ∧ (∀ d ∈ P, d < BS) ∧ (cy < 2 ^ (xn % 32)) ∧ (cy < 4294967296) ∧ (val P + BS ^ k * cy = val (dr_3.take k) * 2 ^ (xn % 32))) (nr_3 - (0)) ?_ ?_
    · refine ⟨(0), ([]), (0), rfl, rfl, rfl, rfl, rfl, rfl, (congrArg (Value.int .i64) (by omega)), (Frm.refl _ _), ?_, ?_, ?_, ?_, ?_, ?_, ?_⟩
      · rw [List.nil_append, rep_shl]; exact hB21
      · omega
      · rfl
      · simp
      · exact Nat.pow_pos (by decide)
      · omega
      · simp [val]
    · rintro m25 e36 w26 ⟨k, P, cy, hm35, hs27, hs28, hs29, hs30, hs31, hs32, hF33, hB34, hk, hP, hlt, hcy, hcy2, hw⟩
      obtain ⟨r37, rfl⟩ := sq (e := e36) (t := 6) hs27
      obtain ⟨r38, rfl⟩ := sq (e := r37) (t := 7) hs28
      obtain ⟨r39, rfl⟩ := sq (e := r38) (t := 8) hs29
      obtain ⟨r40, rfl⟩ := sq (e := r39) (t := 34) hs30
      obtain ⟨r41, rfl⟩ := sq (e := r40) (t := 35) hs31
      obtain ⟨r42, rfl⟩ := sq (e := r41) (t := 36) hs32
      have hz43 := hF33.size
      refine wp_seq_k fun K44 hK44 => ?_
      refine wp_region_lit ?_
      by_cases hc45 : ((k : Int)) < ((nr_3 : Int))
      · refine sEv (v := (.bool true)) (evLss true rfl rfl (dT hc45)) rfl rfl ?_
        refine sDone ?_
        refine xN (hK44 _ _ ?_)
        refine wp_seq_k fun K46 hK46 => ?_
        refine cT rfl ?_
        refine wp_skip ?_
        refine xN (hK46 _ _ ?_)
        refine wp_seq_k fun K47 hK47 => ?_
        refine wp_block ?_
        refine wp_seq_k fun K48 hK48 => ?_
        refine wp_region_lit ?_
        refine sEv (v := (.int .i64 ((k : Int)))) (rfl) rfl rfl ?_
        have h49 := (hr_3.frmB ((Frm.of_ext (G := fun b => (b = g15)) hE18).trans hF33) q3)
        obtain ⟨b50, o51, rfl⟩ := h49.base (by omega)
        refine sEv (v := (.pointer (some ⟨b50, o51 + k, none⟩))) (evIndex k Try.underlying44 sz62 rfl rfl (by omega) (by omega) (o51 + k) (by omega)) rfl rfl ?_
        have hd52 := h49.lt k
        refine sEv (v := (.int .u32 (((dr_3.getD k 0 : Nat) : Int)))) (evLoad one62 rfl (h49.cell (by omega))) rfl rfl ?_
        refine sEv (v := (.int .i64 ((k : Int)))) (rfl) rfl rfl ?_
        refine sEv (v := (.int .u32 (((dr_3.getD k 0 : Nat) : Int)))) (rfl) rfl rfl ?_
        refine sDone ?_
        refine xN (hK48 _ _ ?_)
        refine wp_seq_k fun K53 hK53 => ?_
        have hsp := shl_parts (h49.lt k) (show xn % 32 ≤ 31 by omega) hcy
        refine wp_region_lit ?_
        refine sEv (v := (.int .u32 (((dr_3.getD k 0 : Nat) : Int)))) (rfl) rfl rfl ?_
        refine sEv (v := (.int .u64 (((dr_3.getD k 0 : Nat) : Int)))) (evConv _ Try.underlying62 Try.underlying101 rfl (wU64 (by omega))) rfl rfl ?_
        refine sEv (v := (.int .u64 (((xn % 32 : Nat) : Int)))) (rfl) rfl rfl ?_
        refine sEv (v := (.int .u64 (((dr_3.getD k 0 * 2 ^ (xn % 32) : Nat) : Int)))) (evShl (((dr_3.getD k 0 * 2 ^ (xn % 32) : Nat) : Int)) rfl rfl (by omega) (shlE64u (by omega) (by omega) (by omega) (by omega))) rfl rfl ?_
        refine sEv (v := (.int .u64 (((dr_3.getD k 0 * 2 ^ (xn % 32) : Nat) : Int)))) (rfl) rfl rfl ?_
        refine sDone ?_
        refine xN (hK53 _ _ ?_)
        refine wp_seq_k fun K54 hK54 => ?_
        have hq := shl_get (Z := List.replicate (nr_3 - k) 0) (c := cy) (w := xn / 32) hP (t := xn / 32 + k) rfl
        refine wp_region_lit ?_
        refine sEv (v := (.slice (some ⟨g15, xn / 32, none⟩) ((((xn / 32) + nr_3) + 1) - (xn / 32)) ((((xn / 32) + nr_3) + 1) - (xn / 32)))) (rfl) rfl rfl ?_
        refine sEv (v := (.int .i64 ((k : Int)))) (rfl) rfl rfl ?_
        refine sEv (v := (.pointer (some ⟨g15, xn / 32 + k, none⟩))) (evIndex k Try.underlying44 sz62 rfl rfl (by omega) (by omega) (xn / 32 + k) (by omega)) rfl rfl ?_
        have hd55 := getD_lt (ds := List.replicate (xn / 32) 0 ++ (P ++ (cy :: List.replicate (nr_3 - k) 0))) (i := xn / 32 + k) (lt_shl hlt hcy2)
        refine sEv (v := (.int .u32 ((((List.replicate (xn / 32) 0 ++ (P ++ (cy :: List.replicate (nr_3 - k) 0))).getD (xn / 32 + k) 0 : Nat) : Int)))) (evLoad one62 rfl (hB34.dig (by exact lq))) rfl rfl ?_
        generalize hq48 : (List.replicate (xn / 32) 0 ++ (P ++ (cy :: List.replicate (nr_3 - k) 0))).getD (xn / 32 + k) 0 = q48 at *
        obtain rfl := hq.symm
        refine sEv (v := (.int .u64 (((dr_3.getD k 0 * 2 ^ (xn % 32) : Nat) : Int)))) (rfl) rfl rfl ?_
        refine sEv (v := (.int .u32 ((((dr_3.getD k 0 * 2 ^ (xn % 32)) % 4294967296 : Nat) : Int)))) (evConv ((((dr_3.getD k 0 * 2 ^ (xn % 32)) % 4294967296 : Nat) : Int)) Try.underlying101 Try.underlying62 rfl (wU32m (by omega))) rfl rfl ?_
        refine sEv (v := (.int .u32 (((cy + (dr_3.getD k 0 * 2 ^ (xn % 32)) % 4294967296 : Nat) : Int)))) (evOr32n rfl rfl (by omega) (by omega) hsp.2.1) rfl rfl ?_
        refine sEv (v := (.pointer (some ⟨g15, xn / 32 + k, none⟩))) (evIndex k Try.underlying44 sz62 rfl rfl (by omega) (by omega) (xn / 32 + k) (by omega)) rfl rfl ?_
        refine sOp rfl (oStore1 rfl rfl rfl sz62 hB34 (by exact lq) ?_)
        intro w56 hU57 hz58 hB59
        replace hB59 : Blk w56 g15 62 ((List.replicate (xn / 32) 0 ++ (P ++ ((cy + (dr_3.getD k 0 * 2 ^ (xn % 32)) % 4294967296) :: List.replicate (nr_3 - k) 0))).map u32) := by rw [← (shl_set1 hP (by omega) : (List.replicate (xn / 32) 0 ++ (P ++ (cy :: List.replicate (nr_3 - k) 0))).set (xn / 32 + k) (cy + (dr_3.getD k 0 * 2 ^ (xn % 32)) % 4294967296) = List.replicate (xn / 32) 0 ++ (P ++ ((cy + (dr_3.getD k 0 * 2 ^ (xn % 32)) % 4294967296) :: List.replicate (nr_3 - k) 0))), List.map_set]; exact hB59
        refine sDone ?_
        refine xN (hK54 _ _ ?_)
        refine wp_region_lit ?_
        refine sEv (v := (.slice (some ⟨g15, xn / 32, none⟩) ((((xn / 32) + nr_3) + 1) - (xn / 32)) ((((xn / 32) + nr_3) + 1) - (xn / 32)))) (rfl) rfl rfl ?_
        refine sEv (v := (.int .i64 ((k : Int)))) (rfl) rfl rfl ?_
        refine sEv (v := (.int .i64 (((k : Int)) + 1))) (evAdd (((k : Int)) + 1) rfl rfl (wI64 (by omega))) rfl rfl ?_
        refine sEv (v := (.int .u64 (((dr_3.getD k 0 * 2 ^ (xn % 32) : Nat) : Int)))) (rfl) rfl rfl ?_
        refine sEv (v := (.int .u64 ((((dr_3.getD k 0 * 2 ^ (xn % 32)) / 2 ^ 32 : Nat) : Int)))) (evShr ((((dr_3.getD k 0 * 2 ^ (xn % 32)) / 2 ^ 32 : Nat) : Int)) rfl rfl (by omega) (shrE (x := dr_3.getD k 0 * 2 ^ (xn % 32)) (s := 32) (by omega) (by omega) (by show _ ≤ 64; omega))) rfl rfl ?_
        refine sEv (v := (.int .u32 (((((dr_3.getD k 0 * 2 ^ (xn % 32)) / 2 ^ 32) % 4294967296 : Nat) : Int)))) (evConv (((((dr_3.getD k 0 * 2 ^ (xn % 32)) / 2 ^ 32) % 4294967296 : Nat) : Int)) Try.underlying101 Try.underlying62 rfl (wU32m (by omega))) rfl rfl ?_
        refine sEv (v := (.pointer (some ⟨g15, xn / 32 + (k + 1), none⟩))) (evIndex (k + 1) Try.underlying44 sz62 rfl rfl (by omega) (by omega) (xn / 32 + (k + 1)) (by omega)) rfl rfl ?_
        have hcn : ((dr_3.getD k 0 * 2 ^ (xn % 32)) / 2 ^ 32) % 4294967296 < 2 ^ (xn % 32) := by have h1 := hsp.2.2.2.1; omega
        refine sOp rfl (oStore1 rfl rfl rfl sz62 hB59 (by exact lq) ?_)
        intro w60 hU61 hz62 hB63
        replace hB63 : Blk w60 g15 62 ((List.replicate (xn / 32) 0 ++ ((P ++ [cy + (dr_3.getD k 0 * 2 ^ (xn % 32)) % 4294967296]) ++ ((((dr_3.getD k 0 * 2 ^ (xn % 32)) / 2 ^ 32) % 4294967296) :: List.replicate (nr_3 - (k + 1)) 0))).map u32) := by rw [← (shl_set2 hP (by omega) (by omega) : (List.replicate (xn / 32) 0 ++ (P ++ ((cy + (dr_3.getD k 0 * 2 ^ (xn % 32)) % 4294967296) :: List.replicate (nr_3 - k) 0))).set (xn / 32 + (k + 1)) (((dr_3.getD k 0 * 2 ^ (xn % 32)) / 2 ^ 32) % 4294967296) = List.replicate (xn / 32) 0 ++ ((P ++ [cy + (dr_3.getD k 0 * 2 ^ (xn % 32)) % 4294967296]) ++ ((((dr_3.getD k 0 * 2 ^ (xn % 32)) / 2 ^ 32) % 4294967296) :: List.replicate (nr_3 - (k + 1)) 0))), List.map_set]; exact hB63
        refine sDone ?_
        refine bN ?_
        refine xN (hK47 _ _ ?_)
        refine wp_region_lit ?_
        refine sEv (v := (.int .i64 (((k : Int)) + 1))) (evAdd (((k : Int)) + 1) rfl rfl (wI64 (by omega))) rfl rfl ?_
        refine sEv (v := (.int .i64 (((k : Int)) + 1))) (rfl) rfl rfl ?_
        refine sDone ?_
        refine again (nr_3 - (k + 1)) (by omega) ⟨(k + 1), (P ++ [cy + (dr_3.getD k 0 * 2 ^ (xn % 32)) % 4294967296]), (((dr_3.getD k 0 * 2 ^ (xn % 32)) / 2 ^ 32) % 4294967296), rfl, rfl, rfl, rfl, rfl, rfl, (congrArg (Value.int .i64) (by omega)), ((hF33.trans hU57).trans hU61), ?_, ?_, ?_, ?_, ?_, ?_, ?_⟩
        · exact hB63
        · omega
        · simp [hP]
        · exact lt_snoc hlt (by omega)
        · exact hcn
        · omega
        · exact shl_step hw hP (by omega)
      · refine sEv (v := (.bool false)) (evLss false rfl rfl (dF hc45)) rfl rfl ?_
        refine sDone ?_
        refine xN (hK44 _ _ ?_)
        refine wp_seq_k fun K64 hK64 => ?_
        refine cF rfl ?_
        refine wp_exit (xE (xE (bE ?_)))
        refine xN (hK23 _ _ ?_)
        refine wp_seq_k fun K65 hK65 => ?_
        refine wp_region_lit ?_
        refine sEv (v := (.slice (some ⟨g15, 0, none⟩) (((xn / 32) + nr_3) + 1) (((xn / 32) + nr_3) + 1))) (rfl) rfl rfl ?_
        have h66 : NatR w26 (fun b => b = g15) (some ⟨g15, 0, none⟩) (((xn / 32) + nr_3) + 1) (((xn / 32) + nr_3) + 1) (List.replicate (xn / 32) 0 ++ (P ++ (cy :: List.replicate (nr_3 - k) 0))) := NatR.of_blk hB34 rfl (lt_shl hlt hcy2) (by exact lq) (by omega) (by unfold CapMax; omega)
        refine sOp rfl (oCall rfl call99 (natural_trim h66) rfl ?_)
        rintro _ w68 ⟨Ar_67, nr_67, cr_67, dr_67, rfl, hE69, hr_67, e_67, le_67⟩
        have hz70 := hE69.size
        have lr_67 := hr_67.len; have kr_67 := hr_67.cap; have mr_67 := hr_67.max
        refine sEv (v := (.slice Ar_67 nr_67 cr_67)) (rfl) rfl rfl ?_
        refine sDone ?_
        refine xN (hK65 _ _ ?_)
        refine wp_ret ?_
        refine ret1 (.slice Ar_67 nr_67 cr_67) Try.results128 (resT rfl) ?_
        exact ⟨Ar_67, nr_67, cr_67, dr_67, rfl, (Frm.mono ((((Frm.of_ext (G := fun b => (b = g15)) hE5).trans (Frm.of_ext (G := fun b => (b = g15)) hE18)).trans hF33).trans (Frm.of_ext (G := fun b => (b = g15)) hE69)) q4), (NatR.sub hr_67 q5), (by rw [e_67, val_trim, shl_end (n := xn) hw hP (by omega) (by omega) (by omega), e_3, val_trim]), (by rw [e_67]; exact canon_trim _ _), (by omega)⟩

set_option maxHeartbeats 1000000 in
theorem natural_Shr {w : World} {Sa : Nat → Prop} {Aa : Option Addr} {na ca : Nat} {da : List Nat} {xn : Nat} (ha : NatR w Sa Aa na ca da) (bn : xn ≤ 9223372036854775807) (hna : na ≤ 549755813888) : Calls Try.prog 132 #[(.slice Aa na ca), (.int .i64 ((xn : Int)))] w (Ret fun v w' => ∃ (Ar : Option Addr) (nr : Nat) (cr : Nat) (dr : List Nat), v = (.slice Ar nr cr) ∧ Ext w w' ∧ NatR w' (fun b => w.heap.size ≤ b) Ar nr cr dr ∧ (val dr = val da / 2 ^ xn) ∧ (Canon isZ dr) ∧ (nr ≤ na)) := by
  have la := ha.len; have ka := ha.cap; have ma := ha.max
  replace ha := ha.low
  refine enter Try.func132 rfl Try.ntmps132 rfl ?_
  refine wp_seq_k fun K1 hK1 => ?_
  refine wp_region_lit ?_
  refine sEv (v := (.slice none 0 0)) (rfl) rfl rfl ?_
  refine sDone ?_
  refine xN (hK1 _ _ ?_)
  refine wp_seq_k fun K2 hK2 => ?_
  refine wp_region_lit ?_
  refine sEv (v := (.slice Aa na ca)) (rfl) rfl rfl ?_
  refine sOp rfl (oCall rfl call99 (natural_trim ha) rfl ?_)
  rintro _ w4 ⟨Ar_3, nr_3, cr_3, dr_3, rfl, hE5, hr_3, e_3, le_3⟩
  have hz6 := hE5.size
  have lr_3 := hr_3.len; have kr_3 := hr_3.cap; have mr_3 := hr_3.max
  refine sEv (v := (.slice Ar_3 nr_3 cr_3)) (rfl) rfl rfl ?_
  refine sDone ?_
  refine xN (hK2 _ _ ?_)
  refine wp_seq_k fun K8 hK8 => ?_
  refine wp_region_lit ?_
  refine sEv (v := (.int .i64 ((xn : Int)))) (rfl) rfl rfl ?_
  refine sEv (v := (.int .i64 ((xn : Int)))) (evMax ((xn : Int)) rfl rfl (by split <;> omega)) rfl rfl ?_
  refine sEv (v := (.int .i64 ((xn : Int)))) (rfl) rfl rfl ?_
  refine sDone ?_
  refine xN (hK8 _ _ ?_)
  refine wp_seq_k fun K9 hK9 => ?_
  refine wp_region_lit ?_
  refine sEv (v := (.int .i64 ((xn : Int)))) (rfl) rfl rfl ?_
  refine sEv (v := (.int .i64 (((xn / 32 : Nat) : Int)))) (evQuo (((xn / 32 : Nat) : Int)) rfl rfl (by omega) (quoEi64 (by omega) (by omega) (by omega))) rfl rfl ?_
  refine sEv (v := (.int .i64 ((xn : Int)))) (rfl) rfl rfl ?_
  refine sEv (v := (.int .i64 (((xn % 32 : Nat) : Int)))) (evRem (((xn % 32 : Nat) : Int)) rfl rfl (by omega) (remE (by omega) (by omega))) rfl rfl ?_
  refine sEv (v := (.int .u64 (((xn % 32 : Nat) : Int)))) (evConv _ Try.underlying3 Try.underlying90 rfl (wU64 (by omega))) rfl rfl ?_
  refine sEv (v := (.int .i64 (((xn / 32 : Nat) : Int)))) (rfl) rfl rfl ?_
  refine sEv (v := (.int .u64 (((xn % 32 : Nat) : Int)))) (rfl) rfl rfl ?_
  refine sDone ?_
  refine xN (hK9 _ _ ?_)
  refine wp_seq_k fun K10 hK10 => ?_
  refine wp_seq_k fun K11 hK11 => ?_
  refine wp_region_lit ?_
  refine sEv (v := (.int .i64 (((xn / 32 : Nat) : Int)))) (rfl) rfl rfl ?_
  refine sEv (v := (.slice Ar_3 nr_3 cr_3)) (rfl) rfl rfl ?_
  refine sEv (v := (.int .i64 ((nr_3 : Int)))) (evLen Try.underlying44 rfl) rfl rfl ?_
  by_cases hc12 : (((xn / 32 : Nat) : Int)) ≥ ((nr_3 : Int))
  · refine sEv (v := (.bool true)) (evGeq true rfl rfl (dT hc12)) rfl rfl ?_
    refine sDone ?_
    refine xN (hK11 _ _ ?_)
    refine cT rfl ?_
    refine wp_seq_k fun K13 hK13 => ?_
    refine wp_region_lit ?_
    refine sEv (v := (.slice none 0 0)) (rfl) rfl rfl ?_
    refine sDone ?_
    refine xN (hK13 _ _ ?_)
    refine wp_ret (xR ?_)
    refine ret1 (.slice none 0 0) Try.results132 (resT rfl) ?_
    exact ⟨none, 0, 0, ([]), rfl, hE5, NatR.nil, (by rw [← val_trim da, ← e_3]; exact shr_zero (w := xn / 32) hr_3.2 lr_3 (by omega) (by omega)), (canon_nil _), (by omega)⟩
  · refine sEv (v := (.bool false)) (evGeq false rfl rfl (dF hc12)) rfl rfl ?_
    refine sDone ?_
    refine xN (hK11 _ _ ?_)
    refine cF rfl ?_
    refine wp_skip ?_
    refine xN (hK10 _ _ ?_)
    refine wp_seq_k fun K14 hK14 => ?_
    refine wp_region_lit ?_
    refine sEv (v := (.slice Ar_3 nr_3 cr_3)) (rfl) rfl rfl ?_
    refine sEv (v := (.int .i64 (((xn / 32 : Nat) : Int)))) (rfl) rfl rfl ?_
    have h17 := hr_3.drop (m := xn / 32) (by omega)
    refine sEv (v := (.slice (if cr_3 = (xn / 32) then Ar_3 else Ar_3.map (·.add ((xn / 32) * 1))) (nr_3 - (xn / 32)) (cr_3 - (xn / 32)))) (evSliceLo (xn / 32) Try.underlying44 sz62 rfl rfl (by omega) (by omega) (by omega)) rfl rfl ?_
    generalize (if cr_3 = (xn / 32) then Ar_3 else Ar_3.map (·.add ((xn / 32) * 1))) = A15 at *
    refine sEv (v := (.slice A15 (nr_3 - (xn / 32)) (cr_3 - (xn / 32)))) (rfl) rfl rfl ?_
    refine sDone ?_
    refine xN (hK14 _ _ ?_)
    refine wp_seq_k fun K19 hK19 => ?_
    refine wp_region_lit ?_
    refine sEv (v := (.slice A15 (nr_3 - (xn / 32)) (cr_3 - (xn / 32)))) (rfl) rfl rfl ?_
    refine sEv (v := (.int .i64 (((nr_3 - (xn / 32) : Nat) : Int)))) (evLen Try.underlying44 rfl) rfl rfl ?_
    refine sOp rfl (oMake1 (nr_3 - (xn / 32)) Try.underlying44 inf62 rfl (congrArg (Value.int .i64) (by omega)) (congrArg (Value.int .i64) (by omega)) (by omega) (by omega) ?_)
    intro g20 w21 hg22 hE23 hz24 hB25
    have hB26 : Blk w21 g20 62 (((List.replicate (nr_3 - (xn / 32)) 0)).map u32) := by rw [List.map_replicate]; exact hB25
    refine sEv (v := (.slice (some ⟨g20, 0, none⟩) (nr_3 - (xn / 32)) (nr_3 - (xn / 32)))) (rfl) rfl rfl ?_
    refine sDone ?_
    refine xN (hK19 _ _ ?_)
    refine wp_seq_k fun K27 hK27 => ?_
    refine wp_seq_k fun K28 hK28 => ?_
    refine wp_region_lit ?_
    refine sEv (v := (.slice A15 (nr_3 - (xn / 32)) (cr_3 - (xn / 32)))) (rfl) rfl rfl ?_
    refine sEv (v := (.int .i64 (((nr_3 - (xn / 32) : Nat) : Int)))) (evLen Try.underlying44 rfl) rfl rfl ?_
    refine sEv (v := (.int .i64 (0))) (rfl) rfl rfl ?_
    refine sDone ?_
    refine xN (hK28 _ _ ?_)
    refine wp_block ?_
    have h29 := (h17.ext hE23)
    refine lLoop (fun m e w_ => ∃ (k : Nat) (P : List Nat), m = (nr_3 - (xn / 32)) - k ∧ e 6 = (.int .u64 (((xn % 32 : Nat) : Int))) ∧ e 7 = (.slice A15 (nr_3 - (xn / 32)) (cr_3 - (xn / 32))) ∧ e 8 = (.slice (some ⟨g20, 0, none⟩) (nr_3 - (xn / 32)) (nr_3 - (xn / 32))) ∧ e 31 = (.slice A15 (nr_3 - (xn / 32)) (cr_3 - (xn / 32))) ∧ e 32 = (.int .i64 (((nr_3 - (xn / 32) : Nat) : Int))) ∧ e 33 = (.int .i64 ((k : Int))) ∧ Frm (fun b => b = g20) w21 w_ ∧ Blk w_ g20 62 ((P ++ List.replicate ((nr_3 - (xn / 32)) - k) 0).map u32) ∧ (k ≤ nr_3 - (xn / 32)) ∧ (P.length = k) ∧ (∀ d ∈ P, d < BS) ∧ (val P = val ((dr_3).drop (xn / 32)) / 2 ^ (xn % 32) % BS ^ k)) ((nr_3 - (xn / 32)) - (0)) ?_ ?_
    · refine ⟨(0), ([]), rfl, rfl, rfl, rfl, rfl, rfl, (congrArg (Value.int .i64) (by omega)), (Frm.refl _ _), ?_, ?_, ?_, ?_, ?_⟩
      · simpa using hB26
      · omega
      · rfl
      · simp
      · simp [val, Nat.mod_one]
    · rintro m30 e41 w31 ⟨k, P, hm40, hs32, hs33, hs34, hs35, hs36, hs37, hF38, hB39, hk, hP, hlt, hw⟩
      obtain ⟨r42, rfl⟩ := sq (e := e41) (t := 6) hs32
      obtain ⟨r43, rfl⟩ := sq (e := r42) (t := 7) hs33
      obtain ⟨r44, rfl⟩ := sq (e := r43) (t := 8) hs34
      obtain ⟨r45, rfl⟩ := sq (e := r44) (t := 31) hs35
      obtain ⟨r46, rfl⟩ := sq (e := r45) (t := 32) hs36
      obtain ⟨r47, rfl⟩ := sq (e := r46) (t := 33) hs37
      have hz48 := hF38.size
      refine wp_seq_k fun K49 hK49 => ?_
      refine wp_region_lit ?_
      by_cases hc50 : ((k : Int)) < (((nr_3 - (xn / 32) : Nat) : Int))
      · refine sEv (v := (.bool true)) (evLss true rfl rfl (dT hc50)) rfl rfl ?_
        refine sDone ?_
        refine xN (hK49 _ _ ?_)
        refine wp_seq_k fun K51 hK51 => ?_
        refine cT rfl ?_
        refine wp_skip ?_
        refine xN (hK51 _ _ ?_)
        refine wp_seq_k fun K52 hK52 => ?_
        refine wp_block ?_
        refine wp_seq_k fun K53 hK53 => ?_
        refine wp_region_lit ?_
        refine sEv (v := (.int .i64 ((k : Int)))) (rfl) rfl rfl ?_
        have h54 := (h29.frmB hF38 q3)
        obtain ⟨b55, o56, rfl⟩ := h54.base (by omega)
        refine sEv (v := (.pointer (some ⟨b55, o56 + k, none⟩))) (evIndex k Try.underlying44 sz62 rfl rfl (by omega) (by omega) (o56 + k) (by omega)) rfl rfl ?_
        have hd57 := h54.lt k
        refine sEv (v := (.int .u32 (((((dr_3).drop (xn / 32)).getD k 0 : Nat) : Int)))) (evLoad one62 rfl (h54.cell (by omega))) rfl rfl ?_
        refine sEv (v := (.int .i64 ((k : Int)))) (rfl) rfl rfl ?_
        refine sEv (v := (.int .u32 (((((dr_3).drop (xn / 32)).getD k 0 : Nat) : Int)))) (rfl) rfl rfl ?_
        refine sDone ?_
        refine xN (hK53 _ _ ?_)
        refine wp_seq_k fun K58 hK58 => ?_
        refine wp_region_lit ?_
        refine sEv (v := (.int .u32 (((((dr_3).drop (xn / 32)).getD k 0 : Nat) : Int)))) (rfl) rfl rfl ?_
        refine sEv (v := (.int .u64 (((((dr_3).drop (xn / 32)).getD k 0 : Nat) : Int)))) (evConv _ Try.underlying62 Try.underlying101 rfl (wU64 (by omega))) rfl rfl ?_
        refine sEv (v := (.int .u64 (((((dr_3).drop (xn / 32)).getD k 0 : Nat) : Int)))) (rfl) rfl rfl ?_
        refine sDone ?_
        refine xN (hK58 _ _ ?_)
        refine wp_seq_k fun K59 hK59 => ?_
        refine wp_seq_k fun K60 hK60 => ?_
        refine wp_region_lit ?_
        refine sEv (v := (.int .i64 ((k : Int)))) (rfl) rfl rfl ?_
        refine sEv (v := (.int .i64 (((k : Int)) + 1))) (evAdd (((k : Int)) + 1) rfl rfl (wI64 (by omega))) rfl rfl ?_
        refine sEv (v := (.slice (some ⟨b55, o56, none⟩) (nr_3 - (xn / 32)) (cr_3 - (xn / 32)))) (rfl) rfl rfl ?_
        refine sEv (v := (.int .i64 (((nr_3 - (xn / 32) : Nat) : Int)))) (evLen Try.underlying44 rfl) rfl rfl ?_
        by_cases hc61 : (((k : Int)) + 1) < (((nr_3 - (xn / 32) : Nat) : Int))
        · refine sEv (v := (.bool true)) (evLss true rfl rfl (dT hc61)) rfl rfl ?_
          refine sDone ?_
          refine xN (hK60 _ _ ?_)
          refine cT rfl ?_
          refine wp_region_lit ?_
          refine sEv (v := (.int .u64 (((((dr_3).drop (xn / 32)).getD k 0 : Nat) : Int)))) (rfl) rfl rfl ?_
          refine sEv (v := (.slice (some ⟨b55, o56, none⟩) (nr_3 - (xn / 32)) (cr_3 - (xn / 32)))) (rfl) rfl rfl ?_
          refine sEv (v := (.int .i64 ((k : Int)))) (rfl) rfl rfl ?_
          refine sEv (v := (.int .i64 (((k : Int)) + 1))) (evAdd (((k : Int)) + 1) rfl rfl (wI64 (by omega))) rfl rfl ?_
          refine sEv (v := (.pointer (some ⟨b55, o56 + (k + 1), none⟩))) (evIndex (k + 1) Try.underlying44 sz62 rfl rfl (by omega) (by omega) (o56 + (k + 1)) (by omega)) rfl rfl ?_
          have hd62 := h54.lt (k + 1)
          refine sEv (v := (.int .u32 (((((dr_3).drop (xn / 32)).getD (k + 1) 0 : Nat) : Int)))) (evLoad one62 rfl (h54.cell (by omega))) rfl rfl ?_
          refine sEv (v := (.int .u64 (((((dr_3).drop (xn / 32)).getD (k + 1) 0 : Nat) : Int)))) (evConv _ Try.underlying62 Try.underlying101 rfl (wU64 (by omega))) rfl rfl ?_
          refine sEv (v := (.int .u64 (((((dr_3).drop (xn / 32)).getD (k + 1) 0 * 4294967296 : Nat) : Int)))) (evShl (((((dr_3).drop (xn / 32)).getD (k + 1) 0 * 4294967296 : Nat) : Int)) rfl rfl (by omega) (shlE64u (x := ((dr_3).drop (xn / 32)).getD (k + 1) 0) (s := 32) (by omega) (by omega) (by omega) (by omega))) rfl rfl ?_
          refine sEv (v := (.int .u64 (((((dr_3).drop (xn / 32)).getD k 0 + ((dr_3).drop (xn / 32)).getD (k + 1) 0 * 4294967296 : Nat) : Int)))) (evOr64 rfl rfl (by omega) (by omega) (or_high (by omega))) rfl rfl ?_
          refine sEv (v := (.int .u64 (((((dr_3).drop (xn / 32)).getD k 0 + ((dr_3).drop (xn / 32)).getD (k + 1) 0 * 4294967296 : Nat) : Int)))) (rfl) rfl rfl ?_
          refine sDone ?_
          refine xN (hK59 _ _ ?_)
          refine wp_region_lit ?_
          refine sEv (v := (.slice (some ⟨g20, 0, none⟩) (nr_3 - (xn / 32)) (nr_3 - (xn / 32)))) (rfl) rfl rfl ?_
          refine sEv (v := (.int .i64 ((k : Int)))) (rfl) rfl rfl ?_
          refine sEv (v := (.int .u64 (((((dr_3).drop (xn / 32)).getD k 0 + ((dr_3).drop (xn / 32)).getD (k + 1) 0 * 4294967296 : Nat) : Int)))) (rfl) rfl rfl ?_
          refine sEv (v := (.int .u64 (((xn % 32 : Nat) : Int)))) (rfl) rfl rfl ?_
          refine sEv (v := (.int .u64 ((((((dr_3).drop (xn / 32)).getD k 0 + ((dr_3).drop (xn / 32)).getD (k + 1) 0 * 4294967296) / 2 ^ (xn % 32) : Nat) : Int)))) (evShr ((((((dr_3).drop (xn / 32)).getD k 0 + ((dr_3).drop (xn / 32)).getD (k + 1) 0 * 4294967296) / 2 ^ (xn % 32) : Nat) : Int)) rfl rfl (by omega) (shrE (x := ((dr_3).drop (xn / 32)).getD k 0 + ((dr_3).drop (xn / 32)).getD (k + 1) 0 * 4294967296) (s := xn % 32) (by omega) (by omega) (by show _ ≤ 64; omega))) rfl rfl ?_
          refine sEv (v := (.int .u32 (((((((dr_3).drop (xn / 32)).getD k 0 + ((dr_3).drop (xn / 32)).getD (k + 1) 0 * 4294967296) / 2 ^ (xn % 32)) % 4294967296 : Nat) : Int)))) (evConv (((((((dr_3).drop (xn / 32)).getD k 0 + ((dr_3).drop (xn / 32)).getD (k + 1) 0 * 4294967296) / 2 ^ (xn % 32)) % 4294967296 : Nat) : Int)) Try.underlying101 Try.underlying62 rfl (wU32m (by omega))) rfl rfl ?_
          refine sEv (v := (.pointer (some ⟨g20, k, none⟩))) (evIndex k Try.underlying44 sz62 rfl rfl (by omega) (by omega) k (by omega)) rfl rfl ?_
          refine sOp rfl (oStore1 rfl rfl rfl sz62 hB39 (by exact lq) ?_)
          intro w63 hU64 hz65 hB66
          replace hB66 : Blk w63 g20 62 (((P ++ [((((dr_3).drop (xn / 32)).getD k 0 + ((dr_3).drop (xn / 32)).getD (k + 1) 0 * 4294967296) / 2 ^ (xn % 32)) % 4294967296]) ++ List.replicate ((nr_3 - (xn / 32)) - (k + 1)) 0).map u32) := by rw [← (fill_set2 hP (by omega) : (P ++ List.replicate ((nr_3 - (xn / 32)) - k) 0).set k (((((dr_3).drop (xn / 32)).getD k 0 + ((dr_3).drop (xn / 32)).getD (k + 1) 0 * 4294967296) / 2 ^ (xn % 32)) % 4294967296) = (P ++ [((((dr_3).drop (xn / 32)).getD k 0 + ((dr_3).drop (xn / 32)).getD (k + 1) 0 * 4294967296) / 2 ^ (xn % 32)) % 4294967296]) ++ List.replicate ((nr_3 - (xn / 32)) - (k + 1)) 0), List.map_set]; exact hB66
          refine sDone ?_
          refine bN ?_
          refine xN (hK52 _ _ ?_)
          refine wp_region_lit ?_
          refine sEv (v := (.int .i64 (((k : Int)) + 1))) (evAdd (((k : Int)) + 1) rfl rfl (wI64 (by omega))) rfl rfl ?_
          refine sEv (v := (.int .i64 (((k : Int)) + 1))) (rfl) rfl rfl ?_
          refine sDone ?_
          have h67 := (h54.frmB hU64 q3)
          refine again ((nr_3 - (xn / 32)) - (k + 1)) (by omega) ⟨(k + 1), (P ++ [((((dr_3).drop (xn / 32)).getD k 0 + ((dr_3).drop (xn / 32)).getD (k + 1) 0 * 4294967296) / 2 ^ (xn % 32)) % 4294967296]), rfl, rfl, rfl, rfl, rfl, rfl, (congrArg (Value.int .i64) (by omega)), (hF38.trans hU64), ?_, ?_, ?_, ?_, ?_⟩
          · exact hB66
          · omega
          · simp [hP]
          · exact lt_snoc hlt (by omega)
          · exact shr_step h67.2 (by omega) hw hP rfl
        · refine sEv (v := (.bool false)) (evLss false rfl rfl (dF hc61)) rfl rfl ?_
          refine sDone ?_
          refine xN (hK60 _ _ ?_)
          refine cF rfl ?_
          refine wp_skip ?_
          refine xN (hK59 _ _ ?_)
          refine wp_region_lit ?_
          refine sEv (v := (.slice (some ⟨g20, 0, none⟩) (nr_3 - (xn / 32)) (nr_3 - (xn / 32)))) (rfl) rfl rfl ?_
          refine sEv (v := (.int .i64 ((k : Int)))) (rfl) rfl rfl ?_
          refine sEv (v := (.int .u64 (((((dr_3).drop (xn / 32)).getD k 0 : Nat) : Int)))) (rfl) rfl rfl ?_
          refine sEv (v := (.int .u64 (((xn % 32 : Nat) : Int)))) (rfl) rfl rfl ?_
          refine sEv (v := (.int .u64 ((((((dr_3).drop (xn / 32)).getD k 0) / 2 ^ (xn % 32) : Nat) : Int)))) (evShr ((((((dr_3).drop (xn / 32)).getD k 0) / 2 ^ (xn % 32) : Nat) : Int)) rfl rfl (by omega) (shrE (x := ((dr_3).drop (xn / 32)).getD k 0) (s := xn % 32) (by omega) (by omega) (by show _ ≤ 64; omega))) rfl rfl ?_
          refine sEv (v := (.int .u32 (((((((dr_3).drop (xn / 32)).getD k 0) / 2 ^ (xn % 32)) % 4294967296 : Nat) : Int)))) (evConv (((((((dr_3).drop (xn / 32)).getD k 0) / 2 ^ (xn % 32)) % 4294967296 : Nat) : Int)) Try.underlying101 Try.underlying62 rfl (wU32m (by omega))) rfl rfl ?_
          refine sEv (v := (.pointer (some ⟨g20, k, none⟩))) (evIndex k Try.underlying44 sz62 rfl rfl (by omega) (by omega) k (by omega)) rfl rfl ?_
          refine sOp rfl (oStore1 rfl rfl rfl sz62 hB39 (by exact lq) ?_)
          intro w68 hU69 hz70 hB71
          replace hB71 : Blk w68 g20 62 (((P ++ [((((dr_3).drop (xn / 32)).getD k 0) / 2 ^ (xn % 32)) % 4294967296]) ++ List.replicate ((nr_3 - (xn / 32)) - (k + 1)) 0).map u32) := by rw [← (fill_set2 hP (by omega) : (P ++ List.replicate ((nr_3 - (xn / 32)) - k) 0).set k (((((dr_3).drop (xn / 32)).getD k 0) / 2 ^ (xn % 32)) % 4294967296) = (P ++ [((((dr_3).drop (xn / 32)).getD k 0) / 2 ^ (xn % 32)) % 4294967296]) ++ List.replicate ((nr_3 - (xn / 32)) - (k + 1)) 0), List.map_set]; exact hB71
          refine sDone ?_
          refine bN ?_
          refine xN (hK52 _ _ ?_)
          refine wp_region_lit ?_
          refine sEv (v := (.int .i64 (((k : Int)) + 1))) (evAdd (((k : Int)) + 1) rfl rfl (wI64 (by omega))) rfl rfl ?_
          refine sEv (v := (.int .i64 (((k : Int)) + 1))) (rfl) rfl rfl ?_
          refine sDone ?_
          have h72 := (h54.frmB hU69 q3)
          refine again ((nr_3 - (xn / 32)) - (k + 1)) (by omega) ⟨(k + 1), (P ++ [((((dr_3).drop (xn / 32)).getD k 0) / 2 ^ (xn % 32)) % 4294967296]), rfl, rfl, rfl, rfl, rfl, rfl, (congrArg (Value.int .i64) (by omega)), (hF38.trans hU69), ?_, ?_, ?_, ?_, ?_⟩
          · exact hB71
          · omega
          · simp [hP]
          · exact lt_snoc hlt (by omega)
          · exact shr_step h72.2 (by omega) hw hP (by rw [getD_ge (ds := (dr_3).drop (xn / 32)) (n := (nr_3 - (xn / 32))) (by exact lq) (k + 1) (by omega), Nat.zero_mul, Nat.add_zero])
      · refine sEv (v := (.bool false)) (evLss false rfl rfl (dF hc50)) rfl rfl ?_
        refine sDone ?_
        refine xN (hK49 _ _ ?_)
        refine wp_seq_k fun K73 hK73 => ?_
        refine cF rfl ?_
        refine wp_exit (xE (xE (bE ?_)))
        refine xN (hK27 _ _ ?_)
        refine wp_seq_k fun K74 hK74 => ?_
        refine wp_region_lit ?_
        refine sEv (v := (.slice (some ⟨g20, 0, none⟩) (nr_3 - (xn / 32)) (nr_3 - (xn / 32)))) (rfl) rfl rfl ?_
        have h75 : NatR w31 (fun b => b = g20) (some ⟨g20, 0, none⟩) (nr_3 - (xn / 32)) (nr_3 - (xn / 32)) (P ++ List.replicate ((nr_3 - (xn / 32)) - k) 0) := NatR.of_blk hB39 rfl (lt_fill hlt) (by exact lq) (by omega) (by unfold CapMax; omega)
        refine sOp rfl (oCall rfl call99 (natural_trim h75) rfl ?_)
        rintro _ w77 ⟨Ar_76, nr_76, cr_76, dr_76, rfl, hE78, hr_76, e_76, le_76⟩
        have hz79 := hE78.size
        have lr_76 := hr_76.len; have kr_76 := hr_76.cap; have mr_76 := hr_76.max
        refine sEv (v := (.slice Ar_76 nr_76 cr_76)) (rfl) rfl rfl ?_
        refine sDone ?_
        refine xN (hK74 _ _ ?_)
        refine wp_ret ?_
        refine ret1 (.slice Ar_76 nr_76 cr_76) Try.results132 (resT rfl) ?_
        exact ⟨Ar_76, nr_76, cr_76, dr_76, rfl, (Frm.mono ((((Frm.of_ext (G := fun b => (b = g20)) hE5).trans (Frm.of_ext (G := fun b => (b = g20)) hE23)).trans hF38).trans (Frm.of_ext (G := fun b => (b = g20)) hE78)) q4), (NatR.sub hr_76 q5), (by rw [e_76, val_trim, shr_end (n := xn) hr_3.2 rfl hw (by simp; omega) (by omega), e_3, val_trim]), (by rw [e_76]; exact canon_trim _ _), (by omega)⟩

end Go.Proofs.Ytppegjbdencefaa
