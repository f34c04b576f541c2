/-
  Walks of package natural: division by a digit; of math/bits: Div32, Len32, LeadingZeros32.
-/
import Derived.Test.YtppegjbdencefaaNat4
import Derived.Test.YtppegjbdencefaaDivMath
namespace Go.Proofs.Ytppegjbdencefaa
open Go.RowKit Go.Gx
theorem bits_Div32 {w : World} {x1 : Nat} {x2 : Nat} {x3 : Nat} (b1 : x1 < 4294967296) (b2 : x2 < 4294967296) (b3 : x3 < 4294967296) (hlt : x1 < x3) : Calls Try.prog 134 #[(.int .u32 ((x1 : Int))), (.int .u32 ((x2 : Int))), (.int .u32 ((x3 : Int)))] w (Ret fun v w' => ∃ (xq : Nat) (xm : Nat), v = (.tuple #[(.int .u32 ((xq : Int))), (.int .u32 ((xm : Int)))]) ∧ Ext w w' ∧ xq < 4294967296 ∧ xm < 4294967296 ∧ (xq * x3 + xm = x1 * 4294967296 + x2) ∧ (xm < x3)) := by
  refine enter Try.func134 rfl Try.ntmps134 rfl ?_
  have hq := div32_lt hlt b2; have hm := Nat.mod_lt (x1 * 4294967296 + x2) (show 0 < x3 by omega)
  refine wp_seq_k fun K1 hK1 => ?_
  refine wp_region_lit ?_
  refine sEv (v := (.int .u32 (0))) (rfl) rfl rfl ?_
  refine sEv (v := (.int .u32 (0))) (rfl) rfl rfl ?_
  refine sDone ?_
  refine xN (hK1 _ _ ?_)
  refine wp_seq_k fun K2 hK2 => ?_
  refine wp_seq_k fun K3 hK3 => ?_
  refine wp_region_lit ?_
  refine sEv (v := (.int .u32 ((x3 : Int)))) (rfl) rfl rfl ?_
  refine sEv (v := (.bool true)) (evNeq true rfl rfl (dT (by omega))) rfl rfl ?_
  refine sEv (v := (.bool true)) (rfl) rfl rfl ?_
  refine sEv (v := (.int .u32 ((x3 : Int)))) (rfl) rfl rfl ?_
  refine sEv (v := (.int .u32 ((x1 : Int)))) (rfl) rfl rfl ?_
  refine sEv (v := (.bool false)) (evLeq false rfl rfl (dF (by omega))) rfl rfl ?_
  refine sEv (v := (.bool false)) (rfl) rfl rfl ?_
  refine sDone ?_
  refine xN (hK3 _ _ ?_)
  refine cF rfl ?_
  refine wp_skip ?_
  refine xN (hK2 _ _ ?_)
  refine wp_seq_k fun K4 hK4 => ?_
  refine wp_region_lit ?_
  refine sEv (v := (.int .u32 ((x1 : Int)))) (rfl) rfl rfl ?_
  refine sEv (v := (.int .u64 ((x1 : Int)))) (evConv _ Try.underlying62 Try.underlying101 rfl (wU64 (by omega))) rfl rfl ?_
  refine sEv (v := (.int .u64 (((x1 * 4294967296 : Nat) : Int)))) (evShl (((x1 * 4294967296 : Nat) : Int)) rfl rfl (by omega) (shlE64u (x := x1) (s := 32) (by omega) (by omega) (by omega) (by omega))) rfl rfl ?_
  refine sEv (v := (.int .u32 ((x2 : Int)))) (rfl) rfl rfl ?_
  refine sEv (v := (.int .u64 ((x2 : Int)))) (evConv _ Try.underlying62 Try.underlying101 rfl (wU64 (by omega))) rfl rfl ?_
  refine sEv (v := (.int .u64 (((x1 * 4294967296 + x2 : Nat) : Int)))) (evOr64 rfl rfl (by omega) (by omega) (by rw [Nat.mul_comm x1]; exact or_nat x1 x2 32 (by omega))) rfl rfl ?_
  refine sEv (v := (.int .u64 (((x1 * 4294967296 + x2 : Nat) : Int)))) (rfl) rfl rfl ?_
  refine sDone ?_
  refine xN (hK4 _ _ ?_)
  refine wp_seq_k fun K5 hK5 => ?_
  refine dBegin (fun _ => False) mixed ?_
  intro w6 hE7 hz8
  refine dEv 0 rfl (v := (.int .u64 (((x1 * 4294967296 + x2 : Nat) : Int)))) (fun _ _ => rfl) rfl rfl (by kernel_rfl) ?_
  refine dEv 1 rfl (v := (.int .u32 ((x3 : Int)))) (fun _ _ => rfl) rfl rfl (by kernel_rfl) ?_
  refine dEv 2 rfl (v := (.int .u64 ((x3 : Int)))) (fun _ _ => evConv _ Try.underlying62 Try.underlying101 rfl (wU64 (by omega))) rfl rfl (by kernel_rfl) ?_
  refine dEv 3 rfl (v := (.int .u64 ((((x1 * 4294967296 + x2) / x3 : Nat) : Int)))) (fun _ _ => evQuo ((((x1 * 4294967296 + x2) / x3 : Nat) : Int)) rfl rfl (by omega) (quoEu64 (by omega) (by omega) (by omega))) rfl rfl (by kernel_rfl) ?_
  refine dEv 4 rfl (v := (.int .u32 (((((x1 * 4294967296 + x2) / x3) % 4294967296 : Nat) : Int)))) (fun _ _ => evConv (((((x1 * 4294967296 + x2) / x3) % 4294967296 : Nat) : Int)) Try.underlying101 Try.underlying62 rfl (wU32m (by omega))) rfl rfl (by kernel_rfl) ?_
  refine dEv 5 rfl (v := (.int .u64 (((x1 * 4294967296 + x2 : Nat) : Int)))) (fun _ _ => rfl) rfl rfl (by kernel_rfl) ?_
  refine dEv 6 rfl (v := (.int .u32 ((x3 : Int)))) (fun _ _ => rfl) rfl rfl (by kernel_rfl) ?_
  refine dEv 7 rfl (v := (.int .u64 ((x3 : Int)))) (fun _ _ => evConv _ Try.underlying62 Try.underlying101 rfl (wU64 (by omega))) rfl rfl (by kernel_rfl) ?_
  refine dEv 8 rfl (v := (.int .u64 ((((x1 * 4294967296 + x2) % x3 : Nat) : Int)))) (fun _ _ => evRem ((((x1 * 4294967296 + x2) % x3 : Nat) : Int)) rfl rfl (by omega) (remE (by omega) (by omega))) rfl rfl (by kernel_rfl) ?_
  refine dEv 9 rfl (v := (.int .u32 (((((x1 * 4294967296 + x2) % x3) % 4294967296 : Nat) : Int)))) (fun _ _ => evConv (((((x1 * 4294967296 + x2) % x3) % 4294967296 : Nat) : Int)) Try.underlying101 Try.underlying62 rfl (wU32m (by omega))) rfl rfl (by kernel_rfl) ?_
  refine dEv 10 rfl (v := (.int .u32 (((((x1 * 4294967296 + x2) / x3) % 4294967296 : Nat) : Int)))) (fun _ _ => rfl) rfl rfl (by kernel_rfl) ?_
  refine dEv 11 rfl (v := (.int .u32 (((((x1 * 4294967296 + x2) % x3) % 4294967296 : Nat) : Int)))) (fun _ _ => rfl) rfl rfl (by kernel_rfl) ?_
  refine dDone (by kernel_rfl) ?_
  refine xN (hK5 _ _ ?_)
  refine wp_ret ?_
  refine ret2 (.int .u32 (((((x1 * 4294967296 + x2) / x3) % 4294967296 : Nat) : Int))) (.int .u32 (((((x1 * 4294967296 + x2) % x3) % 4294967296 : Nat) : Int))) Try.results134 (resT rfl) (resT rfl) ?_
  have hde := div32_e (X := x1 * 4294967296 + x2) (z := x3) (by omega) b3 hq rfl rfl
  exact ⟨(((x1 * 4294967296 + x2) / x3) % 4294967296), (((x1 * 4294967296 + x2) % x3) % 4294967296), rfl, hE7, (by omega), (by omega), hde.1, hde.2⟩

theorem bits_Len32 {w : World} {x1 : Nat} (b1 : x1 < 4294967296)  : Calls Try.prog 135 #[(.int .u32 ((x1 : Int)))] w (Ret fun v w' => ∃ (xr : Nat), v = (.int .i64 ((xr : Int))) ∧ Ext w w' ∧ xr ≤ 9223372036854775807 ∧ (x1 < 2 ^ xr) ∧ (x1 = 0 ∨ 2 ^ (xr - 1) ≤ x1) ∧ (xr ≤ 32)) := by
  refine enter Try.func135 rfl Try.ntmps135 rfl ?_
  refine wp_seq_k fun K1 hK1 => ?_
  refine wp_region_lit ?_
  refine sEv (v := (.int .i64 (0))) (rfl) rfl rfl ?_
  refine sDone ?_
  refine xN (hK1 _ _ ?_)
  refine wp_seq_k fun K2 hK2 => ?_
  refine wp_seq_k fun K3 hK3 => ?_
  refine wp_region_lit ?_
  refine sEv (v := (.int .u32 ((x1 : Int)))) (rfl) rfl rfl ?_
  by_cases hc4 : ((x1 : Int)) ≥ 65536
  · refine sEv (v := (.bool true)) (evGeq true rfl rfl (dT hc4)) rfl rfl ?_
    refine sDone ?_
    refine xN (hK3 _ _ ?_)
    refine cT rfl ?_
    refine wp_seq_k fun K5 hK5 => ?_
    refine wp_region_lit ?_
    refine sEv (v := (.int .u32 ((x1 : Int)))) (rfl) rfl rfl ?_
    refine sEv (v := (.int .u32 (((x1 / 2 ^ 16 : Nat) : Int)))) (evShr (((x1 / 2 ^ 16 : Nat) : Int)) rfl rfl (by omega) (shrE (x := x1) (s := 16) (by omega) (by omega) (by show _ ≤ 32; omega))) rfl rfl ?_
    refine sEv (v := (.int .u32 (((x1 / 2 ^ 16 : Nat) : Int)))) (rfl) rfl rfl ?_
    refine sDone ?_
    refine xN (hK5 _ _ ?_)
    refine wp_region_lit ?_
    refine sEv (v := (.int .i64 (16))) (rfl) rfl rfl ?_
    refine sDone ?_
    refine xN (hK2 _ _ ?_)
    refine wp_seq_k fun K6 hK6 => ?_
    refine wp_seq_k fun K7 hK7 => ?_
    refine wp_region_lit ?_
    refine sEv (v := (.int .u32 (((x1 / 2 ^ 16 : Nat) : Int)))) (rfl) rfl rfl ?_
    by_cases hc8 : (((x1 / 2 ^ 16 : Nat) : Int)) ≥ 256
    · refine sEv (v := (.bool true)) (evGeq true rfl rfl (dT hc8)) rfl rfl ?_
      refine sDone ?_
      refine xN (hK7 _ _ ?_)
      refine cT rfl ?_
      refine wp_seq_k fun K9 hK9 => ?_
      refine wp_region_lit ?_
      refine sEv (v := (.int .u32 (((x1 / 2 ^ 16 : Nat) : Int)))) (rfl) rfl rfl ?_
      refine sEv (v := (.int .u32 ((((x1 / 2 ^ 16) / 2 ^ 8 : Nat) : Int)))) (evShr ((((x1 / 2 ^ 16) / 2 ^ 8 : Nat) : Int)) rfl rfl (by omega) (shrE (x := x1 / 2 ^ 16) (s := 8) (by omega) (by omega) (by show _ ≤ 32; omega))) rfl rfl ?_
      refine sEv (v := (.int .u32 ((((x1 / 2 ^ 16) / 2 ^ 8 : Nat) : Int)))) (rfl) rfl rfl ?_
      refine sDone ?_
      refine xN (hK9 _ _ ?_)
      refine wp_region_lit ?_
      refine sEv (v := (.int .i64 (16))) (rfl) rfl rfl ?_
      refine sEv (v := (.int .i64 (24))) (evAdd 24 rfl rfl (wI64 (by omega))) rfl rfl ?_
      refine sEv (v := (.int .i64 (24))) (rfl) rfl rfl ?_
      refine sDone ?_
      refine xN (hK6 _ _ ?_)
      refine wp_seq_k fun K10 hK10 => ?_
      refine wp_region_lit ?_
      refine sEv (v := (.int .i64 (24))) (rfl) rfl rfl ?_
      refine sEv (v := (.int .u32 ((((x1 / 2 ^ 16) / 2 ^ 8 : Nat) : Int)))) (rfl) rfl rfl ?_
      refine sEv (v := (.int .u8 ((((x1 / 2 ^ 16) / 2 ^ 8 : Nat) : Int)))) (evConv _ Try.underlying62 Try.underlying5 rfl (wU8 (by omega))) rfl rfl ?_
      refine sEv (v := (.int .u8 (((bl8 ((x1 / 2 ^ 16) / 2 ^ 8) : Nat) : Int)))) (evTab ((x1 / 2 ^ 16) / 2 ^ 8) Try.underlying9 rfl (by kernel_rfl) rfl (by omega) (by omega)) rfl rfl ?_
      have hb8 := (bl8_spec (x := (x1 / 2 ^ 16) / 2 ^ 8) (by omega)).2.2.1
      refine sEv (v := (.int .i64 (((bl8 ((x1 / 2 ^ 16) / 2 ^ 8) : Nat) : Int)))) (evConv _ Try.underlying5 Try.underlying3 rfl (wI64 (by omega))) rfl rfl ?_
      refine sEv (v := (.int .i64 (24 + (((bl8 ((x1 / 2 ^ 16) / 2 ^ 8) : Nat) : Int))))) (evAdd (24 + (((bl8 ((x1 / 2 ^ 16) / 2 ^ 8) : Nat) : Int))) rfl rfl (wI64 (by omega))) rfl rfl ?_
      refine sEv (v := (.int .i64 (24 + (((bl8 ((x1 / 2 ^ 16) / 2 ^ 8) : Nat) : Int))))) (rfl) rfl rfl ?_
      refine sDone ?_
      refine xN (hK10 _ _ ?_)
      refine wp_ret ?_
      refine ret1 (.int .i64 (((24 + (bl8 ((x1 / 2 ^ 16) / 2 ^ 8)) : Nat) : Int))) Try.results135 (resT (congrArg (Value.int .i64) (by omega))) ?_
      have hls := len_sh (x := x1) (s := 24) (y := (x1 / 2 ^ 16) / 2 ^ 8) (n := 24 + (bl8 ((x1 / 2 ^ 16) / 2 ^ 8))) (by rw [Nat.div_div_eq_div_mul]) (by omega) (by omega) (by omega)
      exact ⟨(24 + (bl8 ((x1 / 2 ^ 16) / 2 ^ 8))), rfl, (Frm.refl _ _), (by omega), hls.1, hls.2.1, (by omega)⟩
    · refine sEv (v := (.bool false)) (evGeq false rfl rfl (dF hc8)) rfl rfl ?_
      refine sDone ?_
      refine xN (hK7 _ _ ?_)
      refine cF rfl ?_
      refine wp_skip ?_
      refine xN (hK6 _ _ ?_)
      refine wp_seq_k fun K11 hK11 => ?_
      refine wp_region_lit ?_
      refine sEv (v := (.int .i64 (16))) (rfl) rfl rfl ?_
      refine sEv (v := (.int .u32 (((x1 / 2 ^ 16 : Nat) : Int)))) (rfl) rfl rfl ?_
      refine sEv (v := (.int .u8 (((x1 / 2 ^ 16 : Nat) : Int)))) (evConv _ Try.underlying62 Try.underlying5 rfl (wU8 (by omega))) rfl rfl ?_
      refine sEv (v := (.int .u8 (((bl8 (x1 / 2 ^ 16) : Nat) : Int)))) (evTab (x1 / 2 ^ 16) Try.underlying9 rfl (by kernel_rfl) rfl (by omega) (by omega)) rfl rfl ?_
      have hb8 := (bl8_spec (x := x1 / 2 ^ 16) (by omega)).2.2.1
      refine sEv (v := (.int .i64 (((bl8 (x1 / 2 ^ 16) : Nat) : Int)))) (evConv _ Try.underlying5 Try.underlying3 rfl (wI64 (by omega))) rfl rfl ?_
      refine sEv (v := (.int .i64 (16 + (((bl8 (x1 / 2 ^ 16) : Nat) : Int))))) (evAdd (16 + (((bl8 (x1 / 2 ^ 16) : Nat) : Int))) rfl rfl (wI64 (by omega))) rfl rfl ?_
      refine sEv (v := (.int .i64 (16 + (((bl8 (x1 / 2 ^ 16) : Nat) : Int))))) (rfl) rfl rfl ?_
      refine sDone ?_
      refine xN (hK11 _ _ ?_)
      refine wp_ret ?_
      refine ret1 (.int .i64 (((16 + (bl8 (x1 / 2 ^ 16)) : Nat) : Int))) Try.results135 (resT (congrArg (Value.int .i64) (by omega))) ?_
      have hls := len_sh (x := x1) (s := 16) (y := x1 / 2 ^ 16) (n := 16 + (bl8 (x1 / 2 ^ 16))) rfl (by omega) (by omega) (by omega)
      exact ⟨(16 + (bl8 (x1 / 2 ^ 16))), rfl, (Frm.refl _ _), (by omega), hls.1, hls.2.1, (by omega)⟩
  · refine sEv (v := (.bool false)) (evGeq false rfl rfl (dF hc4)) rfl rfl ?_
    refine sDone ?_
    refine xN (hK3 _ _ ?_)
    refine cF rfl ?_
    refine wp_skip ?_
    refine xN (hK2 _ _ ?_)
    refine wp_seq_k fun K12 hK12 => ?_
    refine wp_seq_k fun K13 hK13 => ?_
    refine wp_region_lit ?_
    refine sEv (v := (.int .u32 ((x1 : Int)))) (rfl) rfl rfl ?_
    by_cases hc14 : ((x1 : Int)) ≥ 256
    · refine sEv (v := (.bool true)) (evGeq true rfl rfl (dT hc14)) rfl rfl ?_
      refine sDone ?_
      refine xN (hK13 _ _ ?_)
      refine cT rfl ?_
      refine wp_seq_k fun K15 hK15 => ?_
      refine wp_region_lit ?_
      refine sEv (v := (.int .u32 ((x1 : Int)))) (rfl) rfl rfl ?_
      refine sEv (v := (.int .u32 (((x1 / 2 ^ 8 : Nat) : Int)))) (evShr (((x1 / 2 ^ 8 : Nat) : Int)) rfl rfl (by omega) (shrE (x := x1) (s := 8) (by omega) (by omega) (by show _ ≤ 32; omega))) rfl rfl ?_
      refine sEv (v := (.int .u32 (((x1 / 2 ^ 8 : Nat) : Int)))) (rfl) rfl rfl ?_
      refine sDone ?_
      refine xN (hK15 _ _ ?_)
      refine wp_region_lit ?_
      refine sEv (v := (.int .i64 (0))) (rfl) rfl rfl ?_
      refine sEv (v := (.int .i64 (8))) (evAdd 8 rfl rfl (wI64 (by omega))) rfl rfl ?_
      refine sEv (v := (.int .i64 (8))) (rfl) rfl rfl ?_
      refine sDone ?_
      refine xN (hK12 _ _ ?_)
      refine wp_seq_k fun K16 hK16 => ?_
      refine wp_region_lit ?_
      refine sEv (v := (.int .i64 (8))) (rfl) rfl rfl ?_
      refine sEv (v := (.int .u32 (((x1 / 2 ^ 8 : Nat) : Int)))) (rfl) rfl rfl ?_
      refine sEv (v := (.int .u8 (((x1 / 2 ^ 8 : Nat) : Int)))) (evConv _ Try.underlying62 Try.underlying5 rfl (wU8 (by omega))) rfl rfl ?_
      refine sEv (v := (.int .u8 (((bl8 (x1 / 2 ^ 8) : Nat) : Int)))) (evTab (x1 / 2 ^ 8) Try.underlying9 rfl (by kernel_rfl) rfl (by omega) (by omega)) rfl rfl ?_
      have hb8 := (bl8_spec (x := x1 / 2 ^ 8) (by omega)).2.2.1
      refine sEv (v := (.int .i64 (((bl8 (x1 / 2 ^ 8) : Nat) : Int)))) (evConv _ Try.underlying5 Try.underlying3 rfl (wI64 (by omega))) rfl rfl ?_
      refine sEv (v := (.int .i64 (8 + (((bl8 (x1 / 2 ^ 8) : Nat) : Int))))) (evAdd (8 + (((bl8 (x1 / 2 ^ 8) : Nat) : Int))) rfl rfl (wI64 (by omega))) rfl rfl ?_
      refine sEv (v := (.int .i64 (8 + (((bl8 (x1 / 2 ^ 8) : Nat) : Int))))) (rfl) rfl rfl ?_
      refine sDone ?_
      refine xN (hK16 _ _ ?_)
      refine wp_ret ?_
      refine ret1 (.int .i64 (((8 + (bl8 (x1 / 2 ^ 8)) : Nat) : Int))) Try.results135 (resT (congrArg (Value.int .i64) (by omega))) ?_
      have hls := len_sh (x := x1) (s := 8) (y := x1 / 2 ^ 8) (n := 8 + (bl8 (x1 / 2 ^ 8))) rfl (by omega) (by omega) (by omega)
      exact ⟨(8 + (bl8 (x1 / 2 ^ 8))), rfl, (Frm.refl _ _), (by omega), hls.1, hls.2.1, (by omega)⟩
    · refine sEv (v := (.bool false)) (evGeq false rfl rfl (dF hc14)) rfl rfl ?_
      refine sDone ?_
      refine xN (hK13 _ _ ?_)
      refine cF rfl ?_
      refine wp_skip ?_
      refine xN (hK12 _ _ ?_)
      refine wp_seq_k fun K17 hK17 => ?_
      refine wp_region_lit ?_
      refine sEv (v := (.int .i64 (0))) (rfl) rfl rfl ?_
      refine sEv (v := (.int .u32 ((x1 : Int)))) (rfl) rfl rfl ?_
      refine sEv (v := (.int .u8 ((x1 : Int)))) (evConv _ Try.underlying62 Try.underlying5 rfl (wU8 (by omega))) rfl rfl ?_
      refine sEv (v := (.int .u8 (((bl8 x1 : Nat) : Int)))) (evTab x1 Try.underlying9 rfl (by kernel_rfl) rfl (by omega) (by omega)) rfl rfl ?_
      have hb8 := (bl8_spec (x := x1) (by omega)).2.2.1
      refine sEv (v := (.int .i64 (((bl8 x1 : Nat) : Int)))) (evConv _ Try.underlying5 Try.underlying3 rfl (wI64 (by omega))) rfl rfl ?_
      refine sEv (v := (.int .i64 (0 + (((bl8 x1 : Nat) : Int))))) (evAdd (0 + (((bl8 x1 : Nat) : Int))) rfl rfl (wI64 (by omega))) rfl rfl ?_
      refine sEv (v := (.int .i64 (0 + (((bl8 x1 : Nat) : Int))))) (rfl) rfl rfl ?_
      refine sDone ?_
      refine xN (hK17 _ _ ?_)
      refine wp_ret ?_
      refine ret1 (.int .i64 (((0 + (bl8 x1) : Nat) : Int))) Try.results135 (resT (congrArg (Value.int .i64) (by omega))) ?_
      have hls := len_sh (x := x1) (s := 0) (y := x1) (n := 0 + (bl8 x1)) (by simp) (by omega) (by omega) (by omega)
      exact ⟨(0 + (bl8 x1)), rfl, (Frm.refl _ _), (by omega), hls.1, hls.2.1, (by omega)⟩

theorem bits_LeadingZeros32 {w : World} {x1 : Nat} (b1 : x1 < 4294967296) (h0 : x1 ≠ 0) : Calls Try.prog 127 #[(.int .u32 ((x1 : Int)))] w (Ret fun v w' => ∃ (xr : Nat), v = (.int .i64 ((xr : Int))) ∧ Ext w w' ∧ xr ≤ 9223372036854775807 ∧ (x1 * 2 ^ xr < 4294967296) ∧ (2147483648 ≤ x1 * 2 ^ xr) ∧ (xr ≤ 31)) := by
  refine enter Try.func127 rfl Try.ntmps127 rfl ?_
  refine wp_seq_k fun K1 hK1 => ?_
  refine wp_region_lit ?_
  refine sEv (v := (.int .i64 (0))) (rfl) rfl rfl ?_
  refine sDone ?_
  refine xN (hK1 _ _ ?_)
  refine wp_seq_k fun K2 hK2 => ?_
  refine wp_region_lit ?_
  refine sEv (v := (.int .u32 ((x1 : Int)))) (rfl) rfl rfl ?_
  refine sOp rfl (oCall rfl call135 (bits_Len32 (x1 := x1) (by omega)) rfl ?_)
  rintro _ w4 ⟨xr_3, rfl, hE5, br_3, lt_3, ge_3, le_3⟩
  have hz6 := hE5.size
  refine sEv (v := (.int .i64 (32 - ((xr_3 : Int))))) (evSub (32 - ((xr_3 : Int))) rfl rfl (wI64 (by omega))) rfl rfl ?_
  refine sEv (v := (.int .i64 (32 - ((xr_3 : Int))))) (rfl) rfl rfl ?_
  refine sDone ?_
  refine xN (hK2 _ _ ?_)
  refine wp_ret ?_
  refine ret1 (.int .i64 (((32 - xr_3 : Nat) : Int))) Try.results127 (resT (congrArg (Value.int .i64) (by omega))) ?_
  have hlz := lead_zeros h0 lt_3 ge_3 le_3 (show 32 - xr_3 = 32 - xr_3 by omega)
  exact ⟨(32 - xr_3), rfl, hE5, (by omega), hlz.1, hlz.2.1, hlz.2.2⟩

theorem natural_Uint64 {w : World} {Sa : Nat → Prop} {Aa : Option Addr} {na ca : Nat} {da : List Nat} (ha : NatR w Sa Aa na ca da)  : Calls Try.prog 122 #[(.slice Aa na ca)] w (Ret fun v w' => ∃ (xr : Nat) (gk : Bool), v = (.tuple #[(.int .u64 ((xr : Int))), (.bool gk)]) ∧ Ext w w' ∧ xr < 18446744073709551616 ∧ (na ≤ 2 → xr = val da)) := by
  have la := ha.len; have ka := ha.cap; have ma := ha.max
  replace ha := ha.low
  refine enter Try.func122 rfl Try.ntmps122 rfl ?_
  refine wp_seq_k fun K1 hK1 => ?_
  refine wp_region_lit ?_
  refine sEv (v := (.int .u64 (0))) (rfl) rfl rfl ?_
  refine sEv (v := (.bool false)) (rfl) rfl rfl ?_
  refine sDone ?_
  refine xN (hK1 _ _ ?_)
  refine wp_seq_k fun K2 hK2 => ?_
  refine wp_region_lit ?_
  refine sEv (v := (.slice Aa na ca)) (rfl) rfl rfl ?_
  refine sOp rfl (oCall rfl call99 (natural_trim ha) rfl ?_)
  rintro _ w4 ⟨Ar_3, nr_3, cr_3, dr_3, rfl, hE5, hr_3, e_3, le_3⟩
  have hz6 := hE5.size
  have lr_3 := hr_3.len; have kr_3 := hr_3.cap; have mr_3 := hr_3.max
  refine sEv (v := (.slice Ar_3 nr_3 cr_3)) (rfl) rfl rfl ?_
  refine sDone ?_
  refine xN (hK2 _ _ ?_)
  refine wp_seq_k fun K8 hK8 => ?_
  refine wp_seq_k fun K9 hK9 => ?_
  refine wp_region_lit ?_
  refine sEv (v := (.slice Ar_3 nr_3 cr_3)) (rfl) rfl rfl ?_
  refine sEv (v := (.int .i64 ((nr_3 : Int)))) (evLen Try.underlying44 rfl) rfl rfl ?_
  refine sDone ?_
  refine xN (hK9 _ _ ?_)
  refine wp_block ?_
  refine wp_seq_k fun K10 hK10 => ?_
  refine wp_region_lit ?_
  by_cases hc11 : ((nr_3 : Int)) = 0
  · refine sEv (v := (.bool true)) (evEql true rfl rfl (dT hc11)) rfl rfl ?_
    refine sEv (v := (.bool true)) (rfl) rfl rfl ?_
    refine sDone ?_
    refine xN (hK10 _ _ ?_)
    refine cT rfl ?_
    refine wp_seq_k fun K12 hK12 => ?_
    refine wp_region_lit ?_
    refine sEv (v := (.int .u64 (0))) (rfl) rfl rfl ?_
    refine sEv (v := (.bool true)) (rfl) rfl rfl ?_
    refine sDone ?_
    refine xN (hK12 _ _ ?_)
    refine wp_ret (bR (xR ?_))
    refine ret2 (.int .u64 (0)) (.bool true) Try.results122 (resT rfl) (resT rfl) ?_
    exact ⟨(0), (true), rfl, hE5, (by omega), (fun _ => by rw [← val_trim, ← e_3]; exact ((val2 lr_3).1 (by omega)).symm)⟩
  · refine sEv (v := (.bool false)) (evEql false rfl rfl (dF hc11)) rfl rfl ?_
    refine sEv (v := (.bool false)) (rfl) rfl rfl ?_
    refine sDone ?_
    refine xN (hK10 _ _ ?_)
    refine cF rfl ?_
    refine wp_seq_k fun K13 hK13 => ?_
    refine wp_region_lit ?_
    by_cases hc14 : ((nr_3 : Int)) = 1
    · refine sEv (v := (.bool true)) (evEql true rfl rfl (dT hc14)) rfl rfl ?_
      refine sEv (v := (.bool true)) (rfl) rfl rfl ?_
      refine sDone ?_
      refine xN (hK13 _ _ ?_)
      refine cT rfl ?_
      refine wp_seq_k fun K15 hK15 => ?_
      refine wp_region_lit ?_
      refine sEv (v := (.slice Ar_3 nr_3 cr_3)) (rfl) rfl rfl ?_
      obtain ⟨b16, o17, rfl⟩ := hr_3.base (by omega)
      refine sEv (v := (.pointer (some ⟨b16, o17 + 0, none⟩))) (evIndex 0 Try.underlying44 sz62 rfl rfl (by omega) (by omega) (o17 + 0) (by omega)) rfl rfl ?_
      have hd18 := hr_3.lt 0
      refine sEv (v := (.int .u32 (((dr_3.getD 0 0 : Nat) : Int)))) (evLoad one62 rfl (hr_3.cell (by omega))) rfl rfl ?_
      refine sEv (v := (.int .u64 (((dr_3.getD 0 0 : Nat) : Int)))) (evConv _ Try.underlying62 Try.underlying101 rfl (wU64 (by omega))) rfl rfl ?_
      refine sEv (v := (.int .u64 (((dr_3.getD 0 0 : Nat) : Int)))) (rfl) rfl rfl ?_
      refine sEv (v := (.bool true)) (rfl) rfl rfl ?_
      refine sDone ?_
      refine xN (hK15 _ _ ?_)
      refine wp_ret (bR (xR ?_))
      refine ret2 (.int .u64 (((dr_3.getD 0 0 : Nat) : Int))) (.bool true) Try.results122 (resT rfl) (resT rfl) ?_
      exact ⟨(dr_3.getD 0 0), (true), rfl, hE5, (by omega), (fun _ => by rw [← val_trim, ← e_3]; exact ((val2 lr_3).2.1 (by omega)).symm)⟩
    · refine sEv (v := (.bool false)) (evEql false rfl rfl (dF hc14)) rfl rfl ?_
      refine sEv (v := (.bool false)) (rfl) rfl rfl ?_
      refine sDone ?_
      refine xN (hK13 _ _ ?_)
      refine cF rfl ?_
      refine wp_seq_k fun K19 hK19 => ?_
      refine wp_region_lit ?_
      by_cases hc20 : ((nr_3 : Int)) = 2
      · refine sEv (v := (.bool true)) (evEql true rfl rfl (dT hc20)) rfl rfl ?_
        refine sEv (v := (.bool true)) (rfl) rfl rfl ?_
        refine sDone ?_
        refine xN (hK19 _ _ ?_)
        refine cT rfl ?_
        refine wp_seq_k fun K21 hK21 => ?_
        refine dBegin (fun _ => False) mixed ?_
        intro w22 hE23 hz24
        refine dEv 0 rfl (v := (.slice Ar_3 nr_3 cr_3)) (fun _ _ => rfl) rfl rfl (by kernel_rfl) ?_
        have h25 := (hr_3.ext hE23)
        obtain ⟨b26, o27, rfl⟩ := h25.base (by omega)
        refine dEv 1 rfl (v := (.pointer (some ⟨b26, o27 + 1, none⟩))) (fun _ _ => evIndex 1 Try.underlying44 sz62 rfl rfl (by omega) (by omega) (o27 + 1) (by omega)) rfl rfl (by kernel_rfl) ?_
        have hd28 := h25.lt 1
        refine dEv 2 rfl (v := (.int .u32 (((dr_3.getD 1 0 : Nat) : Int)))) (fun _ hf => evLoad one62 rfl ((h25.ext hf).cell (by omega))) rfl rfl (by kernel_rfl) ?_
        refine dEv 3 rfl (v := (.int .u64 (((dr_3.getD 1 0 : Nat) : Int)))) (fun _ _ => evConv _ Try.underlying62 Try.underlying101 rfl (wU64 (by omega))) rfl rfl (by kernel_rfl) ?_
        refine dEv 4 rfl (v := (.int .u64 (((dr_3.getD 1 0 * 4294967296 : Nat) : Int)))) (fun _ _ => evShl (((dr_3.getD 1 0 * 4294967296 : Nat) : Int)) rfl rfl (by omega) (shlE64u (x := dr_3.getD 1 0) (s := 32) (by omega) (by omega) (by omega) (by omega))) rfl rfl (by kernel_rfl) ?_
        refine dEv 5 rfl (v := (.slice (some ⟨b26, o27, none⟩) nr_3 cr_3)) (fun _ _ => rfl) rfl rfl (by kernel_rfl) ?_
        refine dEv 6 rfl (v := (.pointer (some ⟨b26, o27 + 0, none⟩))) (fun _ _ => evIndex 0 Try.underlying44 sz62 rfl rfl (by omega) (by omega) (o27 + 0) (by omega)) rfl rfl (by kernel_rfl) ?_
        have hd29 := h25.lt 0
        refine dEv 7 rfl (v := (.int .u32 (((dr_3.getD 0 0 : Nat) : Int)))) (fun _ hf => evLoad one62 rfl ((h25.ext hf).cell (by omega))) rfl rfl (by kernel_rfl) ?_
        refine dEv 8 rfl (v := (.int .u64 (((dr_3.getD 0 0 : Nat) : Int)))) (fun _ _ => evConv _ Try.underlying62 Try.underlying101 rfl (wU64 (by omega))) rfl rfl (by kernel_rfl) ?_
        refine dEv 9 rfl (v := (.int .u64 (((dr_3.getD 1 0 * 4294967296 + dr_3.getD 0 0 : Nat) : Int)))) (fun _ _ => evOr64 rfl rfl (by omega) (by omega) (by rw [Nat.mul_comm (dr_3.getD 1 0)]; exact or_nat _ _ 32 (by omega))) rfl rfl (by kernel_rfl) ?_
        refine dEv 10 rfl (v := (.int .u64 (((dr_3.getD 1 0 * 4294967296 + dr_3.getD 0 0 : Nat) : Int)))) (fun _ _ => rfl) rfl rfl (by kernel_rfl) ?_
        refine dEv 11 rfl (v := (.bool true)) (fun _ _ => rfl) rfl rfl (by kernel_rfl) ?_
        refine dDone (by kernel_rfl) ?_
        refine xN (hK21 _ _ ?_)
        refine wp_ret (bR (xR ?_))
        refine ret2 (.int .u64 (((dr_3.getD 1 0 * 4294967296 + dr_3.getD 0 0 : Nat) : Int))) (.bool true) Try.results122 (resT rfl) (resT rfl) ?_
        exact ⟨(dr_3.getD 1 0 * 4294967296 + dr_3.getD 0 0), (true), rfl, (hE5.trans hE23), (by omega), (fun _ => by rw [← val_trim, ← e_3]; exact ((val2 lr_3).2.2 (by omega)).symm)⟩
      · refine sEv (v := (.bool false)) (evEql false rfl rfl (dF hc20)) rfl rfl ?_
        refine sEv (v := (.bool false)) (rfl) rfl rfl ?_
        refine sDone ?_
        refine xN (hK19 _ _ ?_)
        refine cF rfl ?_
        refine wp_skip ?_
        refine bN ?_
        refine xN (hK8 _ _ ?_)
        refine wp_seq_k fun K30 hK30 => ?_
        refine wp_region_lit ?_
        refine sEv (v := (.int .u64 (0))) (rfl) rfl rfl ?_
        refine sEv (v := (.bool false)) (rfl) rfl rfl ?_
        refine sDone ?_
        refine xN (hK30 _ _ ?_)
        refine wp_ret ?_
        refine ret2 (.int .u64 (0)) (.bool false) Try.results122 (resT rfl) (resT rfl) ?_
        exact ⟨(0), (false), rfl, hE5, (by omega), (by omega)⟩

theorem natural_DivSmall {w : World} {Sa : Nat → Prop} {Aa : Option Addr} {na ca : Nat} {da : List Nat} {xd : Nat} (ha : NatR w Sa Aa na ca da) (bd : xd < 4294967296) (hna : na ≤ 1099511627776) (hd : 0 < xd) : Calls Try.prog 126 #[(.slice Aa na ca), (.int .u32 ((xd : Int)))] w (Ret fun v w' => ∃ (Aq : Option Addr) (nq : Nat) (cq : Nat) (dq : List Nat) (xm : Nat) (gk : Bool), v = (.tuple #[(.slice Aq nq cq), (.int .u32 ((xm : Int))), (.bool gk)]) ∧ Ext w w' ∧ NatR w' (fun b => w.heap.size ≤ b) Aq nq cq dq ∧ xm < 4294967296 ∧ (val da = xd * val dq + xm) ∧ (xm < xd) ∧ (Canon isZ dq) ∧ (nq ≤ na)) := by
  have la := ha.len; have ka := ha.cap; have ma := ha.max
  replace ha := ha.low
  refine enter Try.func126 rfl Try.ntmps126 rfl ?_
  refine wp_seq_k fun K1 hK1 => ?_
  refine wp_region_lit ?_
  refine sEv (v := (.slice none 0 0)) (rfl) rfl rfl ?_
  refine sEv (v := (.int .u32 (0))) (rfl) rfl rfl ?_
  refine sEv (v := (.bool false)) (rfl) rfl rfl ?_
  refine sDone ?_
  refine xN (hK1 _ _ ?_)
  refine wp_seq_k fun K2 hK2 => ?_
  refine wp_seq_k fun K3 hK3 => ?_
  refine wp_region_lit ?_
  refine sEv (v := (.int .u32 ((xd : Int)))) (rfl) rfl rfl ?_
  refine sEv (v := (.bool false)) (evEql false rfl rfl (dF (by omega))) rfl rfl ?_
  refine sDone ?_
  refine xN (hK3 _ _ ?_)
  refine cF rfl ?_
  refine wp_skip ?_
  refine xN (hK2 _ _ ?_)
  refine wp_seq_k fun K4 hK4 => ?_
  refine wp_region_lit ?_
  refine sEv (v := (.slice Aa na ca)) (rfl) rfl rfl ?_
  refine sOp rfl (oCall rfl call99 (natural_trim ha) rfl ?_)
  rintro _ w6 ⟨Ar_5, nr_5, cr_5, dr_5, rfl, hE7, hr_5, e_5, le_5⟩
  have hz8 := hE7.size
  have lr_5 := hr_5.len; have kr_5 := hr_5.cap; have mr_5 := hr_5.max
  refine sEv (v := (.slice Ar_5 nr_5 cr_5)) (rfl) rfl rfl ?_
  refine sDone ?_
  refine xN (hK4 _ _ ?_)
  refine wp_seq_k fun K10 hK10 => ?_
  refine wp_region_lit ?_
  refine sEv (v := (.slice Ar_5 nr_5 cr_5)) (rfl) rfl rfl ?_
  refine sEv (v := (.int .i64 ((nr_5 : Int)))) (evLen Try.underlying44 rfl) rfl rfl ?_
  refine sOp rfl (oMake1 nr_5 Try.underlying44 inf62 rfl (congrArg (Value.int .i64) (by omega)) (congrArg (Value.int .i64) (by omega)) (by omega) (by omega) ?_)
  intro g11 w12 hg13 hE14 hz15 hB16
  have hB17 : Blk w12 g11 62 (((List.replicate nr_5 0)).map u32) := by rw [List.map_replicate]; exact hB16
  refine sEv (v := (.slice (some ⟨g11, 0, none⟩) nr_5 nr_5)) (rfl) rfl rfl ?_
  refine sDone ?_
  refine xN (hK10 _ _ ?_)
  refine wp_seq_k fun K18 hK18 => ?_
  refine wp_region_lit ?_
  refine sEv (v := (.int .u32 (0))) (rfl) rfl rfl ?_
  refine sDone ?_
  refine xN (hK18 _ _ ?_)
  refine wp_seq_k fun K19 hK19 => ?_
  refine wp_seq_k fun K20 hK20 => ?_
  refine wp_region_lit ?_
  refine sEv (v := (.slice Ar_5 nr_5 cr_5)) (rfl) rfl rfl ?_
  refine sEv (v := (.int .i64 ((nr_5 : Int)))) (evLen Try.underlying44 rfl) rfl rfl ?_
  refine sEv (v := (.int .i64 (((nr_5 : Int)) - 1))) (evSub (((nr_5 : Int)) - 1) rfl rfl (wI64 (by omega))) rfl rfl ?_
  refine sEv (v := (.int .i64 (((nr_5 : Int)) - 1))) (rfl) rfl rfl ?_
  refine sDone ?_
  refine xN (hK20 _ _ ?_)
  refine wp_block ?_
  refine lLoop (fun m e w_ => ∃ (k : Nat) (Q : List Nat) (rs : Nat), m = k ∧ e 0 = (.slice Ar_5 nr_5 cr_5) ∧ e 1 = (.int .u32 ((xd : Int))) ∧ e 7 = (.slice (some ⟨g11, 0, none⟩) nr_5 nr_5) ∧ e 8 = (.int .u32 ((rs : Int))) ∧ e 9 = (.int .i64 ((k : Int) - 1)) ∧ Frm (fun b => b = g11) w12 w_ ∧ Blk w_ g11 62 ((List.replicate k 0 ++ Q).map u32) ∧ (k ≤ nr_5) ∧ (Q.length = nr_5 - k) ∧ (∀ d ∈ Q, d < BS) ∧ (rs < xd) ∧ (val (dr_5.drop k) = xd * val Q + rs)) ((nr_5)) ?_ ?_
  · refine ⟨(nr_5), ([]), (0), rfl, rfl, rfl, rfl, (congrArg (Value.int .u32) (by omega)), (congrArg (Value.int .i64) (by omega)), (Frm.refl _ _), ?_, ?_, ?_, ?_, ?_, ?_⟩
    · simpa using hB17
    · omega
    · simp
    · simp
    · omega
    · rw [List.drop_of_length_le (by omega)]; rfl
  · rintro m21 e31 w22 ⟨k, Q, rs, hm30, hs23, hs24, hs25, hs26, hs27, hF28, hB29, hk, hQ, hQt, hrs, hv⟩
    obtain ⟨r32, rfl⟩ := sq (e := e31) (t := 0) hs23
    obtain ⟨r33, rfl⟩ := sq (e := r32) (t := 1) hs24
    obtain ⟨r34, rfl⟩ := sq (e := r33) (t := 7) hs25
    obtain ⟨r35, rfl⟩ := sq (e := r34) (t := 8) hs26
    obtain ⟨r36, rfl⟩ := sq (e := r35) (t := 9) hs27
    have hz37 := hF28.size
    refine wp_seq_k fun K38 hK38 => ?_
    refine wp_seq_k fun K39 hK39 => ?_
    refine wp_region_lit ?_
    refine sEv (v := (.int .i64 ((k : Int) - 1))) (rfl) rfl rfl ?_
    by_cases hc40 : ((k : Int) - 1) ≥ 0
    · refine sEv (v := (.bool true)) (evGeq true rfl rfl (dT hc40)) rfl rfl ?_
      refine sDone ?_
      refine xN (hK39 _ _ ?_)
      refine cT rfl ?_
      refine wp_skip ?_
      refine xN (hK38 _ _ ?_)
      refine wp_seq_k fun K41 hK41 => ?_
      refine wp_block ?_
      refine wp_region_lit ?_
      refine sEv (v := (.slice (some ⟨g11, 0, none⟩) nr_5 nr_5)) (rfl) rfl rfl ?_
      refine sEv (v := (.int .i64 ((k : Int) - 1))) (rfl) rfl rfl ?_
      refine sEv (v := (.int .u32 ((rs : Int)))) (rfl) rfl rfl ?_
      refine sEv (v := (.slice Ar_5 nr_5 cr_5)) (rfl) rfl rfl ?_
      refine sEv (v := (.int .i64 ((k : Int) - 1))) (rfl) rfl rfl ?_
      have h42 := (hr_5.frmB ((Frm.of_ext (G := fun b => (b = g11)) hE14).trans hF28) q3)
      obtain ⟨b43, o44, rfl⟩ := h42.base (by omega)
      refine sEv (v := (.pointer (some ⟨b43, o44 + (k - 1), none⟩))) (evIndex (k - 1) Try.underlying44 sz62 rfl rfl (by omega) (by omega) (o44 + (k - 1)) (by omega)) rfl rfl ?_
      have hd45 := h42.lt (k - 1)
      refine sEv (v := (.int .u32 (((dr_5.getD (k - 1) 0 : Nat) : Int)))) (evLoad one62 rfl (h42.cell (by omega))) rfl rfl ?_
      refine sEv (v := (.int .u32 ((xd : Int)))) (rfl) rfl rfl ?_
      refine sOp rfl (oCall rfl call134 (bits_Div32 (x1 := rs) (by omega) (x2 := dr_5.getD (k - 1) 0) (by omega) (x3 := xd) (by omega) (by omega)) rfl ?_)
      rintro _ w47 ⟨xq_46, xm_46, rfl, hE48, bq_46, bm_46, e_46, lt_46⟩
      have hz49 := hE48.size
      refine sEv (v := (.tuple #[(.int .u32 ((xq_46 : Int))), (.int .u32 ((xm_46 : Int)))])) (rfl) rfl rfl ?_
      refine sEv (v := (.int .u32 ((xq_46 : Int)))) (rfl) rfl rfl ?_
      refine sEv (v := (.int .u32 ((xm_46 : Int)))) (rfl) rfl rfl ?_
      refine sEv (v := (.pointer (some ⟨g11, k - 1, none⟩))) (evIndex (k - 1) Try.underlying44 sz62 rfl rfl (by omega) (by omega) (k - 1) (by omega)) rfl rfl ?_
      have hB50 := (hB29.ext hE48)
      refine sOp rfl (oStore1 rfl rfl rfl sz62 hB50 (by exact lq) ?_)
      intro w51 hU52 hz53 hB54
      replace hB54 : Blk w51 g11 62 ((List.replicate (k - 1) 0 ++ (xq_46 :: Q)).map u32) := by rw [← (revN_set (by omega) (by omega) : (List.replicate k 0 ++ Q).set (k - 1) xq_46 = List.replicate (k - 1) 0 ++ (xq_46 :: Q)), List.map_set]; exact hB54
      refine sEv (v := (.int .u32 ((xm_46 : Int)))) (rfl) rfl rfl ?_
      refine sDone ?_
      refine bN ?_
      refine xN (hK41 _ _ ?_)
      refine wp_region_lit ?_
      refine sEv (v := (.int .i64 ((k : Int) - 1))) (rfl) rfl rfl ?_
      refine sEv (v := (.int .i64 (((k : Int) - 1) - 1))) (evSub (((k : Int) - 1) - 1) rfl rfl (wI64 (by omega))) rfl rfl ?_
      refine sEv (v := (.int .i64 (((k : Int) - 1) - 1))) (rfl) rfl rfl ?_
      refine sDone ?_
      refine again ((k - 1)) (by omega) ⟨(k - 1), (xq_46 :: Q), (xm_46), rfl, rfl, rfl, rfl, (congrArg (Value.int .u32) (by omega)), (congrArg (Value.int .i64) (by omega)), ((hF28.trans (Frm.of_ext (G := fun b => (b = g11)) hE48)).trans hU52), ?_, ?_, ?_, ?_, ?_, ?_⟩
      · exact hB54
      · omega
      · simp [hQ]; omega
      · exact lt_cons hQt (by omega)
      · omega
      · exact divs_step (by omega) (by omega) hv e_46
    · refine sEv (v := (.bool false)) (evGeq false rfl rfl (dF hc40)) rfl rfl ?_
      refine sDone ?_
      refine xN (hK39 _ _ ?_)
      refine cF rfl ?_
      refine wp_exit (xE (xE (bE ?_)))
      refine xN (hK19 _ _ ?_)
      refine wp_seq_k fun K55 hK55 => ?_
      refine wp_region_lit ?_
      refine sEv (v := (.slice (some ⟨g11, 0, none⟩) nr_5 nr_5)) (rfl) rfl rfl ?_
      have h56 : NatR w22 (fun b => b = g11) (some ⟨g11, 0, none⟩) nr_5 nr_5 (List.replicate k 0 ++ Q) := NatR.of_blk hB29 rfl (lt_revfill hQt) (by exact lq) (by omega) (by unfold CapMax; omega)
      refine sOp rfl (oCall rfl call99 (natural_trim h56) rfl ?_)
      rintro _ w58 ⟨Ar_57, nr_57, cr_57, dr_57, rfl, hE59, hr_57, e_57, le_57⟩
      have hz60 := hE59.size
      have lr_57 := hr_57.len; have kr_57 := hr_57.cap; have mr_57 := hr_57.max
      refine sEv (v := (.int .u32 ((rs : Int)))) (rfl) rfl rfl ?_
      refine sEv (v := (.slice Ar_57 nr_57 cr_57)) (rfl) rfl rfl ?_
      refine sEv (v := (.int .u32 ((rs : Int)))) (rfl) rfl rfl ?_
      refine sEv (v := (.bool true)) (rfl) rfl rfl ?_
      refine sDone ?_
      refine xN (hK55 _ _ ?_)
      refine wp_ret ?_
      refine ret3 (.slice Ar_57 nr_57 cr_57) (.int .u32 ((rs : Int))) (.bool true) Try.results126 (resT rfl) (resT rfl) (resT rfl) ?_
      exact ⟨Ar_57, nr_57, cr_57, dr_57, (rs), (true), rfl, (Frm.mono ((((Frm.of_ext (G := fun b => (b = g11)) hE7).trans (Frm.of_ext (G := fun b => (b = g11)) hE14)).trans hF28).trans (Frm.of_ext (G := fun b => (b = g11)) hE59)) q4), (NatR.sub hr_57 q5), (by omega), (by rw [e_57, val_trim, show k = 0 by omega, List.replicate_zero, List.nil_append, ← val_trim da, ← e_5, ← hv, show k = 0 by omega, List.drop_zero]), (by omega), (by rw [e_57]; exact canon_trim _ _), (by omega)⟩

end Go.Proofs.Ytppegjbdencefaa
