/-
  Walks of package natural: comparison, sums and differences.
-/
import Derived.Test.YtppegjbdencefaaNat1
import Derived.Test.YtppegjbdencefaaLaws2
namespace Go.Proofs.Ytppegjbdencefaa
open Go.RowKit Go.Gx
theorem bits_Sub32 {w : World} {x1 : Nat} {x2 : Nat} {x3 : Nat} (b1 : x1 < 4294967296) (b2 : x2 < 4294967296) (b3 : x3 < 4294967296) (hc : x3 ≤ 1) : Calls Try.prog 113 #[(.int .u32 ((x1 : Int))), (.int .u32 ((x2 : Int))), (.int .u32 ((x3 : Int)))] w (Ret fun v w' => ∃ (xs : Nat) (xc : Nat), v = (.tuple #[(.int .u32 ((xs : Int))), (.int .u32 ((xc : Int)))]) ∧ Ext w w' ∧ xs < 4294967296 ∧ xc < 4294967296 ∧ (xs + x2 + x3 = x1 + 4294967296 * xc) ∧ (xc ≤ 1)) := by
  refine enter Try.func113 rfl Try.ntmps113 rfl ?_
  refine wp_seq_k fun K1 hK1 => ?_
  refine wp_region_lit ?_
  refine sEv (v := (.int .u32 (0))) (rfl) rfl rfl ?_
  refine sEv (v := (.int .u32 (0))) (rfl) rfl rfl ?_
  refine sDone ?_
  refine xN (hK1 _ _ ?_)
  refine wp_seq_k fun K2 hK2 => ?_
  refine wp_region_lit ?_
  refine sEv (v := (.int .u32 ((x1 : Int)))) (rfl) rfl rfl ?_
  refine sEv (v := (.int .u32 ((x2 : Int)))) (rfl) rfl rfl ?_
  refine sEv (v := (.int .u32 ((((x1 + 4294967296 - x2) % 4294967296 : Nat) : Int)))) (evSub ((((x1 + 4294967296 - x2) % 4294967296 : Nat) : Int)) rfl rfl (wU32m (by omega))) rfl rfl ?_
  refine sEv (v := (.int .u32 ((x3 : Int)))) (rfl) rfl rfl ?_
  refine sEv (v := (.int .u32 ((((x1 + 8589934592 - x2 - x3) % 4294967296 : Nat) : Int)))) (evSub ((((x1 + 8589934592 - x2 - x3) % 4294967296 : Nat) : Int)) rfl rfl (wU32m (by omega))) rfl rfl ?_
  refine sEv (v := (.int .u32 ((((x1 + 8589934592 - x2 - x3) % 4294967296 : Nat) : Int)))) (rfl) rfl rfl ?_
  refine sDone ?_
  refine xN (hK2 _ _ ?_)
  refine wp_seq_k fun K3 hK3 => ?_
  refine wp_region_lit ?_
  refine sEv (v := (.int .u32 ((x1 : Int)))) (rfl) rfl rfl ?_
  refine sEv (v := (.int .u32 ((((~~~ BitVec.ofNat 32 x1).toNat : Nat) : Int)))) (evNot32 rfl) rfl rfl ?_
  refine sEv (v := (.int .u32 ((x2 : Int)))) (rfl) rfl rfl ?_
  refine sEv (v := (.int .u32 ((((BitVec.ofNat 32 ((~~~ BitVec.ofNat 32 x1).toNat) &&& BitVec.ofNat 32 x2).toNat : Nat) : Int)))) (evAnd32 rfl rfl) rfl rfl ?_
  refine sEv (v := (.int .u32 ((x1 : Int)))) (rfl) rfl rfl ?_
  refine sEv (v := (.int .u32 ((x2 : Int)))) (rfl) rfl rfl ?_
  refine sEv (v := (.int .u32 ((((BitVec.ofNat 32 x1 ^^^ BitVec.ofNat 32 x2).toNat : Nat) : Int)))) (evXor32 rfl rfl) rfl rfl ?_
  refine sEv (v := (.int .u32 ((((~~~ BitVec.ofNat 32 ((BitVec.ofNat 32 x1 ^^^ BitVec.ofNat 32 x2).toNat)).toNat : Nat) : Int)))) (evNot32 rfl) rfl rfl ?_
  refine sEv (v := (.int .u32 ((((x1 + 8589934592 - x2 - x3) % 4294967296 : Nat) : Int)))) (rfl) rfl rfl ?_
  refine sEv (v := (.int .u32 ((((BitVec.ofNat 32 ((~~~ BitVec.ofNat 32 ((BitVec.ofNat 32 x1 ^^^ BitVec.ofNat 32 x2).toNat)).toNat) &&& BitVec.ofNat 32 ((x1 + 8589934592 - x2 - x3) % 4294967296)).toNat : Nat) : Int)))) (evAnd32 rfl rfl) rfl rfl ?_
  refine sEv (v := (.int .u32 ((((BitVec.ofNat 32 ((BitVec.ofNat 32 ((~~~ BitVec.ofNat 32 x1).toNat) &&& BitVec.ofNat 32 x2).toNat) ||| BitVec.ofNat 32 ((BitVec.ofNat 32 ((~~~ BitVec.ofNat 32 ((BitVec.ofNat 32 x1 ^^^ BitVec.ofNat 32 x2).toNat)).toNat) &&& BitVec.ofNat 32 ((x1 + 8589934592 - x2 - x3) % 4294967296)).toNat)).toNat : Nat) : Int)))) (evOr32 rfl rfl) rfl rfl ?_
  generalize ht : (BitVec.ofNat 32 ((BitVec.ofNat 32 ((~~~ BitVec.ofNat 32 x1).toNat) &&& BitVec.ofNat 32 x2).toNat) ||| BitVec.ofNat 32 ((BitVec.ofNat 32 ((~~~ BitVec.ofNat 32 ((BitVec.ofNat 32 x1 ^^^ BitVec.ofNat 32 x2).toNat)).toNat) &&& BitVec.ofNat 32 ((x1 + 8589934592 - x2 - x3) % 4294967296)).toNat)).toNat = t
  have hbw := borrow32 b1 b2 hc rfl t ht.symm
  refine sEv (v := (.int .u32 (((t / 2147483648 : Nat) : Int)))) (evShr (((t / 2147483648 : Nat) : Int)) rfl rfl (by omega) (by rw [shr_div 31 rfl 2147483648 rfl (by omega)]; omega)) rfl rfl ?_
  refine sEv (v := (.int .u32 (((t / 2147483648 : Nat) : Int)))) (rfl) rfl rfl ?_
  refine sDone ?_
  refine xN (hK3 _ _ ?_)
  refine wp_ret ?_
  refine ret2 (.int .u32 ((((x1 + 8589934592 - x2 - x3) % 4294967296 : Nat) : Int))) (.int .u32 (((t / 2147483648 : Nat) : Int))) Try.results113 (resT rfl) (resT rfl) ?_
  exact ⟨((x1 + 8589934592 - x2 - x3) % 4294967296), (t / 2147483648), rfl, (Frm.refl _ _), (by omega), (by omega), (by omega), (by omega)⟩

theorem bits_Mul32 {w : World} {x1 : Nat} {x2 : Nat} (b1 : x1 < 4294967296) (b2 : x2 < 4294967296)  : Calls Try.prog 133 #[(.int .u32 ((x1 : Int))), (.int .u32 ((x2 : Int)))] w (Ret fun v w' => ∃ (xh : Nat) (xl : Nat), v = (.tuple #[(.int .u32 ((xh : Int))), (.int .u32 ((xl : Int)))]) ∧ Ext w w' ∧ xh < 4294967296 ∧ xl < 4294967296 ∧ (xl + 4294967296 * xh = x1 * x2)) := by
  refine enter Try.func133 rfl Try.ntmps133 rfl ?_
  have hq2 : x1 * x2 ≤ 18446744065119617025 := mul32_le b1 b2
  refine wp_seq_k fun K1 hK1 => ?_
  refine wp_region_lit ?_
  refine sEv (v := (.int .u32 (0))) (rfl) rfl rfl ?_
  refine sEv (v := (.int .u32 (0))) (rfl) rfl rfl ?_
  refine sDone ?_
  refine xN (hK1 _ _ ?_)
  refine wp_seq_k fun K2 hK2 => ?_
  refine wp_region_lit ?_
  refine sEv (v := (.int .u32 ((x1 : Int)))) (rfl) rfl rfl ?_
  refine sEv (v := (.int .u64 ((x1 : Int)))) (evConv _ Try.underlying62 Try.underlying101 rfl (wU64 (by omega))) rfl rfl ?_
  refine sEv (v := (.int .u32 ((x2 : Int)))) (rfl) rfl rfl ?_
  refine sEv (v := (.int .u64 ((x2 : Int)))) (evConv _ Try.underlying62 Try.underlying101 rfl (wU64 (by omega))) rfl rfl ?_
  refine sEv (v := (.int .u64 (((x1 * x2 : Nat) : Int)))) (evMul (((x1 * x2 : Nat) : Int)) rfl rfl (mulU64 hq2)) rfl rfl ?_
  generalize hq : x1 * x2 = q at *
  refine sEv (v := (.int .u64 ((q : Int)))) (rfl) rfl rfl ?_
  refine sDone ?_
  refine xN (hK2 _ _ ?_)
  refine wp_seq_k fun K3 hK3 => ?_
  refine wp_region_lit ?_
  refine sEv (v := (.int .u64 ((q : Int)))) (rfl) rfl rfl ?_
  refine sEv (v := (.int .u64 (((q / 4294967296 : Nat) : Int)))) (evShr (((q / 4294967296 : Nat) : Int)) rfl rfl (by omega) (by rw [shr_div 32 rfl 4294967296 rfl (by omega)]; omega)) rfl rfl ?_
  refine sEv (v := (.int .u32 ((((q / 4294967296) % 4294967296 : Nat) : Int)))) (evConv ((((q / 4294967296) % 4294967296 : Nat) : Int)) Try.underlying101 Try.underlying62 rfl (wU32m (by omega))) rfl rfl ?_
  refine sEv (v := (.int .u64 ((q : Int)))) (rfl) rfl rfl ?_
  refine sEv (v := (.int .u32 (((q % 4294967296 : Nat) : Int)))) (evConv (((q % 4294967296 : Nat) : Int)) Try.underlying101 Try.underlying62 rfl (wU32m (by omega))) rfl rfl ?_
  refine sEv (v := (.int .u32 ((((q / 4294967296) % 4294967296 : Nat) : Int)))) (rfl) rfl rfl ?_
  refine sEv (v := (.int .u32 (((q % 4294967296 : Nat) : Int)))) (rfl) rfl rfl ?_
  refine sDone ?_
  refine xN (hK3 _ _ ?_)
  refine wp_ret ?_
  refine ret2 (.int .u32 ((((q / 4294967296) % 4294967296 : Nat) : Int))) (.int .u32 (((q % 4294967296 : Nat) : Int))) Try.results133 (resT rfl) (resT rfl) ?_
  exact ⟨((q / 4294967296) % 4294967296), (q % 4294967296), rfl, (Frm.refl _ _), (by omega), (by omega), (by omega)⟩

theorem natural_Cmp {w : World} {Sa : Nat → Prop} {Aa : Option Addr} {na ca : Nat} {da : List Nat} {Sb : Nat → Prop} {Ab : Option Addr} {nb cb : Nat} {db : List Nat} (ha : NatR w Sa Aa na ca da) (hb : NatR w Sb Ab nb cb db)  : Calls Try.prog 76 #[(.slice Aa na ca), (.slice Ab nb cb)] w (Ret fun v w' => ∃ (xr : Int), v = (.int .i64 (xr)) ∧ Ext w w' ∧ (xr = cmpN (val da) (val db))) := by
  have la := ha.len; have ka := ha.cap; have ma := ha.max
  replace ha := ha.low
  have lb := hb.len; have kb := hb.cap; have mb := hb.max
  replace hb := hb.low
  refine enter Try.func76 rfl Try.ntmps76 rfl ?_
  refine wp_seq_k fun K1 hK1 => ?_
  refine wp_region_lit ?_
  refine sEv (v := (.int .i64 (0))) (rfl) rfl rfl ?_
  refine sDone ?_
  refine xN (hK1 _ _ ?_)
  refine wp_seq_k fun K2 hK2 => ?_
  refine wp_region_lit ?_
  refine sEv (v := (.slice Aa na ca)) (rfl) rfl rfl ?_
  refine sOp rfl (oCall rfl call99 (natural_trim ha) rfl ?_)
  rintro _ w4 ⟨Ar_3, nr_3, cr_3, dr_3, rfl, hE5, hr_3, e_3, le_3⟩
  have hz6 := hE5.size
  have lr_3 := hr_3.len; have kr_3 := hr_3.cap; have mr_3 := hr_3.max
  refine sEv (v := (.slice Ab nb cb)) (rfl) rfl rfl ?_
  have h8 := (hb.ext hE5)
  refine sOp rfl (oCall rfl call99 (natural_trim h8) rfl ?_)
  rintro _ w10 ⟨Ar_9, nr_9, cr_9, dr_9, rfl, hE11, hr_9, e_9, le_9⟩
  have hz12 := hE11.size
  have lr_9 := hr_9.len; have kr_9 := hr_9.cap; have mr_9 := hr_9.max
  refine sEv (v := (.slice Ar_3 nr_3 cr_3)) (rfl) rfl rfl ?_
  refine sEv (v := (.slice Ar_9 nr_9 cr_9)) (rfl) rfl rfl ?_
  refine sDone ?_
  refine xN (hK2 _ _ ?_)
  refine wp_seq_k fun K14 hK14 => ?_
  refine wp_block ?_
  refine wp_seq_k fun K15 hK15 => ?_
  refine wp_region_lit ?_
  refine sEv (v := (.slice Ar_3 nr_3 cr_3)) (rfl) rfl rfl ?_
  refine sEv (v := (.int .i64 ((nr_3 : Int)))) (evLen Try.underlying44 rfl) rfl rfl ?_
  refine sEv (v := (.slice Ar_9 nr_9 cr_9)) (rfl) rfl rfl ?_
  refine sEv (v := (.int .i64 ((nr_9 : Int)))) (evLen Try.underlying44 rfl) rfl rfl ?_
  by_cases hc16 : ((nr_3 : Int)) < ((nr_9 : Int))
  · refine sEv (v := (.bool true)) (evLss true rfl rfl (dT hc16)) rfl rfl ?_
    refine sEv (v := (.bool true)) (rfl) rfl rfl ?_
    refine sDone ?_
    refine xN (hK15 _ _ ?_)
    refine cT rfl ?_
    refine wp_seq_k fun K17 hK17 => ?_
    refine wp_region_lit ?_
    refine sEv (v := (.int .i64 ((-1)))) (rfl) rfl rfl ?_
    refine sDone ?_
    refine xN (hK17 _ _ ?_)
    refine wp_ret (bR (xR ?_))
    refine ret1 (.int .i64 ((-1))) Try.results76 (resT rfl) ?_
    exact ⟨((-1)), rfl, (hE5.trans hE11), (cmp_lt e_3 e_9 (canon_len_lt hr_3.2 (by rw [e_9]; exact canon_trim _ _) (by omega)))⟩
  · refine sEv (v := (.bool false)) (evLss false rfl rfl (dF hc16)) rfl rfl ?_
    refine sEv (v := (.bool false)) (rfl) rfl rfl ?_
    refine sDone ?_
    refine xN (hK15 _ _ ?_)
    refine cF rfl ?_
    refine wp_seq_k fun K18 hK18 => ?_
    refine wp_region_lit ?_
    refine sEv (v := (.slice Ar_3 nr_3 cr_3)) (rfl) rfl rfl ?_
    refine sEv (v := (.int .i64 ((nr_3 : Int)))) (evLen Try.underlying44 rfl) rfl rfl ?_
    refine sEv (v := (.slice Ar_9 nr_9 cr_9)) (rfl) rfl rfl ?_
    refine sEv (v := (.int .i64 ((nr_9 : Int)))) (evLen Try.underlying44 rfl) rfl rfl ?_
    by_cases hc19 : ((nr_3 : Int)) > ((nr_9 : Int))
    · refine sEv (v := (.bool true)) (evGtr true rfl rfl (dT hc19)) rfl rfl ?_
      refine sEv (v := (.bool true)) (rfl) rfl rfl ?_
      refine sDone ?_
      refine xN (hK18 _ _ ?_)
      refine cT rfl ?_
      refine wp_seq_k fun K20 hK20 => ?_
      refine wp_region_lit ?_
      refine sEv (v := (.int .i64 (1))) (rfl) rfl rfl ?_
      refine sDone ?_
      refine xN (hK20 _ _ ?_)
      refine wp_ret (bR (xR ?_))
      refine ret1 (.int .i64 (1)) Try.results76 (resT rfl) ?_
      exact ⟨(1), rfl, (hE5.trans hE11), (cmp_gt e_3 e_9 (canon_len_lt hr_9.2 (by rw [e_3]; exact canon_trim _ _) (by omega)))⟩
    · refine sEv (v := (.bool false)) (evGtr false rfl rfl (dF hc19)) rfl rfl ?_
      refine sEv (v := (.bool false)) (rfl) rfl rfl ?_
      refine sDone ?_
      refine xN (hK18 _ _ ?_)
      refine cF rfl ?_
      refine wp_skip ?_
      refine bN ?_
      refine xN (hK14 _ _ ?_)
      refine wp_seq_k fun K21 hK21 => ?_
      refine wp_seq_k fun K22 hK22 => ?_
      refine wp_region_lit ?_
      refine sEv (v := (.slice Ar_3 nr_3 cr_3)) (rfl) rfl rfl ?_
      refine sEv (v := (.int .i64 ((nr_3 : Int)))) (evLen Try.underlying44 rfl) rfl rfl ?_
      refine sEv (v := (.int .i64 (((nr_3 : Int)) - 1))) (evSub (((nr_3 : Int)) - 1) rfl rfl (wI64 (by omega))) rfl rfl ?_
      refine sEv (v := (.int .i64 (((nr_3 : Int)) - 1))) (rfl) rfl rfl ?_
      refine sDone ?_
      refine xN (hK22 _ _ ?_)
      refine wp_block ?_
      refine lLoop (fun m e w_ => ∃ (k : Nat), m = k ∧ e 0 = (.slice Ar_3 nr_3 cr_3) ∧ e 1 = (.slice Ar_9 nr_9 cr_9) ∧ e 5 = (.int .i64 ((k : Int) - 1)) ∧ Frm (fun b => False) w10 w_ ∧ (k ≤ nr_3) ∧ (∀ j, k ≤ j → dr_3.getD j 0 = dr_9.getD j 0)) ((nr_3)) ?_ ?_
      · refine ⟨(nr_3), rfl, rfl, rfl, (congrArg (Value.int .i64) (by omega)), (Frm.refl _ _), ?_, ?_⟩
        · omega
        · exact eq_top (by omega) (by omega)
      · rintro m23 e30 w24 ⟨k, hm29, hs25, hs26, hs27, hF28, hk, heq⟩
        obtain ⟨r31, rfl⟩ := sq (e := e30) (t := 0) hs25
        obtain ⟨r32, rfl⟩ := sq (e := r31) (t := 1) hs26
        obtain ⟨r33, rfl⟩ := sq (e := r32) (t := 5) hs27
        have hz34 := hF28.size
        refine wp_seq_k fun K35 hK35 => ?_
        refine wp_seq_k fun K36 hK36 => ?_
        refine wp_region_lit ?_
        refine sEv (v := (.int .i64 ((k : Int) - 1))) (rfl) rfl rfl ?_
        by_cases hc37 : ((k : Int) - 1) ≥ 0
        · refine sEv (v := (.bool true)) (evGeq true rfl rfl (dT hc37)) rfl rfl ?_
          refine sDone ?_
          refine xN (hK36 _ _ ?_)
          refine cT rfl ?_
          refine wp_skip ?_
          refine xN (hK35 _ _ ?_)
          refine wp_seq_k fun K38 hK38 => ?_
          refine wp_block ?_
          refine wp_block ?_
          refine wp_seq_k fun K39 hK39 => ?_
          refine dBegin (fun _ => False) mixed ?_
          intro w40 hE41 hz42
          refine dEv 0 rfl (v := (.slice Ar_3 nr_3 cr_3)) (fun _ _ => rfl) rfl rfl (by kernel_rfl) ?_
          refine dEv 1 rfl (v := (.int .i64 ((k : Int) - 1))) (fun _ _ => rfl) rfl rfl (by kernel_rfl) ?_
          have h43 := (hr_3.ext ((hE11.trans hF28).trans hE41))
          obtain ⟨b44, o45, rfl⟩ := h43.base (by omega)
          refine dEv 2 rfl (v := (.pointer (some ⟨b44, o45 + (k - 1), none⟩))) (fun _ _ => evIndex (k - 1) Try.underlying44 sz62 rfl rfl (by omega) (by omega) (o45 + (k - 1)) (by omega)) rfl rfl (by kernel_rfl) ?_
          have hd46 := h43.lt (k - 1)
          refine dEv 3 rfl (v := (.int .u32 (((dr_3.getD (k - 1) 0 : Nat) : Int)))) (fun _ hf => evLoad one62 rfl ((h43.ext hf).cell (by omega))) rfl rfl (by kernel_rfl) ?_
          refine dEv 4 rfl (v := (.slice Ar_9 nr_9 cr_9)) (fun _ _ => rfl) rfl rfl (by kernel_rfl) ?_
          refine dEv 5 rfl (v := (.int .i64 ((k : Int) - 1))) (fun _ _ => rfl) rfl rfl (by kernel_rfl) ?_
          have h47 := (hr_9.ext (hF28.trans hE41))
          obtain ⟨b48, o49, rfl⟩ := h47.base (by omega)
          refine dEv 6 rfl (v := (.pointer (some ⟨b48, o49 + (k - 1), none⟩))) (fun _ _ => evIndex (k - 1) Try.underlying44 sz62 rfl rfl (by omega) (by omega) (o49 + (k - 1)) (by omega)) rfl rfl (by kernel_rfl) ?_
          have hd50 := h47.lt (k - 1)
          refine dEv 7 rfl (v := (.int .u32 (((dr_9.getD (k - 1) 0 : Nat) : Int)))) (fun _ hf => evLoad one62 rfl ((h47.ext hf).cell (by omega))) rfl rfl (by kernel_rfl) ?_
          by_cases hc51 : (((dr_3.getD (k - 1) 0 : Nat) : Int)) < (((dr_9.getD (k - 1) 0 : Nat) : Int))
          · refine dEv 8 rfl (v := (.bool true)) (fun _ _ => evLss true rfl rfl (dT hc51)) rfl rfl (by kernel_rfl) ?_
            refine dEv 9 rfl (v := (.bool true)) (fun _ _ => rfl) rfl rfl (by kernel_rfl) ?_
            refine dDone (by kernel_rfl) ?_
            refine xN (hK39 _ _ ?_)
            refine cT rfl ?_
            refine wp_seq_k fun K52 hK52 => ?_
            refine wp_region_lit ?_
            refine sEv (v := (.int .i64 ((-1)))) (rfl) rfl rfl ?_
            refine sDone ?_
            refine xN (hK52 _ _ ?_)
            refine wp_ret (bR (bR (xR (xR (bR (xR ?_))))))
            refine ret1 (.int .i64 ((-1))) Try.results76 (resT rfl) ?_
            exact ⟨((-1)), rfl, (((hE5.trans hE11).trans hF28).trans hE41), (cmp_lt e_3 e_9 (val_lt_top (k := k) (by omega) hr_3.2 heq (by omega) (by omega) (by omega)))⟩
          · refine dEv 8 rfl (v := (.bool false)) (fun _ _ => evLss false rfl rfl (dF hc51)) rfl rfl (by kernel_rfl) ?_
            refine dEv 9 rfl (v := (.bool false)) (fun _ _ => rfl) rfl rfl (by kernel_rfl) ?_
            refine dDone (by kernel_rfl) ?_
            refine xN (hK39 _ _ ?_)
            refine cF rfl ?_
            refine wp_seq_k fun K53 hK53 => ?_
            refine dBegin (fun _ => False) mixed ?_
            intro w54 hE55 hz56
            refine dEv 0 rfl (v := (.slice (some ⟨b44, o45, none⟩) nr_3 cr_3)) (fun _ _ => rfl) rfl rfl (by kernel_rfl) ?_
            refine dEv 1 rfl (v := (.int .i64 ((k : Int) - 1))) (fun _ _ => rfl) rfl rfl (by kernel_rfl) ?_
            refine dEv 2 rfl (v := (.pointer (some ⟨b44, o45 + (k - 1), none⟩))) (fun _ _ => evIndex (k - 1) Try.underlying44 sz62 rfl rfl (by omega) (by omega) (o45 + (k - 1)) (by omega)) rfl rfl (by kernel_rfl) ?_
            have h57 := (h43.ext hE55)
            have hd58 := h57.lt (k - 1)
            refine dEv 3 rfl (v := (.int .u32 (((dr_3.getD (k - 1) 0 : Nat) : Int)))) (fun _ hf => evLoad one62 rfl ((h57.ext hf).cell (by omega))) rfl rfl (by kernel_rfl) ?_
            refine dEv 4 rfl (v := (.slice (some ⟨b48, o49, none⟩) nr_9 cr_9)) (fun _ _ => rfl) rfl rfl (by kernel_rfl) ?_
            refine dEv 5 rfl (v := (.int .i64 ((k : Int) - 1))) (fun _ _ => rfl) rfl rfl (by kernel_rfl) ?_
            refine dEv 6 rfl (v := (.pointer (some ⟨b48, o49 + (k - 1), none⟩))) (fun _ _ => evIndex (k - 1) Try.underlying44 sz62 rfl rfl (by omega) (by omega) (o49 + (k - 1)) (by omega)) rfl rfl (by kernel_rfl) ?_
            have h59 := (h47.ext hE55)
            have hd60 := h59.lt (k - 1)
            refine dEv 7 rfl (v := (.int .u32 (((dr_9.getD (k - 1) 0 : Nat) : Int)))) (fun _ hf => evLoad one62 rfl ((h59.ext hf).cell (by omega))) rfl rfl (by kernel_rfl) ?_
            by_cases hc61 : (((dr_3.getD (k - 1) 0 : Nat) : Int)) > (((dr_9.getD (k - 1) 0 : Nat) : Int))
            · refine dEv 8 rfl (v := (.bool true)) (fun _ _ => evGtr true rfl rfl (dT hc61)) rfl rfl (by kernel_rfl) ?_
              refine dEv 9 rfl (v := (.bool true)) (fun _ _ => rfl) rfl rfl (by kernel_rfl) ?_
              refine dDone (by kernel_rfl) ?_
              refine xN (hK53 _ _ ?_)
              refine cT rfl ?_
              refine wp_seq_k fun K62 hK62 => ?_
              refine wp_region_lit ?_
              refine sEv (v := (.int .i64 (1))) (rfl) rfl rfl ?_
              refine sDone ?_
              refine xN (hK62 _ _ ?_)
              refine wp_ret (bR (bR (xR (xR (bR (xR ?_))))))
              refine ret1 (.int .i64 (1)) Try.results76 (resT rfl) ?_
              exact ⟨(1), rfl, ((((hE5.trans hE11).trans hF28).trans hE41).trans hE55), (cmp_gt e_3 e_9 (val_lt_top (k := k) (by omega) hr_9.2 (fun j hj => (heq j hj).symm) (by omega) (by omega) (by omega)))⟩
            · refine dEv 8 rfl (v := (.bool false)) (fun _ _ => evGtr false rfl rfl (dF hc61)) rfl rfl (by kernel_rfl) ?_
              refine dEv 9 rfl (v := (.bool false)) (fun _ _ => rfl) rfl rfl (by kernel_rfl) ?_
              refine dDone (by kernel_rfl) ?_
              refine xN (hK53 _ _ ?_)
              refine cF rfl ?_
              refine wp_skip ?_
              refine bN ?_
              refine bN ?_
              refine xN (hK38 _ _ ?_)
              refine wp_region_lit ?_
              refine sEv (v := (.int .i64 ((k : Int) - 1))) (rfl) rfl rfl ?_
              refine sEv (v := (.int .i64 (((k : Int) - 1) - 1))) (evSub (((k : Int) - 1) - 1) rfl rfl (wI64 (by omega))) rfl rfl ?_
              refine sEv (v := (.int .i64 (((k : Int) - 1) - 1))) (rfl) rfl rfl ?_
              refine sDone ?_
              refine again ((k - 1)) (by omega) ⟨(k - 1), rfl, rfl, rfl, (congrArg (Value.int .i64) (by omega)), ((hF28.trans hE41).trans hE55), ?_, ?_⟩
              · omega
              · exact eq_down heq (by omega)
        · refine sEv (v := (.bool false)) (evGeq false rfl rfl (dF hc37)) rfl rfl ?_
          refine sDone ?_
          refine xN (hK36 _ _ ?_)
          refine cF rfl ?_
          refine wp_exit (xE (xE (bE ?_)))
          refine xN (hK21 _ _ ?_)
          refine wp_seq_k fun K63 hK63 => ?_
          refine wp_region_lit ?_
          refine sEv (v := (.int .i64 (0))) (rfl) rfl rfl ?_
          refine sDone ?_
          refine xN (hK63 _ _ ?_)
          refine wp_ret ?_
          refine ret1 (.int .i64 (0)) Try.results76 (resT rfl) ?_
          exact ⟨(0), rfl, ((hE5.trans hE11).trans hF28), (cmp_eq e_3 e_9 (getD_ext (by omega) (fun j => heq j (by omega))))⟩

theorem natural_Of {w : World} {x1 : Nat} (b1 : x1 < 18446744073709551616)  : Calls Try.prog 83 #[(.int .u64 ((x1 : Int)))] w (Ret fun v w' => ∃ (Ar : Option Addr) (nr : Nat) (cr : Nat) (dr : List Nat), v = (.slice Ar nr cr) ∧ Ext w w' ∧ NatR w' (fun b => w.heap.size ≤ b) Ar nr cr dr ∧ (val dr = x1) ∧ (Canon isZ dr) ∧ (nr ≤ 2)) := by
  refine enter Try.func83 rfl Try.ntmps83 rfl ?_
  refine wp_seq_k fun K1 hK1 => ?_
  refine wp_region_lit ?_
  refine sEv (v := (.slice none 0 0)) (rfl) rfl rfl ?_
  refine sDone ?_
  refine xN (hK1 _ _ ?_)
  refine wp_seq_k fun K2 hK2 => ?_
  refine wp_region_lit ?_
  refine sEv (v := (.int .u64 ((x1 : Int)))) (rfl) rfl rfl ?_
  refine sEv (v := (.int .u32 (((x1 % 4294967296 : Nat) : Int)))) (evConv (((x1 % 4294967296 : Nat) : Int)) Try.underlying101 Try.underlying62 rfl (wU32m (by omega))) rfl rfl ?_
  refine sEv (v := (.int .u64 ((x1 : Int)))) (rfl) rfl rfl ?_
  refine sEv (v := (.int .u64 (((x1 / 4294967296 : Nat) : Int)))) (evShr (((x1 / 4294967296 : Nat) : Int)) rfl rfl (by omega) (by rw [shr_div 32 rfl 4294967296 rfl (by omega)]; omega)) rfl rfl ?_
  refine sEv (v := (.int .u32 ((((x1 / 4294967296) % 4294967296 : Nat) : Int)))) (evConv ((((x1 / 4294967296) % 4294967296 : Nat) : Int)) Try.underlying101 Try.underlying62 rfl (wU32m (by omega))) rfl rfl ?_
  refine sOp rfl (oBuildSlice [(.int .u32 (((x1 % 4294967296 : Nat) : Int))), (.int .u32 ((((x1 / 4294967296) % 4294967296 : Nat) : Int)))] [[(.int .u32 (((x1 % 4294967296 : Nat) : Int)))], [(.int .u32 ((((x1 / 4294967296) % 4294967296 : Nat) : Int)))]] Try.underlying44 inf62 rfl rfl rfl rfl rfl ?_)
  intro g3 w4 hg5 hE6 hz7 hB8
  replace hB8 : Blk w4 g3 62 [(.int .u32 (((x1 % 4294967296 : Nat) : Int))), (.int .u32 ((((x1 / 4294967296) % 4294967296 : Nat) : Int)))] := hB8
  have h9 : NatR w4 (fun b => b = g3) (some ⟨g3, 0, none⟩) 2 2 ([x1 % 4294967296, (x1 / 4294967296) % 4294967296]) := NatR.of_blk hB8 rfl (by simp [BS]; omega) (by exact lq) (by omega) (by unfold CapMax; omega)
  refine sOp rfl (oCall rfl call103 (natural_Normal h9 (by omega)) rfl ?_)
  rintro _ w11 ⟨Ar_10, nr_10, cr_10, dr_10, rfl, hE12, hr_10, e_10, le_10⟩
  have hz13 := hE12.size
  have lr_10 := hr_10.len; have kr_10 := hr_10.cap; have mr_10 := hr_10.max
  refine sEv (v := (.slice Ar_10 nr_10 cr_10)) (rfl) rfl rfl ?_
  refine sDone ?_
  refine xN (hK2 _ _ ?_)
  refine wp_ret ?_
  refine ret1 (.slice Ar_10 nr_10 cr_10) Try.results83 (resT rfl) ?_
  exact ⟨Ar_10, nr_10, cr_10, dr_10, rfl, (hE6.trans hE12), (NatR.sub hr_10 q5), (of_val e_10 (by omega)), (by rw [e_10]; exact canon_trim _ _), (by omega)⟩

theorem natural_Add {w : World} {Sa : Nat → Prop} {Aa : Option Addr} {na ca : Nat} {da : List Nat} {Sb : Nat → Prop} {Ab : Option Addr} {nb cb : Nat} {db : List Nat} (ha : NatR w Sa Aa na ca da) (hb : NatR w Sb Ab nb cb db) (hna : na ≤ 1099511627776) (hnb : nb ≤ 1099511627776) : Calls Try.prog 89 #[(.slice Aa na ca), (.slice Ab nb cb)] w (Ret fun v w' => ∃ (Ar : Option Addr) (nr : Nat) (cr : Nat) (dr : List Nat), v = (.slice Ar nr cr) ∧ Ext w w' ∧ NatR w' (fun b => w.heap.size ≤ b) Ar nr cr dr ∧ (val dr = val da + val db) ∧ (Canon isZ dr) ∧ (nr ≤ na + 1 ∨ nr ≤ nb + 1)) := by
  have la := ha.len; have ka := ha.cap; have ma := ha.max
  replace ha := ha.low
  have lb := hb.len; have kb := hb.cap; have mb := hb.max
  replace hb := hb.low
  refine enter Try.func89 rfl Try.ntmps89 rfl ?_
  refine wp_seq_k fun K1 hK1 => ?_
  refine wp_region_lit ?_
  refine sEv (v := (.slice none 0 0)) (rfl) rfl rfl ?_
  refine sDone ?_
  refine xN (hK1 _ _ ?_)
  refine wp_seq_k fun K2 hK2 => ?_
  refine wp_region_lit ?_
  refine sEv (v := (.slice Aa na ca)) (rfl) rfl rfl ?_
  refine sOp rfl (oCall rfl call99 (natural_trim ha) rfl ?_)
  rintro _ w4 ⟨Ar_3, nr_3, cr_3, dr_3, rfl, hE5, hr_3, e_3, le_3⟩
  have hz6 := hE5.size
  have lr_3 := hr_3.len; have kr_3 := hr_3.cap; have mr_3 := hr_3.max
  refine sEv (v := (.slice Ab nb cb)) (rfl) rfl rfl ?_
  have h8 := (hb.ext hE5)
  refine sOp rfl (oCall rfl call99 (natural_trim h8) rfl ?_)
  rintro _ w10 ⟨Ar_9, nr_9, cr_9, dr_9, rfl, hE11, hr_9, e_9, le_9⟩
  have hz12 := hE11.size
  have lr_9 := hr_9.len; have kr_9 := hr_9.cap; have mr_9 := hr_9.max
  refine sEv (v := (.slice Ar_3 nr_3 cr_3)) (rfl) rfl rfl ?_
  refine sEv (v := (.slice Ar_9 nr_9 cr_9)) (rfl) rfl rfl ?_
  refine sDone ?_
  refine xN (hK2 _ _ ?_)
  refine wp_seq_k fun K14 hK14 => ?_
  refine wp_seq_k fun K15 hK15 => ?_
  refine wp_region_lit ?_
  refine sEv (v := (.slice Ar_3 nr_3 cr_3)) (rfl) rfl rfl ?_
  refine sEv (v := (.int .i64 ((nr_3 : Int)))) (evLen Try.underlying44 rfl) rfl rfl ?_
  refine sEv (v := (.slice Ar_9 nr_9 cr_9)) (rfl) rfl rfl ?_
  refine sEv (v := (.int .i64 ((nr_9 : Int)))) (evLen Try.underlying44 rfl) rfl rfl ?_
  by_cases hc16 : ((nr_3 : Int)) < ((nr_9 : Int))
  · refine sEv (v := (.bool true)) (evLss true rfl rfl (dT hc16)) rfl rfl ?_
    refine sDone ?_
    refine xN (hK15 _ _ ?_)
    refine cT rfl ?_
    refine wp_region_lit ?_
    refine sEv (v := (.slice Ar_9 nr_9 cr_9)) (rfl) rfl rfl ?_
    refine sEv (v := (.slice Ar_3 nr_3 cr_3)) (rfl) rfl rfl ?_
    refine sEv (v := (.slice Ar_9 nr_9 cr_9)) (rfl) rfl rfl ?_
    refine sEv (v := (.slice Ar_3 nr_3 cr_3)) (rfl) rfl rfl ?_
    refine sDone ?_
    refine xN (hK14 _ _ ?_)
    refine wp_seq_k fun K17 hK17 => ?_
    refine wp_region_lit ?_
    refine sOp rfl (oAlloc [(.int .u32 (0))] zero62 rfl ?_)
    intro g18 w19 hg20 hE21 hz22 hB23
    refine sDone ?_
    refine xN (hK17 _ _ ?_)
    refine wp_seq_k fun K24 hK24 => ?_
    refine wp_region_lit ?_
    refine sEv (v := (.func (.func 110) #[] #[(.pointer (some ⟨g18, 0, none⟩))])) (evK (by kernel_rfl)) rfl rfl ?_
    refine sEv (v := (.func (.func 110) #[] #[(.pointer (some ⟨g18, 0, none⟩))])) (rfl) rfl rfl ?_
    refine sDone ?_
    refine xN (hK24 _ _ ?_)
    refine wp_seq_k fun K25 hK25 => ?_
    refine wp_region_lit ?_
    refine sEv (v := (.slice Ar_9 nr_9 cr_9)) (rfl) rfl rfl ?_
    refine sEv (v := (.int .i64 ((nr_9 : Int)))) (evLen Try.underlying44 rfl) rfl rfl ?_
    refine sEv (v := (.int .i64 (((nr_9 : Int)) + 1))) (evAdd (((nr_9 : Int)) + 1) rfl rfl (wI64 (by omega))) rfl rfl ?_
    refine sOp rfl (oMake1 (nr_9 + 1) Try.underlying44 inf62 rfl (congrArg (Value.int .i64) (by omega)) (congrArg (Value.int .i64) (by omega)) (by omega) (by omega) ?_)
    intro g26 w27 hg28 hE29 hz30 hB31
    have hB32 : Blk w27 g26 62 (((List.replicate (nr_9 + 1) 0)).map u32) := by rw [List.map_replicate]; exact hB31
    refine sEv (v := (.slice (some ⟨g26, 0, none⟩) (nr_9 + 1) (nr_9 + 1))) (rfl) rfl rfl ?_
    refine sDone ?_
    refine xN (hK25 _ _ ?_)
    refine wp_seq_k fun K33 hK33 => ?_
    refine wp_seq_k fun K34 hK34 => ?_
    refine wp_region_lit ?_
    refine sEv (v := (.slice Ar_3 nr_3 cr_3)) (rfl) rfl rfl ?_
    refine sEv (v := (.int .i64 ((nr_3 : Int)))) (evLen Try.underlying44 rfl) rfl rfl ?_
    refine sEv (v := (.int .i64 (0))) (rfl) rfl rfl ?_
    refine sDone ?_
    refine xN (hK34 _ _ ?_)
    refine wp_block ?_
    have hB36 := (hB23.ext hE29)
    refine lLoop (fun m e w_ => ∃ (k : Nat) (P : List Nat) (cy : Nat), m = nr_3 - k ∧ e 0 = (.slice Ar_9 nr_9 cr_9) ∧ e 1 = (.slice Ar_3 nr_3 cr_3) ∧ e 5 = (.pointer (some ⟨g18, 0, none⟩)) ∧ e 6 = (.func (.func 110) #[] #[(.pointer (some ⟨g18, 0, none⟩))]) ∧ e 7 = (.slice (some ⟨g26, 0, none⟩) (nr_9 + 1) (nr_9 + 1)) ∧ e 27 = (.slice Ar_3 nr_3 cr_3) ∧ e 28 = (.int .i64 ((nr_3 : Int))) ∧ e 29 = (.int .i64 ((k : Int))) ∧ Frm (fun b => b = g18 ∨ b = g26) w27 w_ ∧ Blk w_ g18 62 ([.int .u32 (cy : Int)]) ∧ Blk w_ g26 62 ((P ++ List.replicate (nr_9 + 1 - k) 0).map u32) ∧ (k ≤ nr_3) ∧ (0 ≤ k) ∧ (P.length = k) ∧ (∀ d ∈ P, d < BS) ∧ (cy ≤ 1) ∧ (val P + BS ^ k * cy = val (dr_9.take k) + val (dr_3.take k))) (nr_3 - (0)) ?_ ?_
    · refine ⟨(0), ([]), (0), rfl, rfl, rfl, rfl, rfl, rfl, rfl, rfl, (congrArg (Value.int .i64) (by omega)), (Frm.refl _ _), ?_, ?_, ?_, ?_, ?_, ?_, ?_, ?_⟩
      · exact hB36
      · simpa using hB32
      · omega
      · omega
      · rfl
      · simp
      · omega
      · simp [val]
    · rintro m35 e50 w37 ⟨k, P, cy, hm49, hs38, hs39, hs40, hs41, hs42, hs43, hs44, hs45, hF46, hB47, hB48, hk, hl, hP, hlt, hcy, hv⟩
      obtain ⟨r51, rfl⟩ := sq (e := e50) (t := 0) hs38
      obtain ⟨r52, rfl⟩ := sq (e := r51) (t := 1) hs39
      obtain ⟨r53, rfl⟩ := sq (e := r52) (t := 5) hs40
      obtain ⟨r54, rfl⟩ := sq (e := r53) (t := 6) hs41
      obtain ⟨r55, rfl⟩ := sq (e := r54) (t := 7) hs42
      obtain ⟨r56, rfl⟩ := sq (e := r55) (t := 27) hs43
      obtain ⟨r57, rfl⟩ := sq (e := r56) (t := 28) hs44
      obtain ⟨r58, rfl⟩ := sq (e := r57) (t := 29) hs45
      have hz59 := hF46.size
      refine wp_seq_k fun K60 hK60 => ?_
      refine wp_region_lit ?_
      by_cases hc61 : ((k : Int)) < ((nr_3 : Int))
      · refine sEv (v := (.bool true)) (evLss true rfl rfl (dT hc61)) rfl rfl ?_
        refine sDone ?_
        refine xN (hK60 _ _ ?_)
        refine wp_seq_k fun K62 hK62 => ?_
        refine cT rfl ?_
        refine wp_skip ?_
        refine xN (hK62 _ _ ?_)
        refine wp_seq_k fun K63 hK63 => ?_
        refine wp_block ?_
        refine wp_seq_k fun K64 hK64 => ?_
        refine wp_region_lit ?_
        refine sEv (v := (.int .i64 ((k : Int)))) (rfl) rfl rfl ?_
        have h65 := (hr_3.frmB ((((Frm.of_ext (G := fun b => (b = g18 ∨ b = g26)) hE11).trans (Frm.of_ext (G := fun b => (b = g18 ∨ b = g26)) hE21)).trans (Frm.of_ext (G := fun b => (b = g18 ∨ b = g26)) hE29)).trans hF46) q3)
        obtain ⟨b66, o67, rfl⟩ := h65.base (by omega)
        refine sEv (v := (.pointer (some ⟨b66, o67 + k, none⟩))) (evIndex k Try.underlying44 sz62 rfl rfl (by omega) (by omega) (o67 + k) (by omega)) rfl rfl ?_
        have hd68 := h65.lt k
        refine sEv (v := (.int .u32 (((dr_3.getD k 0 : Nat) : Int)))) (evLoad one62 rfl (h65.cell (by omega))) rfl rfl ?_
        refine sEv (v := (.int .i64 ((k : Int)))) (rfl) rfl rfl ?_
        refine sEv (v := (.int .u32 (((dr_3.getD k 0 : Nat) : Int)))) (rfl) rfl rfl ?_
        refine sDone ?_
        refine xN (hK64 _ _ ?_)
        refine wp_region_lit ?_
        refine sEv (v := (.slice (some ⟨g26, 0, none⟩) (nr_9 + 1) (nr_9 + 1))) (rfl) rfl rfl ?_
        refine sEv (v := (.int .i64 ((k : Int)))) (rfl) rfl rfl ?_
        refine sEv (v := (.func (.func 110) #[] #[(.pointer (some ⟨g18, 0, none⟩))])) (rfl) rfl rfl ?_
        refine sEv (v := (.slice Ar_9 nr_9 cr_9)) (rfl) rfl rfl ?_
        refine sEv (v := (.int .i64 ((k : Int)))) (rfl) rfl rfl ?_
        have h69 := (hr_9.frmB (((Frm.of_ext (G := fun b => (b = g18 ∨ b = g26)) hE21).trans (Frm.of_ext (G := fun b => (b = g18 ∨ b = g26)) hE29)).trans hF46) q3)
        obtain ⟨b70, o71, rfl⟩ := h69.base (by omega)
        refine sEv (v := (.pointer (some ⟨b70, o71 + k, none⟩))) (evIndex k Try.underlying44 sz62 rfl rfl (by omega) (by omega) (o71 + k) (by omega)) rfl rfl ?_
        have hd72 := h69.lt k
        refine sEv (v := (.int .u32 (((dr_9.getD k 0 : Nat) : Int)))) (evLoad one62 rfl (h69.cell (by omega))) rfl rfl ?_
        refine sEv (v := (.int .u32 (((dr_3.getD k 0 : Nat) : Int)))) (rfl) rfl rfl ?_
        refine sOp rfl (oCall rfl call110 (natural_Add_1 (x1 := dr_9.getD k 0) (by omega) (x2 := dr_3.getD k 0) (by omega) (xc := cy) hB47 (by omega) (by omega)) rfl ?_)
        rintro _ w74 ⟨xs_73, zc_73, rfl, hE75, bs_73, B_73, e_73, z_73⟩
        have hz76 := hE75.size
        refine sEv (v := (.pointer (some ⟨g26, k, none⟩))) (evIndex k Try.underlying44 sz62 rfl rfl (by omega) (by omega) k (by omega)) rfl rfl ?_
        have hB77 := (hB48.frm hE75 q1)
        refine sOp rfl (oStore1 rfl rfl rfl sz62 hB77 (by exact lq) ?_)
        intro w78 hU79 hz80 hB81
        replace hB81 : Blk w78 g26 62 (((P ++ [xs_73]) ++ List.replicate (nr_9 + 1 - (k + 1)) 0).map u32) := by rw [← (fill_set2 hP (by omega) : (P ++ List.replicate (nr_9 + 1 - k) 0).set k xs_73 = (P ++ [xs_73]) ++ List.replicate (nr_9 + 1 - (k + 1)) 0), List.map_set]; exact hB81
        refine sDone ?_
        refine bN ?_
        refine xN (hK63 _ _ ?_)
        refine wp_region_lit ?_
        refine sEv (v := (.int .i64 (((k : Int)) + 1))) (evAdd (((k : Int)) + 1) rfl rfl (wI64 (by omega))) rfl rfl ?_
        refine sEv (v := (.int .i64 (((k : Int)) + 1))) (rfl) rfl rfl ?_
        refine sDone ?_
        have hB82 := (B_73.frm hU79 q1)
        refine again (nr_3 - (k + 1)) (by omega) ⟨(k + 1), (P ++ [xs_73]), (zc_73), rfl, rfl, rfl, rfl, rfl, rfl, rfl, rfl, (congrArg (Value.int .i64) (by omega)), (Frm.mono (((hF46.mono (G' := fun b => (b = g18 ∨ b = g26) ∨ (b = g18) ∨ (b = g26)) fun _ _ h => .inl h).trans (hE75.mono (G' := fun b => (b = g18 ∨ b = g26) ∨ (b = g18) ∨ (b = g26)) fun _ _ h => .inr (.inl h))).trans (hU79.mono (G' := fun b => (b = g18 ∨ b = g26) ∨ (b = g18) ∨ (b = g26)) fun _ _ h => .inr (.inr h))) q4), ?_, ?_, ?_, ?_, ?_, ?_, ?_, ?_⟩
        · exact hB82
        · exact hB81
        · omega
        · omega
        · simp [hP]
        · exact lt_snoc hlt (by omega)
        · omega
        · exact add_step hv hP (by omega)
      · refine sEv (v := (.bool false)) (evLss false rfl rfl (dF hc61)) rfl rfl ?_
        refine sDone ?_
        refine xN (hK60 _ _ ?_)
        refine wp_seq_k fun K83 hK83 => ?_
        refine cF rfl ?_
        refine wp_exit (xE (xE (bE ?_)))
        refine xN (hK33 _ _ ?_)
        refine wp_seq_k fun K84 hK84 => ?_
        refine wp_seq_k fun K85 hK85 => ?_
        refine wp_region_lit ?_
        refine sEv (v := (.slice Ar_3 nr_3 cr_3)) (rfl) rfl rfl ?_
        refine sEv (v := (.int .i64 ((nr_3 : Int)))) (evLen Try.underlying44 rfl) rfl rfl ?_
        refine sEv (v := (.int .i64 ((nr_3 : Int)))) (rfl) rfl rfl ?_
        refine sDone ?_
        refine xN (hK85 _ _ ?_)
        refine wp_block ?_
        refine lLoop (fun m e w_ => ∃ (k2 : Nat) (P2 : List Nat) (cy2 : Nat), m = nr_9 - k2 ∧ e 0 = (.slice Ar_9 nr_9 cr_9) ∧ e 5 = (.pointer (some ⟨g18, 0, none⟩)) ∧ e 6 = (.func (.func 110) #[] #[(.pointer (some ⟨g18, 0, none⟩))]) ∧ e 7 = (.slice (some ⟨g26, 0, none⟩) (nr_9 + 1) (nr_9 + 1)) ∧ e 10 = (.int .i64 ((k2 : Int))) ∧ Frm (fun b => b = g18 ∨ b = g26) w37 w_ ∧ Blk w_ g18 62 ([.int .u32 (cy2 : Int)]) ∧ Blk w_ g26 62 ((P2 ++ List.replicate (nr_9 + 1 - k2) 0).map u32) ∧ (k2 ≤ nr_9) ∧ (nr_3 ≤ k2) ∧ (P2.length = k2) ∧ (∀ d ∈ P2, d < BS) ∧ (cy2 ≤ 1) ∧ (val P2 + BS ^ k2 * cy2 = val (dr_9.take k2) + val (dr_3.take k2))) (nr_9 - (k)) ?_ ?_
        · refine ⟨(k), (P), (cy), rfl, rfl, rfl, rfl, rfl, (congrArg (Value.int .i64) (by omega)), (Frm.refl _ _), ?_, ?_, ?_, ?_, ?_, ?_, ?_, ?_⟩
          · exact hB47
          · exact hB48
          · omega
          · omega
          · exact hP
          · exact hlt
          · omega
          · exact hv
        · rintro m86 e97 w87 ⟨k2, P2, cy2, hm96, hs88, hs89, hs90, hs91, hs92, hF93, hB94, hB95, hk2, hl2, hP2, hlt2, hcy2, hv2⟩
          obtain ⟨r98, rfl⟩ := sq (e := e97) (t := 0) hs88
          obtain ⟨r99, rfl⟩ := sq (e := r98) (t := 5) hs89
          obtain ⟨r100, rfl⟩ := sq (e := r99) (t := 6) hs90
          obtain ⟨r101, rfl⟩ := sq (e := r100) (t := 7) hs91
          obtain ⟨r102, rfl⟩ := sq (e := r101) (t := 10) hs92
          have hz103 := hF93.size
          refine wp_seq_k fun K104 hK104 => ?_
          refine wp_seq_k fun K105 hK105 => ?_
          refine wp_region_lit ?_
          refine sEv (v := (.int .i64 ((k2 : Int)))) (rfl) rfl rfl ?_
          refine sEv (v := (.slice Ar_9 nr_9 cr_9)) (rfl) rfl rfl ?_
          refine sEv (v := (.int .i64 ((nr_9 : Int)))) (evLen Try.underlying44 rfl) rfl rfl ?_
          by_cases hc106 : ((k2 : Int)) < ((nr_9 : Int))
          · refine sEv (v := (.bool true)) (evLss true rfl rfl (dT hc106)) rfl rfl ?_
            refine sDone ?_
            refine xN (hK105 _ _ ?_)
            refine cT rfl ?_
            refine wp_skip ?_
            refine xN (hK104 _ _ ?_)
            refine wp_seq_k fun K107 hK107 => ?_
            refine wp_block ?_
            refine wp_region_lit ?_
            refine sEv (v := (.slice (some ⟨g26, 0, none⟩) (nr_9 + 1) (nr_9 + 1))) (rfl) rfl rfl ?_
            refine sEv (v := (.int .i64 ((k2 : Int)))) (rfl) rfl rfl ?_
            refine sEv (v := (.func (.func 110) #[] #[(.pointer (some ⟨g18, 0, none⟩))])) (rfl) rfl rfl ?_
            refine sEv (v := (.slice Ar_9 nr_9 cr_9)) (rfl) rfl rfl ?_
            refine sEv (v := (.int .i64 ((k2 : Int)))) (rfl) rfl rfl ?_
            have h108 := (hr_9.frmB ((((Frm.of_ext (G := fun b => (b = g18 ∨ b = g26)) hE21).trans (Frm.of_ext (G := fun b => (b = g18 ∨ b = g26)) hE29)).trans hF46).trans hF93) q3)
            obtain ⟨b109, o110, rfl⟩ := h108.base (by omega)
            refine sEv (v := (.pointer (some ⟨b109, o110 + k2, none⟩))) (evIndex k2 Try.underlying44 sz62 rfl rfl (by omega) (by omega) (o110 + k2) (by omega)) rfl rfl ?_
            have hd111 := h108.lt k2
            refine sEv (v := (.int .u32 (((dr_9.getD k2 0 : Nat) : Int)))) (evLoad one62 rfl (h108.cell (by omega))) rfl rfl ?_
            refine sOp rfl (oCall rfl call110 (natural_Add_1 (x1 := dr_9.getD k2 0) (by omega) (x2 := 0) (by omega) (xc := cy2) hB94 (by omega) (by omega)) rfl ?_)
            rintro _ w113 ⟨xs_112, zc_112, rfl, hE114, bs_112, B_112, e_112, z_112⟩
            have hz115 := hE114.size
            refine sEv (v := (.pointer (some ⟨g26, k2, none⟩))) (evIndex k2 Try.underlying44 sz62 rfl rfl (by omega) (by omega) k2 (by omega)) rfl rfl ?_
            have hB116 := (hB95.frm hE114 q1)
            refine sOp rfl (oStore1 rfl rfl rfl sz62 hB116 (by exact lq) ?_)
            intro w117 hU118 hz119 hB120
            replace hB120 : Blk w117 g26 62 (((P2 ++ [xs_112]) ++ List.replicate (nr_9 + 1 - (k2 + 1)) 0).map u32) := by rw [← (fill_set2 hP2 (by omega) : (P2 ++ List.replicate (nr_9 + 1 - k2) 0).set k2 xs_112 = (P2 ++ [xs_112]) ++ List.replicate (nr_9 + 1 - (k2 + 1)) 0), List.map_set]; exact hB120
            refine sDone ?_
            refine bN ?_
            refine xN (hK107 _ _ ?_)
            refine wp_region_lit ?_
            refine sEv (v := (.int .i64 ((k2 : Int)))) (rfl) rfl rfl ?_
            refine sEv (v := (.int .i64 (((k2 : Int)) + 1))) (evAdd (((k2 : Int)) + 1) rfl rfl (wI64 (by omega))) rfl rfl ?_
            refine sEv (v := (.int .i64 (((k2 : Int)) + 1))) (rfl) rfl rfl ?_
            refine sDone ?_
            have hB121 := (B_112.frm hU118 q1)
            refine again (nr_9 - (k2 + 1)) (by omega) ⟨(k2 + 1), (P2 ++ [xs_112]), (zc_112), rfl, rfl, rfl, rfl, rfl, (congrArg (Value.int .i64) (by omega)), (Frm.mono (((hF93.mono (G' := fun b => (b = g18 ∨ b = g26) ∨ (b = g18) ∨ (b = g26)) fun _ _ h => .inl h).trans (hE114.mono (G' := fun b => (b = g18 ∨ b = g26) ∨ (b = g18) ∨ (b = g26)) fun _ _ h => .inr (.inl h))).trans (hU118.mono (G' := fun b => (b = g18 ∨ b = g26) ∨ (b = g18) ∨ (b = g26)) fun _ _ h => .inr (.inr h))) q4), ?_, ?_, ?_, ?_, ?_, ?_, ?_, ?_⟩
            · exact hB121
            · exact hB120
            · omega
            · omega
            · simp [hP2]
            · exact lt_snoc hlt2 (by omega)
            · omega
            · exact add_step hv2 hP2 (by rw [getD_ge (ds := dr_3) (n := nr_3) (by omega) k2 (by omega)]; omega)
          · refine sEv (v := (.bool false)) (evLss false rfl rfl (dF hc106)) rfl rfl ?_
            refine sDone ?_
            refine xN (hK105 _ _ ?_)
            refine cF rfl ?_
            refine wp_exit (xE (xE (bE ?_)))
            refine xN (hK84 _ _ ?_)
            refine wp_seq_k fun K122 hK122 => ?_
            refine wp_region_lit ?_
            refine sEv (v := (.slice (some ⟨g26, 0, none⟩) (nr_9 + 1) (nr_9 + 1))) (rfl) rfl rfl ?_
            refine sEv (v := (.slice Ar_9 nr_9 cr_9)) (rfl) rfl rfl ?_
            refine sEv (v := (.int .i64 ((nr_9 : Int)))) (evLen Try.underlying44 rfl) rfl rfl ?_
            refine sEv (v := (.int .u32 ((cy2 : Int)))) (evLoadB one62 rfl hB94 rfl) rfl rfl ?_
            refine sEv (v := (.pointer (some ⟨g26, nr_9, none⟩))) (evIndex nr_9 Try.underlying44 sz62 rfl rfl (by omega) (by omega) nr_9 (by omega)) rfl rfl ?_
            refine sOp rfl (oStore1 rfl rfl rfl sz62 hB95 (by exact lq) ?_)
            intro w123 hU124 hz125 hB126
            replace hB126 : Blk w123 g26 62 ((P2 ++ [cy2]).map u32) := by rw [← (last_set (hP2.trans (by omega)) (by omega) : (P2 ++ List.replicate (nr_9 + 1 - k2) 0).set nr_9 cy2 = P2 ++ [cy2]), List.map_set]; exact hB126
            refine sDone ?_
            refine xN (hK122 _ _ ?_)
            refine wp_seq_k fun K127 hK127 => ?_
            refine wp_region_lit ?_
            refine sEv (v := (.slice (some ⟨g26, 0, none⟩) (nr_9 + 1) (nr_9 + 1))) (rfl) rfl rfl ?_
            have h128 : NatR w123 (fun b => b = g26) (some ⟨g26, 0, none⟩) (nr_9 + 1) (nr_9 + 1) (P2 ++ [cy2]) := NatR.of_blk hB126 rfl (lt_snoc hlt2 (by omega)) (by exact lq) (by omega) (by unfold CapMax; omega)
            refine sOp rfl (oCall rfl call99 (natural_trim h128) rfl ?_)
            rintro _ w130 ⟨Ar_129, nr_129, cr_129, dr_129, rfl, hE131, hr_129, e_129, le_129⟩
            have hz132 := hE131.size
            have lr_129 := hr_129.len; have kr_129 := hr_129.cap; have mr_129 := hr_129.max
            refine sEv (v := (.slice Ar_129 nr_129 cr_129)) (rfl) rfl rfl ?_
            refine sDone ?_
            refine xN (hK127 _ _ ?_)
            refine wp_ret ?_
            refine ret1 (.slice Ar_129 nr_129 cr_129) Try.results89 (resT rfl) ?_
            exact ⟨Ar_129, nr_129, cr_129, dr_129, rfl, (Frm.mono ((((((((Frm.of_ext (G := fun b => (b = g18 ∨ b = g26) ∨ (b = g26)) hE5).trans (Frm.of_ext (G := fun b => (b = g18 ∨ b = g26) ∨ (b = g26)) hE11)).trans (Frm.of_ext (G := fun b => (b = g18 ∨ b = g26) ∨ (b = g26)) hE21)).trans (Frm.of_ext (G := fun b => (b = g18 ∨ b = g26) ∨ (b = g26)) hE29)).trans (hF46.mono (G' := fun b => (b = g18 ∨ b = g26) ∨ (b = g26)) fun _ _ h => .inl h)).trans (hF93.mono (G' := fun b => (b = g18 ∨ b = g26) ∨ (b = g26)) fun _ _ h => .inl h)).trans (hU124.mono (G' := fun b => (b = g18 ∨ b = g26) ∨ (b = g26)) fun _ _ h => .inr h)).trans (Frm.of_ext (G := fun b => (b = g18 ∨ b = g26) ∨ (b = g26)) hE131)) q4), (NatR.sub hr_129 q5), (add_fin e_129 (add_end hv2 hP2 (by omega) (by omega)) e_9 e_3 (Nat.add_comm _ _)), (by rw [e_129]; exact canon_trim _ _), (by omega)⟩
  · refine sEv (v := (.bool false)) (evLss false rfl rfl (dF hc16)) rfl rfl ?_
    refine sDone ?_
    refine xN (hK15 _ _ ?_)
    refine cF rfl ?_
    refine wp_skip ?_
    refine xN (hK14 _ _ ?_)
    refine wp_seq_k fun K134 hK134 => ?_
    refine wp_region_lit ?_
    refine sOp rfl (oAlloc [(.int .u32 (0))] zero62 rfl ?_)
    intro g135 w136 hg137 hE138 hz139 hB140
    refine sDone ?_
    refine xN (hK134 _ _ ?_)
    refine wp_seq_k fun K141 hK141 => ?_
    refine wp_region_lit ?_
    refine sEv (v := (.func (.func 110) #[] #[(.pointer (some ⟨g135, 0, none⟩))])) (evK (by kernel_rfl)) rfl rfl ?_
    refine sEv (v := (.func (.func 110) #[] #[(.pointer (some ⟨g135, 0, none⟩))])) (rfl) rfl rfl ?_
    refine sDone ?_
    refine xN (hK141 _ _ ?_)
    refine wp_seq_k fun K142 hK142 => ?_
    refine wp_region_lit ?_
    refine sEv (v := (.slice Ar_3 nr_3 cr_3)) (rfl) rfl rfl ?_
    refine sEv (v := (.int .i64 ((nr_3 : Int)))) (evLen Try.underlying44 rfl) rfl rfl ?_
    refine sEv (v := (.int .i64 (((nr_3 : Int)) + 1))) (evAdd (((nr_3 : Int)) + 1) rfl rfl (wI64 (by omega))) rfl rfl ?_
    refine sOp rfl (oMake1 (nr_3 + 1) Try.underlying44 inf62 rfl (congrArg (Value.int .i64) (by omega)) (congrArg (Value.int .i64) (by omega)) (by omega) (by omega) ?_)
    intro g143 w144 hg145 hE146 hz147 hB148
    have hB149 : Blk w144 g143 62 (((List.replicate (nr_3 + 1) 0)).map u32) := by rw [List.map_replicate]; exact hB148
    refine sEv (v := (.slice (some ⟨g143, 0, none⟩) (nr_3 + 1) (nr_3 + 1))) (rfl) rfl rfl ?_
    refine sDone ?_
    refine xN (hK142 _ _ ?_)
    refine wp_seq_k fun K150 hK150 => ?_
    refine wp_seq_k fun K151 hK151 => ?_
    refine wp_region_lit ?_
    refine sEv (v := (.slice Ar_9 nr_9 cr_9)) (rfl) rfl rfl ?_
    refine sEv (v := (.int .i64 ((nr_9 : Int)))) (evLen Try.underlying44 rfl) rfl rfl ?_
    refine sEv (v := (.int .i64 (0))) (rfl) rfl rfl ?_
    refine sDone ?_
    refine xN (hK151 _ _ ?_)
    refine wp_block ?_
    have hB153 := (hB140.ext hE146)
    refine lLoop (fun m e w_ => ∃ (k : Nat) (P : List Nat) (cy : Nat), m = nr_9 - k ∧ e 0 = (.slice Ar_3 nr_3 cr_3) ∧ e 1 = (.slice Ar_9 nr_9 cr_9) ∧ e 5 = (.pointer (some ⟨g135, 0, none⟩)) ∧ e 6 = (.func (.func 110) #[] #[(.pointer (some ⟨g135, 0, none⟩))]) ∧ e 7 = (.slice (some ⟨g143, 0, none⟩) (nr_3 + 1) (nr_3 + 1)) ∧ e 27 = (.slice Ar_9 nr_9 cr_9) ∧ e 28 = (.int .i64 ((nr_9 : Int))) ∧ e 29 = (.int .i64 ((k : Int))) ∧ Frm (fun b => b = g135 ∨ b = g143) w144 w_ ∧ Blk w_ g135 62 ([.int .u32 (cy : Int)]) ∧ Blk w_ g143 62 ((P ++ List.replicate (nr_3 + 1 - k) 0).map u32) ∧ (k ≤ nr_9) ∧ (0 ≤ k) ∧ (P.length = k) ∧ (∀ d ∈ P, d < BS) ∧ (cy ≤ 1) ∧ (val P + BS ^ k * cy = val (dr_3.take k) + val (dr_9.take k))) (nr_9 - (0)) ?_ ?_
    · refine ⟨(0), ([]), (0), rfl, rfl, rfl, rfl, rfl, rfl, rfl, rfl, (congrArg (Value.int .i64) (by omega)), (Frm.refl _ _), ?_, ?_, ?_, ?_, ?_, ?_, ?_, ?_⟩
      · exact hB153
      · simpa using hB149
      · omega
      · omega
      · rfl
      · simp
      · omega
      · simp [val]
    · rintro m152 e167 w154 ⟨k, P, cy, hm166, hs155, hs156, hs157, hs158, hs159, hs160, hs161, hs162, hF163, hB164, hB165, hk, hl, hP, hlt, hcy, hv⟩
      obtain ⟨r168, rfl⟩ := sq (e := e167) (t := 0) hs155
      obtain ⟨r169, rfl⟩ := sq (e := r168) (t := 1) hs156
      obtain ⟨r170, rfl⟩ := sq (e := r169) (t := 5) hs157
      obtain ⟨r171, rfl⟩ := sq (e := r170) (t := 6) hs158
      obtain ⟨r172, rfl⟩ := sq (e := r171) (t := 7) hs159
      obtain ⟨r173, rfl⟩ := sq (e := r172) (t := 27) hs160
      obtain ⟨r174, rfl⟩ := sq (e := r173) (t := 28) hs161
      obtain ⟨r175, rfl⟩ := sq (e := r174) (t := 29) hs162
      have hz176 := hF163.size
      refine wp_seq_k fun K177 hK177 => ?_
      refine wp_region_lit ?_
      by_cases hc178 : ((k : Int)) < ((nr_9 : Int))
      · refine sEv (v := (.bool true)) (evLss true rfl rfl (dT hc178)) rfl rfl ?_
        refine sDone ?_
        refine xN (hK177 _ _ ?_)
        refine wp_seq_k fun K179 hK179 => ?_
        refine cT rfl ?_
        refine wp_skip ?_
        refine xN (hK179 _ _ ?_)
        refine wp_seq_k fun K180 hK180 => ?_
        refine wp_block ?_
        refine wp_seq_k fun K181 hK181 => ?_
        refine wp_region_lit ?_
        refine sEv (v := (.int .i64 ((k : Int)))) (rfl) rfl rfl ?_
        have h182 := (hr_9.frmB (((Frm.of_ext (G := fun b => (b = g135 ∨ b = g143)) hE138).trans (Frm.of_ext (G := fun b => (b = g135 ∨ b = g143)) hE146)).trans hF163) q3)
        obtain ⟨b183, o184, rfl⟩ := h182.base (by omega)
        refine sEv (v := (.pointer (some ⟨b183, o184 + k, none⟩))) (evIndex k Try.underlying44 sz62 rfl rfl (by omega) (by omega) (o184 + k) (by omega)) rfl rfl ?_
        have hd185 := h182.lt k
        refine sEv (v := (.int .u32 (((dr_9.getD k 0 : Nat) : Int)))) (evLoad one62 rfl (h182.cell (by omega))) rfl rfl ?_
        refine sEv (v := (.int .i64 ((k : Int)))) (rfl) rfl rfl ?_
        refine sEv (v := (.int .u32 (((dr_9.getD k 0 : Nat) : Int)))) (rfl) rfl rfl ?_
        refine sDone ?_
        refine xN (hK181 _ _ ?_)
        refine wp_region_lit ?_
        refine sEv (v := (.slice (some ⟨g143, 0, none⟩) (nr_3 + 1) (nr_3 + 1))) (rfl) rfl rfl ?_
        refine sEv (v := (.int .i64 ((k : Int)))) (rfl) rfl rfl ?_
        refine sEv (v := (.func (.func 110) #[] #[(.pointer (some ⟨g135, 0, none⟩))])) (rfl) rfl rfl ?_
        refine sEv (v := (.slice Ar_3 nr_3 cr_3)) (rfl) rfl rfl ?_
        refine sEv (v := (.int .i64 ((k : Int)))) (rfl) rfl rfl ?_
        have h186 := (hr_3.frmB ((((Frm.of_ext (G := fun b => (b = g135 ∨ b = g143)) hE11).trans (Frm.of_ext (G := fun b => (b = g135 ∨ b = g143)) hE138)).trans (Frm.of_ext (G := fun b => (b = g135 ∨ b = g143)) hE146)).trans hF163) q3)
        obtain ⟨b187, o188, rfl⟩ := h186.base (by omega)
        refine sEv (v := (.pointer (some ⟨b187, o188 + k, none⟩))) (evIndex k Try.underlying44 sz62 rfl rfl (by omega) (by omega) (o188 + k) (by omega)) rfl rfl ?_
        have hd189 := h186.lt k
        refine sEv (v := (.int .u32 (((dr_3.getD k 0 : Nat) : Int)))) (evLoad one62 rfl (h186.cell (by omega))) rfl rfl ?_
        refine sEv (v := (.int .u32 (((dr_9.getD k 0 : Nat) : Int)))) (rfl) rfl rfl ?_
        refine sOp rfl (oCall rfl call110 (natural_Add_1 (x1 := dr_3.getD k 0) (by omega) (x2 := dr_9.getD k 0) (by omega) (xc := cy) hB164 (by omega) (by omega)) rfl ?_)
        rintro _ w191 ⟨xs_190, zc_190, rfl, hE192, bs_190, B_190, e_190, z_190⟩
        have hz193 := hE192.size
        refine sEv (v := (.pointer (some ⟨g143, k, none⟩))) (evIndex k Try.underlying44 sz62 rfl rfl (by omega) (by omega) k (by omega)) rfl rfl ?_
        have hB194 := (hB165.frm hE192 q1)
        refine sOp rfl (oStore1 rfl rfl rfl sz62 hB194 (by exact lq) ?_)
        intro w195 hU196 hz197 hB198
        replace hB198 : Blk w195 g143 62 (((P ++ [xs_190]) ++ List.replicate (nr_3 + 1 - (k + 1)) 0).map u32) := by rw [← (fill_set2 hP (by omega) : (P ++ List.replicate (nr_3 + 1 - k) 0).set k xs_190 = (P ++ [xs_190]) ++ List.replicate (nr_3 + 1 - (k + 1)) 0), List.map_set]; exact hB198
        refine sDone ?_
        refine bN ?_
        refine xN (hK180 _ _ ?_)
        refine wp_region_lit ?_
        refine sEv (v := (.int .i64 (((k : Int)) + 1))) (evAdd (((k : Int)) + 1) rfl rfl (wI64 (by omega))) rfl rfl ?_
        refine sEv (v := (.int .i64 (((k : Int)) + 1))) (rfl) rfl rfl ?_
        refine sDone ?_
        have hB199 := (B_190.frm hU196 q1)
        refine again (nr_9 - (k + 1)) (by omega) ⟨(k + 1), (P ++ [xs_190]), (zc_190), rfl, rfl, rfl, rfl, rfl, rfl, rfl, rfl, (congrArg (Value.int .i64) (by omega)), (Frm.mono (((hF163.mono (G' := fun b => (b = g135 ∨ b = g143) ∨ (b = g135) ∨ (b = g143)) fun _ _ h => .inl h).trans (hE192.mono (G' := fun b => (b = g135 ∨ b = g143) ∨ (b = g135) ∨ (b = g143)) fun _ _ h => .inr (.inl h))).trans (hU196.mono (G' := fun b => (b = g135 ∨ b = g143) ∨ (b = g135) ∨ (b = g143)) fun _ _ h => .inr (.inr h))) q4), ?_, ?_, ?_, ?_, ?_, ?_, ?_, ?_⟩
        · exact hB199
        · exact hB198
        · omega
        · omega
        · simp [hP]
        · exact lt_snoc hlt (by omega)
        · omega
        · exact add_step hv hP (by omega)
      · refine sEv (v := (.bool false)) (evLss false rfl rfl (dF hc178)) rfl rfl ?_
        refine sDone ?_
        refine xN (hK177 _ _ ?_)
        refine wp_seq_k fun K200 hK200 => ?_
        refine cF rfl ?_
        refine wp_exit (xE (xE (bE ?_)))
        refine xN (hK150 _ _ ?_)
        refine wp_seq_k fun K201 hK201 => ?_
        refine wp_seq_k fun K202 hK202 => ?_
        refine wp_region_lit ?_
        refine sEv (v := (.slice Ar_9 nr_9 cr_9)) (rfl) rfl rfl ?_
        refine sEv (v := (.int .i64 ((nr_9 : Int)))) (evLen Try.underlying44 rfl) rfl rfl ?_
        refine sEv (v := (.int .i64 ((nr_9 : Int)))) (rfl) rfl rfl ?_
        refine sDone ?_
        refine xN (hK202 _ _ ?_)
        refine wp_block ?_
        refine lLoop (fun m e w_ => ∃ (k2 : Nat) (P2 : List Nat) (cy2 : Nat), m = nr_3 - k2 ∧ e 0 = (.slice Ar_3 nr_3 cr_3) ∧ e 5 = (.pointer (some ⟨g135, 0, none⟩)) ∧ e 6 = (.func (.func 110) #[] #[(.pointer (some ⟨g135, 0, none⟩))]) ∧ e 7 = (.slice (some ⟨g143, 0, none⟩) (nr_3 + 1) (nr_3 + 1)) ∧ e 10 = (.int .i64 ((k2 : Int))) ∧ Frm (fun b => b = g135 ∨ b = g143) w154 w_ ∧ Blk w_ g135 62 ([.int .u32 (cy2 : Int)]) ∧ Blk w_ g143 62 ((P2 ++ List.replicate (nr_3 + 1 - k2) 0).map u32) ∧ (k2 ≤ nr_3) ∧ (nr_9 ≤ k2) ∧ (P2.length = k2) ∧ (∀ d ∈ P2, d < BS) ∧ (cy2 ≤ 1) ∧ (val P2 + BS ^ k2 * cy2 = val (dr_3.take k2) + val (dr_9.take k2))) (nr_3 - (k)) ?_ ?_
        · refine ⟨(k), (P), (cy), rfl, rfl, rfl, rfl, rfl, (congrArg (Value.int .i64) (by omega)), (Frm.refl _ _), ?_, ?_, ?_, ?_, ?_, ?_, ?_, ?_⟩
          · exact hB164
          · exact hB165
          · omega
          · omega
          · exact hP
          · exact hlt
          · omega
          · exact hv
        · rintro m203 e214 w204 ⟨k2, P2, cy2, hm213, hs205, hs206, hs207, hs208, hs209, hF210, hB211, hB212, hk2, hl2, hP2, hlt2, hcy2, hv2⟩
          obtain ⟨r215, rfl⟩ := sq (e := e214) (t := 0) hs205
          obtain ⟨r216, rfl⟩ := sq (e := r215) (t := 5) hs206
          obtain ⟨r217, rfl⟩ := sq (e := r216) (t := 6) hs207
          obtain ⟨r218, rfl⟩ := sq (e := r217) (t := 7) hs208
          obtain ⟨r219, rfl⟩ := sq (e := r218) (t := 10) hs209
          have hz220 := hF210.size
          refine wp_seq_k fun K221 hK221 => ?_
          refine wp_seq_k fun K222 hK222 => ?_
          refine wp_region_lit ?_
          refine sEv (v := (.int .i64 ((k2 : Int)))) (rfl) rfl rfl ?_
          refine sEv (v := (.slice Ar_3 nr_3 cr_3)) (rfl) rfl rfl ?_
          refine sEv (v := (.int .i64 ((nr_3 : Int)))) (evLen Try.underlying44 rfl) rfl rfl ?_
          by_cases hc223 : ((k2 : Int)) < ((nr_3 : Int))
          · refine sEv (v := (.bool true)) (evLss true rfl rfl (dT hc223)) rfl rfl ?_
            refine sDone ?_
            refine xN (hK222 _ _ ?_)
            refine cT rfl ?_
            refine wp_skip ?_
            refine xN (hK221 _ _ ?_)
            refine wp_seq_k fun K224 hK224 => ?_
            refine wp_block ?_
            refine wp_region_lit ?_
            refine sEv (v := (.slice (some ⟨g143, 0, none⟩) (nr_3 + 1) (nr_3 + 1))) (rfl) rfl rfl ?_
            refine sEv (v := (.int .i64 ((k2 : Int)))) (rfl) rfl rfl ?_
            refine sEv (v := (.func (.func 110) #[] #[(.pointer (some ⟨g135, 0, none⟩))])) (rfl) rfl rfl ?_
            refine sEv (v := (.slice Ar_3 nr_3 cr_3)) (rfl) rfl rfl ?_
            refine sEv (v := (.int .i64 ((k2 : Int)))) (rfl) rfl rfl ?_
            have h225 := (hr_3.frmB (((((Frm.of_ext (G := fun b => (b = g135 ∨ b = g143)) hE11).trans (Frm.of_ext (G := fun b => (b = g135 ∨ b = g143)) hE138)).trans (Frm.of_ext (G := fun b => (b = g135 ∨ b = g143)) hE146)).trans hF163).trans hF210) q3)
            obtain ⟨b226, o227, rfl⟩ := h225.base (by omega)
            refine sEv (v := (.pointer (some ⟨b226, o227 + k2, none⟩))) (evIndex k2 Try.underlying44 sz62 rfl rfl (by omega) (by omega) (o227 + k2) (by omega)) rfl rfl ?_
            have hd228 := h225.lt k2
            refine sEv (v := (.int .u32 (((dr_3.getD k2 0 : Nat) : Int)))) (evLoad one62 rfl (h225.cell (by omega))) rfl rfl ?_
            refine sOp rfl (oCall rfl call110 (natural_Add_1 (x1 := dr_3.getD k2 0) (by omega) (x2 := 0) (by omega) (xc := cy2) hB211 (by omega) (by omega)) rfl ?_)
            rintro _ w230 ⟨xs_229, zc_229, rfl, hE231, bs_229, B_229, e_229, z_229⟩
            have hz232 := hE231.size
            refine sEv (v := (.pointer (some ⟨g143, k2, none⟩))) (evIndex k2 Try.underlying44 sz62 rfl rfl (by omega) (by omega) k2 (by omega)) rfl rfl ?_
            have hB233 := (hB212.frm hE231 q1)
            refine sOp rfl (oStore1 rfl rfl rfl sz62 hB233 (by exact lq) ?_)
            intro w234 hU235 hz236 hB237
            replace hB237 : Blk w234 g143 62 (((P2 ++ [xs_229]) ++ List.replicate (nr_3 + 1 - (k2 + 1)) 0).map u32) := by rw [← (fill_set2 hP2 (by omega) : (P2 ++ List.replicate (nr_3 + 1 - k2) 0).set k2 xs_229 = (P2 ++ [xs_229]) ++ List.replicate (nr_3 + 1 - (k2 + 1)) 0), List.map_set]; exact hB237
            refine sDone ?_
            refine bN ?_
            refine xN (hK224 _ _ ?_)
            refine wp_region_lit ?_
            refine sEv (v := (.int .i64 ((k2 : Int)))) (rfl) rfl rfl ?_
            refine sEv (v := (.int .i64 (((k2 : Int)) + 1))) (evAdd (((k2 : Int)) + 1) rfl rfl (wI64 (by omega))) rfl rfl ?_
            refine sEv (v := (.int .i64 (((k2 : Int)) + 1))) (rfl) rfl rfl ?_
            refine sDone ?_
            have hB238 := (B_229.frm hU235 q1)
            refine again (nr_3 - (k2 + 1)) (by omega) ⟨(k2 + 1), (P2 ++ [xs_229]), (zc_229), rfl, rfl, rfl, rfl, rfl, (congrArg (Value.int .i64) (by omega)), (Frm.mono (((hF210.mono (G' := fun b => (b = g135 ∨ b = g143) ∨ (b = g135) ∨ (b = g143)) fun _ _ h => .inl h).trans (hE231.mono (G' := fun b => (b = g135 ∨ b = g143) ∨ (b = g135) ∨ (b = g143)) fun _ _ h => .inr (.inl h))).trans (hU235.mono (G' := fun b => (b = g135 ∨ b = g143) ∨ (b = g135) ∨ (b = g143)) fun _ _ h => .inr (.inr h))) q4), ?_, ?_, ?_, ?_, ?_, ?_, ?_, ?_⟩
            · exact hB238
            · exact hB237
            · omega
            · omega
            · simp [hP2]
            · exact lt_snoc hlt2 (by omega)
            · omega
            · exact add_step hv2 hP2 (by rw [getD_ge (ds := dr_9) (n := nr_9) (by omega) k2 (by omega)]; omega)
          · refine sEv (v := (.bool false)) (evLss false rfl rfl (dF hc223)) rfl rfl ?_
            refine sDone ?_
            refine xN (hK222 _ _ ?_)
            refine cF rfl ?_
            refine wp_exit (xE (xE (bE ?_)))
            refine xN (hK201 _ _ ?_)
            refine wp_seq_k fun K239 hK239 => ?_
            refine wp_region_lit ?_
            refine sEv (v := (.slice (some ⟨g143, 0, none⟩) (nr_3 + 1) (nr_3 + 1))) (rfl) rfl rfl ?_
            refine sEv (v := (.slice Ar_3 nr_3 cr_3)) (rfl) rfl rfl ?_
            refine sEv (v := (.int .i64 ((nr_3 : Int)))) (evLen Try.underlying44 rfl) rfl rfl ?_
            refine sEv (v := (.int .u32 ((cy2 : Int)))) (evLoadB one62 rfl hB211 rfl) rfl rfl ?_
            refine sEv (v := (.pointer (some ⟨g143, nr_3, none⟩))) (evIndex nr_3 Try.underlying44 sz62 rfl rfl (by omega) (by omega) nr_3 (by omega)) rfl rfl ?_
            refine sOp rfl (oStore1 rfl rfl rfl sz62 hB212 (by exact lq) ?_)
            intro w240 hU241 hz242 hB243
            replace hB243 : Blk w240 g143 62 ((P2 ++ [cy2]).map u32) := by rw [← (last_set (hP2.trans (by omega)) (by omega) : (P2 ++ List.replicate (nr_3 + 1 - k2) 0).set nr_3 cy2 = P2 ++ [cy2]), List.map_set]; exact hB243
            refine sDone ?_
            refine xN (hK239 _ _ ?_)
            refine wp_seq_k fun K244 hK244 => ?_
            refine wp_region_lit ?_
            refine sEv (v := (.slice (some ⟨g143, 0, none⟩) (nr_3 + 1) (nr_3 + 1))) (rfl) rfl rfl ?_
            have h245 : NatR w240 (fun b => b = g143) (some ⟨g143, 0, none⟩) (nr_3 + 1) (nr_3 + 1) (P2 ++ [cy2]) := NatR.of_blk hB243 rfl (lt_snoc hlt2 (by omega)) (by exact lq) (by omega) (by unfold CapMax; omega)
            refine sOp rfl (oCall rfl call99 (natural_trim h245) rfl ?_)
            rintro _ w247 ⟨Ar_246, nr_246, cr_246, dr_246, rfl, hE248, hr_246, e_246, le_246⟩
            have hz249 := hE248.size
            have lr_246 := hr_246.len; have kr_246 := hr_246.cap; have mr_246 := hr_246.max
            refine sEv (v := (.slice Ar_246 nr_246 cr_246)) (rfl) rfl rfl ?_
            refine sDone ?_
            refine xN (hK244 _ _ ?_)
            refine wp_ret ?_
            refine ret1 (.slice Ar_246 nr_246 cr_246) Try.results89 (resT rfl) ?_
            exact ⟨Ar_246, nr_246, cr_246, dr_246, rfl, (Frm.mono ((((((((Frm.of_ext (G := fun b => (b = g135 ∨ b = g143) ∨ (b = g143)) hE5).trans (Frm.of_ext (G := fun b => (b = g135 ∨ b = g143) ∨ (b = g143)) hE11)).trans (Frm.of_ext (G := fun b => (b = g135 ∨ b = g143) ∨ (b = g143)) hE138)).trans (Frm.of_ext (G := fun b => (b = g135 ∨ b = g143) ∨ (b = g143)) hE146)).trans (hF163.mono (G' := fun b => (b = g135 ∨ b = g143) ∨ (b = g143)) fun _ _ h => .inl h)).trans (hF210.mono (G' := fun b => (b = g135 ∨ b = g143) ∨ (b = g143)) fun _ _ h => .inl h)).trans (hU241.mono (G' := fun b => (b = g135 ∨ b = g143) ∨ (b = g143)) fun _ _ h => .inr h)).trans (Frm.of_ext (G := fun b => (b = g135 ∨ b = g143) ∨ (b = g143)) hE248)) q4), (NatR.sub hr_246 q5), (add_fin e_246 (add_end hv2 hP2 (by omega) (by omega)) e_3 e_9 rfl), (by rw [e_246]; exact canon_trim _ _), (by omega)⟩

end Go.Proofs.Ytppegjbdencefaa
