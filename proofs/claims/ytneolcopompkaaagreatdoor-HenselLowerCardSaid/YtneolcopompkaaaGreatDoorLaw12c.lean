/-
  Walks of what the law HenselReturns calls: the small primes, monic polynomials, pairwise coprime.
-/
import Derived.Test.YtneolcopompkaaaGreatDoorLaw12a
import Derived.Test.YtneolcopompkaaaGreatDoorLibB
namespace Go.Proofs.YtneolcopompkaaaGreatDoor
open Go.RowKit Go.Gx Tryz
theorem law12_small {w : World} {xn : Nat} (bn : xn < 256)  : Calls Tryz.prog 15 #[(.int .u8 xn)] w (Ret fun v w' => ∃ (xr : Nat), v = (.int .u32 xr) ∧ Ext w w' ∧ xr < 4294967296 ∧ (xr = 2 ∨ xr = 3 ∨ xr = 5 ∨ xr = 7 ∨ xr = 11 ∨ xr = 13)) := by
 refine enter func15 rfl ntmps15 rfl (rS fun n c => sAi rfl (sK c (rS fun o d => sO (oBuildSlice [(.int .u32 (2)), (.int .u32 (3)), (.int .u32 (5)), (.int .u32 (7)), (.int .u32 (11)), (.int .u32 (13))] [[(.int .u32 (2))], [(.int .u32 (3))], [(.int .u32 (5))], [(.int .u32 (7))], [(.int .u32 (11))], [(.int .u32 (13))]] underlying22 inf26 rfl rfl rfl rfl rfl (fun e f k g l a => ?_)))));replace a : Blk f e 26 [(.int .u32 (2)), (.int .u32 (3)), (.int .u32 (5)), (.int .u32 (7)), (.int .u32 (11)), (.int .u32 (13))] := a;have h : Blk f e 26 (([2, 3, 5, 7, 11, 13]).map u32) := a;refine sAs rfl (sK d (rS fun m b => sMs rfl (sMi rfl (sV (evConv ((xn : Int)) underlying5 underlying3 rfl (wI64 Qo)) (sMs rfl (sV (evLen underlying22 rfl) (sV (evRem (((xn % 6 : Nat) : Int)) rfl rfl Qo (remE Qo Qo)) (sV (evIx (xn % 6) underlying22 sz26 rfl rfl (xn % 6)) ?_))))))));have j := getD_lt (ds := [2, 3, 5, 7, 11, 13]) (i := xn % 6) (by decide);refine sV (evLoad one26 rfl (h.dig (by exact lq))) (sAi rfl (sK b (wp_ret (ret1 (.int .u32 (((([2, 3, 5, 7, 11, 13]).getD (xn % 6) 0 : Nat) : Int))) results15 (resT rfl) ?_))));exact ⟨(([2, 3, 5, 7, 11, 13]).getD (xn % 6) 0), rfl, g, Qo, (small6 (i := xn % 6) Qo)⟩
end Go.Proofs.YtneolcopompkaaaGreatDoor
