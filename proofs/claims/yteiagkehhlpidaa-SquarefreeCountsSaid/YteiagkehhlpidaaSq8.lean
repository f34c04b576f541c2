/-
  Walks of package squarefree: the square-free part of x^2; of the laws: awake.
-/
import Derived.Test.YteiagkehhlpidaaSq7
import Derived.Test.YteiagkehhlpidaaUni3
import Derived.Test.YteiagkehhlpidaaSqMath3
namespace Go.Proofs.Yteiagkehhlpidaa
open Go.RowKit Go.Gx
theorem squarefree_quotient_x {w : World} {Sf : Nat → Prop} {Af : Option Addr} {nf cf Mf : Nat} {lf : List RI} {Sg : Nat → Prop} {Ag : Option Addr} {ng cg Mg : Nat} {lg : List RI} (hf : PolyR w Sf Af nf cf lf Mf) (hg : PolyR w Sg Ag ng cg lg Mg) (hnf : nf ≤ 8) (hng : ng ≤ 8) (hMf : Mf ≤ 1024) (hMg : Mg ≤ 1048576) (hzf : zs lf = [0, 0, 1]) (hzg : trimZ (zs lg) = [0, 1] ∧ zs lg = [0, 1]) : Calls Try.prog 31 #[(.slice Af nf cf), (.slice Ag ng cg)] w (Ret fun v w' => ∃ (Ar : Option Addr) (nr : Nat) (cr : Nat) (lr : List RI), v = (.slice Ar nr cr) ∧ Ext w w' ∧ PolyR w' (fun b => w.heap.size ≤ b) Ar nr cr lr (Mf + 67200000) ∧ (trimZ (zs lr) = [0, 1]) ∧ (nr ≤ nf)) := by
  have ⟨kf, jf, mf⟩ := hf.lkm
  replace hf := hf.low
  have ⟨kg, jg, mg⟩ := hg.lkm
  replace hg := hg.low
  refine enter Try.func31 rfl Try.ntmps31 rfl ?_
  have hgl : ldP (zs lg) ≠ 0 := by rw [hzg.2]; decide
  refine rS fun K1 hK1 => sAs rfl (sK hK1 (rS fun K2 hK2 => sMs rfl (sMs rfl (sO (oCall rfl call43 (unidiv_Exact hf hg (by omega) (by omega) (by omega) (by omega) (by assumption)) rfl ?_)))))
  rintro _ w4 ⟨Aq_3, nq_3, cq_3, lq_3, xe_3, rfl, hE5, hq_3, ex_3, cn_3, ln_3⟩
  have hz6 := hE5.size
  have ⟨kq_3, jq_3, mq_3⟩ := hq_3.lkm
  refine sV (v := (.tuple #[(.slice Aq_3 nq_3 cq_3), (.int .i64 (xe_3))])) (rfl) (sV (v := (.slice Aq_3 nq_3 cq_3)) (rfl) (sV (v := (.int .i64 (xe_3))) (rfl) (sAs rfl (sAi rfl (sK hK2 (rS fun K8 hK8 => sMs rfl (sAs rfl (sK hK8 (wp_ret (ret1 (.slice Aq_3 nq_3 cq_3) Try.results31 (resT rfl) ?_))))))))))
  exact ⟨Aq_3, nq_3, cq_3, lq_3, rfl, hE5, (PolyR.le (PolyR.sub hq_3 q5) (by omega)), (quo_x (by have h := ex_3; rw [hzf, hzg.2] at h; exact (h.resolve_right fun hh => ex_none hh.2).2)), (by omega)⟩

theorem squarefree_Part_x {w : World} {Sf : Nat → Prop} {Af : Option Addr} {nf cf Mf : Nat} {lf : List RI} (hf : PolyR w Sf Af nf cf lf Mf) (hnf : nf ≤ 8) (hMf : Mf ≤ 2) (hzf : zs lf = [0, 0, 1]) : Calls Try.prog 16 #[(.slice Af nf cf)] w (Ret fun v w' => ∃ (Ar : Option Addr) (nr : Nat) (cr : Nat) (lr : List RI), v = (.slice Ar nr cr) ∧ Ext w w' ∧ PolyR w' (fun b => w.heap.size ≤ b) Ar nr cr lr (67300000) ∧ (trimZ (zs lr) = [0, 1]) ∧ (nr ≤ 8)) := by
  have ⟨kf, jf, mf⟩ := hf.lkm
  replace hf := hf.low
  refine enter Try.func16 rfl Try.ntmps16 rfl (rS fun K1 hK1 => sAs rfl (sK hK1 (wp_seq_k fun K2 hK2 => rS fun K3 hK3 => sMs rfl (sO (oCall rfl call14 (unipoly_Degree hf (by omega) (by omega)) rfl ?_)))))
  rintro _ w5 ⟨xr_4, rfl, hE6, e_4⟩
  have hz7 := hE6.size
  refine sV (evLss false rfl rfl (dF (by rw [e_4, hzf]; decide))) (sK hK3 (cF rfl (wp_skip (xN (hK2 _ _ (rS fun K8 hK8 => sMs rfl ?_))))))
  have h9 := (hf.ext hE6)
  refine sO (oCall rfl call30 (unidiv_Primitive h9 (by omega) (by omega)) rfl ?_)
  rintro _ w11 ⟨Ar_10, nr_10, cr_10, lr_10, rfl, hE12, hr_10, e_10, ln_10, cn_10⟩
  have hz13 := hE12.size
  have ⟨kr_10, jr_10, mr_10⟩ := hr_10.lkm
  have hzp : zs lr_10 = [0, 0, 1] := by rw [e_10, hzf]; decide
  refine sAs rfl (sK hK8 (rS fun K15 hK15 => sMs rfl (sMs rfl (sMs rfl (sO (oCall rfl call33 (unipoly_Derivative hr_10 (by omega) (by omega)) rfl ?_))))))
  rintro _ w17 ⟨Ar_16, nr_16, cr_16, lr_16, rfl, hE18, hr_16, e_16, ln_16, cn_16⟩
  have hz19 := hE18.size
  have ⟨kr_16, jr_16, mr_16⟩ := hr_16.lkm
  have hzd : zs lr_16 = [0, 2] := by rw [e_16, hzp]; decide
  have h21 := (hr_10.ext hE18)
  refine sO (oCall rfl call32 (unidiv_Gcd_x h21 hr_16 (by omega) (by omega) (by omega) (by omega) (by assumption) (by assumption)) rfl ?_)
  rintro _ w23 ⟨Ar_22, nr_22, cr_22, lr_22, rfl, hE24, hr_22, e_22, ln_22⟩
  have hz25 := hE24.size
  have ⟨kr_22, jr_22, mr_22⟩ := hr_22.lkm
  have hzg : trimZ (zs lr_22) = [0, 1] ∧ zs lr_22 = [0, 1] := ⟨by rw [e_22]; decide, e_22⟩
  have h27 := (h21.ext hE24)
  refine sO (oCall rfl call31 (squarefree_quotient_x h27 hr_22 (by omega) (by omega) (by omega) (by omega) (by assumption) (by assumption)) rfl ?_)
  rintro _ w29 ⟨Ar_28, nr_28, cr_28, lr_28, rfl, hE30, hr_28, e_28, ln_28⟩
  have hz31 := hE30.size
  have ⟨kr_28, jr_28, mr_28⟩ := hr_28.lkm
  refine sAs rfl (sK hK15 (wp_ret (ret1 (.slice Ar_28 nr_28 cr_28) Try.results16 (resT rfl) ?_)))
  have hR33 := (((hE6.trans hE12).trans hE18).trans hE24).trans hE30
  exact ⟨Ar_28, nr_28, cr_28, lr_28, rfl, hR33, (PolyR.le (PolyR.sub hr_28 q5) (by omega)), e_28, (by omega)⟩

theorem law11_awake {w : World}    : Calls Try.prog 5 #[] w (Ret fun v w' => ∃ (gr : Bool), v = (.bool gr) ∧ Ext w w' ∧ (gr = true)) := by
  refine enter Try.func5 rfl Try.ntmps5 rfl (rS fun K1 hK1 => sAb rfl (sK hK1 (rS fun K2 hK2 => sO (oBuildSlice [(.int .i64 (0)), (.int .i64 (0)), (.int .i64 (1))] [[(.int .i64 (0))], [(.int .i64 (0))], [(.int .i64 (1))]] Try.underlying48 inf2 rfl rfl rfl rfl rfl (fun g3 w4 hg5 hE6 hz7 hB8 => ?_)))))
  replace hB8 : Blk w4 g3 2 [(.int .i64 (0)), (.int .i64 (0)), (.int .i64 (1))] := hB8
  refine sO (oCall rfl call17 (unipoly_Of (IntsR.of_blk (S := fun b => b = g3) (n := 3) (c := 3) (xs := [0, 0, 1]) hB8 rfl (by decide) rfl (Nat.le_refl _) (by decide)) (by omega)) rfl ?_)
  rintro _ w10 ⟨Ar_9, nr_9, cr_9, lr_9, rfl, hE11, hr_9, e_9, le_9, cn_9⟩
  have hz12 := hE11.size
  have ⟨kr_9, jr_9, mr_9⟩ := hr_9.lkm
  have hzf : zs lr_9 = [0, 0, 1] := by rw [e_9]; decide
  refine sO (oCall rfl call16 (squarefree_Part_x hr_9 (by omega) (by omega) (by assumption)) rfl ?_)
  rintro _ w15 ⟨Ar_14, nr_14, cr_14, lr_14, rfl, hE16, hr_14, e_14, ln_14⟩
  have hz17 := hE16.size
  have ⟨kr_14, jr_14, mr_14⟩ := hr_14.lkm
  refine sO (oBuildSlice [(.int .i64 (0)), (.int .i64 (1))] [[(.int .i64 (0))], [(.int .i64 (1))]] Try.underlying48 inf2 rfl rfl rfl rfl rfl (fun g19 w20 hg21 hE22 hz23 hB24 => ?_))
  replace hB24 : Blk w20 g19 2 [(.int .i64 (0)), (.int .i64 (1))] := hB24
  refine sO (oCall rfl call17 (unipoly_Of (IntsR.of_blk (S := fun b => b = g19) (n := 2) (c := 2) (xs := [0, 1]) hB24 rfl (by decide) rfl (Nat.le_refl _) (by decide)) (by omega)) rfl ?_)
  rintro _ w26 ⟨Ar_25, nr_25, cr_25, lr_25, rfl, hE27, hr_25, e_25, le_25, cn_25⟩
  have hz28 := hE27.size
  have ⟨kr_25, jr_25, mr_25⟩ := hr_25.lkm
  have hR30 := hE22.trans hE27
  have h31 := (hr_14.ext hR30)
  refine sO (oCall rfl call11 (unipoly_Same h31 hr_25) rfl ?_)
  rintro _ w33 ⟨gr_32, rfl, hE34, e_32⟩
  have hz35 := hE34.size
  refine sAb rfl (sK hK2 (wp_ret (ret1 (.bool gr_32) Try.results5 (resT rfl) ?_)))
  have hgt : gr_32 = true := by rw [e_32, e_14, e_25]; decide
  have hR36 := ((((hE6.trans hE11).trans hE16).trans hE22).trans hE27).trans hE34
  exact ⟨(gr_32), rfl, hR36, hgt⟩

end Go.Proofs.Yteiagkehhlpidaa
