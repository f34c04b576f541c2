/-
  Walk of package squarefree: exact quotients, square-free parts; the law awake.
-/
import Derived.Test.YtbniolgfaeiedaaGreatGc2
import Derived.Test.YtbniolgfaeiedaaGreatLibB
namespace Go.Proofs.YtbniolgfaeiedaaGreat
open Go.RowKit Go.Gx
theorem squarefree_quotient {w : World} {Sf : Nat → Prop} {Af : Option Addr} {nf cf Mf : Nat} {lf : List RI} {Sg : Nat → Prop} {Ag : Option Addr} {ng cg Mg : Nat} {lg : List RI} (hf : PolyR w Sf Af nf cf lf Mf) (hg : PolyR w Sg Ag ng cg lg Mg) (hnf : nf ≤ 11) (hMf : Mf ≤ 65536) (hng : ng ≤ 11) (hMg : Mg ≤ 65536) (hnm : Nrm (zs lg)) (hdv : P (zs lg) ∣ P (zs lf)) : Calls Tryz.prog 43 #[(.slice Af nf cf), (.slice Ag ng cg)] w (Ret fun v w' => ∃ (Ar : Option Addr) (nr : Nat) (cr : Nat) (lr : List RI), v = (.slice Ar nr cr) ∧ Ext w w' ∧ PolyR w' (fun b => w.heap.size ≤ b) Ar nr cr lr (exM Mf Mg ((trimZ (zs lf)).length - ((trimZ (zs lg)).length - 1))) ∧ (P (zs lf) = P (zs lr) * P (zs lg)) ∧ (nr = (trimZ (zs lf)).length - ((trimZ (zs lg)).length - 1)) ∧ (nr ≤ nf) ∧ (AllC lr)) := by
  have ⟨kf, jf, mf⟩ := hf.lkm
  replace hf := hf.low
  have ⟨kg, jg, mg⟩ := hg.lkm
  replace hg := hg.low
  refine enter Tryz.func43 rfl Tryz.ntmps43 rfl ?_
  have hg0 : ldP (zs lg) ≠ 0 := by have h := hnm.s; omega
  refine rS fun K1 hK1 => sAs rfl (sK hK1 (rS fun K2 hK2 => sMs rfl (sMs rfl (sO (oCall rfl call66 (unidiv_Exact hf hg (by omega) (by omega) (by omega) (by omega) (by assumption)) rfl ?_)))))
  rintro _ w4 ⟨Aq_3, nq_3, cq_3, lq_3, xe_3, rfl, hE5, hq_3, ex_3, cn_3, ln_3, lk_3⟩
  have hz6 := hE5.size
  have ⟨kq_3, jq_3, mq_3⟩ := hq_3.lkm
  refine sV (v := (.tuple #[(.slice Aq_3 nq_3 cq_3), (.int .i64 (xe_3))])) (rfl) (sV (v := (.slice Aq_3 nq_3 cq_3)) (rfl) (sV (v := (.int .i64 (xe_3))) (rfl) (sAs rfl (sAi rfl (sK hK2 (rS fun K8 hK8 => sMs rfl (sAs rfl (sK hK8 (wp_ret (ret1 (.slice Aq_3 nq_3 cq_3) Tryz.results43 (resT rfl) ?_))))))))))
  have hok := ex_3.resolve_right fun hh => exFail_not hnm.c hg0 hh.2 hdv
  exact ⟨Aq_3, nq_3, cq_3, lq_3, rfl, hE5, (PolyR.le (PolyR.sub hq_3 q5) (by omega)), (QP.eq hok.2), (lk_3 hok.1), (by omega), cn_3⟩
theorem squarefree_Part {w : World} {Sf : Nat → Prop} {Af : Option Addr} {nf cf Mf : Nat} {lf : List RI} (hf : PolyR w Sf Af nf cf lf Mf) (hnf : nf ≤ 11) (hMf : Mf ≤ 64) (hN : nrm (zs lf) ≤ 16777216) : Calls Tryz.prog 22 #[(.slice Af nf cf)] w (Ret fun v w' => ∃ (Ar : Option Addr) (nr : Nat) (cr : Nat) (lr : List RI), v = (.slice Ar nr cr) ∧ Ext w w' ∧ PolyR w' (fun b => w.heap.size ≤ b) Ar nr cr lr (17) ∧ ((P (zs lf) = 0 ∧ zs lr = []) ∨ (P (zs lf) ≠ 0 ∧ PartOf (zs lf) (zs lr))) ∧ (nr ≤ 11) ∧ (AllC lr)) := by
  have ⟨kf, jf, mf⟩ := hf.lkm
  replace hf := hf.low
  refine enter Tryz.func22 rfl Tryz.ntmps22 rfl (rS fun K1 hK1 => sAs rfl (sK hK1 (wp_seq_k fun K2 hK2 => rS fun K3 hK3 => sMs rfl (sO (oCall rfl call19 (unipoly_Degree hf (by omega) (by omega)) rfl ?_)))))
  rintro _ w5 ⟨xr_4, rfl, hE6, e_4⟩
  have hz7 := hE6.size
  by_cases hc8 : xr_4 < 0
  · refine sV (evLss true rfl rfl (dT hc8)) (sK hK3 (cT rfl (rS fun K9 hK9 => sAs rfl (sK hK9 (wp_ret (xR (ret1 (.slice none 0 0) Tryz.results22 (resT rfl) ?_)))))))
    exact ⟨none, 0, 0, [], rfl, hE6, PolyR.nil, (.inl ⟨dg_zero.1 (by rw [dg_P]; omega), rfl⟩), (by omega), AllC.nil⟩
  · refine sV (evLss false rfl rfl (dF hc8)) ?_
    have hF : P (zs lf) ≠ 0 := (ld_ne_iff _).1 (ld_of_deg e_4 (by omega))
    refine sK hK3 (cF rfl (wp_skip (xN (hK2 _ _ (rS fun K10 hK10 => sMs rfl ?_)))))
    have h11 := (hf.ext hE6)
    refine sO (oCall rfl call35 (unidiv_Primitive h11 (by omega) (by omega)) rfl ?_)
    rintro _ w13 ⟨Ar_12, nr_12, cr_12, lr_12, rfl, hE14, hr_12, e_12, ln_12, cn_12⟩
    have hz15 := hE14.size
    have ⟨kr_12, jr_12, mr_12⟩ := hr_12.lkm
    have hpn : Nrm (zs lr_12) := by rw [e_12]; exact nrm_prim hF
    have hpl : nrm (zs lr_12) ≤ 16777216 := by rw [e_12]; exact Nat.le_trans (nrm_prim_le _) hN
    have hpt : (trimZ (zs lr_12)).length ≤ 11 := by have h := trimZ_len (zs lr_12); rw [zlen] at h; omega
    refine sAs rfl (sK hK10 (rS fun K17 hK17 => sMs rfl (sMs rfl (sMs rfl (sO (oCall rfl call36 (unipoly_Derivative hr_12 (by omega) (by omega)) rfl ?_))))))
    rintro _ w19 ⟨Ar_18, nr_18, cr_18, lr_18, rfl, hE20, hr_18, e_18, ln_18, cn_18⟩
    have hz21 := hE20.size
    have ⟨kr_18, jr_18, mr_18⟩ := hr_18.lkm
    have h23 := (hr_12.ext hE20)
    refine sO (oCall rfl call39 (unidiv_Gcd h23 hr_18 (by omega) (by omega) (by omega) (by omega)) rfl ?_)
    rintro _ w25 ⟨Ar_24, nr_24, cr_24, lr_24, rfl, hE26, hr_24, gc_24, ln_24, cn_24⟩
    have hz27 := hE26.size
    have ⟨kr_24, jr_24, mr_24⟩ := hr_24.lkm
    have hgn := gcd_nrm hpn gc_24; have hgd := gc_24.q.1
    have hT29 := PolyR.tight (K := 17) hr_24 cn_24 (div17q hgn.c hgd hpn.ne hpl hpt)
    have h30 := (h23.ext hE26)
    refine sO (oCall rfl call43 (squarefree_quotient h30 hT29 (by omega) (by omega) (by omega) (by omega) (by assumption) (by assumption)) rfl ?_)
    rintro _ w32 ⟨Ar_31, nr_31, cr_31, lr_31, rfl, hE33, hr_31, e_31, lk_31, ln_31, cn_31⟩
    have hz34 := hE33.size
    have ⟨kr_31, jr_31, mr_31⟩ := hr_31.lkm
    have htr : trimZ (zs lr_31) = zs lr_31 := quo_trim e_31 hpn.ne (by rw [zlen]; omega)
    have hpo := part_main hF e_12 e_18 gc_24 e_31 htr
    have hT36 := PolyR.tight (K := 17) hr_31 cn_31 (div17 ⟨_, e_31⟩ hpn.ne hpl hpt)
    refine sAs rfl (sK hK17 (wp_ret (ret1 (.slice Ar_31 nr_31 cr_31) Tryz.results22 (resT rfl) ?_)))
    have hR37 := (((hE6.trans hE14).trans hE20).trans hE26).trans hE33
    exact ⟨Ar_31, nr_31, cr_31, lr_31, rfl, hR37, (PolyR.le (PolyR.sub hT36 q5) (by omega)), (.inr ⟨hF, hpo⟩), (by omega), cn_31⟩
theorem law11_awake {w : World}    : Calls Tryz.prog 5 #[] w (Ret fun v w' => ∃ (gr : Bool), v = (.bool gr) ∧ Ext w w' ∧ (gr = true)) := by
  refine enter Tryz.func5 rfl Tryz.ntmps5 rfl (rS fun K1 hK1 => sAb rfl (sK hK1 (rS fun K2 hK2 => sO (oBuildSlice [(.int .i64 (0)), (.int .i64 (0)), (.int .i64 (1))] [[(.int .i64 (0))], [(.int .i64 (0))], [(.int .i64 (1))]] Tryz.underlying74 inf2 rfl rfl rfl rfl rfl (fun g3 w4 hg5 hE6 hz7 hB8 => ?_)))))
  replace hB8 : Blk w4 g3 2 [(.int .i64 (0)), (.int .i64 (0)), (.int .i64 (1))] := hB8
  refine sO (oCall rfl call23 (unipoly_Of (IntsR.of_blk (S := fun b => b = g3) (n := 3) (c := 3) (xs := [0, 0, 1]) hB8 rfl (by decide) rfl (Nat.le_refl _) (by decide)) (by omega)) rfl ?_)
  rintro _ w10 ⟨Ar_9, nr_9, cr_9, lr_9, rfl, hE11, hr_9, e_9, le_9, cn_9⟩
  have hz12 := hE11.size
  have ⟨kr_9, jr_9, mr_9⟩ := hr_9.lkm
  have hzf : zs lr_9 = [0, 0, 1] := by rw [e_9]; decide
  have hzn : nrm (zs lr_9) ≤ 16777216 := by rw [hzf]; decide
  refine sO (oCall rfl call22 (squarefree_Part hr_9 (by omega) (by omega) (by omega)) rfl ?_)
  rintro _ w15 ⟨Ar_14, nr_14, cr_14, lr_14, rfl, hE16, hr_14, pt_14, ln_14, cn_14⟩
  have hz17 := hE16.size
  have ⟨kr_14, jr_14, mr_14⟩ := hr_14.lkm
  have hzp : zs lr_14 = [0, 1] := by have h := pt_14; rw [hzf] at h; exact part_x (h.resolve_left fun hh => absurd (P_len hh.1) (by decide)).2
  refine sO (oBuildSlice [(.int .i64 (0)), (.int .i64 (1))] [[(.int .i64 (0))], [(.int .i64 (1))]] Tryz.underlying74 inf2 rfl rfl rfl rfl rfl (fun g19 w20 hg21 hE22 hz23 hB24 => ?_))
  replace hB24 : Blk w20 g19 2 [(.int .i64 (0)), (.int .i64 (1))] := hB24
  refine sO (oCall rfl call23 (unipoly_Of (IntsR.of_blk (S := fun b => b = g19) (n := 2) (c := 2) (xs := [0, 1]) hB24 rfl (by decide) rfl (Nat.le_refl _) (by decide)) (by omega)) rfl ?_)
  rintro _ w26 ⟨Ar_25, nr_25, cr_25, lr_25, rfl, hE27, hr_25, e_25, le_25, cn_25⟩
  have hz28 := hE27.size
  have ⟨kr_25, jr_25, mr_25⟩ := hr_25.lkm
  have hR30 := hE22.trans hE27
  have h31 := (hr_14.ext hR30)
  refine sO (oCall rfl call11 (unipoly_Same h31 hr_25) rfl ?_)
  rintro _ w33 ⟨gr_32, rfl, hE34, e_32⟩
  have hz35 := hE34.size
  refine sAb rfl (sK hK2 (wp_ret (ret1 (.bool gr_32) Tryz.results5 (resT rfl) ?_)))
  have hgt : gr_32 = true := by rw [e_32, hzp, e_25]; decide
  have hR36 := ((((hE6.trans hE11).trans hE16).trans hE22).trans hE27).trans hE34
  exact ⟨(gr_32), rfl, hR36, hgt⟩
end Go.Proofs.YtbniolgfaeiedaaGreat
