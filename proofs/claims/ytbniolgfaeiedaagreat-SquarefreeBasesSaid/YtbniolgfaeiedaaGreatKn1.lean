/-
  Walks of package cylinderref11: polynomials with int coefficients, their parts.
-/
import Derived.Test.YtbniolgfaeiedaaGreatFacts
import Derived.Test.YtbniolgfaeiedaaGreatLibB
import Derived.Test.YtbniolgfaeiedaaGreatFacts2
namespace Go.Proofs.YtbniolgfaeiedaaGreat
open Go.RowKit Go.Gx
theorem ref11_Trim {w : World} {Sf : Nat → Prop} {Af : Option Addr} {nf cf : Nat} {xf : List Int} (hf : IntsR w Sf Af nf cf xf)  : Calls Tryz.prog 49 #[(.slice Af nf cf)] w (Ret fun v w' => ∃ (Ar : Option Addr) (nr : Nat) (cr : Nat) (xr : List Int), v = (.slice Ar nr cr) ∧ Ext w w' ∧ IntsR w' (Sf) Ar nr cr xr ∧ (xr = trimZ xf) ∧ (nr ≤ nf)) := by
  have ⟨lf, kf, mf⟩ := hf.lkm; replace hf := hf.sub (S' := fun b => Sf b ∧ b < w.heap.size) fun _ hb hs => ⟨hs, hb⟩
  refine enter Tryz.func49 rfl Tryz.ntmps49 rfl (rS fun K1 hK1 => sAs rfl (sK hK1 (rS fun K2 hK2 => sMs rfl (sV (evLen Tryz.underlying39 rfl) (sAi rfl (sK hK2 (wp_seq_k fun K3 hK3 => wp_block ?_)))))))
  refine lLoop (fun m e w_ => ∃ (k : Nat), m = k ∧ e 0 = (.slice Af nf cf) ∧ e 3 = (.int .i64 ((k : Int))) ∧ Frm (fun b => False) w w_ ∧ (k ≤ nf) ∧ (∀ j, k ≤ j → xf.getD j 0 = 0)) ((nf)) ?_ ?_
  · refine ⟨(nf), rfl, rfl, cI, (Frm.refl _ _), ?_, ?_⟩
    · omega
    · exact zget_ge (by omega)
  · rintro m4 e10 w5 ⟨k, hm9, hs6, hs7, hF8, hk, hz⟩
    obtain ⟨r11, rfl⟩ := sq (e := e10) (t := 0) hs6
    obtain ⟨r12, rfl⟩ := sq (e := r11) (t := 3) hs7
    have hz13 := hF8.size
    refine wp_seq_k fun K14 hK14 => rS fun K15 hK15 => sMi rfl ?_
    by_cases hc16 : ((k : Int)) > 0
    · refine sV (evGtr true rfl rfl (dT hc16)) (sMb rfl (sEv (v := (.slice Af nf cf)) (rfl) rfl rfl (sEv (v := (.int .i64 ((k : Int)))) (rfl) rfl rfl (sEv (v := (.int .i64 (((k : Int)) - 1))) (evSub (((k : Int)) - 1) rfl rfl wI) rfl rfl ?_))))
      have h17 := (hf.ext hF8)
      obtain ⟨b18, o19, rfl⟩ := h17.base (by omega)
      refine sEv (v := (.pointer (some ⟨b18, o19 + (k - 1), none⟩))) (evIx (k - 1) Tryz.underlying39 sz3 rfl rfl (o19 + (k - 1))) rfl rfl ?_
      have hr20 := h17.rng (k - 1)
      refine sEv (v := (.int .i64 (xf.getD (k - 1) 0))) (evLoad one3 rfl (h17.cell (by omega))) rfl rfl ?_
      by_cases hc21 : (xf.getD (k - 1) 0) = 0
      · refine sEv (v := (.bool true)) (evEql true rfl rfl (dT hc21)) rfl rfl (sV (v := (.bool true)) (rfl) (sK hK15 (cT rfl (wp_skip (xN (hK14 _ _ (wp_block (wp_region_lit (sMi rfl (sV (evSub (((k : Int)) - 1) rfl rfl wI) (sAi rfl (sDone (bN (again ((k - 1)) (by omega) ⟨(k - 1), rfl, rfl, cI, hF8, ?_, ?_⟩))))))))))))))
        · omega
        · exact zgetD_downI hz (by omega)
      · refine sEv (v := (.bool false)) (evEql false rfl rfl (dF hc21)) rfl rfl (sV (v := (.bool false)) (rfl) (sK hK15 (cF rfl (wp_exit (xE (xE (bE (xN (hK3 _ _ (rS fun K22 hK22 => sMs rfl (sMi rfl ?_)))))))))))
        have h23 := h17.take (m := k) (by omega)
        refine sV (evSliceHi k Tryz.underlying39 sz3 rfl rfl (by omega) (by omega)) (sAs rfl (sK hK22 (wp_ret (ret1 (.slice (some ⟨b18, o19, none⟩) k cf) Tryz.results49 (resT rfl) ?_))))
        exact ⟨(some ⟨b18, o19, none⟩), k, cf, ((xf).take k), rfl, hF8, (IntsR.sub h23 fun _ _ h => h.1), (trimZ_of (by omega) hz (by omega)), (by omega)⟩
    · refine sV (evGtr false rfl rfl (dF hc16)) (sMb rfl (sSkip rfl rfl (sSkip rfl rfl (sSkip rfl rfl (sSkip rfl rfl (sSkip rfl rfl (sSkip rfl rfl (sV (v := (.bool false)) (rfl) (sK hK15 (cF rfl (wp_exit (xE (xE (bE (xN (hK3 _ _ (rS fun K25 hK25 => sMs rfl (sMi rfl ?_))))))))))))))))))
      have h26 := (hf.ext hF8)
      have h27 := h26.take (m := k) (by omega)
      refine sV (evSliceHi k Tryz.underlying39 sz3 rfl rfl (by omega) (by omega)) (sAs rfl (sK hK25 (wp_ret (ret1 (.slice Af k cf) Tryz.results49 (resT rfl) ?_))))
      exact ⟨Af, k, cf, ((xf).take k), rfl, hF8, (IntsR.sub h27 fun _ _ h => h.1), (trimZ_of (by omega) hz (by omega)), (by omega)⟩
set_option maxHeartbeats 1000000 in
theorem ref11_Mul {w : World} {Sf : Nat → Prop} {Af : Option Addr} {nf cf : Nat} {xf : List Int} {Sg : Nat → Prop} {Ag : Option Addr} {ng cg : Nat} {xg : List Int} (hf : IntsR w Sf Af nf cf xf) (hg : IntsR w Sg Ag ng cg xg) (hN : nrm xf * nrm xg ≤ 4611686018427387904) (hnf : nf ≤ 64) (hng : ng ≤ 64) : Calls Tryz.prog 29 #[(.slice Af nf cf), (.slice Ag ng cg)] w (Ret fun v w' => ∃ (Ar : Option Addr) (nr : Nat) (cr : Nat) (xr : List Int), v = (.slice Ar nr cr) ∧ Ext w w' ∧ IntsR w' (fun b => w.heap.size ≤ b) Ar nr cr xr ∧ (xr = trimZ (pmul xf xg)) ∧ (nr ≤ nf + ng)) := by
  have ⟨lf, kf, mf⟩ := hf.lkm
  replace hf := hf.low
  have ⟨lg, kg, mg⟩ := hg.lkm
  replace hg := hg.low
  refine enter Tryz.func29 rfl Tryz.ntmps29 rfl (rS fun K1 hK1 => sAs rfl (sK hK1 (rS fun K2 hK2 => sMs rfl (sO (oCall rfl call49 (ref11_Trim hf) rfl ?_)))))
  rintro _ w4 ⟨Ar_3, nr_3, cr_3, xr_3, rfl, hE5, hr_3, e_3, le_3⟩
  have hz6 := hE5.size
  have ⟨lr_3, kr_3, mr_3⟩ := hr_3.lkm
  refine sAs rfl (sK hK2 (rS fun K8 hK8 => sMs rfl ?_))
  have h9 := (hg.ext hE5)
  refine sO (oCall rfl call49 (ref11_Trim h9) rfl ?_)
  rintro _ w11 ⟨Ar_10, nr_10, cr_10, xr_10, rfl, hE12, hr_10, e_10, le_10⟩
  have hz13 := hE12.size
  have ⟨lr_10, kr_10, mr_10⟩ := hr_10.lkm
  have hN2 : nrm xr_3 * nrm xr_10 ≤ 4611686018427387904 := by rw [nrm_trim_le e_3, nrm_trim_le e_10]; exact hN
  refine sAs rfl (sK hK8 (wp_seq_k fun K15 hK15 => rS fun K16 hK16 => sMs rfl (sV (evLen Tryz.underlying39 rfl) ?_)))
  by_cases hc17 : ((nr_3 : Int)) = 0
  · refine sV (evEql true rfl rfl (dT hc17)) (sMb rfl (sSkip rfl rfl (sSkip rfl rfl (sSkip rfl rfl (sV (v := (.bool true)) (rfl) (sK hK16 (cT rfl (rS fun K18 hK18 => sAs rfl (sK hK18 (wp_ret (xR (ret1 (.slice none 0 0) Tryz.results29 (resT rfl) ?_))))))))))))
    have hR19 := hE5.trans hE12
    exact ⟨none, 0, 0, [], rfl, hR19, IntsR.nil, (mul_nil (by rw [← e_3, ← e_10]; first | exact .inl (List.eq_nil_of_length_eq_zero (by omega)) | exact .inr (List.eq_nil_of_length_eq_zero (by omega)))), (by omega)⟩
  · refine sV (evEql false rfl rfl (dF hc17)) (sMb rfl (sEv (v := (.slice Ar_10 nr_10 cr_10)) (rfl) rfl rfl (sEv (v := (.int .i64 ((nr_10 : Int)))) (evLen Tryz.underlying39 rfl) rfl rfl ?_)))
    by_cases hc20 : ((nr_10 : Int)) = 0
    · refine sEv (v := (.bool true)) (evEql true rfl rfl (dT hc20)) rfl rfl (sV (v := (.bool true)) (rfl) (sK hK16 (cT rfl (rS fun K21 hK21 => sAs rfl (sK hK21 (wp_ret (xR (ret1 (.slice none 0 0) Tryz.results29 (resT rfl) ?_))))))))
      have hR22 := hE5.trans hE12
      exact ⟨none, 0, 0, [], rfl, hR22, IntsR.nil, (mul_nil (by rw [← e_3, ← e_10]; first | exact .inl (List.eq_nil_of_length_eq_zero (by omega)) | exact .inr (List.eq_nil_of_length_eq_zero (by omega)))), (by omega)⟩
    · refine sEv (v := (.bool false)) (evEql false rfl rfl (dF hc20)) rfl rfl (sV (v := (.bool false)) (rfl) (sK hK16 (cF rfl (wp_skip (xN (hK15 _ _ (rS fun K23 hK23 => sMs rfl (sV (evLen Tryz.underlying39 rfl) (sMs rfl (sV (evLen Tryz.underlying39 rfl) (sV (evAdd (((nr_3 : Int)) + ((nr_10 : Int))) rfl rfl wI) (sV (evSub ((((nr_3 : Int)) + ((nr_10 : Int))) - 1) rfl rfl wI) (sO (oMake1 ((nr_3 + nr_10) - 1) Tryz.underlying39 inf3 rfl cI cI (by omega) (by omega) (fun g24 w25 hg26 hE27 hz28 hB29 => ?_)))))))))))))))
      have hB30 : Blk w25 g24 3 (((List.replicate ((nr_3 + nr_10) - 1) 0)).map (Value.int .i64)) := by rw [List.map_replicate]; exact hB29
      refine sAs rfl (sK hK23 (wp_seq_k fun K31 hK31 => rS fun K32 hK32 => sAi rfl (sK hK32 (wp_block ?_))))
      refine lLoop (fun m e w_ => ∃ (i : Nat) (o : List Int), m = nr_3 - i ∧ e 0 = (.slice Ar_3 nr_3 cr_3) ∧ e 1 = (.slice Ar_10 nr_10 cr_10) ∧ e 5 = (.slice (some ⟨g24, 0, none⟩) ((nr_3 + nr_10) - 1) ((nr_3 + nr_10) - 1)) ∧ e 6 = (.int .i64 ((i : Int))) ∧ Frm (fun b => b = g24) w25 w_ ∧ Blk w_ g24 3 (o.map (Value.int .i64)) ∧ (i ≤ nr_3) ∧ (o.length = nr_3 + nr_10 - 1) ∧ (∀ j, co o j = mulI xr_3 xr_10 i 0 j)) (nr_3 - (0)) ?_ ?_
      · refine ⟨(0), (List.replicate (nr_3 + nr_10 - 1) 0), rfl, rfl, rfl, rfl, cI, (Frm.refl _ _), ?_, ?_, ?_, ?_⟩
        · exact hB30
        · omega
        · simp
        · exact mulI_zero _
      · rintro m33 e42 w34 ⟨i, o, hm41, hs35, hs36, hs37, hs38, hF39, hB40, hi, hl, ho⟩
        obtain ⟨r43, rfl⟩ := sq (e := e42) (t := 0) hs35
        obtain ⟨r44, rfl⟩ := sq (e := r43) (t := 1) hs36
        obtain ⟨r45, rfl⟩ := sq (e := r44) (t := 5) hs37
        obtain ⟨r46, rfl⟩ := sq (e := r45) (t := 6) hs38
        have hz47 := hF39.size
        refine wp_seq_k fun K48 hK48 => rS fun K49 hK49 => sMi rfl (sMs rfl (sV (evLen Tryz.underlying39 rfl) ?_))
        by_cases hc50 : ((i : Int)) < ((nr_3 : Int))
        · refine sV (evLss true rfl rfl (dT hc50)) (sK hK49 (cT rfl (wp_skip (xN (hK48 _ _ (wp_seq_k fun K51 hK51 => wp_block (rS fun K52 hK52 => sAi rfl (sK hK52 (wp_block ?_)))))))))
          refine lLoop (fun m e w_ => ∃ (k : Nat) (q : List Int), m = nr_10 - k ∧ e 0 = (.slice Ar_3 nr_3 cr_3) ∧ e 1 = (.slice Ar_10 nr_10 cr_10) ∧ e 5 = (.slice (some ⟨g24, 0, none⟩) ((nr_3 + nr_10) - 1) ((nr_3 + nr_10) - 1)) ∧ e 6 = (.int .i64 ((i : Int))) ∧ e 7 = (.int .i64 ((k : Int))) ∧ Frm (fun b => b = g24) w34 w_ ∧ Blk w_ g24 3 (q.map (Value.int .i64)) ∧ (k ≤ nr_10) ∧ (q.length = nr_3 + nr_10 - 1) ∧ (∀ j, co q j = mulI xr_3 xr_10 i k j)) (nr_10 - (0)) ?_ ?_
          · refine ⟨(0), (o), rfl, rfl, rfl, rfl, rfl, cI, (Frm.refl _ _), ?_, ?_, ?_, ?_⟩
            · exact hB40
            · omega
            · omega
            · exact ho
          · rintro m53 e63 w54 ⟨k, q, hm62, hs55, hs56, hs57, hs58, hs59, hF60, hB61, hk, hlq, hq⟩
            obtain ⟨r64, rfl⟩ := sq (e := e63) (t := 0) hs55
            obtain ⟨r65, rfl⟩ := sq (e := r64) (t := 1) hs56
            obtain ⟨r66, rfl⟩ := sq (e := r65) (t := 5) hs57
            obtain ⟨r67, rfl⟩ := sq (e := r66) (t := 6) hs58
            obtain ⟨r68, rfl⟩ := sq (e := r67) (t := 7) hs59
            have hz69 := hF60.size
            refine wp_seq_k fun K70 hK70 => rS fun K71 hK71 => sMi rfl (sMs rfl (sV (evLen Tryz.underlying39 rfl) ?_))
            by_cases hc72 : ((k : Int)) < ((nr_10 : Int))
            · refine sV (evLss true rfl rfl (dT hc72)) (sK hK71 (cT rfl (wp_skip (xN (hK70 _ _ (wp_seq_k fun K73 hK73 => wp_block (dBegin (fun b => b = g24) mixed (fun w74 hE75 hz76 => dMs 0 rfl rfl (dMi 1 rfl rfl (dMi 2 rfl rfl (dV 3 rfl (fun _ _ => evAdd (((i : Int)) + ((k : Int))) rfl rfl wI) (dV 4 rfl (fun _ _ => evIx (i + k) Tryz.underlying39 sz3 rfl rfl (i + k)) (dMs 6 rfl rfl (dMi 7 rfl rfl ?_))))))))))))))
              have hR77 := (((hE12.trans hE27).rx hF39).trans hF60).xr hE75
              have h78 := (hr_3.frmB hR77 q3)
              obtain ⟨b79, o80, rfl⟩ := h78.base (by omega)
              refine dV 8 rfl (fun _ _ => evIx i Tryz.underlying39 sz3 rfl rfl (o80 + i)) ?_
              have hr81 := h78.rng i
              refine dV 9 rfl (fun _ hf => evLoad one3 rfl ((h78.frmB hf q3).cell (by omega))) (dMs 10 rfl rfl (dMi 11 rfl rfl ?_))
              have hR82 := ((hE27.rx hF39).trans hF60).xr hE75
              have h83 := (hr_10.frmB hR82 q3)
              obtain ⟨b84, o85, rfl⟩ := h83.base (by omega)
              refine dV 12 rfl (fun _ _ => evIx k Tryz.underlying39 sz3 rfl rfl (o85 + k)) ?_
              have hr86 := h83.rng k
              refine dV 13 rfl (fun _ hf => evLoad one3 rfl ((h83.frmB hf q3).cell (by omega))) (dV 14 rfl (fun _ _ => evMul (xr_3.getD i 0 * xr_10.getD k 0) rfl rfl (wI64 ⟨rfl, by have h : (xr_3.getD i 0 * xr_10.getD k 0).natAbs ≤ 4611686018427387904 := mul_bd hN2 i k; omega⟩)) ?_)
              have hB87 := (hB61.ext hE75)
              have hr88 := rngD (mulI_rng hq hN2) (i + k)
              refine dOp 5 rfl rfl (by kernel_rfl) (oEv (v := (.int .i64 (q.getD (i + k) 0))) (evLoad one3 rfl (hB87.inti (by exact lq))) rfl ⟨Frm.refl _ _, dV 15 rfl (fun _ _ => evAdd (q.getD (i + k) 0 + xr_3.getD i 0 * xr_10.getD k 0) rfl rfl (wI64 ⟨rfl, by have h : (q.getD (i + k) 0 + xr_3.getD i 0 * xr_10.getD k 0).natAbs ≤ 4611686018427387904 := mulI_sum_bd hq hN2; omega⟩)) (dV 16 rfl (fun _ _ => evIx (i + k) Tryz.underlying39 sz3 rfl rfl (i + k)) (dOp 17 rfl rfl (by kernel_rfl) (oStore1 rfl rfl rfl sz3 hB87 (by exact lq) (fun w89 hU90 hz91 hB92 => ?_))))⟩)
              replace hB92 : Blk w89 g24 3 (((q).set (i + k) (q.getD (i + k) 0 + xr_3.getD i 0 * xr_10.getD k 0)).map (Value.int .i64)) := by rw [List.map_set]; exact hB92
              refine ⟨hU90, dDone (by kernel_rfl) (bN (xN (hK73 _ _ (wp_region_lit (sMi rfl (sV (evAdd (((k : Int)) + 1) rfl rfl wI) (sAi rfl (sDone ?_))))))))⟩
              have hR93 := hE75.rx hU90
              refine again (nr_10 - (k + 1)) (by omega) ⟨(k + 1), ((q).set (i + k) (q.getD (i + k) 0 + xr_3.getD i 0 * xr_10.getD k 0)), rfl, rfl, rfl, rfl, rfl, cI, (hF60.trans hR93), ?_, ?_, ?_, ?_⟩
              · exact hB92
              · omega
              · simp; omega
              · exact mulI_cell hq (by omega) rfl
            · refine sV (evLss false rfl rfl (dF hc72)) (sK hK71 (cF rfl (wp_exit (xE (xE (bE (bN (xN (hK51 _ _ (wp_region_lit (sMi rfl (sV (evAdd (((i : Int)) + 1) rfl rfl wI) (sAi rfl (sDone (again (nr_3 - (i + 1)) (by omega) ⟨(i + 1), (q), rfl, rfl, rfl, rfl, cI, (hF39.trans hF60), ?_, ?_, ?_, ?_⟩)))))))))))))))
              · exact hB61
              · omega
              · omega
              · exact mulI_next (by rw [show (xr_10).length = k by omega]; exact hq)
        · refine sV (evLss false rfl rfl (dF hc50)) (sK hK49 (cF rfl (wp_exit (xE (xE (bE (xN (hK31 _ _ (rS fun K94 hK94 => sMs rfl (sO (oCall rfl call49 (ref11_Trim (IntsR.of_blk (S := fun b => b = g24) (n := (nr_3 + nr_10) - 1) (c := (nr_3 + nr_10) - 1) (xs := o) hB40 rfl (mulI_rng ho hN2) (by exact lq) (by omega) (by unfold CapMax; omega))) rfl ?_)))))))))))
          rintro _ w96 ⟨Ar_95, nr_95, cr_95, xr_95, rfl, hE97, hr_95, e_95, le_95⟩
          have hz98 := hE97.size
          have ⟨lr_95, kr_95, mr_95⟩ := hr_95.lkm
          refine sAs rfl (sK hK94 (wp_ret (ret1 (.slice Ar_95 nr_95 cr_95) Tryz.results29 (resT rfl) ?_)))
          have hR100 := (((hE5.trans hE12).trans hE27).rx hF39).xr hE97
          exact ⟨Ar_95, nr_95, cr_95, xr_95, rfl, (Frm.mono hR100 q4), (IntsR.sub hr_95 q5), (by rw [e_95, mulI_end ho (by omega), e_3, e_10, mul_trim, trim_trim]), (by omega)⟩
theorem ref11_Same {w : World} {Sf : Nat → Prop} {Af : Option Addr} {nf cf : Nat} {xf : List Int} {Sg : Nat → Prop} {Ag : Option Addr} {ng cg : Nat} {xg : List Int} (hf : IntsR w Sf Af nf cf xf) (hg : IntsR w Sg Ag ng cg xg)  : Calls Tryz.prog 47 #[(.slice Af nf cf), (.slice Ag ng cg)] w (Ret fun v w' => ∃ (gr : Bool), v = (.bool gr) ∧ Ext w w' ∧ (gr = true ↔ trimZ xf = trimZ xg)) := by
  have ⟨lf, kf, mf⟩ := hf.lkm
  replace hf := hf.low
  have ⟨lg, kg, mg⟩ := hg.lkm
  replace hg := hg.low
  refine enter Tryz.func47 rfl Tryz.ntmps47 rfl (rS fun K1 hK1 => sAb rfl (sK hK1 (rS fun K2 hK2 => sMs rfl (sO (oCall rfl call49 (ref11_Trim hf) rfl ?_)))))
  rintro _ w4 ⟨Ar_3, nr_3, cr_3, xr_3, rfl, hE5, hr_3, e_3, le_3⟩
  have hz6 := hE5.size
  have ⟨lr_3, kr_3, mr_3⟩ := hr_3.lkm
  refine sAs rfl (sK hK2 (rS fun K8 hK8 => sMs rfl ?_))
  have h9 := (hg.ext hE5)
  refine sO (oCall rfl call49 (ref11_Trim h9) rfl ?_)
  rintro _ w11 ⟨Ar_10, nr_10, cr_10, xr_10, rfl, hE12, hr_10, e_10, le_10⟩
  have hz13 := hE12.size
  have ⟨lr_10, kr_10, mr_10⟩ := hr_10.lkm
  refine sAs rfl (sK hK8 (wp_seq_k fun K15 hK15 => rS fun K16 hK16 => sMs rfl (sV (evLen Tryz.underlying39 rfl) (sMs rfl (sV (evLen Tryz.underlying39 rfl) ?_)))))
  by_cases hc17 : ((nr_3 : Int)) ≠ ((nr_10 : Int))
  · refine sV (evNeq true rfl rfl (dT hc17)) (sK hK16 (cT rfl (rS fun K18 hK18 => sAb rfl (sK hK18 (wp_ret (xR (ret1 (.bool false) Tryz.results47 (resT rfl) ?_)))))))
    have hR19 := hE5.trans hE12
    exact ⟨(false), rfl, hR19, (iff_of_false (by decide) fun hh => by rw [← e_3, ← e_10] at hh; have h3 := congrArg List.length hh; omega)⟩
  · refine sV (evNeq false rfl rfl (dF hc17)) (sK hK16 (cF rfl (wp_skip (xN (hK15 _ _ (wp_seq_k fun K20 hK20 => rS fun K21 hK21 => sAi rfl (sK hK21 (wp_block ?_))))))))
    refine lLoop (fun m e w_ => ∃ (i : Nat), m = nr_3 - i ∧ e 0 = (.slice Ar_3 nr_3 cr_3) ∧ e 1 = (.slice Ar_10 nr_10 cr_10) ∧ e 5 = (.int .i64 ((i : Int))) ∧ Frm (fun b => False) w11 w_ ∧ (i ≤ nr_3) ∧ (∀ j, j < i → xr_3.getD j 0 = xr_10.getD j 0)) (nr_3 - (0)) ?_ ?_
    · refine ⟨(0), rfl, rfl, rfl, cI, (Frm.refl _ _), ?_, ?_⟩
      · omega
      · intro j hj; omega
    · rintro m22 e29 w23 ⟨i, hm28, hs24, hs25, hs26, hF27, hi, heq⟩
      obtain ⟨r30, rfl⟩ := sq (e := e29) (t := 0) hs24
      obtain ⟨r31, rfl⟩ := sq (e := r30) (t := 1) hs25
      obtain ⟨r32, rfl⟩ := sq (e := r31) (t := 5) hs26
      have hz33 := hF27.size
      refine wp_seq_k fun K34 hK34 => rS fun K35 hK35 => sMi rfl (sMs rfl (sV (evLen Tryz.underlying39 rfl) ?_))
      by_cases hc36 : ((i : Int)) < ((nr_3 : Int))
      · refine sV (evLss true rfl rfl (dT hc36)) (sK hK35 (cT rfl (wp_skip (xN (hK34 _ _ (wp_seq_k fun K37 hK37 => wp_block (wp_seq_k fun K38 hK38 => dBegin (fun _ => False) mixed (fun w39 hE40 hz41 => dMs 0 rfl rfl (dMi 1 rfl rfl ?_)))))))))
        have hR42 := (hE12.trans hF27).trans hE40
        have h43 := (hr_3.ext hR42)
        obtain ⟨b44, o45, rfl⟩ := h43.base (by omega)
        refine dV 2 rfl (fun _ _ => evIx i Tryz.underlying39 sz3 rfl rfl (o45 + i)) ?_
        have hr46 := h43.rng i
        refine dV 3 rfl (fun _ hf => evLoad one3 rfl ((h43.ext hf).cell (by omega))) (dMs 4 rfl rfl (dMi 5 rfl rfl ?_))
        have hR47 := hF27.trans hE40
        have h48 := (hr_10.ext hR47)
        obtain ⟨b49, o50, rfl⟩ := h48.base (by omega)
        refine dV 6 rfl (fun _ _ => evIx i Tryz.underlying39 sz3 rfl rfl (o50 + i)) ?_
        have hr51 := h48.rng i
        refine dV 7 rfl (fun _ hf => evLoad one3 rfl ((h48.ext hf).cell (by omega))) ?_
        by_cases hc52 : (xr_3.getD i 0) ≠ (xr_10.getD i 0)
        · refine dV 8 rfl (fun _ _ => evNeq true rfl rfl (dT hc52)) (dDone (by kernel_rfl) (xN (hK38 _ _ (cT rfl (rS fun K53 hK53 => sAb rfl (sK hK53 (wp_ret (bR (xR (xR (bR (xR (ret1 (.bool false) Tryz.results47 (resT rfl) ?_)))))))))))))
          have hR54 := ((hE5.trans hE12).trans hF27).trans hE40
          exact ⟨(false), rfl, hR54, (iff_of_false (by decide) fun hh => by rw [← e_3, ← e_10] at hh; exact absurd (congrArg (fun l => l.getD i 0) hh) (by show ¬ _ = _; omega))⟩
        · refine dV 8 rfl (fun _ _ => evNeq false rfl rfl (dF hc52)) (dDone (by kernel_rfl) (xN (hK38 _ _ (cF rfl (wp_skip (bN (xN (hK37 _ _ (wp_region_lit (sMi rfl (sV (evAdd (((i : Int)) + 1) rfl rfl wI) (sAi rfl (sDone (again (nr_3 - (i + 1)) (by omega) ⟨(i + 1), rfl, rfl, rfl, cI, (hF27.trans hE40), ?_, ?_⟩))))))))))))))
          · omega
          · intro j hj; rcases Nat.lt_or_ge j i with h1 | h1; exact heq j h1; rw [show j = i by omega]; omega
      · refine sV (evLss false rfl rfl (dF hc36)) (sK hK35 (cF rfl (wp_exit (xE (xE (bE (xN (hK20 _ _ (rS fun K55 hK55 => sAb rfl (sK hK55 (wp_ret (ret1 (.bool true) Tryz.results47 (resT rfl) ?_))))))))))))
        have hR56 := (hE5.trans hE12).trans hF27
        exact ⟨(true), rfl, hR56, (iff_of_true rfl (by rw [← e_3, ← e_10]; exact getD_extI (by omega) fun j hj => heq j (by omega)))⟩
theorem ref11_Gcd {w : World} {xa : Int} {xb : Int}  (hxa : xa.natAbs ≤ 4611686018427387904) (hxb : xb.natAbs ≤ 4611686018427387904) : Calls Tryz.prog 71 #[(.int .i64 (xa)), (.int .i64 (xb))] w (Ret fun v w' => ∃ (xr : Int), v = (.int .i64 (xr)) ∧ Ext w w' ∧ (xr = (Nat.gcd xa.natAbs xb.natAbs : Int))) := by
  refine enter Tryz.func71 rfl Tryz.ntmps71 rfl (rS fun K1 hK1 => sAi rfl (sK hK1 (wp_seq_k fun K2 hK2 => rS fun K3 hK3 => sMi rfl ?_)))
  by_cases hc4 : xa < 0
  · refine sV (evLss true rfl rfl (dT hc4)) (sK hK3 (cT rfl (wp_region_lit (sMi rfl (sV (evNeg (-(xa)) rfl (wI64 (by omega))) (sAi rfl (sK hK2 (wp_seq_k fun K5 hK5 => rS fun K6 hK6 => sMi rfl ?_))))))))
    by_cases hc7 : xb < 0
    · refine sV (evLss true rfl rfl (dT hc7)) (sK hK6 (cT rfl (wp_region_lit (sMi rfl (sV (evNeg (-(xb)) rfl (wI64 (by omega))) (sAi rfl (sK hK5 (wp_seq_k fun K8 hK8 => wp_block ?_))))))))
      refine lLoop (fun m e w_ => ∃ (x : Nat) (y : Nat), m = y ∧ e 0 = (.int .i64 ((x : Int))) ∧ e 1 = (.int .i64 ((y : Int))) ∧ Frm (fun b => False) w w_ ∧ (Nat.gcd x y = Nat.gcd xa.natAbs xb.natAbs) ∧ (x ≤ 4611686018427387904 ∧ y ≤ 4611686018427387904)) ((xb.natAbs)) ?_ ?_
      · refine ⟨(xa.natAbs), (xb.natAbs), rfl, cI, cI, (Frm.refl _ _), ?_, ?_⟩
        · rfl
        · omega
      · rintro m9 e15 w10 ⟨x, y, hm14, hs11, hs12, hF13, hg, hb⟩
        obtain ⟨r16, rfl⟩ := sq (e := e15) (t := 0) hs11
        obtain ⟨r17, rfl⟩ := sq (e := r16) (t := 1) hs12
        have hz18 := hF13.size
        refine wp_seq_k fun K19 hK19 => rS fun K20 hK20 => sMi rfl ?_
        by_cases hc21 : ((y : Int)) > 0
        · refine sV (evGtr true rfl rfl (dT hc21)) (sK hK20 (cT rfl (wp_skip (xN (hK19 _ _ (wp_block (rS fun K22 hK22 => sMi rfl (sMi rfl (sV (evRem (((x % y : Nat) : Int)) rfl rfl (by omega) (remE (by omega) (by omega))) ?_)))))))))
          have hmod := Nat.mod_lt x (show y > 0 by omega)
          refine sAi rfl (sK hK22 (rS fun K23 hK23 => sMi rfl (sAi rfl (sK hK23 (wp_region_lit (sMi rfl (sAi rfl (sDone (bN (again ((x % y)) (by omega) ⟨(y), (x % y), rfl, cI, cI, hF13, ?_, ?_⟩))))))))))
          · exact gcd_step11 hg
          · omega
        · refine sV (evGtr false rfl rfl (dF hc21)) (sK hK20 (cF rfl (wp_exit (xE (xE (bE (xN (hK8 _ _ (rS fun K24 hK24 => sMi rfl (sAi rfl (sK hK24 (wp_ret (ret1 (.int .i64 ((x : Int))) Tryz.results71 (resT rfl) ?_)))))))))))))
          exact ⟨((x : Int)), rfl, hF13, (gcd_done hg (by omega))⟩
    · refine sV (evLss false rfl rfl (dF hc7)) (sK hK6 (cF rfl (wp_skip (xN (hK5 _ _ (wp_seq_k fun K25 hK25 => wp_block ?_))))))
      refine lLoop (fun m e w_ => ∃ (x : Nat) (y : Nat), m = y ∧ e 0 = (.int .i64 ((x : Int))) ∧ e 1 = (.int .i64 ((y : Int))) ∧ Frm (fun b => False) w w_ ∧ (Nat.gcd x y = Nat.gcd xa.natAbs xb.natAbs) ∧ (x ≤ 4611686018427387904 ∧ y ≤ 4611686018427387904)) ((xb.natAbs)) ?_ ?_
      · refine ⟨(xa.natAbs), (xb.natAbs), rfl, cI, cI, (Frm.refl _ _), ?_, ?_⟩
        · rfl
        · omega
      · rintro m26 e32 w27 ⟨x, y, hm31, hs28, hs29, hF30, hg, hb⟩
        obtain ⟨r33, rfl⟩ := sq (e := e32) (t := 0) hs28
        obtain ⟨r34, rfl⟩ := sq (e := r33) (t := 1) hs29
        have hz35 := hF30.size
        refine wp_seq_k fun K36 hK36 => rS fun K37 hK37 => sMi rfl ?_
        by_cases hc38 : ((y : Int)) > 0
        · refine sV (evGtr true rfl rfl (dT hc38)) (sK hK37 (cT rfl (wp_skip (xN (hK36 _ _ (wp_block (rS fun K39 hK39 => sMi rfl (sMi rfl (sV (evRem (((x % y : Nat) : Int)) rfl rfl (by omega) (remE (by omega) (by omega))) ?_)))))))))
          have hmod := Nat.mod_lt x (show y > 0 by omega)
          refine sAi rfl (sK hK39 (rS fun K40 hK40 => sMi rfl (sAi rfl (sK hK40 (wp_region_lit (sMi rfl (sAi rfl (sDone (bN (again ((x % y)) (by omega) ⟨(y), (x % y), rfl, cI, cI, hF30, ?_, ?_⟩))))))))))
          · exact gcd_step11 hg
          · omega
        · refine sV (evGtr false rfl rfl (dF hc38)) (sK hK37 (cF rfl (wp_exit (xE (xE (bE (xN (hK25 _ _ (rS fun K41 hK41 => sMi rfl (sAi rfl (sK hK41 (wp_ret (ret1 (.int .i64 ((x : Int))) Tryz.results71 (resT rfl) ?_)))))))))))))
          exact ⟨((x : Int)), rfl, hF30, (gcd_done hg (by omega))⟩
  · refine sV (evLss false rfl rfl (dF hc4)) (sK hK3 (cF rfl (wp_skip (xN (hK2 _ _ (wp_seq_k fun K42 hK42 => rS fun K43 hK43 => sMi rfl ?_))))))
    by_cases hc44 : xb < 0
    · refine sV (evLss true rfl rfl (dT hc44)) (sK hK43 (cT rfl (wp_region_lit (sMi rfl (sV (evNeg (-(xb)) rfl (wI64 (by omega))) (sAi rfl (sK hK42 (wp_seq_k fun K45 hK45 => wp_block ?_))))))))
      refine lLoop (fun m e w_ => ∃ (x : Nat) (y : Nat), m = y ∧ e 0 = (.int .i64 ((x : Int))) ∧ e 1 = (.int .i64 ((y : Int))) ∧ Frm (fun b => False) w w_ ∧ (Nat.gcd x y = Nat.gcd xa.natAbs xb.natAbs) ∧ (x ≤ 4611686018427387904 ∧ y ≤ 4611686018427387904)) ((xb.natAbs)) ?_ ?_
      · refine ⟨(xa.natAbs), (xb.natAbs), rfl, cI, cI, (Frm.refl _ _), ?_, ?_⟩
        · rfl
        · omega
      · rintro m46 e52 w47 ⟨x, y, hm51, hs48, hs49, hF50, hg, hb⟩
        obtain ⟨r53, rfl⟩ := sq (e := e52) (t := 0) hs48
        obtain ⟨r54, rfl⟩ := sq (e := r53) (t := 1) hs49
        have hz55 := hF50.size
        refine wp_seq_k fun K56 hK56 => rS fun K57 hK57 => sMi rfl ?_
        by_cases hc58 : ((y : Int)) > 0
        · refine sV (evGtr true rfl rfl (dT hc58)) (sK hK57 (cT rfl (wp_skip (xN (hK56 _ _ (wp_block (rS fun K59 hK59 => sMi rfl (sMi rfl (sV (evRem (((x % y : Nat) : Int)) rfl rfl (by omega) (remE (by omega) (by omega))) ?_)))))))))
          have hmod := Nat.mod_lt x (show y > 0 by omega)
          refine sAi rfl (sK hK59 (rS fun K60 hK60 => sMi rfl (sAi rfl (sK hK60 (wp_region_lit (sMi rfl (sAi rfl (sDone (bN (again ((x % y)) (by omega) ⟨(y), (x % y), rfl, cI, cI, hF50, ?_, ?_⟩))))))))))
          · exact gcd_step11 hg
          · omega
        · refine sV (evGtr false rfl rfl (dF hc58)) (sK hK57 (cF rfl (wp_exit (xE (xE (bE (xN (hK45 _ _ (rS fun K61 hK61 => sMi rfl (sAi rfl (sK hK61 (wp_ret (ret1 (.int .i64 ((x : Int))) Tryz.results71 (resT rfl) ?_)))))))))))))
          exact ⟨((x : Int)), rfl, hF50, (gcd_done hg (by omega))⟩
    · refine sV (evLss false rfl rfl (dF hc44)) (sK hK43 (cF rfl (wp_skip (xN (hK42 _ _ (wp_seq_k fun K62 hK62 => wp_block ?_))))))
      refine lLoop (fun m e w_ => ∃ (x : Nat) (y : Nat), m = y ∧ e 0 = (.int .i64 ((x : Int))) ∧ e 1 = (.int .i64 ((y : Int))) ∧ Frm (fun b => False) w w_ ∧ (Nat.gcd x y = Nat.gcd xa.natAbs xb.natAbs) ∧ (x ≤ 4611686018427387904 ∧ y ≤ 4611686018427387904)) ((xb.natAbs)) ?_ ?_
      · refine ⟨(xa.natAbs), (xb.natAbs), rfl, cI, cI, (Frm.refl _ _), ?_, ?_⟩
        · rfl
        · omega
      · rintro m63 e69 w64 ⟨x, y, hm68, hs65, hs66, hF67, hg, hb⟩
        obtain ⟨r70, rfl⟩ := sq (e := e69) (t := 0) hs65
        obtain ⟨r71, rfl⟩ := sq (e := r70) (t := 1) hs66
        have hz72 := hF67.size
        refine wp_seq_k fun K73 hK73 => rS fun K74 hK74 => sMi rfl ?_
        by_cases hc75 : ((y : Int)) > 0
        · refine sV (evGtr true rfl rfl (dT hc75)) (sK hK74 (cT rfl (wp_skip (xN (hK73 _ _ (wp_block (rS fun K76 hK76 => sMi rfl (sMi rfl (sV (evRem (((x % y : Nat) : Int)) rfl rfl (by omega) (remE (by omega) (by omega))) ?_)))))))))
          have hmod := Nat.mod_lt x (show y > 0 by omega)
          refine sAi rfl (sK hK76 (rS fun K77 hK77 => sMi rfl (sAi rfl (sK hK77 (wp_region_lit (sMi rfl (sAi rfl (sDone (bN (again ((x % y)) (by omega) ⟨(y), (x % y), rfl, cI, cI, hF67, ?_, ?_⟩))))))))))
          · exact gcd_step11 hg
          · omega
        · refine sV (evGtr false rfl rfl (dF hc75)) (sK hK74 (cF rfl (wp_exit (xE (xE (bE (xN (hK62 _ _ (rS fun K78 hK78 => sMi rfl (sAi rfl (sK hK78 (wp_ret (ret1 (.int .i64 ((x : Int))) Tryz.results71 (resT rfl) ?_)))))))))))))
          exact ⟨((x : Int)), rfl, hF67, (gcd_done hg (by omega))⟩
set_option maxHeartbeats 1000000 in
theorem ref11_Normal {w : World} {Sf : Nat → Prop} {Af : Option Addr} {nf cf : Nat} {xf : List Int} (hf : IntsR w Sf Af nf cf xf) (hB : ∀ x ∈ xf, x.natAbs ≤ 1000000) (hnf : nf ≤ 64) : Calls Tryz.prog 45 #[(.slice Af nf cf)] w (Ret fun v w' => ∃ (xu : Int) (Ar : Option Addr) (nr : Nat) (cr : Nat) (xr : List Int), v = (.tuple #[(.int .i64 (xu)), (.slice Ar nr cr)]) ∧ Ext w w' ∧ IntsR w' (fun b => w.heap.size ≤ b) Ar nr cr xr ∧ (xu = primC xf) ∧ (xr = primP xf) ∧ (nr ≤ nf)) := by
  have ⟨lf, kf, mf⟩ := hf.lkm
  replace hf := hf.low
  refine enter Tryz.func45 rfl Tryz.ntmps45 rfl (rS fun K1 hK1 => sAi rfl (sAs rfl (sK hK1 (rS fun K2 hK2 => sMs rfl (sO (oCall rfl call49 (ref11_Trim hf) rfl ?_))))))
  rintro _ w4 ⟨Ar_3, nr_3, cr_3, xr_3, rfl, hE5, hr_3, e_3, le_3⟩
  have hz6 := hE5.size
  have ⟨lr_3, kr_3, mr_3⟩ := hr_3.lkm
  have hBF := trim_bd e_3 hB
  refine sAs rfl (sK hK2 (wp_seq_k fun K8 hK8 => rS fun K9 hK9 => sMs rfl (sV (evLen Tryz.underlying39 rfl) ?_)))
  by_cases hc10 : ((nr_3 : Int)) = 0
  · refine sV (evEql true rfl rfl (dT hc10)) (sK hK9 (cT rfl (rS fun K11 hK11 => sAi rfl (sAs rfl (sK hK11 (wp_ret (xR (ret2 (.int .i64 (0)) (.slice none 0 0) Tryz.results45 (resT rfl) (resT rfl) ?_))))))))
    exact ⟨(0), none, 0, 0, [], rfl, hE5, IntsR.nil, (prim_nil e_3 (by omega)).1, (prim_nil e_3 (by omega)).2, (by omega)⟩
  · refine sV (evEql false rfl rfl (dF hc10)) (sK hK9 (cF rfl (wp_skip (xN (hK8 _ _ (rS fun K12 hK12 => sAi rfl (sK hK12 (wp_seq_k fun K13 hK13 => rS fun K14 hK14 => sAi rfl (sK hK14 (wp_block ?_))))))))))
    refine lLoop (fun m e w_ => ∃ (i : Nat) (u : Nat), m = nr_3 - i ∧ e 0 = (.slice Ar_3 nr_3 cr_3) ∧ e 4 = (.int .i64 ((u : Int))) ∧ e 5 = (.int .i64 ((i : Int))) ∧ Frm (fun b => False) w4 w_ ∧ (i ≤ nr_3) ∧ (u = contP (xr_3.take i)) ∧ (u ≤ 1000000)) (nr_3 - (0)) ?_ ?_
    · refine ⟨(0), (0), rfl, rfl, cI, cI, (Frm.refl _ _), ?_, ?_, ?_⟩
      · omega
      · rfl
      · omega
    · rintro m15 e22 w16 ⟨i, u, hm21, hs17, hs18, hs19, hF20, hi, hu, hub⟩
      obtain ⟨r23, rfl⟩ := sq (e := e22) (t := 0) hs17
      obtain ⟨r24, rfl⟩ := sq (e := r23) (t := 4) hs18
      obtain ⟨r25, rfl⟩ := sq (e := r24) (t := 5) hs19
      have hz26 := hF20.size
      refine wp_seq_k fun K27 hK27 => rS fun K28 hK28 => sMi rfl (sMs rfl (sV (evLen Tryz.underlying39 rfl) ?_))
      by_cases hc29 : ((i : Int)) < ((nr_3 : Int))
      · refine sV (evLss true rfl rfl (dT hc29)) (sK hK28 (cT rfl (wp_skip (xN (hK27 _ _ (wp_seq_k fun K30 hK30 => wp_block (wp_region_lit (sMi rfl (sMs rfl (sMi rfl ?_))))))))))
        have h31 := (hr_3.ext hF20)
        obtain ⟨b32, o33, rfl⟩ := h31.base (by omega)
        refine sV (evIx i Tryz.underlying39 sz3 rfl rfl (o33 + i)) ?_
        have hr34 := h31.rng i
        refine sV (evLoad one3 rfl (h31.cell (by omega))) ?_
        have hb6 := getD_bd hBF i
        refine sO (oCall rfl call71 (ref11_Gcd (by omega) (by omega)) rfl ?_)
        rintro _ w36 ⟨xr_35, rfl, hE37, v_35⟩
        have hz38 := hE37.size
        have hu2 := cont_step11 (by omega) hu v_35
        refine sAi rfl (sDone (bN (xN (hK30 _ _ (wp_region_lit (sMi rfl (sV (evAdd (((i : Int)) + 1) rfl rfl wI) (sAi rfl (sDone (again (nr_3 - (i + 1)) (by omega) ⟨(i + 1), (contP (xr_3.take (i + 1))), rfl, rfl, cI, cI, (hF20.trans hE37), ?_, ?_, ?_⟩))))))))))
        · omega
        · rfl
        · exact contP_le fun x hx => hBF x (List.mem_of_mem_take hx)
      · refine sV (evLss false rfl rfl (dF hc29)) (sK hK28 (cF rfl (wp_exit (xE (xE (bE (xN (hK13 _ _ (wp_seq_k fun K39 hK39 => rS fun K40 hK40 => sMs rfl (sMs rfl (sV (evLen Tryz.underlying39 rfl) (sV (evSub (((nr_3 : Int)) - 1) rfl rfl wI) ?_))))))))))))
        have h41 := (hr_3.ext hF20)
        obtain ⟨b42, o43, rfl⟩ := h41.base (by omega)
        refine sV (evIx (nr_3 - 1) Tryz.underlying39 sz3 rfl rfl (o43 + (nr_3 - 1))) ?_
        have hr44 := h41.rng (nr_3 - 1)
        refine sV (evLoad one3 rfl (h41.cell (by omega))) ?_
        by_cases hc45 : (xr_3.getD (nr_3 - 1) 0) < 0
        · refine sV (evLss true rfl rfl (dT hc45)) (sK hK40 (cT rfl (wp_region_lit (sMi rfl (sV (evNeg (-((u : Int))) rfl (wI64 (by omega))) (sAi rfl (sK hK39 (wp_seq_k fun K46 hK46 => ?_))))))))
          have hU : -((u : Int)) = primC xf := by rw [prim_sign e_3 hu (by omega) (by omega), lr_3, if_pos (by omega)]
          have hU0 := prim_u0 e_3 (by omega)
          refine wp_region_lit (sMs rfl (sV (evLen Tryz.underlying39 rfl) (sO (oMake1 nr_3 Tryz.underlying39 inf3 rfl cI cI (by omega) (by omega) (fun g47 w48 hg49 hE50 hz51 hB52 => ?_)))))
          have hB53 : Blk w48 g47 3 (((List.replicate nr_3 0)).map (Value.int .i64)) := by rw [List.map_replicate]; exact hB52
          refine sAs rfl (sK hK46 (wp_seq_k fun K54 hK54 => rS fun K55 hK55 => sAi rfl (sK hK55 (wp_block ?_))))
          refine lLoop (fun m e w_ => ∃ (i : Nat), m = nr_3 - i ∧ e 0 = (.slice (some ⟨b42, o43, none⟩) nr_3 cr_3) ∧ e 4 = (.int .i64 (-((u : Int)))) ∧ e 6 = (.slice (some ⟨g47, 0, none⟩) nr_3 nr_3) ∧ e 7 = (.int .i64 ((i : Int))) ∧ Frm (fun b => b = g47) w48 w_ ∧ Blk w_ g47 3 (((xr_3.take i).map (fun x : Int => x.tdiv (-((u : Int)))) ++ List.replicate (nr_3 - i) 0).map (Value.int .i64)) ∧ (i ≤ nr_3)) (nr_3 - (0)) ?_ ?_
          · refine ⟨(0), rfl, rfl, rfl, rfl, cI, (Frm.refl _ _), ?_, ?_⟩
            · exact hB53
            · omega
          · rintro m56 e65 w57 ⟨i, hm64, hs58, hs59, hs60, hs61, hF62, hB63, hi⟩
            obtain ⟨r66, rfl⟩ := sq (e := e65) (t := 0) hs58
            obtain ⟨r67, rfl⟩ := sq (e := r66) (t := 4) hs59
            obtain ⟨r68, rfl⟩ := sq (e := r67) (t := 6) hs60
            obtain ⟨r69, rfl⟩ := sq (e := r68) (t := 7) hs61
            have hz70 := hF62.size
            refine wp_seq_k fun K71 hK71 => rS fun K72 hK72 => sMi rfl (sMs rfl (sV (evLen Tryz.underlying39 rfl) ?_))
            by_cases hc73 : ((i : Int)) < ((nr_3 : Int))
            · refine sV (evLss true rfl rfl (dT hc73)) (sK hK72 (cT rfl (wp_skip (xN (hK71 _ _ (wp_seq_k fun K74 hK74 => wp_block (wp_region_lit (sMs rfl (sMi rfl (sMs rfl (sMi rfl (sV (evIx i Tryz.underlying39 sz3 rfl rfl (o43 + i)) ?_))))))))))))
              have hR75 := hE50.rx hF62
              have h76 := (h41.frmB hR75 q3)
              have hr77 := h76.rng i
              refine sV (evLoad one3 rfl (h76.cell (by omega))) (sMi rfl (sV (evQuo ((xr_3.getD i 0).tdiv (-((u : Int)))) rfl rfl (by omega) (wI64 ⟨rfl, by have h := tdiv_bd (xr_3.getD i 0) (-((u : Int))); have h2 := getD_bd hBF i; omega⟩)) (sV (evIx i Tryz.underlying39 sz3 rfl rfl i) (sO (oStore1 rfl rfl rfl sz3 hB63 (by exact lq) (fun w78 hU79 hz80 hB81 => ?_))))))
              replace hB81 : Blk w78 g47 3 ((((xr_3.take i).map (fun x : Int => x.tdiv (-((u : Int)))) ++ List.replicate (nr_3 - i) 0).set i ((xr_3.getD i 0).tdiv (-((u : Int))))).map (Value.int .i64)) := by rw [List.map_set]; exact hB81
              refine sDone (bN (xN (hK74 _ _ (wp_region_lit (sMi rfl (sV (evAdd (((i : Int)) + 1) rfl rfl wI) (sAi rfl (sDone (again (nr_3 - (i + 1)) (by omega) ⟨(i + 1), rfl, rfl, rfl, rfl, cI, (hF62.trans hU79), ?_, ?_⟩)))))))))
              · have hq := hB81; rw [map_next (by omega) (by omega) rfl] at hq; exact hq
              · omega
            · refine sV (evLss false rfl rfl (dF hc73)) (sK hK72 (cF rfl (wp_exit (xE (xE (bE (xN (hK54 _ _ (rS fun K82 hK82 => sMi rfl (sMs rfl (sAi rfl (sAs rfl (sK hK82 (wp_ret (ret2 (.int .i64 (-((u : Int)))) (.slice (some ⟨g47, 0, none⟩) nr_3 nr_3) Tryz.results45 (resT rfl) (resT rfl) ?_)))))))))))))))
              have hpo := prim_out (i := i) (n := nr_3) e_3 hU (by omega) (by omega); have hlp : (primP xf).length = nr_3 := by rw [prim_len, ← e_3]; omega
              have hBz : Blk w57 g47 3 ((primP xf).map (Value.int .i64)) := by have h := hB63; rw [hpo] at h; exact h
              have hR83 := ((hE5.trans hF20).trans hE50).rx hF62
              exact ⟨(-((u : Int))), (some ⟨g47, 0, none⟩), nr_3, nr_3, (primP xf), rfl, (Frm.mono hR83 q4), (IntsR.sub (IntsR.of_blk (S := fun b => b = g47) (n := nr_3) (c := nr_3) (xs := (primP xf)) hBz rfl (prim_rng hB (by omega)) (by exact lq) (by omega) (by unfold CapMax; omega)) q5), hU, rfl, (by omega)⟩
        · refine sV (evLss false rfl rfl (dF hc45)) (sK hK40 (cF rfl (wp_skip (xN (hK39 _ _ (wp_seq_k fun K84 hK84 => ?_))))))
          have hU : (u : Int) = primC xf := by rw [prim_sign e_3 hu (by omega) (by omega), lr_3, if_neg (by omega)]
          have hU0 := prim_u0 e_3 (by omega)
          refine wp_region_lit (sMs rfl (sV (evLen Tryz.underlying39 rfl) (sO (oMake1 nr_3 Tryz.underlying39 inf3 rfl cI cI (by omega) (by omega) (fun g85 w86 hg87 hE88 hz89 hB90 => ?_)))))
          have hB91 : Blk w86 g85 3 (((List.replicate nr_3 0)).map (Value.int .i64)) := by rw [List.map_replicate]; exact hB90
          refine sAs rfl (sK hK84 (wp_seq_k fun K92 hK92 => rS fun K93 hK93 => sAi rfl (sK hK93 (wp_block ?_))))
          refine lLoop (fun m e w_ => ∃ (i : Nat), m = nr_3 - i ∧ e 0 = (.slice (some ⟨b42, o43, none⟩) nr_3 cr_3) ∧ e 4 = (.int .i64 ((u : Int))) ∧ e 6 = (.slice (some ⟨g85, 0, none⟩) nr_3 nr_3) ∧ e 7 = (.int .i64 ((i : Int))) ∧ Frm (fun b => b = g85) w86 w_ ∧ Blk w_ g85 3 (((xr_3.take i).map (fun x : Int => x.tdiv ((u : Int))) ++ List.replicate (nr_3 - i) 0).map (Value.int .i64)) ∧ (i ≤ nr_3)) (nr_3 - (0)) ?_ ?_
          · refine ⟨(0), rfl, rfl, rfl, rfl, cI, (Frm.refl _ _), ?_, ?_⟩
            · exact hB91
            · omega
          · rintro m94 e103 w95 ⟨i, hm102, hs96, hs97, hs98, hs99, hF100, hB101, hi⟩
            obtain ⟨r104, rfl⟩ := sq (e := e103) (t := 0) hs96
            obtain ⟨r105, rfl⟩ := sq (e := r104) (t := 4) hs97
            obtain ⟨r106, rfl⟩ := sq (e := r105) (t := 6) hs98
            obtain ⟨r107, rfl⟩ := sq (e := r106) (t := 7) hs99
            have hz108 := hF100.size
            refine wp_seq_k fun K109 hK109 => rS fun K110 hK110 => sMi rfl (sMs rfl (sV (evLen Tryz.underlying39 rfl) ?_))
            by_cases hc111 : ((i : Int)) < ((nr_3 : Int))
            · refine sV (evLss true rfl rfl (dT hc111)) (sK hK110 (cT rfl (wp_skip (xN (hK109 _ _ (wp_seq_k fun K112 hK112 => wp_block (wp_region_lit (sMs rfl (sMi rfl (sMs rfl (sMi rfl (sV (evIx i Tryz.underlying39 sz3 rfl rfl (o43 + i)) ?_))))))))))))
              have hR113 := hE88.rx hF100
              have h114 := (h41.frmB hR113 q3)
              have hr115 := h114.rng i
              refine sV (evLoad one3 rfl (h114.cell (by omega))) (sMi rfl (sV (evQuo ((xr_3.getD i 0).tdiv ((u : Int))) rfl rfl (by omega) (wI64 ⟨rfl, by have h := tdiv_bd (xr_3.getD i 0) ((u : Int)); have h2 := getD_bd hBF i; omega⟩)) (sV (evIx i Tryz.underlying39 sz3 rfl rfl i) (sO (oStore1 rfl rfl rfl sz3 hB101 (by exact lq) (fun w116 hU117 hz118 hB119 => ?_))))))
              replace hB119 : Blk w116 g85 3 ((((xr_3.take i).map (fun x : Int => x.tdiv ((u : Int))) ++ List.replicate (nr_3 - i) 0).set i ((xr_3.getD i 0).tdiv ((u : Int)))).map (Value.int .i64)) := by rw [List.map_set]; exact hB119
              refine sDone (bN (xN (hK112 _ _ (wp_region_lit (sMi rfl (sV (evAdd (((i : Int)) + 1) rfl rfl wI) (sAi rfl (sDone (again (nr_3 - (i + 1)) (by omega) ⟨(i + 1), rfl, rfl, rfl, rfl, cI, (hF100.trans hU117), ?_, ?_⟩)))))))))
              · have hq := hB119; rw [map_next (by omega) (by omega) rfl] at hq; exact hq
              · omega
            · refine sV (evLss false rfl rfl (dF hc111)) (sK hK110 (cF rfl (wp_exit (xE (xE (bE (xN (hK92 _ _ (rS fun K120 hK120 => sMi rfl (sMs rfl (sAi rfl (sAs rfl (sK hK120 (wp_ret (ret2 (.int .i64 ((u : Int))) (.slice (some ⟨g85, 0, none⟩) nr_3 nr_3) Tryz.results45 (resT rfl) (resT rfl) ?_)))))))))))))))
              have hpo := prim_out (i := i) (n := nr_3) e_3 hU (by omega) (by omega); have hlp : (primP xf).length = nr_3 := by rw [prim_len, ← e_3]; omega
              have hBz : Blk w95 g85 3 ((primP xf).map (Value.int .i64)) := by have h := hB101; rw [hpo] at h; exact h
              have hR121 := ((hE5.trans hF20).trans hE88).rx hF100
              exact ⟨((u : Int)), (some ⟨g85, 0, none⟩), nr_3, nr_3, (primP xf), rfl, (Frm.mono hR121 q4), (IntsR.sub (IntsR.of_blk (S := fun b => b = g85) (n := nr_3) (c := nr_3) (xs := (primP xf)) hBz rfl (prim_rng hB (by omega)) (by exact lq) (by omega) (by unfold CapMax; omega)) q5), hU, rfl, (by omega)⟩
theorem ref11_Root {w : World} {xn : Int}  (hn : -100000 ≤ xn ∧ xn ≤ 1000) : Calls Tryz.prog 46 #[(.int .i64 (xn))] w (Ret fun v w' => ∃ (xs : Int) (gk : Bool), v = (.tuple #[(.int .i64 (xs)), (.bool gk)]) ∧ Ext w w' ∧ (0 ≤ xs ∧ xs ≤ 32) ∧ (gk = true ↔ ∃ t : Int, t * t = xn) ∧ (gk = true → xs * xs = xn)) := by
  refine enter Tryz.func46 rfl Tryz.ntmps46 rfl (rS fun K1 hK1 => sAi rfl (sAb rfl (sK hK1 (rS fun K2 hK2 => sAi rfl (sK hK2 (wp_seq_k fun K3 hK3 => wp_block ?_))))))
  refine lLoop (fun m e w_ => ∃ (s : Int), m = (33 - s).toNat ∧ e 0 = (.int .i64 (xn)) ∧ e 4 = (.int .i64 (s)) ∧ Frm (fun b => False) w w_ ∧ (0 ≤ s ∧ s ≤ 32) ∧ (s = 0 ∨ (s - 1) * (s - 1) < xn)) ((33 - ((0 : Int))).toNat) ?_ ?_
  · refine ⟨((0 : Int)), rfl, rfl, cI, (Frm.refl _ _), ?_, ?_⟩
    · omega
    · exact .inl rfl
  · rintro m4 e10 w5 ⟨s, hm9, hs6, hs7, hF8, hs, hlow⟩
    obtain ⟨r11, rfl⟩ := sq (e := e10) (t := 0) hs6
    obtain ⟨r12, rfl⟩ := sq (e := r11) (t := 4) hs7
    have hz13 := hF8.size
    refine wp_seq_k fun K14 hK14 => rS fun K15 hK15 => sMi rfl (sMi rfl (sV (evMul (s * s) rfl rfl (wI64 ⟨rfl, by have h := sq_bd hs; omega⟩)) (sMi rfl ?_)))
    by_cases hc16 : (s * s) < xn
    · refine sV (evLss true rfl rfl (dT hc16)) (sK hK15 (cT rfl (wp_skip (xN (hK14 _ _ (wp_block (wp_region_lit (sMi rfl (sV (evAdd (s + 1) rfl rfl wI) (sAi rfl (sDone (bN (again ((33 - (s + 1)).toNat) (by omega) ⟨(s + 1), rfl, rfl, cI, hF8, ?_, ?_⟩)))))))))))))
      · have h := root_small hs.1 hc16 hn.2; omega
      · exact .inr (by rw [show s + 1 - 1 = s by omega]; exact hc16)
    · refine sV (evLss false rfl rfl (dF hc16)) (sK hK15 (cF rfl (wp_exit (xE (xE (bE (xN (hK3 _ _ (rS fun K17 hK17 => sMi rfl (sMi rfl ?_))))))))))
      by_cases hc18 : xn ≥ 0
      · refine sV (evGeq true rfl rfl (dT hc18)) (sMb rfl (sEv (v := (.int .i64 (s))) (rfl) rfl rfl (sEv (v := (.int .i64 (s))) (rfl) rfl rfl (sEv (v := (.int .i64 (s * s))) (evMul (s * s) rfl rfl (wI64 ⟨rfl, by have h := sq_bd hs; omega⟩)) rfl rfl (sEv (v := (.int .i64 (xn))) (rfl) rfl rfl ?_)))))
        by_cases hc19 : (s * s) = xn
        · refine sEv (v := (.bool true)) (evEql true rfl rfl (dT hc19)) rfl rfl (sV (v := (.bool true)) (rfl) (sAi rfl (sAb rfl (sK hK17 (wp_ret (ret2 (.int .i64 (s)) (.bool true) Tryz.results46 (resT rfl) (resT rfl) ?_))))))
          exact ⟨(s), (true), rfl, hF8, hs, (iff_of_true rfl ((root_done hs.1 hlow (by omega)).1 ⟨by omega, by omega⟩)), (fun _ => by omega)⟩
        · refine sEv (v := (.bool false)) (evEql false rfl rfl (dF hc19)) rfl rfl (sV (v := (.bool false)) (rfl) (sAi rfl (sAb rfl (sK hK17 (wp_ret (ret2 (.int .i64 (s)) (.bool false) Tryz.results46 (resT rfl) (resT rfl) ?_))))))
          exact ⟨(s), (false), rfl, hF8, hs, (iff_of_false (by decide) fun hh => absurd ((root_done hs.1 hlow (by omega)).2 hh) (by omega)), (fun h => by cases h)⟩
      · refine sV (evGeq false rfl rfl (dF hc18)) (sMb rfl (sSkip rfl rfl (sSkip rfl rfl (sSkip rfl rfl (sSkip rfl rfl (sSkip rfl rfl (sV (v := (.bool false)) (rfl) (sAi rfl (sAb rfl (sK hK17 (wp_ret (ret2 (.int .i64 (s)) (.bool false) Tryz.results46 (resT rfl) (resT rfl) ?_))))))))))))
        exact ⟨(s), (false), rfl, hF8, hs, (iff_of_false (by decide) fun hh => absurd ((root_done hs.1 hlow (by omega)).2 hh) (by omega)), (fun h => by cases h)⟩
set_option maxHeartbeats 1000000 in
theorem ref11_Split {w : World} {Sf : Nat → Prop} {Af : Option Addr} {nf cf : Nat} {xf : List Int} (hf : IntsR w Sf Af nf cf xf) (hB : ∀ x ∈ xf, x.natAbs ≤ 9) (hnf : nf ≤ 3) : Calls Tryz.prog 24 #[(.slice Af nf cf)] w (Ret fun v w' => ∃ (xu : Int) (Ar : Option Addr) (nr : Nat) (cr : Nat) (fr : List IE), v = (.tuple #[(.int .i64 (xu)), (.slice Ar nr cr)]) ∧ Ext w w' ∧ IListR w' (fun b => w.heap.size ≤ b) Ar nr cr fr ∧ (SplitR xf xu (fr.map IE.x)) ∧ (nr ≤ 2)) := by
  have ⟨lf, kf, mf⟩ := hf.lkm
  replace hf := hf.low
  refine enter Tryz.func24 rfl Tryz.ntmps24 rfl (rS fun K1 hK1 => sAi rfl (sAs rfl (sK hK1 (rS fun K2 hK2 => sMs rfl (sO (oCall rfl call45 (ref11_Normal hf (fun x hx => Nat.le_trans (hB x hx) (by decide)) (by omega)) rfl ?_))))))
  rintro _ w4 ⟨xu_3, Ar_3, nr_3, cr_3, xr_3, rfl, hE5, hr_3, u_3, e_3, le_3⟩
  have hz6 := hE5.size
  have ⟨lr_3, kr_3, mr_3⟩ := hr_3.lkm
  have hG := prim_bd9 e_3 hB
  refine sV (v := (.tuple #[(.int .i64 (xu_3)), (.slice Ar_3 nr_3 cr_3)])) (rfl) (sV (v := (.int .i64 (xu_3))) (rfl) (sV (v := (.slice Ar_3 nr_3 cr_3)) (rfl) (sAi rfl (sAs rfl (sK hK2 (wp_seq_k fun K8 hK8 => rS fun K9 hK9 => sMs rfl (sV (evLen Tryz.underlying39 rfl) ?_)))))))
  by_cases hc10 : ((nr_3 : Int)) < 2
  · refine sV (evLss true rfl rfl (dT hc10)) (sK hK9 (cT rfl (rS fun K11 hK11 => sMi rfl (sAi rfl (sAs rfl (sK hK11 (wp_ret (xR (ret2 (.int .i64 (xu_3)) (.slice none 0 0) Tryz.results24 (resT rfl) (resT rfl) ?_)))))))))
    exact ⟨(xu_3), none, 0, 0, [], rfl, hE5, IListR.nil, (by show SplitR xf xu_3 []; rw [u_3]; exact split_const hB (by rw [← e_3]; omega)), (by omega)⟩
  · refine sV (evLss false rfl rfl (dF hc10)) (sK hK9 (cF rfl (wp_skip (xN (hK8 _ _ (wp_seq_k fun K12 hK12 => rS fun K13 hK13 => sMs rfl (sV (evLen Tryz.underlying39 rfl) ?_)))))))
    by_cases hc14 : ((nr_3 : Int)) = 2
    · refine sV (evEql true rfl rfl (dT hc14)) (sK hK13 (cT rfl (rS fun K15 hK15 => sMi rfl (sMs rfl (sO (oBuildSlice [(.slice Ar_3 nr_3 cr_3)] [[(.slice Ar_3 nr_3 cr_3)]] Tryz.underlying34 inf39 rfl rfl rfl rfl rfl (fun g16 w17 hg18 hE19 hz20 hB21 => ?_)))))))
      replace hB21 : Blk w17 g16 39 [(.slice Ar_3 nr_3 cr_3)] := hB21
      refine sAi rfl (sAs rfl (sK hK15 (wp_ret (xR (ret2 (.int .i64 (xu_3)) (.slice (some ⟨g16, 0, none⟩) 1 1) Tryz.results24 (resT rfl) (resT rfl) ?_)))))
      have h22 := (hr_3.ext hE19)
      have hR23 := hE5.trans hE19
      exact ⟨(xu_3), (some ⟨g16, 0, none⟩), 1, 1, ([⟨Ar_3, nr_3, cr_3, xr_3, 0⟩]), rfl, hR23, (IListR.oneS hB21 (by (try dsimp only); omega) (IntsR.sub h22 q5)), (by show SplitR xf xu_3 [xr_3]; rw [u_3, e_3]; exact split_lin hB (by omega) (by rw [← e_3]; omega)), (by omega)⟩
    · refine sV (evEql false rfl rfl (dF hc14)) (sK hK13 (cF rfl (wp_skip (xN (hK12 _ _ (wp_seq_k fun K24 hK24 => ?_))))))
      have hb0 := getD_bd hG 0; have hb1 := getD_bd hG 1; have hb2 := getD_bd hG 2; have hm1 := mul9 hb1 hb1; have hm2 := mul36 hb2 hb0
      refine dBegin (fun _ => False) mixed (fun w25 hE26 hz27 => dMs 0 rfl rfl ?_)
      have h28 := (hr_3.ext hE26)
      obtain ⟨b29, o30, rfl⟩ := h28.base (by omega)
      refine dV 1 rfl (fun _ _ => evIx 1 Tryz.underlying39 sz3 rfl rfl (o30 + 1)) ?_
      have hr31 := h28.rng 1
      refine dV 2 rfl (fun _ hf => evLoad one3 rfl ((h28.ext hf).cell (by omega))) (dMs 3 rfl rfl (dV 4 rfl (fun _ _ => evIx 1 Tryz.underlying39 sz3 rfl rfl (o30 + 1)) ?_))
      have hr32 := h28.rng 1
      refine dV 5 rfl (fun _ hf => evLoad one3 rfl ((h28.ext hf).cell (by omega))) (dV 6 rfl (fun _ _ => evMul (xr_3.getD 1 0 * xr_3.getD 1 0) rfl rfl (wI64 ⟨rfl, by omega, by omega⟩)) (dMs 7 rfl rfl (dV 8 rfl (fun _ _ => evIx 2 Tryz.underlying39 sz3 rfl rfl (o30 + 2)) ?_)))
      have hr33 := h28.rng 2
      refine dV 9 rfl (fun _ hf => evLoad one3 rfl ((h28.ext hf).cell (by omega))) (dV 10 rfl (fun _ _ => evMul (4 * (xr_3.getD 2 0)) rfl rfl wI) (dMs 11 rfl rfl (dV 12 rfl (fun _ _ => evIx 0 Tryz.underlying39 sz3 rfl rfl (o30 + 0)) ?_)))
      have hr34 := h28.rng 0
      refine dV 13 rfl (fun _ hf => evLoad one3 rfl ((h28.ext hf).cell (by omega))) (dV 14 rfl (fun _ _ => evMul (4 * xr_3.getD 2 0 * xr_3.getD 0 0) rfl rfl (wI64 ⟨rfl, by omega, by omega⟩)) (dV 15 rfl (fun _ _ => evSub ((xr_3.getD 1 0 * xr_3.getD 1 0) - (4 * xr_3.getD 2 0 * xr_3.getD 0 0)) rfl rfl wI) (dOp 16 rfl rfl (by kernel_rfl) (oCall rfl call46 (ref11_Root (by omega)) rfl ?_))))
      rintro _ w36 ⟨xs_35, gk_35, rfl, hE37, s_35, e_35, v_35⟩
      refine ⟨(Frm.of_ext hE37), ?_⟩
      have hz38 := hE37.size
      refine dV 17 rfl (v := (.tuple #[(.int .i64 (xs_35)), (.bool gk_35)])) (fun _ _ => rfl) (dV 18 rfl (v := (.int .i64 (xs_35))) (fun _ _ => rfl) (dV 19 rfl (v := (.bool gk_35)) (fun _ _ => rfl) (dAi 20 rfl rfl (dAb 21 rfl rfl (dDone (by kernel_rfl) (xN (hK24 _ _ (wp_seq_k fun K39 hK39 => rS fun K40 hK40 => sMb rfl (sV (evNot _ rfl rfl) (sK hK40 ?_))))))))))
      cases gk_35
      · refine cT rfl (rS fun K41 hK41 => sMi rfl (sMs rfl (sO (oBuildSlice [(.slice (some ⟨b29, o30, none⟩) nr_3 cr_3)] [[(.slice (some ⟨b29, o30, none⟩) nr_3 cr_3)]] Tryz.underlying34 inf39 rfl rfl rfl rfl rfl (fun g42 w43 hg44 hE45 hz46 hB47 => ?_)))))
        replace hB47 : Blk w43 g42 39 [(.slice (some ⟨b29, o30, none⟩) nr_3 cr_3)] := hB47
        refine sAi rfl (sAs rfl (sK hK41 (wp_ret (xR (ret2 (.int .i64 (xu_3)) (.slice (some ⟨g42, 0, none⟩) 1 1) Tryz.results24 (resT rfl) (resT rfl) ?_)))))
        have hR48 := hE37.trans hE45
        have h49 := (h28.ext hR48)
        have hR50 := ((hE5.trans hE26).trans hE37).trans hE45
        exact ⟨(xu_3), (some ⟨g42, 0, none⟩), 1, 1, ([⟨(some ⟨b29, o30, none⟩), nr_3, cr_3, xr_3, 0⟩]), rfl, hR50, (IListR.oneS hB47 (by (try dsimp only); omega) (IntsR.sub h49 q5)), (by show SplitR xf xu_3 [xr_3]; rw [u_3, e_3]; exact split_irr hB (by omega) (by rw [← e_3]; omega) (by rw [← e_3]; exact fun hh => absurd (e_35.2 hh) (by decide))), (by omega)⟩
      · refine cF rfl (wp_skip (xN (hK39 _ _ (wp_seq_k fun K51 hK51 => ?_))))
        clear e_35
        refine dBegin (fun _ => False) mixed (fun w52 hE53 hz54 => dMs 0 rfl rfl (dV 1 rfl (fun _ _ => evIx 1 Tryz.underlying39 sz3 rfl rfl (o30 + 1)) ?_))
        have hR55 := hE37.trans hE53
        have h56 := (h28.ext hR55)
        have hr57 := h56.rng 1
        refine dV 2 rfl (fun _ hf => evLoad one3 rfl ((h56.ext hf).cell (by omega))) (dMi 3 rfl rfl (dV 4 rfl (fun _ _ => evSub ((xr_3.getD 1 0) - xs_35) rfl rfl wI) (dMs 5 rfl rfl (dV 6 rfl (fun _ _ => evIx 2 Tryz.underlying39 sz3 rfl rfl (o30 + 2)) ?_))))
        have hr58 := h56.rng 2
        refine dV 7 rfl (fun _ hf => evLoad one3 rfl ((h56.ext hf).cell (by omega))) (dV 8 rfl (fun _ _ => evMul (2 * (xr_3.getD 2 0)) rfl rfl wI) (dOp 9 rfl rfl (by kernel_rfl) (oBuildSlice [(.int .i64 ((xr_3.getD 1 0) - xs_35)), (.int .i64 (2 * (xr_3.getD 2 0)))] [[(.int .i64 ((xr_3.getD 1 0) - xs_35))], [(.int .i64 (2 * (xr_3.getD 2 0)))]] Tryz.underlying39 inf3 rfl rfl rfl rfl rfl (fun g59 w60 hg61 hE62 hz63 hB64 => ⟨(Frm.of_ext hE62), ?_⟩))))
        replace hB64 : Blk w60 g59 3 [(.int .i64 ((xr_3.getD 1 0) - xs_35)), (.int .i64 (2 * (xr_3.getD 2 0)))] := hB64
        refine dOp 10 rfl rfl (by kernel_rfl) (oCall rfl call45 (ref11_Normal (IntsR.of_blk (S := fun b => b = g59) (n := 2) (c := 2) (xs := [(xr_3.getD 1 0) - xs_35, 2 * (xr_3.getD 2 0)]) hB64 rfl (by intro x hx; simp only [List.mem_cons, List.not_mem_nil, or_false] at hx; omega) rfl (Nat.le_refl _) (by decide)) (by intro x hx; simp only [List.mem_cons, List.not_mem_nil, or_false] at hx; omega) (by omega)) rfl ?_)
        rintro _ w66 ⟨xu_65, Ar_65, nr_65, cr_65, xr_65, rfl, hE67, hr_65, u_65, e_65, le_65⟩
        refine ⟨(Frm.of_ext hE67), ?_⟩
        have hz68 := hE67.size
        have ⟨lr_65, kr_65, mr_65⟩ := hr_65.lkm
        refine dV 11 rfl (v := (.tuple #[(.int .i64 (xu_65)), (.slice Ar_65 nr_65 cr_65)])) (fun _ _ => rfl) (dV 12 rfl (v := (.int .i64 (xu_65))) (fun _ _ => rfl) (dV 13 rfl (v := (.slice Ar_65 nr_65 cr_65)) (fun _ _ => rfl) (dAi 14 rfl rfl (dAs 15 rfl rfl (dDone (by kernel_rfl) (xN (hK51 _ _ (wp_seq_k fun K70 hK70 => dBegin (fun _ => False) mixed (fun w71 hE72 hz73 => dMs 0 rfl rfl (dV 1 rfl (fun _ _ => evIx 1 Tryz.underlying39 sz3 rfl rfl (o30 + 1)) ?_))))))))))
        have hR74 := (hE62.trans hE67).trans hE72
        have h75 := (h56.ext hR74)
        have hr76 := h75.rng 1
        refine dV 2 rfl (fun _ hf => evLoad one3 rfl ((h75.ext hf).cell (by omega))) (dMi 3 rfl rfl (dV 4 rfl (fun _ _ => evAdd ((xr_3.getD 1 0) + xs_35) rfl rfl wI) (dMs 5 rfl rfl (dV 6 rfl (fun _ _ => evIx 2 Tryz.underlying39 sz3 rfl rfl (o30 + 2)) ?_))))
        have hr77 := h75.rng 2
        refine dV 7 rfl (fun _ hf => evLoad one3 rfl ((h75.ext hf).cell (by omega))) (dV 8 rfl (fun _ _ => evMul (2 * (xr_3.getD 2 0)) rfl rfl wI) (dOp 9 rfl rfl (by kernel_rfl) (oBuildSlice [(.int .i64 ((xr_3.getD 1 0) + xs_35)), (.int .i64 (2 * (xr_3.getD 2 0)))] [[(.int .i64 ((xr_3.getD 1 0) + xs_35))], [(.int .i64 (2 * (xr_3.getD 2 0)))]] Tryz.underlying39 inf3 rfl rfl rfl rfl rfl (fun g78 w79 hg80 hE81 hz82 hB83 => ⟨(Frm.of_ext hE81), ?_⟩))))
        replace hB83 : Blk w79 g78 3 [(.int .i64 ((xr_3.getD 1 0) + xs_35)), (.int .i64 (2 * (xr_3.getD 2 0)))] := hB83
        refine dOp 10 rfl rfl (by kernel_rfl) (oCall rfl call45 (ref11_Normal (IntsR.of_blk (S := fun b => b = g78) (n := 2) (c := 2) (xs := [(xr_3.getD 1 0) + xs_35, 2 * (xr_3.getD 2 0)]) hB83 rfl (by intro x hx; simp only [List.mem_cons, List.not_mem_nil, or_false] at hx; omega) rfl (Nat.le_refl _) (by decide)) (by intro x hx; simp only [List.mem_cons, List.not_mem_nil, or_false] at hx; omega) (by omega)) rfl ?_)
        rintro _ w85 ⟨xu_84, Ar_84, nr_84, cr_84, xr_84, rfl, hE86, hr_84, u_84, e_84, le_84⟩
        refine ⟨(Frm.of_ext hE86), ?_⟩
        have hz87 := hE86.size
        have ⟨lr_84, kr_84, mr_84⟩ := hr_84.lkm
        refine dV 11 rfl (v := (.tuple #[(.int .i64 (xu_84)), (.slice Ar_84 nr_84 cr_84)])) (fun _ _ => rfl) (dV 12 rfl (v := (.int .i64 (xu_84))) (fun _ _ => rfl) (dV 13 rfl (v := (.slice Ar_84 nr_84 cr_84)) (fun _ _ => rfl) (dAi 14 rfl rfl (dAs 15 rfl rfl (dDone (by kernel_rfl) (xN (hK70 _ _ (rS fun K89 hK89 => sMi rfl (sMs rfl (sMs rfl (sO (oBuildSlice [(.slice Ar_65 nr_65 cr_65), (.slice Ar_84 nr_84 cr_84)] [[(.slice Ar_65 nr_65 cr_65)], [(.slice Ar_84 nr_84 cr_84)]] Tryz.underlying34 inf39 rfl rfl rfl rfl rfl (fun g90 w91 hg92 hE93 hz94 hB95 => ?_)))))))))))))
        replace hB95 : Blk w91 g90 39 [(.slice Ar_65 nr_65 cr_65), (.slice Ar_84 nr_84 cr_84)] := hB95
        refine sAi rfl (sAs rfl (sK hK89 (wp_ret (ret2 (.int .i64 (xu_3)) (.slice (some ⟨g90, 0, none⟩) 2 2) Tryz.results24 (resT rfl) (resT rfl) ?_))))
        have hR96 := ((hE72.trans hE81).trans hE86).trans hE93
        have h97 := (hr_65.ext hR96)
        have h98 := (hr_84.ext hE93)
        have hR99 := ((((((((hE5.trans hE26).trans hE37).trans hE53).trans hE62).trans hE67).trans hE72).trans hE81).trans hE86).trans hE93
        exact ⟨(xu_3), (some ⟨g90, 0, none⟩), 2, 2, ([⟨Ar_65, nr_65, cr_65, xr_65, 0⟩, ⟨Ar_84, nr_84, cr_84, xr_84, 0⟩]), rfl, hR99, (IListR.twoS hB95 (by (try dsimp only); omega) (IntsR.sub h97 q5) (IntsR.sub h98 q5)), (by show SplitR xf xu_3 [xr_65, xr_84]; rw [u_3, e_65, e_84]; have hq := v_35 rfl; have hs21 := root_split hq s_35 hG; rw [e_3] at hq ⊢; exact split_two hB (by rw [← e_3]; omega) hq ⟨s_35.1, hs21⟩), (by omega)⟩
theorem ref11_Wide {w : World} {yq0 yq1 yq2 : Int} (bq0 : -128 ≤ yq0 ∧ yq0 ≤ 127) (bq1 : -128 ≤ yq1 ∧ yq1 ≤ 127) (bq2 : -128 ≤ yq2 ∧ yq2 ≤ 127)  : Calls Tryz.prog 25 #[(.agg #[(.int .i8 (yq0)), (.int .i8 (yq1)), (.int .i8 (yq2))])] w (Ret fun v w' => ∃ (Ar : Option Addr) (nr : Nat) (cr : Nat) (xr : List Int), v = (.slice Ar nr cr) ∧ Ext w w' ∧ IntsR w' (fun b => w.heap.size ≤ b) Ar nr cr xr ∧ (xr = [yq0, yq1, yq2]) ∧ (nr = 3)) := by
  refine enter Tryz.func25 rfl Tryz.ntmps25 rfl (rS fun K1 hK1 => sO (oBox [(.int .i8 (yq0)), (.int .i8 (yq1)), (.int .i8 (yq2))] rfl rfl (fun g2 w3 hg4 hE5 hz6 hB7 => sAs rfl (sK hK1 (rS fun K8 hK8 => sV (evArr 0 Tryz.underlying54 sz53 rfl rfl 0) (sV (evLoadB one53 rfl hB7 rfl) (sV (evConv yq0 Tryz.underlying53 Tryz.underlying3 rfl (wI64 (by omega))) (sV (evArr 1 Tryz.underlying54 sz53 rfl rfl 1) (sV (evLoadB one53 rfl hB7 rfl) (sV (evConv yq1 Tryz.underlying53 Tryz.underlying3 rfl (wI64 (by omega))) (sV (evArr 2 Tryz.underlying54 sz53 rfl rfl 2) (sV (evLoadB one53 rfl hB7 rfl) (sV (evConv yq2 Tryz.underlying53 Tryz.underlying3 rfl (wI64 (by omega))) (sO (oBuildSlice [(.int .i64 (yq0)), (.int .i64 (yq1)), (.int .i64 (yq2))] [[(.int .i64 (yq0))], [(.int .i64 (yq1))], [(.int .i64 (yq2))]] Tryz.underlying39 inf3 rfl rfl rfl rfl rfl ?_)))))))))))))))
  intro g9 w10 hg11 hE12 hz13 hB14
  replace hB14 : Blk w10 g9 3 [(.int .i64 (yq0)), (.int .i64 (yq1)), (.int .i64 (yq2))] := hB14
  refine sAs rfl (sK hK8 (wp_ret (ret1 (.slice (some ⟨g9, 0, none⟩) 3 3) Tryz.results25 (resT rfl) ?_)))
  have hR15 := hE5.trans hE12
  exact ⟨(some ⟨g9, 0, none⟩), 3, 3, ([yq0, yq1, yq2]), rfl, hR15, (IntsR.sub (IntsR.of_blk (S := fun b => b = g9) (n := 3) (c := 3) (xs := [yq0, yq1, yq2]) hB14 rfl (by intro x hx; simp only [List.mem_cons, List.not_mem_nil, or_false] at hx; omega) rfl (Nat.le_refl _) (by decide)) q5), rfl, rfl⟩
end Go.Proofs.YtbniolgfaeiedaaGreat
