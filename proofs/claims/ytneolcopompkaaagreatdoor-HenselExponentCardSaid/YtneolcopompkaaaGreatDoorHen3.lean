/-
  Walks of package hensel: powers, products of lists.
-/
import Derived.Test.YtneolcopompkaaaGreatDoorHen2
import Derived.Test.YtneolcopompkaaaGreatDoorLibB
namespace Go.Proofs.YtneolcopompkaaaGreatDoor
open Go.RowKit Go.Gx
theorem hensel_power {w : World} {xp : Nat} {xn : Int} (bp : xp < 4294967296) (hxn : 0 ≤ xn ∧ xn ≤ 64) : Calls Tryz.prog 60 #[(.int .u32 ((xp : Int))), (.int .i64 (xn))] w (Ret fun v w' => ∃ (gr : Bool) (Ar : Option Addr) (nr : Nat) (cr : Nat) (dr : List Nat), v = (.agg #[(.bool gr), (.slice Ar nr cr)]) ∧ Ext w w' ∧ NatR w' (fun b => w.heap.size ≤ b) Ar nr cr dr ∧ (zval gr dr = (xp : Int) ^ xn.toNat) ∧ (ICan gr dr) ∧ (nr ≤ 33554432)) := by
  refine enter Tryz.func60 rfl Tryz.ntmps60 rfl (rS fun K1 hK1 => sO (oAlloc [(.bool false), (.slice none 0 0)] zero25 rfl (fun g2 w3 hg4 hE5 hz6 hB7 => sK hK1 (rS fun K8 hK8 => sMi rfl (sV (evConv ((xp : Int)) Tryz.underlying26 Tryz.underlying2 rfl (wI64 (by omega))) (sO (oBuildSlice [(.int .i64 ((xp : Int)))] [[(.int .i64 ((xp : Int)))]] Tryz.underlying82 inf2 rfl rfl rfl rfl rfl (fun g9 w10 hg11 hE12 hz13 hB14 => ?_))))))))
  replace hB14 : Blk w10 g9 2 [(.int .i64 ((xp : Int)))] := hB14
  refine sO (oCall rfl call17 (unipoly_Of (IntsR.of_blk (S := fun b => b = g9) (n := 1) (c := 1) (xs := [(xp : Int)]) hB14 rfl (by intro x hx; simp only [List.mem_cons, List.not_mem_nil, or_false] at hx; omega) rfl (Nat.le_refl _) (by decide)) (by omega)) rfl ?_)
  rintro _ w16 ⟨Ar_15, nr_15, cr_15, lr_15, rfl, hE17, hr_15, e_15, le_15, cn_15⟩
  have hz18 := hE17.size
  have ⟨kr_15, jr_15, mr_15⟩ := hr_15.lkm
  refine sMi rfl (sO (oCall rfl call98 (unipoly_Pow hr_15 (by omega) (by omega) (by omega)) rfl ?_))
  rintro _ w21 ⟨Ar_20, nr_20, cr_20, lr_20, rfl, hE22, hr_20, e_20, ln_20, cn_20⟩
  have hz23 := hE22.size
  have ⟨kr_20, jr_20, mr_20⟩ := hr_20.lkm
  refine sO (oCall rfl call41 (unipoly_Lead hr_20 (by omega) (by omega)) rfl ?_)
  rintro _ w26 ⟨gr_25, Ar_25, nr_25, cr_25, dr_25, rfl, hE27, hr_25, v_25, cn_25, le_25⟩
  have hz28 := hE27.size
  have ⟨lr_25, kr_25, mr_25⟩ := hr_25.lkm
  have hR30 := ((hE12.trans hE17).trans hE22).trans hE27
  have hB31 := (hB7.ext hR30)
  refine sO (oStore [(.bool gr_25), (.slice Ar_25 nr_25 cr_25)] rfl rfl rfl sz25 rfl hB31 (Nat.le_of_ble_eq_true rfl) (fun w32 hU33 hz34 hB35 => ?_))
  replace hB35 : Blk w32 g2 25 [(.bool gr_25), (.slice Ar_25 nr_25 cr_25)] := hB35
  refine sK hK8 (wp_ret (ret1 (.agg #[(.bool gr_25), (.slice Ar_25 nr_25 cr_25)]) Tryz.results60 (resB [(.bool gr_25), (.slice Ar_25 nr_25 cr_25)] agg25 sz25 rfl hB35) ?_))
  have h36 := (hr_25.frmB hU33 q3)
  have hR37 := ((((hE5.trans hE12).trans hE17).trans hE22).trans hE27).rx hU33
  exact ⟨gr_25, Ar_25, nr_25, cr_25, dr_25, rfl, (Frm.mono hR37 q4), (NatR.sub h36 q5), (by rw [v_25]; show ldP (zs lr_20) = _; rw [ld_pow1 (a := (xp : Int)) (n := xn.toNat) (by rw [e_20, e_15]; exact pow_lit)]), cn_25, (by omega)⟩
theorem hensel_isFactorization {w : World} {Sf : Nat → Prop} {Af : Option Addr} {nf cf Mf : Nat} {lf : List RI} {Sl : Nat → Prop} {Al : Option Addr} {nl cl Ml : Nat} {fl : List PE} (hf : PolyR w Sf Af nf cf lf Mf) (hl : PolysR w Sl Al nl cl fl Ml) (hnf : nf ≤ 512) (hMf : Mf ≤ 65536) (hnl : nl ≤ 8) (hMl : Ml ≤ 65536) (hle : ∀ x ∈ fl, x.n ≤ 64) : Calls Tryz.prog 59 #[(.slice Af nf cf), (.slice Al nl cl)] w (Ret fun v w' => ∃ (gr : Bool), v = (.bool gr) ∧ Ext w w' ∧ (gr = decide (trimZ (zs lf) = trimZ (foldMul [ldP (zs lf)] (fl.map fun f => zs f.l))))) := by
  have ⟨kf, jf, mf⟩ := hf.lkm
  replace hf := hf.low
  have ⟨kl, jl, ml⟩ := hl.lkm; replace hl := hl.low
  refine enter Tryz.func59 rfl Tryz.ntmps59 rfl (rS fun K1 hK1 => sAb rfl (sK hK1 (rS fun K2 hK2 => sMs rfl (sO (oCall rfl call41 (unipoly_Lead hf (by omega) (by omega)) rfl ?_)))))
  rintro _ w4 ⟨gr_3, Ar_3, nr_3, cr_3, dr_3, rfl, hE5, hr_3, v_3, cn_3, le_3⟩
  have hz6 := hE5.size
  have ⟨lr_3, kr_3, mr_3⟩ := hr_3.lkm
  have hld : zval gr_3 dr_3 = ldP (zs lf) := v_3
  refine sO (oBuildSlice [(.agg #[(.bool gr_3), (.slice Ar_3 nr_3 cr_3)])] [[(.bool gr_3), (.slice Ar_3 nr_3 cr_3)]] Tryz.underlying39 inf25 rfl rfl rfl rfl rfl (fun g8 w9 hg10 hE11 hz12 hB13 => ?_))
  replace hB13 : Blk w9 g8 25 [(.bool gr_3), (.slice Ar_3 nr_3 cr_3)] := hB13
  have h14 := (hr_3.ext hE11)
  have h15 := PolyR.one (S' := fun b => b < w9.heap.size) (M := Mf) hB13 h14 (fun b hb _ => hb) hB13.lt (by omega)
  refine sAs rfl (sK hK2 (wp_seq_k fun K17 hK17 => rS fun K18 hK18 => sMs rfl (sV (evLen Tryz.underlying43 rfl) (sMi rfl (sK hK18 (wp_block ?_))))))
  refine lLoop (fun m e w_ => ∃ (i : Nat) (Ap : Option Addr) (np : Nat) (cp : Nat) (lp : List RI), m = nl - i ∧ e 0 = (.slice Af nf cf) ∧ e 5 = (.slice Ap np cp) ∧ e 11 = (.slice Al nl cl) ∧ e 12 = (.int .i64 ((nl : Int))) ∧ e 13 = (.int .i64 ((i : Int))) ∧ Frm (fun b => False) w9 w_ ∧ (i ≤ nl) ∧ (PolyR w_ (fun b => b < w_.heap.size) Ap np cp lp (Mf + 66200 * i)) ∧ (np ≤ 1 + 64 * i) ∧ (zs lp = foldMul [ldP (zs lf)] ((fl.take i).map fun f => zs f.l))) (nl - (0)) ?_ ?_
  · refine ⟨(0), ((some ⟨g8, 0, none⟩)), (1), (1), ([⟨gr_3, Ar_3, nr_3, cr_3, dr_3⟩]), rfl, rfl, rfl, rfl, rfl, cI, (Frm.refl _ _), ?_, ?_, ?_, ?_⟩
    · omega
    · exact (PolyR.low h15).le (by omega)
    · omega
    · show [zval _ _] = _; rw [hld]; rfl
  · rintro m19 e28 w20 ⟨i, Ap, np, cp, lp, hm27, hs21, hs22, hs23, hs24, hs25, hF26, hi, hp, hnp, hac⟩
    obtain ⟨r29, rfl⟩ := sq (e := e28) (t := 0) hs21
    obtain ⟨r30, rfl⟩ := sq (e := r29) (t := 5) hs22
    obtain ⟨r31, rfl⟩ := sq (e := r30) (t := 11) hs23
    obtain ⟨r32, rfl⟩ := sq (e := r31) (t := 12) hs24
    obtain ⟨r33, rfl⟩ := sq (e := r32) (t := 13) hs25
    have hz34 := hF26.size
    have ⟨kp, jp, mp⟩ := hp.lkm
    refine rS fun K35 hK35 => ?_
    by_cases hc36 : ((i : Int)) < ((nl : Int))
    · refine sV (evLss true rfl rfl (dT hc36)) (sK hK35 (wp_seq_k fun K37 hK37 => cT rfl (wp_skip (xN (hK37 _ _ (wp_seq_k fun K38 hK38 => wp_block (rS fun K39 hK39 => ?_)))))))
      have hR40 := (hE5.trans hE11).trans hF26
      have h41 := (hl.ext hR40)
      obtain ⟨b42, o43, rfl⟩ := h41.base (by omega)
      refine sV (evIx i Tryz.underlying43 sz39 rfl rfl (o43 + i)) ?_
      obtain ⟨⟨A_44, n_44, c_44, l_44⟩, he_44, hp_44, hP_44, hS_44, hb_44⟩ := h41.at_ (i := i) (by omega)
      dsimp only at hp_44 hP_44; have ⟨q1_44, q2_44, q3_44⟩ := hP_44.lkm
      have hn64 := hle _ (List.mem_of_getElem? he_44); dsimp only at hn64
      refine sV (evLoad one39 rfl hp_44) (sAs rfl (sK hK39 (wp_region_lit (sMs rfl (sMs rfl (sO (oCall rfl call19 (unipoly_Mul hp hP_44 (by omega) (by omega) (by omega) (by omega)) rfl ?_)))))))
      rintro _ w47 ⟨Ar_46, nr_46, cr_46, lr_46, rfl, hE48, hr_46, e_46, ln_46, cn_46⟩
      have hz49 := hE48.size
      have ⟨kr_46, jr_46, mr_46⟩ := hr_46.lkm
      refine sAs rfl (sDone (bN (xN (hK38 _ _ (wp_region_lit (sV (evAdd (((i : Int)) + 1) rfl rfl wI) (sMi rfl (sDone (again (nl - (i + 1)) (by omega) ⟨(i + 1), (Ar_46), (nr_46), (cr_46), (lr_46), rfl, rfl, rfl, rfl, rfl, cI, (hF26.trans hE48), ?_, ?_, ?_, ?_⟩)))))))))
      · omega
      · exact (PolyR.low hr_46).le (by omega)
      · omega
      · rw [foldMul_next he_44, ← hac, e_46]
    · refine sV (evLss false rfl rfl (dF hc36)) (sK hK35 (wp_seq_k fun K51 hK51 => cF rfl (wp_exit (xE (xE (bE (xN (hK17 _ _ (rS fun K52 hK52 => sMs rfl (sMs rfl ?_))))))))))
      have hR53 := (hE5.trans hE11).trans hF26
      have h54 := (hf.ext hR53)
      refine sO (oCall rfl call25 (unipoly_Same h54 hp) rfl ?_)
      rintro _ w56 ⟨gr_55, rfl, hE57, e_55⟩
      have hz58 := hE57.size
      refine sAb rfl (sK hK52 (wp_ret (ret1 (.bool gr_55) Tryz.results59 (resT rfl) ?_)))
      have hR59 := hR53.trans hE57
      exact ⟨(gr_55), rfl, hR59, (by rw [e_55, hac, List.take_of_length_le (by omega)])⟩
end Go.Proofs.YtneolcopompkaaaGreatDoor
