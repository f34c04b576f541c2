/-
  Walks of package hensel: sums of products, remainders.
-/
import Derived.Test.YtneolcopompkaaaGreatDoorHen3
namespace Go.Proofs.YtneolcopompkaaaGreatDoor
open Go.RowKit Go.Gx
set_option maxHeartbeats 1000000 in
theorem hensel_sum {w : World} {Ss0 : Nat → Prop} {As0 : Option Addr} {ns0 cs0 Ms0 : Nat} {fs0 : List PE} {Ss1 : Nat → Prop} {As1 : Option Addr} {ns1 cs1 Ms1 : Nat} {fs1 : List PE} {gm : Bool} {Sm : Nat → Prop} {Am : Option Addr} {nm cm : Nat} {dm : List Nat} (hs0 : PolysR w Ss0 As0 ns0 cs0 fs0 Ms0) (hs1 : PolysR w Ss1 As1 ns1 cs1 fs1 Ms1) (hm : NatR w Sm Am nm cm dm) (hnl : ns0 ≤ 8 ∧ ns1 = ns0) (hMl : Ms0 ≤ 65536 ∧ Ms1 ≤ 65536) (hnm : nm ≤ 65536) (hm0 : zval gm dm ≠ 0) (hle : (∀ x ∈ fs0, x.n ≤ 64) ∧ ∀ x ∈ fs1, x.n ≤ 64) : Calls Tryz.prog 100 #[(.agg #[(.slice As0 ns0 cs0), (.slice As1 ns1 cs1)]), (.agg #[(.bool gm), (.slice Am nm cm)])] w (Ret fun v w' => ∃ (At : Option Addr) (nt : Nat) (ct : Nat) (lt : List RI) (Ar : Option Addr) (nr : Nat) (cr : Nat) (lr : List RI), v = (.tuple #[(.slice At nt ct), (.slice Ar nr cr)]) ∧ Ext w w' ∧ PolyR w' (fun b => w.heap.size ≤ b) At nt ct lt (nm + 2) ∧ PolyR w' (fun b => w.heap.size ≤ b) Ar nr cr lr (nm + 2) ∧ ((zs lt, zs lr) = sumZ (zval gm dm).natAbs (fs0.map fun f => zs f.l) (fs1.map fun f => zs f.l)) ∧ (nt ≤ 1 + 64 * ns0) ∧ (nr ≤ 1 + 64 * ns0) ∧ (AllC lt ∧ AllC lr)) := by
  have ⟨ks0, js0, ms0⟩ := hs0.lkm; replace hs0 := hs0.low
  have ⟨ks1, js1, ms1⟩ := hs1.lkm; replace hs1 := hs1.low
  have ⟨lm, km, mm⟩ := hm.lkm
  replace hm := hm.low
  refine enter Tryz.func100 rfl Tryz.ntmps100 rfl (rS fun K1 hK1 => sO (oBox [(.slice As0 ns0 cs0), (.slice As1 ns1 cs1)] rfl rfl (fun g2 w3 hg4 hE5 hz6 hB7 => sO (oBox [(.bool gm), (.slice Am nm cm)] rfl rfl (fun g8 w9 hg10 hE11 hz12 hB13 => sAs rfl (sAs rfl (sK hK1 (rS fun K14 hK14 => sO (oBuildSlice [(.int .i64 (1))] [[(.int .i64 (1))]] Tryz.underlying82 inf2 rfl rfl rfl rfl rfl (fun g15 w16 hg17 hE18 hz19 hB20 => ?_))))))))))
  replace hB20 : Blk w16 g15 2 [(.int .i64 (1))] := hB20
  refine sO (oCall rfl call17 (unipoly_Of (IntsR.of_blk (S := fun b => b = g15) (n := 1) (c := 1) (xs := [1]) hB20 rfl (by decide) rfl (Nat.le_refl _) (by decide)) (by omega)) rfl ?_)
  rintro _ w22 ⟨Ar_21, nr_21, cr_21, lr_21, rfl, hE23, hr_21, e_21, le_21, cn_21⟩
  have hz24 := hE23.size
  have ⟨kr_21, jr_21, mr_21⟩ := hr_21.lkm
  refine sAs rfl (sK hK14 (wp_seq_k fun K26 hK26 => rS fun K27 hK27 => sV (evArr 0 Tryz.underlying92 sz43 rfl rfl 0) ?_))
  have hR28 := (hE11.trans hE18).trans hE23
  have hB29 := (hB7.ext hR28)
  refine sV (evLoadB one43 rfl hB29 rfl) (sV (evLen Tryz.underlying43 rfl) (sMi rfl (sK hK27 (wp_block ?_))))
  refine lLoop (fun m e w_ => ∃ (i : Nat) (At : Option Addr) (nt : Nat) (ct : Nat) (lt : List RI) (Ap : Option Addr) (np : Nat) (cp : Nat) (lp : List RI), m = ns0 - i ∧ e 2 = (.pointer (some ⟨g2, 0, none⟩)) ∧ e 3 = (.pointer (some ⟨g8, 0, none⟩)) ∧ e 4 = (.slice At nt ct) ∧ e 5 = (.slice Ap np cp) ∧ e 11 = (.slice As0 ns0 cs0) ∧ e 12 = (.int .i64 ((ns0 : Int))) ∧ e 13 = (.int .i64 ((i : Int))) ∧ Frm (fun b => False) w22 w_ ∧ (i ≤ ns0) ∧ (PolyR w_ (fun b => w.heap.size ≤ b) At nt ct lt (nm + 2)) ∧ (PolyR w_ (fun b => w.heap.size ≤ b) Ap np cp lp (nm + 2)) ∧ (nt ≤ 1 + 64 * i ∧ np ≤ 1 + 64 * i) ∧ (AllC lt ∧ AllC lp) ∧ ((zs lt, zs lp) = sumZ (zval gm dm).natAbs ((fs0.take i).map fun f => zs f.l) ((fs1.take i).map fun f => zs f.l))) (ns0 - (0)) ?_ ?_
  · refine ⟨(0), (none), (0), (0), ([]), (Ar_21), (nr_21), (cr_21), (lr_21), rfl, rfl, rfl, rfl, rfl, rfl, rfl, cI, (Frm.refl _ _), ?_, ?_, ?_, ?_, ?_, ?_⟩
    · omega
    · exact PolyR.nil
    · exact (PolyR.sub hr_21 q5).le (by omega)
    · omega
    · exact ⟨AllC.nil, cn_21⟩
    · rw [e_21]; rfl
  · rintro m30 e41 w31 ⟨i, At, nt, ct, lt, Ap, np, cp, lp, hm40, hs32, hs33, hs34, hs35, hs36, hs37, hs38, hF39, hi, ht, hp, hnn, hC, hac⟩
    obtain ⟨r42, rfl⟩ := sq (e := e41) (t := 2) hs32
    obtain ⟨r43, rfl⟩ := sq (e := r42) (t := 3) hs33
    obtain ⟨r44, rfl⟩ := sq (e := r43) (t := 4) hs34
    obtain ⟨r45, rfl⟩ := sq (e := r44) (t := 5) hs35
    obtain ⟨r46, rfl⟩ := sq (e := r45) (t := 11) hs36
    obtain ⟨r47, rfl⟩ := sq (e := r46) (t := 12) hs37
    obtain ⟨r48, rfl⟩ := sq (e := r47) (t := 13) hs38
    have hz49 := hF39.size
    have ⟨kt, jt, mt⟩ := ht.lkm; have ⟨kp, jp, mp⟩ := hp.lkm
    refine rS fun K50 hK50 => ?_
    by_cases hc51 : ((i : Int)) < ((ns0 : Int))
    · refine sV (evLss true rfl rfl (dT hc51)) (sK hK50 (wp_seq_k fun K52 hK52 => cT rfl (wp_skip (xN (hK52 _ _ (wp_seq_k fun K53 hK53 => wp_block (rS fun K54 hK54 => sMi rfl ?_)))))))
      have hR55 := (((hE5.trans hE11).trans hE18).trans hE23).trans hF39
      have h56 := (hs0.ext hR55)
      obtain ⟨b57, o58, rfl⟩ := h56.base (by omega)
      refine sV (evIx i Tryz.underlying43 sz39 rfl rfl (o58 + i)) ?_
      obtain ⟨⟨A_59, n_59, c_59, l_59⟩, he_59, hp_59, hP_59, hS_59, hb_59⟩ := h56.at_ (i := i) (by omega)
      dsimp only at hp_59 hP_59; have ⟨q1_59, q2_59, q3_59⟩ := hP_59.lkm
      have h64_59 := hle.1 _ (List.mem_of_getElem? he_59); dsimp only at h64_59
      refine sV (evLoad one39 rfl hp_59) (sAi rfl (sAs rfl (sK hK54 (wp_seq_k fun K61 hK61 => dBegin (fun _ => False) mixed (fun w62 hE63 hz64 => dMs 0 rfl rfl (dMs 1 rfl rfl (dV 3 rfl (fun _ _ => evArr 1 Tryz.underlying92 sz43 rfl rfl 1) ?_)))))))
      have hR65 := hF39.trans hE63
      have hB66 := (hB29.ext hR65)
      refine dV 4 rfl (fun _ hf => evLoadB one43 rfl (hB66.ext hf) rfl) (dMi 5 rfl rfl ?_)
      have hR67 := hR55.trans hE63
      have h68 := (hs1.ext hR67)
      obtain ⟨b69, o70, rfl⟩ := h68.base (by omega)
      refine dV 6 rfl (fun _ _ => evIx i Tryz.underlying43 sz39 rfl rfl (o70 + i)) ?_
      obtain ⟨⟨A_71, n_71, c_71, l_71⟩, he_71, hp_71, hP_71, hS_71, hb_71⟩ := h68.at_ (i := i) (by omega)
      dsimp only at hp_71 hP_71; have ⟨q1_71, q2_71, q3_71⟩ := hP_71.lkm
      have h64_71 := hle.2 _ (List.mem_of_getElem? he_71); dsimp only at h64_71
      refine dV 7 rfl (fun _ hf => evLoad one39 rfl ((hf.cell (p := ⟨_, _, none⟩) hb_71 (fun h => h)).trans hp_71)) (dMs 8 rfl rfl ?_)
      have h73 := (ht.ext hE63)
      have h74 := (hP_59.ext hE63)
      refine dOp 2 rfl rfl (by kernel_rfl) (oCall rfl call19 (unipoly_Mul h73 h74 (by omega) (by omega) (by omega) (by omega)) rfl ?_)
      rintro _ w76 ⟨Ar_75, nr_75, cr_75, lr_75, rfl, hE77, hr_75, e_75, ln_75, cn_75⟩
      refine ⟨(Frm.of_ext hE77), ?_⟩
      have hz78 := hE77.size
      have ⟨kr_75, jr_75, mr_75⟩ := hr_75.lkm
      have h80 := (hP_71.ext hE77)
      have hR81 := hE63.trans hE77
      have h82 := (hp.ext hR81)
      refine dOp 9 rfl rfl (by kernel_rfl) (oCall rfl call19 (unipoly_Mul h80 h82 (by omega) (by omega) (by omega) (by omega)) rfl ?_)
      rintro _ w84 ⟨Ar_83, nr_83, cr_83, lr_83, rfl, hE85, hr_83, e_83, ln_83, cn_83⟩
      refine ⟨(Frm.of_ext hE85), ?_⟩
      have hz86 := hE85.size
      have ⟨kr_83, jr_83, mr_83⟩ := hr_83.lkm
      have h88 := (hr_75.ext hE85)
      refine dOp 10 rfl rfl (by kernel_rfl) (oCall rfl call102 (unipoly_Add h88 hr_83 (by omega) (by omega) (by omega) (by omega)) rfl ?_)
      rintro _ w90 ⟨Ar_89, nr_89, cr_89, lr_89, rfl, hE91, hr_89, e_89, ln_89, cn_89⟩
      refine ⟨(Frm.of_ext hE91), ?_⟩
      have hz92 := hE91.size
      have ⟨kr_89, jr_89, mr_89⟩ := hr_89.lkm
      refine dAs 11 rfl rfl (dDone (by kernel_rfl) (xN (hK61 _ _ (rS fun K94 hK94 => sMs rfl ?_))))
      have hR95 := (((((hE18.trans hE23).trans hF39).trans hE63).trans hE77).trans hE85).trans hE91
      have hB96 := (hB13.ext hR95)
      refine sV (evLoadAB [(.bool gm), (.slice Am nm cm)] agg25 sz25 rfl hB96 rfl) ?_
      have hR97 := ((hR67.trans hE77).trans hE85).trans hE91
      have h98 := (hm.ext hR97)
      refine sO (oCall rfl call68 (hensel_reduce hr_89 h98 (by omega) (by omega) (by omega) (by omega)) rfl ?_)
      rintro _ w100 ⟨Ar_99, nr_99, cr_99, lr_99, rfl, hE101, hr_99, e_99, le_99, cn_99⟩
      have hz102 := hE101.size
      have ⟨kr_99, jr_99, mr_99⟩ := hr_99.lkm
      refine sAs rfl (sK hK94 (dBegin (fun _ => False) mixed (fun w104 hE105 hz106 => dMs 0 rfl rfl (dMs 1 rfl rfl ?_))))
      have hR107 := hE101.trans hE105
      have hB108 := (hB96.ext hR107)
      refine dV 3 rfl (fun _ hf => evLoadAB [(.bool gm), (.slice Am nm cm)] agg25 sz25 rfl (hB108.ext hf) rfl) ?_
      have hR109 := ((hE85.trans hE91).trans hE101).trans hE105
      have h110 := (h82.ext hR109)
      have hR111 := (((hE77.trans hE85).trans hE91).trans hE101).trans hE105
      have h112 := (h74.ext hR111)
      refine dOp 2 rfl rfl (by kernel_rfl) (oCall rfl call19 (unipoly_Mul h110 h112 (by omega) (by omega) (by omega) (by omega)) rfl ?_)
      rintro _ w114 ⟨Ar_113, nr_113, cr_113, lr_113, rfl, hE115, hr_113, e_113, ln_113, cn_113⟩
      refine ⟨(Frm.of_ext hE115), ?_⟩
      have hz116 := hE115.size
      have ⟨kr_113, jr_113, mr_113⟩ := hr_113.lkm
      have hR118 := hR107.trans hE115
      have h119 := (h98.ext hR118)
      refine dOp 4 rfl rfl (by kernel_rfl) (oCall rfl call68 (hensel_reduce hr_113 h119 (by omega) (by omega) (by omega) (by omega)) rfl ?_)
      rintro _ w121 ⟨Ar_120, nr_120, cr_120, lr_120, rfl, hE122, hr_120, e_120, le_120, cn_120⟩
      refine ⟨(Frm.of_ext hE122), ?_⟩
      have hz123 := hE122.size
      have ⟨kr_120, jr_120, mr_120⟩ := hr_120.lkm
      refine dAs 5 rfl rfl (dDone (by kernel_rfl) (bN (xN (hK53 _ _ (wp_region_lit (sV (evAdd (((i : Int)) + 1) rfl rfl wI) (sMi rfl (sDone ?_))))))))
      have hR125 := (((((hR81.trans hE85).trans hE91).trans hE101).trans hE105).trans hE115).trans hE122
      have hR126 := (hE105.trans hE115).trans hE122
      have h127 := (hr_99.ext hR126)
      refine again (ns0 - (i + 1)) (by omega) ⟨(i + 1), (Ar_99), (nr_99), (cr_99), (lr_99), (Ar_120), (nr_120), (cr_120), (lr_120), rfl, rfl, rfl, rfl, rfl, rfl, rfl, cI, (hF39.trans hR125), ?_, ?_, ?_, ?_, ?_, ?_⟩
      · omega
      · exact (PolyR.sub h127 q5).le (by omega)
      · exact (PolyR.sub hr_120 q5).le (by omega)
      · omega
      · exact ⟨cn_99, cn_120⟩
      · rw [sumZ_next he_59 he_71, ← hac]; dsimp only [sumStep]; rw [e_99, e_89, e_75, e_83, e_120, e_113]
    · refine sV (evLss false rfl rfl (dF hc51)) (sK hK50 (wp_seq_k fun K128 hK128 => cF rfl (wp_exit (xE (xE (bE (xN (hK26 _ _ (rS fun K129 hK129 => sMs rfl (sMs rfl (sAs rfl (sAs rfl (sK hK129 (wp_ret (ret2 (.slice At nt ct) (.slice Ap np cp) Tryz.results100 (resT rfl) (resT rfl) ?_)))))))))))))))
      have hR130 := (((hE5.trans hE11).trans hE18).trans hE23).trans hF39
      exact ⟨At, nt, ct, lt, Ap, np, cp, lp, rfl, hR130, (PolyR.le (PolyR.sub ht q5) (by omega)), (PolyR.le (PolyR.sub hp q5) (by omega)), (by rw [hac, List.take_of_length_le (by omega), List.take_of_length_le (by omega)]), (by omega), (by omega), hC⟩
end Go.Proofs.YtneolcopompkaaaGreatDoor
