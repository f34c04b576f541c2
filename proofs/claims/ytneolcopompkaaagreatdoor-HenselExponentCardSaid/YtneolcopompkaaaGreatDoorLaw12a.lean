/-
  Walks of the laws on the lift: the fixed example, HenselExponent.
-/
import Derived.Test.YtneolcopompkaaaGreatDoorHen9
import Derived.Test.YtneolcopompkaaaGreatDoorLibB
namespace Go.Proofs.YtneolcopompkaaaGreatDoor
open Go.RowKit Go.Gx
theorem law12_fit {w : World}    : Calls Tryz.prog 9 #[] w (Ret fun v w' => ∃ (gr : Bool), v = (.bool gr) ∧ Ext w w' ∧ (gr = true)) := by
  refine enter Tryz.func9 rfl Tryz.ntmps9 rfl (rS fun K1 hK1 => sAb rfl (sK hK1 (rS fun K2 hK2 => sO (oBuildSlice [(.int .i64 (1)), (.int .i64 (0)), (.int .i64 (1))] [[(.int .i64 (1))], [(.int .i64 (0))], [(.int .i64 (1))]] Tryz.underlying82 inf2 rfl rfl rfl rfl rfl (fun g3 w4 hg5 hE6 hz7 hB8 => ?_)))))
  replace hB8 : Blk w4 g3 2 [(.int .i64 (1)), (.int .i64 (0)), (.int .i64 (1))] := hB8
  refine sO (oCall rfl call17 (unipoly_Of (IntsR.of_blk (S := fun b => b = g3) (n := 3) (c := 3) (xs := [1, 0, 1]) hB8 rfl (by decide) rfl (Nat.le_refl _) (by decide)) (by omega)) rfl ?_)
  rintro _ w10 ⟨Ar_9, nr_9, cr_9, lr_9, rfl, hE11, hr_9, e_9, le_9, cn_9⟩
  have hz12 := hE11.size
  have ⟨kr_9, jr_9, mr_9⟩ := hr_9.lkm
  have hof : zs lr_9 = [1, 0, 1] := by rw [e_9]; decide
  refine sO (oBuildSlice [(.int .u32 (2)), (.int .u32 (1))] [[(.int .u32 (2))], [(.int .u32 (1))]] Tryz.underlying46 inf26 rfl rfl rfl rfl rfl (fun g14 w15 hg16 hE17 hz18 hB19 => ?_))
  replace hB19 : Blk w15 g14 26 [(.int .u32 (2)), (.int .u32 (1))] := hB19
  refine sO (oBuildSlice [(.int .u32 (3)), (.int .u32 (1))] [[(.int .u32 (3))], [(.int .u32 (1))]] Tryz.underlying46 inf26 rfl rfl rfl rfl rfl (fun g20 w21 hg22 hE23 hz24 hB25 => ?_))
  replace hB25 : Blk w21 g20 26 [(.int .u32 (3)), (.int .u32 (1))] := hB25
  refine sO (oBuildSlice [(.slice (some ⟨g14, 0, none⟩) 2 2), (.slice (some ⟨g20, 0, none⟩) 2 2)] [[(.slice (some ⟨g14, 0, none⟩) 2 2)], [(.slice (some ⟨g20, 0, none⟩) 2 2)]] Tryz.underlying42 inf46 rfl rfl rfl rfl rfl (fun g26 w27 hg28 hE29 hz30 hB31 => ?_))
  replace hB31 : Blk w27 g26 46 [(.slice (some ⟨g14, 0, none⟩) 2 2), (.slice (some ⟨g20, 0, none⟩) 2 2)] := hB31
  have hR32 := hE23.trans hE29
  have hB33 := (hB19.ext hR32)
  have h34 : NatR w27 (fun b => b = g14) (some ⟨g14, 0, none⟩) 2 2 ([2, 1]) := NatR.of_blk hB33 rfl (by decide) (by exact lq) (by omega) (by unfold CapMax; omega)
  have hB35 := (hB25.ext hE29)
  have h36 : NatR w27 (fun b => b = g20) (some ⟨g20, 0, none⟩) 2 2 ([3, 1]) := NatR.of_blk hB35 rfl (by decide) (by exact lq) (by omega) (by unfold CapMax; omega)
  have hGL37 := GListR.of_blk (L := LN) (w := w27) (S := fun b => w.heap.size ≤ b) (l := [(⟨(some ⟨g14, 0, none⟩), 2, 2, [2, 1]⟩ : NE), (⟨(some ⟨g20, 0, none⟩), 2, 2, [3, 1]⟩ : NE)]) (n := 2) (c := 2) hB31 (by intro f hf; simp only [List.mem_cons, List.not_mem_nil, or_false] at hf; rcases hf with rfl | rfl; exact NatR.sub h34 q5; exact NatR.sub h36 q5) (by (try dsimp only); omega) rfl (Nat.le_refl _) (by decide)
  have hR39 := (hE17.trans hE23).trans hE29
  have h40 := (hr_9.ext hR39)
  refine sO (oCall rfl call22 (hensel_Lift h40 hGL37 (xp := 5) (by omega) (xk := 2) (by omega) (by decide) (by omega) (by omega) (by omega) (by intro f hf; simp only [List.mem_cons, List.not_mem_nil, or_false] at hf; rcases hf with rfl | rfl <;> (dsimp only; omega)) (by omega) fit_deg fit_co (by rw [hof]; exact fit_lead) (by rw [hof]; exact fit_same) (by rw [hof]; exact fit_ok)) rfl ?_)
  rintro _ w42 ⟨Ar_41, nr_41, cr_41, fr_41, xo_41, rfl, hE43, hr_41, z_41, e_41, nn_41, lr_41⟩
  have hz44 := hE43.size
  have ⟨kr_41, jr_41, mr_41⟩ := hr_41.lkm
  have hfit : zsL fr_41 = [[7, 1], [-7, 1]] := fit_end (by have h := e_41; rw [hof] at h; exact h)
  refine sV (v := (.tuple #[(.slice Ar_41 nr_41 cr_41), (.int .i64 (xo_41))])) (rfl) (sV (v := (.slice Ar_41 nr_41 cr_41)) (rfl) (sV (v := (.int .i64 (xo_41))) (rfl) (sAs rfl (sAi rfl (sK hK2 (wp_seq_k fun K46 hK46 => dBegin (fun _ => False) mixed (fun w47 hE48 hz49 => dMi 0 rfl rfl (dV 1 rfl (fun _ _ => evEql true rfl rfl (dT (by omega))) (dMb 2 rfl rfl (dEv 3 rfl (v := (.slice Ar_41 nr_41 cr_41)) (fun _ _ => rfl) rfl rfl (by kernel_rfl) (dEv 4 rfl (v := (.int .i64 ((nr_41 : Int)))) (fun _ _ => evLen Tryz.underlying43 rfl) rfl rfl (by kernel_rfl) (dEv 5 rfl (v := (.bool true)) (fun _ _ => evEql true rfl rfl (dT (by omega))) rfl rfl (by kernel_rfl) (dV 6 rfl (v := (.bool true)) (fun _ _ => rfl) ?_)))))))))))))
  refine dMb 7 rfl rfl (dEv 8 rfl (v := (.slice Ar_41 nr_41 cr_41)) (fun _ _ => rfl) rfl rfl (by kernel_rfl) ?_)
  have h50 := (hr_41.ext hE48)
  obtain ⟨b51, o52, rfl⟩ := h50.base (by omega)
  refine dEv 9 rfl (v := (.pointer (some ⟨b51, o52 + 0, none⟩))) (fun _ _ => evIx 0 Tryz.underlying43 sz39 rfl rfl (o52 + 0)) rfl rfl (by kernel_rfl) ?_
  obtain ⟨⟨A_53, n_53, c_53, l_53⟩, he_53, hp_53, hP_53, hS_53, hb_53⟩ := h50.at_ (i := 0) (by omega)
  dsimp only at hp_53 hP_53; have ⟨q1_53, q2_53, q3_53⟩ := hP_53.lkm
  have hz_53 := zsL_get hfit he_53 rfl; have hl_53 := lr_41 _ (List.mem_of_getElem? he_53); dsimp only at hl_53
  refine dEv 10 rfl (v := (.slice A_53 n_53 c_53)) (fun _ hf => evLoad one39 rfl ((hf.cell (p := ⟨_, _, none⟩) hb_53 (fun h => h)).trans hp_53)) rfl rfl (by kernel_rfl) (dOp 11 rfl rfl (by kernel_rfl) (oBuildSlice [(.int .i64 (7)), (.int .i64 (1))] [[(.int .i64 (7))], [(.int .i64 (1))]] Tryz.underlying82 inf2 rfl rfl rfl rfl rfl (fun g55 w56 hg57 hE58 hz59 hB60 => ⟨(Frm.of_ext hE58), ?_⟩)))
  replace hB60 : Blk w56 g55 2 [(.int .i64 (7)), (.int .i64 (1))] := hB60
  refine dOp 12 rfl rfl (by kernel_rfl) (oCall rfl call17 (unipoly_Of (IntsR.of_blk (S := fun b => b = g55) (n := 2) (c := 2) (xs := [7, 1]) hB60 rfl (by decide) rfl (Nat.le_refl _) (by decide)) (by omega)) rfl ?_)
  rintro _ w62 ⟨Ar_61, nr_61, cr_61, lr_61, rfl, hE63, hr_61, e_61, le_61, cn_61⟩
  refine ⟨(Frm.of_ext hE63), ?_⟩
  have hz64 := hE63.size
  have ⟨kr_61, jr_61, mr_61⟩ := hr_61.lkm
  have hR66 := hE58.trans hE63
  have h67 := (hP_53.ext hR66)
  refine dOp 13 rfl rfl (by kernel_rfl) (oCall rfl call25 (unipoly_Same h67 hr_61) rfl ?_)
  rintro _ w69 ⟨gr_68, rfl, hE70, e_68⟩
  refine ⟨(Frm.of_ext hE70), ?_⟩
  have hz71 := hE70.size
  obtain rfl : gr_68 = true := by rw [e_68, hz_53, e_61]; decide
  refine dV 14 rfl (v := (.bool true)) (fun _ _ => rfl) (dMb 15 rfl rfl (dEv 16 rfl (v := (.slice (some ⟨b51, o52, none⟩) nr_41 cr_41)) (fun _ _ => rfl) rfl rfl (by kernel_rfl) (dEv 17 rfl (v := (.pointer (some ⟨b51, o52 + 1, none⟩))) (fun _ _ => evIx 1 Tryz.underlying43 sz39 rfl rfl (o52 + 1)) rfl rfl (by kernel_rfl) ?_)))
  have hR72 := hR66.trans hE70
  have h73 := (h50.ext hR72)
  obtain ⟨⟨A_74, n_74, c_74, l_74⟩, he_74, hp_74, hP_74, hS_74, hb_74⟩ := h73.at_ (i := 1) (by omega)
  dsimp only at hp_74 hP_74; have ⟨q1_74, q2_74, q3_74⟩ := hP_74.lkm
  have hz_74 := zsL_get hfit he_74 rfl; have hl_74 := lr_41 _ (List.mem_of_getElem? he_74); dsimp only at hl_74
  refine dEv 18 rfl (v := (.slice A_74 n_74 c_74)) (fun _ hf => evLoad one39 rfl ((hf.cell (p := ⟨_, _, none⟩) hb_74 (fun h => h)).trans hp_74)) rfl rfl (by kernel_rfl) (dOp 19 rfl rfl (by kernel_rfl) (oBuildSlice [(.int .i64 ((-7))), (.int .i64 (1))] [[(.int .i64 ((-7)))], [(.int .i64 (1))]] Tryz.underlying82 inf2 rfl rfl rfl rfl rfl (fun g76 w77 hg78 hE79 hz80 hB81 => ⟨(Frm.of_ext hE79), ?_⟩)))
  replace hB81 : Blk w77 g76 2 [(.int .i64 ((-7))), (.int .i64 (1))] := hB81
  refine dOp 20 rfl rfl (by kernel_rfl) (oCall rfl call17 (unipoly_Of (IntsR.of_blk (S := fun b => b = g76) (n := 2) (c := 2) (xs := [(-7), 1]) hB81 rfl (by decide) rfl (Nat.le_refl _) (by decide)) (by omega)) rfl ?_)
  rintro _ w83 ⟨Ar_82, nr_82, cr_82, lr_82, rfl, hE84, hr_82, e_82, le_82, cn_82⟩
  refine ⟨(Frm.of_ext hE84), ?_⟩
  have hz85 := hE84.size
  have ⟨kr_82, jr_82, mr_82⟩ := hr_82.lkm
  have hR87 := hE79.trans hE84
  have h88 := (hP_74.ext hR87)
  refine dOp 21 rfl rfl (by kernel_rfl) (oCall rfl call25 (unipoly_Same h88 hr_82) rfl ?_)
  rintro _ w90 ⟨gr_89, rfl, hE91, e_89⟩
  refine ⟨(Frm.of_ext hE91), ?_⟩
  have hz92 := hE91.size
  obtain rfl : gr_89 = true := by rw [e_89, hz_74, e_82]; decide
  refine dV 22 rfl (v := (.bool true)) (fun _ _ => rfl) (dAb 23 rfl rfl (dDone (by kernel_rfl) (xN (hK46 _ _ (wp_ret (ret1 (.bool true) Tryz.results9 (resT rfl) ?_))))))
  have hR93 := (((((((((((hE6.trans hE11).trans hE17).trans hE23).trans hE29).trans hE43).trans hE48).trans hE58).trans hE63).trans hE70).trans hE79).trans hE84).trans hE91
  exact ⟨(true), rfl, hR93, rfl⟩
theorem law12_one {w : World}    : Calls Tryz.prog 42 #[] w (Ret fun v w' => ∃ (gr : Bool) (Ar : Option Addr) (nr : Nat) (cr : Nat) (dr : List Nat), v = (.agg #[(.bool gr), (.slice Ar nr cr)]) ∧ Ext w w' ∧ NatR w' (fun b => w.heap.size ≤ b) Ar nr cr dr ∧ (zval gr dr = 1) ∧ (ICan gr dr) ∧ (nr ≤ 2)) := by
  refine enter Tryz.func42 rfl Tryz.ntmps42 rfl (rS fun K1 hK1 => sO (oAlloc [(.bool false), (.slice none 0 0)] zero25 rfl (fun g2 w3 hg4 hE5 hz6 hB7 => sK hK1 (rS fun K8 hK8 => sO (oCall rfl call35 (integer_Of (by omega)) rfl ?_)))))
  rintro _ w10 ⟨gr_9, Ar_9, nr_9, cr_9, dr_9, rfl, hE11, hr_9, v_9, cn_9, le_9⟩
  have hz12 := hE11.size
  have ⟨lr_9, kr_9, mr_9⟩ := hr_9.lkm
  have hB14 := (hB7.ext hE11)
  refine sO (oStore [(.bool gr_9), (.slice Ar_9 nr_9 cr_9)] rfl rfl rfl sz25 rfl hB14 (Nat.le_of_ble_eq_true rfl) (fun w15 hU16 hz17 hB18 => ?_))
  replace hB18 : Blk w15 g2 25 [(.bool gr_9), (.slice Ar_9 nr_9 cr_9)] := hB18
  refine sK hK8 (wp_ret (ret1 (.agg #[(.bool gr_9), (.slice Ar_9 nr_9 cr_9)]) Tryz.results42 (resB [(.bool gr_9), (.slice Ar_9 nr_9 cr_9)] agg25 sz25 rfl hB18) ?_))
  have h19 := (hr_9.frmB hU16 q3)
  have hR20 := (hE5.trans hE11).rx hU16
  exact ⟨gr_9, Ar_9, nr_9, cr_9, dr_9, rfl, (Frm.mono hR20 q4), (NatR.sub h19 q5), v_9, cn_9, (by omega)⟩
theorem law12_power {w : World} {xp : Nat} {xk : Nat} (bp : xp < 4294967296) (bk : xk ≤ 9223372036854775807) (hxk : xk ≤ 1000) : Calls Tryz.prog 14 #[(.int .u32 ((xp : Int))), (.int .i64 ((xk : Int)))] w (Ret fun v w' => ∃ (gr : Bool) (Ar : Option Addr) (nr : Nat) (cr : Nat) (dr : List Nat), v = (.agg #[(.bool gr), (.slice Ar nr cr)]) ∧ Ext w w' ∧ NatR w' (fun b => w.heap.size ≤ b) Ar nr cr dr ∧ (zval gr dr = ((xp ^ xk : Nat) : Int)) ∧ (ICan gr dr) ∧ (nr ≤ 2 * xk + 2)) := by
  refine enter Tryz.func14 rfl Tryz.ntmps14 rfl (rS fun K1 hK1 => sO (oAlloc [(.bool false), (.slice none 0 0)] zero25 rfl (fun g2 w3 hg4 hE5 hz6 hB7 => sK hK1 (rS fun K8 hK8 => sO (oCall rfl call42 (law12_one) rfl ?_)))))
  rintro _ w10 ⟨gr_9, Ar_9, nr_9, cr_9, dr_9, rfl, hE11, hr_9, v_9, cn_9, le_9⟩
  have hz12 := hE11.size
  have ⟨lr_9, kr_9, mr_9⟩ := hr_9.lkm
  have h14 := hr_9.sub (S' := fun b => (w3.heap.size ≤ b) ∧ b < w10.heap.size) fun _ hb hs => ⟨hs, hb⟩
  refine sO (oAlloc [(.bool false), (.slice none 0 0)] zero25 rfl (fun g15 w16 hg17 hE18 hz19 hB20 => sO (oStore [(.bool gr_9), (.slice Ar_9 nr_9 cr_9)] rfl rfl rfl sz25 rfl hB20 (Nat.le_of_ble_eq_true rfl) (fun w21 hU22 hz23 hB24 => ?_))))
  replace hB24 : Blk w21 g15 25 [(.bool gr_9), (.slice Ar_9 nr_9 cr_9)] := hB24
  refine sK hK8 (wp_seq_k fun K25 hK25 => rS fun K26 hK26 => sMi rfl (sMi rfl (sK hK26 (wp_block ?_))))
  have hR28 := hE18.rx hU22
  have h29 := (h14.frmB hR28 q3)
  refine lLoop (fun m e w_ => ∃ (i : Nat) (gP : Bool) (AP : Option Addr) (nP : Nat) (cP : Nat) (dP : List Nat), m = xk - i ∧ e 0 = (.int .u32 ((xp : Int))) ∧ e 4 = (.pointer (some ⟨g2, 0, none⟩)) ∧ e 5 = (.pointer (some ⟨g15, 0, none⟩)) ∧ e 7 = (.int .i64 ((xk : Int))) ∧ e 8 = (.int .i64 ((i : Int))) ∧ Frm (fun b => b = g15) w21 w_ ∧ Blk w_ g15 25 ([.bool gP, .slice AP nP cP]) ∧ (i ≤ xk) ∧ (NatR w_ (fun b => w.heap.size ≤ b ∧ b ≠ g15 ∧ b ≠ g2) AP nP cP dP) ∧ (zval gP dP = ((xp ^ i : Nat) : Int)) ∧ (ICan gP dP) ∧ (nP ≤ 2 * i + 2)) (xk - (0)) ?_ ?_
  · refine ⟨(0), (gr_9), (Ar_9), (nr_9), (cr_9), (dr_9), rfl, rfl, rfl, rfl, rfl, cI, (Frm.refl _ _), ?_, ?_, ?_, ?_, ?_, ?_⟩
    · exact hB24
    · omega
    · exact NatR.sub h29 q5
    · rw [v_9]; rfl
    · exact cn_9
    · omega
  · rintro m27 e39 w30 ⟨i, gP, AP, nP, cP, dP, hm38, hs31, hs32, hs33, hs34, hs35, hF36, hB37, hi, hP, hv, hcP, hnP⟩
    obtain ⟨r40, rfl⟩ := sq (e := e39) (t := 0) hs31
    obtain ⟨r41, rfl⟩ := sq (e := r40) (t := 4) hs32
    obtain ⟨r42, rfl⟩ := sq (e := r41) (t := 5) hs33
    obtain ⟨r43, rfl⟩ := sq (e := r42) (t := 7) hs34
    obtain ⟨r44, rfl⟩ := sq (e := r43) (t := 8) hs35
    have hz45 := hF36.size
    have ⟨lP, kP, mP⟩ := hP.lkm
    refine rS fun K46 hK46 => ?_
    by_cases hc47 : ((i : Int)) < ((xk : Int))
    · refine sV (evLss true rfl rfl (dT hc47)) (sK hK46 (wp_seq_k fun K48 hK48 => cT rfl (wp_skip (xN (hK48 _ _ (wp_seq_k fun K49 hK49 => wp_block (dBegin (fun b => b = g15) mixed (fun w50 hE51 hz52 => dMi 1 rfl rfl (dV 2 rfl (fun _ _ => evConv ((xp : Int)) Tryz.underlying26 Tryz.underlying2 rfl (wI64 (by omega))) (dTwo 0 3 (by kernel_rfl) ?_ ?_))))))))))
      · have hB53 := (hB37.ext hE51)
        refine dWp (i := 0) rfl rfl (oEv (v := (.agg #[(.bool gP), (.slice AP nP cP)])) (evLoadAB [(.bool gP), (.slice AP nP cP)] agg25 sz25 rfl hB53 rfl) rfl ⟨Frm.refl _ _, dOp 3 rfl rfl (by kernel_rfl) (oCall rfl call35 (integer_Of (by omega)) rfl ?_)⟩)
        rintro _ w55 ⟨gr_54, Ar_54, nr_54, cr_54, dr_54, rfl, hE56, hr_54, v_54, cn_54, le_54⟩
        refine ⟨(Frm.of_ext hE56), ?_⟩
        have hz57 := hE56.size
        have ⟨lr_54, kr_54, mr_54⟩ := hr_54.lkm
        have hR59 := hE51.trans hE56
        have h60 := (hP.ext hR59)
        refine dOp 4 rfl rfl (by kernel_rfl) (oCall rfl call33 (integer_Mul h60 hr_54 (by omega)) rfl ?_)
        rintro _ w62 ⟨gr_61, Ar_61, nr_61, cr_61, dr_61, rfl, hE63, hr_61, v_61, cn_61, le_61⟩
        refine ⟨(Frm.of_ext hE63), ?_⟩
        have hz64 := hE63.size
        have ⟨lr_61, kr_61, mr_61⟩ := hr_61.lkm
        have hR66 := hE56.trans hE63
        have hB67 := (hB53.ext hR66)
        refine dOp 5 rfl rfl (by kernel_rfl) (oStore [(.bool gr_61), (.slice Ar_61 nr_61 cr_61)] rfl rfl rfl sz25 rfl hB67 (Nat.le_of_ble_eq_true rfl) (fun w68 hU69 hz70 hB71 => ?_))
        replace hB71 : Blk w68 g15 25 [(.bool gr_61), (.slice Ar_61 nr_61 cr_61)] := hB71
        refine ⟨hU69, dDone (by kernel_rfl) (bN (xN (hK49 _ _ (wp_region_lit (sV (evAdd (((i : Int)) + 1) rfl rfl wI) (sMi rfl (sDone ?_)))))))⟩
        have hR72 := (hR59.trans hE63).rx hU69
        have h73 := (hr_61.frmB hU69 q3)
        refine again (xk - (i + 1)) (by omega) ⟨(i + 1), (gr_61), (Ar_61), (nr_61), (cr_61), (dr_61), rfl, rfl, rfl, rfl, rfl, cI, (hF36.trans hR72), ?_, ?_, ?_, ?_, ?_, ?_⟩
        · exact hB71
        · omega
        · exact NatR.sub h73 q5
        · rw [v_61]; exact pow_nextI hv v_54
        · exact cn_61
        · omega
      · refine dWp (i := 3) rfl rfl (oCall rfl call35 (integer_Of (by omega)) rfl ?_)
        rintro _ w75 ⟨gr_74, Ar_74, nr_74, cr_74, dr_74, rfl, hE76, hr_74, v_74, cn_74, le_74⟩
        refine ⟨(Frm.of_ext hE76), ?_⟩
        have hz77 := hE76.size
        have ⟨lr_74, kr_74, mr_74⟩ := hr_74.lkm
        have hR79 := hE51.trans hE76
        have hB80 := (hB37.ext hR79)
        refine dOp 0 rfl rfl (by kernel_rfl) (oEv (v := (.agg #[(.bool gP), (.slice AP nP cP)])) (evLoadAB [(.bool gP), (.slice AP nP cP)] agg25 sz25 rfl hB80 rfl) rfl ⟨Frm.refl _ _, ?_⟩)
        have h81 := (hP.ext hR79)
        refine dOp 4 rfl rfl (by kernel_rfl) (oCall rfl call33 (integer_Mul h81 hr_74 (by omega)) rfl ?_)
        rintro _ w83 ⟨gr_82, Ar_82, nr_82, cr_82, dr_82, rfl, hE84, hr_82, v_82, cn_82, le_82⟩
        refine ⟨(Frm.of_ext hE84), ?_⟩
        have hz85 := hE84.size
        have ⟨lr_82, kr_82, mr_82⟩ := hr_82.lkm
        have hB87 := (hB80.ext hE84)
        refine dOp 5 rfl rfl (by kernel_rfl) (oStore [(.bool gr_82), (.slice Ar_82 nr_82 cr_82)] rfl rfl rfl sz25 rfl hB87 (Nat.le_of_ble_eq_true rfl) (fun w88 hU89 hz90 hB91 => ?_))
        replace hB91 : Blk w88 g15 25 [(.bool gr_82), (.slice Ar_82 nr_82 cr_82)] := hB91
        refine ⟨hU89, dDone (by kernel_rfl) (bN (xN (hK49 _ _ (wp_region_lit (sV (evAdd (((i : Int)) + 1) rfl rfl wI) (sMi rfl (sDone ?_)))))))⟩
        have hR92 := (hR79.trans hE84).rx hU89
        have h93 := (hr_82.frmB hU89 q3)
        refine again (xk - (i + 1)) (by omega) ⟨(i + 1), (gr_82), (Ar_82), (nr_82), (cr_82), (dr_82), rfl, rfl, rfl, rfl, rfl, cI, (hF36.trans hR92), ?_, ?_, ?_, ?_, ?_, ?_⟩
        · exact hB91
        · omega
        · exact NatR.sub h93 q5
        · rw [v_82]; exact pow_nextI hv v_74
        · exact cn_82
        · omega
    · refine sV (evLss false rfl rfl (dF hc47)) (sK hK46 (wp_seq_k fun K94 hK94 => cF rfl (wp_exit (xE (xE (bE (xN (hK25 _ _ (rS fun K95 hK95 => sV (evLoadAB [(.bool gP), (.slice AP nP cP)] agg25 sz25 rfl hB37 rfl) ?_)))))))))
      have hR96 := ((hE11.trans hE18).rx hU22).trans hF36
      have hB97 := (hB7.frm hR96 q1)
      refine sO (oStore [(.bool gP), (.slice AP nP cP)] rfl rfl rfl sz25 rfl hB97 (Nat.le_of_ble_eq_true rfl) (fun w98 hU99 hz100 hB101 => ?_))
      replace hB101 : Blk w98 g2 25 [(.bool gP), (.slice AP nP cP)] := hB101
      refine sK hK95 (wp_ret (ret1 (.agg #[(.bool gP), (.slice AP nP cP)]) Tryz.results14 (resB [(.bool gP), (.slice AP nP cP)] agg25 sz25 rfl hB101) ?_))
      have h102 := (hP.frmB hU99 q3)
      have hR103 := ((((hE5.trans hE11).trans hE18).rx hU22).trans hF36).tr hU99
      exact ⟨gP, AP, nP, cP, dP, rfl, (Frm.mono hR103 q4), (NatR.sub h102 q5), (by rw [hv, show i = xk by omega]), hcP, (by omega)⟩
theorem law12_exponent {w : World} {gb : Bool} {Sb : Nat → Prop} {Ab : Option Addr} {nb cb : Nat} {db : List Nat} {xp : Nat} (hb : NatR w Sb Ab nb cb db) (bp : xp < 4294967296)  : Calls Tryz.prog 3 #[(.agg #[(.bool gb), (.slice Ab nb cb)]), (.int .u32 ((xp : Int)))] w (Ret fun v w' => ∃ (gr : Bool), v = (.bool gr) ∧ Ext w w' ∧ (gr = true)) := by
  have ⟨lb, kb, mb⟩ := hb.lkm
  replace hb := hb.low
  refine enter Tryz.func3 rfl Tryz.ntmps3 rfl (rS fun K1 hK1 => sO (oBox [(.bool gb), (.slice Ab nb cb)] rfl rfl (fun g2 w3 hg4 hE5 hz6 hB7 => sAb rfl (sK hK1 (wp_seq_k fun K8 hK8 => rS fun K9 hK9 => sO (oCall rfl call9 (law12_fit) rfl ?_))))))
  rintro _ w11 ⟨gr_10, rfl, hE12, e_10⟩
  have hz13 := hE12.size
  obtain rfl : gr_10 = true := e_10
  refine sV (evNot _ rfl rfl) (sK hK9 (cF rfl (wp_skip (xN (hK8 _ _ (wp_seq_k fun K14 hK14 => rS fun K15 hK15 => sV (evFA 1 fa25_1 rfl rfl) ?_))))))
  have hB16 := (hB7.ext hE12)
  refine sV (evLoadB one23 rfl hB16 rfl) (sV (evLen Tryz.underlying23 rfl) ?_)
  by_cases hc17 : ((nb : Int)) > 10
  · refine sV (evGtr true rfl rfl (dT hc17)) (sK hK15 (cT rfl (rS fun K18 hK18 => sAb rfl (sK hK18 (wp_ret (xR (ret1 (.bool true) Tryz.results3 (resT rfl) ?_)))))))
    have hR19 := hE5.trans hE12
    exact ⟨(true), rfl, hR19, rfl⟩
  · refine sV (evGtr false rfl rfl (dF hc17)) (sK hK15 (cF rfl (wp_skip (xN (hK14 _ _ (rS fun K20 hK20 => sV (evLoadAB [(.bool gb), (.slice Ab nb cb)] agg25 sz25 rfl hB16 rfl) (sMi rfl ?_)))))))
    have hR21 := hE5.trans hE12
    have h22 := (hb.ext hR21)
    refine sO (oCall rfl call10 (hensel_Exponent h22 (xp := xp) (by omega) (by omega)) rfl ?_)
    rintro _ w24 ⟨xr_23, xo_23, rfl, hE25, br_23, lo_23, hi_23, ub_23⟩
    have hz26 := hE25.size
    refine sV (v := (.tuple #[(.int .i64 ((xr_23 : Int))), (.int .i64 (xo_23))])) (rfl) (sV (v := (.int .i64 ((xr_23 : Int)))) (rfl) (sV (v := (.int .i64 (xo_23))) (rfl) (sAi rfl (sAi rfl (sK hK20 (wp_seq_k fun K27 hK27 => rS fun K28 hK28 => sMi rfl ?_))))))
    by_cases hc29 : ((xp : Int)) < 2
    · refine sV (evLss true rfl rfl (dT hc29)) ?_
      have hlo := lo_23 (by omega)
      refine sK hK28 (cT rfl (rS fun K30 hK30 => sMi rfl (sV (evEql true rfl rfl (dT (by omega))) (sMb rfl (sEv (v := (.int .i64 ((xr_23 : Int)))) (rfl) rfl rfl (sEv (v := (.bool true)) (evEql true rfl rfl (dT (by omega))) rfl rfl (sV (v := (.bool true)) (rfl) (sAb rfl (sK hK30 (wp_ret (xR (ret1 (.bool true) Tryz.results3 (resT rfl) ?_))))))))))))
      have hR31 := hR21.trans hE25
      exact ⟨(true), rfl, hR31, rfl⟩
    · refine sV (evLss false rfl rfl (dF hc29)) ?_
      have ⟨hxo, hk1, hgt, hall⟩ := hi_23 (by omega)
      refine sK hK28 (cF rfl (wp_skip (xN (hK27 _ _ (wp_seq_k fun K32 hK32 => rS fun K33 hK33 => sMi rfl (sV (evNeq false rfl rfl (dF (by omega))) (sMb rfl (sEv (v := (.int .i64 ((xr_23 : Int)))) (rfl) rfl rfl (sEv (v := (.bool false)) (evLss false rfl rfl (dF (by omega))) rfl rfl (sV (v := (.bool false)) (rfl) (sMb rfl (sEv (v := (.int .i64 ((xr_23 : Int)))) (rfl) rfl rfl (sEv (v := (.bool false)) (evGtr false rfl rfl (dF (by omega))) rfl rfl (sV (v := (.bool false)) (rfl) (sK hK33 (cF rfl (wp_skip (xN (hK32 _ _ (rS fun K34 hK34 => ?_))))))))))))))))))))
      have hB35 := (hB16.ext hE25)
      refine sV (evLoadAB [(.bool gb), (.slice Ab nb cb)] agg25 sz25 rfl hB35 rfl) (sV (evLoadAB [(.bool gb), (.slice Ab nb cb)] agg25 sz25 rfl hB35 rfl) ?_)
      have h36 := (h22.ext hE25)
      refine sO (oCall rfl call12 (integer_Add h36 h36 (by omega) (by omega)) rfl ?_)
      rintro _ w38 ⟨gr_37, Ar_37, nr_37, cr_37, dr_37, rfl, hE39, hr_37, v_37, cn_37, le_37⟩
      have hz40 := hE39.size
      have ⟨lr_37, kr_37, mr_37⟩ := hr_37.lkm
      refine sO (oCall rfl call11 (integer_Abs hr_37 (by omega)) rfl ?_)
      rintro _ w43 ⟨gr_42, Ar_42, nr_42, cr_42, dr_42, rfl, hE44, hr_42, v_42, cn_42, le_42⟩
      have hz45 := hE44.size
      have ⟨lr_42, kr_42, mr_42⟩ := hr_42.lkm
      refine sO (oAlloc [(.bool false), (.slice none 0 0)] zero25 rfl (fun g47 w48 hg49 hE50 hz51 hB52 => sO (oStore [(.bool gr_42), (.slice Ar_42 nr_42 cr_42)] rfl rfl rfl sz25 rfl hB52 (Nat.le_of_ble_eq_true rfl) (fun w53 hU54 hz55 hB56 => ?_))))
      replace hB56 : Blk w53 g47 25 [(.bool gr_42), (.slice Ar_42 nr_42 cr_42)] := hB56
      refine sK hK34 (wp_seq_k fun K57 hK57 => dBegin (fun _ => False) mixed (fun w58 hE59 hz60 => dMi 0 rfl rfl (dMi 1 rfl rfl ?_)))
      have hB61 := (hB56.ext hE59)
      refine dV 3 rfl (fun _ hf => evLoadAB [(.bool gr_42), (.slice Ar_42 nr_42 cr_42)] agg25 sz25 rfl (hB61.ext hf) rfl) (dOp 2 rfl rfl (by kernel_rfl) (oCall rfl call14 (law12_power (xp := xp) (by omega) (xk := xr_23) (by omega) (by omega)) rfl ?_))
      rintro _ w63 ⟨gr_62, Ar_62, nr_62, cr_62, dr_62, rfl, hE64, hr_62, v_62, cn_62, le_62⟩
      refine ⟨(Frm.of_ext hE64), ?_⟩
      have hz65 := hE64.size
      have ⟨lr_62, kr_62, mr_62⟩ := hr_62.lkm
      have hR67 := ((hE50.rx hU54).xr hE59).xr hE64
      have h68 := (hr_42.frmB hR67 q3)
      refine dOp 4 rfl rfl (by kernel_rfl) (oCall rfl call13 (integer_Cmp hr_62 h68) rfl ?_)
      rintro _ w70 ⟨xr_69, rfl, hE71, e_69⟩
      refine ⟨(Frm.of_ext hE71), ?_⟩
      have hz72 := hE71.size
      refine dV 5 rfl (fun _ _ => evGtr true rfl rfl (dT (exp_gt e_69 v_62 (by rw [v_42, natAbs_val gr_37 dr_37, v_37]) hgt))) (dMb 6 rfl rfl (dEv 7 rfl (v := (.int .i64 ((xr_23 : Int)))) (fun _ _ => rfl) rfl rfl (by kernel_rfl) ?_))
      by_cases hc73 : ((xr_23 : Int)) = 1
      · refine dEv 8 rfl (v := (.bool true)) (fun _ _ => evEql true rfl rfl (dT hc73)) rfl rfl (by kernel_rfl) (dEv 9 rfl (v := (.bool true)) (fun _ _ => rfl) rfl rfl (by kernel_rfl) (dSkip 10 rfl rfl rfl (by kernel_rfl) (dSkip 11 rfl rfl rfl (by kernel_rfl) (dSkip 12 rfl rfl rfl (by kernel_rfl) (dSkip 13 rfl rfl rfl (by kernel_rfl) (dSkip 14 rfl rfl rfl (by kernel_rfl) (dSkip 15 rfl rfl rfl (by kernel_rfl) (dSkip 16 rfl rfl rfl (by kernel_rfl) (dEv 17 rfl (v := (.bool true)) (fun _ _ => rfl) rfl rfl (by kernel_rfl) (dV 18 rfl (v := (.bool true)) (fun _ _ => rfl) (dAb 19 rfl rfl (dDone (by kernel_rfl) (xN (hK57 _ _ (wp_ret (ret1 (.bool true) Tryz.results3 (resT rfl) ?_))))))))))))))))
        have hR74 := (((((((hR21.trans hE25).trans hE39).trans hE44).trans hE50).rx hU54).xr hE59).xr hE64).xr hE71
        exact ⟨(true), rfl, (Frm.mono hR74 q4), rfl⟩
      · refine dEv 8 rfl (v := (.bool false)) (fun _ _ => evEql false rfl rfl (dF hc73)) rfl rfl (by kernel_rfl) (dEv 9 rfl (v := (.bool false)) (fun _ _ => rfl) rfl rfl (by kernel_rfl) (dEv 10 rfl (v := (.int .u32 ((xp : Int)))) (fun _ _ => rfl) rfl rfl (by kernel_rfl) (dEv 11 rfl (v := (.int .i64 ((xr_23 : Int)))) (fun _ _ => rfl) rfl rfl (by kernel_rfl) (dEv 12 rfl (v := (.int .i64 (((xr_23 - 1 : Nat) : Int)))) (fun _ _ => evSub (((xr_23 - 1 : Nat) : Int)) rfl rfl (wI64 ⟨by omega, by omega, by omega⟩)) rfl rfl (by kernel_rfl) ?_))))
        have hR75 := hE64.trans hE71
        have hB76 := (hB61.ext hR75)
        refine dEv 14 rfl (v := (.agg #[(.bool gr_42), (.slice Ar_42 nr_42 cr_42)])) (fun _ hf => evLoadAB [(.bool gr_42), (.slice Ar_42 nr_42 cr_42)] agg25 sz25 rfl (hB76.ext hf) rfl) rfl rfl (by kernel_rfl) (dOp 13 rfl rfl (by kernel_rfl) (oCall rfl call14 (law12_power (xp := xp) (by omega) (xk := xr_23 - 1) (by omega) (by omega)) rfl ?_))
        rintro _ w78 ⟨gr_77, Ar_77, nr_77, cr_77, dr_77, rfl, hE79, hr_77, v_77, cn_77, le_77⟩
        refine ⟨(Frm.of_ext hE79), ?_⟩
        have hz80 := hE79.size
        have ⟨lr_77, kr_77, mr_77⟩ := hr_77.lkm
        have hR82 := hE71.trans hE79
        have h83 := (h68.ext hR82)
        refine dOp 15 rfl rfl (by kernel_rfl) (oCall rfl call13 (integer_Cmp hr_77 h83) rfl ?_)
        rintro _ w85 ⟨xr_84, rfl, hE86, e_84⟩
        refine ⟨(Frm.of_ext hE86), ?_⟩
        have hz87 := hE86.size
        refine dEv 16 rfl (v := (.bool true)) (fun _ _ => evLeq true rfl rfl (dT (exp_le e_84 v_77 (by rw [v_42, natAbs_val gr_37 dr_37, v_37]) (hall _ (by omega) (by omega))))) rfl rfl (by kernel_rfl) (dEv 17 rfl (v := (.bool true)) (fun _ _ => rfl) rfl rfl (by kernel_rfl) (dV 18 rfl (v := (.bool true)) (fun _ _ => rfl) (dAb 19 rfl rfl (dDone (by kernel_rfl) (xN (hK57 _ _ (wp_ret (ret1 (.bool true) Tryz.results3 (resT rfl) ?_))))))))
        have hR88 := (((((((((hR21.trans hE25).trans hE39).trans hE44).trans hE50).rx hU54).xr hE59).xr hE64).xr hE71).xr hE79).xr hE86
        exact ⟨(true), rfl, (Frm.mono hR88 q4), rfl⟩
end Go.Proofs.YtneolcopompkaaaGreatDoor
