/-
  Walks of package natural: differences and products.
-/
import Derived.Test.YtppegjbdencefaaNat2
namespace Go.Proofs.Ytppegjbdencefaa
open Go.RowKit Go.Gx
theorem natural_Sub_1 {w : World} {x1 : Nat} {x2 : Nat} {pc xc : Nat} (b1 : x1 < 4294967296) (b2 : x2 < 4294967296) (Bc : Blk w pc 62 [.int .u32 (xc : Int)]) (bc : xc < 4294967296) (hc : xc ≤ 1) : Calls Try.prog 112 #[(.int .u32 ((x1 : Int))), (.int .u32 ((x2 : Int))), (.pointer (some ⟨pc, 0, none⟩))] w (Ret fun v w' => ∃ (xs : Nat) (zc : Nat), v = (.int .u32 ((xs : Int))) ∧ Frm (fun b => b = pc) w w' ∧ xs < 4294967296 ∧ (Blk w' pc 62 [.int .u32 (zc : Int)]) ∧ (xs + x2 + xc = x1 + 4294967296 * zc) ∧ (zc ≤ 1)) := by
  refine enter Try.func112 rfl Try.ntmps112 rfl ?_
  refine wp_seq_k fun K1 hK1 => ?_
  refine wp_region_lit ?_
  refine sEv (v := (.int .u32 (0))) (rfl) rfl rfl ?_
  refine sDone ?_
  refine xN (hK1 _ _ ?_)
  refine wp_seq_k fun K2 hK2 => ?_
  refine wp_region_lit ?_
  refine sEv (v := (.int .u32 ((x1 : Int)))) (rfl) rfl rfl ?_
  refine sEv (v := (.int .u32 ((x2 : Int)))) (rfl) rfl rfl ?_
  refine sEv (v := (.int .u32 ((xc : Int)))) (evLoadB one62 rfl Bc rfl) rfl rfl ?_
  refine sOp rfl (oCall rfl call113 (bits_Sub32 (x1 := x1) (by omega) (x2 := x2) (by omega) (x3 := xc) (by omega) (by omega)) rfl ?_)
  rintro _ w4 ⟨xs_3, xc_3, rfl, hE5, bs_3, bc_3, e_3, z_3⟩
  have hz6 := hE5.size
  refine sEv (v := (.tuple #[(.int .u32 ((xs_3 : Int))), (.int .u32 ((xc_3 : Int)))])) (rfl) rfl rfl ?_
  refine sEv (v := (.int .u32 ((xs_3 : Int)))) (rfl) rfl rfl ?_
  refine sEv (v := (.int .u32 ((xc_3 : Int)))) (rfl) rfl rfl ?_
  refine sEv (v := (.int .u32 ((xs_3 : Int)))) (rfl) rfl rfl ?_
  refine sEv (v := (.int .u32 ((xc_3 : Int)))) (rfl) rfl rfl ?_
  refine sDone ?_
  refine xN (hK2 _ _ ?_)
  refine wp_seq_k fun K7 hK7 => ?_
  refine wp_region_lit ?_
  refine sEv (v := (.int .u32 ((xc_3 : Int)))) (rfl) rfl rfl ?_
  have hB8 := (Bc.ext hE5)
  refine sOp rfl (oStore [(.int .u32 ((xc_3 : Int)))] rfl rfl rfl sz62 rfl hB8 (Nat.le_of_ble_eq_true rfl) ?_)
  intro w9 hU10 hz11 hB12
  replace hB12 : Blk w9 pc 62 [(.int .u32 ((xc_3 : Int)))] := hB12
  refine sDone ?_
  refine xN (hK7 _ _ ?_)
  refine wp_seq_k fun K13 hK13 => ?_
  refine wp_region_lit ?_
  refine sEv (v := (.int .u32 ((xs_3 : Int)))) (rfl) rfl rfl ?_
  refine sEv (v := (.int .u32 ((xs_3 : Int)))) (rfl) rfl rfl ?_
  refine sDone ?_
  refine xN (hK13 _ _ ?_)
  refine wp_ret ?_
  refine ret1 (.int .u32 ((xs_3 : Int))) Try.results112 (resT rfl) ?_
  exact ⟨(xs_3), xc_3, rfl, ((Frm.of_ext (G := fun b => (b = pc)) hE5).trans hU10), (by omega), hB12, (by omega), (by omega)⟩

theorem natural_Sub {w : World} {Sa : Nat → Prop} {Aa : Option Addr} {na ca : Nat} {da : List Nat} {Sb : Nat → Prop} {Ab : Option Addr} {nb cb : Nat} {db : List Nat} (ha : NatR w Sa Aa na ca da) (hb : NatR w Sb Ab nb cb db) (hna : na ≤ 1099511627776) (hnb : nb ≤ 1099511627776) : Calls Try.prog 90 #[(.slice Aa na ca), (.slice Ab nb cb)] w (Ret fun v w' => ∃ (Ar : Option Addr) (nr : Nat) (cr : Nat) (dr : List Nat) (gk : Bool), v = (.tuple #[(.slice Ar nr cr), (.bool gk)]) ∧ Ext w w' ∧ NatR w' (fun b => w.heap.size ≤ b) Ar nr cr dr ∧ (gk = decide (val db ≤ val da)) ∧ (val dr = val da - val db) ∧ (Canon isZ dr) ∧ (nr ≤ na)) := by
  have la := ha.len; have ka := ha.cap; have ma := ha.max
  replace ha := ha.low
  have lb := hb.len; have kb := hb.cap; have mb := hb.max
  replace hb := hb.low
  refine enter Try.func90 rfl Try.ntmps90 rfl ?_
  refine wp_seq_k fun K1 hK1 => ?_
  refine wp_region_lit ?_
  refine sEv (v := (.slice none 0 0)) (rfl) rfl rfl ?_
  refine sEv (v := (.bool false)) (rfl) rfl rfl ?_
  refine sDone ?_
  refine xN (hK1 _ _ ?_)
  refine wp_seq_k fun K2 hK2 => ?_
  refine wp_region_lit ?_
  refine sEv (v := (.slice Aa na ca)) (rfl) rfl rfl ?_
  refine sOp rfl (oCall rfl call99 (natural_trim ha) rfl ?_)
  rintro _ w4 ⟨Ar_3, nr_3, cr_3, dr_3, rfl, hE5, hr_3, e_3, le_3⟩
  have hz6 := hE5.size
  have lr_3 := hr_3.len; have kr_3 := hr_3.cap; have mr_3 := hr_3.max
  refine sEv (v := (.slice Ab nb cb)) (rfl) rfl rfl ?_
  have h8 := (hb.ext hE5)
  refine sOp rfl (oCall rfl call99 (natural_trim h8) rfl ?_)
  rintro _ w10 ⟨Ar_9, nr_9, cr_9, dr_9, rfl, hE11, hr_9, e_9, le_9⟩
  have hz12 := hE11.size
  have lr_9 := hr_9.len; have kr_9 := hr_9.cap; have mr_9 := hr_9.max
  refine sEv (v := (.slice Ar_3 nr_3 cr_3)) (rfl) rfl rfl ?_
  refine sEv (v := (.slice Ar_9 nr_9 cr_9)) (rfl) rfl rfl ?_
  refine sDone ?_
  refine xN (hK2 _ _ ?_)
  refine wp_seq_k fun K14 hK14 => ?_
  refine wp_seq_k fun K15 hK15 => ?_
  refine wp_region_lit ?_
  refine sEv (v := (.slice Ar_3 nr_3 cr_3)) (rfl) rfl rfl ?_
  refine sEv (v := (.slice Ar_9 nr_9 cr_9)) (rfl) rfl rfl ?_
  have h16 := (hr_3.ext hE11)
  refine sOp rfl (oCall rfl call76 (natural_Cmp h16 hr_9) rfl ?_)
  rintro _ w18 ⟨xr_17, rfl, hE19, e_17⟩
  have hz20 := hE19.size
  by_cases hc21 : xr_17 < 0
  · refine sEv (v := (.bool true)) (evLss true rfl rfl (dT hc21)) rfl rfl ?_
    have hcm := lt_trims e_3 e_9 (cmpN_neg e_17 hc21)
    refine sDone ?_
    refine xN (hK15 _ _ ?_)
    refine cT rfl ?_
    refine wp_seq_k fun K22 hK22 => ?_
    refine wp_region_lit ?_
    refine sEv (v := (.slice none 0 0)) (rfl) rfl rfl ?_
    refine sEv (v := (.bool false)) (rfl) rfl rfl ?_
    refine sDone ?_
    refine xN (hK22 _ _ ?_)
    refine wp_ret (xR ?_)
    refine ret2 (.slice none 0 0) (.bool false) Try.results90 (resT rfl) (resT rfl) ?_
    exact ⟨none, 0, 0, ([]), (false), rfl, ((hE5.trans hE11).trans hE19), NatR.nil, (by simp; omega), (by simp [val]; omega), (canon_nil _), (by omega)⟩
  · refine sEv (v := (.bool false)) (evLss false rfl rfl (dF hc21)) rfl rfl ?_
    have hcv := cmpN_nn e_17 hc21
    have hcm := le_trims e_3 e_9 hcv
    have hcl := canon_len_le hr_3.2 (by rw [e_9]; exact canon_trim _ _) hcv
    refine sDone ?_
    refine xN (hK15 _ _ ?_)
    refine cF rfl ?_
    refine wp_skip ?_
    refine xN (hK14 _ _ ?_)
    refine wp_seq_k fun K23 hK23 => ?_
    refine wp_region_lit ?_
    refine sOp rfl (oAlloc [(.int .u32 (0))] zero62 rfl ?_)
    intro g24 w25 hg26 hE27 hz28 hB29
    refine sDone ?_
    refine xN (hK23 _ _ ?_)
    refine wp_seq_k fun K30 hK30 => ?_
    refine wp_region_lit ?_
    refine sEv (v := (.func (.func 112) #[] #[(.pointer (some ⟨g24, 0, none⟩))])) (evK (by kernel_rfl)) rfl rfl ?_
    refine sEv (v := (.func (.func 112) #[] #[(.pointer (some ⟨g24, 0, none⟩))])) (rfl) rfl rfl ?_
    refine sDone ?_
    refine xN (hK30 _ _ ?_)
    refine wp_seq_k fun K31 hK31 => ?_
    refine wp_region_lit ?_
    refine sEv (v := (.slice Ar_3 nr_3 cr_3)) (rfl) rfl rfl ?_
    refine sEv (v := (.int .i64 ((nr_3 : Int)))) (evLen Try.underlying44 rfl) rfl rfl ?_
    refine sOp rfl (oMake1 nr_3 Try.underlying44 inf62 rfl (congrArg (Value.int .i64) (by omega)) (congrArg (Value.int .i64) (by omega)) (by omega) (by omega) ?_)
    intro g32 w33 hg34 hE35 hz36 hB37
    have hB38 : Blk w33 g32 62 (((List.replicate nr_3 0)).map u32) := by rw [List.map_replicate]; exact hB37
    refine sEv (v := (.slice (some ⟨g32, 0, none⟩) nr_3 nr_3)) (rfl) rfl rfl ?_
    refine sDone ?_
    refine xN (hK31 _ _ ?_)
    refine wp_seq_k fun K39 hK39 => ?_
    refine wp_seq_k fun K40 hK40 => ?_
    refine wp_region_lit ?_
    refine sEv (v := (.slice Ar_9 nr_9 cr_9)) (rfl) rfl rfl ?_
    refine sEv (v := (.int .i64 ((nr_9 : Int)))) (evLen Try.underlying44 rfl) rfl rfl ?_
    refine sEv (v := (.int .i64 (0))) (rfl) rfl rfl ?_
    refine sDone ?_
    refine xN (hK40 _ _ ?_)
    refine wp_block ?_
    have hB42 := (hB29.ext hE35)
    refine lLoop (fun m e w_ => ∃ (k : Nat) (P : List Nat) (cy : Nat), m = nr_9 - k ∧ e 0 = (.slice Ar_3 nr_3 cr_3) ∧ e 1 = (.slice Ar_9 nr_9 cr_9) ∧ e 7 = (.func (.func 112) #[] #[(.pointer (some ⟨g24, 0, none⟩))]) ∧ e 8 = (.slice (some ⟨g32, 0, none⟩) nr_3 nr_3) ∧ e 24 = (.slice Ar_9 nr_9 cr_9) ∧ e 25 = (.int .i64 ((nr_9 : Int))) ∧ e 26 = (.int .i64 ((k : Int))) ∧ Frm (fun b => b = g24 ∨ b = g32) w33 w_ ∧ Blk w_ g24 62 ([.int .u32 (cy : Int)]) ∧ Blk w_ g32 62 ((P ++ List.replicate (nr_3 - k) 0).map u32) ∧ (k ≤ nr_9) ∧ (0 ≤ k) ∧ (P.length = k) ∧ (∀ d ∈ P, d < BS) ∧ (cy ≤ 1) ∧ (val P + val (dr_9.take k) = val (dr_3.take k) + BS ^ k * cy)) (nr_9 - (0)) ?_ ?_
    · refine ⟨(0), ([]), (0), rfl, rfl, rfl, rfl, rfl, rfl, rfl, (congrArg (Value.int .i64) (by omega)), (Frm.refl _ _), ?_, ?_, ?_, ?_, ?_, ?_, ?_, ?_⟩
      · exact hB42
      · simpa using hB38
      · omega
      · omega
      · rfl
      · simp
      · omega
      · simp [val]
    · rintro m41 e55 w43 ⟨k, P, cy, hm54, hs44, hs45, hs46, hs47, hs48, hs49, hs50, hF51, hB52, hB53, hk, hl, hP, hlt, hcy, hv⟩
      obtain ⟨r56, rfl⟩ := sq (e := e55) (t := 0) hs44
      obtain ⟨r57, rfl⟩ := sq (e := r56) (t := 1) hs45
      obtain ⟨r58, rfl⟩ := sq (e := r57) (t := 7) hs46
      obtain ⟨r59, rfl⟩ := sq (e := r58) (t := 8) hs47
      obtain ⟨r60, rfl⟩ := sq (e := r59) (t := 24) hs48
      obtain ⟨r61, rfl⟩ := sq (e := r60) (t := 25) hs49
      obtain ⟨r62, rfl⟩ := sq (e := r61) (t := 26) hs50
      have hz63 := hF51.size
      refine wp_seq_k fun K64 hK64 => ?_
      refine wp_region_lit ?_
      by_cases hc65 : ((k : Int)) < ((nr_9 : Int))
      · refine sEv (v := (.bool true)) (evLss true rfl rfl (dT hc65)) rfl rfl ?_
        refine sDone ?_
        refine xN (hK64 _ _ ?_)
        refine wp_seq_k fun K66 hK66 => ?_
        refine cT rfl ?_
        refine wp_skip ?_
        refine xN (hK66 _ _ ?_)
        refine wp_seq_k fun K67 hK67 => ?_
        refine wp_block ?_
        refine wp_seq_k fun K68 hK68 => ?_
        refine wp_region_lit ?_
        refine sEv (v := (.int .i64 ((k : Int)))) (rfl) rfl rfl ?_
        have h69 := (hr_9.frmB ((((Frm.of_ext (G := fun b => (b = g24 ∨ b = g32)) hE19).trans (Frm.of_ext (G := fun b => (b = g24 ∨ b = g32)) hE27)).trans (Frm.of_ext (G := fun b => (b = g24 ∨ b = g32)) hE35)).trans hF51) q3)
        obtain ⟨b70, o71, rfl⟩ := h69.base (by omega)
        refine sEv (v := (.pointer (some ⟨b70, o71 + k, none⟩))) (evIndex k Try.underlying44 sz62 rfl rfl (by omega) (by omega) (o71 + k) (by omega)) rfl rfl ?_
        have hd72 := h69.lt k
        refine sEv (v := (.int .u32 (((dr_9.getD k 0 : Nat) : Int)))) (evLoad one62 rfl (h69.cell (by omega))) rfl rfl ?_
        refine sEv (v := (.int .i64 ((k : Int)))) (rfl) rfl rfl ?_
        refine sEv (v := (.int .u32 (((dr_9.getD k 0 : Nat) : Int)))) (rfl) rfl rfl ?_
        refine sDone ?_
        refine xN (hK68 _ _ ?_)
        refine wp_region_lit ?_
        refine sEv (v := (.slice (some ⟨g32, 0, none⟩) nr_3 nr_3)) (rfl) rfl rfl ?_
        refine sEv (v := (.int .i64 ((k : Int)))) (rfl) rfl rfl ?_
        refine sEv (v := (.func (.func 112) #[] #[(.pointer (some ⟨g24, 0, none⟩))])) (rfl) rfl rfl ?_
        refine sEv (v := (.slice Ar_3 nr_3 cr_3)) (rfl) rfl rfl ?_
        refine sEv (v := (.int .i64 ((k : Int)))) (rfl) rfl rfl ?_
        have h73 := (h16.frmB ((((Frm.of_ext (G := fun b => (b = g24 ∨ b = g32)) hE19).trans (Frm.of_ext (G := fun b => (b = g24 ∨ b = g32)) hE27)).trans (Frm.of_ext (G := fun b => (b = g24 ∨ b = g32)) hE35)).trans hF51) q3)
        obtain ⟨b74, o75, rfl⟩ := h73.base (by omega)
        refine sEv (v := (.pointer (some ⟨b74, o75 + k, none⟩))) (evIndex k Try.underlying44 sz62 rfl rfl (by omega) (by omega) (o75 + k) (by omega)) rfl rfl ?_
        have hd76 := h73.lt k
        refine sEv (v := (.int .u32 (((dr_3.getD k 0 : Nat) : Int)))) (evLoad one62 rfl (h73.cell (by omega))) rfl rfl ?_
        refine sEv (v := (.int .u32 (((dr_9.getD k 0 : Nat) : Int)))) (rfl) rfl rfl ?_
        refine sOp rfl (oCall rfl call112 (natural_Sub_1 (x1 := dr_3.getD k 0) (by omega) (x2 := dr_9.getD k 0) (by omega) (xc := cy) hB52 (by omega) (by omega)) rfl ?_)
        rintro _ w78 ⟨xs_77, zc_77, rfl, hE79, bs_77, B_77, e_77, z_77⟩
        have hz80 := hE79.size
        refine sEv (v := (.pointer (some ⟨g32, k, none⟩))) (evIndex k Try.underlying44 sz62 rfl rfl (by omega) (by omega) k (by omega)) rfl rfl ?_
        have hB81 := (hB53.frm hE79 q1)
        refine sOp rfl (oStore1 rfl rfl rfl sz62 hB81 (by exact lq) ?_)
        intro w82 hU83 hz84 hB85
        replace hB85 : Blk w82 g32 62 (((P ++ [xs_77]) ++ List.replicate (nr_3 - (k + 1)) 0).map u32) := by rw [← (fill_set2 hP (by omega) : (P ++ List.replicate (nr_3 - k) 0).set k xs_77 = (P ++ [xs_77]) ++ List.replicate (nr_3 - (k + 1)) 0), List.map_set]; exact hB85
        refine sDone ?_
        refine bN ?_
        refine xN (hK67 _ _ ?_)
        refine wp_region_lit ?_
        refine sEv (v := (.int .i64 (((k : Int)) + 1))) (evAdd (((k : Int)) + 1) rfl rfl (wI64 (by omega))) rfl rfl ?_
        refine sEv (v := (.int .i64 (((k : Int)) + 1))) (rfl) rfl rfl ?_
        refine sDone ?_
        have hB86 := (B_77.frm hU83 q1)
        refine again (nr_9 - (k + 1)) (by omega) ⟨(k + 1), (P ++ [xs_77]), (zc_77), rfl, rfl, rfl, rfl, rfl, rfl, rfl, (congrArg (Value.int .i64) (by omega)), (Frm.mono (((hF51.mono (G' := fun b => (b = g24 ∨ b = g32) ∨ (b = g24) ∨ (b = g32)) fun _ _ h => .inl h).trans (hE79.mono (G' := fun b => (b = g24 ∨ b = g32) ∨ (b = g24) ∨ (b = g32)) fun _ _ h => .inr (.inl h))).trans (hU83.mono (G' := fun b => (b = g24 ∨ b = g32) ∨ (b = g24) ∨ (b = g32)) fun _ _ h => .inr (.inr h))) q4), ?_, ?_, ?_, ?_, ?_, ?_, ?_, ?_⟩
        · exact hB86
        · exact hB85
        · omega
        · omega
        · simp [hP]
        · exact lt_snoc hlt (by omega)
        · omega
        · exact sub_step hv hP (by omega)
      · refine sEv (v := (.bool false)) (evLss false rfl rfl (dF hc65)) rfl rfl ?_
        refine sDone ?_
        refine xN (hK64 _ _ ?_)
        refine wp_seq_k fun K87 hK87 => ?_
        refine cF rfl ?_
        refine wp_exit (xE (xE (bE ?_)))
        refine xN (hK39 _ _ ?_)
        refine wp_seq_k fun K88 hK88 => ?_
        refine wp_seq_k fun K89 hK89 => ?_
        refine wp_region_lit ?_
        refine sEv (v := (.slice Ar_9 nr_9 cr_9)) (rfl) rfl rfl ?_
        refine sEv (v := (.int .i64 ((nr_9 : Int)))) (evLen Try.underlying44 rfl) rfl rfl ?_
        refine sEv (v := (.int .i64 ((nr_9 : Int)))) (rfl) rfl rfl ?_
        refine sDone ?_
        refine xN (hK89 _ _ ?_)
        refine wp_block ?_
        refine lLoop (fun m e w_ => ∃ (k2 : Nat) (P2 : List Nat) (cy2 : Nat), m = nr_3 - k2 ∧ e 0 = (.slice Ar_3 nr_3 cr_3) ∧ e 7 = (.func (.func 112) #[] #[(.pointer (some ⟨g24, 0, none⟩))]) ∧ e 8 = (.slice (some ⟨g32, 0, none⟩) nr_3 nr_3) ∧ e 11 = (.int .i64 ((k2 : Int))) ∧ Frm (fun b => b = g24 ∨ b = g32) w43 w_ ∧ Blk w_ g24 62 ([.int .u32 (cy2 : Int)]) ∧ Blk w_ g32 62 ((P2 ++ List.replicate (nr_3 - k2) 0).map u32) ∧ (k2 ≤ nr_3) ∧ (nr_9 ≤ k2) ∧ (P2.length = k2) ∧ (∀ d ∈ P2, d < BS) ∧ (cy2 ≤ 1) ∧ (val P2 + val (dr_9.take k2) = val (dr_3.take k2) + BS ^ k2 * cy2)) (nr_3 - (k)) ?_ ?_
        · refine ⟨(k), (P), (cy), rfl, rfl, rfl, rfl, (congrArg (Value.int .i64) (by omega)), (Frm.refl _ _), ?_, ?_, ?_, ?_, ?_, ?_, ?_, ?_⟩
          · exact hB52
          · exact hB53
          · omega
          · omega
          · exact hP
          · exact hlt
          · omega
          · exact hv
        · rintro m90 e100 w91 ⟨k2, P2, cy2, hm99, hs92, hs93, hs94, hs95, hF96, hB97, hB98, hk2, hl2, hP2, hlt2, hcy2, hv2⟩
          obtain ⟨r101, rfl⟩ := sq (e := e100) (t := 0) hs92
          obtain ⟨r102, rfl⟩ := sq (e := r101) (t := 7) hs93
          obtain ⟨r103, rfl⟩ := sq (e := r102) (t := 8) hs94
          obtain ⟨r104, rfl⟩ := sq (e := r103) (t := 11) hs95
          have hz105 := hF96.size
          refine wp_seq_k fun K106 hK106 => ?_
          refine wp_seq_k fun K107 hK107 => ?_
          refine wp_region_lit ?_
          refine sEv (v := (.int .i64 ((k2 : Int)))) (rfl) rfl rfl ?_
          refine sEv (v := (.slice Ar_3 nr_3 cr_3)) (rfl) rfl rfl ?_
          refine sEv (v := (.int .i64 ((nr_3 : Int)))) (evLen Try.underlying44 rfl) rfl rfl ?_
          by_cases hc108 : ((k2 : Int)) < ((nr_3 : Int))
          · refine sEv (v := (.bool true)) (evLss true rfl rfl (dT hc108)) rfl rfl ?_
            refine sDone ?_
            refine xN (hK107 _ _ ?_)
            refine cT rfl ?_
            refine wp_skip ?_
            refine xN (hK106 _ _ ?_)
            refine wp_seq_k fun K109 hK109 => ?_
            refine wp_block ?_
            refine wp_region_lit ?_
            refine sEv (v := (.slice (some ⟨g32, 0, none⟩) nr_3 nr_3)) (rfl) rfl rfl ?_
            refine sEv (v := (.int .i64 ((k2 : Int)))) (rfl) rfl rfl ?_
            refine sEv (v := (.func (.func 112) #[] #[(.pointer (some ⟨g24, 0, none⟩))])) (rfl) rfl rfl ?_
            refine sEv (v := (.slice Ar_3 nr_3 cr_3)) (rfl) rfl rfl ?_
            refine sEv (v := (.int .i64 ((k2 : Int)))) (rfl) rfl rfl ?_
            have h110 := (h16.frmB (((((Frm.of_ext (G := fun b => (b = g24 ∨ b = g32)) hE19).trans (Frm.of_ext (G := fun b => (b = g24 ∨ b = g32)) hE27)).trans (Frm.of_ext (G := fun b => (b = g24 ∨ b = g32)) hE35)).trans hF51).trans hF96) q3)
            obtain ⟨b111, o112, rfl⟩ := h110.base (by omega)
            refine sEv (v := (.pointer (some ⟨b111, o112 + k2, none⟩))) (evIndex k2 Try.underlying44 sz62 rfl rfl (by omega) (by omega) (o112 + k2) (by omega)) rfl rfl ?_
            have hd113 := h110.lt k2
            refine sEv (v := (.int .u32 (((dr_3.getD k2 0 : Nat) : Int)))) (evLoad one62 rfl (h110.cell (by omega))) rfl rfl ?_
            refine sOp rfl (oCall rfl call112 (natural_Sub_1 (x1 := dr_3.getD k2 0) (by omega) (x2 := 0) (by omega) (xc := cy2) hB97 (by omega) (by omega)) rfl ?_)
            rintro _ w115 ⟨xs_114, zc_114, rfl, hE116, bs_114, B_114, e_114, z_114⟩
            have hz117 := hE116.size
            refine sEv (v := (.pointer (some ⟨g32, k2, none⟩))) (evIndex k2 Try.underlying44 sz62 rfl rfl (by omega) (by omega) k2 (by omega)) rfl rfl ?_
            have hB118 := (hB98.frm hE116 q1)
            refine sOp rfl (oStore1 rfl rfl rfl sz62 hB118 (by exact lq) ?_)
            intro w119 hU120 hz121 hB122
            replace hB122 : Blk w119 g32 62 (((P2 ++ [xs_114]) ++ List.replicate (nr_3 - (k2 + 1)) 0).map u32) := by rw [← (fill_set2 hP2 (by omega) : (P2 ++ List.replicate (nr_3 - k2) 0).set k2 xs_114 = (P2 ++ [xs_114]) ++ List.replicate (nr_3 - (k2 + 1)) 0), List.map_set]; exact hB122
            refine sDone ?_
            refine bN ?_
            refine xN (hK109 _ _ ?_)
            refine wp_region_lit ?_
            refine sEv (v := (.int .i64 ((k2 : Int)))) (rfl) rfl rfl ?_
            refine sEv (v := (.int .i64 (((k2 : Int)) + 1))) (evAdd (((k2 : Int)) + 1) rfl rfl (wI64 (by omega))) rfl rfl ?_
            refine sEv (v := (.int .i64 (((k2 : Int)) + 1))) (rfl) rfl rfl ?_
            refine sDone ?_
            have hB123 := (B_114.frm hU120 q1)
            refine again (nr_3 - (k2 + 1)) (by omega) ⟨(k2 + 1), (P2 ++ [xs_114]), (zc_114), rfl, rfl, rfl, rfl, (congrArg (Value.int .i64) (by omega)), (Frm.mono (((hF96.mono (G' := fun b => (b = g24 ∨ b = g32) ∨ (b = g24) ∨ (b = g32)) fun _ _ h => .inl h).trans (hE116.mono (G' := fun b => (b = g24 ∨ b = g32) ∨ (b = g24) ∨ (b = g32)) fun _ _ h => .inr (.inl h))).trans (hU120.mono (G' := fun b => (b = g24 ∨ b = g32) ∨ (b = g24) ∨ (b = g32)) fun _ _ h => .inr (.inr h))) q4), ?_, ?_, ?_, ?_, ?_, ?_, ?_, ?_⟩
            · exact hB123
            · exact hB122
            · omega
            · omega
            · simp [hP2]
            · exact lt_snoc hlt2 (by omega)
            · omega
            · exact sub_step hv2 hP2 (by rw [getD_ge (ds := dr_9) (n := nr_9) (by omega) k2 (by omega)]; omega)
          · refine sEv (v := (.bool false)) (evLss false rfl rfl (dF hc108)) rfl rfl ?_
            refine sDone ?_
            refine xN (hK107 _ _ ?_)
            refine cF rfl ?_
            refine wp_exit (xE (xE (bE ?_)))
            refine xN (hK88 _ _ ?_)
            refine wp_seq_k fun K124 hK124 => ?_
            refine wp_region_lit ?_
            refine sEv (v := (.slice (some ⟨g32, 0, none⟩) nr_3 nr_3)) (rfl) rfl rfl ?_
            have h125 : NatR w91 (fun b => b = g32) (some ⟨g32, 0, none⟩) nr_3 nr_3 (P2 ++ List.replicate (nr_3 - k2) 0) := NatR.of_blk hB98 rfl (lt_fill hlt2) (by exact lq) (by omega) (by unfold CapMax; omega)
            refine sOp rfl (oCall rfl call99 (natural_trim h125) rfl ?_)
            rintro _ w127 ⟨Ar_126, nr_126, cr_126, dr_126, rfl, hE128, hr_126, e_126, le_126⟩
            have hz129 := hE128.size
            have lr_126 := hr_126.len; have kr_126 := hr_126.cap; have mr_126 := hr_126.max
            refine sEv (v := (.slice Ar_126 nr_126 cr_126)) (rfl) rfl rfl ?_
            refine sEv (v := (.bool true)) (rfl) rfl rfl ?_
            refine sDone ?_
            refine xN (hK124 _ _ ?_)
            refine wp_ret ?_
            refine ret2 (.slice Ar_126 nr_126 cr_126) (.bool true) Try.results90 (resT rfl) (resT rfl) ?_
            exact ⟨Ar_126, nr_126, cr_126, dr_126, (true), rfl, (Frm.mono ((((((((Frm.of_ext (G := fun b => (b = g24 ∨ b = g32)) hE5).trans (Frm.of_ext (G := fun b => (b = g24 ∨ b = g32)) hE11)).trans (Frm.of_ext (G := fun b => (b = g24 ∨ b = g32)) hE19)).trans (Frm.of_ext (G := fun b => (b = g24 ∨ b = g32)) hE27)).trans (Frm.of_ext (G := fun b => (b = g24 ∨ b = g32)) hE35)).trans hF51).trans hF96).trans (Frm.of_ext (G := fun b => (b = g24 ∨ b = g32)) hE128)) q4), (NatR.sub hr_126 q5), (by simp; omega), (sub_fin e_126 hv2 hP2 hlt2 (by omega) (by omega) hcv e_3 e_9), (by rw [e_126]; exact canon_trim _ _), (by omega)⟩

theorem natural_schoolbook {w : World} {Sa : Nat → Prop} {Aa : Option Addr} {na ca : Nat} {da : List Nat} {Sb : Nat → Prop} {Ab : Option Addr} {nb cb : Nat} {db : List Nat} (ha : NatR w Sa Aa na ca da) (hb : NatR w Sb Ab nb cb db) (hna : na ≤ 1099511627776) (hnb : nb ≤ 1099511627776) : Calls Try.prog 124 #[(.slice Aa na ca), (.slice Ab nb cb)] w (Ret fun v w' => ∃ (Ar : Option Addr) (nr : Nat) (cr : Nat) (dr : List Nat), v = (.slice Ar nr cr) ∧ Ext w w' ∧ NatR w' (fun b => w.heap.size ≤ b) Ar nr cr dr ∧ (val dr = val da * val db) ∧ (nr = na + nb)) := by
  have la := ha.len; have ka := ha.cap; have ma := ha.max
  replace ha := ha.low
  have lb := hb.len; have kb := hb.cap; have mb := hb.max
  replace hb := hb.low
  refine enter Try.func124 rfl Try.ntmps124 rfl ?_
  refine wp_seq_k fun K1 hK1 => ?_
  refine wp_region_lit ?_
  refine sEv (v := (.slice none 0 0)) (rfl) rfl rfl ?_
  refine sDone ?_
  refine xN (hK1 _ _ ?_)
  refine wp_seq_k fun K2 hK2 => ?_
  refine wp_region_lit ?_
  refine sEv (v := (.slice Aa na ca)) (rfl) rfl rfl ?_
  refine sEv (v := (.int .i64 ((na : Int)))) (evLen Try.underlying44 rfl) rfl rfl ?_
  refine sEv (v := (.slice Ab nb cb)) (rfl) rfl rfl ?_
  refine sEv (v := (.int .i64 ((nb : Int)))) (evLen Try.underlying44 rfl) rfl rfl ?_
  refine sEv (v := (.int .i64 (((na : Int)) + ((nb : Int))))) (evAdd (((na : Int)) + ((nb : Int))) rfl rfl (wI64 (by omega))) rfl rfl ?_
  refine sOp rfl (oMake1 (na + nb) Try.underlying44 inf62 rfl (congrArg (Value.int .i64) (by omega)) (congrArg (Value.int .i64) (by omega)) (by omega) (by omega) ?_)
  intro g3 w4 hg5 hE6 hz7 hB8
  have hB9 : Blk w4 g3 62 (((List.replicate (na + nb) 0)).map u32) := by rw [List.map_replicate]; exact hB8
  refine sEv (v := (.slice (some ⟨g3, 0, none⟩) (na + nb) (na + nb))) (rfl) rfl rfl ?_
  refine sDone ?_
  refine xN (hK2 _ _ ?_)
  refine wp_seq_k fun K10 hK10 => ?_
  refine wp_seq_k fun K11 hK11 => ?_
  refine wp_region_lit ?_
  refine sEv (v := (.slice Aa na ca)) (rfl) rfl rfl ?_
  refine sEv (v := (.int .i64 ((na : Int)))) (evLen Try.underlying44 rfl) rfl rfl ?_
  refine sEv (v := (.int .i64 (0))) (rfl) rfl rfl ?_
  refine sDone ?_
  refine xN (hK11 _ _ ?_)
  refine wp_block ?_
  refine lLoop (fun m e w_ => ∃ (i : Nat) (Q : List Nat), m = na - i ∧ e 1 = (.slice Ab nb cb) ∧ e 5 = (.slice (some ⟨g3, 0, none⟩) (na + nb) (na + nb)) ∧ e 21 = (.slice Aa na ca) ∧ e 22 = (.int .i64 ((na : Int))) ∧ e 23 = (.int .i64 ((i : Int))) ∧ Frm (fun b => b = g3) w4 w_ ∧ Blk w_ g3 62 ((Q ++ List.replicate (na - i) 0).map u32) ∧ (i ≤ na) ∧ (Q.length = i + nb) ∧ (∀ d ∈ Q, d < BS) ∧ (val Q = val (da.take i) * val db)) (na - (0)) ?_ ?_
  · refine ⟨(0), (List.replicate nb 0), rfl, rfl, rfl, rfl, rfl, (congrArg (Value.int .i64) (by omega)), (Frm.refl _ _), ?_, ?_, ?_, ?_, ?_⟩
    · rw [List.replicate_append_replicate, show nb + (na - 0) = na + nb by omega]; exact hB9
    · omega
    · simp
    · intro d hd; simp [BS] at hd ⊢; omega
    · simp [val, val_zeros]
  · rintro m12 e22 w13 ⟨i, Q, hm21, hs14, hs15, hs16, hs17, hs18, hF19, hB20, hi, hQ, hQt, hv⟩
    obtain ⟨r23, rfl⟩ := sq (e := e22) (t := 1) hs14
    obtain ⟨r24, rfl⟩ := sq (e := r23) (t := 5) hs15
    obtain ⟨r25, rfl⟩ := sq (e := r24) (t := 21) hs16
    obtain ⟨r26, rfl⟩ := sq (e := r25) (t := 22) hs17
    obtain ⟨r27, rfl⟩ := sq (e := r26) (t := 23) hs18
    have hz28 := hF19.size
    refine wp_seq_k fun K29 hK29 => ?_
    refine wp_region_lit ?_
    by_cases hc30 : ((i : Int)) < ((na : Int))
    · refine sEv (v := (.bool true)) (evLss true rfl rfl (dT hc30)) rfl rfl ?_
      refine sDone ?_
      refine xN (hK29 _ _ ?_)
      refine wp_seq_k fun K31 hK31 => ?_
      refine cT rfl ?_
      refine wp_skip ?_
      refine xN (hK31 _ _ ?_)
      refine wp_seq_k fun K32 hK32 => ?_
      refine wp_block ?_
      refine wp_seq_k fun K33 hK33 => ?_
      refine wp_region_lit ?_
      refine sEv (v := (.int .i64 ((i : Int)))) (rfl) rfl rfl ?_
      have h34 := (ha.frmB ((Frm.of_ext (G := fun b => (b = g3)) hE6).trans hF19) q3)
      obtain ⟨b35, o36, rfl⟩ := h34.base (by omega)
      refine sEv (v := (.pointer (some ⟨b35, o36 + i, none⟩))) (evIndex i Try.underlying44 sz62 rfl rfl (by omega) (by omega) (o36 + i) (by omega)) rfl rfl ?_
      have hd37 := h34.lt i
      refine sEv (v := (.int .u32 (((da.getD i 0 : Nat) : Int)))) (evLoad one62 rfl (h34.cell (by omega))) rfl rfl ?_
      refine sEv (v := (.int .i64 ((i : Int)))) (rfl) rfl rfl ?_
      refine sEv (v := (.int .u32 (((da.getD i 0 : Nat) : Int)))) (rfl) rfl rfl ?_
      refine sDone ?_
      refine xN (hK33 _ _ ?_)
      refine wp_seq_k fun K38 hK38 => ?_
      refine wp_seq_k fun K39 hK39 => ?_
      refine wp_region_lit ?_
      refine sEv (v := (.int .u32 (((da.getD i 0 : Nat) : Int)))) (rfl) rfl rfl ?_
      by_cases hc40 : (((da.getD i 0 : Nat) : Int)) = 0
      · refine sEv (v := (.bool true)) (evEql true rfl rfl (dT hc40)) rfl rfl ?_
        refine sDone ?_
        refine xN (hK39 _ _ ?_)
        refine cT rfl ?_
        refine wp_exit (xE (bE ?_))
        refine xN (hK32 _ _ ?_)
        refine wp_region_lit ?_
        refine sEv (v := (.int .i64 (((i : Int)) + 1))) (evAdd (((i : Int)) + 1) rfl rfl (wI64 (by omega))) rfl rfl ?_
        refine sEv (v := (.int .i64 (((i : Int)) + 1))) (rfl) rfl rfl ?_
        refine sDone ?_
        refine again (na - (i + 1)) (by omega) ⟨(i + 1), (Q ++ [0]), rfl, rfl, rfl, rfl, rfl, (congrArg (Value.int .i64) (by omega)), hF19, ?_, ?_, ?_, ?_, ?_⟩
        · rw [List.append_assoc, show ([0] : List Nat) ++ List.replicate (na - (i + 1)) 0 = List.replicate (na - i) 0 from rep_cons (by omega)]; exact hB20
        · omega
        · simp [hQ]; omega
        · exact lt_snoc hQt (by omega)
        · exact mul_skip (by omega) hv
      · refine sEv (v := (.bool false)) (evEql false rfl rfl (dF hc40)) rfl rfl ?_
        refine sDone ?_
        refine xN (hK39 _ _ ?_)
        refine cF rfl ?_
        refine wp_skip ?_
        refine xN (hK38 _ _ ?_)
        refine wp_seq_k fun K41 hK41 => ?_
        refine wp_region_lit ?_
        refine sEv (v := (.slice (some ⟨g3, 0, none⟩) (na + nb) (na + nb))) (rfl) rfl rfl ?_
        refine sEv (v := (.int .i64 ((i : Int)))) (rfl) rfl rfl ?_
        refine sEv (v := (.slice (some ⟨g3, i, none⟩) ((na + nb) - i) ((na + nb) - i))) (evSliceLoAt i Try.underlying44 sz62 rfl rfl (by omega) (by omega) (by omega) (by omega) i (by omega)) rfl rfl ?_
        refine sEv (v := (.slice (some ⟨g3, i, none⟩) ((na + nb) - i) ((na + nb) - i))) (rfl) rfl rfl ?_
        refine sDone ?_
        refine xN (hK41 _ _ ?_)
        refine wp_seq_k fun K42 hK42 => ?_
        refine wp_region_lit ?_
        refine sEv (v := (.int .u32 (0))) (rfl) rfl rfl ?_
        refine sDone ?_
        refine xN (hK42 _ _ ?_)
        refine wp_seq_k fun K43 hK43 => ?_
        refine wp_seq_k fun K44 hK44 => ?_
        refine wp_region_lit ?_
        refine sEv (v := (.slice Ab nb cb)) (rfl) rfl rfl ?_
        refine sEv (v := (.int .i64 ((nb : Int)))) (evLen Try.underlying44 rfl) rfl rfl ?_
        refine sEv (v := (.int .i64 (0))) (rfl) rfl rfl ?_
        refine sDone ?_
        refine xN (hK44 _ _ ?_)
        refine wp_block ?_
        refine lLoop (fun m e w_ => ∃ (j : Nat) (R : List Nat) (cy : Nat), m = nb - j ∧ e 1 = (.slice Ab nb cb) ∧ e 5 = (.slice (some ⟨g3, 0, none⟩) (na + nb) (na + nb)) ∧ e 7 = (.int .u32 (((da.getD i 0 : Nat) : Int))) ∧ e 8 = (.slice (some ⟨g3, i, none⟩) ((na + nb) - i) ((na + nb) - i)) ∧ e 9 = (.int .u32 ((cy : Int))) ∧ e 21 = (.slice (some ⟨b35, o36, none⟩) na ca) ∧ e 22 = (.int .i64 ((na : Int))) ∧ e 23 = (.int .i64 ((i : Int))) ∧ e 33 = (.slice Ab nb cb) ∧ e 34 = (.int .i64 ((nb : Int))) ∧ e 35 = (.int .i64 ((j : Int))) ∧ Frm (fun b => b = g3) w13 w_ ∧ Blk w_ g3 62 ((R ++ Q.drop (i + j) ++ List.replicate (na - i) 0).map u32) ∧ (j ≤ nb) ∧ (R.length = i + j) ∧ (∀ d ∈ R, d < BS) ∧ (cy < 4294967296) ∧ (val R + BS ^ (i + j) * cy = val (Q.take (i + j)) + BS ^ i * (da.getD i 0 * val (db.take j)))) (nb - (0)) ?_ ?_
        · refine ⟨(0), (Q.take i), (0), rfl, rfl, rfl, rfl, rfl, (congrArg (Value.int .u32) (by omega)), rfl, rfl, rfl, rfl, rfl, (congrArg (Value.int .i64) (by omega)), (Frm.refl _ _), ?_, ?_, ?_, ?_, ?_, ?_⟩
          · rw [Nat.add_zero, List.take_append_drop]; exact hB20
          · omega
          · simp [hQ]
          · exact fun d hd => hQt d (List.mem_of_mem_take hd)
          · omega
          · simp [val]
        · rintro m45 e61 w46 ⟨j, R, cy, hm60, hs47, hs48, hs49, hs50, hs51, hs52, hs53, hs54, hs55, hs56, hs57, hF58, hB59, hj, hR, hRt, hcy, hw⟩
          obtain ⟨r62, rfl⟩ := sq (e := e61) (t := 1) hs47
          obtain ⟨r63, rfl⟩ := sq (e := r62) (t := 5) hs48
          obtain ⟨r64, rfl⟩ := sq (e := r63) (t := 7) hs49
          obtain ⟨r65, rfl⟩ := sq (e := r64) (t := 8) hs50
          obtain ⟨r66, rfl⟩ := sq (e := r65) (t := 9) hs51
          obtain ⟨r67, rfl⟩ := sq (e := r66) (t := 21) hs52
          obtain ⟨r68, rfl⟩ := sq (e := r67) (t := 22) hs53
          obtain ⟨r69, rfl⟩ := sq (e := r68) (t := 23) hs54
          obtain ⟨r70, rfl⟩ := sq (e := r69) (t := 33) hs55
          obtain ⟨r71, rfl⟩ := sq (e := r70) (t := 34) hs56
          obtain ⟨r72, rfl⟩ := sq (e := r71) (t := 35) hs57
          have hz73 := hF58.size
          refine wp_seq_k fun K74 hK74 => ?_
          refine wp_region_lit ?_
          by_cases hc75 : ((j : Int)) < ((nb : Int))
          · refine sEv (v := (.bool true)) (evLss true rfl rfl (dT hc75)) rfl rfl ?_
            refine sDone ?_
            refine xN (hK74 _ _ ?_)
            refine wp_seq_k fun K76 hK76 => ?_
            refine cT rfl ?_
            refine wp_skip ?_
            refine xN (hK76 _ _ ?_)
            refine wp_seq_k fun K77 hK77 => ?_
            refine wp_block ?_
            refine wp_seq_k fun K78 hK78 => ?_
            refine wp_region_lit ?_
            refine sEv (v := (.int .i64 ((j : Int)))) (rfl) rfl rfl ?_
            have h79 := (hb.frmB (((Frm.of_ext (G := fun b => (b = g3)) hE6).trans hF19).trans hF58) q3)
            obtain ⟨b80, o81, rfl⟩ := h79.base (by omega)
            refine sEv (v := (.pointer (some ⟨b80, o81 + j, none⟩))) (evIndex j Try.underlying44 sz62 rfl rfl (by omega) (by omega) (o81 + j) (by omega)) rfl rfl ?_
            have hd82 := h79.lt j
            refine sEv (v := (.int .u32 (((db.getD j 0 : Nat) : Int)))) (evLoad one62 rfl (h79.cell (by omega))) rfl rfl ?_
            refine sEv (v := (.int .i64 ((j : Int)))) (rfl) rfl rfl ?_
            refine sEv (v := (.int .u32 (((db.getD j 0 : Nat) : Int)))) (rfl) rfl rfl ?_
            refine sDone ?_
            refine xN (hK78 _ _ ?_)
            refine wp_seq_k fun K83 hK83 => ?_
            refine wp_region_lit ?_
            refine sEv (v := (.int .u32 (((da.getD i 0 : Nat) : Int)))) (rfl) rfl rfl ?_
            refine sEv (v := (.int .u32 (((db.getD j 0 : Nat) : Int)))) (rfl) rfl rfl ?_
            refine sOp rfl (oCall rfl call133 (bits_Mul32 (x1 := da.getD i 0) (by omega) (x2 := db.getD j 0) (by omega)) rfl ?_)
            rintro _ w85 ⟨xh_84, xl_84, rfl, hE86, bh_84, bl_84, e_84⟩
            have hz87 := hE86.size
            refine sEv (v := (.tuple #[(.int .u32 ((xh_84 : Int))), (.int .u32 ((xl_84 : Int)))])) (rfl) rfl rfl ?_
            refine sEv (v := (.int .u32 ((xh_84 : Int)))) (rfl) rfl rfl ?_
            refine sEv (v := (.int .u32 ((xl_84 : Int)))) (rfl) rfl rfl ?_
            refine sEv (v := (.int .u32 ((xh_84 : Int)))) (rfl) rfl rfl ?_
            refine sEv (v := (.int .u32 ((xl_84 : Int)))) (rfl) rfl rfl ?_
            refine sDone ?_
            refine xN (hK83 _ _ ?_)
            refine wp_seq_k fun K88 hK88 => ?_
            refine wp_region_lit ?_
            refine sEv (v := (.int .u32 ((xl_84 : Int)))) (rfl) rfl rfl ?_
            refine sEv (v := (.slice (some ⟨g3, i, none⟩) ((na + nb) - i) ((na + nb) - i))) (rfl) rfl rfl ?_
            refine sEv (v := (.int .i64 ((j : Int)))) (rfl) rfl rfl ?_
            refine sEv (v := (.pointer (some ⟨g3, i + j, none⟩))) (evIndex j Try.underlying44 sz62 rfl rfl (by omega) (by omega) (i + j) (by omega)) rfl rfl ?_
            have hB89 := (hB59.ext hE86)
            have hd90 := getD_lt (ds := R ++ Q.drop (i + j) ++ List.replicate (na - i) 0) (i := i + j) (lt_mid hRt hQt)
            refine sEv (v := (.int .u32 ((((R ++ Q.drop (i + j) ++ List.replicate (na - i) 0).getD (i + j) 0 : Nat) : Int)))) (evLoad one62 rfl (hB89.dig (by exact lq))) rfl rfl ?_
            have hq := mid_get (Z := List.replicate (na - i) 0) hR (show i + j < Q.length by omega)
            refine sOp rfl (oCall rfl call111 (bits_Add32 (x1 := xl_84) (by omega) (x2 := (R ++ Q.drop (i + j) ++ List.replicate (na - i) 0).getD (i + j) 0) (by omega) (x3 := 0) (by omega) (by omega)) rfl ?_)
            rintro _ w92 ⟨xs_91, xc_91, rfl, hE93, bs_91, bc_91, e_91, z_91⟩
            have hz94 := hE93.size
            have hq1 := mul32_le (ha.lt i) (hb.lt j)
            refine sEv (v := (.tuple #[(.int .u32 ((xs_91 : Int))), (.int .u32 ((xc_91 : Int)))])) (rfl) rfl rfl ?_
            refine sEv (v := (.int .u32 ((xs_91 : Int)))) (rfl) rfl rfl ?_
            refine sEv (v := (.int .u32 ((xc_91 : Int)))) (rfl) rfl rfl ?_
            refine sEv (v := (.int .u32 ((xs_91 : Int)))) (rfl) rfl rfl ?_
            refine sEv (v := (.int .u32 ((xc_91 : Int)))) (rfl) rfl rfl ?_
            refine sDone ?_
            refine xN (hK88 _ _ ?_)
            refine wp_seq_k fun K95 hK95 => ?_
            refine wp_region_lit ?_
            refine sEv (v := (.int .u32 ((xh_84 : Int)))) (rfl) rfl rfl ?_
            refine sEv (v := (.int .u32 ((xc_91 : Int)))) (rfl) rfl rfl ?_
            refine sEv (v := (.int .u32 (((xh_84 + xc_91 : Nat) : Int)))) (evAdd (((xh_84 + xc_91 : Nat) : Int)) rfl rfl (wU32 (by omega))) rfl rfl ?_
            refine sEv (v := (.int .u32 (((xh_84 + xc_91 : Nat) : Int)))) (rfl) rfl rfl ?_
            refine sDone ?_
            refine xN (hK95 _ _ ?_)
            refine wp_seq_k fun K96 hK96 => ?_
            refine wp_region_lit ?_
            refine sEv (v := (.int .u32 ((xs_91 : Int)))) (rfl) rfl rfl ?_
            refine sEv (v := (.int .u32 ((cy : Int)))) (rfl) rfl rfl ?_
            refine sOp rfl (oCall rfl call111 (bits_Add32 (x1 := xs_91) (by omega) (x2 := cy) (by omega) (x3 := 0) (by omega) (by omega)) rfl ?_)
            rintro _ w98 ⟨xs_97, xc_97, rfl, hE99, bs_97, bc_97, e_97, z_97⟩
            have hz100 := hE99.size
            have hsum : xs_97 + 4294967296 * (xh_84 + xc_91 + xc_97) = Q.getD (i + j) 0 + da.getD i 0 * db.getD j 0 + cy := by omega
            have hcc := mul_carry (getD_lt hQt) (ha.lt i) (hb.lt j) hcy hsum
            refine sEv (v := (.tuple #[(.int .u32 ((xs_97 : Int))), (.int .u32 ((xc_97 : Int)))])) (rfl) rfl rfl ?_
            refine sEv (v := (.int .u32 ((xs_97 : Int)))) (rfl) rfl rfl ?_
            refine sEv (v := (.int .u32 ((xc_97 : Int)))) (rfl) rfl rfl ?_
            refine sEv (v := (.int .u32 ((xs_97 : Int)))) (rfl) rfl rfl ?_
            refine sEv (v := (.int .u32 ((xc_97 : Int)))) (rfl) rfl rfl ?_
            refine sDone ?_
            refine xN (hK96 _ _ ?_)
            refine wp_seq_k fun K101 hK101 => ?_
            refine wp_region_lit ?_
            refine sEv (v := (.slice (some ⟨g3, i, none⟩) ((na + nb) - i) ((na + nb) - i))) (rfl) rfl rfl ?_
            refine sEv (v := (.int .i64 ((j : Int)))) (rfl) rfl rfl ?_
            refine sEv (v := (.int .u32 ((xs_97 : Int)))) (rfl) rfl rfl ?_
            refine sEv (v := (.pointer (some ⟨g3, i + j, none⟩))) (evIndex j Try.underlying44 sz62 rfl rfl (by omega) (by omega) (i + j) (by omega)) rfl rfl ?_
            have hB102 := (hB89.ext (hE93.trans hE99))
            refine sOp rfl (oStore1 rfl rfl rfl sz62 hB102 (by exact lq) ?_)
            intro w103 hU104 hz105 hB106
            replace hB106 : Blk w103 g3 62 (((R ++ [xs_97]) ++ Q.drop (i + j + 1) ++ List.replicate (na - i) 0).map u32) := by rw [← (mid_set hR (by omega) : (R ++ Q.drop (i + j) ++ List.replicate (na - i) 0).set (i + j) xs_97 = (R ++ [xs_97]) ++ Q.drop (i + j + 1) ++ List.replicate (na - i) 0), List.map_set]; exact hB106
            refine sDone ?_
            refine xN (hK101 _ _ ?_)
            refine wp_region_lit ?_
            refine sEv (v := (.int .u32 (((xh_84 + xc_91 : Nat) : Int)))) (rfl) rfl rfl ?_
            refine sEv (v := (.int .u32 ((xc_97 : Int)))) (rfl) rfl rfl ?_
            refine sEv (v := (.int .u32 ((((xh_84 + xc_91) + xc_97 : Nat) : Int)))) (evAdd ((((xh_84 + xc_91) + xc_97 : Nat) : Int)) rfl rfl (wU32 (by omega))) rfl rfl ?_
            refine sEv (v := (.int .u32 ((((xh_84 + xc_91) + xc_97 : Nat) : Int)))) (rfl) rfl rfl ?_
            refine sDone ?_
            refine bN ?_
            refine xN (hK77 _ _ ?_)
            refine wp_region_lit ?_
            refine sEv (v := (.int .i64 (((j : Int)) + 1))) (evAdd (((j : Int)) + 1) rfl rfl (wI64 (by omega))) rfl rfl ?_
            refine sEv (v := (.int .i64 (((j : Int)) + 1))) (rfl) rfl rfl ?_
            refine sDone ?_
            refine again (nb - (j + 1)) (by omega) ⟨(j + 1), (R ++ [xs_97]), ((xh_84 + xc_91) + xc_97), rfl, rfl, rfl, rfl, rfl, (congrArg (Value.int .u32) (by omega)), rfl, rfl, rfl, rfl, rfl, (congrArg (Value.int .i64) (by omega)), ((((hF58.trans (Frm.of_ext (G := fun b => (b = g3)) hE86)).trans (Frm.of_ext (G := fun b => (b = g3)) hE93)).trans (Frm.of_ext (G := fun b => (b = g3)) hE99)).trans hU104), ?_, ?_, ?_, ?_, ?_, ?_⟩
            · rw [show i + (j + 1) = i + j + 1 from rfl]; exact hB106
            · omega
            · simp [hR]; omega
            · exact lt_snoc hRt (by omega)
            · exact hcc
            · exact mul_step hw hR (by omega)
          · refine sEv (v := (.bool false)) (evLss false rfl rfl (dF hc75)) rfl rfl ?_
            refine sDone ?_
            refine xN (hK74 _ _ ?_)
            refine wp_seq_k fun K107 hK107 => ?_
            refine cF rfl ?_
            refine wp_exit (xE (xE (bE ?_)))
            refine xN (hK43 _ _ ?_)
            refine wp_region_lit ?_
            refine sEv (v := (.slice (some ⟨g3, i, none⟩) ((na + nb) - i) ((na + nb) - i))) (rfl) rfl rfl ?_
            refine sEv (v := (.slice Ab nb cb)) (rfl) rfl rfl ?_
            refine sEv (v := (.int .i64 ((nb : Int)))) (evLen Try.underlying44 rfl) rfl rfl ?_
            refine sEv (v := (.int .u32 ((cy : Int)))) (rfl) rfl rfl ?_
            refine sEv (v := (.pointer (some ⟨g3, i + nb, none⟩))) (evIndex nb Try.underlying44 sz62 rfl rfl (by omega) (by omega) (i + nb) (by omega)) rfl rfl ?_
            refine sOp rfl (oStore1 rfl rfl rfl sz62 hB59 (by exact lq) ?_)
            intro w108 hU109 hz110 hB111
            replace hB111 : Blk w108 g3 62 (((R ++ [cy]) ++ List.replicate (na - (i + 1)) 0).map u32) := by rw [← (row_end (Q := Q) hR (by omega) (by omega) (by omega) : (R ++ Q.drop (i + j) ++ List.replicate (na - i) 0).set (i + nb) cy = (R ++ [cy]) ++ List.replicate (na - (i + 1)) 0), List.map_set]; exact hB111
            refine sDone ?_
            refine bN ?_
            refine xN (hK32 _ _ ?_)
            refine wp_region_lit ?_
            refine sEv (v := (.int .i64 (((i : Int)) + 1))) (evAdd (((i : Int)) + 1) rfl rfl (wI64 (by omega))) rfl rfl ?_
            refine sEv (v := (.int .i64 (((i : Int)) + 1))) (rfl) rfl rfl ?_
            refine sDone ?_
            refine again (na - (i + 1)) (by omega) ⟨(i + 1), (R ++ [cy]), rfl, rfl, rfl, rfl, rfl, (congrArg (Value.int .i64) (by omega)), ((hF19.trans hF58).trans hU109), ?_, ?_, ?_, ?_, ?_⟩
            · exact hB111
            · omega
            · simp [hR]; omega
            · exact lt_snoc hRt (by omega)
            · exact mul_row hw hR (by omega) (by omega) hv
    · refine sEv (v := (.bool false)) (evLss false rfl rfl (dF hc30)) rfl rfl ?_
      refine sDone ?_
      refine xN (hK29 _ _ ?_)
      refine wp_seq_k fun K112 hK112 => ?_
      refine cF rfl ?_
      refine wp_exit (xE (xE (bE ?_)))
      refine xN (hK10 _ _ ?_)
      refine wp_seq_k fun K113 hK113 => ?_
      refine wp_region_lit ?_
      refine sEv (v := (.slice (some ⟨g3, 0, none⟩) (na + nb) (na + nb))) (rfl) rfl rfl ?_
      refine sEv (v := (.slice (some ⟨g3, 0, none⟩) (na + nb) (na + nb))) (rfl) rfl rfl ?_
      refine sDone ?_
      refine xN (hK113 _ _ ?_)
      refine wp_ret ?_
      refine ret1 (.slice (some ⟨g3, 0, none⟩) (na + nb) (na + nb)) Try.results124 (resT rfl) ?_
      have h114 : NatR w13 (fun b => b = g3) (some ⟨g3, 0, none⟩) (na + nb) (na + nb) (Q ++ List.replicate (na - i) 0) := NatR.of_blk hB20 rfl (lt_fill hQt) (by exact lq) (by omega) (by unfold CapMax; omega)
      exact ⟨(some ⟨g3, 0, none⟩), (na + nb), (na + nb), (Q ++ List.replicate (na - i) 0), rfl, (Frm.mono ((Frm.of_ext (G := fun b => (b = g3)) hE6).trans hF19) q4), (NatR.sub h114 q5), (by rw [val_fill, hv, val_take_all da (by omega)]), (by omega)⟩

end Go.Proofs.Ytppegjbdencefaa
