/-
  Walks of package natural: trim and what needs no more.
-/
import Derived.Test.YtneolcopompkaaaGreatDoorFacts
import Derived.Test.YtneolcopompkaaaGreatDoorLibA
namespace Go.Proofs.YtneolcopompkaaaGreatDoor
open Go.RowKit Go.Gx
theorem natural_trim {w : World} {Sa : Nat → Prop} {Aa : Option Addr} {na ca : Nat} {da : List Nat} (ha : NatR w Sa Aa na ca da)  : Calls Tryz.prog 87 #[(.slice Aa na ca)] w (Ret fun v w' => ∃ (Ar : Option Addr) (nr : Nat) (cr : Nat) (dr : List Nat), v = (.slice Ar nr cr) ∧ Ext w w' ∧ NatR w' (Sa) Ar nr cr dr ∧ (dr = trimN da) ∧ (nr ≤ na)) := by
  have ⟨la, ka, ma⟩ := ha.lkm
  refine enter Tryz.func87 rfl Tryz.ntmps87 rfl (rS fun K1 hK1 => sAs rfl (sK hK1 (rS fun K2 hK2 => sMs rfl (sV (evLen Tryz.underlying23 rfl) (sAi rfl (sK hK2 (wp_seq_k fun K3 hK3 => wp_block ?_)))))))
  refine lLoop (fun m e w_ => ∃ (k : Nat), m = k ∧ e 0 = (.slice Aa na ca) ∧ e 3 = (.int .i64 ((k : Int))) ∧ Frm (fun b => False) w w_ ∧ (k ≤ na) ∧ (∀ j, k ≤ j → da.getD j 0 = 0)) ((na)) ?_ ?_
  · refine ⟨(na), rfl, rfl, cI, (Frm.refl _ _), ?_, ?_⟩
    · omega
    · exact getD_ge (by omega)
  · rintro m4 e10 w5 ⟨k, hm9, hs6, hs7, hF8, hk, hz⟩
    obtain ⟨r11, rfl⟩ := sq (e := e10) (t := 0) hs6
    obtain ⟨r12, rfl⟩ := sq (e := r11) (t := 3) hs7
    have hz13 := hF8.size
    refine wp_seq_k fun K14 hK14 => rS fun K15 hK15 => sMi rfl ?_
    by_cases hc16 : ((k : Int)) > 0
    · refine sV (evGtr true rfl rfl (dT hc16)) (sMb rfl (sEv (v := (.slice Aa na ca)) (rfl) rfl rfl (sEv (v := (.int .i64 ((k : Int)))) (rfl) rfl rfl (sEv (v := (.int .i64 (((k : Int)) - 1))) (evSub (((k : Int)) - 1) rfl rfl wI) rfl rfl ?_))))
      have h17 := (ha.ext hF8)
      obtain ⟨b18, o19, rfl⟩ := h17.base (by omega)
      refine sEv (v := (.pointer (some ⟨b18, o19 + (k - 1), none⟩))) (evIx (k - 1) Tryz.underlying23 sz26 rfl rfl (o19 + (k - 1))) rfl rfl ?_
      have hd20 := h17.lt (k - 1)
      refine sEv (v := (.int .u32 (((da.getD (k - 1) 0 : Nat) : Int)))) (evLoad one26 rfl (h17.cell (by omega))) rfl rfl ?_
      by_cases hc21 : (((da.getD (k - 1) 0 : Nat) : Int)) = 0
      · refine sEv (v := (.bool true)) (evEql true rfl rfl (dT hc21)) rfl rfl (sV (v := (.bool true)) (rfl) (sK hK15 (cT rfl (wp_skip (xN (hK14 _ _ (wp_block (wp_region_lit (sMi rfl (sV (evSub (((k : Int)) - 1) rfl rfl wI) (sAi rfl (sDone (bN (again ((k - 1)) (by omega) ⟨(k - 1), rfl, rfl, cI, hF8, ?_, ?_⟩))))))))))))))
        · omega
        · exact zeros_down hz (by omega)
      · refine sEv (v := (.bool false)) (evEql false rfl rfl (dF hc21)) rfl rfl (sV (v := (.bool false)) (rfl) (sK hK15 (cF rfl (wp_exit (xE (xE (bE (xN (hK3 _ _ (rS fun K22 hK22 => sMs rfl (sMi rfl ?_)))))))))))
        have h23 := h17.take (m := k) (by omega)
        refine sV (evSliceHi k Tryz.underlying23 sz26 rfl rfl (by omega) (by omega)) (sAs rfl (sK hK22 (wp_ret (ret1 (.slice (some ⟨b18, o19, none⟩) k ca) Tryz.results87 (resT rfl) ?_))))
        exact ⟨(some ⟨b18, o19, none⟩), k, ca, ((da).take k), rfl, hF8, h23, (trimN_of (by omega) hz (by omega)), (by omega)⟩
    · refine sV (evGtr false rfl rfl (dF hc16)) (sMb rfl (sSkip rfl rfl (sSkip rfl rfl (sSkip rfl rfl (sSkip rfl rfl (sSkip rfl rfl (sSkip rfl rfl (sV (v := (.bool false)) (rfl) (sK hK15 (cF rfl (wp_exit (xE (xE (bE (xN (hK3 _ _ (rS fun K25 hK25 => sMs rfl (sMi rfl ?_))))))))))))))))))
      have h26 := (ha.ext hF8)
      have h27 := h26.take (m := k) (by omega)
      refine sV (evSliceHi k Tryz.underlying23 sz26 rfl rfl (by omega) (by omega)) (sAs rfl (sK hK25 (wp_ret (ret1 (.slice Aa k ca) Tryz.results87 (resT rfl) ?_))))
      exact ⟨Aa, k, ca, ((da).take k), rfl, hF8, h27, (trimN_of (by omega) hz (by omega)), (by omega)⟩
theorem bits_Add32 {w : World} {x1 : Nat} {x2 : Nat} {x3 : Nat} (b1 : x1 < 4294967296) (b2 : x2 < 4294967296) (b3 : x3 < 4294967296) (hc : x3 ≤ 1) : Calls Tryz.prog 89 #[(.int .u32 ((x1 : Int))), (.int .u32 ((x2 : Int))), (.int .u32 ((x3 : Int)))] w (Ret fun v w' => ∃ (xs : Nat) (xc : Nat), v = (.tuple #[(.int .u32 ((xs : Int))), (.int .u32 ((xc : Int)))]) ∧ Ext w w' ∧ xs < 4294967296 ∧ xc < 4294967296 ∧ (xs + 4294967296 * xc = x1 + x2 + x3) ∧ (xc ≤ 1)) := by
  refine enter Tryz.func89 rfl Tryz.ntmps89 rfl (rS fun K1 hK1 => sAi rfl (sAi rfl (sK hK1 (rS fun K2 hK2 => sMi rfl (sV (evConv ((x1 : Int)) Tryz.underlying26 Tryz.underlying100 rfl (wU64 (by omega))) (sMi rfl (sV (evConv ((x2 : Int)) Tryz.underlying26 Tryz.underlying100 rfl (wU64 (by omega))) (sV (evAdd (((x1 + x2 : Nat) : Int)) rfl rfl (wU64 (by omega))) (sMi rfl (sV (evConv ((x3 : Int)) Tryz.underlying26 Tryz.underlying100 rfl (wU64 (by omega))) (sV (evAdd ((((x1 + x2) + x3 : Nat) : Int)) rfl rfl (wU64 (by omega))) (sAi rfl (sK hK2 (rS fun K3 hK3 => sMi rfl (sV (evConv (((((x1 + x2) + x3) % 4294967296 : Nat) : Int)) Tryz.underlying100 Tryz.underlying26 rfl (wU32m (by omega))) (sAi rfl (sK hK3 (rS fun K4 hK4 => sMi rfl (sV (evShr ((((x1 + x2 + x3) / 4294967296 : Nat) : Int)) rfl rfl (by omega) (by rw [shr_div 32 rfl 4294967296 rfl (by omega)]; omega)) ?_)))))))))))))))))))
  refine sV (evConv (((((x1 + x2 + x3) / 4294967296) % 4294967296 : Nat) : Int)) Tryz.underlying100 Tryz.underlying26 rfl (wU32m (by omega))) (sAi rfl (sK hK4 (wp_ret (ret2 (.int .u32 (((((x1 + x2) + x3) % 4294967296 : Nat) : Int))) (.int .u32 (((((x1 + x2 + x3) / 4294967296) % 4294967296 : Nat) : Int))) Tryz.results89 (resT rfl) (resT rfl) ?_))))
  exact ⟨(((x1 + x2) + x3) % 4294967296), (((x1 + x2 + x3) / 4294967296) % 4294967296), rfl, (Frm.refl _ _), (by omega), (by omega), (by omega), (by omega)⟩
theorem natural_Normal {w : World} {Sa : Nat → Prop} {Aa : Option Addr} {na ca : Nat} {da : List Nat} (ha : NatR w Sa Aa na ca da) (hn : na ≤ 1099511627776) : Calls Tryz.prog 86 #[(.slice Aa na ca)] w (Ret fun v w' => ∃ (Ar : Option Addr) (nr : Nat) (cr : Nat) (dr : List Nat), v = (.slice Ar nr cr) ∧ Ext w w' ∧ NatR w' (fun b => w.heap.size ≤ b) Ar nr cr dr ∧ (dr = trimN da) ∧ (nr ≤ na)) := by
  have ⟨la, ka, ma⟩ := ha.lkm
  replace ha := ha.low
  refine enter Tryz.func86 rfl Tryz.ntmps86 rfl (rS fun K1 hK1 => sAs rfl (sK hK1 (rS fun K2 hK2 => sMs rfl (sO (oCall rfl call87 (natural_trim ha) rfl ?_)))))
  rintro _ w4 ⟨Ar_3, nr_3, cr_3, dr_3, rfl, hE5, hr_3, e_3, le_3⟩
  have hz6 := hE5.size
  have ⟨lr_3, kr_3, mr_3⟩ := hr_3.lkm
  refine sAs rfl (sK hK2 (rS fun K8 hK8 => sMs rfl (sV (evLen Tryz.underlying23 rfl) (sO (oMake1 nr_3 Tryz.underlying23 inf26 rfl cI cI (by omega) (by omega) (fun g9 w10 hg11 hE12 hz13 hB14 => ?_))))))
  have hB15 : Blk w10 g9 26 (((List.replicate nr_3 0)).map u32) := by rw [List.map_replicate]; exact hB14
  refine sAs rfl (sK hK8 (rS fun K16 hK16 => sMs rfl (sMs rfl ?_)))
  have h17 := (hr_3.ext hE12)
  refine sO (oCopy Tryz.underlying23 sz26 rfl rfl h17.1 (u32s_one _) hB15 (by omega) (by exact lq) (fun w18 hU19 hz20 hB21 => ?_))
  replace hB21 : Blk w18 g9 26 ((dr_3).map u32) := by rw [← (by simp [lr_3] : (List.replicate nr_3 0).take 0 ++ dr_3 ++ (List.replicate nr_3 0).drop (0 + nr_3) = dr_3), List.map_append, List.map_append, List.map_take, List.map_drop]; exact hB21
  rw [put_mkA]
  refine sK hK16 (rS fun K22 hK22 => sMs rfl (sAs rfl (sK hK22 (wp_ret (ret1 (.slice (some ⟨g9, 0, none⟩) nr_3 nr_3) Tryz.results86 (resT rfl) ?_)))))
  have h23 : NatR w18 (fun b => b = g9) (some ⟨g9, 0, none⟩) nr_3 nr_3 (dr_3) := NatR.of_blk hB21 rfl h17.2 (by exact lq) (by omega) (by unfold CapMax; omega)
  have hR24 := (hE5.trans hE12).rx hU19
  exact ⟨(some ⟨g9, 0, none⟩), nr_3, nr_3, dr_3, rfl, (Frm.mono hR24 q4), (NatR.sub h23 q5), e_3, (by omega)⟩
theorem natural_IsZero {w : World} {Sa : Nat → Prop} {Aa : Option Addr} {na ca : Nat} {da : List Nat} (ha : NatR w Sa Aa na ca da)  : Calls Tryz.prog 69 #[(.slice Aa na ca)] w (Ret fun v w' => ∃ (gr : Bool), v = (.bool gr) ∧ Ext w w' ∧ (gr = decide (val da = 0))) := by
  have ⟨la, ka, ma⟩ := ha.lkm
  replace ha := ha.low
  refine enter Tryz.func69 rfl Tryz.ntmps69 rfl (rS fun K1 hK1 => sAb rfl (sK hK1 (rS fun K2 hK2 => sMs rfl (sO (oCall rfl call87 (natural_trim ha) rfl ?_)))))
  rintro _ w4 ⟨Ar_3, nr_3, cr_3, dr_3, rfl, hE5, hr_3, e_3, le_3⟩
  have hz6 := hE5.size
  have ⟨lr_3, kr_3, mr_3⟩ := hr_3.lkm
  refine sV (evLen Tryz.underlying23 rfl) ?_
  by_cases hc8 : ((nr_3 : Int)) = 0
  · refine sV (evEql true rfl rfl (dT hc8)) (sAb rfl (sK hK2 (wp_ret (ret1 (.bool true) Tryz.results69 (resT rfl) ?_))))
    exact ⟨(true), rfl, hE5, (isz_true e_3 (by omega))⟩
  · refine sV (evEql false rfl rfl (dF hc8)) (sAb rfl (sK hK2 (wp_ret (ret1 (.bool false) Tryz.results69 (resT rfl) ?_))))
    exact ⟨(false), rfl, hE5, (isz_false e_3 (by omega))⟩
theorem natural_Add_1 {w : World} {x1 : Nat} {x2 : Nat} {pc xc : Nat} (b1 : x1 < 4294967296) (b2 : x2 < 4294967296) (Bc : Blk w pc 26 [.int .u32 (xc : Int)]) (bc : xc < 4294967296) (hc : xc ≤ 1) : Calls Tryz.prog 88 #[(.int .u32 ((x1 : Int))), (.int .u32 ((x2 : Int))), (.pointer (some ⟨pc, 0, none⟩))] w (Ret fun v w' => ∃ (xs : Nat) (zc : Nat), v = (.int .u32 ((xs : Int))) ∧ Frm (fun b => b = pc) w w' ∧ xs < 4294967296 ∧ (Blk w' pc 26 [.int .u32 (zc : Int)]) ∧ (xs + 4294967296 * zc = x1 + x2 + xc) ∧ (zc ≤ 1)) := by
  refine enter Tryz.func88 rfl Tryz.ntmps88 rfl (rS fun K1 hK1 => sAi rfl (sK hK1 (rS fun K2 hK2 => sMi rfl (sMi rfl (sV (evLoadB one26 rfl Bc rfl) (sO (oCall rfl call89 (bits_Add32 (x1 := x1) (by omega) (x2 := x2) (by omega) (x3 := xc) (by omega) (by omega)) rfl ?_)))))))
  rintro _ w4 ⟨xs_3, xc_3, rfl, hE5, bs_3, bc_3, e_3, z_3⟩
  have hz6 := hE5.size
  refine sV (v := (.tuple #[(.int .u32 ((xs_3 : Int))), (.int .u32 ((xc_3 : Int)))])) (rfl) (sV (v := (.int .u32 ((xs_3 : Int)))) (rfl) (sV (v := (.int .u32 ((xc_3 : Int)))) (rfl) (sAi rfl (sAi rfl (sK hK2 (rS fun K7 hK7 => sMi rfl ?_))))))
  have hB8 := (Bc.ext hE5)
  refine sO (oStore [(.int .u32 ((xc_3 : Int)))] rfl rfl rfl sz26 rfl hB8 (Nat.le_of_ble_eq_true rfl) (fun w9 hU10 hz11 hB12 => ?_))
  replace hB12 : Blk w9 pc 26 [(.int .u32 ((xc_3 : Int)))] := hB12
  refine sK hK7 (rS fun K13 hK13 => sMi rfl (sAi rfl (sK hK13 (wp_ret (ret1 (.int .u32 ((xs_3 : Int))) Tryz.results88 (resT rfl) ?_)))))
  have hR14 := hE5.rx hU10
  exact ⟨(xs_3), xc_3, rfl, hR14, (by omega), hB12, (by omega), (by omega)⟩
end Go.Proofs.YtneolcopompkaaaGreatDoor
