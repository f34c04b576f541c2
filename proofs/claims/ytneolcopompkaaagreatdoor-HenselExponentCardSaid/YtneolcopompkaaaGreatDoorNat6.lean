/-
  Walks of package natural: shifts.
-/
import Derived.Test.YtneolcopompkaaaGreatDoorNat5
namespace Go.Proofs.YtneolcopompkaaaGreatDoor
open Go.RowKit Go.Gx
set_option maxHeartbeats 1000000 in
theorem natural_Shl {w : World} {Sa : Nat → Prop} {Aa : Option Addr} {na ca : Nat} {da : List Nat} {xn : Nat} (ha : NatR w Sa Aa na ca da) (bn : xn ≤ 9223372036854775807) (hna : na ≤ 549755813888) (hxn : xn ≤ 16777216) : Calls Tryz.prog 74 #[(.slice Aa na ca), (.int .i64 ((xn : Int)))] w (Ret fun v w' => ∃ (Ar : Option Addr) (nr : Nat) (cr : Nat) (dr : List Nat), v = (.slice Ar nr cr) ∧ Ext w w' ∧ NatR w' (fun b => w.heap.size ≤ b) Ar nr cr dr ∧ (val dr = val da * 2 ^ xn) ∧ (Canon isZ dr) ∧ (nr ≤ na + xn / 32 + 1)) := by
  have ⟨la, ka, ma⟩ := ha.lkm
  replace ha := ha.low
  refine enter Tryz.func74 rfl Tryz.ntmps74 rfl (rS fun K1 hK1 => sAs rfl (sK hK1 (rS fun K2 hK2 => sMs rfl (sO (oCall rfl call87 (natural_trim ha) rfl ?_)))))
  rintro _ w4 ⟨Ar_3, nr_3, cr_3, dr_3, rfl, hE5, hr_3, e_3, le_3⟩
  have hz6 := hE5.size
  have ⟨lr_3, kr_3, mr_3⟩ := hr_3.lkm
  refine sAs rfl (sK hK2 (wp_seq_k fun K8 hK8 => rS fun K9 hK9 => sMs rfl (sV (evLen Tryz.underlying23 rfl) ?_)))
  by_cases hc10 : ((nr_3 : Int)) = 0
  · refine sV (evEql true rfl rfl (dT hc10)) (sK hK9 (cT rfl (rS fun K11 hK11 => sAs rfl (sK hK11 (wp_ret (xR (ret1 (.slice none 0 0) Tryz.results74 (resT rfl) ?_)))))))
    exact ⟨none, 0, 0, ([]), rfl, hE5, NatR.nil, (by rw [← val_trim da, ← e_3, show dr_3 = [] from List.eq_nil_of_length_eq_zero (by omega)]; simp [val]), (canon_nil _), (by omega)⟩
  · refine sV (evEql false rfl rfl (dF hc10)) (sK hK9 (cF rfl (wp_skip (xN (hK8 _ _ (rS fun K12 hK12 => sMi rfl (sV (evMax ((xn : Int)) rfl rfl (by split <;> omega)) (sV (evMin ((xn : Int)) rfl rfl (by split <;> omega)) (sAi rfl (sK hK12 (rS fun K13 hK13 => sMi rfl (sV (evQuo (((xn / 32 : Nat) : Int)) rfl rfl (by omega) (quoEi64 (by omega) (by omega) (by omega))) (sMi rfl (sV (evRem (((xn % 32 : Nat) : Int)) rfl rfl (by omega) (remE (by omega) (by omega))) (sV (evConv (((xn % 32 : Nat) : Int)) Tryz.underlying3 Tryz.underlying139 rfl (wU64 (by omega))) (sAi rfl (sAi rfl (sK hK13 (rS fun K14 hK14 => sMi rfl (sMs rfl (sV (evLen Tryz.underlying23 rfl) (sV (evAdd ((((xn / 32 : Nat) : Int)) + ((nr_3 : Int))) rfl rfl wI) ?_))))))))))))))))))))))
    refine sV (evAdd (((((xn / 32 : Nat) : Int)) + ((nr_3 : Int))) + 1) rfl rfl wI) (sO (oMake1 (((xn / 32) + nr_3) + 1) Tryz.underlying23 inf26 rfl cI cI (by omega) (by omega) (fun g15 w16 hg17 hE18 hz19 hB20 => ?_)))
    have hB21 : Blk w16 g15 26 (((List.replicate (((xn / 32) + nr_3) + 1) 0)).map u32) := by rw [List.map_replicate]; exact hB20
    refine sAs rfl (sK hK14 (rS fun K22 hK22 => sMs rfl (sMi rfl (sV (evSliceLoAt (xn / 32) Tryz.underlying23 sz26 rfl rfl (by omega) (by omega) (by omega) (by omega) (xn / 32) (by omega)) (sAs rfl (sK hK22 (wp_seq_k fun K23 hK23 => rS fun K24 hK24 => sMs rfl (sV (evLen Tryz.underlying23 rfl) (sMi rfl (sK hK24 (wp_block ?_)))))))))))
    refine lLoop (fun m e w_ => ∃ (k : Nat) (P : List Nat) (cy : Nat), m = nr_3 - k ∧ e 6 = (.int .u64 (((xn % 32 : Nat) : Int))) ∧ e 7 = (.slice (some ⟨g15, 0, none⟩) (((xn / 32) + nr_3) + 1) (((xn / 32) + nr_3) + 1)) ∧ e 8 = (.slice (some ⟨g15, xn / 32, none⟩) ((((xn / 32) + nr_3) + 1) - (xn / 32)) ((((xn / 32) + nr_3) + 1) - (xn / 32))) ∧ e 34 = (.slice Ar_3 nr_3 cr_3) ∧ e 35 = (.int .i64 ((nr_3 : Int))) ∧ e 36 = (.int .i64 ((k : Int))) ∧ Frm (fun b => b = g15) w16 w_ ∧ Blk w_ g15 26 ((List.replicate (xn / 32) 0 ++ (P ++ (cy :: List.replicate (nr_3 - k) 0))).map u32) ∧ (k ≤ nr_3) ∧ (P.length = k) ∧ (∀ d ∈ P, d < BS) ∧ (cy < 2 ^ (xn % 32)) ∧ (cy < 4294967296) ∧ (val P + BS ^ k * cy = val (dr_3.take k) * 2 ^ (xn % 32))) (nr_3 - (0)) ?_ ?_
    · refine ⟨(0), ([]), (0), rfl, rfl, rfl, rfl, rfl, rfl, cI, (Frm.refl _ _), ?_, ?_, ?_, ?_, ?_, ?_, ?_⟩
      · rw [List.nil_append, rep_shl]; exact hB21
      · omega
      · rfl
      · simp
      · exact Nat.pow_pos (by decide)
      · omega
      · simp [val]
    · rintro m25 e36 w26 ⟨k, P, cy, hm35, hs27, hs28, hs29, hs30, hs31, hs32, hF33, hB34, hk, hP, hlt, hcy, hcy2, hw⟩
      obtain ⟨r37, rfl⟩ := sq (e := e36) (t := 6) hs27
      obtain ⟨r38, rfl⟩ := sq (e := r37) (t := 7) hs28
      obtain ⟨r39, rfl⟩ := sq (e := r38) (t := 8) hs29
      obtain ⟨r40, rfl⟩ := sq (e := r39) (t := 34) hs30
      obtain ⟨r41, rfl⟩ := sq (e := r40) (t := 35) hs31
      obtain ⟨r42, rfl⟩ := sq (e := r41) (t := 36) hs32
      have hz43 := hF33.size
      refine rS fun K44 hK44 => ?_
      by_cases hc45 : ((k : Int)) < ((nr_3 : Int))
      · refine sV (evLss true rfl rfl (dT hc45)) (sK hK44 (wp_seq_k fun K46 hK46 => cT rfl (wp_skip (xN (hK46 _ _ (wp_seq_k fun K47 hK47 => wp_block (rS fun K48 hK48 => sMi rfl ?_)))))))
        have hR49 := hE18.rx hF33
        have h50 := (hr_3.frmB hR49 q3)
        obtain ⟨b51, o52, rfl⟩ := h50.base (by omega)
        refine sV (evIx k Tryz.underlying23 sz26 rfl rfl (o52 + k)) ?_
        have hd53 := h50.lt k
        refine sV (evLoad one26 rfl (h50.cell (by omega))) (sAi rfl (sAi rfl (sK hK48 (wp_seq_k fun K54 hK54 => ?_))))
        have hsp := shl_parts (h50.lt k) (show xn % 32 ≤ 31 by omega) hcy
        refine wp_region_lit (sMi rfl (sV (evConv (((dr_3.getD k 0 : Nat) : Int)) Tryz.underlying26 Tryz.underlying100 rfl (wU64 (by omega))) (sMi rfl (sV (evShl (((dr_3.getD k 0 * 2 ^ (xn % 32) : Nat) : Int)) rfl rfl (by omega) (shlE64u (by omega) (by omega) (by omega) (by omega))) (sAi rfl (sK hK54 (wp_seq_k fun K55 hK55 => ?_)))))))
        have hq := shl_get (Z := List.replicate (nr_3 - k) 0) (c := cy) (w := xn / 32) hP (t := xn / 32 + k) rfl
        refine wp_region_lit (sMs rfl (sMi rfl (sV (evIx k Tryz.underlying23 sz26 rfl rfl (xn / 32 + k)) ?_)))
        have hd56 := getD_lt (ds := List.replicate (xn / 32) 0 ++ (P ++ (cy :: List.replicate (nr_3 - k) 0))) (i := xn / 32 + k) (lt_shl hlt hcy2)
        refine sV (evLoad one26 rfl (hB34.dig (by exact lq))) ?_
        generalize hq48 : (List.replicate (xn / 32) 0 ++ (P ++ (cy :: List.replicate (nr_3 - k) 0))).getD (xn / 32 + k) 0 = q48 at *
        obtain rfl := hq.symm
        refine sMi rfl (sV (evConv ((((dr_3.getD k 0 * 2 ^ (xn % 32)) % 4294967296 : Nat) : Int)) Tryz.underlying100 Tryz.underlying26 rfl (wU32m (by omega))) (sV (v := (.int .u32 (((cy + (dr_3.getD k 0 * 2 ^ (xn % 32)) % 4294967296 : Nat) : Int)))) (evOr32n rfl rfl (by omega) (by omega) hsp.2.1) (sV (evIx k Tryz.underlying23 sz26 rfl rfl (xn / 32 + k)) (sO (oStore1 rfl rfl rfl sz26 hB34 (by exact lq) (fun w57 hU58 hz59 hB60 => ?_))))))
        replace hB60 : Blk w57 g15 26 ((List.replicate (xn / 32) 0 ++ (P ++ ((cy + (dr_3.getD k 0 * 2 ^ (xn % 32)) % 4294967296) :: List.replicate (nr_3 - k) 0))).map u32) := by rw [← (shl_set1 hP (by omega) : (List.replicate (xn / 32) 0 ++ (P ++ (cy :: List.replicate (nr_3 - k) 0))).set (xn / 32 + k) (cy + (dr_3.getD k 0 * 2 ^ (xn % 32)) % 4294967296) = List.replicate (xn / 32) 0 ++ (P ++ ((cy + (dr_3.getD k 0 * 2 ^ (xn % 32)) % 4294967296) :: List.replicate (nr_3 - k) 0))), List.map_set]; exact hB60
        refine sK hK55 (wp_region_lit (sMs rfl (sMi rfl (sV (evAdd (((k : Int)) + 1) rfl rfl wI) (sMi rfl (sV (evShr ((((dr_3.getD k 0 * 2 ^ (xn % 32)) / 2 ^ 32 : Nat) : Int)) rfl rfl (by omega) (shrE (x := dr_3.getD k 0 * 2 ^ (xn % 32)) (s := 32) (by omega) (by omega) (by show _ ≤ 64; omega))) (sV (evConv (((((dr_3.getD k 0 * 2 ^ (xn % 32)) / 2 ^ 32) % 4294967296 : Nat) : Int)) Tryz.underlying100 Tryz.underlying26 rfl (wU32m (by omega))) (sV (evIx (k + 1) Tryz.underlying23 sz26 rfl rfl (xn / 32 + (k + 1))) ?_))))))))
        have hcn : ((dr_3.getD k 0 * 2 ^ (xn % 32)) / 2 ^ 32) % 4294967296 < 2 ^ (xn % 32) := by have h1 := hsp.2.2.2.1; omega
        refine sO (oStore1 rfl rfl rfl sz26 hB60 (by exact lq) (fun w61 hU62 hz63 hB64 => ?_))
        replace hB64 : Blk w61 g15 26 ((List.replicate (xn / 32) 0 ++ ((P ++ [cy + (dr_3.getD k 0 * 2 ^ (xn % 32)) % 4294967296]) ++ ((((dr_3.getD k 0 * 2 ^ (xn % 32)) / 2 ^ 32) % 4294967296) :: List.replicate (nr_3 - (k + 1)) 0))).map u32) := by rw [← (shl_set2 hP (by omega) (by omega) : (List.replicate (xn / 32) 0 ++ (P ++ ((cy + (dr_3.getD k 0 * 2 ^ (xn % 32)) % 4294967296) :: List.replicate (nr_3 - k) 0))).set (xn / 32 + (k + 1)) (((dr_3.getD k 0 * 2 ^ (xn % 32)) / 2 ^ 32) % 4294967296) = List.replicate (xn / 32) 0 ++ ((P ++ [cy + (dr_3.getD k 0 * 2 ^ (xn % 32)) % 4294967296]) ++ ((((dr_3.getD k 0 * 2 ^ (xn % 32)) / 2 ^ 32) % 4294967296) :: List.replicate (nr_3 - (k + 1)) 0))), List.map_set]; exact hB64
        refine sDone (bN (xN (hK47 _ _ (wp_region_lit (sV (evAdd (((k : Int)) + 1) rfl rfl wI) (sMi rfl (sDone ?_)))))))
        have hR65 := hU58.trans hU62
        refine again (nr_3 - (k + 1)) (by omega) ⟨(k + 1), (P ++ [cy + (dr_3.getD k 0 * 2 ^ (xn % 32)) % 4294967296]), (((dr_3.getD k 0 * 2 ^ (xn % 32)) / 2 ^ 32) % 4294967296), rfl, rfl, rfl, rfl, rfl, rfl, cI, (hF33.trans hR65), ?_, ?_, ?_, ?_, ?_, ?_, ?_⟩
        · exact hB64
        · omega
        · simp [hP]
        · exact lt_snoc hlt (by omega)
        · exact hcn
        · omega
        · exact shl_step hw hP (by omega)
      · refine sV (evLss false rfl rfl (dF hc45)) (sK hK44 (wp_seq_k fun K66 hK66 => cF rfl (wp_exit (xE (xE (bE (xN (hK23 _ _ (rS fun K67 hK67 => sMs rfl ?_)))))))))
        have h68 : NatR w26 (fun b => b = g15) (some ⟨g15, 0, none⟩) (((xn / 32) + nr_3) + 1) (((xn / 32) + nr_3) + 1) (List.replicate (xn / 32) 0 ++ (P ++ (cy :: List.replicate (nr_3 - k) 0))) := NatR.of_blk hB34 rfl (lt_shl hlt hcy2) (by exact lq) (by omega) (by unfold CapMax; omega)
        refine sO (oCall rfl call87 (natural_trim h68) rfl ?_)
        rintro _ w70 ⟨Ar_69, nr_69, cr_69, dr_69, rfl, hE71, hr_69, e_69, le_69⟩
        have hz72 := hE71.size
        have ⟨lr_69, kr_69, mr_69⟩ := hr_69.lkm
        refine sAs rfl (sK hK67 (wp_ret (ret1 (.slice Ar_69 nr_69 cr_69) Tryz.results74 (resT rfl) ?_)))
        have hR74 := ((hE5.trans hE18).rx hF33).xr hE71
        exact ⟨Ar_69, nr_69, cr_69, dr_69, rfl, (Frm.mono hR74 q4), (NatR.sub hr_69 q5), (by rw [e_69, val_trim, shl_end (n := xn) hw hP (by omega) (by omega) (by omega), e_3, val_trim]), (by rw [e_69]; exact canon_trim _ _), (by omega)⟩
set_option maxHeartbeats 1000000 in
theorem natural_Shr {w : World} {Sa : Nat → Prop} {Aa : Option Addr} {na ca : Nat} {da : List Nat} {xn : Nat} (ha : NatR w Sa Aa na ca da) (bn : xn ≤ 9223372036854775807) (hna : na ≤ 549755813888) : Calls Tryz.prog 146 #[(.slice Aa na ca), (.int .i64 ((xn : Int)))] w (Ret fun v w' => ∃ (Ar : Option Addr) (nr : Nat) (cr : Nat) (dr : List Nat), v = (.slice Ar nr cr) ∧ Ext w w' ∧ NatR w' (fun b => w.heap.size ≤ b) Ar nr cr dr ∧ (val dr = val da / 2 ^ xn) ∧ (Canon isZ dr) ∧ (nr ≤ na)) := by
  have ⟨la, ka, ma⟩ := ha.lkm
  replace ha := ha.low
  refine enter Tryz.func146 rfl Tryz.ntmps146 rfl (rS fun K1 hK1 => sAs rfl (sK hK1 (rS fun K2 hK2 => sMs rfl (sO (oCall rfl call87 (natural_trim ha) rfl ?_)))))
  rintro _ w4 ⟨Ar_3, nr_3, cr_3, dr_3, rfl, hE5, hr_3, e_3, le_3⟩
  have hz6 := hE5.size
  have ⟨lr_3, kr_3, mr_3⟩ := hr_3.lkm
  refine sAs rfl (sK hK2 (rS fun K8 hK8 => sMi rfl (sV (evMax ((xn : Int)) rfl rfl (by split <;> omega)) (sAi rfl (sK hK8 (rS fun K9 hK9 => sMi rfl (sV (evQuo (((xn / 32 : Nat) : Int)) rfl rfl (by omega) (quoEi64 (by omega) (by omega) (by omega))) (sMi rfl (sV (evRem (((xn % 32 : Nat) : Int)) rfl rfl (by omega) (remE (by omega) (by omega))) (sV (evConv (((xn % 32 : Nat) : Int)) Tryz.underlying3 Tryz.underlying139 rfl (wU64 (by omega))) (sAi rfl (sAi rfl (sK hK9 (wp_seq_k fun K10 hK10 => rS fun K11 hK11 => sMi rfl (sMs rfl (sV (evLen Tryz.underlying23 rfl) ?_))))))))))))))))
  by_cases hc12 : (((xn / 32 : Nat) : Int)) ≥ ((nr_3 : Int))
  · refine sV (evGeq true rfl rfl (dT hc12)) (sK hK11 (cT rfl (rS fun K13 hK13 => sAs rfl (sK hK13 (wp_ret (xR (ret1 (.slice none 0 0) Tryz.results146 (resT rfl) ?_)))))))
    exact ⟨none, 0, 0, ([]), rfl, hE5, NatR.nil, (by rw [← val_trim da, ← e_3]; exact shr_zero (w := xn / 32) hr_3.2 lr_3 (by omega) (by omega)), (canon_nil _), (by omega)⟩
  · refine sV (evGeq false rfl rfl (dF hc12)) (sK hK11 (cF rfl (wp_skip (xN (hK10 _ _ (rS fun K14 hK14 => sMs rfl (sMi rfl ?_)))))))
    have h17 := hr_3.drop (m := xn / 32) (by omega)
    refine sV (evSliceLo (xn / 32) Tryz.underlying23 sz26 rfl rfl (by omega) (by omega) (by omega)) ?_
    generalize (if cr_3 = (xn / 32) then Ar_3 else Ar_3.map (·.add ((xn / 32) * 1))) = A15 at *
    refine sAs rfl (sK hK14 (rS fun K19 hK19 => sMs rfl (sV (evLen Tryz.underlying23 rfl) (sO (oMake1 (nr_3 - (xn / 32)) Tryz.underlying23 inf26 rfl cI cI (by omega) (by omega) (fun g20 w21 hg22 hE23 hz24 hB25 => ?_))))))
    have hB26 : Blk w21 g20 26 (((List.replicate (nr_3 - (xn / 32)) 0)).map u32) := by rw [List.map_replicate]; exact hB25
    refine sAs rfl (sK hK19 (wp_seq_k fun K27 hK27 => rS fun K28 hK28 => sMs rfl (sV (evLen Tryz.underlying23 rfl) (sMi rfl (sK hK28 (wp_block ?_))))))
    have h29 := (h17.ext hE23)
    refine lLoop (fun m e w_ => ∃ (k : Nat) (P : List Nat), m = (nr_3 - (xn / 32)) - k ∧ e 6 = (.int .u64 (((xn % 32 : Nat) : Int))) ∧ e 7 = (.slice A15 (nr_3 - (xn / 32)) (cr_3 - (xn / 32))) ∧ e 8 = (.slice (some ⟨g20, 0, none⟩) (nr_3 - (xn / 32)) (nr_3 - (xn / 32))) ∧ e 31 = (.slice A15 (nr_3 - (xn / 32)) (cr_3 - (xn / 32))) ∧ e 32 = (.int .i64 (((nr_3 - (xn / 32) : Nat) : Int))) ∧ e 33 = (.int .i64 ((k : Int))) ∧ Frm (fun b => b = g20) w21 w_ ∧ Blk w_ g20 26 ((P ++ List.replicate ((nr_3 - (xn / 32)) - k) 0).map u32) ∧ (k ≤ nr_3 - (xn / 32)) ∧ (P.length = k) ∧ (∀ d ∈ P, d < BS) ∧ (val P = val ((dr_3).drop (xn / 32)) / 2 ^ (xn % 32) % BS ^ k)) ((nr_3 - (xn / 32)) - (0)) ?_ ?_
    · refine ⟨(0), ([]), rfl, rfl, rfl, rfl, rfl, rfl, cI, (Frm.refl _ _), ?_, ?_, ?_, ?_, ?_⟩
      · simpa using hB26
      · omega
      · rfl
      · simp
      · simp [val, Nat.mod_one]
    · rintro m30 e41 w31 ⟨k, P, hm40, hs32, hs33, hs34, hs35, hs36, hs37, hF38, hB39, hk, hP, hlt, hw⟩
      obtain ⟨r42, rfl⟩ := sq (e := e41) (t := 6) hs32
      obtain ⟨r43, rfl⟩ := sq (e := r42) (t := 7) hs33
      obtain ⟨r44, rfl⟩ := sq (e := r43) (t := 8) hs34
      obtain ⟨r45, rfl⟩ := sq (e := r44) (t := 31) hs35
      obtain ⟨r46, rfl⟩ := sq (e := r45) (t := 32) hs36
      obtain ⟨r47, rfl⟩ := sq (e := r46) (t := 33) hs37
      have hz48 := hF38.size
      refine rS fun K49 hK49 => ?_
      by_cases hc50 : ((k : Int)) < (((nr_3 - (xn / 32) : Nat) : Int))
      · refine sV (evLss true rfl rfl (dT hc50)) (sK hK49 (wp_seq_k fun K51 hK51 => cT rfl (wp_skip (xN (hK51 _ _ (wp_seq_k fun K52 hK52 => wp_block (rS fun K53 hK53 => sMi rfl ?_)))))))
        have h54 := (h29.frmB hF38 q3)
        obtain ⟨b55, o56, rfl⟩ := h54.base (by omega)
        refine sV (evIx k Tryz.underlying23 sz26 rfl rfl (o56 + k)) ?_
        have hd57 := h54.lt k
        refine sV (evLoad one26 rfl (h54.cell (by omega))) (sAi rfl (sAi rfl (sK hK53 (rS fun K58 hK58 => sMi rfl (sV (evConv (((((dr_3).drop (xn / 32)).getD k 0 : Nat) : Int)) Tryz.underlying26 Tryz.underlying100 rfl (wU64 (by omega))) (sAi rfl (sK hK58 (wp_seq_k fun K59 hK59 => rS fun K60 hK60 => sMi rfl (sV (evAdd (((k : Int)) + 1) rfl rfl wI) (sMs rfl (sV (evLen Tryz.underlying23 rfl) ?_)))))))))))
        by_cases hc61 : (((k : Int)) + 1) < (((nr_3 - (xn / 32) : Nat) : Int))
        · refine sV (evLss true rfl rfl (dT hc61)) (sK hK60 (cT rfl (wp_region_lit (sMi rfl (sMs rfl (sMi rfl (sV (evAdd (((k : Int)) + 1) rfl rfl wI) (sV (evIx (k + 1) Tryz.underlying23 sz26 rfl rfl (o56 + (k + 1))) ?_))))))))
          have hd62 := h54.lt (k + 1)
          refine sV (evLoad one26 rfl (h54.cell (by omega))) (sV (evConv (((((dr_3).drop (xn / 32)).getD (k + 1) 0 : Nat) : Int)) Tryz.underlying26 Tryz.underlying100 rfl (wU64 (by omega))) (sV (evShl (((((dr_3).drop (xn / 32)).getD (k + 1) 0 * 4294967296 : Nat) : Int)) rfl rfl (by omega) (shlE64u (x := ((dr_3).drop (xn / 32)).getD (k + 1) 0) (s := 32) (by omega) (by omega) (by omega) (by omega))) (sV (v := (.int .u64 (((((dr_3).drop (xn / 32)).getD k 0 + ((dr_3).drop (xn / 32)).getD (k + 1) 0 * 4294967296 : Nat) : Int)))) (evOr64 rfl rfl (by omega) (by omega) (or_high (by omega))) (sAi rfl (sK hK59 (wp_region_lit (sMs rfl (sMi rfl (sMi rfl (sMi rfl (sV (evShr ((((((dr_3).drop (xn / 32)).getD k 0 + ((dr_3).drop (xn / 32)).getD (k + 1) 0 * 4294967296) / 2 ^ (xn % 32) : Nat) : Int)) rfl rfl (by omega) (shrE (x := ((dr_3).drop (xn / 32)).getD k 0 + ((dr_3).drop (xn / 32)).getD (k + 1) 0 * 4294967296) (s := xn % 32) (by omega) (by omega) (by show _ ≤ 64; omega))) ?_)))))))))))
          refine sV (evConv (((((((dr_3).drop (xn / 32)).getD k 0 + ((dr_3).drop (xn / 32)).getD (k + 1) 0 * 4294967296) / 2 ^ (xn % 32)) % 4294967296 : Nat) : Int)) Tryz.underlying100 Tryz.underlying26 rfl (wU32m (by omega))) (sV (evIx k Tryz.underlying23 sz26 rfl rfl k) (sO (oStore1 rfl rfl rfl sz26 hB39 (by exact lq) (fun w63 hU64 hz65 hB66 => ?_))))
          replace hB66 : Blk w63 g20 26 (((P ++ [((((dr_3).drop (xn / 32)).getD k 0 + ((dr_3).drop (xn / 32)).getD (k + 1) 0 * 4294967296) / 2 ^ (xn % 32)) % 4294967296]) ++ List.replicate ((nr_3 - (xn / 32)) - (k + 1)) 0).map u32) := by rw [← (fill_set2 hP (by omega) : (P ++ List.replicate ((nr_3 - (xn / 32)) - k) 0).set k (((((dr_3).drop (xn / 32)).getD k 0 + ((dr_3).drop (xn / 32)).getD (k + 1) 0 * 4294967296) / 2 ^ (xn % 32)) % 4294967296) = (P ++ [((((dr_3).drop (xn / 32)).getD k 0 + ((dr_3).drop (xn / 32)).getD (k + 1) 0 * 4294967296) / 2 ^ (xn % 32)) % 4294967296]) ++ List.replicate ((nr_3 - (xn / 32)) - (k + 1)) 0), List.map_set]; exact hB66
          refine sDone (bN (xN (hK52 _ _ (wp_region_lit (sV (evAdd (((k : Int)) + 1) rfl rfl wI) (sMi rfl (sDone ?_)))))))
          have h67 := (h54.frmB hU64 q3)
          refine again ((nr_3 - (xn / 32)) - (k + 1)) (by omega) ⟨(k + 1), (P ++ [((((dr_3).drop (xn / 32)).getD k 0 + ((dr_3).drop (xn / 32)).getD (k + 1) 0 * 4294967296) / 2 ^ (xn % 32)) % 4294967296]), rfl, rfl, rfl, rfl, rfl, rfl, cI, (hF38.trans hU64), ?_, ?_, ?_, ?_, ?_⟩
          · exact hB66
          · omega
          · simp [hP]
          · exact lt_snoc hlt (by omega)
          · exact shr_step h67.2 (by omega) hw hP rfl
        · refine sV (evLss false rfl rfl (dF hc61)) (sK hK60 (cF rfl (wp_skip (xN (hK59 _ _ (wp_region_lit (sMs rfl (sMi rfl (sMi rfl (sMi rfl (sV (evShr ((((((dr_3).drop (xn / 32)).getD k 0) / 2 ^ (xn % 32) : Nat) : Int)) rfl rfl (by omega) (shrE (x := ((dr_3).drop (xn / 32)).getD k 0) (s := xn % 32) (by omega) (by omega) (by show _ ≤ 64; omega))) (sV (evConv (((((((dr_3).drop (xn / 32)).getD k 0) / 2 ^ (xn % 32)) % 4294967296 : Nat) : Int)) Tryz.underlying100 Tryz.underlying26 rfl (wU32m (by omega))) (sV (evIx k Tryz.underlying23 sz26 rfl rfl k) (sO (oStore1 rfl rfl rfl sz26 hB39 (by exact lq) (fun w68 hU69 hz70 hB71 => ?_))))))))))))))))
          replace hB71 : Blk w68 g20 26 (((P ++ [((((dr_3).drop (xn / 32)).getD k 0) / 2 ^ (xn % 32)) % 4294967296]) ++ List.replicate ((nr_3 - (xn / 32)) - (k + 1)) 0).map u32) := by rw [← (fill_set2 hP (by omega) : (P ++ List.replicate ((nr_3 - (xn / 32)) - k) 0).set k (((((dr_3).drop (xn / 32)).getD k 0) / 2 ^ (xn % 32)) % 4294967296) = (P ++ [((((dr_3).drop (xn / 32)).getD k 0) / 2 ^ (xn % 32)) % 4294967296]) ++ List.replicate ((nr_3 - (xn / 32)) - (k + 1)) 0), List.map_set]; exact hB71
          refine sDone (bN (xN (hK52 _ _ (wp_region_lit (sV (evAdd (((k : Int)) + 1) rfl rfl wI) (sMi rfl (sDone ?_)))))))
          have h72 := (h54.frmB hU69 q3)
          refine again ((nr_3 - (xn / 32)) - (k + 1)) (by omega) ⟨(k + 1), (P ++ [((((dr_3).drop (xn / 32)).getD k 0) / 2 ^ (xn % 32)) % 4294967296]), rfl, rfl, rfl, rfl, rfl, rfl, cI, (hF38.trans hU69), ?_, ?_, ?_, ?_, ?_⟩
          · exact hB71
          · omega
          · simp [hP]
          · exact lt_snoc hlt (by omega)
          · exact shr_step h72.2 (by omega) hw hP (by rw [getD_ge (ds := (dr_3).drop (xn / 32)) (n := (nr_3 - (xn / 32))) (by exact lq) (k + 1) (by omega), Nat.zero_mul, Nat.add_zero])
      · refine sV (evLss false rfl rfl (dF hc50)) (sK hK49 (wp_seq_k fun K73 hK73 => cF rfl (wp_exit (xE (xE (bE (xN (hK27 _ _ (rS fun K74 hK74 => sMs rfl ?_)))))))))
        have h75 : NatR w31 (fun b => b = g20) (some ⟨g20, 0, none⟩) (nr_3 - (xn / 32)) (nr_3 - (xn / 32)) (P ++ List.replicate ((nr_3 - (xn / 32)) - k) 0) := NatR.of_blk hB39 rfl (lt_fill hlt) (by exact lq) (by omega) (by unfold CapMax; omega)
        refine sO (oCall rfl call87 (natural_trim h75) rfl ?_)
        rintro _ w77 ⟨Ar_76, nr_76, cr_76, dr_76, rfl, hE78, hr_76, e_76, le_76⟩
        have hz79 := hE78.size
        have ⟨lr_76, kr_76, mr_76⟩ := hr_76.lkm
        refine sAs rfl (sK hK74 (wp_ret (ret1 (.slice Ar_76 nr_76 cr_76) Tryz.results146 (resT rfl) ?_)))
        have hR81 := ((hE5.trans hE23).rx hF38).xr hE78
        exact ⟨Ar_76, nr_76, cr_76, dr_76, rfl, (Frm.mono hR81 q4), (NatR.sub hr_76 q5), (by rw [e_76, val_trim, shr_end (n := xn) hr_3.2 rfl hw (by simp; omega) (by omega), e_3, val_trim]), (by rw [e_76]; exact canon_trim _ _), (by omega)⟩
end Go.Proofs.YtneolcopompkaaaGreatDoor
